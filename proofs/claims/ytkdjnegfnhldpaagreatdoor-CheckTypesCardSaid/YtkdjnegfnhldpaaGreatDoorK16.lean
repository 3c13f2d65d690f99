/- Part 16. -/
import Derived.Test.YtkdjnegfnhldpaaGreatDoorK13
import Derived.Test.YtkdjnegfnhldpaaGreatDoorK15
set_option linter.unusedVariables false
set_option maxRecDepth 100000
set_option linter.unusedSimpArgs false
set_option maxHeartbeats 40000000
set_option autoImplicit true
set_option relaxedAutoImplicit true
namespace Go.Proofs.YtkdjnegfnhldpaaGreatDoor
open Go.Proofs.Tryz Go.RowKit
theorem X1(h:Id w S a p n c l)(hb:Below w.heap.size w W)(hs:w.heap.size+2<=W.heap.size):Id W (Sn w S) a p n c l:=⟨LA.below h.own hb,h.small,Io h.res hb,fun b hb=>.inr (by omega),fun b hb=>.inl ⟨CW _ h.own.ty b hb,h.ty b hb⟩,h.few,h.sum,h.good⟩
theorem Jv(h:Id w S a p n c l)(hk:a.kind=11\/a.kind=12\/a.kind=13\/a.kind=16\/a.kind=17)(HB:∀W,Id W (Sn w S) a p n c l->Calls prog 144 #[DP a,.slice p n c] W (Gm W (Sn w S) (Fq a.plain (Em l)))):Calls prog 99 #[DP a,.slice p n c] w (Gm w S (Dl a.plain (Em l))):=by
 have HX:=AF (Fx w a);have HH:=AF h;have py:=AF HB;clear HB;have n3:a.kind≠3:=by omega
 have n4:a.kind≠4:=by omega
 have n5:a.kind≠5:=by omega
 have n6:a.kind≠6:=by omega
 have n7:a.kind≠7:=by omega
 have n8:a.kind≠8:=by omega
 have n10:a.kind≠10:=by omega
 have n9:a.kind≠9:=by omega
 have n14:a.kind≠14:=by omega
 have n15:a.kind≠15:=by omega
 have n1:a.kind≠1:=by omega
 have cI:Hd (Dl a.plain (Em l)=Fq a.plain (Em l)):=by show _=_;unfold Dl;simp [show a.plain.kind=a.kind from rfl,n3,n4,n5,n6,n7,n8,n10,n9,n14,n15,n1]
 rw [cI.o];clear cI;revert py;generalize Fq a.plain (Em l)=R;intro py;have e3:(a.kind==3)=false:=by simp [n3]
 have e4:(a.kind==4)=false:=by simp [n4]
 have e5:(a.kind==5)=false:=by simp [n5]
 have e6:(a.kind==6)=false:=by simp [n6]
 have e7:(a.kind==7)=false:=by simp [n7]
 have e8:(a.kind==8)=false:=by simp [n8]
 have e10:(a.kind==10)=false:=by simp [n10]
 have e9:(a.kind==9)=false:=by simp [n9]
 have e14:(a.kind==14)=false:=by simp [n14]
 have e15:(a.kind==15)=false:=by simp [n15]
 have e1:(a.kind==1)=false:=by simp [n1]
 have bg:=HX.o.box.c 0 _ rfl;clear h hk n3 n4 n5 n6 n7 n8 n10 n9 n14 n15 n1;rcases R with⟨r1,r2⟩|r
 ·go_enter func99,ntmps99;go_upto_region 2 with fail;clear bg e3 e4 e5 e6 e7 e8 e10 e9 e14 e15 e1;generalize (w.alloc (Bt a)).alloc (.cells #[.int .u8 0,.int .i64 0,.slice none 0 0,.slice none 0 0,.slice none 0 0] 81)=W1 at *
  go_wp2_with (refine lw HX.o.box.blk underlying31 ?_);go_at_call 144;refine(py.o _ (X1 HH.o HX.o.below HX.o.size)).mono ?_;rintro e W9 ⟨hr,hb⟩;subst hr;exact⟨rfl,rfl,(HX.o.step hb).below⟩
 ·go_enter func99,ntmps99;go_upto_region 2 with fail;clear bg e3 e4 e5 e6 e7 e8 e10 e9 e14 e15 e1;generalize (w.alloc (Bt a)).alloc (.cells #[.int .u8 0,.int .i64 0,.slice none 0 0,.slice none 0 0,.slice none 0 0] 81)=W1 at *
  go_wp2_with (refine lw HX.o.box.blk underlying31 ?_);go_at_call 144;refine(py.o _ (X1 HH.o HX.o.below HX.o.size)).mono ?_;rintro e W9 ⟨hr,hb⟩;obtain⟨y,rfl,gP,hy⟩:=hr;have aY:=AF (HX.o.step hb);have HY:=AF hy;have jR:=AF gP;clear hy gP HX;go_wp2_with (refine Ip rfl _ _ _ rfl aY.o (FV y) (by rfl) (by rfl) (by kernel_rfl) rfl (by simp [Value.oneCell']) ?_);refine br (aY.o.heap _) underlying81 ?_;exact Hy aY.o HH.o.new HY.o jR.o
section
variable {w:World} {S:Nat->Prop} {a:AH} {p:Option Addr} {n c:Nat} {l:List RV}
theorem ZAv(h:Id w S a p n c l)(hx:l[0]?=some x):∃b o,p=some ⟨b,o,none⟩:=by obtain⟨b,o,hp,_⟩:=h.res.row.row.elem hx;exact⟨b,o,hp⟩
theorem rl1(h:Id w S a p n c l)(hl:l.length=1):∃b o x,p=some ⟨b,o,none⟩/\n=1/\l=[x]:=by
 match l,h,hl with
 |[x],h,_=>obtain⟨b,o,hp⟩:=ZAv h (x:=x) rfl;exact⟨b,o,x,hp,h.res.row.len.symm,rfl⟩
theorem rl2(h:Id w S a p n c l)(hl:l.length=2):∃b o x y,p=some ⟨b,o,none⟩/\n=2/\l=[x,y]:=by
 match l,h,hl with
 |[x,y],h,_=>obtain⟨b,o,hp⟩:=ZAv h (x:=x) rfl;exact⟨b,o,x,y,hp,h.res.row.len.symm,rfl⟩
theorem rl3(h:Id w S a p n c l)(hl:l.length=3):∃b o x y z,p=some ⟨b,o,none⟩/\n=3/\l=[x,y,z]:=by
 match l,h,hl with
 |[x,y,z],h,_=>obtain⟨b,o,hp⟩:=ZAv h (x:=x) rfl;exact⟨b,o,x,y,z,hp,h.res.row.len.symm,rfl⟩
theorem ZA6(h:Id w S a p n c l)(hg:IF a.plain l.length)(h2:a.kind≠2)(a7:a.kind≠18):Calls prog 99 #[DP a,.slice p n c] w (Gm w S (Dl a.plain (Em l))):=by
 have g1:1<=a.kind:=hg.k1;have g2:a.kind<=18:=hg.k18;have gk:DU (if a.kind=17 then 4 else if a.kind=18 then 1 else a.kind)=l.length:=hg.kids;have hc:a.kind=1\/a.kind=3\/a.kind=4\/a.kind=5\/a.kind=6\/a.kind=7\/a.kind=8\/a.kind=9\/a.kind=10\/a.kind=11\/a.kind=12\/a.kind=13\/a.kind=14\/a.kind=15\/a.kind=16\/a.kind=17:=by omega
 rcases hc with k|k|k|k|k|k|k|k|k|k|k|k|k|k|k|k
 ·exact ZBB h k
 ·obtain⟨b,o,x,y,rfl,rfl,rfl⟩:=rl2 h (by rw [k] at gk;simp [DU] at gk;omega);exact ZA h k
 ·obtain⟨b,o,x,rfl,rfl,rfl⟩:=rl1 h (by rw [k] at gk;simp [DU] at gk;omega);exact ZA8 h k
 ·obtain⟨b,o,x,rfl,rfl,rfl⟩:=rl1 h (by rw [k] at gk;simp [DU] at gk;omega);exact ZBE h k
 ·obtain⟨b,o,x,rfl,rfl,rfl⟩:=rl1 h (by rw [k] at gk;simp [DU] at gk;omega);exact ZBC h k
 ·obtain⟨b,o,x,rfl,rfl,rfl⟩:=rl1 h (by rw [k] at gk;simp [DU] at gk;omega);exact ZA9 h k
 ·obtain⟨b,o,x,y,rfl,rfl,rfl⟩:=rl2 h (by rw [k] at gk;simp [DU] at gk;omega);exact ZBD h k
 ·exact ZCW h k
 ·obtain⟨b,o,x,y,rfl,rfl,rfl⟩:=rl2 h (by rw [k] at gk;simp [DU] at gk;omega);exact ZA7 h k
 ·obtain⟨b,o,x,rfl,rfl,rfl⟩:=rl1 h (by rw [k] at gk;simp [DU] at gk;omega);exact Jv h (by omega) fun W hW=>Zt hW k
 ·obtain⟨b,o,x,y,rfl,rfl,rfl⟩:=rl2 h (by rw [k] at gk;simp [DU] at gk;omega);exact Jv h (by omega) fun W hW=>YF hW k
 ·obtain⟨b,o,x,y,rfl,rfl,rfl⟩:=rl2 h (by rw [k] at gk;simp [DU] at gk;omega);exact Jv h (by omega) fun W hW=>TJ hW k
 ·obtain⟨b,o,x,y,z,rfl,rfl,rfl⟩:=rl3 h (by rw [k] at gk;simp [DU] at gk;omega);exact ZBA h k
 ·exact XG h k
 ·obtain⟨b,o,x,y,rfl,rfl,rfl⟩:=rl2 h (by rw [k] at gk;simp [DU] at gk;omega);exact Jv h (by omega) fun W hW=>TI hW k
 ·obtain⟨b,o,x,rfl,rfl,rfl⟩:=rl1 h (by rw [k] at gk;simp [DU] at gk;omega);exact Jv h (by omega) fun W hW=>TK hW k
end
theorem WW(h:IE w0 w S (.node a l) p q n c m mc env rhos)(hu:GZ a.plain rhos=true)(h2:a.kind≠2)(a7:a.kind≠18)(ih:∀t∈l,S8 w0 t):Calls prog 63 #[.agg #[.slice p n c,.slice q m mc],DP a] w (Gm w S (Fr (Gg env) rhos a.plain (l.map PA.er))):=by
 have HX:=AF (KE w a (.slice p n c) (.slice q m mc));have HC:=AF h;have HN:=AF (Gh h.lies);have ca:GP a:=h.small a (by rw [Ad.nodes_node];exact BL);have dg:=AF ca;have j4:m<=900000:=by have:=h.hm;omega
 have lR:n<=900000:=by have:=h.hn;omega
 have ku:=AF (LA.below (Gh h.lies).own (h.old.trans (HX.o.below.mono h.old.size)));clear ca;have HU:=AF hu;have dr:=AF ih;have H2:=AF h2;have vZ:=AF a7;have HR:Hd (Fr (Gg env) rhos a.plain (l.map PA.er)=match J0 (Gg env) rhos a.plain 0 [] (l.map PA.er) with|.error e=>.error e|.ok ks=>Dl a.plain ks):=by show _=_;unfold Fr;rw [hu];simp [show a.plain.kind=a.kind from rfl,h2,a7,EB];try rfl
 have e2:(a.kind==2)=false:=by simp [h2]
 have e18:(a.kind==18)=false:=by simp [a7]
 have cu:l.length=a.kn:=(Gh h.lies).kids.len;have ai:a.kn<=3:=by have hg:=h.good;rw [PA.er_node] at hg;have h1:=hg.head.kids;have h3:=U4 (if a.plain.kind=17 then 4 else if a.plain.kind=18 then 1 else a.plain.kind);rw [Ba] at h1;omega
 have cD:=AF cu;clear hu h h2 a7 cu;go_enter func63,ntmps63;go_upto_region 1 with fail;generalize (((w.alloc (.cells #[.slice p n c,.slice q m mc] 84)).alloc (Bt a)).alloc (.cells #[.int .u8 0,.int .i64 0,.slice none 0 0,.slice none 0 0,.slice none 0 0] 81))=W1 at *
 go_upto_region 2 with(first
  |(refine lw HX.o.b.b0 underlying84 ?_)
  |(refine lw HX.o.b.b1.blk underlying31 ?_)
  |(go_at_call 95;refine(Fy ku.o dg.o p n c (HC.o.rhosA.below HX.o.below) j4).mono ?_;rintro e w2 ⟨hr,hb⟩;rw [HU.o] at hr;obtain rfl:=hr.1 rfl;have aQ:=AF (HX.o.step hb);clear hr))
 have c0:=aQ.o.b.b1.c 0 _ rfl;go_upto_region 11 with fail;clear c0;clear e2 e18;have c18:=aQ.o.b.b1.c 18 _ rfl;obtain⟨KP,rx⟩:∃KP,a.kp=KP:=⟨_,rfl⟩;have tP:=AF rx;rw [rx] at c18;clear rx;go_wp2_with fail;clear c18;go_loopw [7,8,9,45] (fun s7 _ _ s45 wr=>∃(k:Nat) (rs:List RV),k<=a.kn/\s45=.int .i64 k/\Ix w S a l (.slice p n c) (.slice q m mc) (Gg env) rhos s7 k rs wr) (fun _ _ _ i _=>a.kn-(intOf i).toNat)
 case atStart=>exact⟨0,[],BM _,rfl,U5 aQ.o⟩
 case round=>
  obtain⟨k,rs,hk,rfl,pL⟩:=hrel;obtain⟨p7,c7,rfl,_,_,_⟩:=pL.row;have HK:=AF pL;clear pL aQ;by_cases aG:k<a.kn
  ·have ry:=(HN.o.rowT.below (HC.o.old.trans (HK.o.nd.below.mono HC.o.old.size)));obtain⟨x,hx⟩:=ry.at (j:=k) aG;obtain⟨b,o,bV,bB,am⟩:=ry.kid hx;rw [tP.o] at bV;subst bV;have iW:=AF hx;have dc:=AF am;have td:=AF (dr.o x (AE hx));have cw:=AF (AG wr (.cells #[.int .u8 0,.int .u8 0,.int .i64 0,.int .i64 0,.string ⟨#[]⟩,.string ⟨#[]⟩,.string ⟨#[]⟩,.int .i64 0,.slice none 0 0,.slice none 0 0,.int .u8 0,.int .i64 0,.slice none 0 0,.slice none 0 0,.int .u8 0,.int .i64 0,.slice none 0 0,.slice none 0 0,.slice none 0 0] 31));clear ry hx bB am
   go_upto_region 14 with(first
    |(refine lm (FS x.head) dc.o.c underlying31 ?_)
    |(refine Ap rfl 31 _ _ rfl wr.heap.size (FS x.head).toArray rfl rfl 31 _ cw.o (by kernel_rfl) rfl (Bl (H8 x.head)) ?_;rw [Av]))
   have gi:Hd (V5 w a (.slice p n c) (.slice q m mc) wr.heap.size x.head (wr.alloc (Bt x.head))):=⟨HK.o.nd.alloc _,C8 wr x.head⟩;have nF:=AF (HK.o.below ((AA wr.heap.size wr).alloc (AB _) (Bt x.head)));obtain⟨g,hg⟩:∃g,wr.heap.size=g:=⟨_,rfl⟩;have wD:Hd (∀b',(Value.slice p7 k c7).ownBlock=some b'->w.heap.size+3<=b'/\b'<g):=fun b' e=>by obtain⟨_,_,_,_,_,hh⟩:=HK.o.row;rw [<-hg];exact hh b' e
   rw [show (wr.alloc (.cells (FS x.head).toArray 31))=wr.alloc (Bt x.head) from rfl];rw [hg] at gi ⊢;generalize (wr.alloc (Bt x.head))=W2 at *
   clear hg cw dc HK;have gS:=AF (nF.o.below (At W2));clear nF;cases lA:chk (Ck (Gg env) a.plain k (Em rs)) (DM rhos a.plain k) (PA.er x) with
   |error er=>
    obtain⟨er1,er2⟩:=er;have iE:=AF lA;have jK:Hd (Fr (Gg env) rhos a.plain (l.map PA.er)=.error (er1,er2)):=by show _=_;rw [HR.o,gS.o.stop iW.o lA]
    clear lA HR;refine rg (fun W'=>V5 w a (.slice p n c) (.slice q m mc) g x.head W') (gi.o.drew) fun aA=>?_;refine tp 0 50 ?_;refine tm 1 51 [.slice p n c,.slice q m mc] 84 w.heap.size 0 (fun W' aB=>aB.nd.b.r0) underlying84 ?_;refine ta 2 52 a (w.heap.size+1) 0 (fun W' aB=>aB.nd.b.b1.range) ?_;refine tp 3 53 ?_;refine tp 4 54 ?_;refine ta 6 56 x.head g 0 (fun W' aB=>aB.kid.range) ?_;refine tr 5 55 fun K hK=>?_;go_simp;go_at_call 98;obtain⟨_,_,pq,cF,kZ,lV⟩:=gS.o.row;cases pq;refine(SV k (ZAD HC.o.envA aA.nd.below) (HC.o.rhosA.below aA.nd.below) (LA.below HN.o.own (HC.o.old.trans (aA.nd.below.mono HC.o.old.size))) HN.o.own (Tz aA.nd.size (fun b' e=>(lV b' e).2)) (fun b' ab=>.inl ⟨Ak (CW _ HN.o.own.ty b' ab) HC.o.old.size,HC.o.s0 b' (CW _ HN.o.own.ty b' ab)⟩) lR j4 dg.o.rhos cF (fun _ e=>by rw [kZ,e])).mono ?_;rintro e w3 ⟨p',n',c',env',q',m',c'',rfl,oW,jy,pb,lP,pQ,hb⟩;have aL:=AF hb;have qA:=AF (HC.o.kid iW.o gS.o hb oW jy pb lP pQ);have fp:=AF jy;clear cF kZ lV oW jy pb lP pQ;try go_wp2_with fail
    refine tn hK (aA.step hb) ?_;clear aA hK K;intro aA;refine tr 7 57 fun K hK=>?_;go_simp;go_at_call 38;refine(td.o _ _ _ _ _ _ _ _ _ _ qA.o).mono ?_;rw [fp.o,iE.o];rintro e w4 ⟨hr,hb⟩;subst hr;exact⟨rfl,by rw [jK.o],(aA.step hb).nd.below⟩
   |ok r=>
    have iE:=AF lA;clear lA;refine rg (fun W'=>V5 w a (.slice p n c) (.slice q m mc) g x.head W') (gi.o.drew) fun aA=>?_;refine tp 0 50 ?_;refine tm 1 51 [.slice p n c,.slice q m mc] 84 w.heap.size 0 (fun W' aB=>aB.nd.b.r0) underlying84 ?_;refine ta 2 52 a (w.heap.size+1) 0 (fun W' aB=>aB.nd.b.b1.range) ?_;refine tp 3 53 ?_;refine tp 4 54 ?_;refine ta 6 56 x.head g 0 (fun W' aB=>aB.kid.range) ?_;refine tr 5 55 fun K hK=>?_;go_simp;go_at_call 98;obtain⟨_,_,pq,cF,kZ,lV⟩:=gS.o.row;cases pq;refine(SV k (ZAD HC.o.envA aA.nd.below) (HC.o.rhosA.below aA.nd.below) (LA.below HN.o.own (HC.o.old.trans (aA.nd.below.mono HC.o.old.size))) HN.o.own (Tz aA.nd.size (fun b' e=>(lV b' e).2)) (fun b' ab=>.inl ⟨Ak (CW _ HN.o.own.ty b' ab) HC.o.old.size,HC.o.s0 b' (CW _ HN.o.own.ty b' ab)⟩) lR j4 dg.o.rhos cF (fun _ e=>by rw [kZ,e])).mono ?_;rintro e w3 ⟨p',n',c',env',q',m',c'',rfl,oW,jy,pb,lP,pQ,hb⟩;have aL:=AF hb;have qA:=AF (HC.o.kid iW.o gS.o hb oW jy pb lP pQ);have fp:=AF jy;clear cF kZ lV oW jy pb lP pQ;try go_wp2_with fail
    refine tn hK (aA.step hb) ?_;clear aA hK K;intro aA;refine tr 7 57 fun K hK=>?_;go_simp;go_at_call 38;refine(td.o _ _ _ _ _ _ _ _ _ _ qA.o).mono ?_;have bM:=ZAU qA.o (r:=r) (by rw [fp.o];exact iE.o);have vu:=AF bM;rw [fp.o,iE.o];rintro e w4 ⟨hr,hb⟩;obtain⟨z,rfl,vX,hz⟩:=hr;have HZ:=AF hz;have wh:=AF vX;have rH:=AF (((gS.o.below aL.o).below hb).below ((AA w4.heap.size w4).alloc (AB _) (.cells #[.int .u8 z.ty.head.kind,.int .i64 z.ty.head.rho,.slice z.ty.head.ep z.ty.head.en z.ty.head.ec,.slice z.ty.head.kp z.ty.head.kn z.ty.head.kc,.slice z.ep z.en z.ec] 81)));have we:=AF (HZ.o.below ((AA w4.heap.size w4).alloc (AB _) (.cells #[.int .u8 z.ty.head.kind,.int .i64 z.ty.head.rho,.slice z.ty.head.ep z.ty.head.en z.ty.head.ec,.slice z.ty.head.kp z.ty.head.kn z.ty.head.kc,.slice z.ep z.en z.ec] 81)));have wL:=AF (Bo Ke (by omega) w4 81 [z] 1 #[.int .u8 z.ty.head.kind,.int .i64 z.ty.head.rho,.slice z.ty.head.ep z.ty.head.en z.ty.head.ec,.slice z.ty.head.kp z.ty.head.kn z.ty.head.kc,.slice z.ep z.en z.ec] rfl rfl (by decide));clear bM hz vX;try go_wp2_with fail
    refine tn hK (aA.step hb) ?_;clear aA hK K;intro aA;refine tr 8 58 fun K hK=>?_;go_simp;refine tn hK (aA.alloc _) ?_;clear aA hK K;intro aA;refine tr 9 59 fun K hK=>?_;have jk:=rH.o.nd.size;refine CB (by rfl) _ _ 148 (by rfl) (w.heap.size+3) 81 _ 5 88 underlying148 ZDC rfl (by decide) Fm Ke YW [z] rs k _ rH.o.own _ 1 _ (by rfl) (by rfl) rfl (by intro h;cases h) wL.o.row (by omega) (by omega) jk ?_;intro v6 w6 cS fj uW;have qG:=AF (rH.o.push iW.o we.o wh.o iE.o vu.o cS fj uW);clear cS uW jk;refine tn hK (aA.grown fj wD.o) ?_;clear aA hK K;intro aA;refine tp 10 7 ?_;refine dn ?_;clear aA;go_wp2_with fail;go_roundw
    case rel=>exact⟨k+1,rs++[z],by omega,by go_num,qG.o⟩
    case measure=>simp [intOf];omega
  ·have sT:k=l.length:=by have:=cD.o;omega
   subst sT;obtain⟨_,_,pq,cF,kZ,lV⟩:=HK.o.row;cases pq;have kL:=AF cF;have tK:=AF HK.o.full;have pP:l.length<=3:=by have:=cD.o;omega
   have wJ:Hd (Id wr (Sx w S (.slice p7 l.length c7)) a p7 l.length c7 rs):=
    ⟨LA.below HN.o.own (HC.o.old.trans (HK.o.nd.below.mono HC.o.old.size)),dg.o,kL.o,Tz HK.o.nd.size (fun b' e=>(lV b' e).2),fun b' ab=>.inl ⟨Ak (CW _ HN.o.own.ty b' ab) HC.o.old.size,HC.o.s0 b' (CW _ HN.o.own.ty b' ab)⟩,by omega,
     (by
      have h1:=HK.o.sum;have h2:=HC.o.hs;rw [Ad.size_node] at h2;omega),
     fun r hr=>by
      obtain⟨j,hj⟩:=Dc hr;have j0:j<l.length:=by rw [<-kZ];exact DI hj
      have hg:=HK.o.acc j _ r (AI j0) hj;refine⟨hg.1.may,hg.1.effs,?_⟩;have h1:=hg.2;rw [show r.er.1=PT.er r.ty from rfl,MN] at h1;omega⟩
   have tM:Hd (IF a.plain rs.length):=by have hg:=HC.o.good;rw [PA.er_node] at hg;have h1:=hg.head;rw [Ba] at h1;show IF _ _;rw [kZ];exact h1
   have bQ:Hd (Fr (Gg env) rhos a.plain (l.map PA.er)=Dl a.plain (Em rs)):=by show _=_;rw [HR.o,tK.o]
   clear HR tK cF kZ lV pP;have cI:=AF (ZA6 wJ.o tM.o H2.o vZ.o);revert cI bQ;generalize Dl a.plain (Em rs)=R;intro bQ cI;go_upto_region 16 with fail;rcases R with⟨r1,r2⟩|r
   ·go_wp2_with (first
     |(refine lw HK.o.nd.b.b1.blk underlying31 ?_))
    go_at_call 99;refine cI.o.mono ?_;rintro e W9 ⟨hr,hb⟩;subst hr;exact⟨rfl,by rw [bQ.o],(HK.o.nd.step hb).below⟩
   ·go_wp2_with (first
     |(refine lw HK.o.nd.b.b1.blk underlying31 ?_)
     |(go_at_call 99;refine cI.o.mono ?_;rintro e W9 ⟨hr,hb⟩;obtain⟨y,rfl,gP,hy⟩:=hr;have aY:=AF (HK.o.nd.step hb);have HY:=AF hy;have jR:=AF gP;clear hy gP)
     |(refine Hu rfl _ _ _ rfl aY.o (FV y) (by rfl) (by rfl) (by kernel_rfl) rfl (by simp [Value.oneCell']) ?_))
    refine br (aY.o.heap _) underlying81 ?_;rw [bQ.o];exact Qs aY.o HC.o.new (HY.o.weak (fun b' _ hs=>hs.imp id And.left)) jR.o
theorem ZB2(h:IE w0 w S (.node a l) p q n c m mc env rhos)(eA:IK env a.name=some b)(ef:b.fn=some (f,gf)):Calls prog 97 #[.agg #[.slice p n c,.slice q m mc],DP a] w (Gm w S (Hk (Gg env) a.plain)):=by
 have HX:=AF (KE w a (.slice p n c) (.slice q m mc));have HC:=AF h;have HN:=AF (Gh h.lies);have ca:GP a:=h.small a (by rw [Ad.nodes_node];exact BL);have dg:=AF ca;have lR:n<=900000:=by have:=h.hn;omega
 clear ca h;have HF:Hd (∀e,Gd env a.name e->e=.returned (.tuple #[Ot b,.bool true])):=fun e he=>by unfold Gd at he;rw [eA] at he;exact he
 have fI:b∈env:=M5 eA;have va:=AF fI;have iO:=AF (HC.o.envA.each b fI);have ll:=AF ef;obtain⟨uX,nV,lD⟩:=iO.o.fn f gf ef;have eC:Ld b.er:=(HC.o.genv b.er (Au fI)).1;obtain⟨nf,uZ,_,_⟩:=eC.fn f.plain (by unfold BV.er;rw [ef];rfl);have nE:=AF uZ;have lo:=AF nV;have kl:Hd (∀W',Below w.heap.size w W'->La W' gf 0 f):=fun W' hb=>uX.below hb lD;obtain⟨u,hu⟩:∃u,decide (f.rhos.length=a.rhos.length)=u:=⟨_,rfl⟩;obtain⟨v,hv⟩:∃v,EP (RY f.rhos a.rhos f.eff) a.eff=v:=⟨_,rfl⟩;have HU:=AF hu;have HV:=AF hv;have cu:((f.rn:Int)==(a.rn:Int))=u:=by rw [<-hu,<-nV.rhos.len,<-HN.o.own.rhos.len];rw [Bu];simp only [A3,Ai];exact⟨fun h=>by omega,fun h=>by omega⟩
 have HR:Hd (Hk (Gg env) a.plain=EB u a.plain 5 (EB v a.plain 6 (.ok (N9 4 a.rho a.eff [Fi f.rhos a.rhos (PT.er f.ty),Fi f.rhos a.rhos (PT.er f.res)],GV [Hw f.rho,Fu a.rho])))):=by show _=_;unfold Hk;rw [show a.plain.name=a.name from rfl,Kg,eA,<-hu,<-hv];show (match (BV.er b).fn with|none=>_|some f=>_)=_;unfold BV.er;rw [ef];rfl
 rw [HR.o];clear HR ef uX nV lD eC uZ hu hv;clear eA fI;go_enter func97,ntmps97;go_upto_region 1 with fail;generalize (((w.alloc (.cells #[.slice p n c,.slice q m mc] 84)).alloc (Bt a)).alloc (.cells #[.int .u8 0,.int .i64 0,.slice none 0 0,.slice none 0 0,.slice none 0 0] 81))=W1 at *
 have c4:=HX.o.b.b1.c 4 _ rfl
 go_upto_region 2 with(first
  |(refine lw HX.o.b.b0 underlying84 ?_)
  |(go_at_call 96;refine(Gx (HC.o.envA.row.below HX.o.below) (by omega) (.slice q m mc) a.name).mono ?_;rintro e w3 ⟨hf,hb⟩;obtain rfl:=HF.o _ hf;have bC:=AF (HX.o.step hb);have cw:=AF (AG w3 (.cells #[.string ⟨#[]⟩,.int .u8 0,.int .i64 0,.slice none 0 0,.slice none 0 0,.pointer none] 145));clear hf hb)
  |(refine sw #[.string b.name,.int .u8 b.ty.head.kind,.int .i64 b.ty.head.rho,.slice b.ty.head.ep b.ty.head.en b.ty.head.ec,.slice b.ty.head.kp b.ty.head.kn b.ty.head.kc,.pointer (b.fn.map (fun x=>⟨x.2,0,none⟩))] cw.o ?_;rw [Av]))
 clear c4;have cy:=AF (bC.o.alloc (.cells #[.string b.name,.int .u8 b.ty.head.kind,.int .i64 b.ty.head.rho,.slice b.ty.head.ep b.ty.head.en b.ty.head.ec,.slice b.ty.head.kp b.ty.head.kn b.ty.head.kc,.pointer (b.fn.map (fun x=>⟨x.2,0,none⟩))] 145));have fP:=AF (AG w3 (.cells #[.string b.name,.int .u8 b.ty.head.kind,.int .i64 b.ty.head.rho,.slice b.ty.head.ep b.ty.head.en b.ty.head.ec,.slice b.ty.head.kp b.ty.head.kn b.ty.head.kc,.pointer (b.fn.map (fun x=>⟨x.2,0,none⟩))] 145));obtain⟨g,hg⟩:∃g,w3.heap.size=g:=⟨_,rfl⟩;rw [hg] at fP ⊢;generalize (w3.alloc (.cells #[.string b.name,.int .u8 b.ty.head.kind,.int .i64 b.ty.head.rho,.slice b.ty.head.ep b.ty.head.en b.ty.head.ec,.slice b.ty.head.kp b.ty.head.kn b.ty.head.kc,.pointer (b.fn.map (fun x=>⟨x.2,0,none⟩))] 145))=W4 at *
 clear hg cw bC
 go_upto_region 3 with(first
  |(refine lw cy.o.b.b1.blk underlying31 ?_)
  |(go_at_call 64;refine(Dw a 4 _).mono ?_;rintro e w5 ⟨rfl,hb⟩;have du:=AF (cy.o.step hb);have gR:=AF ((hb.block _ (AO.1 fP.o).1).trans fP.o);clear hb))
 clear cy fP;have oJ:Hd (∀W',Below w5.heap.size w5 W'->W'.cell? ⟨g,5,none⟩=some (.pointer (some ⟨gf,0,none⟩))):=fun W' hb=>by rw [AD ((hb.block _ (AO.1 gR.o).1).trans gR.o)];show some (Value.pointer (b.fn.map _))=_;rw [ll.o];rfl
 have jq:Hd (∀W',Below w.heap.size w W'->W'.cell? ⟨gf,7,none⟩=some (.int .i64 f.rho)):=fun W' hb=>by simpa using(kl.o W' hb).c 7 _ rfl
 have ea:Hd (∀W',Below w.heap.size w W'->W'.cell? ⟨gf,8,none⟩=some (.slice f.rp f.rn f.rc)):=fun W' hb=>by simpa using(kl.o W' hb).c 8 _ rfl
 have jA:Hd (∀W',Below w.heap.size w W'->W'.cell? ⟨gf,9,none⟩=some (.slice f.ep f.en f.ec)):=fun W' hb=>by simpa using(kl.o W' hb).c 9 _ rfl
 have vk:Hd (∀W',Below w.heap.size w W'->W'.rangeAt gf 10 [.int .u8 f.ty.head.kind,.int .i64 f.ty.head.rho,.slice f.ty.head.ep f.ty.head.en f.ty.head.ec,.slice f.ty.head.kp f.ty.head.kn f.ty.head.kc]):=fun W' hb j v hj=>by have h1:=(kl.o W' hb).c (10+j) v (by match j,hj with|0,hj=>exact hj|1,hj=>exact hj|2,hj=>exact hj|3,hj=>exact hj);rwa [BP] at h1
 have cC:Hd (∀W',Below w.heap.size w W'->W'.rangeAt gf 14 [.int .u8 f.res.head.kind,.int .i64 f.res.head.rho,.slice f.res.head.ep f.res.head.en f.res.head.ec,.slice f.res.head.kp f.res.head.kn f.res.head.kc]):=fun W' hb j v hj=>by have h1:=(kl.o W' hb).c (14+j) v (by match j,hj with|0,hj=>exact hj|1,hj=>exact hj|2,hj=>exact hj|3,hj=>exact hj);rwa [BP] at h1
 refine rg (fun W'=>Below w5.heap.size w5 W') (At w5) fun aA=>?_;refine tp 0 21 ?_;refine tp 1 22 ?_ (hy:=fun w aB=>by(try dsimp only at aB);have q5:=oJ.o _ aB;go_simp;try with_reducible rfl);refine tp 2 23 ?_;refine tp 3 24 ?_;refine LZ 4 25 3 true ?_;refine LZ 5 26 3 true ?_ (hy:=fun w aB=>by(try dsimp only at aB);have q5:=oJ.o _ aB;go_simp;try with_reducible rfl);refine LZ 6 27 3 true ?_;refine LZ 7 28 3 true ?_;refine LZ 8 29 3 true ?_ (hy:=fun w aB=>by(try dsimp only at aB);have q8:=ea.o _ (du.o.step aB).below;go_simp;try with_reducible rfl);refine LZ 9 30 3 true ?_;refine LZ 10 31 3 true ?_;refine LZ 11 32 3 true ?_ (hy:=fun w aB=>by(try dsimp only at aB);have q8:=(du.o.step aB).b.b1.c 8 _ rfl;go_simp;try with_reducible rfl);refine LZ 12 33 3 true ?_;refine LZ 13 34 3 true ?_;refine tp 14 35 ?_;refine ta 15 36 a (w.heap.size+1) 0 (fun W' aB=>(du.o.step aB).b.b1.range) ?_;refine tr 16 37 fun K hK=>?_;go_simp;cases u
 ·go_at_call 64;refine(D3 a 5 _).mono ?_;rintro e w9 ⟨rfl,hb⟩;exact⟨rfl,rfl,du.o.below.trans ((An aA hb).mono du.o.below.size)⟩
 go_at_call 64;refine(Dw a 5 _).mono ?_;rintro e w9 ⟨rfl,hb⟩;try go_wp2_with fail
 refine tn hK (An aA hb) ?_;clear aA hK K;intro aA;refine dn ?_;have gZ:=AF (du.o.step aA);have g5:=oJ.o _ aA
 have na:f.rn<=50:=by
  have h1:f.rhos.length=a.rhos.length:=by simpa using HU.o
  have h2:=lo.o.rhos.len;have h3:=HN.o.own.rhos.len;have h4:=dg.o.rhos;omega
 have tY:=AF na;clear aA cu;go_upto_region 5 with fail;clear g5 na;have o8:f.en<=200:=by have h1:=lo.o.eff.len;have h2:=Ii nE.o.gr;have h3:f.plain.eff=f.eff:=rfl;rw [h3] at h2;omega
 have vo:=AF o8;have fF:Hd (∀W',Below w9.heap.size w9 W'->AH.Own W' f/\AH.Own W' a):=fun W' hb=>have h1:=HC.o.old.trans ((gZ.o.step hb).below.mono HC.o.old.size);⟨LA.below lo.o h1,LA.below HN.o.own h1⟩;clear o8;refine rg (fun W'=>Below w9.heap.size w9 W') (At w9) fun aA=>?_;refine tp 0 40 ?_;refine tp 1 41 ?_;refine tp 2 42 ?_;refine tp 3 43 ?_ (hy:=fun w aB=>by(try dsimp only at aB);have q9:=jA.o _ (gZ.o.step aB).below;go_simp;try with_reducible rfl);refine tp 4 44 ?_;refine tp 5 45 ?_;refine tp 6 46 ?_;refine tp 7 47 ?_ (hy:=fun w aB=>by(try dsimp only at aB);have q8:=ea.o _ (gZ.o.step aB).below;go_simp;try with_reducible rfl);refine tp 8 48 ?_;refine tp 9 49 ?_ (hy:=fun w aB=>by(try dsimp only at aB);have q8:=(gZ.o.step aB).b.b1.c 8 _ rfl;go_simp;try with_reducible rfl);refine tp 11 51 ?_;refine tp 12 52 ?_ (hy:=fun w aB=>by(try dsimp only at aB);have q9:=(gZ.o.step aB).b.b1.c 9 _ rfl;go_simp;try with_reducible rfl);refine ta 14 54 a (w.heap.size+1) 0 (fun W' aB=>(gZ.o.step aB).b.b1.range) ?_;refine tr 10 50 fun K hK=>?_;go_simp;go_at_call 66;refine(PL f.ep f.en f.ec f.eff f.rp f.rn f.rc f.rhos a.rp a.rn a.rc a.rhos _ (fF.o _ aA).1.eff.len (by have:=vo.o;omega) (fF.o _ aA).1.eff.row (fF.o _ aA).1.rhos.len (by have:=tY.o;omega) (fF.o _ aA).1.rhos.row (fF.o _ aA).2.rhos.len (by have:=dg.o.rhos;omega) (fF.o _ aA).2.rhos.row).mono ?_;rintro e w7 ⟨v7,rfl,⟨p7,n7,c7,rfl,ut,uM,iA⟩,hb⟩;have lQ:n7<=200:=by have h1:=Ii (Qd f.rhos a.rhos (l:=f.eff) nE.o.gr);omega
 have iT:=AF ut;have kK:=AF iA;have fq:=AF lQ;clear ut iA uM lQ;try go_wp2_with fail
 refine tn hK (An aA hb) ?_;clear aA hK K;intro aA;refine tr 13 53 fun K hK=>?_;go_simp;go_at_call 135;refine(Gf p7 n7 c7 (RY f.rhos a.rhos f.eff) a.ep a.en a.ec a.eff _ iT.o (by have:=fq.o;omega) kK.o (fF.o _ aA).2.eff.len (fF.o _ aA).2.eff.max (fF.o _ aA).2.eff.row).mono ?_;rw [HV.o];rintro e w8 ⟨rfl,hb⟩;try go_wp2_with fail
 refine tn hK (An aA hb) ?_;clear aA hK K;intro aA;refine tr 15 55 fun K hK=>?_;go_simp;cases v
 ·go_at_call 64;refine(D3 a 6 _).mono ?_;rintro e w10 ⟨rfl,hb⟩;exact⟨rfl,rfl,gZ.o.below.trans ((An aA hb).mono gZ.o.below.size)⟩
 go_at_call 64;refine(Dw a 6 _).mono ?_;rintro e w10 ⟨rfl,hb⟩;try go_wp2_with fail
 refine tn hK (An aA hb) ?_;clear aA hK K;intro aA;refine dn ?_;have dK:=AF (gZ.o.step aA);clear aA fF;have pm:=dK.o.size;have me:Two w0 f.rp f.rn f.rc f.rhos a.rp a.rn a.rc a.rhos:=⟨lo.o.rhos,HN.o.own.rhos,by have:=tY.o;omega,by have:=dg.o.rhos;omega,HN.o.own.rok⟩;have gY:Hd (∀W',Below w10.heap.size w10 W'->Lf w0.heap.size f.rp f.rn f.rc f.rhos a.rp a.rn a.rc a.rhos f.ty W'):=fun W' hb=>NM me f.ty lo.o.ty nE.o.tys.effs (by have h1:=nE.o.tys.size;rw [show f.plain.ty=PT.er f.ty from rfl,MN] at h1;omega) W' (HC.o.old.trans ((dK.o.step hb).below.mono HC.o.old.size));have jM:Hd (∀W',Below w10.heap.size w10 W'->Lf w0.heap.size f.rp f.rn f.rc f.rhos a.rp a.rn a.rc a.rhos f.res W'):=fun W' hb=>NM me f.res lo.o.res nE.o.ress.effs (by have h1:=nE.o.ress.size;rw [show f.plain.res=PT.er f.res from rfl,MN] at h1;omega) W' (HC.o.old.trans ((dK.o.step hb).below.mono HC.o.old.size));have eQ:Hd (Rd w0.heap.size w10.heap.size w10.drew none none f.rhos a.rhos f.ty f.res none none):=ZJ (AB _) (by have:=HC.o.old.size;omega);clear me;go_upto_region 6 with fail;go_cut [8,9] from 8 to 77 (fun s8 s9 wx=>∃(g8 g9:Nat) (y1 y2:PT),s8=.pointer (some ⟨g8,0,none⟩)/\s9=.pointer (some ⟨g9,0,none⟩)/\Sw7 w0.heap.size w10.heap.size wx g8 g9 f.rhos a.rhos f.ty f.res y1 y2/\N8 w a (.slice p n c) (.slice q m mc) wx)
 case first=>
  refine rg (fun W'=>Below w10.heap.size w10 W') (At w10) fun aA=>?_;refine tp 0 56 ?_;refine tp 1 57 ?_;refine tp 2 58 ?_;refine t4 3 59 f.ty gf 10 (fun W' aB=>vk.o _ (dK.o.step aB).below) ?_;refine tp 4 60 ?_;refine tp 5 61 ?_;refine tp 6 62 ?_;refine tp 7 63 ?_ (hy:=fun w aB=>by(try dsimp only at aB);have q8:=ea.o _ (dK.o.step aB).below;go_simp;try with_reducible rfl);refine tp 8 64 ?_;refine tp 9 65 ?_ (hy:=fun w aB=>by(try dsimp only at aB);have q8:=(dK.o.step aB).b.b1.c 8 _ rfl;go_simp;try with_reducible rfl);refine tp 11 67 ?_;refine tp 12 68 ?_;refine tp 13 69 ?_;refine t4 14 70 f.res gf 14 (fun W' aB=>cC.o _ (dK.o.step aB).below) ?_;refine tp 15 71 ?_;refine tp 16 72 ?_;refine tp 17 73 ?_;refine tp 18 74 ?_ (hy:=fun w aB=>by(try dsimp only at aB);have q8:=ea.o _ (dK.o.step aB).below;go_simp;try with_reducible rfl);refine tp 19 75 ?_;refine tp 20 76 ?_ (hy:=fun w aB=>by(try dsimp only at aB);have q8:=(dK.o.step aB).b.b1.c 8 _ rfl;go_simp;try with_reducible rfl);refine A2 (rs:=[10,22,23]) (by kernel_rfl) (by simp) ?_;refine AY (o:=⟨some 66,_,_,_,_,none⟩) rfl (fun K hK=>?_) (AY (o:=⟨some 8,_,_,_,_,none⟩) rfl (fun K hK=>?_) (AY (o:=⟨some 9,_,_,_,_,none⟩) rfl (fun K hK=>?_) Az))
  ·skip;go_simp;go_at_call 39;refine(gY.o _ aA).mono ?_;rintro e w11 ⟨⟨y1,rfl,hl,hs,he⟩,hb⟩;have kE:=AF (eQ.o.call1 hb hl hs he);clear hl hs he;try go_wp2_with fail
   refine tn hK (An aA hb) ?_;clear aA hK K;intro aA;refine A2 (rs:=[21,22,23]) (by kernel_rfl) (by simp) ?_;refine AY (o:=⟨some 77,_,_,_,_,none⟩) rfl (fun K hK=>?_) (AY (o:=⟨some 8,_,_,_,_,none⟩) rfl (fun K hK=>?_) (AY (o:=⟨some 9,_,_,_,_,none⟩) rfl (fun K hK=>?_) Az))
   ·skip;go_simp;go_at_call 39;refine(jM.o _ aA).mono ?_;rintro e w12 ⟨⟨y2,rfl,hl,hs,he⟩,hb⟩;have cb:=AF (kE.o.call2 hb hl hs he);clear hl hs he;try go_wp2_with fail
    refine tn hK (An aA hb) ?_;clear aA hK K;intro aA;refine A2 (rs:=[22,23]) (by kernel_rfl) (by simp) ?_;refine AY (o:=⟨some 8,_,_,_,_,none⟩) rfl (fun K hK=>?_) (AY (o:=⟨some 9,_,_,_,_,none⟩) rfl (fun K hK=>?_) Az)
    ·skip;go_simp;have ci:=AF (cb.o.alloc8 (G:=w12.heap.size) (by simp));refine tn hK (Ay aA _) ?_;clear aA hK K;intro aA;refine tr 23 9 fun K hK=>?_;go_simp;have al:=AF (ci.o.alloc9 (G:=w12.heap.size+1) (by simp));refine tn hK (Ay aA _) ?_;clear aA hK K;intro aA;refine Fo 24 fun K hK=>?_;refine Cb (by rfl) _ _ _ (by rfl) (g:=w12.heap.size) (al.o.h8 _ rfl).2 y1 (by rfl) (by rfl) (by kernel_rfl) ?_;refine tn hK (Cx aA (al.o.h8 _ rfl).1) ?_;clear aA hK K;intro aA;refine Fo 25 fun K hK=>?_;refine Cb (by rfl) _ _ _ (by rfl) (g:=w12.heap.size+1) ((AR _ _ _ _ (fun e=>al.o.ne _ rfl (congrArg some e))).trans (al.o.h9 _ rfl).2) y2 (by rfl) (by rfl) (by kernel_rfl) ?_;refine tn hK (Cx aA (al.o.h9 _ rfl).1) ?_;clear aA hK K;intro aA;refine dn ?_;have dL:=AF (dK.o.step aA);clear aA;go_wp2_with fail;go_meet
     case rel=>exact⟨w12.heap.size,w12.heap.size+1,y1,y2,rfl,rfl,al.o.fin,dL.o⟩
    ·skip;go_simp;have ci:=AF (cb.o.alloc9 (G:=w12.heap.size) (by simp));refine tn hK (Ay aA _) ?_;clear aA hK K;intro aA;refine tr 22 8 fun K hK=>?_;go_simp;have al:=AF (ci.o.alloc8 (G:=w12.heap.size+1) (by simp));refine tn hK (Ay aA _) ?_;clear aA hK K;intro aA;refine Fo 24 fun K hK=>?_;refine Cb (by rfl) _ _ _ (by rfl) (g:=w12.heap.size+1) (al.o.h8 _ rfl).2 y1 (by rfl) (by rfl) (by kernel_rfl) ?_;refine tn hK (Cx aA (al.o.h8 _ rfl).1) ?_;clear aA hK K;intro aA;refine Fo 25 fun K hK=>?_;refine Cb (by rfl) _ _ _ (by rfl) (g:=w12.heap.size) ((AR _ _ _ _ (fun e=>al.o.ne _ rfl (congrArg some e))).trans (al.o.h9 _ rfl).2) y2 (by rfl) (by rfl) (by kernel_rfl) ?_;refine tn hK (Cx aA (al.o.h9 _ rfl).1) ?_;clear aA hK K;intro aA;refine dn ?_;have dL:=AF (dK.o.step aA);clear aA;go_wp2_with fail;go_meet
     case rel=>exact⟨w12.heap.size+1,w12.heap.size,y1,y2,rfl,rfl,al.o.fin,dL.o⟩
   ·skip;go_simp;have cb:=AF (kE.o.alloc8 (G:=w11.heap.size) (by simp));refine tn hK (Ay aA _) ?_;clear aA hK K;intro aA;refine A2 (rs:=[21,23]) (by kernel_rfl) (by simp) ?_;refine AY (o:=⟨some 77,_,_,_,_,none⟩) rfl (fun K hK=>?_) (AY (o:=⟨some 9,_,_,_,_,none⟩) rfl (fun K hK=>?_) Az)
    ·skip;go_simp;go_at_call 39;refine(jM.o _ aA).mono ?_;rintro e w12 ⟨⟨y2,rfl,hl,hs,he⟩,hb⟩;have ci:=AF (cb.o.call2 hb hl hs he);clear hl hs he;try go_wp2_with fail
     refine tn hK (An aA hb) ?_;clear aA hK K;intro aA;refine tr 23 9 fun K hK=>?_;go_simp;have al:=AF (ci.o.alloc9 (G:=w12.heap.size) (by simp));refine tn hK (Ay aA _) ?_;clear aA hK K;intro aA;refine Fo 24 fun K hK=>?_;refine Cb (by rfl) _ _ _ (by rfl) (g:=w11.heap.size) (al.o.h8 _ rfl).2 y1 (by rfl) (by rfl) (by kernel_rfl) ?_;refine tn hK (Cx aA (al.o.h8 _ rfl).1) ?_;clear aA hK K;intro aA;refine Fo 25 fun K hK=>?_;refine Cb (by rfl) _ _ _ (by rfl) (g:=w12.heap.size) ((AR _ _ _ _ (fun e=>al.o.ne _ rfl (congrArg some e))).trans (al.o.h9 _ rfl).2) y2 (by rfl) (by rfl) (by kernel_rfl) ?_;refine tn hK (Cx aA (al.o.h9 _ rfl).1) ?_;clear aA hK K;intro aA;refine dn ?_;have dL:=AF (dK.o.step aA);clear aA;go_wp2_with fail;go_meet
     case rel=>exact⟨w11.heap.size,w12.heap.size,y1,y2,rfl,rfl,al.o.fin,dL.o⟩
    ·skip;go_simp;have ci:=AF (cb.o.alloc9 (G:=w11.heap.size+1) (by simp));refine tn hK (Ay aA _) ?_;clear aA hK K;intro aA;refine tr 21 77 fun K hK=>?_;go_simp;go_at_call 39;refine(jM.o _ aA).mono ?_;rintro e w12 ⟨⟨y2,rfl,hl,hs,he⟩,hb⟩;have al:=AF (ci.o.call2 hb hl hs he);clear hl hs he;try go_wp2_with fail
     refine tn hK (An aA hb) ?_;clear aA hK K;intro aA;refine Fo 24 fun K hK=>?_;refine Cb (by rfl) _ _ _ (by rfl) (g:=w11.heap.size) (al.o.h8 _ rfl).2 y1 (by rfl) (by rfl) (by kernel_rfl) ?_;refine tn hK (Cx aA (al.o.h8 _ rfl).1) ?_;clear aA hK K;intro aA;refine Fo 25 fun K hK=>?_;refine Cb (by rfl) _ _ _ (by rfl) (g:=w11.heap.size+1) ((AR _ _ _ _ (fun e=>al.o.ne _ rfl (congrArg some e))).trans (al.o.h9 _ rfl).2) y2 (by rfl) (by rfl) (by kernel_rfl) ?_;refine tn hK (Cx aA (al.o.h9 _ rfl).1) ?_;clear aA hK K;intro aA;refine dn ?_;have dL:=AF (dK.o.step aA);clear aA;go_wp2_with fail;go_meet
     case rel=>exact⟨w11.heap.size,w11.heap.size+1,y1,y2,rfl,rfl,al.o.fin,dL.o⟩
   ·skip;go_simp;have cb:=AF (kE.o.alloc9 (G:=w11.heap.size) (by simp));refine tn hK (Ay aA _) ?_;clear aA hK K;intro aA;refine A2 (rs:=[21,22]) (by kernel_rfl) (by simp) ?_;refine AY (o:=⟨some 77,_,_,_,_,none⟩) rfl (fun K hK=>?_) (AY (o:=⟨some 8,_,_,_,_,none⟩) rfl (fun K hK=>?_) Az)
    ·skip;go_simp;go_at_call 39;refine(jM.o _ aA).mono ?_;rintro e w12 ⟨⟨y2,rfl,hl,hs,he⟩,hb⟩;have ci:=AF (cb.o.call2 hb hl hs he);clear hl hs he;try go_wp2_with fail
     refine tn hK (An aA hb) ?_;clear aA hK K;intro aA;refine tr 22 8 fun K hK=>?_;go_simp;have al:=AF (ci.o.alloc8 (G:=w12.heap.size) (by simp));refine tn hK (Ay aA _) ?_;clear aA hK K;intro aA;refine Fo 24 fun K hK=>?_;refine Cb (by rfl) _ _ _ (by rfl) (g:=w12.heap.size) (al.o.h8 _ rfl).2 y1 (by rfl) (by rfl) (by kernel_rfl) ?_;refine tn hK (Cx aA (al.o.h8 _ rfl).1) ?_;clear aA hK K;intro aA;refine Fo 25 fun K hK=>?_;refine Cb (by rfl) _ _ _ (by rfl) (g:=w11.heap.size) ((AR _ _ _ _ (fun e=>al.o.ne _ rfl (congrArg some e))).trans (al.o.h9 _ rfl).2) y2 (by rfl) (by rfl) (by kernel_rfl) ?_;refine tn hK (Cx aA (al.o.h9 _ rfl).1) ?_;clear aA hK K;intro aA;refine dn ?_;have dL:=AF (dK.o.step aA);clear aA;go_wp2_with fail;go_meet
     case rel=>exact⟨w12.heap.size,w11.heap.size,y1,y2,rfl,rfl,al.o.fin,dL.o⟩
    ·skip;go_simp;have ci:=AF (cb.o.alloc8 (G:=w11.heap.size+1) (by simp));refine tn hK (Ay aA _) ?_;clear aA hK K;intro aA;refine tr 21 77 fun K hK=>?_;go_simp;go_at_call 39;refine(jM.o _ aA).mono ?_;rintro e w12 ⟨⟨y2,rfl,hl,hs,he⟩,hb⟩;have al:=AF (ci.o.call2 hb hl hs he);clear hl hs he;try go_wp2_with fail
     refine tn hK (An aA hb) ?_;clear aA hK K;intro aA;refine Fo 24 fun K hK=>?_;refine Cb (by rfl) _ _ _ (by rfl) (g:=w11.heap.size+1) (al.o.h8 _ rfl).2 y1 (by rfl) (by rfl) (by kernel_rfl) ?_;refine tn hK (Cx aA (al.o.h8 _ rfl).1) ?_;clear aA hK K;intro aA;refine Fo 25 fun K hK=>?_;refine Cb (by rfl) _ _ _ (by rfl) (g:=w11.heap.size) ((AR _ _ _ _ (fun e=>al.o.ne _ rfl (congrArg some e))).trans (al.o.h9 _ rfl).2) y2 (by rfl) (by rfl) (by kernel_rfl) ?_;refine tn hK (Cx aA (al.o.h9 _ rfl).1) ?_;clear aA hK K;intro aA;refine dn ?_;have dL:=AF (dK.o.step aA);clear aA;go_wp2_with fail;go_meet
     case rel=>exact⟨w11.heap.size+1,w11.heap.size,y1,y2,rfl,rfl,al.o.fin,dL.o⟩
  ·skip;go_simp;have kE:=AF (eQ.o.alloc8 (G:=w10.heap.size) (by simp));refine tn hK (Ay aA _) ?_;clear aA hK K;intro aA;refine A2 (rs:=[10,23]) (by kernel_rfl) (by simp) ?_;refine AY (o:=⟨some 66,_,_,_,_,none⟩) rfl (fun K hK=>?_) (AY (o:=⟨some 9,_,_,_,_,none⟩) rfl (fun K hK=>?_) Az)
   ·skip;go_simp;go_at_call 39;refine(gY.o _ aA).mono ?_;rintro e w11 ⟨⟨y1,rfl,hl,hs,he⟩,hb⟩;have cb:=AF (kE.o.call1 hb hl hs he);clear hl hs he;try go_wp2_with fail
    refine tn hK (An aA hb) ?_;clear aA hK K;intro aA;refine A2 (rs:=[21,23]) (by kernel_rfl) (by simp) ?_;refine AY (o:=⟨some 77,_,_,_,_,none⟩) rfl (fun K hK=>?_) (AY (o:=⟨some 9,_,_,_,_,none⟩) rfl (fun K hK=>?_) Az)
    ·skip;go_simp;go_at_call 39;refine(jM.o _ aA).mono ?_;rintro e w12 ⟨⟨y2,rfl,hl,hs,he⟩,hb⟩;have ci:=AF (cb.o.call2 hb hl hs he);clear hl hs he;try go_wp2_with fail
     refine tn hK (An aA hb) ?_;clear aA hK K;intro aA;refine tr 23 9 fun K hK=>?_;go_simp;have al:=AF (ci.o.alloc9 (G:=w12.heap.size) (by simp));refine tn hK (Ay aA _) ?_;clear aA hK K;intro aA;refine Fo 24 fun K hK=>?_;refine Cb (by rfl) _ _ _ (by rfl) (g:=w10.heap.size) (al.o.h8 _ rfl).2 y1 (by rfl) (by rfl) (by kernel_rfl) ?_;refine tn hK (Cx aA (al.o.h8 _ rfl).1) ?_;clear aA hK K;intro aA;refine Fo 25 fun K hK=>?_;refine Cb (by rfl) _ _ _ (by rfl) (g:=w12.heap.size) ((AR _ _ _ _ (fun e=>al.o.ne _ rfl (congrArg some e))).trans (al.o.h9 _ rfl).2) y2 (by rfl) (by rfl) (by kernel_rfl) ?_;refine tn hK (Cx aA (al.o.h9 _ rfl).1) ?_;clear aA hK K;intro aA;refine dn ?_;have dL:=AF (dK.o.step aA);clear aA;go_wp2_with fail;go_meet
     case rel=>exact⟨w10.heap.size,w12.heap.size,y1,y2,rfl,rfl,al.o.fin,dL.o⟩
    ·skip;go_simp;have ci:=AF (cb.o.alloc9 (G:=w11.heap.size) (by simp));refine tn hK (Ay aA _) ?_;clear aA hK K;intro aA;refine tr 21 77 fun K hK=>?_;go_simp;go_at_call 39;refine(jM.o _ aA).mono ?_;rintro e w12 ⟨⟨y2,rfl,hl,hs,he⟩,hb⟩;have al:=AF (ci.o.call2 hb hl hs he);clear hl hs he;try go_wp2_with fail
     refine tn hK (An aA hb) ?_;clear aA hK K;intro aA;refine Fo 24 fun K hK=>?_;refine Cb (by rfl) _ _ _ (by rfl) (g:=w10.heap.size) (al.o.h8 _ rfl).2 y1 (by rfl) (by rfl) (by kernel_rfl) ?_;refine tn hK (Cx aA (al.o.h8 _ rfl).1) ?_;clear aA hK K;intro aA;refine Fo 25 fun K hK=>?_;refine Cb (by rfl) _ _ _ (by rfl) (g:=w11.heap.size) ((AR _ _ _ _ (fun e=>al.o.ne _ rfl (congrArg some e))).trans (al.o.h9 _ rfl).2) y2 (by rfl) (by rfl) (by kernel_rfl) ?_;refine tn hK (Cx aA (al.o.h9 _ rfl).1) ?_;clear aA hK K;intro aA;refine dn ?_;have dL:=AF (dK.o.step aA);clear aA;go_wp2_with fail;go_meet
     case rel=>exact⟨w10.heap.size,w11.heap.size,y1,y2,rfl,rfl,al.o.fin,dL.o⟩
   ·skip;go_simp;have cb:=AF (kE.o.alloc9 (G:=w10.heap.size+1) (by simp));refine tn hK (Ay aA _) ?_;clear aA hK K;intro aA;refine tr 10 66 fun K hK=>?_;go_simp;go_at_call 39;refine(gY.o _ aA).mono ?_;rintro e w11 ⟨⟨y1,rfl,hl,hs,he⟩,hb⟩;have ci:=AF (cb.o.call1 hb hl hs he);clear hl hs he;try go_wp2_with fail
    refine tn hK (An aA hb) ?_;clear aA hK K;intro aA;refine tr 21 77 fun K hK=>?_;go_simp;go_at_call 39;refine(jM.o _ aA).mono ?_;rintro e w12 ⟨⟨y2,rfl,hl,hs,he⟩,hb⟩;have al:=AF (ci.o.call2 hb hl hs he);clear hl hs he;try go_wp2_with fail
    refine tn hK (An aA hb) ?_;clear aA hK K;intro aA;refine Fo 24 fun K hK=>?_;refine Cb (by rfl) _ _ _ (by rfl) (g:=w10.heap.size) (al.o.h8 _ rfl).2 y1 (by rfl) (by rfl) (by kernel_rfl) ?_;refine tn hK (Cx aA (al.o.h8 _ rfl).1) ?_;clear aA hK K;intro aA;refine Fo 25 fun K hK=>?_;refine Cb (by rfl) _ _ _ (by rfl) (g:=w10.heap.size+1) ((AR _ _ _ _ (fun e=>al.o.ne _ rfl (congrArg some e))).trans (al.o.h9 _ rfl).2) y2 (by rfl) (by rfl) (by kernel_rfl) ?_;refine tn hK (Cx aA (al.o.h9 _ rfl).1) ?_;clear aA hK K;intro aA;refine dn ?_;have dL:=AF (dK.o.step aA);clear aA;go_wp2_with fail;go_meet
    case rel=>exact⟨w10.heap.size,w10.heap.size+1,y1,y2,rfl,rfl,al.o.fin,dL.o⟩
  ·skip;go_simp;have kE:=AF (eQ.o.alloc9 (G:=w10.heap.size) (by simp));refine tn hK (Ay aA _) ?_;clear aA hK K;intro aA;refine A2 (rs:=[10,22]) (by kernel_rfl) (by simp) ?_;refine AY (o:=⟨some 66,_,_,_,_,none⟩) rfl (fun K hK=>?_) (AY (o:=⟨some 8,_,_,_,_,none⟩) rfl (fun K hK=>?_) Az)
   ·skip;go_simp;go_at_call 39;refine(gY.o _ aA).mono ?_;rintro e w11 ⟨⟨y1,rfl,hl,hs,he⟩,hb⟩;have cb:=AF (kE.o.call1 hb hl hs he);clear hl hs he;try go_wp2_with fail
    refine tn hK (An aA hb) ?_;clear aA hK K;intro aA;refine A2 (rs:=[21,22]) (by kernel_rfl) (by simp) ?_;refine AY (o:=⟨some 77,_,_,_,_,none⟩) rfl (fun K hK=>?_) (AY (o:=⟨some 8,_,_,_,_,none⟩) rfl (fun K hK=>?_) Az)
    ·skip;go_simp;go_at_call 39;refine(jM.o _ aA).mono ?_;rintro e w12 ⟨⟨y2,rfl,hl,hs,he⟩,hb⟩;have ci:=AF (cb.o.call2 hb hl hs he);clear hl hs he;try go_wp2_with fail
     refine tn hK (An aA hb) ?_;clear aA hK K;intro aA;refine tr 22 8 fun K hK=>?_;go_simp;have al:=AF (ci.o.alloc8 (G:=w12.heap.size) (by simp));refine tn hK (Ay aA _) ?_;clear aA hK K;intro aA;refine Fo 24 fun K hK=>?_;refine Cb (by rfl) _ _ _ (by rfl) (g:=w12.heap.size) (al.o.h8 _ rfl).2 y1 (by rfl) (by rfl) (by kernel_rfl) ?_;refine tn hK (Cx aA (al.o.h8 _ rfl).1) ?_;clear aA hK K;intro aA;refine Fo 25 fun K hK=>?_;refine Cb (by rfl) _ _ _ (by rfl) (g:=w10.heap.size) ((AR _ _ _ _ (fun e=>al.o.ne _ rfl (congrArg some e))).trans (al.o.h9 _ rfl).2) y2 (by rfl) (by rfl) (by kernel_rfl) ?_;refine tn hK (Cx aA (al.o.h9 _ rfl).1) ?_;clear aA hK K;intro aA;refine dn ?_;have dL:=AF (dK.o.step aA);clear aA;go_wp2_with fail;go_meet
     case rel=>exact⟨w12.heap.size,w10.heap.size,y1,y2,rfl,rfl,al.o.fin,dL.o⟩
    ·skip;go_simp;have ci:=AF (cb.o.alloc8 (G:=w11.heap.size) (by simp));refine tn hK (Ay aA _) ?_;clear aA hK K;intro aA;refine tr 21 77 fun K hK=>?_;go_simp;go_at_call 39;refine(jM.o _ aA).mono ?_;rintro e w12 ⟨⟨y2,rfl,hl,hs,he⟩,hb⟩;have al:=AF (ci.o.call2 hb hl hs he);clear hl hs he;try go_wp2_with fail
     refine tn hK (An aA hb) ?_;clear aA hK K;intro aA;refine Fo 24 fun K hK=>?_;refine Cb (by rfl) _ _ _ (by rfl) (g:=w11.heap.size) (al.o.h8 _ rfl).2 y1 (by rfl) (by rfl) (by kernel_rfl) ?_;refine tn hK (Cx aA (al.o.h8 _ rfl).1) ?_;clear aA hK K;intro aA;refine Fo 25 fun K hK=>?_;refine Cb (by rfl) _ _ _ (by rfl) (g:=w10.heap.size) ((AR _ _ _ _ (fun e=>al.o.ne _ rfl (congrArg some e))).trans (al.o.h9 _ rfl).2) y2 (by rfl) (by rfl) (by kernel_rfl) ?_;refine tn hK (Cx aA (al.o.h9 _ rfl).1) ?_;clear aA hK K;intro aA;refine dn ?_;have dL:=AF (dK.o.step aA);clear aA;go_wp2_with fail;go_meet
     case rel=>exact⟨w11.heap.size,w10.heap.size,y1,y2,rfl,rfl,al.o.fin,dL.o⟩
   ·skip;go_simp;have cb:=AF (kE.o.alloc8 (G:=w10.heap.size+1) (by simp));refine tn hK (Ay aA _) ?_;clear aA hK K;intro aA;refine tr 10 66 fun K hK=>?_;go_simp;go_at_call 39;refine(gY.o _ aA).mono ?_;rintro e w11 ⟨⟨y1,rfl,hl,hs,he⟩,hb⟩;have ci:=AF (cb.o.call1 hb hl hs he);clear hl hs he;try go_wp2_with fail
    refine tn hK (An aA hb) ?_;clear aA hK K;intro aA;refine tr 21 77 fun K hK=>?_;go_simp;go_at_call 39;refine(jM.o _ aA).mono ?_;rintro e w12 ⟨⟨y2,rfl,hl,hs,he⟩,hb⟩;have al:=AF (ci.o.call2 hb hl hs he);clear hl hs he;try go_wp2_with fail
    refine tn hK (An aA hb) ?_;clear aA hK K;intro aA;refine Fo 24 fun K hK=>?_;refine Cb (by rfl) _ _ _ (by rfl) (g:=w10.heap.size+1) (al.o.h8 _ rfl).2 y1 (by rfl) (by rfl) (by kernel_rfl) ?_;refine tn hK (Cx aA (al.o.h8 _ rfl).1) ?_;clear aA hK K;intro aA;refine Fo 25 fun K hK=>?_;refine Cb (by rfl) _ _ _ (by rfl) (g:=w10.heap.size) ((AR _ _ _ _ (fun e=>al.o.ne _ rfl (congrArg some e))).trans (al.o.h9 _ rfl).2) y2 (by rfl) (by rfl) (by kernel_rfl) ?_;refine tn hK (Cx aA (al.o.h9 _ rfl).1) ?_;clear aA hK K;intro aA;refine dn ?_;have dL:=AF (dK.o.step aA);clear aA;go_wp2_with fail;go_meet
    case rel=>exact⟨w10.heap.size+1,w10.heap.size,y1,y2,rfl,rfl,al.o.fin,dL.o⟩
 case rest=>
  obtain⟨g8,g9,y1,y2,rfl,rfl,h7,hx⟩:=hcut;have jL:=AF h7;have jr:Hd (Zc w a (.slice p n c) (.slice q m mc) g8 g9 y1 y2 wc):=⟨hx,⟨AM pm h7.h8.1,h7.h8.2⟩,⟨AM pm h7.h9.1,h7.h9.2⟩⟩;clear h7 hx;go_upto_region 7 with fail;refine rg (fun W'=>Zc w a (.slice p n c) (.slice q m mc) g8 g9 y1 y2 W') (jr.o.step (At wc)) fun aA=>?_;refine tp 0 78 ?_;refine tp 1 79 ?_ (hy:=fun w aB=>by(try dsimp only at aB);have q7:=aB.nd.b.b1.c 7 _ rfl;go_simp;try with_reducible rfl);refine tp 2 80 ?_;refine tp 3 81 ?_ (hy:=fun w aB=>by(try dsimp only at aB);have q9:=aB.nd.b.b1.c 9 _ rfl;go_simp;try with_reducible rfl);refine t4 4 82 y1 g8 0 (fun W' aB=>r4 aB.h8.2) ?_;refine t4 5 83 y2 g9 0 (fun W' aB=>r4 aB.h9.2) ?_;refine tp 8 86 ?_;refine tp 9 87 ?_;refine tp 10 88 ?_;refine tp 11 89 ?_ (hy:=fun w aB=>by(try dsimp only at aB);have q7:=jq.o _ aB.nd.below;go_simp;try with_reducible rfl);refine tp 13 91 ?_;refine tp 14 92 ?_ (hy:=fun w aB=>by(try dsimp only at aB);have q7:=aB.nd.b.b1.c 7 _ rfl;go_simp;try with_reducible rfl);refine tr 6 84 fun K hK=>?_;go_simp;refine tn hK (aA.alloc _) ?_;clear aA hK K;intro aA;refine tr 7 85 fun K hK=>?_;go_simp;have aI:=aA.nd.size;go_at_call 136;refine(GQ 4 a.rho ((LA.below HN.o.own (HC.o.old.trans (aA.nd.below.mono HC.o.old.size))).eff) (by have h1:=HN.o.own.eff.len;have h2:=Ii dg.o.eff;omega) (some ⟨wc.heap.size,0,none⟩) 2 2).mono ?_;rintro e w2 ⟨q2,m2,c2,rfl,aC,cB,hb⟩;have bQ:=AF aC;have ea:Hd (∀ad,q2=some ad->w.heap.size+3<=ad.block):=fun ad hp=>AM aI (cB ad hp);have iq:Hd (G0 w2 (some ⟨wc.heap.size,0,none⟩) 2 2 [y1,y2]):=((Ny jL.o.t1.1 jL.o.t2.1 28).below (At _)).below hb;clear aC cB aI;try go_wp2_with fail
  refine tn hK (aA.step hb) ?_;clear aA hK K;intro aA;refine tr 12 90 fun K hK=>?_;go_simp;go_at_call 137;refine(Hg f.rho _).mono ?_;rintro e w3 ⟨rfl,hb⟩;have aL:=AF hb;try go_wp2_with fail
  refine tn hK (aA.step hb) ?_;clear aA hK K;intro aA;refine tr 15 93 fun K hK=>?_;go_simp;go_at_call 138;refine(Gb a.rho _).mono ?_;rintro e w4 ⟨rfl,hb⟩;have bJ:=AF hb;try go_wp2_with fail
  refine tn hK (aA.step hb) ?_;clear aA hK K;intro aA;refine tr 16 94 fun K hK=>?_;go_simp;refine tn hK (aA.alloc _) ?_;clear aA hK K;intro aA;refine tr 17 95 fun K hK=>?_;go_simp;have aI:=aA.nd.size;go_at_call 100;refine(FB _ 2 2 [Hw f.rho,Fu a.rho] _ rfl (by decide) (Bo BF (by omega) w4 59 [Hw f.rho,Fu a.rho] 2 _ rfl rfl (by decide)).row).mono ?_;rintro e w6 ⟨v6,k6,rfl,_,cS,hb⟩;obtain⟨q6,c6,rfl,lX⟩:=A1.isRow BF (by omega) cS;have lC:=(fun ad hp=>AM aI (by subst hp;exact A1.from cS ad.block rfl):∀ad,q6=some ad->w.heap.size+3<=ad.block);have gX:Hd (Ax Ce 3 w6 q6 k6 c6 (GV [Hw f.rho,Fu a.rho])):=lX;have vl:=AF lC;have dW:=AF hb;clear cS lX lC aI;try go_wp2_with fail
  refine tn hK (aA.step hb) ?_;clear aA hK K;intro aA;refine tp 18 96 ?_;refine Fo 19 fun K hK=>?_;have aY:=AF aA;refine R8 rfl _ _ _ (by rfl) aA.nd #[.int .u8 4,.int .i64 a.rho,.slice q2 m2 c2,.slice (some ⟨wc.heap.size,0,none⟩) 2 2,.slice q6 k6 c6] (by rfl) (by rfl) (by kernel_rfl) rfl (by simp [Value.oneCell']) ?_;refine tn hK (aA.store rfl) ?_;clear aA hK K;intro aA;refine dn ?_;clear aA;go_wp2_with fail;refine br (aY.o.nd.heap _) underlying81 ?_;have aD:=HN.o.own;have nV:=lo.o;have oh:Below w2.heap.size w2 w6:=An (Ay (An aL.o bJ.o) _) dW.o;refine Qs (y:=⟨.node ⟨4,a.rho,q2,m2,c2,GV a.eff,some ⟨wc.heap.size,0,none⟩,2,2⟩ [y1,y2],q6,k6,c6,GV [Hw f.rho,Fu a.rho]⟩) aY.o.nd HC.o.new ⟨Oa (by decide) aD.rho (bQ.o.below oh) (fun z hz=>aD.eok z ((GF _ _).1 hz).1) (iq.o.below oh),?_,gX.o,(fun z hz=>?_),fun _ ad hp=>.inr (vl.o ad hp)⟩ ?_
  ·have hN:=HC.o.old.size;have hS:=HC.o.s0;refine Ob (fun z hz=>?_) (fun z hz=>?_) (.inr (by have:=jr.o.nd.size;omega)) (fun _ ad hp=>.inr (ea.o ad hp))
   ·rcases jL.o.t1.2.1 z hz with h1|h1
    ·exact .inl ⟨by omega,hS z h1⟩
    ·exact .inr (by omega)
   ·rcases jL.o.t2.2.1 z hz with h1|h1
    ·exact .inl ⟨by omega,hS z h1⟩
    ·exact .inr (by omega)
  ·have h1:=((GF _ _).1 hz).1;simp only [AS,Al,BN] at h1;rcases h1 with rfl|rfl
   ·exact L7 nV.rho.1 nV.rho.2
   ·exact Kk aD.rho.1 aD.rho.2
  ·show (PT.er _,_)=_;rw [PT.er_node];show (Ad.node _ [PT.er y1,PT.er y2],_)=_;rw [jL.o.t1.2.2,jL.o.t2.2.2];rfl
theorem Q9(h:IE w0 w S (.node a l) p q n c m mc env rhos):Calls prog 97 #[.agg #[.slice p n c,.slice q m mc],DP a] w (Gm w S (Hk (Gg env) a.plain)):=by
 cases eA:IK env a.name with
 |none=>exact Yl h eA
 |some b=>
  cases ef:b.fn with
  |none=>exact Yk h eA ef
  |some f=>exact ZB2 h eA ef
theorem IE.later(h:IE w0 w S t p q n c m mc env rhos)(hb:Below w.heap.size w W)(hs:w.heap.size+3<=W.heap.size):IE w0 W (Si w S) t p q n c m mc env rhos:=⟨h.old.trans (hb.mono h.old.size),h.lies,h.small,h.good,ZC8 h.envA hb,h.rhosA.below hb,h.genv,fun b aG=>.inl ⟨Ak aG h.old.size,h.s0 b aG⟩,fun b ab=>.inr (by omega),h.hn,h.hm,h.hs⟩
theorem Ya(h:IE w0 w S (.node a l) p q n c m mc env rhos)(ih:∀t∈l,S8 w0 t):Calls prog 63 #[.agg #[.slice p n c,.slice q m mc],DP a] w (Gm w S (Fr (Gg env) rhos a.plain (l.map PA.er))):=by
 cases hu:GZ a.plain rhos with
 |false=>exact ZAG h hu
 |true=>
  by_cases h2:a.kind=2
  ·exact Yb h hu h2
  ·by_cases a7:a.kind=18
   ·exact WV h hu a7 (fun W hb hs=>Q9 (h.later hb hs))
   ·exact WW h hu h2 a7 ih
theorem Qr(t:PA):S8 w0 t:=by refine Ad.ind (P:=fun(t:PA)=>S8 w0 t) (fun a l ih=>?_) t;intro w S p q n c m mc env rhos h;rw [PA.er_node,QJ];have hg:=h.good;rw [PA.er_node] at hg;exact R4 h.new (fun W hb hs=>Ya (h.later hb hs) ih) (fun x hx=>WX hg.head h.genv hx)
theorem Pm(w:World)(a:AH):Vy w a (((((w.alloc (Bt a)).alloc (.cells #[.int .u8 0,.int .i64 0,.slice none 0 0,.slice none 0 0] 28)).alloc (.cells #[.slice none 0 0] 25)).alloc (.cells #[.int .i64 0] 3)).alloc (.cells #[.int .i64 0] 34)):=by
 have e1:=AG (w.alloc (Bt a)) (.cells #[.int .u8 0,.int .i64 0,.slice none 0 0,.slice none 0 0] 28);have e2:=AG ((w.alloc (Bt a)).alloc (.cells #[.int .u8 0,.int .i64 0,.slice none 0 0,.slice none 0 0] 28)) (.cells #[.slice none 0 0] 25);have e3:=AG (((w.alloc (Bt a)).alloc (.cells #[.int .u8 0,.int .i64 0,.slice none 0 0,.slice none 0 0] 28)).alloc (.cells #[.slice none 0 0] 25)) (.cells #[.int .i64 0] 3);have e4:=AG ((((w.alloc (Bt a)).alloc (.cells #[.int .u8 0,.int .i64 0,.slice none 0 0,.slice none 0 0] 28)).alloc (.cells #[.slice none 0 0] 25)).alloc (.cells #[.int .i64 0] 3)) (.cells #[.int .i64 0] 34);simp only [AN] at e1 e2 e3 e4;have ap:Below w.heap.size w (w.alloc (Bt a)):=bA;have aU:∀{W:World} (o:Obj),Below W.heap.size W (W.alloc o):=fun o=>(AA _ _).alloc (AB _) o;have bF:Below (w.alloc (Bt a)).heap.size (w.alloc (Bt a)) (((((w.alloc (Bt a)).alloc (.cells #[.int .u8 0,.int .i64 0,.slice none 0 0,.slice none 0 0] 28)).alloc (.cells #[.slice none 0 0] 25)).alloc (.cells #[.int .i64 0] 3)).alloc (.cells #[.int .i64 0] 34)):=(((aU _).trans ((aU _).mono (by simp only [AN];omega))).trans ((aU _).mono (by simp only [AN];omega))).trans ((aU _).mono (by simp only [AN];omega));refine⟨(C8 w a).below bF,⟨#[.int .u8 0,.int .i64 0,.slice none 0 0,.slice none 0 0],rfl,?_⟩,⟨.slice none 0 0,?_⟩,⟨.int .i64 0,?_⟩,⟨.int .i64 0,e4⟩,ap.trans (bF.mono (by simp only [AN];omega)),by simp only [AN];omega⟩
 ·rw [AP _ _ _ (by simp),AP _ _ _ (by simp),AP _ _ _ (by simp)];exact e1
 ·rw [AP _ _ _ (by simp),AP _ _ _ (by simp)];exact e2
 ·rw [AP _ _ _ (by simp)];exact e3
theorem Na(w:World)(a:AH):(((((w.alloc (Bt a)).alloc (.cells #[.int .u8 0,.int .i64 0,.slice none 0 0,.slice none 0 0] 28)).alloc (.cells #[.slice none 0 0] 25)).alloc (.cells #[.int .i64 0] 3)).alloc (.cells #[.int .i64 0] 34)).heap[w.heap.size+1]?=some (.cells #[.int .u8 0,.int .i64 0,.slice none 0 0,.slice none 0 0] 28 (0,0)):=by have e1:=AG (w.alloc (Bt a)) (.cells #[.int .u8 0,.int .i64 0,.slice none 0 0,.slice none 0 0] 28);simp only [AN] at e1;rw [AP _ _ _ (by simp),AP _ _ _ (by simp),AP _ _ _ (by simp)];exact e1
structure ChZ(w W:World):Prop where
 o:W.heap[w.heap.size+1]?=some (.cells #[.int .u8 0,.int .i64 0,.slice none 0 0,.slice none 0 0] 28 (0,0))
 m:W.heap[w.heap.size+1+1]?=some (.cells #[.slice none 0 0] 25 (0,0))
 at_:W.heap[w.heap.size+1+1+1]?=some (.cells #[.int .i64 0] 3 (0,0))
 e:W.heap[w.heap.size+1+1+1+1]?=some (.cells #[.int .i64 0] 34 (0,0))
theorem ChZ.step(h:ChZ w W)(hb:Below W.heap.size W W'):ChZ w W':=⟨(hb.block _ (Ab h.o)).trans h.o,(hb.block _ (Ab h.m)).trans h.m,(hb.block _ (Ab h.at_)).trans h.at_,(hb.block _ (Ab h.e)).trans h.e⟩
theorem Xf(w:World)(a:AH):ChZ w (((((w.alloc (Bt a)).alloc (.cells #[.int .u8 0,.int .i64 0,.slice none 0 0,.slice none 0 0] 28)).alloc (.cells #[.slice none 0 0] 25)).alloc (.cells #[.int .i64 0] 3)).alloc (.cells #[.int .i64 0] 34)):=by
 have e1:=AG (w.alloc (Bt a)) (.cells #[.int .u8 0,.int .i64 0,.slice none 0 0,.slice none 0 0] 28);have e2:=AG ((w.alloc (Bt a)).alloc (.cells #[.int .u8 0,.int .i64 0,.slice none 0 0,.slice none 0 0] 28)) (.cells #[.slice none 0 0] 25);have e3:=AG (((w.alloc (Bt a)).alloc (.cells #[.int .u8 0,.int .i64 0,.slice none 0 0,.slice none 0 0] 28)).alloc (.cells #[.slice none 0 0] 25)) (.cells #[.int .i64 0] 3);have e4:=AG ((((w.alloc (Bt a)).alloc (.cells #[.int .u8 0,.int .i64 0,.slice none 0 0,.slice none 0 0] 28)).alloc (.cells #[.slice none 0 0] 25)).alloc (.cells #[.int .i64 0] 3)) (.cells #[.int .i64 0] 34);simp only [AN] at e1 e2 e3 e4;refine⟨?_,?_,?_,e4⟩
 ·rw [AP _ _ _ (by simp),AP _ _ _ (by simp),AP _ _ _ (by simp)];exact e1
 ·rw [AP _ _ _ (by simp),AP _ _ _ (by simp)];exact e2
 ·rw [AP _ _ _ (by simp)];exact e3
theorem MI(h:Ax Ce 3 W p n c l)(hl:l≠[])(hg:W.heap[g]?=some (.cells cs t (0,0)))(an:∀(i:Nat) (s:ByteArray),cs[i]?≠some (.string s))(hp:p=some ad):ad.block≠g:=by
 cases l with
 |nil=>exact absurd rfl hl
 |cons x l=>
  obtain⟨b,o,ek,_,hc⟩:=h.row.elem (j:=0) (x:=x) rfl;rw [ek] at hp;cases hp;intro e;have e':b=g:=e;subst e';have h2:=hc 2 (.string x.exn) rfl;rw [AD hg] at h2;exact an _ _ h2
theorem ZBi(hz:ChZ w W)(hB:w.heap.size+5<=B)(y:PT):LR.lies W y->He N B E y->∀b∈Dy y,b≠w.heap.size+1/\b≠w.heap.size+1+1/\b≠w.heap.size+1+1+1/\b≠w.heap.size+1+1+1+1:=by
 refine Ad.ind (P:=fun(y:PT)=>LR.lies W y->He N B E y->∀b∈Dy y,b≠w.heap.size+1/\b≠w.heap.size+1+1/\b≠w.heap.size+1+1+1/\b≠w.heap.size+1+1+1+1) (fun a l ih hl hs b hb=>?_) y;have hn:=Fs hl;have h0:=hs a (by rw [Ad.nodes_node];simp)
 have n4:∀(i:Nat) (s:ByteArray),(#[.int .u8 0,.int .i64 0,.slice none 0 0,.slice none 0 0]:Array Value)[i]?≠some (.string s):=fun i s=>by
  match i with
  |0=>simp
  |1=>simp
  |2=>simp
  |3=>simp
  |i+4=>simp
 have n1:∀(v:Value),(∀s,v≠.string s)->∀(i:Nat) (s:ByteArray),(#[v]:Array Value)[i]?≠some (.string s):=fun v hv i s=>by
  match i with
  |0=>simpa using hv s
  |i+1=>simp
 rcases JA hb with⟨_,ad,hp,rfl⟩|⟨he,ad,hp,rfl⟩|⟨u,hu,hb⟩
 ·have:=(h0.1 ad hp).1;omega
 ·exact⟨MI hn.own.eff he hz.o n4 hp,MI hn.own.eff he hz.m (n1 _ (fun s e=>(nomatch e))) hp,MI hn.own.eff he hz.at_ (n1 _ (fun s e=>(nomatch e))) hp,MI hn.own.eff he hz.e (n1 _ (fun s e=>(nomatch e))) hp⟩
 ·exact ih u hu (hn.each u hu) (fun x hx=>hs x (by rw [Ad.nodes_node,AS,BS];exact .inr ⟨u.nodes,Au hu,hx⟩)) b hb
def Lb(r:Lc)(e:Ending)(w':World):Prop:=
 match r with
 |.ok x=>∃(y:PT) (q:Option Addr) (m qc:Nat),e=.returned (.tuple #[IJ y.head,.slice q m qc,.int .i64 0,.int .i64 0])/\LR.lies w' y/\PT.er y=x.1/\Ax Ce 3 w' q m qc x.2
 |.error (z,no)=>e=.returned (.tuple #[.agg #[.int .u8 0,.int .i64 0,.slice none 0 0,.slice none 0 0],.slice none 0 0,.int .i64 z,.int .i64 no])
theorem ChR.res(h:ChR w a cs v2 v3 v4 W)(h4:cs.size=4):(∀i v,cs[i]?=some v->W.cell? ⟨w.heap.size+1,i,none⟩=some v)/\W.cell? ⟨w.heap.size+1+1,0,none⟩=some v2/\W.cell? ⟨w.heap.size+1+1+1,0,none⟩=some v3/\W.cell? ⟨w.heap.size+1+1+1+1,0,none⟩=some v4:=⟨fun i v hv=>by rw [AD h.o];exact hv,(Jd h.m).1,(Jd h.at_).1,(Jd h.e).1⟩
theorem YL(hl:LA.lies w (.node a l))(hs:Ef (.node a l))(hz:(Ad.node a l).size<=1000)(hv:Vr w)(hm:Kz (.node a l)=false):Calls prog 12 #[DP a] w fun e w'=>Lb (.error (0,1)) e w'/\Below w.heap.size w w':=by
 have HX:=AF (Pm w a);have HO:=AF (Na w a);have HL:=AF hl;have HS:=AF hs;have HV:=AF hv;have HZ:=AF hz;have sZ:∀(fn:Fn) (first cap:Array Value) (w:World),(Instr.makeFunc fn first cap).run prog w=.ok (.func fn first cap) w:=fun _ _ _ _=>rfl;clear hl hs hv hz;have HM:=AF hm;clear hm;go_enter_defers func12,ntmps12;go_upto_region 1 with fail;generalize (((((w.alloc (Bt a)).alloc (.cells #[.int .u8 0,.int .i64 0,.slice none 0 0,.slice none 0 0] 28)).alloc (.cells #[.slice none 0 0] 25)).alloc (.cells #[.int .i64 0] 3)).alloc (.cells #[.int .i64 0] 34))=W1 at *
 go_upto_region 2 with(first
  |(refine lw HX.o.box.blk underlying31 ?_)
  |(go_at_call 35;refine(It (Ad.node a l) (LA.lies_below HX.o.below _ HL.o) HS.o HZ.o (HV.o.below HX.o.below)).mono ?_;rw [HM.o];rintro e w2 ⟨rfl,hb⟩;have aQ:=AF (HX.o.step hb);have af:=AF ((hb.block _ (Ab HO.o)).trans HO.o);clear hb))
 have hA:=aQ.o.w1 (cs:=#[.int .u8 0,.int .i64 0,.slice none 0 0,.slice none 0 0]) rfl;obtain⟨v2,h2⟩:=hA.m;obtain⟨q2,f2⟩:=Jd h2;have hB:=hA.wset (b:=w.heap.size+1+1) (.inl rfl) (.slice none 0 0);obtain⟨v3,h3⟩:=hB.at_;obtain⟨q3,f3⟩:=Jd h3;have hC:=hB.wset (b:=w.heap.size+1+1+1) (.inr (.inl rfl)) (.int .i64 0);obtain⟨v4,h4⟩:=hC.e;obtain⟨q4,f4⟩:=Jd h4;have HR:=AF (aQ.o.fill (cs:=#[.int .u8 0,.int .i64 0,.slice none 0 0,.slice none 0 0]) rfl (.slice none 0 0) (.int .i64 0) (.int .i64 1));clear hA h2 hB h3 hC h4
 go_wp2_with (first
  |(refine lw af.o underlying28 ?_)
  |(refine sw #[.int .u8 0,.int .i64 0,.slice none 0 0,.slice none 0 0] af.o ?_))
 obtain⟨r1,r2,r3,r4⟩:=HR.o.res rfl;have r10:=r1 0 _ rfl;have r11:=r1 1 _ rfl;have r12:=r1 2 _ rfl;have r13:=r1 3 _ rfl;clear r1 q2 q3 q4 f2 f3 f4;have HB:=AF HR.o.below;unfold bodyPostD;simp [Leaves,settle,results,results12,go_sem,r10,r11,r12,r13,r2,r3,r4];exact⟨rfl,HB.o⟩
theorem Uh(hl:LA.lies w (.node a l))(hs:Ef (.node a l))(hz:(Ad.node a l).size<=1000)(hv:Vr w)(hm:Kz (.node a l)=true)(it:Jb (PA.er (.node a l))=some z):Calls prog 12 #[DP a] w fun e w'=>Lb (.error (z,6)) e w'/\Below w.heap.size w w':=by
 have HX:=AF (Pm w a);have HO:=AF (Na w a);have HL:=AF hl;have HS:=AF hs;have HV:=AF hv;have HZ:=AF hz;have sZ:∀(fn:Fn) (first cap:Array Value) (w:World),(Instr.makeFunc fn first cap).run prog w=.ok (.func fn first cap) w:=fun _ _ _ _=>rfl;clear hl hs hv hz;have HM:=AF hm;have lf:=AF it;clear hm it;go_enter_defers func12,ntmps12;go_upto_region 1 with fail;generalize (((((w.alloc (Bt a)).alloc (.cells #[.int .u8 0,.int .i64 0,.slice none 0 0,.slice none 0 0] 28)).alloc (.cells #[.slice none 0 0] 25)).alloc (.cells #[.int .i64 0] 3)).alloc (.cells #[.int .i64 0] 34))=W1 at *
 go_upto_region 5 with(first
  |(refine lw HX.o.box.blk underlying31 ?_)
  |(refine lw aQ.o.box.blk underlying31 ?_)
  |(go_at_call 35;refine(It (Ad.node a l) (LA.lies_below HX.o.below _ HL.o) HS.o HZ.o (HV.o.below HX.o.below)).mono ?_;rw [HM.o];rintro e w2 ⟨rfl,hb⟩;have aQ:=AF (HX.o.step hb);have af:=AF ((hb.block _ (Ab HO.o)).trans HO.o);clear hb)
  |(go_at_call 36;refine(JD (t:=Ad.node a l) (LA.lies_below aQ.o.below _ HL.o) HS.o HZ.o).mono ?_;rw [lf.o];rintro e w3 ⟨he,hb⟩;obtain rfl:=he;have bC:=AF (aQ.o.step hb);have iG:=AF ((hb.block _ (Ab af.o)).trans af.o);clear hb))
 have hA:=bC.o.w1 (cs:=#[.int .u8 0,.int .i64 0,.slice none 0 0,.slice none 0 0]) rfl;obtain⟨v2,h2⟩:=hA.m;obtain⟨q2,f2⟩:=Jd h2;have hB:=hA.wset (b:=w.heap.size+1+1) (.inl rfl) (.slice none 0 0);obtain⟨v3,h3⟩:=hB.at_;obtain⟨q3,f3⟩:=Jd h3;have hC:=hB.wset (b:=w.heap.size+1+1+1) (.inr (.inl rfl)) (.int .i64 z);obtain⟨v4,h4⟩:=hC.e;obtain⟨q4,f4⟩:=Jd h4;have HR:=AF (bC.o.fill (cs:=#[.int .u8 0,.int .i64 0,.slice none 0 0,.slice none 0 0]) rfl (.slice none 0 0) (.int .i64 z) (.int .i64 6));clear hA h2 hB h3 hC h4
 go_wp2_with (first
  |(refine lw iG.o underlying28 ?_)
  |(refine sw #[.int .u8 0,.int .i64 0,.slice none 0 0,.slice none 0 0] iG.o ?_))
 obtain⟨r1,r2,r3,r4⟩:=HR.o.res rfl;have r10:=r1 0 _ rfl;have r11:=r1 1 _ rfl;have r12:=r1 2 _ rfl;have r13:=r1 3 _ rfl;clear r1 q2 q3 q4 f2 f3 f4;have HB:=AF HR.o.below;unfold bodyPostD;simp [Leaves,settle,results,results12,go_sem,r10,r11,r12,r13,r2,r3,r4];exact⟨rfl,HB.o⟩
end Go.Proofs.YtkdjnegfnhldpaaGreatDoor
