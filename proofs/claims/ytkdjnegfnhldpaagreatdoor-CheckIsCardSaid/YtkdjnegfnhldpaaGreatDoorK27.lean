/- Part 27. -/
import Derived.Test.YtkdjnegfnhldpaaGreatDoorK26
set_option linter.unusedVariables false
set_option maxRecDepth 100000
set_option linter.unusedSimpArgs false
set_option maxHeartbeats 40000000
namespace Go.Proofs.YtkdjnegfnhldpaaGreatDoor
open Go.Proofs.Tryz Go.RowKit
theorem WL{W:World}{b o c:Nat}{x y:RV}(h:AE Ck 5 W (some ⟨b,o,none⟩) 2 (c+2) [x,y]):AE Ck 5 W (some ⟨b,o+5,none⟩) 1 (c+1) [y]:=by
 refine⟨rfl,by decide,?_,?_,?_⟩
 ·omega
 ·intro hn;cases hn
 ·obtain⟨b',o',hp,aF,hc⟩:=h.row.elem (j:=1) rfl;cases hp;refine .inr ⟨b,o+5,rfl,aF,fun j z hz i v hv=>?_⟩;cases j with
  |zero=>cases hz;simpa using hc i v hv
  |succ j=>cases hz
theorem Ou{w:World}{S:Nat→Prop}{a:AH}{b o c:Nat}{x y:RV}(h:Eh w S a (some ⟨b,o,none⟩) 2 c [x,y])(hk:a.kind=13):Calls prog 144 #[Aj a,.slice (some ⟨b,o,none⟩) 2 c] w (Dd w S (CB a.plain (Ak [x,y]))):=by
 obtain⟨c,rfl⟩:∃e,c=e+2:=⟨c-2,by have:=h.res.row.le;omega⟩;have HX:=AA (Ct w a);have HH:=AA h;have bK:=h.sum;have e11:(a.kind==11)=false:=by simp [hk]
 have e13:(a.kind==13)=true:=by simp [hk]
 have bZ:=HX.o.box.c 0 _ rfl;have aN:Hd (CB a.plain (Ak [x,y])=A4 (Bk x.ty a.res) a.plain 5 (A4 (A1 x.eff a.eff) a.plain 6 (.ok (y.ty.er,BO (Ak [y]) [A3 a.rho])))):=by show _=_;unfold CB;simp [show a.plain.kind=13 from hk,Ak];try first|rfl|exact⟨rfl,rfl⟩
 rw [aN.o];obtain⟨v,hv⟩:∃v,Bk x.ty a.res=v:=⟨_,rfl⟩;obtain⟨u,hu⟩:∃u,A1 x.eff a.eff=u:=⟨_,rfl⟩;rw [hv,hu];have HV:=AA hv;have HW:=AA hu;clear hv hu;clear h hk;go_enter func144,ntmps144;go_upto_region 6 with fail;clear bZ e11 e13;generalize (w.alloc (AO a)).alloc (.cells #[.int .u8 0,.int .i64 0,.slice none 0 0,.slice none 0 0,.slice none 0 0] 81)=W1 at *
 refine rg (fun W'=>FU w a W') (HX.o.drew) fun aA=>?_;refine tp 0 39 ?_;refine tp 1 40 ?_;refine tp 2 41 ?_;refine t4 3 42 x.ty b o (fun W' aC=>G7 (HH.o.res.row.below aC.below)) ?_;refine tp 4 43 ?_;refine t4 5 44 a.res w.heap.size 14 (fun W' aC=>Ax aC.box 14 4 rfl) ?_;refine ta 7 46 a w.heap.size 0 (fun W' aC=>aC.box.range) ?_;refine tr 6 45 fun K hK=>?_;go_simp;go_at_call 142;refine(D6 HV.o (LR.lies_below aA.below _ (HH.o.res.each x (by simp)).ty) (LR.lies_below aA.below _ HH.o.own.res)).mono ?_;rintro e w7 ⟨rfl,hb⟩;try go_wp2_with fail
 refine tn hK (aA.step hb) ?_;clear aA hK K;intro aA;refine tr 8 47 fun K hK=>?_;go_simp;cases v
 ·go_at_call 64;refine(Bd a 5 _).mono ?_;rintro e w9 ⟨rfl,hb⟩;exact⟨rfl,rfl,(aA.step hb).below⟩
 go_at_call 64;refine(BZ a 5 _).mono ?_;rintro e w9 ⟨rfl,hb⟩;try go_wp2_with fail
 refine tn hK (aA.step hb) ?_;clear aA hK K;intro aA;refine dn ?_;clear HX;have HX:=AA aA;clear aA;go_upto_region 7 with fail;refine rg (fun W'=>FU w a W') (HX.o.drew) fun aA=>?_;refine tp 0 48 ?_;refine tp 1 49 ?_;refine tp 2 50 ?_;refine tp 3 51 ?_ (hy:=fun w aC=>by(try dsimp only at aC);have q4:=NH (HH.o.res.row.below aC.below) 4 _ rfl;go_simp;try with_reducible rfl);refine tp 4 52 ?_;refine tp 5 53 ?_ (hy:=fun w aC=>by(try dsimp only at aC);have q9:=aC.box.c 9 _ rfl;go_simp;try with_reducible rfl);refine ta 7 55 a w.heap.size 0 (fun W' aC=>aC.box.range) ?_;refine tr 6 54 fun K hK=>?_;go_simp;go_at_call 135;refine(Ob HW.o ((HH.o.res.each x (by simp)).eff.below aA.below) (HH.o.own.eff.below aA.below)).mono ?_;rintro e w8 ⟨rfl,hb⟩;try go_wp2_with fail
 refine tn hK (aA.step hb) ?_;clear aA hK K;intro aA;refine tr 8 56 fun K hK=>?_;go_simp;cases u
 ·go_at_call 64;refine(Bd a 6 _).mono ?_;rintro e w10 ⟨rfl,hb⟩;exact⟨rfl,rfl,(aA.step hb).below⟩
 go_at_call 64;refine(BZ a 6 _).mono ?_;rintro e w10 ⟨rfl,hb⟩;try go_wp2_with fail
 refine tn hK (aA.step hb) ?_;clear aA hK K;intro aA;refine dn ?_;clear HX;have HX:=AA aA;clear aA;go_upto_region 8 with fail;refine rg (fun W'=>FU w a W') (HX.o.drew) fun aA=>?_;refine tp 0 57 ?_;refine tp 1 58 ?_;refine tp 2 59 ?_;refine t4 3 60 y.ty b (o+5) (fun W' aC=>Ih (HH.o.res.row.below aC.below)) ?_;refine tp 4 61 ?_;refine tp 5 62 ?_ (hy:=fun w aC=>by(try dsimp only at aC);have eH:=HH.o.res.row.le;go_simp;try with_reducible rfl);refine tp 6 63 ?_;refine tp 7 64 ?_ (hy:=fun w aC=>by(try dsimp only at aC);have q7:=aC.box.c 7 _ rfl;go_simp;try with_reducible rfl);refine tr 8 65 fun K hK=>?_;go_simp;go_at_call 138;refine(DS a.rho _).mono ?_;rintro e w3 ⟨rfl,hb⟩;have aV:=AA hb;try go_wp2_with fail
 refine tn hK (aA.step hb) ?_;clear aA hK K;intro aA;refine tr 9 66 fun K hK=>?_;go_simp;refine tn hK (aA.alloc _) ?_;clear aA hK K;intro aA;refine tr 10 67 fun K hK=>?_;go_simp;have aU:=aA.size;go_at_call 140;refine(BM (WL (HH.o.res.row.below aA.below)) (fun r hr=>((HH.o.res.each r (by rw [List.mem_singleton] at hr;subst hr;simp)).below aA.below).eff) (CG w3 (A3 a.rho)) (by decide) (by simp at bK ⊢;omega)).mono ?_;rintro e w5 ⟨v5,k5,rfl,aI,hb⟩;obtain⟨q5,c5,rfl,aQ⟩:=AJ.isRow AF (by omega) aI;have aZ:=(fun ad hp=>Nat.le_trans aU (by subst hp;exact AJ.from aI ad.block rfl):∀ad,q5=some ad→w.heap.size+2≤ad.block);have bN:=AA aQ;have ca:=AA aZ;clear aI aQ aZ aU;try go_wp2_with fail
 refine tn hK (aA.step hb) ?_;clear aA hK K;intro aA;refine tp 11 68 ?_;refine DV 12 fun K hK=>?_;have al:=AA aA;refine A9 rfl _ _ _ (by rfl) aA #[.int .u8 y.ty.head.kind,.int .i64 y.ty.head.rho,.slice y.ty.head.ep y.ty.head.en y.ty.head.ec,.slice y.ty.head.kp y.ty.head.kn y.ty.head.kc,.slice q5 k5 c5] (by rfl) (by rfl) (by kernel_rfl) rfl (by simp [Value.oneCell']) ?_;refine tn hK (aA.store rfl) ?_;clear aA hK K;intro aA;refine dn ?_;clear aA;go_wp2_with fail;refine br (al.o.heap _) underlying81 ?_;have hr:=(HH.o.res.each y (by simp));have aB:=HH.o.own;exact EG (y:=⟨y.ty,q5,k5,c5,BO (Ak [y]) [A3 a.rho]⟩) al.o HH.o.new ⟨LR.lies_below al.o.below _ hr.ty,((Eu HH.o.res (Below.refl _ _)).each y (by simp)).uses,bN.o,Dl (fun r hr=>(HH.o.res.each r (by rw [List.mem_singleton] at hr;subst hr;simp)).eok) (fun z hz=>by rw [List.mem_singleton] at hz;subst hz;exact Cr aB.rho.1 aB.rho.2),fun _ ad hp=>.inr (ca.o ad hp)⟩ rfl
theorem Sp{w W:World}{S:Nat→Prop}{a:AH}{p:Option Addr}{n c:Nat}{l:List RV}(h:Eh w S a p n c l)(hb:Below w.heap.size w W)(hs:w.heap.size+2≤W.heap.size):Eh W (Sn w S) a p n c l:=⟨LA.below h.own hb,h.small,Eu h.res hb,fun b hb=>.inr (by omega),fun b hb=>.inl ⟨AN _ h.own.ty b hb,h.ty b hb⟩,h.few,h.sum,h.good⟩
theorem GE{w:World}{S:Nat→Prop}{a:AH}{p:Option Addr}{n c:Nat}{l:List RV}(h:Eh w S a p n c l)(hk:a.kind=11∨a.kind=12∨a.kind=13∨a.kind=16∨a.kind=17)(HB:∀W,Eh W (Sn w S) a p n c l→Calls prog 144 #[Aj a,.slice p n c] W (Dd W (Sn w S) (CB a.plain (Ak l)))):Calls prog 99 #[Aj a,.slice p n c] w (Dd w S (AV a.plain (Ak l))):=by
 have HX:=AA (Ct w a);have HH:=AA h;have nQ:=AA HB;clear HB;have n3:a.kind≠3:=by omega
 have n4:a.kind≠4:=by omega
 have n5:a.kind≠5:=by omega
 have n6:a.kind≠6:=by omega
 have n7:a.kind≠7:=by omega
 have n8:a.kind≠8:=by omega
 have n10:a.kind≠10:=by omega
 have n9:a.kind≠9:=by omega
 have n14:a.kind≠14:=by omega
 have n15:a.kind≠15:=by omega
 have n1:a.kind≠1:=by omega
 have aN:Hd (AV a.plain (Ak l)=CB a.plain (Ak l)):=by show _=_;unfold AV;simp [show a.plain.kind=a.kind from rfl,n3,n4,n5,n6,n7,n8,n10,n9,n14,n15,n1]
 rw [aN.o];clear aN;revert nQ;generalize CB a.plain (Ak l)=R;intro nQ;have e3:(a.kind==3)=false:=by simp [n3]
 have e4:(a.kind==4)=false:=by simp [n4]
 have e5:(a.kind==5)=false:=by simp [n5]
 have e6:(a.kind==6)=false:=by simp [n6]
 have e7:(a.kind==7)=false:=by simp [n7]
 have e8:(a.kind==8)=false:=by simp [n8]
 have e10:(a.kind==10)=false:=by simp [n10]
 have e9:(a.kind==9)=false:=by simp [n9]
 have e14:(a.kind==14)=false:=by simp [n14]
 have e15:(a.kind==15)=false:=by simp [n15]
 have e1:(a.kind==1)=false:=by simp [n1]
 have bZ:=HX.o.box.c 0 _ rfl;clear h hk n3 n4 n5 n6 n7 n8 n10 n9 n14 n15 n1;rcases R with⟨r1,r2⟩|r
 ·go_enter func99,ntmps99;go_upto_region 2 with fail;clear bZ e3 e4 e5 e6 e7 e8 e10 e9 e14 e15 e1;generalize (w.alloc (AO a)).alloc (.cells #[.int .u8 0,.int .i64 0,.slice none 0 0,.slice none 0 0,.slice none 0 0] 81)=W1 at *
  go_wp2_with (refine lw HX.o.box.blk underlying31 ?_);go_at_call 144;refine(nQ.o _ (Sp HH.o HX.o.below HX.o.size)).mono ?_;rintro e W9 ⟨hr,hb⟩;subst hr;exact⟨rfl,rfl,(HX.o.step hb).below⟩
 ·go_enter func99,ntmps99;go_upto_region 2 with fail;clear bZ e3 e4 e5 e6 e7 e8 e10 e9 e14 e15 e1;generalize (w.alloc (AO a)).alloc (.cells #[.int .u8 0,.int .i64 0,.slice none 0 0,.slice none 0 0,.slice none 0 0] 81)=W1 at *
  go_wp2_with (refine lw HX.o.box.blk underlying31 ?_);go_at_call 144;refine(nQ.o _ (Sp HH.o HX.o.below HX.o.size)).mono ?_;rintro e W9 ⟨hr,hb⟩;obtain⟨y,rfl,cM,hy⟩:=hr;have al:=AA (HX.o.step hb);have HY:=AA hy;have dm:=AA cM;clear hy cM HX;go_wp2_with (refine Ew rfl _ _ _ rfl al.o (Cc y) (by rfl) (by rfl) (by kernel_rfl) rfl (by simp [Value.oneCell']) ?_);refine br (al.o.heap _) underlying81 ?_;exact EG al.o HH.o.new HY.o dm.o
section
variable {w:World} {S:Nat→Prop} {a:AH} {p:Option Addr} {n c:Nat} {l:List RV}
theorem VF(h:Eh w S a p n c l){x:RV}(hx:l[0]?=some x):∃b o,p=some ⟨b,o,none⟩:=by obtain⟨b,o,hp,_⟩:=h.res.row.row.elem hx;exact⟨b,o,hp⟩
theorem XI(h:Eh w S a p n c l)(hl:l.length=1):∃b o x,p=some ⟨b,o,none⟩∧n=1∧l=[x]:=by
 match l,h,hl with
 |[x],h,_=>obtain⟨b,o,hp⟩:=VF h (x:=x) rfl;exact⟨b,o,x,hp,h.res.row.len.symm,rfl⟩
theorem XJ(h:Eh w S a p n c l)(hl:l.length=2):∃b o x y,p=some ⟨b,o,none⟩∧n=2∧l=[x,y]:=by
 match l,h,hl with
 |[x,y],h,_=>obtain⟨b,o,hp⟩:=VF h (x:=x) rfl;exact⟨b,o,x,y,hp,h.res.row.len.symm,rfl⟩
theorem Xm(h:Eh w S a p n c l)(hl:l.length=3):∃b o x y z,p=some ⟨b,o,none⟩∧n=3∧l=[x,y,z]:=by
 match l,h,hl with
 |[x,y,z],h,_=>obtain⟨b,o,hp⟩:=VF h (x:=x) rfl;exact⟨b,o,x,y,z,hp,h.res.row.len.symm,rfl⟩
theorem VJ(h:Eh w S a p n c l)(hg:EJ a.plain l.length)(h2:a.kind≠2)(bj:a.kind≠18):Calls prog 99 #[Aj a,.slice p n c] w (Dd w S (AV a.plain (Ak l))):=by
 have g1:1≤a.kind:=hg.k1;have g2:a.kind≤18:=hg.k18;have gk:Bb (if a.kind=17 then 4 else if a.kind=18 then 1 else a.kind)=l.length:=hg.kids;have hc:a.kind=1∨a.kind=3∨a.kind=4∨a.kind=5∨a.kind=6∨a.kind=7∨a.kind=8∨a.kind=9∨a.kind=10∨a.kind=11∨a.kind=12∨a.kind=13∨a.kind=14∨a.kind=15∨a.kind=16∨a.kind=17:=by omega
 rcases hc with k|k|k|k|k|k|k|k|k|k|k|k|k|k|k|k
 ·exact VO h k
 ·obtain⟨b,o,x,y,rfl,rfl,rfl⟩:=XJ h (by rw [k] at gk;simp [Bb] at gk;omega);exact Ty h k
 ·obtain⟨b,o,x,rfl,rfl,rfl⟩:=XI h (by rw [k] at gk;simp [Bb] at gk;omega);exact VL h k
 ·obtain⟨b,o,x,rfl,rfl,rfl⟩:=XI h (by rw [k] at gk;simp [Bb] at gk;omega);exact VR h k
 ·obtain⟨b,o,x,rfl,rfl,rfl⟩:=XI h (by rw [k] at gk;simp [Bb] at gk;omega);exact VP h k
 ·obtain⟨b,o,x,rfl,rfl,rfl⟩:=XI h (by rw [k] at gk;simp [Bb] at gk;omega);exact VM h k
 ·obtain⟨b,o,x,y,rfl,rfl,rfl⟩:=XJ h (by rw [k] at gk;simp [Bb] at gk;omega);exact VQ h k
 ·exact WK h k
 ·obtain⟨b,o,x,y,rfl,rfl,rfl⟩:=XJ h (by rw [k] at gk;simp [Bb] at gk;omega);exact VK h k
 ·obtain⟨b,o,x,rfl,rfl,rfl⟩:=XI h (by rw [k] at gk;simp [Bb] at gk;omega);exact GE h (by omega) fun W hW=>US hW k
 ·obtain⟨b,o,x,y,rfl,rfl,rfl⟩:=XJ h (by rw [k] at gk;simp [Bb] at gk;omega);exact GE h (by omega) fun W hW=>S5 hW k
 ·obtain⟨b,o,x,y,rfl,rfl,rfl⟩:=XJ h (by rw [k] at gk;simp [Bb] at gk;omega);exact GE h (by omega) fun W hW=>Ou hW k
 ·obtain⟨b,o,x,y,z,rfl,rfl,rfl⟩:=Xm h (by rw [k] at gk;simp [Bb] at gk;omega);exact VN h k
 ·exact SF h k
 ·obtain⟨b,o,x,y,rfl,rfl,rfl⟩:=XJ h (by rw [k] at gk;simp [Bb] at gk;omega);exact GE h (by omega) fun W hW=>Ot hW k
 ·obtain⟨b,o,x,rfl,rfl,rfl⟩:=XI h (by rw [k] at gk;simp [Bb] at gk;omega);exact GE h (by omega) fun W hW=>Ov hW k
end
theorem Rj{w0 w:World}{S:Nat→Prop}{a:AH}{l:List PA}{p q:Option Addr}{n c m mc:Nat}{env:List BV}{rhos:List Int}(h:ES w0 w S (.node a l) p q n c m mc env rhos)(hu:A8 a.plain rhos=true)(h2:a.kind≠2)(bj:a.kind≠18)(ih:∀t∈l,Of w0 t):Calls prog 63 #[.agg #[.slice p n c,.slice q m mc],Aj a] w (Dd w S (BE (DZ env) rhos a.plain (l.map PA.er))):=by
 have HX:=AA (GQ w a (.slice p n c) (.slice q m mc));have HC:=AA h;have HN:=AA (DP h.lies);have cz:Bl a:=h.small a (by rw [AG.nodes_node];exact List.mem_cons_self);have cS:=AA cz;have gP:m≤900000:=by have:=h.hm;omega
 have iA:n≤900000:=by have:=h.hn;omega
 have cg:=AA (LA.below (DP h.lies).own (h.old.trans (HX.o.below.mono h.old.size)));clear cz;have HU:=AA hu;have oQ:=AA ih;have H2:=AA h2;have ny:=AA bj;have HR:Hd (BE (DZ env) rhos a.plain (l.map PA.er)=match Fa (DZ env) rhos a.plain 0 [] (l.map PA.er) with|.error e=>.error e|.ok ks=>AV a.plain ks):=by show _=_;unfold BE;rw [hu];simp [show a.plain.kind=a.kind from rfl,h2,bj,A4];try rfl
 have e2:(a.kind==2)=false:=by simp [h2]
 have e18:(a.kind==18)=false:=by simp [bj]
 have dM:l.length=a.kn:=(DP h.lies).kids.len;have ao:a.kn≤3:=by have hg:=h.good;rw [PA.er_node] at hg;have h1:=hg.head.kids;have h3:=QX (if a.plain.kind=17 then 4 else if a.plain.kind=18 then 1 else a.plain.kind);rw [List.length_map] at h1;omega
 have gZ:=AA dM;clear hu h h2 bj dM;go_enter func63,ntmps63;go_upto_region 1 with fail;generalize (((w.alloc (.cells #[.slice p n c,.slice q m mc] 84)).alloc (AO a)).alloc (.cells #[.int .u8 0,.int .i64 0,.slice none 0 0,.slice none 0 0,.slice none 0 0] 81))=W1 at *
 go_upto_region 2 with(first
  |(refine lw HX.o.b.b0 underlying84 ?_)
  |(refine lw HX.o.b.b1.blk underlying31 ?_)
  |(go_at_call 95;refine(Cu cg.o cS.o p n c (HC.o.rhosA.below HX.o.below) gP).mono ?_;rintro e w2 ⟨hr,hb⟩;rw [HU.o] at hr;obtain rfl:=hr.1 rfl;have ah:=AA (HX.o.step hb);clear hr))
 have c0:=ah.o.b.b1.c 0 _ rfl;go_upto_region 11 with fail;clear c0;clear e2 e18;have c18:=ah.o.b.b1.c 18 _ rfl;obtain⟨KP,oz⟩:∃KP,a.kp=KP:=⟨_,rfl⟩;have rT:=AA oz;rw [oz] at c18;clear oz;go_wp2_with fail;clear c18;go_loopw [7,8,9,45] (fun s7 _ _ s45 wr=>∃(k:Nat) (rs:List RV),k≤a.kn∧s45=.int .i64 k∧E8 w S a l (.slice p n c) (.slice q m mc) (DZ env) rhos s7 k rs wr) (fun _ _ _ i _=>a.kn-(intOf i).toNat)
 case atStart=>exact⟨0,[],Nat.zero_le _,rfl,QY ah.o⟩
 case round=>
  obtain⟨k,rs,hk,rfl,pG⟩:=hrel;obtain⟨p7,c7,rfl,_,_,_⟩:=pG.row;have HK:=AA pG;clear pG ah;by_cases aF:k<a.kn
  ·have o4:=(HN.o.rowT.below (HC.o.old.trans (HK.o.nd.below.mono HC.o.old.size)));obtain⟨x,hx⟩:=o4.at (j:=k) aF;obtain⟨b,o,bF,aP,am⟩:=o4.kid hx;rw [rT.o] at bF;subst bF;have fG:=AA hx;have dC:=AA am;have ke:=AA (oQ.o x (List.mem_of_getElem? hx));have cF:=AA (heap_alloc_new wr (.cells #[.int .u8 0,.int .u8 0,.int .i64 0,.int .i64 0,.string ⟨#[]⟩,.string ⟨#[]⟩,.string ⟨#[]⟩,.int .i64 0,.slice none 0 0,.slice none 0 0,.int .u8 0,.int .i64 0,.slice none 0 0,.slice none 0 0,.int .u8 0,.int .i64 0,.slice none 0 0,.slice none 0 0,.slice none 0 0] 31));clear o4 hx aP am
   go_upto_region 14 with(first
    |(refine lm (Bn x.head) dC.o.c underlying31 ?_)
    |(refine wpList_store_row rfl 31 _ _ rfl wr.heap.size (Bn x.head).toArray rfl rfl 31 _ cF.o (by kernel_rfl) rfl (all_oneCell_toArray (EM x.head)) ?_;rw [World.setRow_alloc_new]))
   have kO:Hd (RO w a (.slice p n c) (.slice q m mc) wr.heap.size x.head (wr.alloc (AO x.head))):=⟨HK.o.nd.alloc _,Aa wr x.head⟩;have pk:=AA (HK.o.below ((Below.refl wr.heap.size wr).alloc (Nat.le_refl _) (AO x.head)));obtain⟨g,hg⟩:∃g,wr.heap.size=g:=⟨_,rfl⟩;have rm:Hd (∀b',(Value.slice p7 k c7).ownBlock=some b'→w.heap.size+3≤b'∧b'<g):=fun b' e=>by obtain⟨_,_,_,_,_,hh⟩:=HK.o.row;rw [←hg];exact hh b' e
   rw [show (wr.alloc (.cells (Bn x.head).toArray 31))=wr.alloc (AO x.head) from rfl];rw [hg] at kO ⊢;generalize (wr.alloc (AO x.head))=W2 at *
   clear hg cF dC HK;have lN:=AA (pk.o.below (AC W2));clear pk;cases fH:chk (Ac (DZ env) a.plain k (Ak rs)) (Ad rhos a.plain k) (PA.er x) with
   |error er=>
    obtain⟨er1,er2⟩:=er;have eR:=AA fH;have bT:Hd (BE (DZ env) rhos a.plain (l.map PA.er)=.error (er1,er2)):=by show _=_;rw [HR.o,lN.o.stop fG.o fH]
    clear fH HR;refine rg (fun W'=>RO w a (.slice p n c) (.slice q m mc) g x.head W') (kO.o.drew) fun aA=>?_;refine tp 0 50 ?_;refine tm 1 51 [.slice p n c,.slice q m mc] 84 w.heap.size 0 (fun W' aC=>aC.nd.b.r0) underlying84 ?_;refine ta 2 52 a (w.heap.size+1) 0 (fun W' aC=>aC.nd.b.b1.range) ?_;refine tp 3 53 ?_;refine tp 4 54 ?_;refine ta 6 56 x.head g 0 (fun W' aC=>aC.kid.range) ?_;refine tr 5 55 fun K hK=>?_;go_simp;go_at_call 98;obtain⟨_,_,nJ,cE,jY,j3⟩:=lN.o.row;cases nJ;refine(OM k (Uh HC.o.envA aA.nd.below) (HC.o.rhosA.below aA.nd.below) (LA.below HN.o.own (HC.o.old.trans (aA.nd.below.mono HC.o.old.size))) HN.o.own (Pc aA.nd.size (fun b' e=>(j3 b' e).2)) (fun b' aW=>.inl ⟨Nat.lt_of_lt_of_le (AN _ HN.o.own.ty b' aW) HC.o.old.size,HC.o.s0 b' (AN _ HN.o.own.ty b' aW)⟩) iA gP cS.o.rhos cE (fun _ e=>by rw [jY,e])).mono ?_;rintro e w3 ⟨p',n',c',env',q',m',c'',rfl,jl,iW,j4,dt,jz,hb⟩;have aV:=AA hb;have iF:=AA (HC.o.kid fG.o lN.o hb jl iW j4 dt jz);have fD:=AA iW;clear cE jY j3 jl iW j4 dt jz;try go_wp2_with fail
    refine tn hK (aA.step hb) ?_;clear aA hK K;intro aA;refine tr 7 57 fun K hK=>?_;go_simp;go_at_call 38;refine(ke.o _ _ _ _ _ _ _ _ _ _ iF.o).mono ?_;rw [fD.o,eR.o];rintro e w4 ⟨hr,hb⟩;subst hr;exact⟨rfl,by rw [bT.o],(aA.step hb).nd.below⟩
   |ok r=>
    have eR:=AA fH;clear fH;refine rg (fun W'=>RO w a (.slice p n c) (.slice q m mc) g x.head W') (kO.o.drew) fun aA=>?_;refine tp 0 50 ?_;refine tm 1 51 [.slice p n c,.slice q m mc] 84 w.heap.size 0 (fun W' aC=>aC.nd.b.r0) underlying84 ?_;refine ta 2 52 a (w.heap.size+1) 0 (fun W' aC=>aC.nd.b.b1.range) ?_;refine tp 3 53 ?_;refine tp 4 54 ?_;refine ta 6 56 x.head g 0 (fun W' aC=>aC.kid.range) ?_;refine tr 5 55 fun K hK=>?_;go_simp;go_at_call 98;obtain⟨_,_,nJ,cE,jY,j3⟩:=lN.o.row;cases nJ;refine(OM k (Uh HC.o.envA aA.nd.below) (HC.o.rhosA.below aA.nd.below) (LA.below HN.o.own (HC.o.old.trans (aA.nd.below.mono HC.o.old.size))) HN.o.own (Pc aA.nd.size (fun b' e=>(j3 b' e).2)) (fun b' aW=>.inl ⟨Nat.lt_of_lt_of_le (AN _ HN.o.own.ty b' aW) HC.o.old.size,HC.o.s0 b' (AN _ HN.o.own.ty b' aW)⟩) iA gP cS.o.rhos cE (fun _ e=>by rw [jY,e])).mono ?_;rintro e w3 ⟨p',n',c',env',q',m',c'',rfl,jl,iW,j4,dt,jz,hb⟩;have aV:=AA hb;have iF:=AA (HC.o.kid fG.o lN.o hb jl iW j4 dt jz);have fD:=AA iW;clear cE jY j3 jl iW j4 dt jz;try go_wp2_with fail
    refine tn hK (aA.step hb) ?_;clear aA hK K;intro aA;refine tr 7 57 fun K hK=>?_;go_simp;go_at_call 38;refine(ke.o _ _ _ _ _ _ _ _ _ _ iF.o).mono ?_;have au:=Ux iF.o (r:=r) (by rw [fD.o];exact eR.o);have oN:=AA au;rw [fD.o,eR.o];rintro e w4 ⟨hr,hb⟩;obtain⟨z,rfl,nO,hz⟩:=hr;have HZ:=AA hz;have ou:=AA nO;have jK:=AA (((lN.o.below aV.o).below hb).below ((Below.refl w4.heap.size w4).alloc (Nat.le_refl _) (.cells #[.int .u8 z.ty.head.kind,.int .i64 z.ty.head.rho,.slice z.ty.head.ep z.ty.head.en z.ty.head.ec,.slice z.ty.head.kp z.ty.head.kn z.ty.head.kc,.slice z.ep z.en z.ec] 81)));have oo:=AA (HZ.o.below ((Below.refl w4.heap.size w4).alloc (Nat.le_refl _) (.cells #[.int .u8 z.ty.head.kind,.int .i64 z.ty.head.rho,.slice z.ty.head.ep z.ty.head.en z.ty.head.ec,.slice z.ty.head.kp z.ty.head.kn z.ty.head.kc,.slice z.ep z.en z.ec] 81)));have og:=AA (Al Ge (by omega) w4 81 [z] 1 #[.int .u8 z.ty.head.kind,.int .i64 z.ty.head.rho,.slice z.ty.head.ep z.ty.head.en z.ty.head.ec,.slice z.ty.head.kp z.ty.head.kn z.ty.head.kc,.slice z.ep z.en z.ec] rfl rfl (by decide));clear au hz nO;try go_wp2_with fail
    refine tn hK (aA.step hb) ?_;clear aA hK K;intro aA;refine tr 8 58 fun K hK=>?_;go_simp;refine tn hK (aA.alloc _) ?_;clear aA hK K;intro aA;refine tr 9 59 fun K hK=>?_;have ir:=jK.o.nd.size;refine BC (by rfl) _ _ 148 (by rfl) (w.heap.size+3) 81 _ 5 88 underlying148 Wt rfl (by decide) Ck Ge TP [z] rs k _ jK.o.own _ 1 _ (by rfl) (by rfl) rfl (by intro h;cases h) og.o.row (by omega) (by omega) ir ?_;intro v6 w6 aM bV cJ;have lv:=AA (jK.o.push fG.o oo.o ou.o eR.o oN.o aM bV cJ);clear aM cJ ir;refine tn hK (aA.grown bV rm.o) ?_;clear aA hK K;intro aA;refine tp 10 7 ?_;refine dn ?_;clear aA;go_wp2_with fail;go_roundw
    case rel=>exact⟨k+1,rs++[z],by omega,by go_num,lv.o⟩
    case measure=>simp [intOf];omega
  ·have pH:k=l.length:=by have:=gZ.o;omega
   subst pH;obtain⟨_,_,nJ,cE,jY,j3⟩:=HK.o.row;cases nJ;have bI:=AA cE;have nT:=AA HK.o.full;have mj:l.length≤3:=by have:=gZ.o;omega
   have l6:Hd (Eh wr (Sx w S (.slice p7 l.length c7)) a p7 l.length c7 rs):=
    ⟨LA.below HN.o.own (HC.o.old.trans (HK.o.nd.below.mono HC.o.old.size)),cS.o,bI.o,Pc HK.o.nd.size (fun b' e=>(j3 b' e).2),fun b' aW=>.inl ⟨Nat.lt_of_lt_of_le (AN _ HN.o.own.ty b' aW) HC.o.old.size,HC.o.s0 b' (AN _ HN.o.own.ty b' aW)⟩,by omega,
     (by
      have h1:=HK.o.sum;have h2:=HC.o.hs;rw [AG.size_node] at h2;omega),
     fun r hr=>by
      obtain⟨j,hj⟩:=List.getElem?_of_mem hr;have iZ:j<l.length:=by rw [←jY];exact Bh hj
      have hg:=HK.o.acc j _ r (List.getElem?_eq_getElem iZ) hj;refine⟨hg.1.may,hg.1.effs,?_⟩;have h1:=hg.2;rw [show r.er.1=PT.er r.ty from rfl,EW] at h1;omega⟩
   have oO:Hd (EJ a.plain rs.length):=by have hg:=HC.o.good;rw [PA.er_node] at hg;have h1:=hg.head;rw [List.length_map] at h1;show EJ _ _;rw [jY];exact h1
   have bv:Hd (BE (DZ env) rhos a.plain (l.map PA.er)=AV a.plain (Ak rs)):=by show _=_;rw [HR.o,nT.o]
   clear HR nT cE jY j3 mj;have aN:=AA (VJ l6.o oO.o H2.o ny.o);revert aN bv;generalize AV a.plain (Ak rs)=R;intro bv aN;go_upto_region 16 with fail;rcases R with⟨r1,r2⟩|r
   ·go_wp2_with (first
     |(refine lw HK.o.nd.b.b1.blk underlying31 ?_))
    go_at_call 99;refine aN.o.mono ?_;rintro e W9 ⟨hr,hb⟩;subst hr;exact⟨rfl,by rw [bv.o],(HK.o.nd.step hb).below⟩
   ·go_wp2_with (first
     |(refine lw HK.o.nd.b.b1.blk underlying31 ?_)
     |(go_at_call 99;refine aN.o.mono ?_;rintro e W9 ⟨hr,hb⟩;obtain⟨y,rfl,cM,hy⟩:=hr;have al:=AA (HK.o.nd.step hb);have HY:=AA hy;have dm:=AA cM;clear hy cM)
     |(refine D9 rfl _ _ _ rfl al.o (Cc y) (by rfl) (by rfl) (by kernel_rfl) rfl (by simp [Value.oneCell']) ?_))
    refine br (al.o.heap _) underlying81 ?_;rw [bv.o];exact Mw al.o HC.o.new (HY.o.weak (fun b' _ hs=>hs.imp id And.left)) dm.o
end Go.Proofs.YtkdjnegfnhldpaaGreatDoor
