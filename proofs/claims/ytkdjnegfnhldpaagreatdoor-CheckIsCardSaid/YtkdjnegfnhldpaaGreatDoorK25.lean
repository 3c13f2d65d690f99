/- Part 25. -/
import Derived.Test.YtkdjnegfnhldpaaGreatDoorK24
set_option linter.unusedVariables false
set_option maxRecDepth 100000
set_option linter.unusedSimpArgs false
set_option maxHeartbeats 40000000
namespace Go.Proofs.YtkdjnegfnhldpaaGreatDoor
open Go.Proofs.Tryz Go.RowKit
theorem Nk{w0 w:World}{S:Nat→Prop}{a:AH}{p q r:Option Addr}{n c m mc rn rc:Nat}{env:List BV}{rhos:List Int}{acc:List RV}(hE:Dc w0 w S p n c env)(hq:AE Ab 1 w q m mc rhos)(ha:AH.Own w a)(cZ:AH.Own w0 a)(hS:∀b,w.heap.size≤b→S b)(cR:∀b∈A7 a.ty,S b)(hn:n≤900000)(hm:m≤900000)(d8:a.rn≤50)(hk:a.kind=13):Calls prog 98 #[.agg #[.slice p n c,.slice q m mc],Aj a,.int .i64 0,.slice r rn rc] w (MG w0 w S n m (Ac (DZ env) a.plain 0 (Ak acc)) (Ad rhos a.plain 0)):=by
 have HX:=AA (Fb w a (.slice p n c) (.slice q m mc));have HE:=AA hE;have HQ:=AA hq;have HA:=AA ha;have dj:=AA cZ;have HS:=AA hS;have HT:=AA cR;have bZ:=HX.o.b.b1.c 0 _ rfl;have e11:(a.kind==11)=false:=by simp [hk]
 have e12:(a.kind==12)=false:=by simp [hk]
 have e13:(a.kind==13)=true:=by simp [hk]
 have dd:Hd (Ac (DZ env) a.plain 0 (Ak acc)=DZ env++[⟨a.name,Bu,some a.plain⟩,⟨a.arg,a.ty.er,none⟩]):=by show _=_;unfold Ac;simp [show a.plain.kind=13 from hk];try first|rfl|exact⟨rfl,rfl⟩|exact⟨rfl,rfl,rfl⟩
 have aa:Hd (Ad rhos a.plain 0=rhos++a.rhos):=by show _=_;unfold Ad;simp [show a.plain.kind=13 from hk];try rfl
 rw [dd.o,aa.o];clear hE hq ha cZ hS cR hk;go_enter func98,ntmps98;go_upto_region 6 with fail;clear bZ;generalize (((w.alloc (.cells #[.slice p n c,.slice q m mc] 84)).alloc (AO a)).alloc (.cells #[.slice none 0 0,.slice none 0 0] 84))=W1 at *
 refine rg (fun W'=>Na w a (.slice p n c) (.slice q m mc) W') (HX.o.drew) fun aA=>?_;refine tm 0 52 [.slice p n c,.slice q m mc] 84 w.heap.size 0 (fun W' aC=>aC.b.r0) underlying84 ?_;refine tp 1 53 ?_;refine tp 2 54 ?_ (hy:=fun w aC=>by(try dsimp only at aC);have q8:=aC.b.b1.c 8 _ rfl;go_simp;try with_reducible rfl);refine tp 4 56 ?_;refine tp 5 57 ?_;refine tp 6 58 ?_ (hy:=fun w aC=>by(try dsimp only at aC);have q4:=aC.b.b1.c 4 _ rfl;go_simp;try with_reducible rfl);refine tp 7 59 ?_;refine tp 8 60 ?_;refine tp 9 61 ?_;refine tp 10 62 ?_;refine tp 11 63 ?_ (hy:=fun w aC=>by(try dsimp only at aC);have q5:=aC.b.b1.c 5 _ rfl;go_simp;try with_reducible rfl);refine tp 12 64 ?_;refine t4 13 65 a.ty (w.heap.size+1) 10 (fun W' aC=>Ax aC.b.b1 10 4 rfl) ?_;refine tp 14 66 ?_;refine wpAnyH_ready (rs:=[3,15]) (by kernel_rfl) (by simp) ?_;refine AllReadyH.cons (o:=⟨some 55,_,_,_,_,none⟩) rfl (fun K hK=>?_) (AllReadyH.cons (o:=⟨some 67,_,_,_,_,none⟩) rfl (fun K hK=>?_) AllReadyH.nil)
 ·skip;go_simp;have aU:=aA.size;go_at_call 131;refine(Eb (HQ.o.below aA.below) p n c (HA.o.rhos.below aA.below) (by omega)).mono ?_;rintro e w3 ⟨q',qc',rfl,aD,hb,cX⟩;have gx:=AA aD;have aV:=AA hb
  have iH:Hd ((a.rhos=[]∧q'=q)∨∀ad,q'=some ad→w.heap.size+3≤ad.block):=by
   rcases cX with h1|h1
   ·exact .inl h1
   ·exact .inr (fun ad hp=>Nat.le_trans aU (h1 ad hp))
  clear aD cX aU;try go_wp2_with fail
  refine tn hK (aA.step hb) ?_;clear aA hK K;intro aA;refine tr 15 67 fun K hK=>?_;go_simp;have oB:Hd (AE FV 6 (w3.alloc (.cells #[.string a.name,.int .u8 0,.int .i64 0,.slice none 0 0,.slice none 0 0,.pointer (some ⟨w.heap.size+1,0,none⟩),.string a.arg,.int .u8 a.ty.head.kind,.int .i64 a.ty.head.rho,.slice a.ty.head.ep a.ty.head.en a.ty.head.ec,.slice a.ty.head.kp a.ty.head.kn a.ty.head.kc,.pointer none] 145)) (some ⟨w3.heap.size,0,none⟩) 2 2 [⟨a.name,(.node ⟨0,0,none,0,0,[],none,0,0⟩ []),some (a,w.heap.size+1)⟩,⟨a.arg,a.ty,none⟩]):=Al Ej (by omega) w3 145 [⟨a.name,(.node ⟨0,0,none,0,0,[],none,0,0⟩ []),some (a,w.heap.size+1)⟩,⟨a.arg,a.ty,none⟩] 2 _ rfl rfl (by decide);have od:Hd (Below w3.heap.size w3 (w3.alloc (.cells #[.string a.name,.int .u8 0,.int .i64 0,.slice none 0 0,.slice none 0 0,.pointer (some ⟨w.heap.size+1,0,none⟩),.string a.arg,.int .u8 a.ty.head.kind,.int .i64 a.ty.head.rho,.slice a.ty.head.ep a.ty.head.en a.ty.head.ec,.slice a.ty.head.kp a.ty.head.kn a.ty.head.kc,.pointer none] 145))):=AQ (Below.refl _ _) _;refine tn hK (aA.alloc _) ?_;clear aA hK K;intro aA;refine tr 16 68 fun K hK=>?_;go_simp;have aU:=aA.size;go_at_call 139;refine(DA (HE.o.row.below aA.below) q' (m+a.rn) qc' (oB.o) (by omega)).mono ?_;rintro e w5 ⟨p',c',rfl,aD,hb,cX⟩;have bN:=AA aD;have aw:=AA hb
  have ca:Hd (∀ad,p'=some ad→w.heap.size+3≤ad.block):=fun ad hp=>by
   rcases cX with⟨h1,_⟩|h1
   ·cases h1
   ·exact Nat.le_trans aU (h1 ad hp)
  clear aD cX aU;try go_wp2_with fail
  refine tn hK (aA.step hb) ?_;clear aA hK K;intro aA;refine DV 17 fun K hK=>?_;have al:=AA aA;refine GH rfl _ _ _ (by rfl) aA #[.slice p' (n+2) c',.slice q' (m+a.rn) qc'] (by rfl) (by rfl) (by kernel_rfl) rfl (by simp [Value.oneCell']) ?_;refine tn hK (aA.store rfl) ?_;clear aA hK K;intro aA;refine dn ?_;clear aA;go_wp2_with fail;refine br (al.o.heap _) underlying84 ?_;refine GV al.o HS.o bN.o (fun _ ad hp=>?_) (fun z hz=>?_) (by simp [DZ,BV.er];rfl) ((gx.o.below od.o).below aw.o) (fun hl ad hp=>?_) (by omega) (by omega)
  ·have:=ca.o ad hp;omega
  ·rcases List.mem_append.1 hz with hz|hz
   ·have ho:=(HE.o.each z hz);refine⟨(ho.below al.o.below).weak (fun x hx=>.inl ⟨AN _ ho.ty x hx,ho.uses x hx⟩),fun a' g e=>?_⟩;have:=(ho.fn a' g e).2.2;omega
   ·simp only [List.mem_cons,List.not_mem_nil,or_false] at hz;rcases hz with rfl|rfl
    ·exact⟨⟨(FC w5 (Si w S)).1,(FC w5 (Si w S)).2,fun a' g e=>(by cases e;exact⟨⟨fun i v hv=>al.o.b.b1.c (0+i) v (by simpa using hv)⟩,dj.o,by have:=al.o.size;omega⟩),HA.o.name⟩,fun a' g e=>(by cases e;omega)⟩
    ·exact⟨⟨LR.lies_below al.o.below _ HA.o.ty,fun x hx=>.inl ⟨AN _ HA.o.ty x hx,HT.o x hx⟩,fun a' g e=>(nomatch e),HA.o.arg⟩,fun a' g e=>(nomatch e)⟩
  ·rcases iH.o with⟨h0,h1⟩|h1
   ·have jw:rhos≠[]:=by intro h2;apply hl;rw [h2,h0];rfl
    have:=Bf HQ.o.row jw (h1▸hp);omega
   ·have:=h1 ad hp;omega
 ·skip;go_simp;refine tn hK (aA.alloc _) ?_;clear aA hK K;intro aA;refine tr 3 55 fun K hK=>?_;go_simp;have aU:=aA.size;go_at_call 131;refine(Eb (HQ.o.below aA.below) p n c (HA.o.rhos.below aA.below) (by omega)).mono ?_;rintro e w3 ⟨q',qc',rfl,aD,hb,cX⟩;have gx:=AA aD;have aV:=AA hb
  have iH:Hd ((a.rhos=[]∧q'=q)∨∀ad,q'=some ad→w.heap.size+3≤ad.block):=by
   rcases cX with h1|h1
   ·exact .inl h1
   ·exact .inr (fun ad hp=>Nat.le_trans aU (h1 ad hp))
  have oB:=AA (((Al Ej (by omega) W1 145 [⟨a.name,(.node ⟨0,0,none,0,0,[],none,0,0⟩ []),some (a,w.heap.size+1)⟩,⟨a.arg,a.ty,none⟩] 2 _ rfl rfl (by decide)).below (AC _)).below hb);have od:=AA (Below.refl w3.heap.size w3);clear aD cX aU;try go_wp2_with fail
  refine tn hK (aA.step hb) ?_;clear aA hK K;intro aA;refine tr 16 68 fun K hK=>?_;go_simp;have aU:=aA.size;go_at_call 139;refine(DA (HE.o.row.below aA.below) q' (m+a.rn) qc' (oB.o) (by omega)).mono ?_;rintro e w5 ⟨p',c',rfl,aD,hb,cX⟩;have bN:=AA aD;have aw:=AA hb
  have ca:Hd (∀ad,p'=some ad→w.heap.size+3≤ad.block):=fun ad hp=>by
   rcases cX with⟨h1,_⟩|h1
   ·cases h1
   ·exact Nat.le_trans aU (h1 ad hp)
  clear aD cX aU;try go_wp2_with fail
  refine tn hK (aA.step hb) ?_;clear aA hK K;intro aA;refine DV 17 fun K hK=>?_;have al:=AA aA;refine GH rfl _ _ _ (by rfl) aA #[.slice p' (n+2) c',.slice q' (m+a.rn) qc'] (by rfl) (by rfl) (by kernel_rfl) rfl (by simp [Value.oneCell']) ?_;refine tn hK (aA.store rfl) ?_;clear aA hK K;intro aA;refine dn ?_;clear aA;go_wp2_with fail;refine br (al.o.heap _) underlying84 ?_;refine GV al.o HS.o bN.o (fun _ ad hp=>?_) (fun z hz=>?_) (by simp [DZ,BV.er];rfl) ((gx.o.below od.o).below aw.o) (fun hl ad hp=>?_) (by omega) (by omega)
  ·have:=ca.o ad hp;omega
  ·rcases List.mem_append.1 hz with hz|hz
   ·have ho:=(HE.o.each z hz);refine⟨(ho.below al.o.below).weak (fun x hx=>.inl ⟨AN _ ho.ty x hx,ho.uses x hx⟩),fun a' g e=>?_⟩;have:=(ho.fn a' g e).2.2;omega
   ·simp only [List.mem_cons,List.not_mem_nil,or_false] at hz;rcases hz with rfl|rfl
    ·exact⟨⟨(FC w5 (Si w S)).1,(FC w5 (Si w S)).2,fun a' g e=>(by cases e;exact⟨⟨fun i v hv=>al.o.b.b1.c (0+i) v (by simpa using hv)⟩,dj.o,by have:=al.o.size;omega⟩),HA.o.name⟩,fun a' g e=>(by cases e;omega)⟩
    ·exact⟨⟨LR.lies_below al.o.below _ HA.o.ty,fun x hx=>.inl ⟨AN _ HA.o.ty x hx,HT.o x hx⟩,fun a' g e=>(nomatch e),HA.o.arg⟩,fun a' g e=>(nomatch e)⟩
  ·rcases iH.o with⟨h0,h1⟩|h1
   ·have jw:rhos≠[]:=by intro h2;apply hl;rw [h2,h0];rfl
    have:=Bf HQ.o.row jw (h1▸hp);omega
   ·have:=h1 ad hp;omega
theorem OM{w0 w:World}{S:Nat→Prop}{a:AH}{p q r:Option Addr}{n c m mc rn rc:Nat}{env:List BV}{rhos:List Int}{acc:List RV}(i:Nat)(hE:Dc w0 w S p n c env)(hq:AE Ab 1 w q m mc rhos)(ha:AH.Own w a)(cZ:AH.Own w0 a)(hS:∀b,w.heap.size≤b→S b)(cR:∀b∈A7 a.ty,S b)(hn:n≤900000)(hm:m≤900000)(d8:a.rn≤50)(cE:Jw w S r rn rc acc)(eG:a.kind=12→i=1→acc.length=1):Calls prog 98 #[.agg #[.slice p n c,.slice q m mc],Aj a,.int .i64 (i:Int),.slice r rn rc] w (MG w0 w S n m (Ac (DZ env) a.plain i (Ak acc)) (Ad rhos a.plain i)):=by
 have e:((i:Int)).toNat=i:=Int.toNat_natCast i;have h0:(0:Int)≤(i:Int):=Int.natCast_nonneg i;by_cases k11:a.kind=11
 ·have:=Uv (r:=r) (rn:=rn) (rc:=rc) (acc:=acc) (i:=(i:Int)) hE hq ha cZ hS cR hn hm k11;rwa [e] at this
 by_cases k12:a.kind=12
 ·by_cases hi:i=1
  ·subst hi;have hl:=eG k12 rfl;match acc,cE,hl with
   |[x],cE,_=>
    obtain⟨b,o,hp,_⟩:=cE.row.row.elem (j:=0) (x:=x) rfl;subst hp;obtain rfl:rn=1:=cE.row.len.symm;exact Rw hE hq ha cZ hS cR hn hm cE k12
  ·have:=Rv (r:=r) (rn:=rn) (rc:=rc) (acc:=acc) (i:=(i:Int)) hE hq ha cZ hS cR hn hm k12 h0 (by omega);rwa [e] at this
 by_cases k13:a.kind=13
 ·by_cases hi:i=0
  ·subst hi;exact Nk hE hq ha cZ hS cR hn hm d8 k13
  ·have:=O6 (r:=r) (rn:=rn) (rc:=rc) (acc:=acc) (i:=(i:Int)) hE hq ha cZ hS cR hn hm k13 h0 (by omega);rwa [e] at this
 by_cases k16:a.kind=16
 ·by_cases hi:i=1
  ·have:=O5 (r:=r) (rn:=rn) (rc:=rc) (acc:=acc) (i:=(i:Int)) hE hq ha cZ hS cR hn hm k16 (by omega);rwa [e] at this
  ·have:=Nj (r:=r) (rn:=rn) (rc:=rc) (acc:=acc) (i:=(i:Int)) hE hq ha cZ hS cR hn hm k16 h0 (by omega);rwa [e] at this
 by_cases k17:a.kind=17
 ·have:=O7 (r:=r) (rn:=rn) (rc:=rc) (acc:=acc) (i:=(i:Int)) hE hq ha cZ hS cR hn hm k17;rwa [e] at this
 ·have:=QW (r:=r) (rn:=rn) (rc:=rc) (acc:=acc) (i:=(i:Int)) hE hq ha cZ hS cR hn hm k11 k12 k13 k16 k17;rwa [e] at this
theorem Ty{w:World}{S:Nat→Prop}{a:AH}{b o c:Nat}{x y:RV}(h:Eh w S a (some ⟨b,o,none⟩) 2 c [x,y])(hk:a.kind=3):Calls prog 99 #[Aj a,.slice (some ⟨b,o,none⟩) 2 c] w (Dd w S (AV a.plain (Ak [x,y]))):=by
 have HX:=AA (Ct w a);have HH:=AA h;have bK:=h.sum;have e3:(a.kind==3)=true:=by simp [hk]
 have bZ:=HX.o.box.c 0 _ rfl;have aN:Hd (AV a.plain (Ak [x,y])=.ok (Iz 2 a.rho [] [x.ty.er,y.ty.er],BO (Ak [x,y]) [A3 a.rho])):=by show _=_;unfold AV;simp [show a.plain.kind=3 from hk];try first|rfl|exact⟨rfl,rfl⟩
 rw [aN.o];clear h hk;go_enter func99,ntmps99;go_upto_region 4 with fail;clear bZ e3;generalize (w.alloc (AO a)).alloc (.cells #[.int .u8 0,.int .i64 0,.slice none 0 0,.slice none 0 0,.slice none 0 0] 81)=W1 at *
 refine rg (fun W'=>FU w a W') (HX.o.drew) fun aA=>?_;refine tp 0 13 ?_;refine tp 1 14 ?_ (hy:=fun w aC=>by(try dsimp only at aC);have q7:=aC.box.c 7 _ rfl;go_simp;try with_reducible rfl);refine tp 2 15 ?_;refine tp 3 16 ?_;refine tp 4 17 ?_;refine t4 5 18 x.ty b o (fun W' aC=>G7 (HH.o.res.row.below aC.below)) ?_;refine tp 6 19 ?_;refine tp 7 20 ?_;refine tp 8 21 ?_;refine t4 9 22 y.ty b (o+5) (fun W' aC=>Ih (HH.o.res.row.below aC.below)) ?_;refine tp 12 25 ?_;refine tp 13 26 ?_;refine tp 14 27 ?_ (hy:=fun w aC=>by(try dsimp only at aC);have q7:=aC.box.c 7 _ rfl;go_simp;try with_reducible rfl);refine tr 10 23 fun K hK=>?_;go_simp;refine tn hK (aA.alloc _) ?_;clear aA hK K;intro aA;refine tr 11 24 fun K hK=>?_;go_simp;go_at_call 136;refine(DG 2 a.rho (AE.none AS 3 _) (by omega) (some ⟨W1.heap.size,0,none⟩) 2 2).mono ?_;rintro e w2 ⟨q,m,qc,rfl,aD,bw,hb⟩;have bv:Hd (AE AS 3 w2 q m qc []):=aD;have dO:Hd (Da w2 (some ⟨W1.heap.size,0,none⟩) 2 2 [x.ty,y.ty]):=((DQ (LR.lies_below HX.o.below _ (HH.o.res.each x (by simp)).ty) (LR.lies_below HX.o.below _ (HH.o.res.each y (by simp)).ty) 28).below (AC _)).below hb;clear aD bw;try go_wp2_with fail
 refine tn hK (aA.step hb) ?_;clear aA hK K;intro aA;refine tr 15 28 fun K hK=>?_;go_simp;go_at_call 138;refine(DS a.rho _).mono ?_;rintro e w3 ⟨rfl,hb⟩;have aV:=AA hb;try go_wp2_with fail
 refine tn hK (aA.step hb) ?_;clear aA hK K;intro aA;refine tr 16 29 fun K hK=>?_;go_simp;refine tn hK (aA.alloc _) ?_;clear aA hK K;intro aA;refine tr 17 30 fun K hK=>?_;go_simp;go_at_call 140;refine(BM (HH.o.res.row.below aA.below) (fun r hr=>((HH.o.res.each r hr).below aA.below).eff) (CG w3 (A3 a.rho)) (by decide) (by omega)).mono ?_;rintro e w5 ⟨v5,k5,rfl,aI,hb⟩;obtain⟨q5,c5,rfl,aQ⟩:=AJ.isRow AF (by omega) aI;have aZ:=(fun ad hp=>by subst hp;exact AJ.from aI ad.block rfl:∀ad,q5=some ad→(w3.alloc (.cells #[.int .u8 (A3 a.rho).kind,.int .i64 (A3 a.rho).rho,.string (A3 a.rho).exn] 59)).heap.size≤ad.block);have bN:=AA aQ;have ca:=AA aZ;have aw:=AA hb;clear aI aQ aZ;try go_wp2_with fail
 refine tn hK (aA.step hb) ?_;clear aA hK K;intro aA;refine tp 18 31 ?_;refine DV 19 fun K hK=>?_;have al:=AA aA;refine A9 rfl _ _ _ (by rfl) aA #[.int .u8 2,.int .i64 a.rho,.slice q m qc,.slice (some ⟨W1.heap.size,0,none⟩) 2 2,.slice q5 k5 c5] (by rfl) (by rfl) (by kernel_rfl) rfl (by simp [Value.oneCell']) ?_;refine tn hK (aA.store rfl) ?_;clear aA hK K;intro aA;refine dn ?_;clear aA;go_wp2_with fail;refine br (al.o.heap _) underlying81 ?_;have aB:=HH.o.own;have fT:Below w2.heap.size w2 w5:=AK (AQ aV.o _) aw.o;have eQ:=HX.o.size;refine EG (y:=⟨.node ⟨2,a.rho,q,m,qc,[],some ⟨W1.heap.size,0,none⟩,2,2⟩ [x.ty,y.ty],q5,k5,c5,BO (Ak [x,y]) [A3 a.rho]⟩) al.o HH.o.new ⟨Es (by decide) aB.rho (bv.o.below fT) (fun x hx=>(nomatch hx)) (dO.o.below fT),?_,bN.o,Dl (fun r hr=>(HH.o.res.each r hr).eok) (fun z hz=>by rw [List.mem_singleton] at hz;subst hz;exact Cr aB.rho.1 aB.rho.2),fun _ ad hp=>.inr ?_⟩ rfl
 ·have hr:=Eu HH.o.res (Below.refl _ _);exact Et (hr.each x (by simp)).uses (hr.each y (by simp)).uses (.inr eQ) (fun h=>absurd rfl h)
 ·have h1:=ca.o ad hp;have h2:=aV.o.size;have h3:=dO.o;simp only [World.size_alloc] at h1;have h4:W1.heap.size≤w2.heap.size:=by obtain⟨b',o',e1,e2,_⟩:=dO.o.kid (j:=0) rfl;cases e1;omega
  omega
theorem VP{w:World}{S:Nat→Prop}{a:AH}{b o c:Nat}{x:RV}(h:Eh w S a (some ⟨b,o,none⟩) 1 c [x])(hk:a.kind=6):Calls prog 99 #[Aj a,.slice (some ⟨b,o,none⟩) 1 c] w (Dd w S (AV a.plain (Ak [x]))):=by
 have HX:=AA (Ct w a);have HH:=AA h;have bK:=h.sum;have e3:(a.kind==3)=false:=by simp [hk]
 have e4:(a.kind==4)=false:=by simp [hk]
 have e5:(a.kind==5)=false:=by simp [hk]
 have e6:(a.kind==6)=true:=by simp [hk]
 have bZ:=HX.o.box.c 0 _ rfl;have aN:Hd (AV a.plain (Ak [x])=.ok (Iz 3 a.rho [] [x.ty.er],BO (Ak [x]) [A3 a.rho])):=by show _=_;unfold AV;simp [show a.plain.kind=6 from hk];try first|rfl|exact⟨rfl,rfl⟩
 rw [aN.o];clear h hk;go_enter func99,ntmps99;go_upto_region 10 with fail;clear bZ e3 e4 e5 e6;generalize (w.alloc (AO a)).alloc (.cells #[.int .u8 0,.int .i64 0,.slice none 0 0,.slice none 0 0,.slice none 0 0] 81)=W1 at *
 refine rg (fun W'=>FU w a W') (HX.o.drew) fun aA=>?_;refine tp 0 64 ?_;refine tp 1 65 ?_ (hy:=fun w aC=>by(try dsimp only at aC);have q7:=aC.box.c 7 _ rfl;go_simp;try with_reducible rfl);refine tp 2 66 ?_;refine tp 3 67 ?_;refine tp 4 68 ?_;refine t4 5 69 x.ty b o (fun W' aC=>G7 (HH.o.res.row.below aC.below)) ?_;refine tp 8 72 ?_;refine tp 9 73 ?_;refine tp 10 74 ?_ (hy:=fun w aC=>by(try dsimp only at aC);have q7:=aC.box.c 7 _ rfl;go_simp;try with_reducible rfl);refine tr 6 70 fun K hK=>?_;go_simp;refine tn hK (aA.alloc _) ?_;clear aA hK K;intro aA;refine tr 7 71 fun K hK=>?_;go_simp;go_at_call 136;refine(DG 3 a.rho (AE.none AS 3 _) (by omega) (some ⟨W1.heap.size,0,none⟩) 1 1).mono ?_;rintro e w2 ⟨q,m,qc,rfl,aD,bw,hb⟩;have bv:Hd (AE AS 3 w2 q m qc []):=aD;have dO:Hd (Da w2 (some ⟨W1.heap.size,0,none⟩) 1 1 [x.ty]):=((Ev (LR.lies_below HX.o.below _ (HH.o.res.each x (by simp)).ty) 28).below (AC _)).below hb;clear aD bw;try go_wp2_with fail
 refine tn hK (aA.step hb) ?_;clear aA hK K;intro aA;refine tr 11 75 fun K hK=>?_;go_simp;go_at_call 138;refine(DS a.rho _).mono ?_;rintro e w3 ⟨rfl,hb⟩;have aV:=AA hb;try go_wp2_with fail
 refine tn hK (aA.step hb) ?_;clear aA hK K;intro aA;refine tr 12 76 fun K hK=>?_;go_simp;refine tn hK (aA.alloc _) ?_;clear aA hK K;intro aA;refine tr 13 77 fun K hK=>?_;go_simp;go_at_call 140;refine(BM (HH.o.res.row.below aA.below) (fun r hr=>((HH.o.res.each r hr).below aA.below).eff) (CG w3 (A3 a.rho)) (by decide) (by omega)).mono ?_;rintro e w5 ⟨v5,k5,rfl,aI,hb⟩;obtain⟨q5,c5,rfl,aQ⟩:=AJ.isRow AF (by omega) aI;have aZ:=(fun ad hp=>by subst hp;exact AJ.from aI ad.block rfl:∀ad,q5=some ad→(w3.alloc (.cells #[.int .u8 (A3 a.rho).kind,.int .i64 (A3 a.rho).rho,.string (A3 a.rho).exn] 59)).heap.size≤ad.block);have bN:=AA aQ;have ca:=AA aZ;have aw:=AA hb;clear aI aQ aZ;try go_wp2_with fail
 refine tn hK (aA.step hb) ?_;clear aA hK K;intro aA;refine tp 14 78 ?_;refine DV 15 fun K hK=>?_;have al:=AA aA;refine A9 rfl _ _ _ (by rfl) aA #[.int .u8 3,.int .i64 a.rho,.slice q m qc,.slice (some ⟨W1.heap.size,0,none⟩) 1 1,.slice q5 k5 c5] (by rfl) (by rfl) (by kernel_rfl) rfl (by simp [Value.oneCell']) ?_;refine tn hK (aA.store rfl) ?_;clear aA hK K;intro aA;refine dn ?_;clear aA;go_wp2_with fail;refine br (al.o.heap _) underlying81 ?_;have aB:=HH.o.own;have fT:Below w2.heap.size w2 w5:=AK (AQ aV.o _) aw.o;have eQ:=HX.o.size;refine EG (y:=⟨.node ⟨3,a.rho,q,m,qc,[],some ⟨W1.heap.size,0,none⟩,1,1⟩ [x.ty],q5,k5,c5,BO (Ak [x]) [A3 a.rho]⟩) al.o HH.o.new ⟨Mu (by decide) aB.rho (bv.o.below fT) (fun x hx=>(nomatch hx)) (dO.o.below fT),?_,bN.o,Dl (fun r hr=>(HH.o.res.each r hr).eok) (fun z hz=>by rw [List.mem_singleton] at hz;subst hz;exact Cr aB.rho.1 aB.rho.2),fun _ ad hp=>.inr ?_⟩ rfl
 ·have hr:=Eu HH.o.res (Below.refl _ _);exact Mv (hr.each x (by simp)).uses (.inr eQ) (fun h=>absurd rfl h)
 ·have h1:=ca.o ad hp;have h2:=aV.o.size;simp only [World.size_alloc] at h1;have h4:W1.heap.size≤w2.heap.size:=by obtain⟨b',o',e1,e2,_⟩:=dO.o.kid (j:=0) rfl;cases e1;omega
  omega
theorem MA{p:Option Addr}{n c:Nat}{l:List RV}{w:World}{u:Bool}(hu:l.all (fun r=>r.ty.head.kind==1)=u)(hr:AE Ck 5 w p n c l):Calls prog 143 #[.slice p n c] w (RB w (.bool u)):=by subst hu;exact MR hr
theorem VO{w:World}{S:Nat→Prop}{a:AH}{p:Option Addr}{n c:Nat}{l:List RV}(h:Eh w S a p n c l)(hk:a.kind=1):Calls prog 99 #[Aj a,.slice p n c] w (Dd w S (AV a.plain (Ak l))):=by
 have HX:=AA (Ct w a);have HH:=AA h;have iY:=h.few;have bK:=h.sum;have e3:(a.kind==3)=false:=by simp [hk]
 have e4:(a.kind==4)=false:=by simp [hk]
 have e5:(a.kind==5)=false:=by simp [hk]
 have e6:(a.kind==6)=false:=by simp [hk]
 have e7:(a.kind==7)=false:=by simp [hk]
 have e8:(a.kind==8)=false:=by simp [hk]
 have e10:(a.kind==10)=false:=by simp [hk]
 have e9:(a.kind==9)=false:=by simp [hk]
 have e14:(a.kind==14)=false:=by simp [hk]
 have e15:(a.kind==15)=false:=by simp [hk]
 have e1:(a.kind==1)=true:=by simp [hk]
 have bZ:=HX.o.box.c 0 _ rfl;have aN:Hd (AV a.plain (Ak l)=.ok (Ij,BO (Ak l) [])):=by show _=_;unfold AV;simp [show a.plain.kind=1 from hk]
 rw [aN.o];clear h hk;go_enter func99,ntmps99;go_upto_region 29 with fail;clear bZ e3 e4 e5 e6 e7 e8 e10 e9 e14 e15 e1;generalize (w.alloc (AO a)).alloc (.cells #[.int .u8 0,.int .i64 0,.slice none 0 0,.slice none 0 0,.slice none 0 0] 81)=W1 at *
 go_wp2_with (first
  |(refine Ew rfl _ _ _ rfl aR.o #[.int .u8 1,.int .i64 0,.slice q m qc,.slice none 0 0,.slice q3 k3 c3] rfl rfl (by kernel_rfl) rfl (by simp [Value.oneCell']) ?_)
  |(go_at_call 136;refine(DG 1 0 (AE.none AS 3 _) (by omega) none 0 0).mono ?_;rintro e w2 ⟨q,m,qc,rfl,aD,bw,hb⟩;have bv:Hd (AE AS 3 w2 q m qc []):=aD;have ah:=AA (HX.o.step hb);clear aD bw hb)
  |(go_at_call 140;refine(BM (HH.o.res.row.below ah.o.below) (fun r hr=>((HH.o.res.each r hr).below ah.o.below).eff) (AE.none AS 3 _) iY (by omega)).mono ?_;rintro e w3 ⟨v3,k3,rfl,aX,dq⟩;obtain⟨q3,c3,rfl,bP⟩:=AJ.isRow AF (by omega) aX;have fU:=(fun ad hp=>by subst hp;exact AJ.from aX ad.block rfl:∀ad,q3=some ad→w2.heap.size≤ad.block);have gx:=AA bP;have iH:=AA fU;have aR:=AA (ah.o.step dq);have aV:=AA dq;clear aX bP fU dq))
 refine br (aR.o.heap _) underlying81 ?_;exact Rx aR.o HH.o.new (bv.o.below aV.o) gx.o (fun ad hp=>by have h1:=iH.o ad hp;have h2:=ah.o.size;omega) (Dl (fun r hr=>(HH.o.res.each r hr).eok) (fun x hx=>(nomatch hx)))
theorem WK{w:World}{S:Nat→Prop}{a:AH}{p:Option Addr}{n c:Nat}{l:List RV}(h:Eh w S a p n c l)(hk:a.kind=9):Calls prog 99 #[Aj a,.slice p n c] w (Dd w S (AV a.plain (Ak l))):=by
 have HX:=AA (Ct w a);have HH:=AA h;have iY:=h.few;have bK:=h.sum;have e3:(a.kind==3)=false:=by simp [hk]
 have e4:(a.kind==4)=false:=by simp [hk]
 have e5:(a.kind==5)=false:=by simp [hk]
 have e6:(a.kind==6)=false:=by simp [hk]
 have e7:(a.kind==7)=false:=by simp [hk]
 have e8:(a.kind==8)=false:=by simp [hk]
 have e10:(a.kind==10)=false:=by simp [hk]
 have e9:(a.kind==9)=true:=by simp [hk]
 have bZ:=HX.o.box.c 0 _ rfl;obtain⟨u,hu⟩:∃u,l.all (fun r=>r.ty.head.kind==1)=u:=⟨_,rfl⟩;have HU:=AA hu;have aN:Hd (AV a.plain (Ak l)=A4 u a.plain 5 (.ok (Ij,BO (Ak l) []))):=by show _=_;unfold AV;rw [←hu,←UO];simp [show a.plain.kind=9 from hk];try rfl
 rw [aN.o];clear h hk hu;go_enter func99,ntmps99;go_upto_region 21 with fail;clear bZ;generalize (w.alloc (AO a)).alloc (.cells #[.int .u8 0,.int .i64 0,.slice none 0 0,.slice none 0 0,.slice none 0 0] 81)=W1 at *
 refine rg (fun W'=>FU w a W') (HX.o.drew) fun aA=>?_;refine tp 0 185 ?_;refine ta 2 187 a w.heap.size 0 (fun W' aC=>aC.box.range) ?_;refine tr 1 186 fun K hK=>?_;go_simp;go_at_call 143;refine(MA HU.o (HH.o.res.row.below aA.below)).mono ?_;rintro e w8 ⟨rfl,hb⟩;try go_wp2_with fail
 refine tn hK (aA.step hb) ?_;clear aA hK K;intro aA;refine tr 3 188 fun K hK=>?_;go_simp;cases u
 ·go_at_call 64;refine(Bd a 5 _).mono ?_;rintro e w9 ⟨rfl,hb⟩;exact⟨rfl,rfl,(aA.step hb).below⟩
 go_at_call 64;refine(BZ a 5 _).mono ?_;rintro e w9 ⟨rfl,hb⟩;try go_wp2_with fail
 refine tn hK (aA.step hb) ?_;clear aA hK K;intro aA;refine dn ?_;clear HX;have HX:=AA aA;clear aA
 go_wp2_with (first
  |(refine Ew rfl _ _ _ rfl aR.o #[.int .u8 1,.int .i64 0,.slice q m qc,.slice none 0 0,.slice q3 k3 c3] rfl rfl (by kernel_rfl) rfl (by simp [Value.oneCell']) ?_)
  |(go_at_call 136;refine(DG 1 0 (AE.none AS 3 _) (by omega) none 0 0).mono ?_;rintro e w2 ⟨q,m,qc,rfl,aD,bw,hb⟩;have bv:Hd (AE AS 3 w2 q m qc []):=aD;have ah:=AA (HX.o.step hb);clear aD bw hb)
  |(go_at_call 140;refine(BM (HH.o.res.row.below ah.o.below) (fun r hr=>((HH.o.res.each r hr).below ah.o.below).eff) (AE.none AS 3 _) iY (by omega)).mono ?_;rintro e w3 ⟨v3,k3,rfl,aX,dq⟩;obtain⟨q3,c3,rfl,bP⟩:=AJ.isRow AF (by omega) aX;have fU:=(fun ad hp=>by subst hp;exact AJ.from aX ad.block rfl:∀ad,q3=some ad→w2.heap.size≤ad.block);have gx:=AA bP;have iH:=AA fU;have aR:=AA (ah.o.step dq);have aV:=AA dq;clear aX bP fU dq))
 refine br (aR.o.heap _) underlying81 ?_;exact Rx aR.o HH.o.new (bv.o.below aV.o) gx.o (fun ad hp=>by have h1:=iH.o ad hp;have h2:=ah.o.size;omega) (Dl (fun r hr=>(HH.o.res.each r hr).eok) (fun x hx=>(nomatch hx)))
theorem SF{w:World}{S:Nat→Prop}{a:AH}{p:Option Addr}{n c:Nat}{l:List RV}(h:Eh w S a p n c l)(hk:a.kind=15):Calls prog 99 #[Aj a,.slice p n c] w (Dd w S (AV a.plain (Ak l))):=by
 have HX:=AA (Ct w a);have HH:=AA h;have iY:=h.few;have bK:=h.sum;have e3:(a.kind==3)=false:=by simp [hk]
 have e4:(a.kind==4)=false:=by simp [hk]
 have e5:(a.kind==5)=false:=by simp [hk]
 have e6:(a.kind==6)=false:=by simp [hk]
 have e7:(a.kind==7)=false:=by simp [hk]
 have e8:(a.kind==8)=false:=by simp [hk]
 have e10:(a.kind==10)=false:=by simp [hk]
 have e9:(a.kind==9)=false:=by simp [hk]
 have e14:(a.kind==14)=false:=by simp [hk]
 have e15:(a.kind==15)=true:=by simp [hk]
 have bZ:=HX.o.box.c 0 _ rfl;obtain⟨u,hu⟩:∃u,l.all (fun r=>r.ty.head.kind==1)=u:=⟨_,rfl⟩;have HU:=AA hu;have aN:Hd (AV a.plain (Ak l)=A4 u a.plain 5 (.ok (a.ty.er,BO (Ak l) [Ol a.exn]))):=by show _=_;unfold AV;rw [←hu,←UO];simp [show a.plain.kind=15 from hk];try rfl
 rw [aN.o];clear h hk hu;go_enter func99,ntmps99;go_upto_region 26 with fail;clear bZ;generalize (w.alloc (AO a)).alloc (.cells #[.int .u8 0,.int .i64 0,.slice none 0 0,.slice none 0 0,.slice none 0 0] 81)=W1 at *
 refine rg (fun W'=>FU w a W') (HX.o.drew) fun aA=>?_;refine tp 0 218 ?_;refine ta 2 220 a w.heap.size 0 (fun W' aC=>aC.box.range) ?_;refine tr 1 219 fun K hK=>?_;go_simp;go_at_call 143;refine(MA HU.o (HH.o.res.row.below aA.below)).mono ?_;rintro e w8 ⟨rfl,hb⟩;try go_wp2_with fail
 refine tn hK (aA.step hb) ?_;clear aA hK K;intro aA;refine tr 3 221 fun K hK=>?_;go_simp;cases u
 ·go_at_call 64;refine(Bd a 5 _).mono ?_;rintro e w9 ⟨rfl,hb⟩;exact⟨rfl,rfl,(aA.step hb).below⟩
 go_at_call 64;refine(BZ a 5 _).mono ?_;rintro e w9 ⟨rfl,hb⟩;try go_wp2_with fail
 refine tn hK (aA.step hb) ?_;clear aA hK K;intro aA;refine dn ?_;clear HX;have HX:=AA aA;clear aA;go_upto_region 27 with fail;refine rg (fun W'=>FU w a W') (HX.o.drew) fun aA=>?_;refine tp 0 222 ?_;refine t4 1 223 a.ty w.heap.size 10 (fun W' aC=>Ax aC.box 10 4 rfl) ?_;refine tp 2 224 ?_;refine tp 3 225 ?_;refine tp 4 226 ?_;refine tp 5 227 ?_ (hy:=fun w aC=>by(try dsimp only at aC);have q6:=aC.box.c 6 _ rfl;go_simp;try with_reducible rfl);refine tp 6 228 ?_;refine tr 7 229 fun K hK=>?_;go_simp;refine tn hK (aA.alloc _) ?_;clear aA hK K;intro aA;refine tr 8 230 fun K hK=>?_;go_simp;go_at_call 140;refine(BM (HH.o.res.row.below aA.below) (fun r hr=>((HH.o.res.each r hr).below aA.below).eff) ((CG w9 (Ol a.exn)).below (AC _)) iY (by omega)).mono ?_;rintro e w5 ⟨v5,k5,rfl,aI,hb⟩;obtain⟨q5,c5,rfl,aQ⟩:=AJ.isRow AF (by omega) aI;have aZ:=(fun ad hp=>by subst hp;have:=AJ.from aI ad.block rfl;simpa using this:∀ad,q5=some ad→w9.heap.size+1≤ad.block);have bN:=AA aQ;have ca:=AA aZ;clear aI aQ aZ;try go_wp2_with fail
 refine tn hK (aA.step hb) ?_;clear aA hK K;intro aA;refine tp 9 231 ?_;refine DV 10 fun K hK=>?_;have al:=AA aA;refine A9 rfl _ _ _ (by rfl) aA #[.int .u8 a.ty.head.kind,.int .i64 a.ty.head.rho,.slice a.ty.head.ep a.ty.head.en a.ty.head.ec,.slice a.ty.head.kp a.ty.head.kn a.ty.head.kc,.slice q5 k5 c5] (by rfl) (by rfl) (by kernel_rfl) rfl (by simp [Value.oneCell']) ?_;refine tn hK (aA.store rfl) ?_;clear aA hK K;intro aA;refine dn ?_;clear aA;go_wp2_with fail;refine br (al.o.heap _) underlying81 ?_;have aB:=HH.o.own;have eQ:=HX.o.size;refine EG (y:=⟨a.ty,q5,k5,c5,BO (Ak l) [Ol a.exn]⟩) al.o HH.o.new ⟨LR.lies_below al.o.below _ aB.ty,fun z hz=>.inl ⟨AN _ aB.ty z hz,HH.o.ty z hz⟩,bN.o,Dl (fun r hr=>(HH.o.res.each r hr).eok) (fun z hz=>by rw [List.mem_singleton] at hz;subst hz;exact⟨by show (0:Int)≤3;decide,by show (3:Int)≤255;decide,by show _≤(0:Int);decide,by show (0:Int)≤_;decide,aB.exn⟩),fun _ ad hp=>.inr ?_⟩ rfl;have h1:=ca.o ad hp;omega
theorem DM{r:RV}{k:Int}{u:Bool}(hu:(r.ty.head.kind==k)=u)(w:World):Calls prog 141 #[K9 r,.int .u8 k] w (RB w (.bool u)):=by subst hu;exact JJ r k w
theorem VL{w:World}{S:Nat→Prop}{a:AH}{b o c:Nat}{x:RV}(h:Eh w S a (some ⟨b,o,none⟩) 1 c [x])(hk:a.kind=4):Calls prog 99 #[Aj a,.slice (some ⟨b,o,none⟩) 1 c] w (Dd w S (AV a.plain (Ak [x]))):=by
 have HX:=AA (Ct w a);have HH:=AA h;have bK:=h.sum;have e3:(a.kind==3)=false:=by simp [hk]
 have e4:(a.kind==4)=true:=by simp [hk]
 have bZ:=HX.o.box.c 0 _ rfl;have aN:Hd (AV a.plain (Ak [x])=A4 (x.ty.head.kind==2) a.plain 5 (.ok (x.ty.er.kids.getD 0 Bu,BO (Ak [x]) [Bm x.ty.head.rho]))):=by show _=_;unfold AV;simp [show a.plain.kind=4 from hk,Ak,←EE,EV];try first|rfl|exact⟨rfl,rfl⟩
 have jZ:IntKind.u8.wrap (a.kind-4)=0:=by rw [hk];rfl
 obtain⟨u,hu⟩:∃u,(x.ty.head.kind==2)=u:=⟨_,rfl⟩;rw [aN.o,hu];have HU:=AA hu;clear hu;clear h hk;go_enter func99,ntmps99;go_upto_region 7 with fail;clear bZ e3 e4;generalize (w.alloc (AO a)).alloc (.cells #[.int .u8 0,.int .i64 0,.slice none 0 0,.slice none 0 0,.slice none 0 0] 81)=W1 at *
 refine rg (fun W'=>FU w a W') (HX.o.drew) fun aA=>?_;refine tp 0 35 ?_;refine tp 1 36 ?_;refine tm 2 37 [.int .u8 x.ty.head.kind,.int .i64 x.ty.head.rho,.slice x.ty.head.ep x.ty.head.en x.ty.head.ec,.slice x.ty.head.kp x.ty.head.kn x.ty.head.kc,.slice x.ep x.en x.ec] 81 b o (fun W' aC=>E6 (HH.o.res.row.below aC.below)) underlying81 ?_;refine ta 4 39 a w.heap.size 0 (fun W' aC=>aC.box.range) ?_;refine tr 3 38 fun K hK=>?_;go_simp;go_at_call 141;refine(DM HU.o _).mono ?_;rintro e w8 ⟨rfl,hb⟩;try go_wp2_with fail
 refine tn hK (aA.step hb) ?_;clear aA hK K;intro aA;refine tr 5 40 fun K hK=>?_;go_simp;cases u
 ·go_at_call 64;refine(Bd a 5 _).mono ?_;rintro e w9 ⟨rfl,hb⟩;exact⟨rfl,rfl,(aA.step hb).below⟩
 go_at_call 64;refine(BZ a 5 _).mono ?_;rintro e w9 ⟨rfl,hb⟩;try go_wp2_with fail
 refine tn hK (aA.step hb) ?_;clear aA hK K;intro aA;refine dn ?_;clear HX;have HX:=AA aA;clear aA;obtain⟨b1,o1,kc,ts,bX,aG⟩:=KB HH.o (k:=2) (by simpa using HU.o) (by decide)
 obtain⟨t0,t1,rfl⟩:∃t0 t1,ts=[t0,t1]:=by
  match ts,aG with
  |[t0,t1],_=>exact⟨t0,t1,rfl⟩
 have HK:=AA bX;clear bX aG;go_upto_region 8 with fail;refine rg (fun W'=>FU w a W') (HX.o.drew) fun aA=>?_;refine tp 0 41 ?_;refine tp 1 42 ?_;refine tp 2 43 ?_;refine tp 3 44 ?_;refine tp 4 45 ?_ (hy:=fun w aC=>by(try dsimp only at aC);have q3:=HK.o.cell _ aC.below;go_simp;try with_reducible rfl);refine tp 5 46 ?_;refine tp 6 47 ?_;refine tp 7 48 ?_ (hy:=fun w aC=>by(try dsimp only at aC);have q0:=aC.box.c 0 _ rfl;go_simp;try with_reducible rfl);refine tp 8 49 ?_;refine tp 9 50 ?_;refine t4 10 51 t0 b1 o1 (fun W' aC=>by simpa using HK.o.at (j:=0) rfl aC.below) ?_;refine tp 11 52 ?_;refine tp 12 53 ?_;refine tp 13 54 ?_;refine tp 14 55 ?_;refine tp 15 56 ?_;refine tp 16 57 ?_ (hy:=fun w aC=>by(try dsimp only at aC);have q1:=NH (HH.o.res.row.below aC.below) 1 _ rfl;go_simp;try with_reducible rfl);refine tr 17 58 fun K hK=>?_;go_simp;go_at_call 137;refine(Dy x.ty.head.rho _).mono ?_;rintro e w3 ⟨rfl,hb⟩;have aV:=AA hb;try go_wp2_with fail
 refine tn hK (aA.step hb) ?_;clear aA hK K;intro aA;refine tr 18 59 fun K hK=>?_;go_simp;refine tn hK (aA.alloc _) ?_;clear aA hK K;intro aA;refine tr 19 60 fun K hK=>?_;go_simp;have aU:=aA.size;go_at_call 140;refine(BM (HH.o.res.row.below aA.below) (fun r hr=>((HH.o.res.each r hr).below aA.below).eff) (CG w3 (Bm x.ty.head.rho)) (by decide) (by omega)).mono ?_;rintro e w5 ⟨v5,k5,rfl,aI,hb⟩;obtain⟨q5,c5,rfl,aQ⟩:=AJ.isRow AF (by omega) aI;have aZ:=(fun ad hp=>Nat.le_trans aU (by subst hp;exact AJ.from aI ad.block rfl):∀ad,q5=some ad→w.heap.size+2≤ad.block);have bN:=AA aQ;have ca:=AA aZ;clear aI aQ aZ aU;try go_wp2_with fail
 refine tn hK (aA.step hb) ?_;clear aA hK K;intro aA;refine tp 20 61 ?_;refine DV 21 fun K hK=>?_;have al:=AA aA;refine A9 rfl _ _ _ (by rfl) aA #[.int .u8 t0.head.kind,.int .i64 t0.head.rho,.slice t0.head.ep t0.head.en t0.head.ec,.slice t0.head.kp t0.head.kn t0.head.kc,.slice q5 k5 c5] (by rfl) (by rfl) (by kernel_rfl) rfl (by simp [Value.oneCell']) ?_;refine tn hK (aA.store rfl) ?_;clear aA hK K;intro aA;refine dn ?_;clear aA;go_wp2_with fail;refine br (al.o.heap _) underlying81 ?_;have hx:=(HH.o.res.each x (by simp));have fC:RH.Own w x.ty.head:=(BD (by rw [←AG.eta];exact hx.ty):BK w x.ty.head x.ty.kids).own;have dY:t0∈x.ty.kids:=by rw [HK.o.kids];simp
 exact EG (y:=⟨t0,q5,k5,c5,BO (Ak [x]) [Bm x.ty.head.rho]⟩) al.o HH.o.new ⟨LR.lies_below al.o.below _ (HK.o.row.each t0 (by simp)),KA ((Eu HH.o.res (Below.refl _ _)).each x (by simp)).uses dY,bN.o,Dl (fun r hr=>(HH.o.res.each r hr).eok) (fun z hz=>by rw [List.mem_singleton] at hz;subst hz;exact D2 fC.r0 fC.r1),fun _ ad hp=>.inr (ca.o ad hp)⟩ (by unfold RV.er;rw [FO HK.o.kids];rfl)
theorem VR{w:World}{S:Nat→Prop}{a:AH}{b o c:Nat}{x:RV}(h:Eh w S a (some ⟨b,o,none⟩) 1 c [x])(hk:a.kind=5):Calls prog 99 #[Aj a,.slice (some ⟨b,o,none⟩) 1 c] w (Dd w S (AV a.plain (Ak [x]))):=by
 have HX:=AA (Ct w a);have HH:=AA h;have bK:=h.sum;have e3:(a.kind==3)=false:=by simp [hk]
 have e4:(a.kind==4)=false:=by simp [hk]
 have e5:(a.kind==5)=true:=by simp [hk]
 have bZ:=HX.o.box.c 0 _ rfl;have aN:Hd (AV a.plain (Ak [x])=A4 (x.ty.head.kind==2) a.plain 5 (.ok (x.ty.er.kids.getD 1 Bu,BO (Ak [x]) [Bm x.ty.head.rho]))):=by show _=_;unfold AV;simp [show a.plain.kind=5 from hk,Ak,←EE,EV];try first|rfl|exact⟨rfl,rfl⟩
 have jZ:IntKind.u8.wrap (a.kind-4)=1:=by rw [hk];rfl
 obtain⟨u,hu⟩:∃u,(x.ty.head.kind==2)=u:=⟨_,rfl⟩;rw [aN.o,hu];have HU:=AA hu;clear hu;clear h hk;go_enter func99,ntmps99;go_upto_region 7 with fail;clear bZ e3 e4 e5;generalize (w.alloc (AO a)).alloc (.cells #[.int .u8 0,.int .i64 0,.slice none 0 0,.slice none 0 0,.slice none 0 0] 81)=W1 at *
 refine rg (fun W'=>FU w a W') (HX.o.drew) fun aA=>?_;refine tp 0 35 ?_;refine tp 1 36 ?_;refine tm 2 37 [.int .u8 x.ty.head.kind,.int .i64 x.ty.head.rho,.slice x.ty.head.ep x.ty.head.en x.ty.head.ec,.slice x.ty.head.kp x.ty.head.kn x.ty.head.kc,.slice x.ep x.en x.ec] 81 b o (fun W' aC=>E6 (HH.o.res.row.below aC.below)) underlying81 ?_;refine ta 4 39 a w.heap.size 0 (fun W' aC=>aC.box.range) ?_;refine tr 3 38 fun K hK=>?_;go_simp;go_at_call 141;refine(DM HU.o _).mono ?_;rintro e w8 ⟨rfl,hb⟩;try go_wp2_with fail
 refine tn hK (aA.step hb) ?_;clear aA hK K;intro aA;refine tr 5 40 fun K hK=>?_;go_simp;cases u
 ·go_at_call 64;refine(Bd a 5 _).mono ?_;rintro e w9 ⟨rfl,hb⟩;exact⟨rfl,rfl,(aA.step hb).below⟩
 go_at_call 64;refine(BZ a 5 _).mono ?_;rintro e w9 ⟨rfl,hb⟩;try go_wp2_with fail
 refine tn hK (aA.step hb) ?_;clear aA hK K;intro aA;refine dn ?_;clear HX;have HX:=AA aA;clear aA;obtain⟨b1,o1,kc,ts,bX,aG⟩:=KB HH.o (k:=2) (by simpa using HU.o) (by decide)
 obtain⟨t0,t1,rfl⟩:∃t0 t1,ts=[t0,t1]:=by
  match ts,aG with
  |[t0,t1],_=>exact⟨t0,t1,rfl⟩
 have HK:=AA bX;clear bX aG;go_upto_region 8 with fail;refine rg (fun W'=>FU w a W') (HX.o.drew) fun aA=>?_;refine tp 0 41 ?_;refine tp 1 42 ?_;refine tp 2 43 ?_;refine tp 3 44 ?_;refine tp 4 45 ?_ (hy:=fun w aC=>by(try dsimp only at aC);have q3:=HK.o.cell _ aC.below;go_simp;try with_reducible rfl);refine tp 5 46 ?_;refine tp 6 47 ?_;refine tp 7 48 ?_ (hy:=fun w aC=>by(try dsimp only at aC);have q0:=aC.box.c 0 _ rfl;go_simp;try with_reducible rfl);refine tp 8 49 ?_;refine tp 9 50 ?_;refine t4 10 51 t1 b1 (o1+4) (fun W' aC=>by simpa using HK.o.at (j:=1) rfl aC.below) ?_;refine tp 11 52 ?_;refine tp 12 53 ?_;refine tp 13 54 ?_;refine tp 14 55 ?_;refine tp 15 56 ?_;refine tp 16 57 ?_ (hy:=fun w aC=>by(try dsimp only at aC);have q1:=NH (HH.o.res.row.below aC.below) 1 _ rfl;go_simp;try with_reducible rfl);refine tr 17 58 fun K hK=>?_;go_simp;go_at_call 137;refine(Dy x.ty.head.rho _).mono ?_;rintro e w3 ⟨rfl,hb⟩;have aV:=AA hb;try go_wp2_with fail
 refine tn hK (aA.step hb) ?_;clear aA hK K;intro aA;refine tr 18 59 fun K hK=>?_;go_simp;refine tn hK (aA.alloc _) ?_;clear aA hK K;intro aA;refine tr 19 60 fun K hK=>?_;go_simp;have aU:=aA.size;go_at_call 140;refine(BM (HH.o.res.row.below aA.below) (fun r hr=>((HH.o.res.each r hr).below aA.below).eff) (CG w3 (Bm x.ty.head.rho)) (by decide) (by omega)).mono ?_;rintro e w5 ⟨v5,k5,rfl,aI,hb⟩;obtain⟨q5,c5,rfl,aQ⟩:=AJ.isRow AF (by omega) aI;have aZ:=(fun ad hp=>Nat.le_trans aU (by subst hp;exact AJ.from aI ad.block rfl):∀ad,q5=some ad→w.heap.size+2≤ad.block);have bN:=AA aQ;have ca:=AA aZ;clear aI aQ aZ aU;try go_wp2_with fail
 refine tn hK (aA.step hb) ?_;clear aA hK K;intro aA;refine tp 20 61 ?_;refine DV 21 fun K hK=>?_;have al:=AA aA;refine A9 rfl _ _ _ (by rfl) aA #[.int .u8 t1.head.kind,.int .i64 t1.head.rho,.slice t1.head.ep t1.head.en t1.head.ec,.slice t1.head.kp t1.head.kn t1.head.kc,.slice q5 k5 c5] (by rfl) (by rfl) (by kernel_rfl) rfl (by simp [Value.oneCell']) ?_;refine tn hK (aA.store rfl) ?_;clear aA hK K;intro aA;refine dn ?_;clear aA;go_wp2_with fail;refine br (al.o.heap _) underlying81 ?_;have hx:=(HH.o.res.each x (by simp));have fC:RH.Own w x.ty.head:=(BD (by rw [←AG.eta];exact hx.ty):BK w x.ty.head x.ty.kids).own;have dY:t1∈x.ty.kids:=by rw [HK.o.kids];simp
 exact EG (y:=⟨t1,q5,k5,c5,BO (Ak [x]) [Bm x.ty.head.rho]⟩) al.o HH.o.new ⟨LR.lies_below al.o.below _ (HK.o.row.each t1 (by simp)),KA ((Eu HH.o.res (Below.refl _ _)).each x (by simp)).uses dY,bN.o,Dl (fun r hr=>(HH.o.res.each r hr).eok) (fun z hz=>by rw [List.mem_singleton] at hz;subst hz;exact D2 fC.r0 fC.r1),fun _ ad hp=>.inr (ca.o ad hp)⟩ (by unfold RV.er;rw [FO HK.o.kids];rfl)
theorem VM{w:World}{S:Nat→Prop}{a:AH}{b o c:Nat}{x:RV}(h:Eh w S a (some ⟨b,o,none⟩) 1 c [x])(hk:a.kind=7):Calls prog 99 #[Aj a,.slice (some ⟨b,o,none⟩) 1 c] w (Dd w S (AV a.plain (Ak [x]))):=by
 have HX:=AA (Ct w a);have HH:=AA h;have bK:=h.sum;have e3:(a.kind==3)=false:=by simp [hk]
 have e4:(a.kind==4)=false:=by simp [hk]
 have e5:(a.kind==5)=false:=by simp [hk]
 have e6:(a.kind==6)=false:=by simp [hk]
 have e7:(a.kind==7)=true:=by simp [hk]
 have bZ:=HX.o.box.c 0 _ rfl;have aN:Hd (AV a.plain (Ak [x])=A4 (x.ty.head.kind==3) a.plain 5 (.ok (x.ty.er.kids.getD 0 Bu,BO (Ak [x]) [Bm x.ty.head.rho]))):=by show _=_;unfold AV;simp [show a.plain.kind=7 from hk,Ak,←EE,EV];try first|rfl|exact⟨rfl,rfl⟩
 have jZ:IntKind.u8.wrap (a.kind-4)=3:=by rw [hk];rfl
 obtain⟨u,hu⟩:∃u,(x.ty.head.kind==3)=u:=⟨_,rfl⟩;rw [aN.o,hu];have HU:=AA hu;clear hu;clear h hk;go_enter func99,ntmps99;go_upto_region 12 with fail;clear bZ e3 e4 e5 e6 e7;generalize (w.alloc (AO a)).alloc (.cells #[.int .u8 0,.int .i64 0,.slice none 0 0,.slice none 0 0,.slice none 0 0] 81)=W1 at *
 refine rg (fun W'=>FU w a W') (HX.o.drew) fun aA=>?_;refine tp 0 81 ?_;refine tp 1 82 ?_;refine tm 2 83 [.int .u8 x.ty.head.kind,.int .i64 x.ty.head.rho,.slice x.ty.head.ep x.ty.head.en x.ty.head.ec,.slice x.ty.head.kp x.ty.head.kn x.ty.head.kc,.slice x.ep x.en x.ec] 81 b o (fun W' aC=>E6 (HH.o.res.row.below aC.below)) underlying81 ?_;refine ta 4 85 a w.heap.size 0 (fun W' aC=>aC.box.range) ?_;refine tr 3 84 fun K hK=>?_;go_simp;go_at_call 141;refine(DM HU.o _).mono ?_;rintro e w8 ⟨rfl,hb⟩;try go_wp2_with fail
 refine tn hK (aA.step hb) ?_;clear aA hK K;intro aA;refine tr 5 86 fun K hK=>?_;go_simp;cases u
 ·go_at_call 64;refine(Bd a 5 _).mono ?_;rintro e w9 ⟨rfl,hb⟩;exact⟨rfl,rfl,(aA.step hb).below⟩
 go_at_call 64;refine(BZ a 5 _).mono ?_;rintro e w9 ⟨rfl,hb⟩;try go_wp2_with fail
 refine tn hK (aA.step hb) ?_;clear aA hK K;intro aA;refine dn ?_;clear HX;have HX:=AA aA;clear aA;obtain⟨b1,o1,kc,ts,bX,aG⟩:=KB HH.o (k:=3) (by simpa using HU.o) (by decide)
 obtain⟨t0,rfl⟩:∃t0,ts=[t0]:=by
  match ts,aG with
  |[t0],_=>exact⟨t0,rfl⟩
 have HK:=AA bX;clear bX aG;go_upto_region 13 with fail;refine rg (fun W'=>FU w a W') (HX.o.drew) fun aA=>?_;refine tp 0 87 ?_;refine tp 1 88 ?_;refine tp 2 89 ?_;refine tp 3 90 ?_;refine tp 4 91 ?_ (hy:=fun w aC=>by(try dsimp only at aC);have q3:=HK.o.cell _ aC.below;go_simp;try with_reducible rfl);refine tp 5 92 ?_;refine t4 6 93 t0 b1 o1 (fun W' aC=>by simpa using HK.o.at (j:=0) rfl aC.below) ?_;refine tp 7 94 ?_;refine tp 8 95 ?_;refine tp 9 96 ?_;refine tp 10 97 ?_;refine tp 11 98 ?_;refine tp 12 99 ?_ (hy:=fun w aC=>by(try dsimp only at aC);have q1:=NH (HH.o.res.row.below aC.below) 1 _ rfl;go_simp;try with_reducible rfl);refine tr 13 100 fun K hK=>?_;go_simp;go_at_call 137;refine(Dy x.ty.head.rho _).mono ?_;rintro e w3 ⟨rfl,hb⟩;have aV:=AA hb;try go_wp2_with fail
 refine tn hK (aA.step hb) ?_;clear aA hK K;intro aA;refine tr 14 101 fun K hK=>?_;go_simp;refine tn hK (aA.alloc _) ?_;clear aA hK K;intro aA;refine tr 15 102 fun K hK=>?_;go_simp;have aU:=aA.size;go_at_call 140;refine(BM (HH.o.res.row.below aA.below) (fun r hr=>((HH.o.res.each r hr).below aA.below).eff) (CG w3 (Bm x.ty.head.rho)) (by decide) (by omega)).mono ?_;rintro e w5 ⟨v5,k5,rfl,aI,hb⟩;obtain⟨q5,c5,rfl,aQ⟩:=AJ.isRow AF (by omega) aI;have aZ:=(fun ad hp=>Nat.le_trans aU (by subst hp;exact AJ.from aI ad.block rfl):∀ad,q5=some ad→w.heap.size+2≤ad.block);have bN:=AA aQ;have ca:=AA aZ;clear aI aQ aZ aU;try go_wp2_with fail
 refine tn hK (aA.step hb) ?_;clear aA hK K;intro aA;refine tp 16 103 ?_;refine DV 17 fun K hK=>?_;have al:=AA aA;refine A9 rfl _ _ _ (by rfl) aA #[.int .u8 t0.head.kind,.int .i64 t0.head.rho,.slice t0.head.ep t0.head.en t0.head.ec,.slice t0.head.kp t0.head.kn t0.head.kc,.slice q5 k5 c5] (by rfl) (by rfl) (by kernel_rfl) rfl (by simp [Value.oneCell']) ?_;refine tn hK (aA.store rfl) ?_;clear aA hK K;intro aA;refine dn ?_;clear aA;go_wp2_with fail;refine br (al.o.heap _) underlying81 ?_;have hx:=(HH.o.res.each x (by simp));have fC:RH.Own w x.ty.head:=(BD (by rw [←AG.eta];exact hx.ty):BK w x.ty.head x.ty.kids).own;have dY:t0∈x.ty.kids:=by rw [HK.o.kids];simp
 exact EG (y:=⟨t0,q5,k5,c5,BO (Ak [x]) [Bm x.ty.head.rho]⟩) al.o HH.o.new ⟨LR.lies_below al.o.below _ (HK.o.row.each t0 (by simp)),KA ((Eu HH.o.res (Below.refl _ _)).each x (by simp)).uses dY,bN.o,Dl (fun r hr=>(HH.o.res.each r hr).eok) (fun z hz=>by rw [List.mem_singleton] at hz;subst hz;exact D2 fC.r0 fC.r1),fun _ ad hp=>.inr (ca.o ad hp)⟩ (by unfold RV.er;rw [FO HK.o.kids];rfl)
end Go.Proofs.YtkdjnegfnhldpaaGreatDoor
