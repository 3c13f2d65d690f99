/- Part 40. -/
import Derived.Test.YtkdjnegfnhldpaaGreatDoorK35
import Derived.Test.YtkdjnegfnhldpaaGreatDoorK36
import Derived.Test.YtkdjnegfnhldpaaGreatDoorK37
import Derived.Test.YtkdjnegfnhldpaaGreatDoorK38
import Derived.Test.YtkdjnegfnhldpaaGreatDoorK39
set_option linter.unusedVariables false
set_option maxRecDepth 100000
set_option linter.unusedSimpArgs false
set_option maxHeartbeats 40000000
namespace Go.Proofs.YtkdjnegfnhldpaaGreatDoor
open Go.Proofs.Tryz Go.RowKit
theorem R0(l:List PA):l.length≤(l.map AG.size).sum:=by
 induction l with
 |nil=>simp
 |cons x l ih=>
  have:=AG.size_pos x;simp only [List.length_cons,List.map_cons,List.sum_cons];omega
theorem Ic{w:World}{S:Nat→Prop}{a:AH}{p:Option Addr}{n c:Nat}{l:List RV}(h:Pt w S a p n c l):Calls prog 117 #[Aj a,.slice p n c] w (GJ w S (AV a.plain (Ak l))):=by
 have h1:1≤a.kind:=h.node.k1;have h2:a.kind≤18:=h.node.k18;have h3:=h.k2;have h4:=h.k18;by_cases hr:a.kind=1∨a.kind=9∨a.kind=12∨a.kind=15
 ·exact PJ h hr
 by_cases hs:a.kind=3∨a.kind=4∨a.kind=5
 ·exact PK h hs
 by_cases ht:a.kind=6∨a.kind=7∨a.kind=8
 ·exact PL h ht
 by_cases hu:a.kind=10∨a.kind=14∨a.kind=16
 ·exact PM h hu
 exact PN h (by omega)
theorem M6{w0 w:World}{S:Nat→Prop}{a:AH}{l:List PA}{p q:Option Addr}{n c m mc:Nat}{env:List BW}{rhos:List Int}(h:Js w0 w S (.node a l) p q n c m mc env rhos)(hu:A8 a.plain rhos=false):Calls prog 83 #[.slice p n c,.slice q m mc,Aj a] w (GJ w S (BE (Cv env) rhos a.plain (l.map PA.er))):=by
 have HX:=AA (Dr w a);have HC:=AA h;have HN:=AA (DP h.lies);have cz:Bl a:=h.small a (by rw [AG.nodes_node];exact List.mem_cons_self);have cS:=AA cz;have HU:=AA hu;have gP:m≤900000:=by have h1:=h.hm;omega
 have iA:n≤900000:=by have h1:=h.hn;omega
 have nS:Hd (BE (Cv env) rhos a.plain (l.map PA.er)=.error (a.at_,4)):=by show _=_;unfold BE;rw [hu];rfl
 clear h hu cz;go_enter func83,ntmps83;go_upto_region 1 with fail;generalize ((w.alloc (AO a)).alloc (.cells #[.int .u8 0,.int .i64 0,.slice none 0 0,.slice none 0 0,.slice none 0 0,.int .i64 0,.int .i64 0] 69))=W1 at *
 go_wp2_with (first
  |(refine lw HX.o.box.blk underlying31 ?_)
  |(go_at_call 114;refine(CW (LA.below HN.o.own (HC.o.old.trans (HX.o.below.mono HC.o.old.size))) cS.o (HC.o.rhosA.below HX.o.below) (by omega) HU.o).mono ?_;rintro e w2 ⟨rfl,hb⟩;have HX:=AA (HX.o.step hb);clear hb)
  |(go_at_call 84;refine(Af a 4).mono ?_;rintro e w7 ⟨rfl,hb⟩;have ab:=AA (HX.o.step hb);clear hb)
  |(refine I5 a.at_ 4 ab.o ?_))
 (try go_wp2_with fail);(try simp only [Exit.inBlock,Exit.then]);refine br (ab.o.heap _) underlying69 ?_;rw [nS.o];exact ab.o.err
theorem Hm{w0 w:World}{S:Nat→Prop}{a:AH}{l:List PA}{p q:Option Addr}{n c m mc:Nat}{env:List BW}{rhos:List Int}(h:Js w0 w S (.node a l) p q n c m mc env rhos)(hu:A8 a.plain rhos=true)(hk:a.kind=2∨a.kind=18){r:E7}(hr:BE (Cv env) rhos a.plain (l.map PA.er)=r)(hf:∀W,Below w.heap.size w W→w.heap.size+2≤W.heap.size→Calls prog 115 #[.slice p n c,Aj a] W (GJ W (Sn w S) r)):Calls prog 83 #[.slice p n c,.slice q m mc,Aj a] w (GJ w S (BE (Cv env) rhos a.plain (l.map PA.er))):=by
 have HX:=AA (Dr w a);have HC:=AA h;have HN:=AA (DP h.lies);have cz:Bl a:=h.small a (by rw [AG.nodes_node];exact List.mem_cons_self);have cS:=AA cz;have HU:=AA hu;have gP:m≤900000:=by have h1:=h.hm;omega
 have iA:n≤900000:=by have h1:=h.hn;omega
 have HF:=AA hf;have bL:=AA h.new;rw [hr];have dL:((a.kind==2)||(a.kind==18))=true:=by rcases hk with hk|hk<;>simp [hk]
 obtain⟨u2,j8⟩:∃u,(a.kind==2)=u:=⟨_,rfl⟩;obtain⟨u18,pW⟩:∃u,(a.kind==18)=u:=⟨_,rfl⟩;rw [j8,pW] at dL;clear h hu cz hf hr hk;cases r with
 |error er=>
  obtain⟨z,no⟩:=er;cases u2
  ·cases u18
   ·cases dL
   ·go_enter func83,ntmps83;go_upto_region 1 with fail;generalize ((w.alloc (AO a)).alloc (.cells #[.int .u8 0,.int .i64 0,.slice none 0 0,.slice none 0 0,.slice none 0 0,.int .i64 0,.int .i64 0] 69))=W1 at *
    go_wp2_with (first
     |(refine lw HX.o.box.blk underlying31 ?_)
     |(go_at_call 114;refine(CW (LA.below HN.o.own (HC.o.old.trans (HX.o.below.mono HC.o.old.size))) cS.o (HC.o.rhosA.below HX.o.below) (by omega) HU.o).mono ?_;rintro e w2 ⟨rfl,hb⟩;have HX:=AA (HX.o.step hb);have c0:=HX.o.box.c 0 _ rfl;clear hb)
     |(go_at_call 115;refine(HF.o _ HX.o.below HX.o.size).mono ?_;rintro e w3 ⟨he,hb⟩;obtain rfl:=he;have aR:=AA (HX.o.step hb);clear hb)
     |(refine I5 z no aR.o ?_))
    (try go_wp2_with fail);(try simp only [Exit.inBlock,Exit.then]);refine br (aR.o.heap _) underlying69 ?_;exact aR.o.err
  ·go_enter func83,ntmps83;go_upto_region 1 with fail;generalize ((w.alloc (AO a)).alloc (.cells #[.int .u8 0,.int .i64 0,.slice none 0 0,.slice none 0 0,.slice none 0 0,.int .i64 0,.int .i64 0] 69))=W1 at *
   go_wp2_with (first
    |(refine lw HX.o.box.blk underlying31 ?_)
    |(go_at_call 114;refine(CW (LA.below HN.o.own (HC.o.old.trans (HX.o.below.mono HC.o.old.size))) cS.o (HC.o.rhosA.below HX.o.below) (by omega) HU.o).mono ?_;rintro e w2 ⟨rfl,hb⟩;have HX:=AA (HX.o.step hb);have c0:=HX.o.box.c 0 _ rfl;clear hb)
    |(go_at_call 115;refine(HF.o _ HX.o.below HX.o.size).mono ?_;rintro e w3 ⟨he,hb⟩;obtain rfl:=he;have aR:=AA (HX.o.step hb);clear hb)
    |(refine I5 z no aR.o ?_))
   (try go_wp2_with fail);(try simp only [Exit.inBlock,Exit.then]);refine br (aR.o.heap _) underlying69 ?_;exact aR.o.err
 |ok x=>
  cases u2
  ·cases u18
   ·cases dL
   ·go_enter func83,ntmps83;go_upto_region 1 with fail;generalize ((w.alloc (AO a)).alloc (.cells #[.int .u8 0,.int .i64 0,.slice none 0 0,.slice none 0 0,.slice none 0 0,.int .i64 0,.int .i64 0] 69))=W1 at *
    go_wp2_with (first
     |(refine lw HX.o.box.blk underlying31 ?_)
     |(go_at_call 114;refine(CW (LA.below HN.o.own (HC.o.old.trans (HX.o.below.mono HC.o.old.size))) cS.o (HC.o.rhosA.below HX.o.below) (by omega) HU.o).mono ?_;rintro e w2 ⟨rfl,hb⟩;have HX:=AA (HX.o.step hb);have c0:=HX.o.box.c 0 _ rfl;clear hb)
     |(go_at_call 115;refine(HF.o _ HX.o.below HX.o.size).mono ?_;rintro e w3 ⟨⟨y,rfl,cM,hy⟩,hb⟩;have HY:=AA hy;have dm:=AA cM;clear hy cM;have aR:=AA (HX.o.step hb);clear hb)
     |(refine XV y aR.o ?_))
    (try go_wp2_with fail);(try simp only [Exit.inBlock,Exit.then]);refine br (aR.o.heap _) underlying69 ?_;exact aR.o.fin bL.o HY.o dm.o
  ·go_enter func83,ntmps83;go_upto_region 1 with fail;generalize ((w.alloc (AO a)).alloc (.cells #[.int .u8 0,.int .i64 0,.slice none 0 0,.slice none 0 0,.slice none 0 0,.int .i64 0,.int .i64 0] 69))=W1 at *
   go_wp2_with (first
    |(refine lw HX.o.box.blk underlying31 ?_)
    |(go_at_call 114;refine(CW (LA.below HN.o.own (HC.o.old.trans (HX.o.below.mono HC.o.old.size))) cS.o (HC.o.rhosA.below HX.o.below) (by omega) HU.o).mono ?_;rintro e w2 ⟨rfl,hb⟩;have HX:=AA (HX.o.step hb);have c0:=HX.o.box.c 0 _ rfl;clear hb)
    |(go_at_call 115;refine(HF.o _ HX.o.below HX.o.size).mono ?_;rintro e w3 ⟨⟨y,rfl,cM,hy⟩,hb⟩;have HY:=AA hy;have dm:=AA cM;clear hy cM;have aR:=AA (HX.o.step hb);clear hb)
    |(refine XV y aR.o ?_))
   (try go_wp2_with fail);(try simp only [Exit.inBlock,Exit.then]);refine br (aR.o.heap _) underlying69 ?_;exact aR.o.fin bL.o HY.o dm.o
theorem Ky{w0 w:World}{S:Nat→Prop}{a:AH}{l:List PA}{p q:Option Addr}{n c m mc:Nat}{env:List BW}{rhos:List Int}(h:Js w0 w S (.node a l) p q n c m mc env rhos)(hu:A8 a.plain rhos=true)(h2:a.kind≠2)(bj:a.kind≠18)(ih:∀t∈l,SU w0 t):Calls prog 83 #[.slice p n c,.slice q m mc,Aj a] w (GJ w S (BE (Cv env) rhos a.plain (l.map PA.er))):=by
 have HX:=AA (Dr w a);have HC:=AA h;have HN:=AA (DP h.lies);have cz:Bl a:=h.small a (by rw [AG.nodes_node];exact List.mem_cons_self);have cS:=AA cz;have HU:=AA hu;have gP:m≤900000:=by have h1:=h.hm;omega
 have iA:n≤900000:=by have h1:=h.hn;omega
 have oQ:=AA ih;have lM:Hd (BE (Cv env) rhos a.plain (l.map PA.er)=match Fa (Cv env) rhos a.plain 0 [] (l.map PA.er) with|.error e=>.error e|.ok ks=>AV a.plain ks):=by show _=_;unfold BE;rw [hu,if_neg (show ¬a.plain.kind=2 from h2),if_neg (show ¬a.plain.kind=18 from bj)];rfl
 have e2:(a.kind==2)=false:=by simp [h2]
 have e18:(a.kind==18)=false:=by simp [bj]
 have H2:=AA h2;have ny:=AA bj;have gZ:Hd (l.length=a.kn):=HN.o.kids.len;have dr:=HN.o.own.kmax;clear h hu cz ih h2 bj;go_enter func83,ntmps83;go_upto_region 1 with fail;generalize ((w.alloc (AO a)).alloc (.cells #[.int .u8 0,.int .i64 0,.slice none 0 0,.slice none 0 0,.slice none 0 0,.int .i64 0,.int .i64 0] 69))=W1 at *
 go_upto_region 6 with(first
  |(refine lw HX.o.box.blk underlying31 ?_)
  |(go_at_call 114;refine(CW (LA.below HN.o.own (HC.o.old.trans (HX.o.below.mono HC.o.old.size))) cS.o (HC.o.rhosA.below HX.o.below) (by omega) HU.o).mono ?_;rintro e w2 ⟨rfl,hb⟩;have HX:=AA (HX.o.step hb);have c0:=HX.o.box.c 0 _ rfl;clear hb))
 have cj:Hd (E9 w S a l (Cv env) rhos (.slice (some ⟨w2.heap.size,0,none⟩) 0 0) 0 [] (w2.alloc (.cells #[] 69))):=⟨HX.o.alloc _,AJ.lit Bt w2 (w.heap.size+2) 69 7 HX.o.size,fun r hr=>(by cases hr),by simp [Ak],fun j t r _ hr=>by simp at hr⟩;generalize w2.alloc (.cells #[] 69)=W3 at *
 generalize Value.slice (some ⟨w2.heap.size,0,none⟩) 0 0=v3 at *
 have c18:=cj.o.b.box.c 18 _ rfl;clear HX c0;go_wp2_with fail;clear c18;go_loopw [7,35] (fun v i wr=>∃(k:Nat) (rs:List RV),k≤a.kn∧i=.int .i64 k∧E9 w S a l (Cv env) rhos v k rs wr) (fun _ i _=>a.kn-(intOf i).toNat)
 case atStart=>exact⟨0,[],Nat.zero_le _,rfl,cj.o⟩
 case round=>
  obtain⟨k,rs,hk,rfl,dL⟩:=hrel;have HK:=AA dL;obtain⟨p7,c7,tK,j5,nB,ms⟩:=dL.row;subst tK;have bI:=AA j5;have l6:=AA nB;have rl:=AA ms;clear dL j5 nB ms cj;by_cases aF:k<a.kn
  ·obtain⟨x,hx⟩:=HN.o.rowT.at (j:=k) aF;have fG:=AA hx;have ke:=AA (oQ.o x (List.mem_of_getElem? hx));obtain⟨b,o,bF,aP,_⟩:=HN.o.rowT.kid hx;have dJ:=HC.o.old.trans (HK.o.b.below.mono HC.o.old.size);have jJ:Hd (Hv w0 _ (Sy w S (.slice p7 k c7)) a p n c env q m mc rhos p7 k c7 rs k):=⟨Wo HC.o.envA HK.o.b.below,HC.o.rhosA.below HK.o.b.below,LA.below HN.o.own dJ,HN.o.own,fun b' aW=>.inl ⟨Nat.lt_of_lt_of_le (AN _ HN.o.own.ty b' aW) HC.o.old.size,HC.o.s0 b' (AN _ HN.o.own.ty b' aW)⟩,iA,gP,cS.o.rhos,bI.o,fun _ e=>by rw [l6.o,e]⟩
   have nm:k≤9000:=by
    have h1:=HC.o.hs;have h2:=gZ.o;have h3:l.length<(AG.node a l).size:=by have h4:=R0 l;rw [AG.size_node];omega
    omega
   have fb:=AA bF;clear hx bF dJ
   go_upto_region 10 with(first
    |(refine lw HK.o.b.box.blk underlying31 ?_)
    |(go_at_call 116;refine(Lr jJ.o).mono ?_;rintro e w3 ⟨⟨p',n',c',env',q',m',c'',rfl,jl,iW,j4,dt,jz⟩,hb⟩;have iF:=AA (HC.o.kid fG.o HK.o hb jl iW j4 dt jz);have fD:=AA iW;have eK:=AA (HK.o.below hb);clear jl iW j4 dt jz hb))
   have c18:=eK.o.b.box.c 18 _ rfl;rw [fb.o] at c18;have nt:=fG.o;obtain⟨b',o',iV,_,mQ⟩:=(HN.o.rowT.below (HC.o.old.trans (eK.o.b.below.mono HC.o.old.size))).kid nt;rw [fb.o] at iV;cases iV;have dC:=AA mQ.c;clear nt mQ;cases fH:chk (Ac (Cv env) a.plain k (Ak rs)) (Ad rhos a.plain k) (PA.er x) with
   |error er=>
    obtain⟨er1,er2⟩:=er;have eR:=AA fH;have bT:Hd (BE (Cv env) rhos a.plain (l.map PA.er)=.error (er1,er2)):=by show _=_;rw [lM.o,HK.o.stop fG.o fH]
    have ac:=Rb _ _ _ _ _ fH;have eno:(er2 != 0)=true:=by simp [ac]
    clear fH ac
    go_upto_region 11 with(first
     |(refine lm (Bn x.head) dC.o underlying31 ?_)
     |(go_at_call 55;refine(ke.o _ _ _ _ _ _ _ _ _ _ iF.o).mono ?_;rw [fD.o,eR.o];rintro e w4 ⟨he,hb⟩;obtain rfl:=he;have fo:=AA (eK.o.below hb);clear hb)
     |(refine sn #[.int .u8 0,.int .i64 0,.slice none 0 0,.slice none 0 0,.slice none 0 0,.int .i64 er1,.int .i64 er2] ?_))
    have bS:Below w4.heap.size w4 (w4.alloc (.cells #[.int .u8 0,.int .i64 0,.slice none 0 0,.slice none 0 0,.slice none 0 0,.int .i64 er1,.int .i64 er2] 69)):=bA;have jK:=AA (fo.o.below bS);have aa:=AA (Ap w4 #[.int .u8 0,.int .i64 0,.slice none 0 0,.slice none 0 0,.slice none 0 0,.int .i64 er1,.int .i64 er2] 69 _ rfl);clear bS
    go_wp2_with (first
     |(refine lw aa.o underlying69 ?_)
     |(refine I5 er1 er2 jK.o.b ?_))
    (try go_wp2_with fail);(try simp only [Exit.inBlock,Exit.then]);refine br (jK.o.b.heap _) underlying69 ?_;rw [bT.o];exact jK.o.b.err
   |ok r=>
    have eR:=AA fH;have au:=Th iF.o (r:=r) (by rw [fD.o];exact fH);have oN:=AA au;clear fH au
    go_upto_region 11 with(first
     |(refine lm (Bn x.head) dC.o underlying31 ?_)
     |(go_at_call 55;refine(ke.o _ _ _ _ _ _ _ _ _ _ iF.o).mono ?_;rw [fD.o,eR.o];rintro e w4 ⟨⟨z,rfl,nO,hz⟩,hb⟩;have HZ:=AA hz;have ou:=AA nO;clear hz nO;have HZ:=AA (HZ.o);have fo:=AA (eK.o.below hb);clear hb)
     |(refine sn #[.int .u8 z.ty.head.kind,.int .i64 z.ty.head.rho,.slice z.ty.head.ep z.ty.head.en z.ty.head.ec,.slice z.ty.head.kp z.ty.head.kn z.ty.head.kc,.slice z.ep z.en z.ec,.int .i64 0,.int .i64 0] ?_))
    have bS:Below w4.heap.size w4 (w4.alloc (.cells #[.int .u8 z.ty.head.kind,.int .i64 z.ty.head.rho,.slice z.ty.head.ep z.ty.head.en z.ty.head.ec,.slice z.ty.head.kp z.ty.head.kn z.ty.head.kc,.slice z.ep z.en z.ec,.int .i64 0,.int .i64 0] 69)):=bA;have jK:=AA (fo.o.below bS);have aa:=AA (Ap w4 #[.int .u8 z.ty.head.kind,.int .i64 z.ty.head.rho,.slice z.ty.head.ep z.ty.head.en z.ty.head.ec,.slice z.ty.head.kp z.ty.head.kn z.ty.head.kc,.slice z.ep z.en z.ec,.int .i64 0,.int .i64 0] 69 _ rfl);have oo:=AA (HZ.o.below bS);have d6:(w4.alloc (.cells #[.int .u8 z.ty.head.kind,.int .i64 z.ty.head.rho,.slice z.ty.head.ep z.ty.head.en z.ty.head.ec,.slice z.ty.head.kp z.ty.head.kn z.ty.head.kc,.slice z.ep z.en z.ec,.int .i64 0,.int .i64 0] 69)).cell? ⟨w4.heap.size,6,none⟩=some (.int .i64 0):=by rw [Lib.cell_of_heap aa.o];rfl
    obtain⟨gr,eP⟩:∃gr,w4.heap.size=gr:=⟨_,rfl⟩;rw [eP] at aa d6 ⊢;generalize w4.alloc (.cells #[.int .u8 z.ty.head.kind,.int .i64 z.ty.head.rho,.slice z.ty.head.ep z.ty.head.en z.ty.head.ec,.slice z.ty.head.kp z.ty.head.kn z.ty.head.kc,.slice z.ep z.en z.ec,.int .i64 0,.int .i64 0] 69)=W5 at *
    clear eP bS;have og:=AA (Al Kl (by omega) W5 69 [z] 1 #[.int .u8 z.ty.head.kind,.int .i64 z.ty.head.rho,.slice z.ty.head.ep z.ty.head.en z.ty.head.ec,.slice z.ty.head.kp z.ty.head.kn z.ty.head.kc,.slice z.ep z.en z.ec,.int .i64 0,.int .i64 0] rfl rfl (by decide));have lv:=AA (jK.o.below ((Below.refl W5.heap.size W5).alloc (Nat.le_refl _) (.cells #[.int .u8 z.ty.head.kind,.int .i64 z.ty.head.rho,.slice z.ty.head.ep z.ty.head.en z.ty.head.ec,.slice z.ty.head.kp z.ty.head.kn z.ty.head.kc,.slice z.ep z.en z.ec,.int .i64 0,.int .i64 0] 69)));have oq:=AA (oo.o.below ((Below.refl W5.heap.size W5).alloc (Nat.le_refl _) (.cells #[.int .u8 z.ty.head.kind,.int .i64 z.ty.head.rho,.slice z.ty.head.ep z.ty.head.en z.ty.head.ec,.slice z.ty.head.kp z.ty.head.kn z.ty.head.kc,.slice z.ep z.en z.ec,.int .i64 0,.int .i64 0] 69)));have pT:=lv.o.b.size
    go_wp2_with (first
     |(refine lw aa.o underlying69 ?_)
     |(at_builtin;refine Am rfl _ _ 169 rfl (w.heap.size+2) 69 _ 7 104 underlying169 Ws rfl (by decide) Bt Kl TO [z] rs k _ lv.o.own _ 1 _ rfl rfl rfl (by intro h;cases h) og.o.row (by omega) (by omega) pT ?_;intro v6 w6 aM bV cJ;have rS:=AA (lv.o.push fG.o oq.o ou.o eR.o oN.o aM bV cJ);clear aM bV cJ))
    go_roundw
    case rel=>exact⟨k+1,rs++[z],by omega,by go_num,rS.o⟩
    case measure=>simp [intOf];omega
  ·have ao:k=a.kn:=by omega
   have eW:k=l.length:=ao.trans gZ.o.symm;subst eW;clear ao;have nT:=AA HK.o.full;have nS:Hd (BE (Cv env) rhos a.plain (l.map PA.er)=AV a.plain (Ak rs)):=by show _=_;rw [lM.o,nT.o]
   have dJ:=HC.o.old.trans (HK.o.b.below.mono HC.o.old.size);have bG:EJ a.plain rs.length:=by have hg:=HC.o.good;rw [PA.er_node] at hg;have h1:=hg.head;rw [List.length_map] at h1;rw [l6.o];exact h1
   have bK:(rs.map (·.en)).sum≤900000:=by have h1:=HK.o.sum;have h2:=HC.o.hs;rw [AG.size_node] at h2;omega
   have pq:Hd (Pt _ (Sy w S (.slice p7 l.length c7)) a p7 l.length c7 rs):=
    ⟨LA.below HN.o.own dJ,cS.o,bI.o,Vh HK.o.b.size (fun b' e=>(rl.o b' e).2),fun b' aW=>.inl ⟨Nat.lt_of_lt_of_le (AN _ HN.o.own.ty b' aW) HC.o.old.size,HC.o.s0 b' (AN _ HN.o.own.ty b' aW)⟩,bK,
     fun r hr=>by
      obtain⟨j,hj⟩:=List.getElem?_of_mem hr;have iZ:j<l.length:=by rw [←l6.o];exact Bh hj
      have hg:=HK.o.acc j _ r (List.getElem?_eq_getElem iZ) hj;refine⟨hg.1.may,hg.1.effs,?_⟩;have h1:=hg.2;have h2:(PT.er r.ty).size=r.ty.size:=EW r.ty;have h3:(PT.er r.ty).size≤500:=h1;omega,
     bG,H2.o,ny.o,fun he ad hp=>.inl ⟨Nat.lt_of_lt_of_le (Bf HN.o.own.eff.row he hp) HC.o.old.size,HC.o.s0 _ (Bf HN.o.own.eff.row he hp)⟩⟩
   have bL:=AA HC.o.new;clear dJ bG bK;cases lG:AV a.plain (Ak rs) with
   |error er=>
    obtain⟨z,no⟩:=er;have aN:=AA lG;clear lG
    go_wp2_with (first
     |(refine lw HK.o.b.box.blk underlying31 ?_)
     |(go_at_call 117;refine(Ic pq.o).mono ?_;rw [aN.o];rintro e w5 ⟨he,hb⟩;obtain rfl:=he;have ck:=AA (HK.o.b.step hb);clear hb)
     |(refine I5 z no ck.o ?_))
    (try go_wp2_with fail);(try simp only [Exit.inBlock,Exit.then]);refine br (ck.o.heap _) underlying69 ?_;rw [nS.o,aN.o];exact ck.o.err
   |ok x=>
    have aN:=AA lG;clear lG
    go_wp2_with (first
     |(refine lw HK.o.b.box.blk underlying31 ?_)
     |(go_at_call 117;refine(Ic pq.o).mono ?_;rw [aN.o];rintro e w5 ⟨⟨y,rfl,cM,hy⟩,hb⟩;have HY:=AA hy;have dm:=AA cM;clear hy cM;have ck:=AA (HK.o.b.step hb);clear hb)
     |(refine XV y ck.o ?_))
    (try go_wp2_with fail);(try simp only [Exit.inBlock,Exit.then]);refine br (ck.o.heap _) underlying69 ?_;rw [nS.o,aN.o];exact ck.o.fin bL.o (HY.o.weak (fun b' _ aW=>aW.elim .inl (fun h=>.inr h.1))) dm.o
theorem Nt{w0 w:World}{S:Nat→Prop}{a:AH}{p:Option Addr}{n c:Nat}{env:List BW}(hE:I0 w0 w S p n c env)(hn:n≤1000000)(hk:a.kind=2)(ig:∀b,w.heap.size≤b→S b):Calls prog 115 #[.slice p n c,Aj a] w (GJ w S (Hf (Cv env) a.plain)):=by
 have HX:=AA (Dr w a);have HE:=AA hE;have bL:=AA ig;have e2:(a.kind==2)=true:=by simp [hk]
 have c4:=HX.o.box.c 4 _ rfl;have c0:=HX.o.box.c 0 _ rfl;clear hE hk ig;go_enter func115,ntmps115;go_upto_region 1 with fail;generalize ((w.alloc (AO a)).alloc (.cells #[.int .u8 0,.int .i64 0,.slice none 0 0,.slice none 0 0,.slice none 0 0,.int .i64 0,.int .i64 0] 69))=W1 at *
 go_upto_region 2 with(first
  |(go_at_call 156;refine(Ib (HE.o.row.below HX.o.below) hn).mono ?_;rintro e w2 ⟨fj,rfl⟩;have eZ:=AA fj;clear fj;rcases eZ.o with⟨rfl,ac⟩|⟨j,b,rfl,jB,dH⟩))
 ·have aN:Hd (Hf (Cv env) a.plain=.error (a.at_,4)):=by show _=_;unfold Hf;rw [show Df (Cv env) a.plain.name=none from ac];rfl
  clear ac
  go_wp2_with (first
   |(refine lw HX.o.box.blk underlying31 ?_)
   |(go_at_call 84;refine(Af a 4).mono ?_;rintro e w7 ⟨rfl,hb⟩;have ab:=AA (HX.o.step hb);clear hb)
   |(refine I5 a.at_ 4 ab.o ?_))
  (try go_wp2_with fail);(try simp only [Exit.inBlock,Exit.then]);refine br (ab.o.heap _) underlying69 ?_;rw [aN.o];exact ab.o.err
 ·obtain⟨g,o,hp,aP,am⟩:=(HE.o.row.below HX.o.below).row.elem jB;subst hp;have ex:j<n:=by rw [←HE.o.row.len];exact Bh jB
  have dC:=AA (show ∀i v,(Dz b)[i]?=some v→W1.cell? ⟨g,o+j * 25+i,none⟩=some v from am);have fb:=AA ((HE.o.each b (List.mem_of_getElem? jB)).below HX.o.below);have lq:=AA dH;have ay:=AA (HE.o.each b (List.mem_of_getElem? jB));clear am jB aP dH
  go_upto_region 5 with(first
   |(refine lm [.string b.name,.int .u8 b.ty.head.kind,.int .i64 b.ty.head.rho,.slice b.ty.head.ep b.ty.head.en b.ty.head.ec,.slice b.ty.head.kp b.ty.head.kn b.ty.head.kc,.bool b.fn.isSome,.int .u8 b.fh.kind,.int .u8 b.fh.op,.int .i64 b.fh.at_,.int .i64 b.fh.n,.string b.fh.name,.string b.fh.arg,.string b.fh.exn,.int .i64 b.fh.rho,.slice b.fh.rp b.fh.rn b.fh.rc,.slice b.fh.ep b.fh.en b.fh.ec,.int .u8 b.fh.ty.head.kind,.int .i64 b.fh.ty.head.rho,.slice b.fh.ty.head.ep b.fh.ty.head.en b.fh.ty.head.ec,.slice b.fh.ty.head.kp b.fh.ty.head.kn b.fh.ty.head.kc,.int .u8 b.fh.res.head.kind,.int .i64 b.fh.res.head.rho,.slice b.fh.res.head.ep b.fh.res.head.en b.fh.res.head.ec,.slice b.fh.res.head.kp b.fh.res.head.kn b.fh.res.head.kc,.slice b.fh.kp b.fh.kn b.fh.kc] dC.o underlying208 ?_)
   |(refine sn #[.string b.name,.int .u8 b.ty.head.kind,.int .i64 b.ty.head.rho,.slice b.ty.head.ep b.ty.head.en b.ty.head.ec,.slice b.ty.head.kp b.ty.head.kn b.ty.head.kc,.bool b.fn.isSome,.int .u8 b.fh.kind,.int .u8 b.fh.op,.int .i64 b.fh.at_,.int .i64 b.fh.n,.string b.fh.name,.string b.fh.arg,.string b.fh.exn,.int .i64 b.fh.rho,.slice b.fh.rp b.fh.rn b.fh.rc,.slice b.fh.ep b.fh.en b.fh.ec,.int .u8 b.fh.ty.head.kind,.int .i64 b.fh.ty.head.rho,.slice b.fh.ty.head.ep b.fh.ty.head.en b.fh.ty.head.ec,.slice b.fh.ty.head.kp b.fh.ty.head.kn b.fh.ty.head.kc,.int .u8 b.fh.res.head.kind,.int .i64 b.fh.res.head.rho,.slice b.fh.res.head.ep b.fh.res.head.en b.fh.res.head.ec,.slice b.fh.res.head.kp b.fh.res.head.kn b.fh.res.head.kc,.slice b.fh.kp b.fh.kn b.fh.kc] ?_))
  have bS:Below W1.heap.size W1 (W1.alloc (.cells #[.string b.name,.int .u8 b.ty.head.kind,.int .i64 b.ty.head.rho,.slice b.ty.head.ep b.ty.head.en b.ty.head.ec,.slice b.ty.head.kp b.ty.head.kn b.ty.head.kc,.bool b.fn.isSome,.int .u8 b.fh.kind,.int .u8 b.fh.op,.int .i64 b.fh.at_,.int .i64 b.fh.n,.string b.fh.name,.string b.fh.arg,.string b.fh.exn,.int .i64 b.fh.rho,.slice b.fh.rp b.fh.rn b.fh.rc,.slice b.fh.ep b.fh.en b.fh.ec,.int .u8 b.fh.ty.head.kind,.int .i64 b.fh.ty.head.rho,.slice b.fh.ty.head.ep b.fh.ty.head.en b.fh.ty.head.ec,.slice b.fh.ty.head.kp b.fh.ty.head.kn b.fh.ty.head.kc,.int .u8 b.fh.res.head.kind,.int .i64 b.fh.res.head.rho,.slice b.fh.res.head.ep b.fh.res.head.en b.fh.res.head.ec,.slice b.fh.res.head.kp b.fh.res.head.kn b.fh.res.head.kc,.slice b.fh.kp b.fh.kn b.fh.kc] 208)):=bA;have HX:=AA (HX.o.step bS);have fb:=AA (fb.o.below bS);have HR:=AA (Ap W1 #[.string b.name,.int .u8 b.ty.head.kind,.int .i64 b.ty.head.rho,.slice b.ty.head.ep b.ty.head.en b.ty.head.ec,.slice b.ty.head.kp b.ty.head.kn b.ty.head.kc,.bool b.fn.isSome,.int .u8 b.fh.kind,.int .u8 b.fh.op,.int .i64 b.fh.at_,.int .i64 b.fh.n,.string b.fh.name,.string b.fh.arg,.string b.fh.exn,.int .i64 b.fh.rho,.slice b.fh.rp b.fh.rn b.fh.rc,.slice b.fh.ep b.fh.en b.fh.ec,.int .u8 b.fh.ty.head.kind,.int .i64 b.fh.ty.head.rho,.slice b.fh.ty.head.ep b.fh.ty.head.en b.fh.ty.head.ec,.slice b.fh.ty.head.kp b.fh.ty.head.kn b.fh.ty.head.kc,.int .u8 b.fh.res.head.kind,.int .i64 b.fh.res.head.rho,.slice b.fh.res.head.ep b.fh.res.head.en b.fh.res.head.ec,.slice b.fh.res.head.kp b.fh.res.head.kn b.fh.res.head.kc,.slice b.fh.kp b.fh.kn b.fh.kc] 208 _ rfl);obtain⟨gb,eV⟩:∃gb,W1.heap.size=gb:=⟨_,rfl⟩;rw [eV] at HR ⊢;generalize W1.alloc (.cells #[.string b.name,.int .u8 b.ty.head.kind,.int .i64 b.ty.head.rho,.slice b.ty.head.ep b.ty.head.en b.ty.head.ec,.slice b.ty.head.kp b.ty.head.kn b.ty.head.kc,.bool b.fn.isSome,.int .u8 b.fh.kind,.int .u8 b.fh.op,.int .i64 b.fh.at_,.int .i64 b.fh.n,.string b.fh.name,.string b.fh.arg,.string b.fh.exn,.int .i64 b.fh.rho,.slice b.fh.rp b.fh.rn b.fh.rc,.slice b.fh.ep b.fh.en b.fh.ec,.int .u8 b.fh.ty.head.kind,.int .i64 b.fh.ty.head.rho,.slice b.fh.ty.head.ep b.fh.ty.head.en b.fh.ty.head.ec,.slice b.fh.ty.head.kp b.fh.ty.head.kn b.fh.ty.head.kc,.int .u8 b.fh.res.head.kind,.int .i64 b.fh.res.head.rho,.slice b.fh.res.head.ep b.fh.res.head.en b.fh.res.head.ec,.slice b.fh.res.head.kp b.fh.res.head.kn b.fh.res.head.kc,.slice b.fh.kp b.fh.kn b.fh.kc] 208)=W3 at *
  clear eV bS c4;have c0:=HX.o.box.c 0 _ rfl;have d5:W3.cell? ⟨gb,5,none⟩=some (.bool b.fn.isSome):=by rw [Lib.cell_of_heap HR.o];rfl
  cases hf:b.fn with
  |none=>
   have d5':W3.cell? ⟨gb,5,none⟩=some (.bool false):=by rw [d5,hf];rfl
   have aN:Hd (Hf (Cv env) a.plain=.ok (b.ty.er,[])):=by show _=_;unfold Hf;rw [show Df (Cv env) a.plain.name=some b.er from lq.o];simp [BW.er,hf,A4]
   have lR:=AA (HX.o.alloc (.cells #[] 59));have sH:Hd ((⟨b.ty,some ⟨W3.heap.size,0,none⟩,0,0,[]⟩:RV).Ok (W3.alloc (.cells #[] 59)) (Sn w S)):=⟨LR.lies_below bA _ fb.o.ty,fun x hx=>.inl ⟨AN _ ay.o.ty x hx,ay.o.uses x hx⟩,DT AS 3 W3 59,fun x hx=>(nomatch hx),fun h=>absurd rfl h⟩;clear d5 hf
   go_wp2_with (first
    |(refine NY b.ty (Gj HR.o 1 _ (by intro i v hv;match i,hv with|0,hv=>exact hv|1,hv=>exact hv|2,hv=>exact hv|3,hv=>exact hv)) underlying28 ?_)
    |(refine ru #[.int .u8 b.ty.head.kind,.int .i64 b.ty.head.rho,.slice b.ty.head.ep b.ty.head.en b.ty.head.ec,.slice b.ty.head.kp b.ty.head.kn b.ty.head.kc,.slice (some ⟨W3.heap.size,0,none⟩) 0 0,.int .i64 0,.int .i64 0] lR.o ?_))
   (try go_wp2_with fail);(try simp only [Exit.inBlock,Exit.then]);refine br (lR.o.heap _) underlying69 ?_;rw [aN.o];exact lR.o.fin bL.o sH.o rfl
  |some f=>
   have d5':W3.cell? ⟨gb,5,none⟩=some (.bool true):=by rw [d5,hf];rfl
   have aN:Hd (Hf (Cv env) a.plain=.error (a.at_,5)):=by show _=_;unfold Hf;rw [show Df (Cv env) a.plain.name=some b.er from lq.o];simp [BW.er,hf,A4];rfl
   clear d5 hf
   go_wp2_with (first
    |(refine lw HX.o.box.blk underlying31 ?_)
    |(go_at_call 84;refine(Af a 5).mono ?_;rintro e w7 ⟨rfl,hb⟩;have ab:=AA (HX.o.step hb);clear hb)
    |(refine I5 a.at_ 5 ab.o ?_))
   (try go_wp2_with fail);(try simp only [Exit.inBlock,Exit.then]);refine br (ab.o.heap _) underlying69 ?_;rw [aN.o];exact ab.o.err
end Go.Proofs.YtkdjnegfnhldpaaGreatDoor
