/- Part 32. -/
import Derived.Test.YtkdjnegfnhldpaaGreatDoorK31
set_option linter.unusedVariables false
set_option maxRecDepth 100000
set_option linter.unusedSimpArgs false
set_option maxHeartbeats 40000000
namespace Go.Proofs.YtkdjnegfnhldpaaGreatDoor
open Go.Proofs.Tryz Go.RowKit
theorem Ez{w:World}{p:Option Addr}{n c:Nat}{l:List PT}(hr:Da w p n c l)(hz:(AY l).length≤9000000)(he:∀x∈l,BG x.er=true):Calls prog 155 #[.slice p n c] w fun e w'=>∃q m mc,e=.returned (.slice q m mc)∧AE Ab 1 w' q m mc (Cb [] (AY l))∧Below w.heap.size w w':=by
 have bu:=hr.row.max;have HR:=AA hr;have HZ:=AA hz;have HE:=AA he;clear hr hz he;go_enter func155,ntmps155;go_wp2_with fail;go_loopw [3,4,8] (fun u _ i wr=>∃(k:Nat) (q:Option Addr) (m mc:Nat),k≤n∧i=.int .i64 k∧u=.slice q m mc∧AE Ab 1 wr q m mc (Cb [] (AY (l.take k)))∧Below w.heap.size w wr) (fun _ _ i _=>n-(intOf i).toNat)
 case atStart=>exact⟨0,_,_,_,by omega,rfl,rfl,DT _ _ _ _,bA⟩
 case round=>
  obtain⟨k,q,m,mc,hk,rfl,rfl,aD,hb⟩:=hrel;have aL:=AA aD;have eY:=AA hb;clear aD hb;by_cases aF:k<n
  ·obtain⟨x,hx⟩:=HR.o.at (j:=k) aF;have HX:=AA hx;obtain⟨b,o,bF,aP,d0,d1,d2,d3⟩:=(HR.o.below eY.o).kid hx;subst bF;have on:=AA ((HR.o.below eY.o).lies hx);have dl:=AA (HE.o x (List.mem_of_getElem? hx));have lS:Hd ((Cb [] (AY (l.take k))).length+(By x.er).length≤9000000):=by have h1:=Fo (AY (l.take k)) [];have h2:=GU l (k+1);have h3:=HZ.o;rw [El hx,List.length_append] at h2;simp only [List.length_nil] at h1;show _≤_;omega
   clear hx aP;go_wp2_with fail;refine(IY x wr q m mc _ on.o aL.o lS.o dl.o).mono ?_;rintro e w1 ⟨v,q',m',c',rfl,rfl,aT,hb⟩;have aJ:=bt eY hb;have dQ:=AA aT;clear hb aT d0 d1 d2 d3;go_wp2_with fail;go_roundw
   case rel=>exact⟨k+1,q',m',c',by omega,by go_num,rfl,(by rw [El HX.o,EZ];exact dQ.o),aJ.o⟩
   case measure=>simp [intOf];omega
  ·have ao:k=n:=by omega
   subst ao;go_wp2_with fail;go_ret;have h:=aL.o;rw [List.take_of_length_le (by rw [HR.o.row.len];exact Nat.le_refl _)] at h;exact⟨q,m,mc,rfl,h,eY.o⟩
theorem Nq(a:AH){w:World}(hr:AE Ab 1 w a.rp a.rn a.rc a.rhos):Calls prog 47 #[Aj a] w fun e w'=>∃p n c,e=.returned (.slice p n c)∧AE Ab 1 w' p n c (BP a.plain)∧((p=a.rp∧BP a.plain=a.rhos)∨∀ad,p=some ad→w.heap.size≤ad.block)∧Below w.heap.size w w':=by
 have HR:=AA hr;have HB:=AA (Aa w a);have aJ:Hd (Below w.heap.size w (w.alloc (AO a))):=bA;have c0:=HB.o.c 0 _ rfl;have c7:=HB.o.c 7 _ rfl;have c8:=HB.o.c 8 _ rfl;clear hr;by_cases bp:a.kind=17
 ·have e17:(a.kind==17)=true:=by simp [bp]
  have HQ:Hd (BP a.plain=[a.rho]):=by show _=_;unfold BP;rw [if_pos (show a.plain.kind=17 from bp)];rfl
  clear bp;go_enter func47,ntmps47;go_wp2_with fail;go_ret;exact⟨_,_,_,rfl,by rw [HQ.o];have h:=Al Ag (by omega) (w.alloc (AO a)) 3 [a.rho] 1 _ rfl rfl (by decide);rw [World.size_alloc] at h;exact h,.inr (fun ad hp=>by cases hp;show w.heap.size≤w.heap.size+1;omega),AQ aJ.o _⟩
 ·have e17:(a.kind==17)=false:=by simp [bp]
  by_cases cI:a.kind=13
  ·have e13:(a.kind==13)=true:=by simp [cI]
   have HQ:Hd (BP a.plain=a.rhos):=by show _=_;unfold BP;rw [if_neg (show ¬a.plain.kind=17 from bp),if_pos (show a.plain.kind=13 from cI)];rfl
   clear bp cI;go_enter func47,ntmps47;go_wp2_with fail;go_ret;exact⟨_,_,_,rfl,by rw [HQ.o];exact HR.o.below aJ.o,.inl ⟨rfl,HQ.o⟩,aJ.o⟩
  ·have e13:(a.kind==13)=false:=by simp [cI]
   have HQ:Hd (BP a.plain=[]):=by show _=_;unfold BP;rw [if_neg (show ¬a.plain.kind=17 from bp),if_neg (show ¬a.plain.kind=13 from cI)]
   clear bp cI;go_enter func47,ntmps47;go_wp2_with fail;go_ret;exact⟨_,0,0,rfl,by rw [HQ.o];exact⟨rfl,by decide,Nat.le_refl _,fun h=>rfl,.inl rfl⟩,.inr (fun ad hp=>by cases hp;show w.heap.size≤w.heap.size+1;omega),AQ aJ.o _⟩
structure St(w:World)(p2:Option Addr)(n2 c2:Nat)(l:List AH)(u:Value)(m:List Int)(wr:World):Prop where
 own:AJ Ab 1 wr (w.heap.size+1) 3 u m.length m
 row:AE Bn 19 wr p2 n2 c2 l
 off:l≠[]→∀ad,p2=some ad→u.ownBlock≠some ad.block
 below:Below w.heap.size w wr
 size:w.heap.size+1≤wr.heap.size
theorem St.step{w:World}{p2:Option Addr}{n2 c2:Nat}{l:List AH}{u:Value}{m:List Int}{wr wr':World}(h:St w p2 n2 c2 l u m wr)(hb:Below wr.heap.size wr wr'):St w p2 n2 c2 l u m wr':=⟨h.own.below hb,h.row.below hb,h.off,h.below.trans (hb.mono h.below.size),Nat.le_trans h.size hb.size⟩
theorem Ql{α:Type}{enc:α→List Value}{k:Nat}{wr:World}{p:Option Addr}{n c:Nat}{l:List α}{u v:Value}(hr:AE enc k wr p n c l)(ho:l≠[]→∀ad,p=some ad→u.ownBlock≠some ad.block)(hf:∀b,b<wr.heap.size→v.ownBlock=some b→u.ownBlock=some b):l≠[]→∀ad,p=some ad→v.ownBlock≠some ad.block:=fun hl ad hp e=>ho hl ad hp (hf _ (Bf hr.row hl hp) e)
theorem St.push{w:World}{p2:Option Addr}{n2 c2:Nat}{l:List AH}{u v:Value}{m:List Int}{wr wr':World}{x:Int}(h:St w p2 n2 c2 l u m wr)(aB:AJ Ab 1 wr' (w.heap.size+1) 3 v (m.length+1) (m++[x]))(hg:wr.grownBy wr' u.ownBlock)(hf:∀b,b<wr.heap.size→v.ownBlock=some b→u.ownBlock=some b):St w p2 n2 c2 l v (m++[x]) wr':=⟨by rw [List.length_append];exact aB,BY hg h.off h.row,Ql h.row h.off hf,h.below.grown hg h.below.size (fun b hb=>by have:=(World.ownsRow.lt h.own b hb).1;omega),Nat.le_trans h.size hg.size⟩
structure WP(w:World)(p2:Option Addr)(n2 c2:Nat)(l:List AH)(p3:Option Addr)(n3 c3:Nat)(o:List Int)(u:Value)(m:List Int)(wr:World):Prop where
 j:St w p2 n2 c2 l u m wr
 row:AE Ab 1 wr p3 n3 c3 o
 off:o≠[]→∀ad,p3=some ad→u.ownBlock≠some ad.block
theorem WP.step{w:World}{p2:Option Addr}{n2 c2:Nat}{l:List AH}{p3:Option Addr}{n3 c3:Nat}{o:List Int}{u:Value}{m:List Int}{wr wr':World}(h:WP w p2 n2 c2 l p3 n3 c3 o u m wr)(hb:Below wr.heap.size wr wr'):WP w p2 n2 c2 l p3 n3 c3 o u m wr':=⟨h.j.step hb,h.row.below hb,h.off⟩
theorem WP.push{w:World}{p2:Option Addr}{n2 c2:Nat}{l:List AH}{p3:Option Addr}{n3 c3:Nat}{o:List Int}{u v:Value}{m:List Int}{wr wr':World}{x:Int}(h:WP w p2 n2 c2 l p3 n3 c3 o u m wr)(aB:AJ Ab 1 wr' (w.heap.size+1) 3 v (m.length+1) (m++[x]))(hg:wr.grownBy wr' u.ownBlock)(hf:∀b,b<wr.heap.size→v.ownBlock=some b→u.ownBlock=some b):WP w p2 n2 c2 l p3 n3 c3 o v (m++[x]) wr':=⟨h.j.push aB hg hf,BY hg h.off h.row,Ql h.row h.off hf⟩
theorem St.withOwn{w:World}{p2:Option Addr}{n2 c2:Nat}{l:List AH}{u:Value}{m:List Int}{wr w3:World}{p3 rp:Option Addr}{n3 c3 rn rc:Nat}{o rhos:List Int}(h0:St w p2 n2 c2 l u m wr)(hb:Below wr.heap.size wr w3)(hr:AE Ab 1 w3 p3 n3 c3 o)(dJ:AE Ab 1 w rp rn rc rhos)(pJ:(p3=rp∧o=rhos)∨∀ad,p3=some ad→wr.heap.size≤ad.block):WP w p2 n2 c2 l p3 n3 c3 o u (m++o.take 0) w3:=by
 refine⟨by rw [List.take_zero,List.append_nil];exact h0.step hb,hr,fun aS ad hp e=>?_⟩;have h1:=World.ownsRow.lt h0.own ad.block e;rcases pJ with⟨h2,h3⟩|h2
 ·have:=Bf dJ.row (h3▸aS) (h2▸hp);omega
 ·have:=h2 ad hp;omega
theorem St.cell{w:World}{b o:Nat}{n2 c2:Nat}{l:List AH}{u:Value}{m:List Int}{wr:World}(h:St w (some ⟨b,o,none⟩) n2 c2 l u m wr){k:Nat}{x:AH}(hx:l[k]?=some x)(i:Nat)(v:Value)(hv:(Bn x)[i]?=some v):wr.cell? ⟨b,o+k * 19+i,none⟩=some v:=by obtain⟨b',o',hp,_,hc⟩:=h.row.row.elem hx;cases hp;exact hc i v hv
theorem Rc{M o:List Int}{j:Nat}{x:Int}(hx:o[j]?=some x)(hi:Du (M++o.take j) x=false):Bg (M++o.take j) (o.drop j)=Bg (M++o.take (j+1)) (o.drop (j+1)):=by
 have aF:=Bh hx;have hd:o.drop j=x::o.drop (j+1):=by rw [List.drop_eq_getElem_cons aF];congr 1;rw [List.getElem?_eq_getElem aF] at hx;exact Option.some.inj hx
 rw [hd,Bg,hi,Bool.false_or,AI hx,List.append_assoc]
theorem TH{M o:List Int}{j:Nat}{x:Int}(hx:o[j]?=some x)(hi:Du (M++o.take j) x=true):Bg (M++o.take j) (o.drop j)=true:=by
 have aF:=Bh hx;have hd:o.drop j=x::o.drop (j+1):=by rw [List.drop_eq_getElem_cons aF];congr 1;rw [List.getElem?_eq_getElem aF] at hx;exact Option.some.inj hx
 rw [hd,Bg,hi,Bool.true_or]
theorem MK{l:List AH}{k:Nat}{x:AH}(hx:l[k]?=some x)(M:List Int):Ft ((l.drop k).map AH.plain) M=if Bg M (BP x.plain) then some x.at_ else Ft ((l.drop (k+1)).map AH.plain) (M++BP x.plain):=by
 have aF:=Bh hx;have hd:l.drop k=x::l.drop (k+1):=by rw [List.drop_eq_getElem_cons aF];congr 1;rw [List.getElem?_eq_getElem aF] at hx;exact Option.some.inj hx
 rw [hd,List.map_cons,Ft];rfl
theorem LD{l:List AH}{k:Nat}{x:AH}(hx:l[k]?=some x):Dw (l.take (k+1))=Dw (l.take k)++BP x.plain:=by unfold Dw;rw [AI hx,List.flatMap_append];simp
theorem Lp{t:PA}{w:World}(hl:LA.lies w t)(hs:BR t)(hz:t.size≤1000):Calls prog 54 #[Aj t.head] w fun e w'=>Hs (Dv (PA.er t)) e∧Below w.heap.size w w':=by
 have aE:=AA (Aa w t.head);have HL:=AA hl;have cg:=AA (Mt hl);have HS:=AA hs;have dM:=DH t;have bz:Below w.heap.size w ((w.alloc (AO t.head)).alloc (.cells #[] 3)):=bA.alloc (by simp) _;have aJ:=AA bz;have oF:=AA (aE.o.below ((Below.refl _ _).alloc (Nat.le_refl _) (.cells #[] 3)));have dN:=AA (AJ.lit Ab (w.alloc (AO t.head)) (w.heap.size+1) 3 1 (by simp));have nF:(w.alloc (AO t.head)).heap.size=w.heap.size+1:=by simp
 have iq:((w.alloc (AO t.head)).alloc (.cells #[] 3)).heap.size=w.heap.size+2:=by simp
 have mA:=AA iq;rw [nF] at dN;have HZ:=AA hz;have gZ:=AA dM;have fk:Hd (Dv (PA.er t)=Ft ((AG.nodes t).map AH.plain) []):=by show _=_;unfold Dv;rw [Ms]
 clear hl hs bz nF iq hz dM;go_enter func54,ntmps54;go_upto_region 2 with fail;generalize ((w.alloc (AO t.head)).alloc (.cells #[] 3))=W1 at *
 go_upto_region 3 with(first
  |(refine lw oF.o.blk underlying31 ?_)
  |(go_at_call 26;refine(Kd t _ (LA.lies_below aJ.o t HL.o) HZ.o).mono ?_;rintro e w2 ⟨⟨p2,c2,rfl,cC⟩,hb⟩;have aK:=bt aJ hb;have az:=AA (dN.o.below hb);have gV:=AA hb;have iz:=AA cC;clear hb cC))
 obtain⟨q2,cc2,iu,dE⟩:=AJ.isRow Fl (by omega) iz.o;cases iu;have aL:=AA dE;have lM:Hd (∀b:Addr,p2=some b→W1.heap.size≤b.block∧b.block<w2.heap.size):=fun b e=>World.ownsRow.lt iz.o b.block (by rw [e];rfl);have aG:=aL.o.len;have cN:Hd (w.heap.size+1≤w2.heap.size):=by have h1:=mA.o;have h2:=gV.o.size;show _≤_;omega
 have nU:Hd (St w p2 t.size c2 (AG.nodes t) (.slice (some ⟨w.heap.size+1,0,none⟩) 0 0) [] w2):=⟨az.o,aL.o,fun _ ad hp e=>by have h1:=lM.o ad hp;have h2:=mA.o;have h3:w.heap.size+1=ad.block:=Option.some.inj e;omega,aK.o,cN.o⟩;clear dE;go_wp2_with fail;go_loopw [4,6,7,8,14,24] (fun u _ _ _ i _ wr=>∃k:Nat,k≤t.size∧i=.int .i64 k∧St w p2 t.size c2 (AG.nodes t) u (Dw ((AG.nodes t).take k)) wr∧Ft ((AG.nodes t).map AH.plain) []=Ft (((AG.nodes t).drop k).map AH.plain) (Dw ((AG.nodes t).take k))) (fun _ _ _ _ i _ _=>t.size-(intOf i).toNat)
 case atStart=>exact⟨0,Nat.zero_le _,rfl,nU.o,rfl⟩
 case round=>
  obtain⟨k,hk,rfl,qM,eM⟩:=hrel;have lg:=AA qM;have oA:=AA eM;clear qM eM;by_cases aF:k<t.size
  ·obtain⟨x,hx⟩:∃x,(AG.nodes t)[k]?=some x:=AM (by rw [aG];exact aF);obtain⟨b,o,bF,aP,am⟩:=lg.o.row.row.elem hx;subst bF;have jd:=List.mem_of_getElem? hx;have HX:=AA hx;have dC:=AA (show ∀i v,(Bn x)[i]?=some v→wr.cell? ⟨b,o+k * 19+i,none⟩=some v from am);have ax:=AA ((cg.o x jd).rhos.below (Below.mono lg.o.below (Nat.le_refl _)));have ry:=AA (cg.o x jd).rhos;have eG:=RU (l:=(AG.nodes t).take k) (fun a ha=>by have h1:=(cg.o a (List.mem_of_mem_take ha)).rhos.len;have h2:=(HS.o a (List.mem_of_mem_take ha)).rhos;omega);have j9:=JT (a:=x) (n:=50) (by have h1:=(cg.o x jd).rhos.len;have h2:=(HS.o x jd).rhos;omega) (by decide);rw [List.length_take] at eG;have tT:=HZ.o;clear hx aP am jd
   go_upto_region 7 with(first
    |(refine lm (Bn x) dC.o underlying31 ?_)
    |(go_at_call 47;refine(Nq x ax.o).mono ?_;rintro e w3 ⟨p3,n3,c3,rfl,bP,jy,dq⟩;have dt:=bP.len;have fO:=AA (lg.o.withOwn dq bP ry.o jy);clear bP dq jy))
   obtain⟨M,hM⟩:∃M,Dw ((AG.nodes t).take k)=M:=⟨_,rfl⟩;have HM:=AA hM;rw [hM] at fO eG;obtain⟨O,hO⟩:∃O,BP x.plain=O:=⟨_,rfl⟩;have HO:=AA hO;rw [hO] at fO j9 dt;clear hM hO lg;go_wp2_with fail;go_loopw [4,8,24] (fun u _ i wi=>∃j:Nat,j≤n3∧i=.int .i64 j∧WP w (some ⟨b,o,none⟩) t.size c2 (AG.nodes t) p3 n3 c3 O u (M++O.take j) wi∧Bg M O=Bg (M++O.take j) (O.drop j)) (fun _ _ i _=>n3-(intOf i).toNat)
   case atStart=>exact⟨0,Nat.zero_le _,rfl,fO.o,by simp⟩
   case round=>
    obtain⟨j,hj,rfl,dL,de⟩:=hrel;have HK:=AA dL;have lK:=AA de;clear dL de;obtain⟨L,hL⟩:∃L,M++O.take j=L:=⟨_,rfl⟩;have HL:=AA hL;obtain⟨nl,dD⟩:∃nl,L.length=nl:=⟨_,rfl⟩;have tj:nl≤60000:=by rw [←dD,←hL,List.length_append,List.length_take];omega
    rw [hL] at HK lK;have iO:=AA dD;clear hL;by_cases gi:j<n3
    ·obtain⟨y,hy⟩:=AM (l:=O) (j:=j) (by omega);have HY:=AA hy;obtain⟨b3,o3,tA,d0⟩:=HK.o.row.row.num hy;subst tA;have aB:=HK.o.j.own;rw [dD] at aB;obtain⟨pu,cu,hu,lG⟩:=AJ.isRow Ag (by omega) aB;subst hu;have ob:=AA aB;clear aB dD;have aN:=AA lG;clear hy lG;cases hi:Du L y
     ·have HI:=AA hi;clear hi;have gG:=fun W=>Al Ag (by omega) W 3 [y] 1 #[.int .i64 y] rfl rfl (by decide);have oe:=AA gG;clear gG
      go_wp2_with (first
       |(go_at_call 21;refine(Cs HI.o aN.o).mono ?_;rintro e w9 ⟨rfl,rfl⟩)
       |(at_builtin;refine Am rfl _ _ 24 rfl (w.heap.size+1) 3 _ 1 8 underlying24 F9 rfl (by decide) Ab Ag Co [y] L nl _ (A5 ob.o _) _ 1 _ rfl rfl rfl (by intro h;cases h) (oe.o _).row (by omega) (by omega) (Nat.le_trans HK.o.j.size (by simp)) ?_;intro v4 w4 bD fV hU;have fo:=AA ((HK.o.step bA).push (by rw [iO.o];exact bD) fV hU);clear bD fV hU))
      go_roundw
      case rel=>exact⟨j+1,by omega,by go_num,by rw [AI HY.o,←List.append_assoc,HL.o];exact fo.o,by rw [lK.o,←HL.o];exact Rc HY.o (by rw [HL.o];exact HI.o)⟩
      case measure=>simp [intOf];omega
     ·have HI:=AA hi;have c2:=HK.o.j.cell HX.o 2 _ rfl;clear hi;go_wp2_with (go_at_call 21;refine(Cs HI.o aN.o).mono ?_;rintro e w9 ⟨rfl,rfl⟩);go_ret2;refine⟨?_,HK.o.j.below⟩;rw [fk.o,oA.o,MK HX.o,HM.o,HO.o,lK.o,←HL.o,TH HY.o (by rw [HL.o];exact HI.o),if_pos rfl];rfl
    ·have ex:j=n3:=by omega
     have HF:Hd (O.take j=O):=List.take_of_length_le (by omega);have pl:=AA HK.o;rw [←HL.o,HF.o] at pl;have iw:Hd (Bg M O=false):=by show _=_;rw [lK.o,List.drop_of_length_le (by omega)];rfl
     clear HK;go_wp2_with fail;go_roundw
     case rel=>exact⟨k+1,by omega,by go_num,by rw [LD HX.o,HM.o,HO.o];exact pl.o.j,by rw [oA.o,MK HX.o,LD HX.o,HM.o,HO.o,iw.o];rfl⟩
     case measure=>simp [intOf];omega
  ·have ao:k=t.size:=by omega
   subst ao;go_wp2_with fail;go_ret2;refine⟨?_,lg.o.below⟩;rw [fk.o,oA.o,List.drop_of_length_le (by omega)];rfl
theorem PX{rhos l l':List Int}(h:∀z,z∈l↔z∈l'):At rhos l=At rhos l':=by unfold At;rw [Bool.eq_iff_iff,List.all_eq_true,List.all_eq_true];exact⟨fun h1 z hz=>h1 z ((h z).2 hz),fun h1 z hz=>h1 z ((h z).1 hz)⟩
theorem Fe{a:AH}{rhos R:List Int}(h1:(decide (a.kind=17)||Du rhos a.rho)=true)(h2:(!decide (a.kind=18)||At rhos a.rhos)=true)(hR:R=if a.kind=13 then rhos++a.rhos else rhos):A8 a.plain rhos=(At R (BQ a.eff)&&At R (Cb [] (AY [a.ty,a.res]))):=by
 have e:At R (Cb [] (AY [a.ty,a.res]))=At R (Bv (By a.ty.er++By a.res.er)):=PX (fun z=>by
  rw [Kq,Ep];simp [AY])
 rw [e];show ((decide (a.kind=17)||Du rhos a.rho)&&(!decide (a.kind=18)||At rhos a.rhos)&&(At (if a.kind=13 then rhos++a.rhos else rhos) (BQ a.eff)&&At (if a.kind=13 then rhos++a.rhos else rhos) (Bv (By a.ty.er++By a.res.er))))=_;rw [h1,h2,←hR,Bool.true_and,Bool.true_and]
theorem LW{a:AH}{rhos:List Int}(h:((decide (a.kind=17)||Du rhos a.rho)&&(!decide (a.kind=18)||At rhos a.rhos))=false):A8 a.plain rhos=false:=by show ((decide (a.kind=17)||Du rhos a.rho)&&(!decide (a.kind=18)||At rhos a.rhos)&&_)=false;rw [h,Bool.false_and]
theorem K0{w:World}{a:AH}(ha:AH.Own w a)(hs:Bl a){q:Option Addr}{m mc:Nat}{rhos:List Int}(hq:AE Ab 1 w q m mc rhos)(hm:m≤900000)(k17:a.kind≠17)(hi:Du rhos a.rho=false):Calls prog 114 #[Aj a,.slice q m mc] w (RB w (.bool (A8 a.plain rhos))):=by
 have aY:Below w.heap.size w (w.alloc (AO a)):=bA;have HB:=AA aY;have aE:=AA (Aa w a);have aa:=AA (hq.below aY);have ax:=AA (ha.rhos.below aY);have aq:=AA (ha.eff.below aY);have bH:=AA (LR.lies_below aY _ ha.ty);have bT:=AA (LR.lies_below aY _ ha.res);have dy:a.en≤1000000:=by have h1:=ha.eff.len;have h2:=CD hs.eff;omega
 have d8:a.rn≤50:=hs.rhos;have dI:(AY [a.ty,a.res]).length≤9000000:=by have h1:=C5 _ hs.ty.effs;have h2:=C5 _ hs.res.effs;have h3:=hs.ty.size;have h4:=hs.res.size;simp only [AY,List.flatMap_cons,List.flatMap_nil,List.append_nil,List.length_append];omega
 have gY:=AA dI
 have jI:Hd (∀x∈[a.ty,a.res],BG (PT.er x)=true):=fun x hx=>by
  simp only [List.mem_cons,List.not_mem_nil,or_false] at hx;rcases hx with rfl|rfl
  ·exact hs.ty.effs
  ·exact hs.res.effs
 have c0:=aE.o.c 0 _ rfl;have c7:=aE.o.c 7 _ rfl;have c8:=aE.o.c 8 _ rfl;have e17:(a.kind==17)=false:=by simp [k17]
 have n17:(a.kind != 17)=true:=by simp [k17]
 have eJ:=AA hi;have bi:=AA (show (0:Nat)=0 from rfl);have bI:=AA (LW (a:=a) (rhos:=rhos) (by simp [k17,hi]));clear k17 hi;clear aY ha hs hq dI;go_enter func114,ntmps114;go_upto_region 1 with fail;generalize w.alloc (AO a)=W1 at *
 go_wp2_with (first
  |(go_at_call 21;refine(DL eJ.o aa.o).mono ?_;rintro e w6 ⟨rfl,hb⟩;have HB:=bt HB hb;have aE:=AA (aE.o.below hb);have c0:=aE.o.c 0 _ rfl;have c7:=aE.o.c 7 _ rfl;have c8:=aE.o.c 8 _ rfl;have c9:=aE.o.c 9 _ rfl;have aa:=AA (aa.o.below hb);have bH:=AA (LR.lies_below hb _ bH.o);have bT:=AA (LR.lies_below hb _ bT.o);have ax:=AA (ax.o.below hb);have aq:=AA (aq.o.below hb);clear hb)
  |(go_at_call 153;refine(Ah bi.o ax.o aa.o).mono ?_;rintro e w6 ⟨rfl,rfl⟩))
 refine bodyPost_ret (results_tmp (fn:=f114) (t:=4) rfl _ _ _) rfl ?_;exact⟨AB (by rw [bI.o]),HB.o⟩
theorem Kz{w:World}{a:AH}(ha:AH.Own w a)(hs:Bl a){q:Option Addr}{m mc:Nat}{rhos:List Int}(hq:AE Ab 1 w q m mc rhos)(hm:m≤900000)(hk:a.kind=18)(hi:Du rhos a.rho=true)(hj:At rhos a.rhos=false):Calls prog 114 #[Aj a,.slice q m mc] w (RB w (.bool (A8 a.plain rhos))):=by
 have aY:Below w.heap.size w (w.alloc (AO a)):=bA;have HB:=AA aY;have aE:=AA (Aa w a);have aa:=AA (hq.below aY);have ax:=AA (ha.rhos.below aY);have aq:=AA (ha.eff.below aY);have bH:=AA (LR.lies_below aY _ ha.ty);have bT:=AA (LR.lies_below aY _ ha.res);have dy:a.en≤1000000:=by have h1:=ha.eff.len;have h2:=CD hs.eff;omega
 have d8:a.rn≤50:=hs.rhos;have dI:(AY [a.ty,a.res]).length≤9000000:=by have h1:=C5 _ hs.ty.effs;have h2:=C5 _ hs.res.effs;have h3:=hs.ty.size;have h4:=hs.res.size;simp only [AY,List.flatMap_cons,List.flatMap_nil,List.append_nil,List.length_append];omega
 have gY:=AA dI
 have jI:Hd (∀x∈[a.ty,a.res],BG (PT.er x)=true):=fun x hx=>by
  simp only [List.mem_cons,List.not_mem_nil,or_false] at hx;rcases hx with rfl|rfl
  ·exact hs.ty.effs
  ·exact hs.res.effs
 have c0:=aE.o.c 0 _ rfl;have c7:=aE.o.c 7 _ rfl;have c8:=aE.o.c 8 _ rfl;have e17:=kb hk 17;have n17:(a.kind != 17)=true:=by rw [hk];rfl
 have e18:=kb hk 18;have n18:(a.kind != 18)=false:=by rw [hk];rfl
 have eJ:=AA hi;have bi:=AA hj;have bI:=AA (LW (a:=a) (rhos:=rhos) (by simp [hk,hi,hj]));clear hk hi hj;clear aY ha hs hq dI;go_enter func114,ntmps114;go_upto_region 1 with fail;generalize w.alloc (AO a)=W1 at *
 go_wp2_with (first
  |(go_at_call 21;refine(DL eJ.o aa.o).mono ?_;rintro e w6 ⟨rfl,hb⟩;have HB:=bt HB hb;have aE:=AA (aE.o.below hb);have c0:=aE.o.c 0 _ rfl;have c7:=aE.o.c 7 _ rfl;have c8:=aE.o.c 8 _ rfl;have c9:=aE.o.c 9 _ rfl;have aa:=AA (aa.o.below hb);have bH:=AA (LR.lies_below hb _ bH.o);have bT:=AA (LR.lies_below hb _ bT.o);have ax:=AA (ax.o.below hb);have aq:=AA (aq.o.below hb);clear hb)
  |(go_at_call 153;refine(Ah bi.o ax.o aa.o).mono ?_;rintro e w6 ⟨rfl,rfl⟩))
 refine bodyPost_ret (results_tmp (fn:=f114) (t:=4) rfl _ _ _) rfl ?_;exact⟨AB (by rw [bI.o]),HB.o⟩
theorem KJ{w:World}{a:AH}(ha:AH.Own w a)(hs:Bl a){q:Option Addr}{m mc:Nat}{rhos:List Int}(hq:AE Ab 1 w q m mc rhos)(hm:m≤900000)(hk:a.kind=17):Calls prog 114 #[Aj a,.slice q m mc] w (RB w (.bool (A8 a.plain rhos))):=by
 have aY:Below w.heap.size w (w.alloc (AO a)):=bA;have HB:=AA aY;have aE:=AA (Aa w a);have aa:=AA (hq.below aY);have ax:=AA (ha.rhos.below aY);have aq:=AA (ha.eff.below aY);have bH:=AA (LR.lies_below aY _ ha.ty);have bT:=AA (LR.lies_below aY _ ha.res);have dy:a.en≤1000000:=by have h1:=ha.eff.len;have h2:=CD hs.eff;omega
 have d8:a.rn≤50:=hs.rhos;have dI:(AY [a.ty,a.res]).length≤9000000:=by have h1:=C5 _ hs.ty.effs;have h2:=C5 _ hs.res.effs;have h3:=hs.ty.size;have h4:=hs.res.size;simp only [AY,List.flatMap_cons,List.flatMap_nil,List.append_nil,List.length_append];omega
 have gY:=AA dI
 have jI:Hd (∀x∈[a.ty,a.res],BG (PT.er x)=true):=fun x hx=>by
  simp only [List.mem_cons,List.not_mem_nil,or_false] at hx;rcases hx with rfl|rfl
  ·exact hs.ty.effs
  ·exact hs.res.effs
 have c0:=aE.o.c 0 _ rfl;have c7:=aE.o.c 7 _ rfl;have c8:=aE.o.c 8 _ rfl;have e13:=kb hk 13;have n13:(a.kind != 13)=true:=by rw [hk];rfl
 have e17:=kb hk 17;have n17:(a.kind != 17)=false:=by rw [hk];rfl
 have e18:=kb hk 18;have n18:(a.kind != 18)=true:=by rw [hk];rfl
 have eJ:=AA (show (0:Nat)=0 from rfl);have bi:=eJ;have jj:=AA (Fe (a:=a) (rhos:=rhos) (R:=rhos) (by simp [hk]) (by simp [hk]) (by simp [hk]));clear hk;clear aY ha hs hq dI;go_enter func114,ntmps114;go_upto_region 1 with fail;generalize w.alloc (AO a)=W1 at *
 go_upto_region 5 with(first
  |(go_at_call 21;refine(DL eJ.o aa.o).mono ?_;rintro e w6 ⟨rfl,hb⟩;have HB:=bt HB hb;have aE:=AA (aE.o.below hb);have c0:=aE.o.c 0 _ rfl;have c7:=aE.o.c 7 _ rfl;have c8:=aE.o.c 8 _ rfl;have c9:=aE.o.c 9 _ rfl;have aa:=AA (aa.o.below hb);have bH:=AA (LR.lies_below hb _ bH.o);have bT:=AA (LR.lies_below hb _ bT.o);have ax:=AA (ax.o.below hb);have aq:=AA (aq.o.below hb);clear hb)
  |(go_at_call 153;refine(Ah bi.o ax.o aa.o).mono ?_;rintro e w6 ⟨rfl,rfl⟩)
  |(go_at_call 154;refine(C8 aa.o ax.o (by omega) (by omega)).mono ?_;rintro e w4 ⟨q4,n4,c4,rfl,ie,eX,hb⟩;have dv:=AA eX;have oa:=AA ie;have HB:=bt HB hb;have aE:=AA (aE.o.below hb);have c0:=aE.o.c 0 _ rfl;have c7:=aE.o.c 7 _ rfl;have c8:=aE.o.c 8 _ rfl;have c9:=aE.o.c 9 _ rfl;have aa:=AA (aa.o.below hb);have bH:=AA (LR.lies_below hb _ bH.o);have bT:=AA (LR.lies_below hb _ bT.o);have ax:=AA (ax.o.below hb);have aq:=AA (aq.o.below hb);clear hb eX ie))
 obtain⟨u3,fA⟩:∃u,At rhos (BQ a.eff)=u:=⟨_,rfl⟩;obtain⟨u4,fB⟩:∃u,At rhos (Cb [] (AY [a.ty,a.res]))=u:=⟨_,rfl⟩;have gI:=AA fA;have jP:=AA fB;have bI:Hd (A8 a.plain rhos=(u3&&u4)):=by show _=_;rw [←fA,←fB];exact jj.o
 have c9:=aE.o.c 9 _ rfl;clear fA fB;cases u3
 ·go_wp2_with (first
   |(go_at_call 153;refine(Ah gI.o bN.o aa.o).mono ?_;rintro e w6 ⟨rfl,rfl⟩)
   |(go_at_call 16;refine(Cf aq.o dy).mono ?_;rintro e w5 ⟨⟨q5,n5,c5,rfl,cK⟩,hb⟩;have bN:=AA cK;have HB:=bt HB hb;have aE:=AA (aE.o.below hb);have c0:=aE.o.c 0 _ rfl;have c7:=aE.o.c 7 _ rfl;have c8:=aE.o.c 8 _ rfl;have c9:=aE.o.c 9 _ rfl;have aa:=AA (aa.o.below hb);have bH:=AA (LR.lies_below hb _ bH.o);have bT:=AA (LR.lies_below hb _ bT.o);have ax:=AA (ax.o.below hb);have aq:=AA (aq.o.below hb);clear hb cK))
  refine bodyPost_ret (results_tmp (fn:=f114) (t:=4) rfl _ _ _) rfl ?_;exact⟨AB (by rw [bI.o];rfl),HB.o⟩
 ·go_wp2_with (first
   |(go_at_call 153;refine(Ah jP.o fg.o aa.o).mono ?_;rintro e w8 ⟨rfl,rfl⟩)
   |(go_at_call 153;refine(Ah gI.o bN.o aa.o).mono ?_;rintro e w6 ⟨rfl,rfl⟩)
   |(go_at_call 16;refine(Cf aq.o dy).mono ?_;rintro e w5 ⟨⟨q5,n5,c5,rfl,cK⟩,hb⟩;have bN:=AA cK;have HB:=bt HB hb;have aE:=AA (aE.o.below hb);have c0:=aE.o.c 0 _ rfl;have c7:=aE.o.c 7 _ rfl;have c8:=aE.o.c 8 _ rfl;have c9:=aE.o.c 9 _ rfl;have aa:=AA (aa.o.below hb);have bH:=AA (LR.lies_below hb _ bH.o);have bT:=AA (LR.lies_below hb _ bT.o);have ax:=AA (ax.o.below hb);have aq:=AA (aq.o.below hb);clear hb cK)
   |(refine NY a.ty (Ax aE.o 10 4 rfl) underlying28 ?_)
   |(refine NY a.res (Ax aE.o 14 4 rfl) underlying28 ?_)
   |(go_at_call 155;refine(Ez (DQ bH.o bT.o _) gY.o jI.o).mono ?_;rintro e w7 ⟨q7,n7,c7',rfl,ef,hb⟩;have fg:=AA ef;have HB:=AA ((AQ HB.o _).trans (hb.mono (AQ HB.o _).size));have aa:=AA ((aa.o.alloc _).below hb);clear hb ef))
  refine bodyPost_ret (results_tmp (fn:=f114) (t:=4) rfl _ _ _) rfl ?_;exact⟨AB (by rw [bI.o];rfl),HB.o⟩
theorem KK{w:World}{a:AH}(ha:AH.Own w a)(hs:Bl a){q:Option Addr}{m mc:Nat}{rhos:List Int}(hq:AE Ab 1 w q m mc rhos)(hm:m≤900000)(hk:a.kind=18)(hi:Du rhos a.rho=true)(hj:At rhos a.rhos=true):Calls prog 114 #[Aj a,.slice q m mc] w (RB w (.bool (A8 a.plain rhos))):=by
 have aY:Below w.heap.size w (w.alloc (AO a)):=bA;have HB:=AA aY;have aE:=AA (Aa w a);have aa:=AA (hq.below aY);have ax:=AA (ha.rhos.below aY);have aq:=AA (ha.eff.below aY);have bH:=AA (LR.lies_below aY _ ha.ty);have bT:=AA (LR.lies_below aY _ ha.res);have dy:a.en≤1000000:=by have h1:=ha.eff.len;have h2:=CD hs.eff;omega
 have d8:a.rn≤50:=hs.rhos;have dI:(AY [a.ty,a.res]).length≤9000000:=by have h1:=C5 _ hs.ty.effs;have h2:=C5 _ hs.res.effs;have h3:=hs.ty.size;have h4:=hs.res.size;simp only [AY,List.flatMap_cons,List.flatMap_nil,List.append_nil,List.length_append];omega
 have gY:=AA dI
 have jI:Hd (∀x∈[a.ty,a.res],BG (PT.er x)=true):=fun x hx=>by
  simp only [List.mem_cons,List.not_mem_nil,or_false] at hx;rcases hx with rfl|rfl
  ·exact hs.ty.effs
  ·exact hs.res.effs
 have c0:=aE.o.c 0 _ rfl;have c7:=aE.o.c 7 _ rfl;have c8:=aE.o.c 8 _ rfl;have e13:=kb hk 13;have n13:(a.kind != 13)=true:=by rw [hk];rfl
 have e17:=kb hk 17;have n17:(a.kind != 17)=true:=by rw [hk];rfl
 have e18:=kb hk 18;have n18:(a.kind != 18)=false:=by rw [hk];rfl
 have eJ:=AA hi;have bi:=AA hj;have jj:=AA (Fe (a:=a) (rhos:=rhos) (R:=rhos) (by simp [hi]) (by simp [hj]) (by simp [hk]));clear hk hi hj;clear aY ha hs hq dI;go_enter func114,ntmps114;go_upto_region 1 with fail;generalize w.alloc (AO a)=W1 at *
 go_upto_region 5 with(first
  |(go_at_call 21;refine(DL eJ.o aa.o).mono ?_;rintro e w6 ⟨rfl,hb⟩;have HB:=bt HB hb;have aE:=AA (aE.o.below hb);have c0:=aE.o.c 0 _ rfl;have c7:=aE.o.c 7 _ rfl;have c8:=aE.o.c 8 _ rfl;have c9:=aE.o.c 9 _ rfl;have aa:=AA (aa.o.below hb);have bH:=AA (LR.lies_below hb _ bH.o);have bT:=AA (LR.lies_below hb _ bT.o);have ax:=AA (ax.o.below hb);have aq:=AA (aq.o.below hb);clear hb)
  |(go_at_call 153;refine(Ah bi.o ax.o aa.o).mono ?_;rintro e w6 ⟨rfl,rfl⟩)
  |(go_at_call 154;refine(C8 aa.o ax.o (by omega) (by omega)).mono ?_;rintro e w4 ⟨q4,n4,c4,rfl,ie,eX,hb⟩;have dv:=AA eX;have oa:=AA ie;have HB:=bt HB hb;have aE:=AA (aE.o.below hb);have c0:=aE.o.c 0 _ rfl;have c7:=aE.o.c 7 _ rfl;have c8:=aE.o.c 8 _ rfl;have c9:=aE.o.c 9 _ rfl;have aa:=AA (aa.o.below hb);have bH:=AA (LR.lies_below hb _ bH.o);have bT:=AA (LR.lies_below hb _ bT.o);have ax:=AA (ax.o.below hb);have aq:=AA (aq.o.below hb);clear hb eX ie))
 obtain⟨u3,fA⟩:∃u,At rhos (BQ a.eff)=u:=⟨_,rfl⟩;obtain⟨u4,fB⟩:∃u,At rhos (Cb [] (AY [a.ty,a.res]))=u:=⟨_,rfl⟩;have gI:=AA fA;have jP:=AA fB;have bI:Hd (A8 a.plain rhos=(u3&&u4)):=by show _=_;rw [←fA,←fB];exact jj.o
 have c9:=aE.o.c 9 _ rfl;clear fA fB;cases u3
 ·go_wp2_with (first
   |(go_at_call 153;refine(Ah gI.o bN.o aa.o).mono ?_;rintro e w6 ⟨rfl,rfl⟩)
   |(go_at_call 16;refine(Cf aq.o dy).mono ?_;rintro e w5 ⟨⟨q5,n5,c5,rfl,cK⟩,hb⟩;have bN:=AA cK;have HB:=bt HB hb;have aE:=AA (aE.o.below hb);have c0:=aE.o.c 0 _ rfl;have c7:=aE.o.c 7 _ rfl;have c8:=aE.o.c 8 _ rfl;have c9:=aE.o.c 9 _ rfl;have aa:=AA (aa.o.below hb);have bH:=AA (LR.lies_below hb _ bH.o);have bT:=AA (LR.lies_below hb _ bT.o);have ax:=AA (ax.o.below hb);have aq:=AA (aq.o.below hb);clear hb cK))
  refine bodyPost_ret (results_tmp (fn:=f114) (t:=4) rfl _ _ _) rfl ?_;exact⟨AB (by rw [bI.o];rfl),HB.o⟩
 ·go_wp2_with (first
   |(go_at_call 153;refine(Ah jP.o fg.o aa.o).mono ?_;rintro e w8 ⟨rfl,rfl⟩)
   |(go_at_call 153;refine(Ah gI.o bN.o aa.o).mono ?_;rintro e w6 ⟨rfl,rfl⟩)
   |(go_at_call 16;refine(Cf aq.o dy).mono ?_;rintro e w5 ⟨⟨q5,n5,c5,rfl,cK⟩,hb⟩;have bN:=AA cK;have HB:=bt HB hb;have aE:=AA (aE.o.below hb);have c0:=aE.o.c 0 _ rfl;have c7:=aE.o.c 7 _ rfl;have c8:=aE.o.c 8 _ rfl;have c9:=aE.o.c 9 _ rfl;have aa:=AA (aa.o.below hb);have bH:=AA (LR.lies_below hb _ bH.o);have bT:=AA (LR.lies_below hb _ bT.o);have ax:=AA (ax.o.below hb);have aq:=AA (aq.o.below hb);clear hb cK)
   |(refine NY a.ty (Ax aE.o 10 4 rfl) underlying28 ?_)
   |(refine NY a.res (Ax aE.o 14 4 rfl) underlying28 ?_)
   |(go_at_call 155;refine(Ez (DQ bH.o bT.o _) gY.o jI.o).mono ?_;rintro e w7 ⟨q7,n7,c7',rfl,ef,hb⟩;have fg:=AA ef;have HB:=AA ((AQ HB.o _).trans (hb.mono (AQ HB.o _).size));have aa:=AA ((aa.o.alloc _).below hb);clear hb ef))
  refine bodyPost_ret (results_tmp (fn:=f114) (t:=4) rfl _ _ _) rfl ?_;exact⟨AB (by rw [bI.o];rfl),HB.o⟩
theorem KI{w:World}{a:AH}(ha:AH.Own w a)(hs:Bl a){q:Option Addr}{m mc:Nat}{rhos:List Int}(hq:AE Ab 1 w q m mc rhos)(hm:m≤900000)(hk:a.kind=13)(hi:Du rhos a.rho=true):Calls prog 114 #[Aj a,.slice q m mc] w (RB w (.bool (A8 a.plain rhos))):=by
 have aY:Below w.heap.size w (w.alloc (AO a)):=bA;have HB:=AA aY;have aE:=AA (Aa w a);have aa:=AA (hq.below aY);have ax:=AA (ha.rhos.below aY);have aq:=AA (ha.eff.below aY);have bH:=AA (LR.lies_below aY _ ha.ty);have bT:=AA (LR.lies_below aY _ ha.res);have dy:a.en≤1000000:=by have h1:=ha.eff.len;have h2:=CD hs.eff;omega
 have d8:a.rn≤50:=hs.rhos;have dI:(AY [a.ty,a.res]).length≤9000000:=by have h1:=C5 _ hs.ty.effs;have h2:=C5 _ hs.res.effs;have h3:=hs.ty.size;have h4:=hs.res.size;simp only [AY,List.flatMap_cons,List.flatMap_nil,List.append_nil,List.length_append];omega
 have gY:=AA dI
 have jI:Hd (∀x∈[a.ty,a.res],BG (PT.er x)=true):=fun x hx=>by
  simp only [List.mem_cons,List.not_mem_nil,or_false] at hx;rcases hx with rfl|rfl
  ·exact hs.ty.effs
  ·exact hs.res.effs
 have c0:=aE.o.c 0 _ rfl;have c7:=aE.o.c 7 _ rfl;have c8:=aE.o.c 8 _ rfl;have e13:=kb hk 13;have n13:(a.kind != 13)=false:=by rw [hk];rfl
 have e17:=kb hk 17;have n17:(a.kind != 17)=true:=by rw [hk];rfl
 have e18:=kb hk 18;have n18:(a.kind != 18)=true:=by rw [hk];rfl
 have eJ:=AA hi;have bi:=AA (show (0:Nat)=0 from rfl);have jj:=AA (Fe (a:=a) (rhos:=rhos) (R:=rhos++a.rhos) (by simp [hi]) (by simp [hk]) (by simp [hk]));clear hk hi;clear aY ha hs hq dI;go_enter func114,ntmps114;go_upto_region 1 with fail;generalize w.alloc (AO a)=W1 at *
 go_upto_region 5 with(first
  |(go_at_call 21;refine(DL eJ.o aa.o).mono ?_;rintro e w6 ⟨rfl,hb⟩;have HB:=bt HB hb;have aE:=AA (aE.o.below hb);have c0:=aE.o.c 0 _ rfl;have c7:=aE.o.c 7 _ rfl;have c8:=aE.o.c 8 _ rfl;have c9:=aE.o.c 9 _ rfl;have aa:=AA (aa.o.below hb);have bH:=AA (LR.lies_below hb _ bH.o);have bT:=AA (LR.lies_below hb _ bT.o);have ax:=AA (ax.o.below hb);have aq:=AA (aq.o.below hb);clear hb)
  |(go_at_call 153;refine(Ah bi.o ax.o aa.o).mono ?_;rintro e w6 ⟨rfl,rfl⟩)
  |(go_at_call 154;refine(C8 aa.o ax.o (by omega) (by omega)).mono ?_;rintro e w4 ⟨q4,n4,c4,rfl,ie,eX,hb⟩;have dv:=AA eX;have oa:=AA ie;have HB:=bt HB hb;have aE:=AA (aE.o.below hb);have c0:=aE.o.c 0 _ rfl;have c7:=aE.o.c 7 _ rfl;have c8:=aE.o.c 8 _ rfl;have c9:=aE.o.c 9 _ rfl;have aa:=AA (aa.o.below hb);have bH:=AA (LR.lies_below hb _ bH.o);have bT:=AA (LR.lies_below hb _ bT.o);have ax:=AA (ax.o.below hb);have aq:=AA (aq.o.below hb);clear hb eX ie))
 have aa:=dv;obtain⟨R13,mG⟩:∃R,rhos++a.rhos=R:=⟨_,rfl⟩;rw [mG] at aa jj;clear mG dv;obtain⟨u3,fA⟩:∃u,At R13 (BQ a.eff)=u:=⟨_,rfl⟩;obtain⟨u4,fB⟩:∃u,At R13 (Cb [] (AY [a.ty,a.res]))=u:=⟨_,rfl⟩;have gI:=AA fA;have jP:=AA fB;have bI:Hd (A8 a.plain rhos=(u3&&u4)):=by show _=_;rw [←fA,←fB];exact jj.o
 have c9:=aE.o.c 9 _ rfl;clear fA fB;cases u3
 ·go_wp2_with (first
   |(go_at_call 153;refine(Ah gI.o bN.o aa.o).mono ?_;rintro e w6 ⟨rfl,rfl⟩)
   |(go_at_call 16;refine(Cf aq.o dy).mono ?_;rintro e w5 ⟨⟨q5,n5,c5,rfl,cK⟩,hb⟩;have bN:=AA cK;have HB:=bt HB hb;have aE:=AA (aE.o.below hb);have c0:=aE.o.c 0 _ rfl;have c7:=aE.o.c 7 _ rfl;have c8:=aE.o.c 8 _ rfl;have c9:=aE.o.c 9 _ rfl;have aa:=AA (aa.o.below hb);have bH:=AA (LR.lies_below hb _ bH.o);have bT:=AA (LR.lies_below hb _ bT.o);have ax:=AA (ax.o.below hb);have aq:=AA (aq.o.below hb);clear hb cK))
  refine bodyPost_ret (results_tmp (fn:=f114) (t:=4) rfl _ _ _) rfl ?_;exact⟨AB (by rw [bI.o];rfl),HB.o⟩
 ·go_wp2_with (first
   |(go_at_call 153;refine(Ah jP.o fg.o aa.o).mono ?_;rintro e w8 ⟨rfl,rfl⟩)
   |(go_at_call 153;refine(Ah gI.o bN.o aa.o).mono ?_;rintro e w6 ⟨rfl,rfl⟩)
   |(go_at_call 16;refine(Cf aq.o dy).mono ?_;rintro e w5 ⟨⟨q5,n5,c5,rfl,cK⟩,hb⟩;have bN:=AA cK;have HB:=bt HB hb;have aE:=AA (aE.o.below hb);have c0:=aE.o.c 0 _ rfl;have c7:=aE.o.c 7 _ rfl;have c8:=aE.o.c 8 _ rfl;have c9:=aE.o.c 9 _ rfl;have aa:=AA (aa.o.below hb);have bH:=AA (LR.lies_below hb _ bH.o);have bT:=AA (LR.lies_below hb _ bT.o);have ax:=AA (ax.o.below hb);have aq:=AA (aq.o.below hb);clear hb cK)
   |(refine NY a.ty (Ax aE.o 10 4 rfl) underlying28 ?_)
   |(refine NY a.res (Ax aE.o 14 4 rfl) underlying28 ?_)
   |(go_at_call 155;refine(Ez (DQ bH.o bT.o _) gY.o jI.o).mono ?_;rintro e w7 ⟨q7,n7,c7',rfl,ef,hb⟩;have fg:=AA ef;have HB:=AA ((AQ HB.o _).trans (hb.mono (AQ HB.o _).size));have aa:=AA ((aa.o.alloc _).below hb);clear hb ef))
  refine bodyPost_ret (results_tmp (fn:=f114) (t:=4) rfl _ _ _) rfl ?_;exact⟨AB (by rw [bI.o];rfl),HB.o⟩
theorem K1{w:World}{a:AH}(ha:AH.Own w a)(hs:Bl a){q:Option Addr}{m mc:Nat}{rhos:List Int}(hq:AE Ab 1 w q m mc rhos)(hm:m≤900000)(k17:a.kind≠17)(k18:a.kind≠18)(k13:a.kind≠13)(hi:Du rhos a.rho=true):Calls prog 114 #[Aj a,.slice q m mc] w (RB w (.bool (A8 a.plain rhos))):=by
 have aY:Below w.heap.size w (w.alloc (AO a)):=bA;have HB:=AA aY;have aE:=AA (Aa w a);have aa:=AA (hq.below aY);have ax:=AA (ha.rhos.below aY);have aq:=AA (ha.eff.below aY);have bH:=AA (LR.lies_below aY _ ha.ty);have bT:=AA (LR.lies_below aY _ ha.res);have dy:a.en≤1000000:=by have h1:=ha.eff.len;have h2:=CD hs.eff;omega
 have d8:a.rn≤50:=hs.rhos;have dI:(AY [a.ty,a.res]).length≤9000000:=by have h1:=C5 _ hs.ty.effs;have h2:=C5 _ hs.res.effs;have h3:=hs.ty.size;have h4:=hs.res.size;simp only [AY,List.flatMap_cons,List.flatMap_nil,List.append_nil,List.length_append];omega
 have gY:=AA dI
 have jI:Hd (∀x∈[a.ty,a.res],BG (PT.er x)=true):=fun x hx=>by
  simp only [List.mem_cons,List.not_mem_nil,or_false] at hx;rcases hx with rfl|rfl
  ·exact hs.ty.effs
  ·exact hs.res.effs
 have c0:=aE.o.c 0 _ rfl;have c7:=aE.o.c 7 _ rfl;have c8:=aE.o.c 8 _ rfl;have e13:(a.kind==13)=false:=by simp [k13]
 have n13:(a.kind != 13)=true:=by simp [k13]
 have e17:(a.kind==17)=false:=by simp [k17]
 have n17:(a.kind != 17)=true:=by simp [k17]
 have e18:(a.kind==18)=false:=by simp [k18]
 have n18:(a.kind != 18)=true:=by simp [k18]
 have eJ:=AA hi;have bi:=AA (show (0:Nat)=0 from rfl);have jj:=AA (Fe (a:=a) (rhos:=rhos) (R:=rhos) (by simp [hi]) (by simp [k18]) (by simp [k13]));clear k17 k18 k13 hi;clear aY ha hs hq dI;go_enter func114,ntmps114;go_upto_region 1 with fail;generalize w.alloc (AO a)=W1 at *
 go_upto_region 5 with(first
  |(go_at_call 21;refine(DL eJ.o aa.o).mono ?_;rintro e w6 ⟨rfl,hb⟩;have HB:=bt HB hb;have aE:=AA (aE.o.below hb);have c0:=aE.o.c 0 _ rfl;have c7:=aE.o.c 7 _ rfl;have c8:=aE.o.c 8 _ rfl;have c9:=aE.o.c 9 _ rfl;have aa:=AA (aa.o.below hb);have bH:=AA (LR.lies_below hb _ bH.o);have bT:=AA (LR.lies_below hb _ bT.o);have ax:=AA (ax.o.below hb);have aq:=AA (aq.o.below hb);clear hb)
  |(go_at_call 153;refine(Ah bi.o ax.o aa.o).mono ?_;rintro e w6 ⟨rfl,rfl⟩)
  |(go_at_call 154;refine(C8 aa.o ax.o (by omega) (by omega)).mono ?_;rintro e w4 ⟨q4,n4,c4,rfl,ie,eX,hb⟩;have dv:=AA eX;have oa:=AA ie;have HB:=bt HB hb;have aE:=AA (aE.o.below hb);have c0:=aE.o.c 0 _ rfl;have c7:=aE.o.c 7 _ rfl;have c8:=aE.o.c 8 _ rfl;have c9:=aE.o.c 9 _ rfl;have aa:=AA (aa.o.below hb);have bH:=AA (LR.lies_below hb _ bH.o);have bT:=AA (LR.lies_below hb _ bT.o);have ax:=AA (ax.o.below hb);have aq:=AA (aq.o.below hb);clear hb eX ie))
 obtain⟨u3,fA⟩:∃u,At rhos (BQ a.eff)=u:=⟨_,rfl⟩;obtain⟨u4,fB⟩:∃u,At rhos (Cb [] (AY [a.ty,a.res]))=u:=⟨_,rfl⟩;have gI:=AA fA;have jP:=AA fB;have bI:Hd (A8 a.plain rhos=(u3&&u4)):=by show _=_;rw [←fA,←fB];exact jj.o
 have c9:=aE.o.c 9 _ rfl;clear fA fB;cases u3
 ·go_wp2_with (first
   |(go_at_call 153;refine(Ah gI.o bN.o aa.o).mono ?_;rintro e w6 ⟨rfl,rfl⟩)
   |(go_at_call 16;refine(Cf aq.o dy).mono ?_;rintro e w5 ⟨⟨q5,n5,c5,rfl,cK⟩,hb⟩;have bN:=AA cK;have HB:=bt HB hb;have aE:=AA (aE.o.below hb);have c0:=aE.o.c 0 _ rfl;have c7:=aE.o.c 7 _ rfl;have c8:=aE.o.c 8 _ rfl;have c9:=aE.o.c 9 _ rfl;have aa:=AA (aa.o.below hb);have bH:=AA (LR.lies_below hb _ bH.o);have bT:=AA (LR.lies_below hb _ bT.o);have ax:=AA (ax.o.below hb);have aq:=AA (aq.o.below hb);clear hb cK))
  refine bodyPost_ret (results_tmp (fn:=f114) (t:=4) rfl _ _ _) rfl ?_;exact⟨AB (by rw [bI.o];rfl),HB.o⟩
 ·go_wp2_with (first
   |(go_at_call 153;refine(Ah jP.o fg.o aa.o).mono ?_;rintro e w8 ⟨rfl,rfl⟩)
   |(go_at_call 153;refine(Ah gI.o bN.o aa.o).mono ?_;rintro e w6 ⟨rfl,rfl⟩)
   |(go_at_call 16;refine(Cf aq.o dy).mono ?_;rintro e w5 ⟨⟨q5,n5,c5,rfl,cK⟩,hb⟩;have bN:=AA cK;have HB:=bt HB hb;have aE:=AA (aE.o.below hb);have c0:=aE.o.c 0 _ rfl;have c7:=aE.o.c 7 _ rfl;have c8:=aE.o.c 8 _ rfl;have c9:=aE.o.c 9 _ rfl;have aa:=AA (aa.o.below hb);have bH:=AA (LR.lies_below hb _ bH.o);have bT:=AA (LR.lies_below hb _ bT.o);have ax:=AA (ax.o.below hb);have aq:=AA (aq.o.below hb);clear hb cK)
   |(refine NY a.ty (Ax aE.o 10 4 rfl) underlying28 ?_)
   |(refine NY a.res (Ax aE.o 14 4 rfl) underlying28 ?_)
   |(go_at_call 155;refine(Ez (DQ bH.o bT.o _) gY.o jI.o).mono ?_;rintro e w7 ⟨q7,n7,c7',rfl,ef,hb⟩;have fg:=AA ef;have HB:=AA ((AQ HB.o _).trans (hb.mono (AQ HB.o _).size));have aa:=AA ((aa.o.alloc _).below hb);clear hb ef))
  refine bodyPost_ret (results_tmp (fn:=f114) (t:=4) rfl _ _ _) rfl ?_;exact⟨AB (by rw [bI.o];rfl),HB.o⟩
theorem CW{w:World}{a:AH}(ha:AH.Own w a)(hs:Bl a){q:Option Addr}{m mc:Nat}{rhos:List Int}(hq:AE Ab 1 w q m mc rhos)(hm:m≤900000){r:Bool}(hr:A8 a.plain rhos=r):Calls prog 114 #[Aj a,.slice q m mc] w (RB w (.bool r)):=by
 subst hr;by_cases k17:a.kind=17
 ·exact KJ ha hs hq hm k17
 cases hi:Du rhos a.rho with
 |false=>exact K0 ha hs hq hm k17 hi
 |true=>
  by_cases k18:a.kind=18
  ·cases hj:At rhos a.rhos with
   |false=>exact Kz ha hs hq hm k18 hi hj
   |true=>exact KK ha hs hq hm k18 hi hj
  ·by_cases k13:a.kind=13
   ·exact KI ha hs hq hm k13 hi
   ·exact K1 ha hs hq hm k17 k18 k13 hi
end Go.Proofs.YtkdjnegfnhldpaaGreatDoor
