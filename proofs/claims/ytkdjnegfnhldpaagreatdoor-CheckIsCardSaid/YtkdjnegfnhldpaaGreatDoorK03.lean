/- Part 03. -/
import Derived.Lib.AppendZerosOnto
import Derived.Laws.AppendOwnNone
import Derived.Test.YtkdjnegfnhldpaaGreatDoorK02
set_option linter.unusedVariables false
set_option maxRecDepth 100000
set_option linter.unusedSimpArgs false
set_option maxHeartbeats 40000000
namespace Go.Proofs.YtkdjnegfnhldpaaGreatDoor
open Go.Proofs.Tryz Go.RowKit
theorem As(y:AD):∀u∈AS y,u.oneCell'=true:=by intro u hu;simp only [AS,List.mem_cons,List.not_mem_nil,or_false] at hu;rcases hu with rfl|rfl|rfl<;>rfl
theorem CQ:(prog.info? 59).map (fun i=>(i.zero,i.size,i.bytes))=some (some (.agg #[.int .u8 0,.int .i64 0,.string .empty]),3,32):=by kernel_rfl
def CS(a:AD):List AD→List AD
 |[]=>[a]
 |b::l=>if AD.lt a b then a::b::l else b::CS a l
def D3(a:AD)(e:List AD):List AD:=if AX a&&!LP e a then CS a e else e
theorem Mx(a:AD):∀(l:List AD) (x:AD),l.any (AD.lt a)=true→CS a (l++[x])=CS a l++[x]
 |[],x,h=>by simp at h
 |b::l,x,h=>by
  simp only [List.cons_append,CS];by_cases hb:AD.lt a b=true
  ·simp [hb]
  ·rw [if_neg hb,if_neg hb,Mx a l x (by simpa [hb] using h)];rfl
theorem KG(a:AD):∀(l:List AD) (x:AD),l.any (AD.lt a)=false→AD.lt a x=true→CS a (l++[x])=l++[a,x]
 |[],x,_,hx=>by simp [CS,hx]
 |b::l,x,h,hx=>by simp only [List.any_cons,Bool.or_eq_false_iff] at h;simp only [List.cons_append,CS];rw [if_neg (by simp [h.1]),KG a l x h.2 hx]
theorem LS(a:AD):∀(l:List AD),l.any (AD.lt a)=false→CS a l=l++[a]
 |[],_=>rfl
 |b::l,h=>by simp only [List.any_cons,Bool.or_eq_false_iff] at h;simp only [CS,List.cons_append];rw [if_neg (by simp [h.1]),LS a l h.2]
theorem GW(a:AD):∀l:List AD,(CS a l).length=l.length+1
 |[]=>rfl
 |b::l=>by
  simp only [CS];split
  ·rfl
  ·simp [GW a l]
def G1(a:AD)(l:List AD):List AD:=if l.any (AD.lt a) then CS a l else l
theorem Tt(a:AD)(l:List AD)(x:AD)(h:l.any (AD.lt a)=true):G1 a (l++[x])=G1 a l++[x]:=by unfold G1;rw [if_pos h,if_pos (by rw [List.any_append,h];rfl),Mx a l x h]
theorem R3(a:AD)(l:List AD)(x:AD)(h:l.any (AD.lt a)=false)(hx:AD.lt a x=true):G1 a (l++[x])=(G1 a l++[a])++[x]:=by
 have e1:(l++[x]).any (AD.lt a)=true:=by rw [List.any_append];simp [hx]
 unfold G1;rw [if_pos e1,if_neg (by rw [h];exact Bool.false_ne_true),KG a l x h hx];simp
theorem VB(a:AD)(l:List AD)(x:AD)(h:l.any (AD.lt a)=false)(hx:AD.lt a x=false):G1 a (l++[x])=G1 a l++[x]:=by
 have e1:(l++[x]).any (AD.lt a)=false:=by rw [List.any_append,h];simp [hx]
 unfold G1;rw [if_neg (by rw [e1];exact Bool.false_ne_true),if_neg (by rw [h];exact Bool.false_ne_true)]
theorem KR(p:Option Addr)(n cap:Nat)(l:List AD)(a:AD)(w:World)(hn:l.length=n)(hm:n≤1000000)(hr:CX w p l)(ha:AX a=true)(hi:LP l a=false) :
 Calls prog 52 #[.slice p n cap,.agg #[.int .u8 a.kind,.int .i64 a.rho,.string a.exn]] w fun e w'=>∃v,e=.returned v∧AJ AS 3 w' w.heap.size 59 v (n+1) (CS a l)∧Below w.heap.size w w':=by
 have HR:=AA hr
 have HN:=AA hn
 clear hr hn
 go_enter func52,ntmps52
 go_wp2_with fail
 refine(DK a _).mono ?_
 rintro e w1 ⟨rfl,hb⟩
 have H1:Hd (Below w.heap.size w w1):=((Below.refl _ w).alloc (Nat.le_refl _) _).trans (hb.mono (by simp))
 have c0:w1.cell? ⟨w.heap.size,0,none⟩=some (.int .u8 a.kind):=by rw [hb.cell (by simp),AR];rfl
 have c1:w1.cell? ⟨w.heap.size,1,none⟩=some (.int .i64 a.rho):=by rw [hb.cell (by simp),AR];rfl
 have c2:w1.cell? ⟨w.heap.size,2,none⟩=some (.string a.exn):=by rw [hb.cell (by simp),AR];rfl
 have hs:w.heap.size<w1.heap.size:=by have:=hb.size;simp at this;omega
 rw [ha]
 clear hb
 go_wp2_with fail
 refine(G5 p n cap l a w1 HN.o (by omega) (HR.o.below H1.o)).mono ?_
 rintro e w2 ⟨rfl,hb⟩
 have H2:=bt H1 hb
 have a6:Hd (∀wr,Below w1.heap.size w1 wr→wr.cell? ⟨w.heap.size,0,none⟩=some (.int .u8 a.kind)∧wr.cell? ⟨w.heap.size,1,none⟩=some (.int .i64 a.rho)∧wr.cell? ⟨w.heap.size,2,none⟩=some (.string a.exn)):=fun wr hb=>⟨by rw [hb.cell (by simpa using hs)];exact c0,by rw [hb.cell (by simpa using hs)];exact c1,by rw [hb.cell (by simpa using hs)];exact c2⟩
 have je:=AA hb
 rw [hi]
 clear hb c0 c1 c2 H1
 go_wp2_with fail
 have dg:=AJ.lit AS w2 w2.heap.size 59 3 (Nat.le_refl _)
 have iP:=AA dg
 clear dg
 go_loopw [5,6,7,20] (fun u d _ i wr=>∃k m:Nat,k≤n∧m≤2 * k∧i=.int .i64 k∧d=.bool ((l.take k).any (AD.lt a))∧AJ AS 3 wr w2.heap.size 59 u m (G1 a (l.take k))∧Below w2.heap.size w2 wr) (fun _ _ _ i _=>n-(intOf i).toNat)
 case atStart=>exact⟨0,0,by omega,by omega,rfl,by simp,iP.o,bA⟩
 case round=>
  obtain⟨k,m,hk,j0,rfl,rfl,aB,hb⟩:=hrel;have aO:=AA aB;have HB:=AA hb;clear aB hb;by_cases aF:k<n
  ·obtain⟨x,hx⟩:=AM (l:=l) (j:=k) (by rw [HN.o];exact aF);have HE:=AA hx;obtain⟨b,o,rfl,aP,d0,d1,d2⟩:=CX.atom (HR.o.below H2.o) hx;have dG:Hd (∀W,Below w2.heap.size w2 W→W.cell? ⟨b,o+k * 3,none⟩=some (.int .u8 x.kind)∧W.cell? ⟨b,o+k * 3+1,none⟩=some (.int .i64 x.rho)∧W.cell? ⟨b,o+k * 3+2,none⟩=some (.string x.exn)):=fun W h=>⟨by rw [h.cell aP];exact d0,by rw [h.cell aP];exact d1,by rw [h.cell aP];exact d2⟩;clear hx aP d0 d1 d2;cases bq:(l.take k).any (AD.lt a)
   ·have dF:=AA bq;clear bq;obtain⟨e0,e1,e2⟩:=dG.o wr HB.o;obtain⟨f0,f1,f2⟩:=a6.out wr (je.o.trans (HB.o.mono je.o.size));go_wp2_with fail;refine wp_region_still_tail 8 (by kernel_rfl) (by kernel_rfl) ?_;change wpStill _ _ (World.drew _) _ _ _;simp only [List.take_succ_cons,List.take_zero,List.drop_succ_cons,List.drop_zero];repeat still_step
    refine wpStill_nil ?_;change wpList _ _ _ _ _ (World.drew _);go_wp2_with fail;refine(KN a x _).mono ?_;rintro e w3 ⟨rfl,hb⟩;have aV:Hd (Below w2.heap.size w2 w3):=HB.o.drew.trans (hb.mono HB.o.size);have eC:=AA (AJ.below aO.o.drew hb);clear hb e0 e1 e2 f0 f1 f2;obtain⟨e0,e1,e2⟩:=dG.o w3 aV.o;obtain⟨f0,f1,f2⟩:=a6.out w3 (je.o.trans (aV.o.mono je.o.size));cases mh:AD.lt a x
    ·have iL:=AA mh;clear mh;go_wp2_with (at_builtin;refine Ae rfl _ _ 25 rfl w2.heap.size 59 _ 3 32 underlying25 CQ rfl (by decide) AS AF As x _ _ _ eC.o rfl rfl ?c1 ?c2 ?c3 ?_)
     case c1=>omega
     case c2=>omega
     case c3=>exact aV.o.size
     ·intro v' w4 aH hg;have HO:=AA aH;have av:=AA (Below.own aV.o hg aV.o.size eC.o);clear aH hg e0 e1 e2 f0 f1 f2;go_wp2_with fail;go_roundw
      case rel=>exact⟨k+1,m+1,by omega,by omega,by go_num,by rw [Av HE.o,dF.o,iL.o];rfl,by rw [AI HE.o,VB a _ _ dF.o iL.o];exact HO.o,av.o⟩
      case measure=>simp [intOf];omega
    ·have iL:=AA mh;clear mh;go_wp2_with (at_builtin;refine Ae rfl _ _ 25 rfl w2.heap.size 59 _ 3 32 underlying25 CQ rfl (by decide) AS AF As a _ _ _ eC.o rfl rfl ?c1 ?c2 ?c3 ?_)
     case c1=>omega
     case c2=>omega
     case c3=>exact aV.o.size
     ·intro v' w4 aH hg;have HO:=AA aH;have av:=AA (Below.own aV.o hg aV.o.size eC.o);clear aH hg e0 e1 e2 f0 f1 f2;obtain⟨e0,e1,e2⟩:=dG.o w4 av.o;go_wp2_with (at_builtin;refine Ae rfl _ _ 25 rfl w2.heap.size 59 _ 3 32 underlying25 CQ rfl (by decide) AS AF As x _ _ _ HO.o rfl rfl ?c1 ?c2 ?c3 ?_)
      case c1=>omega
      case c2=>omega
      case c3=>exact av.o.size
      ·intro v'' w5 aH hg;have jN:=AA aH;have aw:=AA (Below.own av.o hg av.o.size HO.o);clear aH hg e0 e1 e2;go_wp2_with fail;go_roundw
       case rel=>exact⟨k+1,m+2,by omega,by omega,by go_num,by rw [Av HE.o,dF.o,iL.o];rfl,by rw [AI HE.o,R3 a _ _ dF.o iL.o,List.append_assoc];exact jN.o,aw.o⟩
       case measure=>simp [intOf];omega
   ·have dF:=AA bq;clear bq;obtain⟨e0,e1,e2⟩:=dG.o wr HB.o;obtain⟨f0,f1,f2⟩:=a6.out wr (je.o.trans (HB.o.mono je.o.size));go_wp2_with fail;go_quiet (fail);have aV:Hd (Below w2.heap.size w2 (wr.drewN nq)):=below_drewN HB.o nq;have eC:Hd (AJ AS 3 (wr.drewN nq) w2.heap.size 59 u5 m (G1 a (l.take k))):=aO.o.drewN nq;go_wp2_with (at_builtin;refine Ae rfl _ _ 25 rfl w2.heap.size 59 _ 3 32 underlying25 CQ rfl (by decide) AS AF As x _ _ _ eC.o rfl rfl ?c1 ?c2 ?c3 ?_)
    case c1=>omega
    case c2=>omega
    case c3=>exact aV.o.size
    ·intro v' w4 aH hg;have HO:=AA aH;have av:=AA (Below.own aV.o hg aV.o.size eC.o);clear aH hg e0 e1 e2 f0 f1 f2;go_wp2_with fail;go_roundw
     case rel=>exact⟨k+1,m+1,by omega,by omega,by go_num,by rw [Av HE.o,dF.o];rfl,by rw [AI HE.o,Tt a _ _ dF.o];exact HO.o,av.o⟩
     case measure=>simp [intOf];omega
  ·have ao:k=n:=by omega
   subst ao;have ht:l.take k=l:=AP (by rw [HN.o];omega);rw [ht];cases bq:l.any (AD.lt a)
   ·have HP:Hd (CS a l=G1 a l++[a]):=by show CS a l=G1 a l++[a];unfold G1;rw [if_neg (by rw [bq];exact Bool.false_ne_true),LS a l bq]
    have hl:Hd (m=k):=by show m=k;have:=aO.o.len AF (by omega);rw [ht] at this;unfold G1 at this;rw [if_neg (by rw [bq];exact Bool.false_ne_true)] at this;rw [←this];exact HN.o
    obtain⟨f0,f1,f2⟩:=a6.out wr (je.o.trans (HB.o.mono je.o.size));clear bq ht;go_wp2_with (at_builtin;refine Ae rfl _ _ 25 rfl w2.heap.size 59 _ 3 32 underlying25 CQ rfl (by decide) AS AF As a _ _ _ aO.o rfl rfl ?c1 ?c2 ?c3 ?_)
    case c1=>omega
    case c2=>omega
    case c3=>exact HB.o.size
    ·intro v' w4 aH hg;have HO:=AA aH;have av:=AA (Below.own HB.o hg HB.o.size aO.o);clear aH hg f0 f1 f2;go_wp2_with fail;go_ret;refine⟨_,rfl,?_,H2.o.trans (av.o.mono H2.o.size)⟩;have h:=HO.o;rw [AP (by rw [HN.o];omega),hl.out] at h;rw [HP.o];exact h.lower H2.o.size
   ·have HP:Hd (CS a l=G1 a l):=by show CS a l=G1 a l;unfold G1;rw [if_pos bq]
    have hl:Hd (m=k+1):=by show m=k+1;have:=aO.o.len AF (by omega);rw [ht] at this;unfold G1 at this;rw [if_pos bq,GW] at this;rw [←this,HN.o]
    clear bq ht;go_wp2_with fail;go_ret;refine⟨_,rfl,?_,H2.o.trans (HB.o.mono H2.o.size)⟩;have h:=aO.o;rw [AP (by rw [HN.o];omega),hl.out] at h;rw [HP.o];exact h.lower H2.o.size
def Sl{α:Type}(enc:α→List Value)(k:Nat)(w:World)(v:Value)(l:List α):Prop:=∃p n cap,v=.slice p n cap∧l.length=n∧n≤cap∧Au enc k w p l
theorem Sl.below{α:Type}{enc:α→List Value}{k:Nat}{w w':World}{v:Value}{l:List α}(h:Sl enc k w v l)(hb:Below w.heap.size w w'):Sl enc k w' v l:=by obtain⟨p,n,cap,hv,hl,hc,hr⟩:=h;exact⟨p,n,cap,hv,hl,hc,hr.below hb⟩
theorem AJ.sl{α:Type}{enc:α→List Value}{k:Nat}{w:World}{base e n:Nat}{v:Value}{l:List α}(hk:∀x,(enc x).length=k)(ba:0<k)(h:AJ enc k w base e v n l):Sl enc k w v l:=by obtain⟨p,cap,hv,hl,hc,hr,_⟩:=h.row hk ba;exact⟨p,n,cap,hv,hl,hc,hr⟩
theorem EO(a:AD)(l:List AD):(D3 a l).length≤l.length+1:=by
 unfold D3;split
 ·rw [GW];omega
 ·omega
def EP(l:List AD):List AD:=l.foldl (fun e a=>D3 a e) []
theorem EH(l:List AD)(x:AD):EP (l++[x])=D3 x (EP l):=by simp [EP,List.foldl_append]
theorem KL(l:List AD):(EP l).length≤l.length:=by
 suffices h:∀(l e:List AD),(l.foldl (fun e a=>D3 a e) e).length≤e.length+l.length by simpa [EP] using h l []
 intro l;induction l with
 |nil=>intro e;simp
 |cons a l ih=>
  intro e;have h1:=ih (D3 a e);have h2:=EO a e;simp only [List.foldl_cons,List.length_cons];omega
def A1(a b:List AD):Bool:=a.all (fun x=>!AX x||LP b x)
theorem NA(p:Option Addr)(n cap:Nat)(l:List AD)(q:Option Addr)(m mc:Nat)(l':List AD)(w:World)(hn:l.length=n)(hm:n≤9223372036854775807)(hr:CX w p l)(ed:l'.length=m)(co:m≤9223372036854775807)(aT:CX w q l'):Calls prog 25 #[.slice p n cap,.slice q m mc] w (RB w (.bool (A1 l l'))):=by
 have HR:=AA hr;have HN:=AA hn;have cD:=AA aT;have iN:=AA ed;clear hr hn aT ed;go_enter func25,ntmps25;go_wp2_with fail;go_loopw [5,8] (fun _ i wr=>∃k:Nat,k≤n∧i=.int .i64 k∧(l.take k).all (fun x=>!AX x||LP l' x)=true∧Below w.heap.size w wr) (fun _ i _=>n-(intOf i).toNat)
 case atStart=>exact⟨0,by omega,rfl,by simp,Below.refl _ _⟩
 case round=>
  obtain⟨k,hk,rfl,ac,hb⟩:=hrel;have an:=AA ac;have HB:=AA hb;clear ac hb;by_cases aF:k<n
  ·obtain⟨x,hx⟩:=AM (l:=l) (j:=k) (by rw [HN.o];exact aF);have HE:=AA hx;obtain⟨b,o,rfl,aP,d0,d1,d2⟩:=CX.atom (HR.o.below HB.o) hx;go_wp2_with fail;refine(DK x wr).mono ?_;rintro e w1 ⟨rfl,hb⟩;have aJ:=bt HB hb;have f0:w1.cell? ⟨b,o+k * 3,none⟩=some (.int .u8 x.kind):=by rw [hb.cell aP];exact d0
   have f1:w1.cell? ⟨b,o+k * 3+1,none⟩=some (.int .i64 x.rho):=by rw [hb.cell aP];exact d1
   have f2:w1.cell? ⟨b,o+k * 3+2,none⟩=some (.string x.exn):=by rw [hb.cell aP];exact d2
   clear hb d0 d1 d2 hx aP;cases ha:AX x
   ·have HA:=AA ha;clear ha;go_wp2_with fail;go_roundw
    case rel=>exact⟨k+1,by omega,by go_num,by rw [CF HE.o,an.o,HA.o];rfl,aJ.o⟩
    case measure=>simp [intOf];omega
   ·have HA:=AA ha;clear ha;go_wp2_with fail;refine(G5 q m mc l' x w1 iN.out co (cD.out.below aJ.o)).mono ?_;rintro e w2 ⟨rfl,hb⟩;have aK:=bt aJ hb;clear hb f0 f1 f2;cases hi:LP l' x
    ·have HI:=AA hi;clear hi;go_wp2_with fail;go_ret;exact⟨AB (by unfold A1;rw [GM HE.o (by rw [HA.o,HI.o];rfl)]),aK.o⟩
    ·have HI:=AA hi;clear hi;go_wp2_with fail;go_roundw
     case rel=>exact⟨k+1,by omega,by go_num,by rw [CF HE.o,an.o,HA.o,HI.o];rfl,aK.o⟩
     case measure=>simp [intOf];omega
  ·go_wp2_with fail;go_ret;have h:=an.o;rw [AP (by rw [HN.o];omega)] at h;exact⟨AB h.symm,HB.o⟩
def Du(l:List Int)(x:Int):Bool:=l.any (·==x)
theorem PO(p:Option Addr)(n cap:Nat)(l:List Int)(x:Int)(w:World)(hn:l.length=n)(hm:n≤9223372036854775807)(hr:Au Ab 1 w p l):Calls prog 21 #[.slice p n cap,.int .i64 x] w fun e w'=>e=.returned (.bool (Du l x))∧w=w':=by
 have HR:=AA hr;have HN:=AA hn;clear hr hn;go_enter func21,ntmps21;go_wp2_with fail;go_loop [5,8] (fun _ i=>∃k:Nat,k≤n∧i=.int .i64 k∧(l.take k).any (·==x)=false) (fun _ i=>n-(intOf i).toNat)
 case atStart=>exact⟨0,by omega,rfl,by simp⟩
 case round=>
  obtain⟨k,hk,rfl,ac⟩:=hrel;have an:=AA ac;clear ac;by_cases aF:k<n
  ·obtain⟨y,hy⟩:=AM (l:=l) (j:=k) (by rw [HN.o];exact aF);have HE:=AA hy;obtain⟨b,o,rfl,d0⟩:=HR.o.num hy;clear hy;cases hq:(y==x)
   ·go_wp2_with fail;go_round
    case rel=>exact⟨k+1,by omega,by go_num,by rw [Av HE.o,an.o,hq];rfl⟩
    case measure=>simp [intOf];omega
   ·go_wp2_with fail;go_ret;exact⟨AB (by unfold Du;rw [Ex HE.o hq]),rfl⟩
  ·go_wp2_with fail;go_ret;have h:=an.o;rw [AP (by rw [HN.o];omega)] at h;exact⟨AB h.symm,rfl⟩
structure ST where
 drawn:Nat
 blocks:Array Obj
deriving Inhabited
def gw(w:World)(g:ST):World:={ w with heap:=w.heap++g.blocks,drawn:=g.drawn }
theorem Dh(w:World)(g:ST):Below w.heap.size w (gw w g):=by refine⟨rfl,rfl,rfl,by simp [gw],fun k hk=>?_⟩;simp [gw,Array.getElem?_append_left hk]
theorem UR{w w':World}(h:Below w.heap.size w w'):∃g,w'=gw w g:=by
 refine⟨⟨w'.drawn,w'.heap.extract w.heap.size w'.heap.size⟩,?_⟩;obtain⟨heap,tape,drawn,os,output⟩:=w;obtain⟨qT,tape',drawn',os',output'⟩:=w';obtain⟨h1,h2,h3,h4,h5⟩:=h;simp only at h1 h2 h3 h4 h5;subst h1;subst h2;subst h3;simp only [gw,World.mk.injEq,true_and,and_true];apply Array.ext_getElem?;intro i;rcases Nat.lt_or_ge i heap.size with hi|hi
 ·rw [Array.getElem?_append_left hi];exact h5 i hi
 ·rw [Array.getElem?_append_right hi,Array.getElem?_extract];simp only [Nat.add_sub_cancel' hi];split
  ·rfl
  ·rw [Array.getElem?_eq_none (by omega)]
theorem BL{w:World}{a:Addr}{v:Value}(h:w.cell? a=some v)(g:ST):(gw w g).cell? a=some v:=by rw [(Dh w g).cell (An h)];exact h
theorem Ay{P:Program}{f:FuncId}{args:Array Value}{w:World}{g:ST}{v:Value}(h:Calls P f args (gw w g) fun e w'=>e=.returned v∧Below (gw w g).heap.size (gw w g) w'):Calls P f args (gw w g) fun e w'=>e=.returned v∧∃g',w'=gw w g':=h.mono fun _ _ ⟨he,hb⟩=>⟨he,UR ((Dh w g).trans (hb.mono (Dh w g).size))⟩
theorem Aw{P:Program}{id:Nat}{Q:Exit→Act→World→Prop}{a:Act}{w:World}{l:List Oper}(hm:P.follows .mixedOrders=true)(hB:Region.lexB .any l.toArray=true)(h:wpQuiet P l.toArray (fun w'=>∃g,w'=gw w g) (fun a'=>∀w',(∃g,w'=gw w g)→Q .normal a' w') l a):(Code.region id l.toArray true).wp P Q a w:=wp_region_quiet (C:=fun w'=>∃g,w'=gw w g) hm hB ⟨⟨w.drawn+1,#[]⟩,by simp [gw]⟩ (by simpa using h)
def DD:List AD→Bool
 |[]=>true
 |[a]=>AX a
 |a::b::l=>AX a&&AD.lt a b&&DD (b::l)
def MF(e:List AD)(k:Nat):Prop:=(e.take k).all AX=true∧∀j x y,j+1<k→e[j]?=some x→e[j+1]?=some y→AD.lt x y=true
theorem Bp{a:AD}{r:Bool}(h:AX a=r)(w:World):Calls prog 23 #[.agg #[.int .u8 a.kind,.int .i64 a.rho,.string a.exn]] w (RB w (.bool r)):=by subst h;exact DK a w
theorem LV{a b:AD}{r:Bool}(h:AD.lt a b=r)(w:World):Calls prog 42 #[.agg #[.int .u8 a.kind,.int .i64 a.rho,.string a.exn],.agg #[.int .u8 b.kind,.int .i64 b.rho,.string b.exn]] w (RB w (.bool r)):=by subst h;exact KN a b w
theorem Qn(p:Option Addr)(n cap:Nat)(l:List AD)(w:World)(hn:l.length=n)(hm:n≤9223372036854775807)(hr:CX w p l):Calls prog 18 #[.slice p n cap] w fun e w'=>(∃r,e=.returned (.bool r)∧(r=true↔MF l n))∧Below w.heap.size w w':=by
 have HR:=AA hr;have HN:=AA hn;clear hr hn;go_enter func18,ntmps18;go_wp2_with fail;go_loopw [3,6] (fun _ i wr=>∃k:Nat,k≤n∧i=.int .i64 k∧MF l k∧Below w.heap.size w wr) (fun _ i _=>n-(intOf i).toNat)
 case atStart=>exact⟨0,by omega,rfl,⟨by simp,fun j _ _ h=>by omega⟩,Below.refl _ _⟩
 case round=>
  obtain⟨k,hk,rfl,ac,hb⟩:=hrel;have an:=AA ac;have HB:=AA hb;clear ac hb;by_cases aF:k<n
  ·obtain⟨x,hx⟩:=AM (l:=l) (j:=k) (by rw [HN.o];exact aF);have HE:=AA hx;obtain⟨b,o,rfl,aP,d0,d1,d2⟩:=CX.atom (HR.o.below HB.o) hx;have pc:=AA aP;clear hx aP;have bZ:=fun g=>BL d0 g;have jo:=fun g=>BL d1 g;have gM:=fun g=>BL d2 g;cases ha:AX x
   ·have HA:=AA ha;clear ha;have hW:=Dh wr;go_wp2_with fail;refine Aw (by kernel_rfl) (by kernel_rfl) ?_;repeat ((with_reducible refine wpQuiet_step (fun K hK=>?_));go_simp;refine hK _ ?_;clear hK K)
    refine wpQuiet_step (fun K hK=>?_);go_simp;refine⟨.bool false,fun _=>Ay (Bp HA.o _),hK _ ?_⟩;clear hK K;repeat ((with_reducible refine wpQuiet_step (fun K hK=>?_));go_simp;refine hK _ ?_;clear hK K)
    refine wpQuiet_nil ?_;rintro w3 ⟨g,rfl⟩;have aV:=AA (HB.o.trans ((hW g).mono HB.o.size));clear hW;go_wp2_with fail;go_ret
    exact⟨⟨false,rfl,by
     constructor
     ·intro h;cases h
     ·intro h;have h1:=h.1;rw [AP (by rw [HN.o];omega),GM HE.o HA.o] at h1;cases h1⟩,aV.o⟩
   ·have HA:=AA ha;clear ha;have hW:=Dh wr;by_cases ba:k=0
    ·have hd:decide ((0:Int)<(k:Int))=false:=by simp;omega
     have o9:decide (0<k)=false:=by simp;omega
     have fO:=AA ba;clear ba;go_wp2_with fail;refine Aw (by kernel_rfl) (by kernel_rfl) ?_;repeat ((with_reducible refine wpQuiet_step (fun K hK=>?_));go_simp;refine hK _ ?_;clear hK K)
     refine wpQuiet_step (fun K hK=>?_);go_simp;refine⟨.bool true,fun _=>Ay (Bp HA.o _),hK _ ?_⟩;clear hK K;repeat ((with_reducible refine wpQuiet_step (fun K hK=>?_));go_simp;refine hK _ ?_;clear hK K)
     refine wpQuiet_nil ?_;rintro w3 ⟨g,rfl⟩;have aV:=AA (HB.o.trans ((hW g).mono HB.o.size));clear hW;go_wp2_with fail;go_roundw
     case rel=>exact⟨k+1,by omega,by go_num,⟨by rw [CF HE.o,an.o.1,HA.o];rfl,fun j _ _ h=>by have:=fO.o;omega⟩,aV.o⟩
     case measure=>simp [intOf];omega
    ·obtain⟨y,hy⟩:=AM (l:=l) (j:=k-1) (by rw [HN.o];omega);have HY:=AA hy;obtain⟨b',o',bF,_,e0,e1,e2⟩:=CX.atom (HR.o.below HB.o) hy;cases bF;have sa:=fun g=>BL e0 g;have sb:=fun g=>BL e1 g;have nh:=fun g=>BL e2 g;have cQ:Hd (0<k):=show 0<k by omega
     have hd:decide ((0:Int)<(k:Int))=true:=by simp;omega
     have o9:decide (0<k)=true:=by simp;omega
     have sk:0<k:=cQ.out;have a1:IntKind.i64.wrap ((k:Int)-1)=(k:Int)-1:=IntWalk.i64_in _ (by omega);have a2:(0:Int)≤(k:Int)-1:=by omega
     have a3:((k:Int)-1).toNat=k-1:=by omega
     have a4:(k:Int)-1<(n:Int):=by omega
     have a5:(1:Int)≤(k:Int):=by omega
     clear hy ba;cases hl:AD.lt y x
     ·have HL:=AA hl;clear hl;go_wp2_with fail;refine Aw (by kernel_rfl) (by kernel_rfl) ?_;repeat ((with_reducible refine wpQuiet_step (fun K hK=>?_));go_simp;refine hK _ ?_;clear hK K)
      refine wpQuiet_step (fun K hK=>?_);go_simp;refine⟨.bool true,fun _=>Ay (Bp HA.o _),hK _ ?_⟩;clear hK K;repeat ((with_reducible refine wpQuiet_step (fun K hK=>?_));go_simp;refine hK _ ?_;clear hK K)
      refine wpQuiet_step (fun K hK=>?_);go_simp;refine⟨.bool false,fun _=>Ay (LV HL.o _),hK _ ?_⟩;clear hK K;repeat ((with_reducible refine wpQuiet_step (fun K hK=>?_));go_simp;refine hK _ ?_;clear hK K)
      refine wpQuiet_nil ?_;rintro w3 ⟨g,rfl⟩;have aV:=AA (HB.o.trans ((hW g).mono HB.o.size));clear hW;go_wp2_with fail;go_ret
      exact⟨⟨false,rfl,by
       constructor
       ·intro h;cases h
       ·intro h;have h1:=h.2 (k-1) y x (by have:=cQ.out;omega) HY.o (by rw [show k-1+1=k from by have:=cQ.out;omega];exact HE.o);rw [HL.o] at h1;cases h1⟩,aV.o⟩
     ·have HL:=AA hl;clear hl;go_wp2_with fail;refine Aw (by kernel_rfl) (by kernel_rfl) ?_;repeat ((with_reducible refine wpQuiet_step (fun K hK=>?_));go_simp;refine hK _ ?_;clear hK K)
      refine wpQuiet_step (fun K hK=>?_);go_simp;refine⟨.bool true,fun _=>Ay (Bp HA.o _),hK _ ?_⟩;clear hK K;repeat ((with_reducible refine wpQuiet_step (fun K hK=>?_));go_simp;refine hK _ ?_;clear hK K)
      refine wpQuiet_step (fun K hK=>?_);go_simp;refine⟨.bool true,fun _=>Ay (LV HL.o _),hK _ ?_⟩;clear hK K;repeat ((with_reducible refine wpQuiet_step (fun K hK=>?_));go_simp;refine hK _ ?_;clear hK K)
      refine wpQuiet_nil ?_;rintro w3 ⟨g,rfl⟩;have aV:=AA (HB.o.trans ((hW g).mono HB.o.size));clear hW;go_wp2_with fail;go_roundw
      case rel=>exact⟨k+1,by omega,by go_num,⟨by rw [CF HE.o,an.o.1,HA.o];rfl,fun i u v hi hu hv=>by
       have cQ:=cQ.out;rcases (by omega:i=k-1∨i+1<k) with rfl|gi
       ·rw [HY.o] at hu;cases hu;rw [show k-1+1=k from by omega,HE.o] at hv;cases hv;exact HL.o
       ·exact an.o.2 i u v gi hu hv⟩,aV.o⟩
      case measure=>simp [intOf];omega
  ·go_wp2_with fail;go_ret;obtain rfl:k=n:=by omega
   exact⟨⟨true,rfl,by simp [an.o]⟩,HB.o⟩
theorem Cj{P:Program}{α:Type}{ops:Array Oper}{rest:List Oper}{o:Oper}{a:Act}{Q:Exit→Act→World→Prop}(au:o.guard=none)(s x:Operand)(t:TypeId)(ho:o.op=.call { callee:=.builtin .append,args:=#[s,x],argTypes:=#[t,t] })(base:Nat)(e:TypeId)(z:Value)(k bytes:Nat)(ht:P.underlying t=some (.slice e))(bd:(P.info? e).map (fun i=>(i.zero,i.size,i.bytes))=some (some z,k,bytes))(fK:z.cells.size=k)(aU:0<k)(enc:α→List Value)(hk:∀x,(enc x).length=k)(h1:∀y,∀u∈enc y,u.oneCell'=true)(l' l:List α)(n:Nat){w:World}(v:Value)(aB:AJ enc k w base e v n l)(p:Option Addr)(m c:Nat)(hs:a.eval s=v)(hx:a.eval x=.slice p m c)(hl:l'.length=m)(hp:p=none→c=0)(hr:Au enc k w p l')(aj:(n+m) * bytes≤140737488355328)(gz:n+m≤9223372036854775807)(cm:base≤w.heap.size)(h:∀v' w',AJ enc k w' base e v' (n+m) (l++l')→w.grownBy w' v.ownBlock→wpList P ops Q rest (a.put o.dst v') w'):wpList P ops Q (o::rest) a w:=by
 obtain⟨i,hi,hz,cH,gL⟩:=info_parts bd;rcases p with _|ad
 ·have ia:l'=[]:=by
   rcases hr with h|⟨_,_,h,_⟩
   ·exact h
   ·cases h
  subst ia;obtain rfl:m=0:=by simpa using hl.symm
  obtain rfl:=hp rfl;refine wpList_append_own_none au s x t ho base e i k ht hi v n _ hs aB hx ?_;have:=h v w (by simpa using aB) (World.grownBy.refl _ _);exact this
 ·refine wpList_append_own _ au s x t ho base e i z k bytes ht hi hz cH gL fK aU v n _ hs aB ad m c (l'.flatMap enc) hx (by rw [Ao hk,hl]) ?_ ?_ (by unfold maxLen;omega) aj cm ?_
  ·intro j u hj;rcases hr with h0|⟨b,o',hb,aF,hc⟩
   ·subst h0;simp at hj
   ·cases hb
    have iZ:j<l'.length * k:=by rw [←Ao hk];exact Bh hj
    have hq:j / k<l'.length:=Nat.div_lt_of_lt_mul (by rw [Nat.mul_comm];exact iZ);have hm:j % k<k:=Nat.mod_lt _ aU;have hf:=DN hk l' (j / k) _ (j % k) (List.getElem?_eq_getElem hq) hm;rw [Nat.div_add_mod' j k,hj] at hf;have:=hc (j / k) _ (List.getElem?_eq_getElem hq) (j % k) u hf.symm;rw [FA,←Nat.div_add_mod' j k,←Nat.add_assoc];exact this
  ·intro u hu;rw [List.mem_flatMap] at hu;obtain⟨y,_,hu⟩:=hu;exact h1 y u hu
  ·intro v' w' aH hg _;refine h v' w' ?_ hg;unfold AJ;rw [List.flatMap_append];exact aH
theorem Oz(n:Nat)(w:World)(hn:n≤1000000):Calls prog 166 #[.slice none 0 0,.int .i64 n] w fun e w'=>∃v,e=.returned v∧AJ AS 3 w' w.heap.size 59 v 0 []∧Below w.heap.size w w':=by
 by_cases h0:n=0
 ·subst h0;go_enter func166,ntmps166;go_wp2_with fail;go_ret;exact⟨_,rfl,AJ.nil _ _ _ _ _,Below.refl _ _⟩
 ·obtain⟨i,hi,hz,cH,gL⟩:=info_parts CQ
  have tF:∃(G:Nat) (cs:Array Value),n≤G∧G≤maxLen∧cs.size=G * 3∧∀ty,(Builtin.append_ #[25,3] ty #[.slice none 0 0,.int .i64 n]).run prog w =
   .ok (.slice (some ⟨w.heap.size,0,none⟩) n G) (w.drew.alloc (.cells cs 59)):=by
   have h:=fun ty=>Lib.run_append_grow_zeros w 25 3 ty 59 i _ .i64 .i64 underlying25 underlying3 hi hz none 0 0 [] (run_firstCells_none w.drew i.size 0 0 0) n (by omega) (by rw [cH];decide) (by omega) (by omega) (by rw [gL];omega)
    (growslice_fits (by omega) (by rw [gL];omega))
   refine⟨grownCap w (0+n) 0 59,_,by have:=grownCap_ge w (0+n) 0 59;omega,grownCap_le_maxLen _ _ _ _ (by unfold maxLen;omega),?_,fun ty=>by have:=h ty;rw [Nat.zero_add] at this ⊢;exact this⟩
   have lW:=grownCap_ge w n 0 59
   simp [size_zeroCells,Value.cells]
   omega
  obtain⟨G,cs,hG,sQ,am,cW⟩:=tF;have dC:=AA am;have dZ:0<n:=by omega
  unfold maxLen at sQ;clear hi hz cH gL h0 am;go_enter func166,ntmps166;go_wp2_with (at_builtin;refine Lib.wpList_append_run _ rfl _ _ _ _ rfl _ _ rfl rfl _ _ (cW _) ?_);go_ret;exact⟨_,rfl,World.ownsRow_made _ cs G (by simp) (by unfold maxLen;omega) dC.o,(below_drewN (n:=1) (Below.refl w.heap.size w)).alloc (Nat.le_refl _) _⟩
structure Kc(α:Type) where
 p:Option Addr
 n:Nat
 cap:Nat
 l:List α
def Fy{α:Type}(r:Kc α):List Value:=[.slice r.p r.n r.cap]
theorem Ir{α:Type}(r:Kc α):(Fy r).length=1:=rfl
structure Kc.Ok{α:Type}(enc:α→List Value)(k:Nat)(w:World)(r:Kc α):Prop where
 len:r.l.length=r.n
 cap:r.n≤r.cap
 nil:r.p=none→r.cap=0
 row:Au enc k w r.p r.l
theorem Kc.Ok.below{α:Type}{enc:α→List Value}{k:Nat}{w w':World}{r:Kc α}(h:r.Ok enc k w)(hb:Below w.heap.size w w'):r.Ok enc k w':=⟨h.1,h.2,h.3,h.4.below hb⟩
theorem Fi{α:Type}(f:α→Nat):∀(l:List α) (k:Nat) (x:α),l[k]?=some x→((l.take (k+1)).map f).sum=((l.take k).map f).sum+f x∧((l.take k).map f).sum+f x≤(l.map f).sum
 |[],k,x,h=>by simp at h
 |y::l,0,x,h=>by simp at h;subst h;simp
 |y::l,k+1,x,h=>by
  obtain⟨h1,h2⟩:=Fi f l k x (by simpa using h);constructor
  ·simp only [List.take_succ_cons,List.map_cons,List.sum_cons] at h1 ⊢;rw [h1];omega
  ·simp only [List.take_succ_cons,List.map_cons,List.sum_cons];omega
theorem Re(p:Option Addr)(n cap:Nat)(rows:List (Kc AD))(w:World)(hn:rows.length=n)(hm:n≤1000000)(hr:Au Fy 1 w p rows)(bY:∀r∈rows,r.Ok AS 3 w)(dA:(rows.map (·.n)).sum≤1000000):Calls prog 118 #[.slice p n cap] w fun e w'=>∃v,e=.returned v∧AJ AS 3 w' w.heap.size 59 v (rows.map (·.n)).sum (rows.flatMap (·.l))∧Below w.heap.size w w':=by
 have HR:=AA hr;have HN:=AA hn;have dc:=AA bY;have HT:=AA dA;clear hr hn bY dA;go_enter func118,ntmps118;go_wp2_with fail;go_loop [3,5,11] (fun s _ i=>∃k S:Nat,k≤n∧i=.int .i64 k∧((rows.take k).map (·.n)).sum=S∧S≤1000000∧s=.int .i64 S) (fun _ _ i=>n-(intOf i).toNat)
 case atStart=>exact⟨0,0,by omega,rfl,rfl,by omega,rfl⟩
 case round=>
  obtain⟨k,S,hk,rfl,hS,o6,rfl⟩:=hrel;have HS:=AA hS;clear hS;by_cases aF:k<n
  ·obtain⟨x,hx⟩:=AM (l:=rows) (j:=k) (by rw [HN.o];exact aF);have HE:=AA hx;obtain⟨b,o,rfl,aP,hc⟩:=HR.o.elem hx;have d0:=hc 0 _ rfl;simp only [Nat.mul_one,Nat.add_zero] at d0;have bx:=AA (Fi (·.n) rows k x hx);have bz:S+x.n≤1000000:=by have:=bx.o.2;have:=HT.o;have:=HS.o;omega
   clear hx aP hc;go_wp2_with fail;go_round
   case rel=>exact⟨k+1,S+x.n,by omega,by go_num,by have:=bx.o.1;have:=HS.o;omega,bz,by go_num⟩
   case measure=>simp [intOf];omega
  ·have ao:k=n:=by omega
   subst ao;have pt:Hd ((rows.map (·.n)).sum=S):=by have h:=HS.o;rw [AP (by rw [HN.o];omega)] at h;exact h
   go_wp2_with fail;refine(Oz S w o6).mono ?_;rintro e w1 ⟨v0,rfl,ho,hb⟩;have HO:=AA ho;have HB:=AA hb;clear ho hb;go_wp2_with fail;go_loopw [6,8,27] (fun u _ i wr=>∃j T:Nat,j≤k∧i=.int .i64 j∧((rows.take j).map (·.n)).sum=T∧T≤1000000∧AJ AS 3 wr w.heap.size 59 u T ((rows.take j).flatMap (·.l))∧Below w.heap.size w wr) (fun _ _ i _=>k-(intOf i).toNat)
   case atStart=>exact⟨0,0,by omega,rfl,rfl,by omega,HO.o,HB.o⟩
   case round=>
    obtain⟨j,T,hj,rfl,hT,tY,aB,hb⟩:=hrel;have bc:=AA hT;have aO:=AA aB;have ay:=AA hb;clear hT aB hb;by_cases aF:j<k
    ·obtain⟨x,hx⟩:=AM (l:=rows) (j:=j) (by rw [HN.o];exact aF);have HE:=AA hx;obtain⟨b,o,rfl,aP,hc⟩:=(HR.o.below ay.o).elem hx;have d0:=hc 0 _ rfl;simp only [Nat.mul_one,Nat.add_zero] at d0;have bx:=AA (Fi (·.n) rows j x hx);have bz:T+x.n≤1000000:=by have:=bx.o.2;have:=HT.o;have:=bc.o;omega
     have HX:=AA ((dc.o x (List.mem_of_getElem? hx)).below ay.o);clear hx aP hc;go_wp2_with (at_builtin;refine Cj rfl _ _ 25 rfl w.heap.size 59 _ 3 32 underlying25 CQ rfl (by decide) AS AF As x.l _ _ _ aO.o _ _ _ rfl rfl HX.o.len HX.o.nil HX.o.row ?c1 ?c2 ?c3 ?_)
     case c1=>omega
     case c2=>omega
     case c3=>exact ay.o.size
     ·intro v' w4 aH hg;have gu:=AA aH;have av:=AA (Below.own ay.o hg ay.o.size aO.o);clear aH hg;go_wp2_with fail;go_roundw
      case rel=>exact⟨j+1,T+x.n,by omega,by go_num,by have:=bx.o.1;have:=bc.o;omega,bz,by rw [AI HE.o,List.flatMap_append];simpa using gu.o,av.o⟩
      case measure=>simp [intOf];omega
    ·have jW:j=k:=by omega
     subst jW;go_wp2_with fail;go_ret;have h1:=aO.o;rw [AP (by rw [HN.o];omega)] at h1;exact⟨_,rfl,by rw [pt.out];have:=bc.o;rw [AP (by rw [HN.o];omega),pt.out] at this;subst this;exact h1,ay.o⟩
section
inductive AG (α:Type) where
 |node (a:α) (kids:List (AG α))
namespace AG
variable {α β:Type}
def head:AG α→α
 |node a _=>a
def kids:AG α→List (AG α)
 |node _ l=>l
theorem eta(t:AG α):t=node t.head t.kids:=by cases t;rfl
mutual
theorem ind{P:AG α→Prop}(h:∀a l,(∀t∈l,P t)→P (node a l)):∀t,P t
 |node a l=>h a l (XR h l)
theorem XR{P:AG α→Prop}(h:∀a l,(∀t∈l,P t)→P (node a l)):∀l:List (AG α),∀t∈l,P t
 |[],_,hm=>absurd hm List.not_mem_nil
 |t::l,x,hm=>by
  rcases List.mem_cons.1 hm with e|hm
  ·rw [e];exact ind h t
  ·exact XR h l x hm
end
mutual
def fold(f:α→List β→β):AG α→β
 |node a l=>f a (QP f l)
def QP(f:α→List β→β):List (AG α)→List β
 |[]=>[]
 |t::l=>fold f t::QP f l
end
theorem QQ(f:α→List β→β):∀l:List (AG α),QP f l=l.map (fold f)
 |[]=>by simp [QP]
 |t::l=>by simp [QP,QQ f l]
theorem fold_node(f:α→List β→β)(a:α)(l:List (AG α)):fold f (node a l)=f a (l.map (fold f)):=by rw [fold,QQ]
def size:AG α→Nat:=fold (fun _ l=>1+l.sum)
theorem size_node(a:α)(l:List (AG α)):size (node a l)=1+(l.map size).sum:=fold_node _ a l
theorem size_pos(t:AG α):0<size t:=by cases t;rw [size_node];omega
def map(g:α→β):AG α→AG β:=fold (fun a l=>node (g a) l)
theorem map_node(g:α→β)(a:α)(l:List (AG α)):map g (node a l)=node (g a) (l.map (map g)):=fold_node _ a l
theorem size_map(g:α→β)(t:AG α):size (map g t)=size t:=by refine ind (P:=fun t=>size (map g t)=size t) (fun a l ih=>?_) t;rw [map_node,size_node,size_node,List.map_map];congr 2;exact List.map_congr_left ih
def nodes:AG α→List α:=fold (fun a l=>a::l.flatten)
theorem nodes_node(a:α)(l:List (AG α)):nodes (node a l)=a::(l.map nodes).flatten:=fold_node _ a l
def all(p:α→Nat→Bool):AG α→Bool:=fold (fun a l=>p a l.length&&l.all id)
theorem all_node(p:α→Nat→Bool)(a:α)(l:List (AG α)):all p (node a l)=(p a l.length&&l.all (all p)):=by show fold _ _=_;rw [fold_node,List.length_map,List.all_map];rfl
mutual
def same(r:α→β→Bool):AG α→AG β→Bool
 |node a l,node b m=>r a b&&sameL r l m
def sameL(r:α→β→Bool):List (AG α)→List (AG β)→Bool
 |[],[]=>true
 |t::l,u::m=>same r t u&&sameL r l m
 |[],_::_=>false
 |_::_,[]=>false
end
theorem same_node(r:α→β→Bool)(a:α)(b:β)(l:List (AG α))(m:List (AG β)):same r (node a l) (node b m)=(r a b&&sameL r l m):=by rw [same]
theorem sameL_length(r:α→β→Bool):∀(l:List (AG α)) (m:List (AG β)),sameL r l m=true→List.length l=List.length m
 |[],[],_=>rfl
 |t::l,u::m,h=>by simp only [sameL,Bool.and_eq_true] at h;simp [sameL_length r l m h.2]
 |[],_::_,h=>by simp [sameL] at h
 |_::_,[],h=>by simp [sameL] at h
theorem sameL_get(r:α→β→Bool):∀(l:List (AG α)) (m:List (AG β)),sameL r l m=true↔l.length=m.length∧∀(j:Nat) (t:AG α) (u:AG β),l[j]?=some t→m[j]?=some u→same r t u=true
 |[],[]=>by simp [sameL]
 |t::l,u::m=>by
  simp only [sameL,Bool.and_eq_true,sameL_get r l m,List.length_cons,Nat.add_right_cancel_iff];constructor
  ·rintro⟨h,hl,hj⟩;refine⟨hl,fun j x y hx hy=>?_⟩;cases j with
   |zero=>simp at hx hy;subst hx;subst hy;exact h
   |succ j=>exact hj j x y (by simpa using hx) (by simpa using hy)
  ·rintro⟨hl,hj⟩;exact⟨hj 0 t u rfl rfl,hl,fun j x y hx hy=>hj (j+1) x y (by simpa using hx) (by simpa using hy)⟩
 |[],_::_=>by simp [sameL]
 |_::_,[]=>by simp [sameL]
end AG
structure Hw(α:Type) where
 enc:α→List Value
 k:Nat
 own:World→α→Prop
 kp:α→Option Addr
 kn:α→Nat
 len:∀a,(enc a).length=k
 below:∀{w w':World} {a:α},own w a→Below w.heap.size w w'→own w' a
namespace Hw
variable {α:Type}
def encT(L:Hw α)(t:AG α):List Value:=L.enc t.head
mutual
def lies(L:Hw α)(w:World):AG α→Prop
 |.node a l=>L.own w a∧l.length=L.kn a∧Au L.encT L.k w (L.kp a) l∧liesL L w l
def liesL(L:Hw α)(w:World):List (AG α)→Prop
 |[]=>True
 |t::l=>lies L w t∧liesL L w l
end
theorem OP(L:Hw α)(w:World):∀l:List (AG α),L.liesL w l↔∀t∈l,L.lies w t
 |[]=>by simp [liesL]
 |t::l=>by simp [liesL,OP L w l]
theorem lies_node(L:Hw α)(w:World)(a:α)(l:List (AG α)):L.lies w (.node a l)↔L.own w a∧l.length=L.kn a∧Au L.encT L.k w (L.kp a) l∧∀t∈l,L.lies w t:=by rw [lies,OP]
theorem lies_below(L:Hw α){w w':World}(hb:Below w.heap.size w w')(t:AG α):L.lies w t→L.lies w' t:=by refine AG.ind (P:=fun t=>L.lies w t→L.lies w' t) (fun a l ih h=>?_) t;rw [lies_node] at h ⊢;exact⟨L.below h.1 hb,h.2.1,h.2.2.1.below hb,fun t ht=>ih t ht (h.2.2.2 t ht)⟩
end Hw
end
abbrev MJ(x:AD):Value:=.agg #[.int .u8 x.kind,.int .i64 x.rho,.string x.exn]
def EA(fid:FuncId):Prop:=∀args w,(callFunc fid args).run prog w=.ok (.enter fid args) w
def Pr(fid:FuncId)(caps:Array Value)(w:World)(l:List AD)(q:AD→Bool):Prop:=∀x∈l,∀W,Below w.heap.size w W→Calls prog fid (#[MJ x]++caps) W fun e w'=>e=.returned (.bool (q x))∧Below W.heap.size W w'
theorem Pr.is{fid:FuncId}{caps:Array Value}{w:World}{l:List AD}{q:AD→Bool}(h:Pr fid caps w l q){x:AD}(hx:x∈l){r:Bool}(hq:q x=r){W:World}(hb:Below w.heap.size w W):Calls prog fid (#[MJ x]++caps) W fun e w'=>e=.returned (.bool r)∧Below W.heap.size W w':=by subst hq;exact h x hx W hb
def Pp{α:Type}(q:α→Bool)(l:List α)(r:Int):Prop:=(r=-1∧l.any q=false)∨∃(k:Nat) (x:α),r=(k:Int)∧l[k]?=some x∧q x=true∧(l.take k).any q=false
theorem Pp.any{α:Type}{q:α→Bool}{l:List α}{r:Int}(h:Pp q l r):l.any q=decide (0≤r):=by
 rcases h with⟨rfl,h⟩|⟨k,x,rfl,hx,hq,_⟩
 ·rw [h];rfl
 ·rw [Ex hx hq];simp
def Jv(fid:FuncId)(caps:Array Value)(B:Nat)(w:World)(l:List AD)(q:AD→Bool):Prop:=∀x∈l,∀W,Below B w W→Calls prog fid (#[MJ x]++caps) W fun e w'=>e=.returned (.bool (q x))∧Below W.heap.size W w'
theorem Jv.a{fid:FuncId}{caps:Array Value}{B:Nat}{w w':World}{l:List AD}{q:AD→Bool}(h:Jv fid caps B w l q)(hb:Below B w w')(hB:B≤w'.heap.size):Pr fid caps w' l q:=fun x hx W hW=>h x hx W (hb.trans (hW.mono hB))
theorem Jv.is{fid:FuncId}{caps:Array Value}{B:Nat}{w:World}{l:List AD}{q:AD→Bool}(h:Jv fid caps B w l q){x:AD}(hx:x∈l){r:Bool}(hq:q x=r){W:World}(hb:Below B w W):Calls prog fid (#[MJ x]++caps) W fun e w'=>e=.returned (.bool r)∧Below W.heap.size W w':=by subst hq;exact h x hx W hb
theorem FK(fid:FuncId)(caps:Array Value)(q:AD→Bool)(a7:EA fid)(p:Option Addr)(n cap:Nat)(l:List AD)(w:World)(hn:l.length=n)(hm:n≤9223372036854775807)(hr:CX w p l)(hf:Pr fid caps w l q) :
 Calls prog 217 #[.slice p n cap,.func (.func fid) #[] caps] w fun e w'=>(∃r:Int,e=.returned (.int .i64 r)∧Pp q l r)∧Below w.heap.size w w':=by
 unfold EA at a7
 have HR:=AA hr
 have HN:=AA hn
 have HF:=AA hf
 clear hr hn hf
 go_enter func217,ntmps217
 go_wp2_with fail
 go_loopw [5,8] (fun _ i wr=>∃k:Nat,k≤n∧i=.int .i64 k∧(l.take k).any q=false∧Below w.heap.size w wr) (fun _ i _=>n-(intOf i).toNat)
 case atStart=>exact⟨0,by omega,rfl,by simp,Below.refl _ _⟩
 case round=>
  obtain⟨k,hk,rfl,ac,hb⟩:=hrel;have an:=AA ac;have HB:=AA hb;clear ac hb;by_cases aF:k<n
  ·obtain⟨x,hx⟩:=AM (l:=l) (j:=k) (by rw [HN.o];exact aF);have HE:=AA hx;obtain⟨b,o,rfl,aP,d0,d1,d2⟩:=CX.atom (HR.o.below HB.o) hx;clear hx aP;cases hq:q x
   ·have HQ:=AA hq;clear hq;go_wp2_with fail;refine(HF.o.is (List.mem_of_getElem? HE.o) HQ.o HB.o).mono ?_;rintro e w1 ⟨rfl,hb⟩;have aJ:=bt HB hb;clear hb;clear d0 d1 d2;go_wp2_with fail;go_roundw
    case rel=>exact⟨k+1,by omega,by go_num,by rw [Av HE.o,an.o,HQ.o];rfl,aJ.o⟩
    case measure=>simp [intOf];omega
   ·have HQ:=AA hq;clear hq;go_wp2_with fail;refine(HF.o.is (List.mem_of_getElem? HE.o) HQ.o HB.o).mono ?_;rintro e w1 ⟨rfl,hb⟩;have aJ:=bt HB hb;clear hb;clear d0 d1 d2;go_wp2_with fail;go_ret;exact⟨⟨k,rfl,.inr ⟨k,x,rfl,HE.o,HQ.o,an.o⟩⟩,aJ.o⟩
  ·go_wp2_with fail;go_ret;have h:=an.o;rw [AP (by rw [HN.o];omega)] at h;exact⟨⟨-1,rfl,.inl ⟨rfl,h⟩⟩,HB.o⟩
theorem JR(fid:FuncId)(caps:Array Value)(q:AD→Bool)(a7:EA fid)(p:Option Addr)(n cap:Nat)(l:List AD)(w:World)(hn:l.length=n)(hm:n≤9223372036854775807)(hr:CX w p l)(hf:Pr fid caps w l q) :
 Calls prog 187 #[.slice p n cap,.func (.func fid) #[] caps] w (RB w (.bool (l.any q))):=by
 have hc:Calls prog 217 #[.slice p n cap,.func (.func fid) #[] caps] w fun e w'=>
  (∃r:Int,e=.returned (.int .i64 r)∧l.any q=decide (0≤r))∧Below w.heap.size w w':=
  (FK fid caps q a7 p n cap l w hn hm hr hf).mono fun _ _ ⟨⟨r,he,hr⟩,hb⟩=>⟨⟨r,he,hr.any⟩,hb⟩
 generalize l.any q=r at hc ⊢
 clear hr hn hf a7
 go_enter func187,ntmps187
 go_wp2_with fail
 refine hc.mono ?_
 rintro e w1 ⟨⟨r,rfl,hr⟩,hb⟩
 have HR:=AA hr
 have HB:=AA hb
 clear hr hb hc
 go_wp2_with fail
 go_ret
 exact⟨AB HR.o.symm,HB.o⟩
end Go.Proofs.YtkdjnegfnhldpaaGreatDoor
