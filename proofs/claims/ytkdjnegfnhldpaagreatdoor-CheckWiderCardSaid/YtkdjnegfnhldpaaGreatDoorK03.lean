/- Part 03. -/
import Derived.Lib.AppendZerosOnto
import Derived.Laws.AppendOwnNone
import Derived.Test.YtkdjnegfnhldpaaGreatDoorK02
set_option linter.unusedVariables false
set_option maxRecDepth 100000
set_option linter.unusedSimpArgs false
set_option maxHeartbeats 40000000
namespace Go.Proofs.YtkdjnegfnhldpaaGreatDoor
open Go.Proofs.Tryz Go.RowKit
theorem AZ(y:AB):∀u∈AP y,u.oneCell'=true:=by intro u hu;simp only [AP,List.mem_cons,List.not_mem_nil,or_false] at hu;rcases hu with rfl|rfl|rfl<;>rfl
theorem BK:(prog.info? 59).map (fun i=>(i.zero,i.size,i.bytes))=some (some (.agg #[.int .u8 0,.int .i64 0,.string .empty]),3,32):=by kernel_rfl
def Bc(a:AB):List AB→List AB
 |[]=>[a]
 |b::l=>if AB.lt a b then a::b::l else b::Bc a l
def E6(a:AB)(e:List AB):List AB:=if AM a&&!J3 e a then Bc a e else e
theorem Kn(a:AB):∀(l:List AB) (x:AB),l.any (AB.lt a)=true→Bc a (l++[x])=Bc a l++[x]
 |[],x,h=>by simp at h
 |b::l,x,h=>by
  simp only [List.cons_append,Bc];by_cases hb:AB.lt a b=true
  ·simp [hb]
  ·rw [if_neg hb,if_neg hb,Kn a l x (by simpa [hb] using h)];rfl
theorem IX(a:AB):∀(l:List AB) (x:AB),l.any (AB.lt a)=false→AB.lt a x=true→Bc a (l++[x])=l++[a,x]
 |[],x,_,hx=>by simp [Bc,hx]
 |b::l,x,h,hx=>by simp only [List.any_cons,Bool.or_eq_false_iff] at h;simp only [List.cons_append,Bc];rw [if_neg (by simp [h.1]),IX a l x h.2 hx]
theorem JX(a:AB):∀(l:List AB),l.any (AB.lt a)=false→Bc a l=l++[a]
 |[],_=>rfl
 |b::l,h=>by simp only [List.any_cons,Bool.or_eq_false_iff] at h;simp only [Bc,List.cons_append];rw [if_neg (by simp [h.1]),JX a l h.2]
theorem E7(a:AB):∀l:List AB,(Bc a l).length=l.length+1
 |[]=>rfl
 |b::l=>by
  simp only [Bc];split
  ·rfl
  ·simp [E7 a l]
def Fd(a:AB)(l:List AB):List AB:=if l.any (AB.lt a) then Bc a l else l
theorem Ro(a:AB)(l:List AB)(x:AB)(h:l.any (AB.lt a)=true):Fd a (l++[x])=Fd a l++[x]:=by unfold Fd;rw [if_pos h,if_pos (by rw [List.any_append,h];rfl),Kn a l x h]
theorem Px(a:AB)(l:List AB)(x:AB)(h:l.any (AB.lt a)=false)(hx:AB.lt a x=true):Fd a (l++[x])=(Fd a l++[a])++[x]:=by
 have e1:(l++[x]).any (AB.lt a)=true:=by rw [List.any_append];simp [hx]
 unfold Fd;rw [if_pos e1,if_neg (by rw [h];exact Bool.false_ne_true),IX a l x h hx];simp
theorem TK(a:AB)(l:List AB)(x:AB)(h:l.any (AB.lt a)=false)(hx:AB.lt a x=false):Fd a (l++[x])=Fd a l++[x]:=by
 have e1:(l++[x]).any (AB.lt a)=false:=by rw [List.any_append,h];simp [hx]
 unfold Fd;rw [if_neg (by rw [e1];exact Bool.false_ne_true),if_neg (by rw [h];exact Bool.false_ne_true)]
theorem M3(p:Option Addr)(n cap:Nat)(l:List AB)(a:AB)(w:World)(hn:l.length=n)(hm:n≤1000000)(hr:Cm w p l)(ha:AM a=true)(hi:J3 l a=false) :
 Calls prog 52 #[.slice p n cap,.agg #[.int .u8 a.kind,.int .i64 a.rho,.string a.exn]] w fun e w'=>∃v,e=.returned v∧AI AP 3 w' w.heap.size 59 v (n+1) (Bc a l)∧Below w.heap.size w w':=by
 have HR:=AA hr
 have HN:=AA hn
 clear hr hn
 go_enter func52,ntmps52
 go_wp2_with fail
 refine(Dh a _).mono ?_
 rintro e w1 ⟨rfl,hb⟩
 have H1:Hd (Below w.heap.size w w1):=((Below.refl _ w).alloc (Nat.le_refl _) _).trans (hb.mono (by simp))
 have c0:w1.cell? ⟨w.heap.size,0,none⟩=some (.int .u8 a.kind):=by rw [hb.cell (by simp),AU];rfl
 have c1:w1.cell? ⟨w.heap.size,1,none⟩=some (.int .i64 a.rho):=by rw [hb.cell (by simp),AU];rfl
 have c2:w1.cell? ⟨w.heap.size,2,none⟩=some (.string a.exn):=by rw [hb.cell (by simp),AU];rfl
 have hs:w.heap.size<w1.heap.size:=by have:=hb.size;simp at this;omega
 rw [ha]
 clear hb
 go_wp2_with fail
 refine(Hz p n cap l a w1 HN.o (by omega) (HR.o.below H1.o)).mono ?_
 rintro e w2 ⟨rfl,hb⟩
 have H2:=bt H1 hb
 have af:Hd (∀wr,Below w1.heap.size w1 wr→wr.cell? ⟨w.heap.size,0,none⟩=some (.int .u8 a.kind)∧wr.cell? ⟨w.heap.size,1,none⟩=some (.int .i64 a.rho)∧wr.cell? ⟨w.heap.size,2,none⟩=some (.string a.exn)):=fun wr hb=>⟨by rw [hb.cell (by simpa using hs)];exact c0,by rw [hb.cell (by simpa using hs)];exact c1,by rw [hb.cell (by simpa using hs)];exact c2⟩
 have gE:=AA hb
 rw [hi]
 clear hb c0 c1 c2 H1
 go_wp2_with fail
 have dm:=AI.lit AP w2 w2.heap.size 59 3 (Nat.le_refl _)
 have jF:=AA dm
 clear dm
 go_loopw [5,6,7,20] (fun u d _ i wr=>∃k m:Nat,k≤n∧m≤2 * k∧i=.int .i64 k∧d=.bool ((l.take k).any (AB.lt a))∧AI AP 3 wr w2.heap.size 59 u m (Fd a (l.take k))∧Below w2.heap.size w2 wr) (fun _ _ _ i _=>n-(intOf i).toNat)
 case atStart=>exact⟨0,0,by omega,by omega,rfl,by simp,jF.o,bA⟩
 case round=>
  obtain⟨k,m,hk,nS,rfl,rfl,aD,hb⟩:=hrel;have aS:=AA aD;have HB:=AA hb;clear aD hb;by_cases aG:k<n
  ·obtain⟨x,hx⟩:=Ac (l:=l) (j:=k) (by rw [HN.o];exact aG);have HE:=AA hx;obtain⟨b,o,rfl,al,d0,d1,d2⟩:=Cm.atom (HR.o.below H2.o) hx;have kQ:Hd (∀W,Below w2.heap.size w2 W→W.cell? ⟨b,o+k * 3,none⟩=some (.int .u8 x.kind)∧W.cell? ⟨b,o+k * 3+1,none⟩=some (.int .i64 x.rho)∧W.cell? ⟨b,o+k * 3+2,none⟩=some (.string x.exn)):=fun W h=>⟨by rw [h.cell al];exact d0,by rw [h.cell al];exact d1,by rw [h.cell al];exact d2⟩;clear hx al d0 d1 d2;cases cT:(l.take k).any (AB.lt a)
   ·have dz:=AA cT;clear cT;obtain⟨e0,e1,e2⟩:=kQ.o wr HB.o;obtain⟨f0,f1,f2⟩:=af.out wr (gE.o.trans (HB.o.mono gE.o.size));go_wp2_with fail;refine wp_region_still_tail 8 (by kernel_rfl) (by kernel_rfl) ?_;change wpStill _ _ (World.drew _) _ _ _;simp only [List.take_succ_cons,List.take_zero,List.drop_succ_cons,List.drop_zero];repeat still_step
    refine wpStill_nil ?_;change wpList _ _ _ _ _ (World.drew _);go_wp2_with fail;refine(M1 a x _).mono ?_;rintro e w3 ⟨rfl,hb⟩;have aT:Hd (Below w2.heap.size w2 w3):=HB.o.drew.trans (hb.mono HB.o.size);have cf:=AA (AI.below aS.o.drew hb);clear hb e0 e1 e2 f0 f1 f2;obtain⟨e0,e1,e2⟩:=kQ.o w3 aT.o;obtain⟨f0,f1,f2⟩:=af.out w3 (gE.o.trans (aT.o.mono gE.o.size));cases ke:AB.lt a x
    ·have jC:=AA ke;clear ke;go_wp2_with (at_builtin;refine Ae rfl _ _ 25 rfl w2.heap.size 59 _ 3 32 underlying25 BK rfl (by decide) AP AC AZ x _ _ _ cf.o rfl rfl ?c1 ?c2 ?c3 ?_)
     case c1=>omega
     case c2=>omega
     case c3=>exact aT.o.size
     ·intro v' w4 aH hg;have HO:=AA aH;have bQ:=AA (Below.own aT.o hg aT.o.size cf.o);clear aH hg e0 e1 e2 f0 f1 f2;go_wp2_with fail;go_roundw
      case rel=>exact⟨k+1,m+1,by omega,by omega,by go_num,by rw [BF HE.o,dz.o,jC.o];rfl,by rw [AJ HE.o,TK a _ _ dz.o jC.o];exact HO.o,bQ.o⟩
      case measure=>simp [intOf];omega
    ·have jC:=AA ke;clear ke;go_wp2_with (at_builtin;refine Ae rfl _ _ 25 rfl w2.heap.size 59 _ 3 32 underlying25 BK rfl (by decide) AP AC AZ a _ _ _ cf.o rfl rfl ?c1 ?c2 ?c3 ?_)
     case c1=>omega
     case c2=>omega
     case c3=>exact aT.o.size
     ·intro v' w4 aH hg;have HO:=AA aH;have bQ:=AA (Below.own aT.o hg aT.o.size cf.o);clear aH hg e0 e1 e2 f0 f1 f2;obtain⟨e0,e1,e2⟩:=kQ.o w4 bQ.o;go_wp2_with (at_builtin;refine Ae rfl _ _ 25 rfl w2.heap.size 59 _ 3 32 underlying25 BK rfl (by decide) AP AC AZ x _ _ _ HO.o rfl rfl ?c1 ?c2 ?c3 ?_)
      case c1=>omega
      case c2=>omega
      case c3=>exact bQ.o.size
      ·intro v'' w5 aH hg;have oU:=AA aH;have bJ:=AA (Below.own bQ.o hg bQ.o.size HO.o);clear aH hg e0 e1 e2;go_wp2_with fail;go_roundw
       case rel=>exact⟨k+1,m+2,by omega,by omega,by go_num,by rw [BF HE.o,dz.o,jC.o];rfl,by rw [AJ HE.o,Px a _ _ dz.o jC.o,List.append_assoc];exact oU.o,bJ.o⟩
       case measure=>simp [intOf];omega
   ·have dz:=AA cT;clear cT;obtain⟨e0,e1,e2⟩:=kQ.o wr HB.o;obtain⟨f0,f1,f2⟩:=af.out wr (gE.o.trans (HB.o.mono gE.o.size));go_wp2_with fail;go_quiet (fail);have aT:Hd (Below w2.heap.size w2 (wr.drewN nq)):=below_drewN HB.o nq;have cf:Hd (AI AP 3 (wr.drewN nq) w2.heap.size 59 u5 m (Fd a (l.take k))):=aS.o.drewN nq;go_wp2_with (at_builtin;refine Ae rfl _ _ 25 rfl w2.heap.size 59 _ 3 32 underlying25 BK rfl (by decide) AP AC AZ x _ _ _ cf.o rfl rfl ?c1 ?c2 ?c3 ?_)
    case c1=>omega
    case c2=>omega
    case c3=>exact aT.o.size
    ·intro v' w4 aH hg;have HO:=AA aH;have bQ:=AA (Below.own aT.o hg aT.o.size cf.o);clear aH hg e0 e1 e2 f0 f1 f2;go_wp2_with fail;go_roundw
     case rel=>exact⟨k+1,m+1,by omega,by omega,by go_num,by rw [BF HE.o,dz.o];rfl,by rw [AJ HE.o,Ro a _ _ dz.o];exact HO.o,bQ.o⟩
     case measure=>simp [intOf];omega
  ·have bV:k=n:=by omega
   subst bV;have ht:l.take k=l:=AY (by rw [HN.o];omega);rw [ht];cases cT:l.any (AB.lt a)
   ·have HP:Hd (Bc a l=Fd a l++[a]):=by show Bc a l=Fd a l++[a];unfold Fd;rw [if_neg (by rw [cT];exact Bool.false_ne_true),JX a l cT]
    have hl:Hd (m=k):=by show m=k;have:=aS.o.len AC (by omega);rw [ht] at this;unfold Fd at this;rw [if_neg (by rw [cT];exact Bool.false_ne_true)] at this;rw [←this];exact HN.o
    obtain⟨f0,f1,f2⟩:=af.out wr (gE.o.trans (HB.o.mono gE.o.size));clear cT ht;go_wp2_with (at_builtin;refine Ae rfl _ _ 25 rfl w2.heap.size 59 _ 3 32 underlying25 BK rfl (by decide) AP AC AZ a _ _ _ aS.o rfl rfl ?c1 ?c2 ?c3 ?_)
    case c1=>omega
    case c2=>omega
    case c3=>exact HB.o.size
    ·intro v' w4 aH hg;have HO:=AA aH;have bQ:=AA (Below.own HB.o hg HB.o.size aS.o);clear aH hg f0 f1 f2;go_wp2_with fail;go_ret;refine⟨_,rfl,?_,H2.o.trans (bQ.o.mono H2.o.size)⟩;have h:=HO.o;rw [AY (by rw [HN.o];omega),hl.out] at h;rw [HP.o];exact h.lower H2.o.size
   ·have HP:Hd (Bc a l=Fd a l):=by show Bc a l=Fd a l;unfold Fd;rw [if_pos cT]
    have hl:Hd (m=k+1):=by show m=k+1;have:=aS.o.len AC (by omega);rw [ht] at this;unfold Fd at this;rw [if_pos cT,E7] at this;rw [←this,HN.o]
    clear cT ht;go_wp2_with fail;go_ret;refine⟨_,rfl,?_,H2.o.trans (HB.o.mono H2.o.size)⟩;have h:=aS.o;rw [AY (by rw [HN.o];omega),hl.out] at h;rw [HP.o];exact h.lower H2.o.size
def Sl{α:Type}(enc:α→List Value)(k:Nat)(w:World)(v:Value)(l:List α):Prop:=∃p n cap,v=.slice p n cap∧l.length=n∧n≤cap∧At enc k w p l
theorem Sl.below{α:Type}{enc:α→List Value}{k:Nat}{w w':World}{v:Value}{l:List α}(h:Sl enc k w v l)(hb:Below w.heap.size w w'):Sl enc k w' v l:=by obtain⟨p,n,cap,hv,hl,hc,hr⟩:=h;exact⟨p,n,cap,hv,hl,hc,hr.below hb⟩
theorem AI.sl{α:Type}{enc:α→List Value}{k:Nat}{w:World}{base e n:Nat}{v:Value}{l:List α}(hk:∀x,(enc x).length=k)(bC:0<k)(h:AI enc k w base e v n l):Sl enc k w v l:=by obtain⟨p,cap,hv,hl,hc,hr,_⟩:=h.row hk bC;exact⟨p,n,cap,hv,hl,hc,hr⟩
theorem OS(a:AB)(l:List AB):(E6 a l).length≤l.length+1:=by
 unfold E6;split
 ·rw [E7];omega
 ·omega
def L9(l:List AB):List AB:=l.foldl (fun e a=>E6 a e) []
theorem Py(l:List AB)(x:AB):L9 (l++[x])=E6 x (L9 l):=by simp [L9,List.foldl_append]
def Ag(a b:List AB):Bool:=a.all (fun x=>!AM x||J3 b x)
theorem Kr(p:Option Addr)(n cap:Nat)(l:List AB)(q:Option Addr)(m mc:Nat)(l':List AB)(w:World)(hn:l.length=n)(hm:n≤9223372036854775807)(hr:Cm w p l)(dR:l'.length=m)(cq:m≤9223372036854775807)(ah:Cm w q l'):Calls prog 25 #[.slice p n cap,.slice q m mc] w (RB w (.bool (Ag l l'))):=by
 have HR:=AA hr;have HN:=AA hn;have dF:=AA ah;have jD:=AA dR;clear hr hn ah dR;go_enter func25,ntmps25;go_wp2_with fail;go_loopw [5,8] (fun _ i wr=>∃k:Nat,k≤n∧i=.int .i64 k∧(l.take k).all (fun x=>!AM x||J3 l' x)=true∧Below w.heap.size w wr) (fun _ i _=>n-(intOf i).toNat)
 case atStart=>exact⟨0,by omega,rfl,by simp,Below.refl _ _⟩
 case round=>
  obtain⟨k,hk,rfl,aw,hb⟩:=hrel;have a8:=AA aw;have HB:=AA hb;clear aw hb;by_cases aG:k<n
  ·obtain⟨x,hx⟩:=Ac (l:=l) (j:=k) (by rw [HN.o];exact aG);have HE:=AA hx;obtain⟨b,o,rfl,al,d0,d1,d2⟩:=Cm.atom (HR.o.below HB.o) hx;go_wp2_with fail;refine(Dh x wr).mono ?_;rintro e w1 ⟨rfl,hb⟩;have aO:=bt HB hb;have f0:w1.cell? ⟨b,o+k * 3,none⟩=some (.int .u8 x.kind):=by rw [hb.cell al];exact d0
   have f1:w1.cell? ⟨b,o+k * 3+1,none⟩=some (.int .i64 x.rho):=by rw [hb.cell al];exact d1
   have f2:w1.cell? ⟨b,o+k * 3+2,none⟩=some (.string x.exn):=by rw [hb.cell al];exact d2
   clear hb d0 d1 d2 hx al;cases ha:AM x
   ·have HA:=AA ha;clear ha;go_wp2_with fail;go_roundw
    case rel=>exact⟨k+1,by omega,by go_num,by rw [DY HE.o,a8.o,HA.o];rfl,aO.o⟩
    case measure=>simp [intOf];omega
   ·have HA:=AA ha;clear ha;go_wp2_with fail;refine(Hz q m mc l' x w1 jD.out cq (dF.out.below aO.o)).mono ?_;rintro e w2 ⟨rfl,hb⟩;have aI:=bt aO hb;clear hb f0 f1 f2;cases hi:J3 l' x
    ·have HI:=AA hi;clear hi;go_wp2_with fail;go_ret;exact⟨AE (by unfold Ag;rw [J0 HE.o (by rw [HA.o,HI.o];rfl)]),aI.o⟩
    ·have HI:=AA hi;clear hi;go_wp2_with fail;go_roundw
     case rel=>exact⟨k+1,by omega,by go_num,by rw [DY HE.o,a8.o,HA.o,HI.o];rfl,aI.o⟩
     case measure=>simp [intOf];omega
  ·go_wp2_with fail;go_ret;have h:=a8.o;rw [AY (by rw [HN.o];omega)] at h;exact⟨AE h.symm,HB.o⟩
def FA(l:List Int)(x:Int):Bool:=l.any (·==x)
structure QV where
 drawn:Nat
 blocks:Array Obj
deriving Inhabited
def gw(w:World)(g:QV):World:={ w with heap:=w.heap++g.blocks,drawn:=g.drawn }
theorem GM(w:World)(g:QV):Below w.heap.size w (gw w g):=by refine⟨rfl,rfl,rfl,by simp [gw],fun k hk=>?_⟩;simp [gw,Array.getElem?_append_left hk]
theorem SQ{w w':World}(h:Below w.heap.size w w'):∃g,w'=gw w g:=by
 refine⟨⟨w'.drawn,w'.heap.extract w.heap.size w'.heap.size⟩,?_⟩;obtain⟨heap,tape,drawn,os,output⟩:=w;obtain⟨m6,tape',drawn',os',output'⟩:=w';obtain⟨h1,h2,h3,h4,h5⟩:=h;simp only at h1 h2 h3 h4 h5;subst h1;subst h2;subst h3;simp only [gw,World.mk.injEq,true_and,and_true];apply Array.ext_getElem?;intro i;rcases Nat.lt_or_ge i heap.size with hi|hi
 ·rw [Array.getElem?_append_left hi];exact h5 i hi
 ·rw [Array.getElem?_append_right hi,Array.getElem?_extract];simp only [Nat.add_sub_cancel' hi];split
  ·rfl
  ·rw [Array.getElem?_eq_none (by omega)]
theorem Gn{w:World}{a:Addr}{v:Value}(h:w.cell? a=some v)(g:QV):(gw w g).cell? a=some v:=by rw [(GM w g).cell (BC h)];exact h
theorem FD{P:Program}{f:FuncId}{args:Array Value}{w:World}{g:QV}{v:Value}(h:Calls P f args (gw w g) fun e w'=>e=.returned v∧Below (gw w g).heap.size (gw w g) w'):Calls P f args (gw w g) fun e w'=>e=.returned v∧∃g',w'=gw w g':=h.mono fun _ _ ⟨he,hb⟩=>⟨he,SQ ((GM w g).trans (hb.mono (GM w g).size))⟩
theorem EV{P:Program}{id:Nat}{Q:Exit→Act→World→Prop}{a:Act}{w:World}{l:List Oper}(hm:P.follows .mixedOrders=true)(hB:Region.lexB .any l.toArray=true)(h:wpQuiet P l.toArray (fun w'=>∃g,w'=gw w g) (fun a'=>∀w',(∃g,w'=gw w g)→Q .normal a' w') l a):(Code.region id l.toArray true).wp P Q a w:=wp_region_quiet (C:=fun w'=>∃g,w'=gw w g) hm hB ⟨⟨w.drawn+1,#[]⟩,by simp [gw]⟩ (by simpa using h)
def DM:List AB→Bool
 |[]=>true
 |[a]=>AM a
 |a::b::l=>AM a&&AB.lt a b&&DM (b::l)
def NW(e:List AB)(k:Nat):Prop:=(e.take k).all AM=true∧∀j x y,j+1<k→e[j]?=some x→e[j+1]?=some y→AB.lt x y=true
theorem GX{a:AB}{r:Bool}(h:AM a=r)(w:World):Calls prog 23 #[.agg #[.int .u8 a.kind,.int .i64 a.rho,.string a.exn]] w (RB w (.bool r)):=by subst h;exact Dh a w
theorem Cx{P:Program}{α:Type}{ops:Array Oper}{rest:List Oper}{o:Oper}{a:Act}{Q:Exit→Act→World→Prop}(bG:o.guard=none)(s x:Operand)(t:TypeId)(ho:o.op=.call { callee:=.builtin .append,args:=#[s,x],argTypes:=#[t,t] })(base:Nat)(e:TypeId)(z:Value)(k bytes:Nat)(ht:P.underlying t=some (.slice e))(bu:(P.info? e).map (fun i=>(i.zero,i.size,i.bytes))=some (some z,k,bytes))(et:z.cells.size=k)(aL:0<k)(enc:α→List Value)(hk:∀x,(enc x).length=k)(h1:∀y,∀u∈enc y,u.oneCell'=true)(l' l:List α)(n:Nat){w:World}(v:Value)(aD:AI enc k w base e v n l)(p:Option Addr)(m c:Nat)(hs:a.eval s=v)(hx:a.eval x=.slice p m c)(hl:l'.length=m)(hp:p=none→c=0)(hr:At enc k w p l')(ac:(n+m) * bytes≤140737488355328)(ic:n+m≤9223372036854775807)(dI:base≤w.heap.size)(h:∀v' w',AI enc k w' base e v' (n+m) (l++l')→w.grownBy w' v.ownBlock→wpList P ops Q rest (a.put o.dst v') w'):wpList P ops Q (o::rest) a w:=by
 obtain⟨i,hi,hz,bW,eL⟩:=info_parts bu;rcases p with _|ad
 ·have fN:l'=[]:=by
   rcases hr with h|⟨_,_,h,_⟩
   ·exact h
   ·cases h
  subst fN;obtain rfl:m=0:=by simpa using hl.symm
  obtain rfl:=hp rfl;refine wpList_append_own_none bG s x t ho base e i k ht hi v n _ hs aD hx ?_;have:=h v w (by simpa using aD) (World.grownBy.refl _ _);exact this
 ·refine wpList_append_own _ bG s x t ho base e i z k bytes ht hi hz bW eL et aL v n _ hs aD ad m c (l'.flatMap enc) hx (by rw [Aj hk,hl]) ?_ ?_ (by unfold maxLen;omega) ac dI ?_
  ·intro j u hj;rcases hr with h0|⟨b,o',hb,aG,hc⟩
   ·subst h0;simp at hj
   ·cases hb
    have fy:j<l'.length * k:=by rw [←Aj hk];exact CD hj
    have hq:j / k<l'.length:=Nat.div_lt_of_lt_mul (by rw [Nat.mul_comm];exact fy);have hm:j % k<k:=Nat.mod_lt _ aL;have hf:=CY hk l' (j / k) _ (j % k) (List.getElem?_eq_getElem hq) hm;rw [Nat.div_add_mod' j k,hj] at hf;have:=hc (j / k) _ (List.getElem?_eq_getElem hq) (j % k) u hf.symm;rw [D3,←Nat.div_add_mod' j k,←Nat.add_assoc];exact this
  ·intro u hu;rw [List.mem_flatMap] at hu;obtain⟨y,_,hu⟩:=hu;exact h1 y u hu
  ·intro v' w' aH hg _;refine h v' w' ?_ hg;unfold AI;rw [List.flatMap_append];exact aH
theorem Mi(n:Nat)(w:World)(hn:n≤1000000):Calls prog 166 #[.slice none 0 0,.int .i64 n] w fun e w'=>∃v,e=.returned v∧AI AP 3 w' w.heap.size 59 v 0 []∧Below w.heap.size w w':=by
 by_cases h0:n=0
 ·subst h0;go_enter func166,ntmps166;go_wp2_with fail;go_ret;exact⟨_,rfl,AI.nil _ _ _ _ _,Below.refl _ _⟩
 ·obtain⟨i,hi,hz,bW,eL⟩:=info_parts BK
  have pa:∃(G:Nat) (cs:Array Value),n≤G∧G≤maxLen∧cs.size=G * 3∧∀ty,(Builtin.append_ #[25,3] ty #[.slice none 0 0,.int .i64 n]).run prog w =
   .ok (.slice (some ⟨w.heap.size,0,none⟩) n G) (w.drew.alloc (.cells cs 59)):=by
   have h:=fun ty=>Lib.run_append_grow_zeros w 25 3 ty 59 i _ .i64 .i64 underlying25 underlying3 hi hz none 0 0 [] (run_firstCells_none w.drew i.size 0 0 0) n (by omega) (by rw [bW];decide) (by omega) (by omega) (by rw [eL];omega)
    (growslice_fits (by omega) (by rw [eL];omega))
   refine⟨grownCap w (0+n) 0 59,_,by have:=grownCap_ge w (0+n) 0 59;omega,grownCap_le_maxLen _ _ _ _ (by unfold maxLen;omega),?_,fun ty=>by have:=h ty;rw [Nat.zero_add] at this ⊢;exact this⟩
   have bP:=grownCap_ge w n 0 59
   simp [size_zeroCells,Value.cells]
   omega
  obtain⟨G,cs,hG,o7,ao,bx⟩:=pa;have dE:=AA ao;have eF:0<n:=by omega
  unfold maxLen at o7;clear hi hz bW eL h0 ao;go_enter func166,ntmps166;go_wp2_with (at_builtin;refine Lib.wpList_append_run _ rfl _ _ _ _ rfl _ _ rfl rfl _ _ (bx _) ?_);go_ret;exact⟨_,rfl,World.ownsRow_made _ cs G (by simp) (by unfold maxLen;omega) dE.o,(below_drewN (n:=1) (Below.refl w.heap.size w)).alloc (Nat.le_refl _) _⟩
structure Lq(α:Type) where
 p:Option Addr
 n:Nat
 cap:Nat
 l:List α
def Eu{α:Type}(r:Lq α):List Value:=[.slice r.p r.n r.cap]
theorem Lv{α:Type}(r:Lq α):(Eu r).length=1:=rfl
structure Lq.Ok{α:Type}(enc:α→List Value)(k:Nat)(w:World)(r:Lq α):Prop where
 len:r.l.length=r.n
 cap:r.n≤r.cap
 nil:r.p=none→r.cap=0
 row:At enc k w r.p r.l
theorem Lq.Ok.below{α:Type}{enc:α→List Value}{k:Nat}{w w':World}{r:Lq α}(h:r.Ok enc k w)(hb:Below w.heap.size w w'):r.Ok enc k w':=⟨h.1,h.2,h.3,h.4.below hb⟩
theorem ET{α:Type}(f:α→Nat):∀(l:List α) (k:Nat) (x:α),l[k]?=some x→((l.take (k+1)).map f).sum=((l.take k).map f).sum+f x∧((l.take k).map f).sum+f x≤(l.map f).sum
 |[],k,x,h=>by simp at h
 |y::l,0,x,h=>by simp at h;subst h;simp
 |y::l,k+1,x,h=>by
  obtain⟨h1,h2⟩:=ET f l k x (by simpa using h);constructor
  ·simp only [List.take_succ_cons,List.map_cons,List.sum_cons] at h1 ⊢;rw [h1];omega
  ·simp only [List.take_succ_cons,List.map_cons,List.sum_cons];omega
theorem PS(p:Option Addr)(n cap:Nat)(rows:List (Lq AB))(w:World)(hn:rows.length=n)(hm:n≤1000000)(hr:At Eu 1 w p rows)(ax:∀r∈rows,r.Ok AP 3 w)(cW:(rows.map (·.n)).sum≤1000000):Calls prog 118 #[.slice p n cap] w fun e w'=>∃v,e=.returned v∧AI AP 3 w' w.heap.size 59 v (rows.map (·.n)).sum (rows.flatMap (·.l))∧Below w.heap.size w w':=by
 have HR:=AA hr;have HN:=AA hn;have cu:=AA ax;have HT:=AA cW;clear hr hn ax cW;go_enter func118,ntmps118;go_wp2_with fail;go_loop [3,5,11] (fun s _ i=>∃k S:Nat,k≤n∧i=.int .i64 k∧((rows.take k).map (·.n)).sum=S∧S≤1000000∧s=.int .i64 S) (fun _ _ i=>n-(intOf i).toNat)
 case atStart=>exact⟨0,0,by omega,rfl,rfl,by omega,rfl⟩
 case round=>
  obtain⟨k,S,hk,rfl,hS,mo,rfl⟩:=hrel;have HS:=AA hS;clear hS;by_cases aG:k<n
  ·obtain⟨x,hx⟩:=Ac (l:=rows) (j:=k) (by rw [HN.o];exact aG);have HE:=AA hx;obtain⟨b,o,rfl,al,hc⟩:=HR.o.elem hx;have d0:=hc 0 _ rfl;simp only [Nat.mul_one,Nat.add_zero] at d0;have bf:=AA (ET (·.n) rows k x hx);have bD:S+x.n≤1000000:=by have:=bf.o.2;have:=HT.o;have:=HS.o;omega
   clear hx al hc;go_wp2_with fail;go_round
   case rel=>exact⟨k+1,S+x.n,by omega,by go_num,by have:=bf.o.1;have:=HS.o;omega,bD,by go_num⟩
   case measure=>simp [intOf];omega
  ·have bV:k=n:=by omega
   subst bV;have mV:Hd ((rows.map (·.n)).sum=S):=by have h:=HS.o;rw [AY (by rw [HN.o];omega)] at h;exact h
   go_wp2_with fail;refine(Mi S w mo).mono ?_;rintro e w1 ⟨v0,rfl,ho,hb⟩;have HO:=AA ho;have HB:=AA hb;clear ho hb;go_wp2_with fail;go_loopw [6,8,27] (fun u _ i wr=>∃j T:Nat,j≤k∧i=.int .i64 j∧((rows.take j).map (·.n)).sum=T∧T≤1000000∧AI AP 3 wr w.heap.size 59 u T ((rows.take j).flatMap (·.l))∧Below w.heap.size w wr) (fun _ _ i _=>k-(intOf i).toNat)
   case atStart=>exact⟨0,0,by omega,rfl,rfl,by omega,HO.o,HB.o⟩
   case round=>
    obtain⟨j,T,hj,rfl,hT,pu,aD,hb⟩:=hrel;have lV:=AA hT;have aS:=AA aD;have cG:=AA hb;clear hT aD hb;by_cases aG:j<k
    ·obtain⟨x,hx⟩:=Ac (l:=rows) (j:=j) (by rw [HN.o];exact aG);have HE:=AA hx;obtain⟨b,o,rfl,al,hc⟩:=(HR.o.below cG.o).elem hx;have d0:=hc 0 _ rfl;simp only [Nat.mul_one,Nat.add_zero] at d0;have bf:=AA (ET (·.n) rows j x hx);have bD:T+x.n≤1000000:=by have:=bf.o.2;have:=HT.o;have:=lV.o;omega
     have HX:=AA ((cu.o x (List.mem_of_getElem? hx)).below cG.o);clear hx al hc;go_wp2_with (at_builtin;refine Cx rfl _ _ 25 rfl w.heap.size 59 _ 3 32 underlying25 BK rfl (by decide) AP AC AZ x.l _ _ _ aS.o _ _ _ rfl rfl HX.o.len HX.o.nil HX.o.row ?c1 ?c2 ?c3 ?_)
     case c1=>omega
     case c2=>omega
     case c3=>exact cG.o.size
     ·intro v' w4 aH hg;have lP:=AA aH;have bQ:=AA (Below.own cG.o hg cG.o.size aS.o);clear aH hg;go_wp2_with fail;go_roundw
      case rel=>exact⟨j+1,T+x.n,by omega,by go_num,by have:=bf.o.1;have:=lV.o;omega,bD,by rw [AJ HE.o,List.flatMap_append];simpa using lP.o,bQ.o⟩
      case measure=>simp [intOf];omega
    ·have jk:j=k:=by omega
     subst jk;go_wp2_with fail;go_ret;have h1:=aS.o;rw [AY (by rw [HN.o];omega)] at h1;exact⟨_,rfl,by rw [mV.out];have:=lV.o;rw [AY (by rw [HN.o];omega),mV.out] at this;subst this;exact h1,cG.o⟩
section
inductive AD (α:Type) where
 |node (a:α) (kids:List (AD α))
namespace AD
variable {α β:Type}
def head:AD α→α
 |node a _=>a
def kids:AD α→List (AD α)
 |node _ l=>l
theorem eta(t:AD α):t=node t.head t.kids:=by cases t;rfl
mutual
theorem ind{P:AD α→Prop}(h:∀a l,(∀t∈l,P t)→P (node a l)):∀t,P t
 |node a l=>h a l (Vg h l)
theorem Vg{P:AD α→Prop}(h:∀a l,(∀t∈l,P t)→P (node a l)):∀l:List (AD α),∀t∈l,P t
 |[],_,hm=>absurd hm List.not_mem_nil
 |t::l,x,hm=>by
  rcases List.mem_cons.1 hm with e|hm
  ·rw [e];exact ind h t
  ·exact Vg h l x hm
end
mutual
def fold(f:α→List β→β):AD α→β
 |node a l=>f a (N3 f l)
def N3(f:α→List β→β):List (AD α)→List β
 |[]=>[]
 |t::l=>fold f t::N3 f l
end
theorem N4(f:α→List β→β):∀l:List (AD α),N3 f l=l.map (fold f)
 |[]=>by simp [N3]
 |t::l=>by simp [N3,N4 f l]
theorem fold_node(f:α→List β→β)(a:α)(l:List (AD α)):fold f (node a l)=f a (l.map (fold f)):=by rw [fold,N4]
def size:AD α→Nat:=fold (fun _ l=>1+l.sum)
theorem size_node(a:α)(l:List (AD α)):size (node a l)=1+(l.map size).sum:=fold_node _ a l
theorem size_pos(t:AD α):0<size t:=by cases t;rw [size_node];omega
def map(g:α→β):AD α→AD β:=fold (fun a l=>node (g a) l)
theorem map_node(g:α→β)(a:α)(l:List (AD α)):map g (node a l)=node (g a) (l.map (map g)):=fold_node _ a l
theorem size_map(g:α→β)(t:AD α):size (map g t)=size t:=by refine ind (P:=fun t=>size (map g t)=size t) (fun a l ih=>?_) t;rw [map_node,size_node,size_node,List.map_map];congr 2;exact List.map_congr_left ih
def nodes:AD α→List α:=fold (fun a l=>a::l.flatten)
theorem nodes_node(a:α)(l:List (AD α)):nodes (node a l)=a::(l.map nodes).flatten:=fold_node _ a l
def all(p:α→Nat→Bool):AD α→Bool:=fold (fun a l=>p a l.length&&l.all id)
theorem all_node(p:α→Nat→Bool)(a:α)(l:List (AD α)):all p (node a l)=(p a l.length&&l.all (all p)):=by show fold _ _=_;rw [fold_node,List.length_map,List.all_map];rfl
mutual
def same(r:α→β→Bool):AD α→AD β→Bool
 |node a l,node b m=>r a b&&sameL r l m
def sameL(r:α→β→Bool):List (AD α)→List (AD β)→Bool
 |[],[]=>true
 |t::l,u::m=>same r t u&&sameL r l m
 |[],_::_=>false
 |_::_,[]=>false
end
theorem same_node(r:α→β→Bool)(a:α)(b:β)(l:List (AD α))(m:List (AD β)):same r (node a l) (node b m)=(r a b&&sameL r l m):=by rw [same]
theorem sameL_length(r:α→β→Bool):∀(l:List (AD α)) (m:List (AD β)),sameL r l m=true→List.length l=List.length m
 |[],[],_=>rfl
 |t::l,u::m,h=>by simp only [sameL,Bool.and_eq_true] at h;simp [sameL_length r l m h.2]
 |[],_::_,h=>by simp [sameL] at h
 |_::_,[],h=>by simp [sameL] at h
theorem sameL_get(r:α→β→Bool):∀(l:List (AD α)) (m:List (AD β)),sameL r l m=true↔l.length=m.length∧∀(j:Nat) (t:AD α) (u:AD β),l[j]?=some t→m[j]?=some u→same r t u=true
 |[],[]=>by simp [sameL]
 |t::l,u::m=>by
  simp only [sameL,Bool.and_eq_true,sameL_get r l m,List.length_cons,Nat.add_right_cancel_iff];constructor
  ·rintro⟨h,hl,hj⟩;refine⟨hl,fun j x y hx hy=>?_⟩;cases j with
   |zero=>simp at hx hy;subst hx;subst hy;exact h
   |succ j=>exact hj j x y (by simpa using hx) (by simpa using hy)
  ·rintro⟨hl,hj⟩;exact⟨hj 0 t u rfl rfl,hl,fun j x y hx hy=>hj (j+1) x y (by simpa using hx) (by simpa using hy)⟩
 |[],_::_=>by simp [sameL]
 |_::_,[]=>by simp [sameL]
end AD
structure F7(α:Type) where
 enc:α→List Value
 k:Nat
 own:World→α→Prop
 kp:α→Option Addr
 kn:α→Nat
 len:∀a,(enc a).length=k
 below:∀{w w':World} {a:α},own w a→Below w.heap.size w w'→own w' a
namespace F7
variable {α:Type}
def encT(L:F7 α)(t:AD α):List Value:=L.enc t.head
mutual
def lies(L:F7 α)(w:World):AD α→Prop
 |.node a l=>L.own w a∧l.length=L.kn a∧At L.encT L.k w (L.kp a) l∧liesL L w l
def liesL(L:F7 α)(w:World):List (AD α)→Prop
 |[]=>True
 |t::l=>lies L w t∧liesL L w l
end
theorem L4(L:F7 α)(w:World):∀l:List (AD α),L.liesL w l↔∀t∈l,L.lies w t
 |[]=>by simp [liesL]
 |t::l=>by simp [liesL,L4 L w l]
theorem lies_node(L:F7 α)(w:World)(a:α)(l:List (AD α)):L.lies w (.node a l)↔L.own w a∧l.length=L.kn a∧At L.encT L.k w (L.kp a) l∧∀t∈l,L.lies w t:=by rw [lies,L4]
theorem lies_below(L:F7 α){w w':World}(hb:Below w.heap.size w w')(t:AD α):L.lies w t→L.lies w' t:=by refine AD.ind (P:=fun t=>L.lies w t→L.lies w' t) (fun a l ih h=>?_) t;rw [lies_node] at h ⊢;exact⟨L.below h.1 hb,h.2.1,h.2.2.1.below hb,fun t ht=>ih t ht (h.2.2.2 t ht)⟩
end F7
end
abbrev MT(x:AB):Value:=.agg #[.int .u8 x.kind,.int .i64 x.rho,.string x.exn]
def DJ(fid:FuncId):Prop:=∀args w,(callFunc fid args).run prog w=.ok (.enter fid args) w
def NY(fid:FuncId)(caps:Array Value)(w:World)(l:List AB)(q:AB→Bool):Prop:=∀x∈l,∀W,Below w.heap.size w W→Calls prog fid (#[MT x]++caps) W fun e w'=>e=.returned (.bool (q x))∧Below W.heap.size W w'
theorem NY.is{fid:FuncId}{caps:Array Value}{w:World}{l:List AB}{q:AB→Bool}(h:NY fid caps w l q){x:AB}(hx:x∈l){r:Bool}(hq:q x=r){W:World}(hb:Below w.heap.size w W):Calls prog fid (#[MT x]++caps) W fun e w'=>e=.returned (.bool r)∧Below W.heap.size W w':=by subst hq;exact h x hx W hb
def NV{α:Type}(q:α→Bool)(l:List α)(r:Int):Prop:=(r=-1∧l.any q=false)∨∃(k:Nat) (x:α),r=(k:Int)∧l[k]?=some x∧q x=true∧(l.take k).any q=false
theorem NV.any{α:Type}{q:α→Bool}{l:List α}{r:Int}(h:NV q l r):l.any q=decide (0≤r):=by
 rcases h with⟨rfl,h⟩|⟨k,x,rfl,hx,hq,_⟩
 ·rw [h];rfl
 ·rw [FU hx hq];simp
def IF(fid:FuncId)(caps:Array Value)(B:Nat)(w:World)(l:List AB)(q:AB→Bool):Prop:=∀x∈l,∀W,Below B w W→Calls prog fid (#[MT x]++caps) W fun e w'=>e=.returned (.bool (q x))∧Below W.heap.size W w'
theorem IF.a{fid:FuncId}{caps:Array Value}{B:Nat}{w w':World}{l:List AB}{q:AB→Bool}(h:IF fid caps B w l q)(hb:Below B w w')(hB:B≤w'.heap.size):NY fid caps w' l q:=fun x hx W hW=>h x hx W (hb.trans (hW.mono hB))
theorem IF.is{fid:FuncId}{caps:Array Value}{B:Nat}{w:World}{l:List AB}{q:AB→Bool}(h:IF fid caps B w l q){x:AB}(hx:x∈l){r:Bool}(hq:q x=r){W:World}(hb:Below B w W):Calls prog fid (#[MT x]++caps) W fun e w'=>e=.returned (.bool r)∧Below W.heap.size W w':=by subst hq;exact h x hx W hb
theorem EB(fid:FuncId)(caps:Array Value)(q:AB→Bool)(ag:DJ fid)(p:Option Addr)(n cap:Nat)(l:List AB)(w:World)(hn:l.length=n)(hm:n≤9223372036854775807)(hr:Cm w p l)(hf:NY fid caps w l q) :
 Calls prog 217 #[.slice p n cap,.func (.func fid) #[] caps] w fun e w'=>(∃r:Int,e=.returned (.int .i64 r)∧NV q l r)∧Below w.heap.size w w':=by
 unfold DJ at ag
 have HR:=AA hr
 have HN:=AA hn
 have HF:=AA hf
 clear hr hn hf
 go_enter func217,ntmps217
 go_wp2_with fail
 go_loopw [5,8] (fun _ i wr=>∃k:Nat,k≤n∧i=.int .i64 k∧(l.take k).any q=false∧Below w.heap.size w wr) (fun _ i _=>n-(intOf i).toNat)
 case atStart=>exact⟨0,by omega,rfl,by simp,Below.refl _ _⟩
 case round=>
  obtain⟨k,hk,rfl,aw,hb⟩:=hrel;have a8:=AA aw;have HB:=AA hb;clear aw hb;by_cases aG:k<n
  ·obtain⟨x,hx⟩:=Ac (l:=l) (j:=k) (by rw [HN.o];exact aG);have HE:=AA hx;obtain⟨b,o,rfl,al,d0,d1,d2⟩:=Cm.atom (HR.o.below HB.o) hx;clear hx al;cases hq:q x
   ·have HQ:=AA hq;clear hq;go_wp2_with fail;refine(HF.o.is (List.mem_of_getElem? HE.o) HQ.o HB.o).mono ?_;rintro e w1 ⟨rfl,hb⟩;have aO:=bt HB hb;clear hb;clear d0 d1 d2;go_wp2_with fail;go_roundw
    case rel=>exact⟨k+1,by omega,by go_num,by rw [BF HE.o,a8.o,HQ.o];rfl,aO.o⟩
    case measure=>simp [intOf];omega
   ·have HQ:=AA hq;clear hq;go_wp2_with fail;refine(HF.o.is (List.mem_of_getElem? HE.o) HQ.o HB.o).mono ?_;rintro e w1 ⟨rfl,hb⟩;have aO:=bt HB hb;clear hb;clear d0 d1 d2;go_wp2_with fail;go_ret;exact⟨⟨k,rfl,.inr ⟨k,x,rfl,HE.o,HQ.o,a8.o⟩⟩,aO.o⟩
  ·go_wp2_with fail;go_ret;have h:=a8.o;rw [AY (by rw [HN.o];omega)] at h;exact⟨⟨-1,rfl,.inl ⟨rfl,h⟩⟩,HB.o⟩
theorem Hh(fid:FuncId)(caps:Array Value)(q:AB→Bool)(ag:DJ fid)(p:Option Addr)(n cap:Nat)(l:List AB)(w:World)(hn:l.length=n)(hm:n≤9223372036854775807)(hr:Cm w p l)(hf:NY fid caps w l q) :
 Calls prog 187 #[.slice p n cap,.func (.func fid) #[] caps] w (RB w (.bool (l.any q))):=by
 have hc:Calls prog 217 #[.slice p n cap,.func (.func fid) #[] caps] w fun e w'=>
  (∃r:Int,e=.returned (.int .i64 r)∧l.any q=decide (0≤r))∧Below w.heap.size w w':=
  (EB fid caps q ag p n cap l w hn hm hr hf).mono fun _ _ ⟨⟨r,he,hr⟩,hb⟩=>⟨⟨r,he,hr.any⟩,hb⟩
 generalize l.any q=r at hc ⊢
 clear hr hn hf ag
 go_enter func187,ntmps187
 go_wp2_with fail
 refine hc.mono ?_
 rintro e w1 ⟨⟨r,rfl,hr⟩,hb⟩
 have HR:=AA hr
 have HB:=AA hb
 clear hr hb hc
 go_wp2_with fail
 go_ret
 exact⟨AE HR.o.symm,HB.o⟩
end Go.Proofs.YtkdjnegfnhldpaaGreatDoor
