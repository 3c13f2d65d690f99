/- Part 09. -/
import Derived.Maps.AppendAt
import Derived.Deep.AppendLies
import Derived.Test.YtkdjnegfnhldpaaGreatDoorK08
set_option linter.unusedVariables false
set_option maxRecDepth 100000
set_option linter.unusedSimpArgs false
set_option maxHeartbeats 40000000
namespace Go.Proofs.YtkdjnegfnhldpaaGreatDoor
open Go.Proofs.Tryz Go.RowKit
def C4(l:List PT):Nat:=(l.map AG.size).sum
theorem NM{l:List PT}{k:Nat}{x:PT}(h:l[k]?=some x):C4 (l.take (k+1))=C4 (l.take k)+x.size∧C4 (l.take k)+x.size≤C4 l:=Fi AG.size l k x h
theorem GG(t:PT):C4 t.kids+1=t.size:=by obtain⟨a,l⟩:=t;rw [AG.size_node];show C4 l+1=_;unfold C4;omega
def RQ(x:PT)(W:World):Prop:=Calls prog 65 #[.slice x.head.kp x.head.kn x.head.kc] W fun e w'=>e=.returned (.int .i64 (C4 x.kids))∧Below W.heap.size W w'
theorem JM{p:Option Addr}{n cap:Nat}{l:List PT}{w:World}(hr:Da w p n cap l)(hs:C4 l≤1000000)(hf:∀x∈l,∀W,Below w.heap.size w W→RQ x W):Calls prog 65 #[.slice p n cap] w (RB w (.int .i64 (C4 l))):=by
 have hm:=hr.row.max;have HR:=AA hr;have HF:=AA hf;have HS:=AA hs;clear hr hf hs;go_enter func65,ntmps65;go_wp2_with fail;go_loopw [3,5,8] (fun s _ i wr=>∃k S:Nat,k≤n∧i=.int .i64 k∧C4 (l.take k)=S∧S≤1000000∧s=.int .i64 S∧Below w.heap.size w wr) (fun _ _ i _=>n-(intOf i).toNat)
 case atStart=>exact⟨0,0,by omega,rfl,rfl,by omega,rfl,Below.refl _ _⟩
 case round=>
  obtain⟨k,S,hk,rfl,hS,o6,rfl,hb⟩:=hrel;have HSk:=AA hS;have HB:=AA hb;clear hS hb;by_cases aF:k<n
  ·obtain⟨x,hx⟩:=HR.o.at (j:=k) aF;have HE:=AA hx;obtain⟨b,o,rfl,aP,d0,d1,d2,d3⟩:=(HR.o.below HB.o).kid hx;have cj:=AA (NM hx);have kT:=AA (GG x);have bz:S+x.size≤1000000:=by have:=cj.o.2;have:=HS.o;have:=HSk.o;omega
   have bQ:C4 x.kids≤1000000:=by have:=kT.o;omega
   have gT:=HB.o.size;clear hx aP;go_wp2_with fail;refine(HF.o x (List.mem_of_getElem? HE.o) _ (HB.o.alloc gT _)).mono ?_;rintro e w1 ⟨rfl,hb⟩;have aJ:=AA ((HB.o.alloc gT (.cells #[.int .u8 x.head.kind,.int .i64 x.head.rho,.slice x.head.ep x.head.en x.head.ec,.slice x.head.kp x.head.kn x.head.kc] 28)).trans (hb.mono (by simp;omega)));clear hb d0 d1 d2 d3;generalize hz:C4 x.kids=z at *
   have tu:S+z≤1000000:=by have:=kT.o;omega
   have oj:Hd (z+1=x.size):=kT.o;have tT:=AA hz;clear hz;go_wp2_with fail;go_roundw
   case rel=>exact⟨k+1,S+x.size,by omega,by go_num,by have:=cj.o.1;have:=HSk.o;omega,bz,by have:=oj.o;rw [show ((S+x.size:Nat):Int)=(S:Int)+((1:Int)+(z:Int)) by omega],aJ.o⟩
   case measure=>simp [intOf];omega
  ·have ao:k=n:=by omega
   subst ao;go_wp2_with fail;go_ret;have h:=HSk.o;rw [AP (by rw [HR.o.row.len];omega)] at h;subst h;exact⟨rfl,HB.o⟩
theorem SJ(t:PT):∀w,LR.lies w t→t.size≤1000000→RQ t w:=by
 refine AG.ind (P:=fun(t:PT)=>∀w,LR.lies w t→t.size≤1000000→RQ t w) (fun a l ih=>?_) t;intro w hl hs;have HN:=BD hl;have hk:C4 l+1=(AG.node a l).size:=GG (.node a l)
 exact JM (l:=l) HN.rowT (by omega) (fun x hx W hW=>ih x hx W (LR.lies_below hW x (HN.each x hx)) (by
  have h2:x.size≤C4 l:=BN (List.mem_map_of_mem hx);omega))
theorem NE{p:Option Addr}{n cap:Nat}{l:List PT}{w:World}(hr:Da w p n cap l)(hs:C4 l≤1000000):Calls prog 65 #[.slice p n cap] w (RB w (.int .i64 (C4 l))):=
 JM hr hs (fun x hx W hW=>SJ x W (LR.lies_below hW x (hr.each x hx)) (by
  have:x.size≤C4 l:=BN (List.mem_map_of_mem hx);omega))
theorem M9(t:PT):∀w,LR.lies w t→t.size≤1000000→Calls prog 27 #[Ci t.head] w (RB w (.int .i64 t.size)):=by
 refine AG.ind (P:=fun(t:PT)=>∀w,LR.lies w t→t.size≤1000000→Calls prog 27 #[Ci t.head] w fun e w'=>e=.returned (.int .i64 t.size)∧Below w.heap.size w w') (fun a l ih=>?_) t;intro w hl hs;have HN:=AA (BD hl);have IH:=AA ih;have kT:=AA (GG (.node a l));change Hd (C4 l+1=(AG.node a l).size) at kT;generalize hz:(AG.node a l).size=z at *
 have HZ:=AA hz;have dr:=HN.o.own.kmax;have bh:(w.alloc (.cells #[.int .u8 a.kind,.int .i64 a.rho,.slice a.ep a.en a.ec,.slice a.kp a.kn a.kc] 28)).cell? ⟨w.heap.size,3,none⟩=some (.slice a.kp a.kn a.kc):=by rw [AR];rfl
 have aE:=AA ((Below.refl w.heap.size w).alloc (Nat.le_refl _) (.cells #[.int .u8 a.kind,.int .i64 a.rho,.slice a.ep a.en a.ec,.slice a.kp a.kn a.kc] 28));have bL:=AA (HN.o.alloc (.cells #[.int .u8 a.kind,.int .i64 a.rho,.slice a.ep a.en a.ec,.slice a.kp a.kn a.kc] 28));show Calls _ _ #[Ci a] w _;clear hl ih hz;obtain⟨kd,rr,ep,en,ec,eff,kp,kn,kc⟩:=a;simp only at dr bh aE bL;go_enter func27,ntmps27;go_wp2_with fail;generalize w.alloc (.cells #[.int .u8 kd,.int .i64 rr,.slice ep en ec,.slice kp kn kc] 28)=W at *
 have eo:Hd (∀wr,Below W.heap.size W wr→wr.cell? ⟨w.heap.size,3,none⟩=some (.slice kp kn kc)):=fun wr hb=>by rw [hb.cell (An bh)];exact bh
 clear bh;go_loopw [3,4,8] (fun s _ i wr=>∃k S:Nat,k≤kn∧i=.int .i64 k∧C4 (l.take k)+1=S∧S≤1000000∧s=.int .i64 S∧Below W.heap.size W wr) (fun _ _ i _=>kn-(intOf i).toNat)
 case atStart=>exact⟨0,1,by omega,rfl,rfl,by omega,rfl,Below.refl _ _⟩
 case round=>
  obtain⟨k,S,hk,rfl,hS,o6,rfl,hb⟩:=hrel;have HSk:=AA hS;have HB:=AA hb;clear hS hb;have bh:=eo.o wr HB.o;by_cases aF:k<kn
  ·obtain⟨x,hx⟩:=bL.o.rowT.at (j:=k) aF;have HE:=AA hx;obtain⟨b,o,bF,aP,d0,d1,d2,d3⟩:=(bL.o.rowT.below HB.o).kid hx;simp only at bF;subst bF;have HX:=AA ((bL.o.rowT.below HB.o).lies hx);have cj:=AA (NM hx);have bz:S+x.size≤1000000:=by have:=cj.o.2;have:=kT.o;have:=HSk.o;omega
   clear hx aP;go_wp2_with fail;refine(IH.out x (List.mem_of_getElem? HE.o) wr HX.o (by omega)).mono ?_;rintro e w1 ⟨rfl,hb⟩;have aJ:=bt HB hb;clear hb d0 d1 d2 d3 bh;generalize nL:x.size=xz at *
   have lS:=AA nL;clear nL;go_wp2_with fail;go_roundw
   case rel=>exact⟨k+1,S+xz,by omega,by go_num,by have:=cj.o.1;have:=HSk.o;omega,bz,by go_num,aJ.o⟩
   case measure=>simp [intOf];omega
  ·have ao:k=kn:=by omega
   subst ao;go_wp2_with fail;go_ret;have h:=HSk.o;rw [AP (by have:=bL.o.kids.len;simp only at this;omega)] at h;have hz:S=z:=by have:=kT.o;omega
   subst hz;exact⟨rfl,aE.o.trans (HB.o.mono aE.o.size)⟩
section
theorem BC{P:Program}{α:Type}{ops:Array Oper}{o:Oper}{a:Act}{K:Act→World→Prop}{Q:Exit→Act→World→Prop}{E:Prop}(au:o.guard=none)(s x:Operand)(t:TypeId)(ho:o.op=.call { callee:=.builtin .append,args:=#[s,x],argTypes:=#[t,t] })(base:Nat)(e:TypeId)(z:Value)(k bytes:Nat)(ht:P.underlying t=some (.slice e))(bd:(P.info? e).map (fun i=>(i.zero,i.size,i.bytes))=some (some z,k,bytes))(fK:z.cells.size=k)(aU:0<k)(enc:α→List Value)(hk:∀x,(enc x).length=k)(h1:∀y,∀u∈enc y,u.oneCell'=true)(l' l:List α)(n:Nat){w:World}(v:Value)(aB:AJ enc k w base e v n l)(p:Option Addr)(m c:Nat)(hs:a.eval s=v)(hx:a.eval x=.slice p m c)(hl:l'.length=m)(hp:p=none→c=0)(hr:Au enc k w p l')(aj:(n+m) * bytes≤140737488355328)(gz:n+m≤9223372036854775807)(cm:base≤w.heap.size)(h:∀v' w',AJ enc k w' base e v' (n+m) (l++l')→w.grownBy w' v.ownBlock→(∀b,b<w.heap.size→v'.ownBlock=some b→v.ownBlock=some b)→K (a.put o.dst v') w'):if Region.wanted o (yielded ops a.tmps)=true then Oper.wp P o a w K Q else E:=by
 have hw:Region.wanted o (yielded ops a.tmps)=true:=by simp [Region.wanted,au]
 rw [if_pos hw];obtain⟨i,hi,hz,cH,gL⟩:=info_parts bd;rcases p with _|ad
 ·have ia:l'=[]:=by
   rcases hr with h|⟨_,_,h,_⟩
   ·exact h
   ·cases h
  subst ia;obtain rfl:m=0:=by simpa using hl.symm
  obtain rfl:=hp rfl;have cW:=run_append_owned_none (P:=P) (w:=w) base t o.type e i k ht hi v n _ aB;have:=h v w (by simpa using aB) (World.grownBy.refl _ _) (fun b _ h=>h);unfold Oper.wp execOp;simp only [ho,resolve,invoke,builtin,Sem.run_bind,Sem.run_pure,Result.andThen_ok,List.map_toArray,List.map_cons,List.map_nil,hs,hx,cW];exact this
 ·obtain⟨v',w',cW,h2,h3,h4,h5⟩:=run_append_own_at (P:=P) w base t o.type e i z k bytes ht hi hz cH gL fK aU v n _ aB ad m c (l'.flatMap enc) (by rw [Ao hk,hl]) (by
   intro j u hj;rcases hr with h0|⟨b,o',hb,aF,hc⟩
   ·subst h0;simp at hj
   ·cases hb
    have iZ:j<l'.length * k:=by rw [←Ao hk];exact Bh hj
    have hq:j / k<l'.length:=Nat.div_lt_of_lt_mul (by rw [Nat.mul_comm];exact iZ);have hm:j % k<k:=Nat.mod_lt _ aU;have hf:=DN hk l' (j / k) _ (j % k) (List.getElem?_eq_getElem hq) hm;rw [Nat.div_add_mod' j k,hj] at hf;have:=hc (j / k) _ (List.getElem?_eq_getElem hq) (j % k) u hf.symm;rw [FA,←Nat.div_add_mod' j k,←Nat.add_assoc];exact this) (by
   intro u hu;obtain⟨y,_,hy⟩:=List.mem_flatMap.1 hu;exact h1 y u hy) (by unfold maxLen;omega) aj cm
  unfold Oper.wp execOp;simp only [ho,resolve,invoke,builtin,Sem.run_bind,Sem.run_pure,Result.andThen_ok,List.map_toArray,List.map_cons,List.map_nil,hs,hx,cW];refine h v' w' (by unfold AJ;rw [List.flatMap_append];exact h2) h3 (fun b hb hv=>?_);rcases h5 with h5|h5
  ·rw [←h5];exact hv
  ·rw [h5] at hv;cases hv;omega
theorem Ta{w0 w:World}{r:Option Nat}(h:w0.grownBy w r):w0.grownBy w.drew r:=⟨h.os,h.tape,h.output,h.size,h.block⟩
theorem Rq{w0 w:World}{r:Option Nat}(h:w0.grownBy w r)(o:Obj):w0.grownBy (w.alloc o) r:=⟨h.os,h.tape,h.output,Nat.le_trans h.size (by simp),fun k hk aS=>(Below.heap_alloc w o k (by have:=h.size;omega)).trans (h.block k hk aS)⟩
theorem Rr{w0 w w':World}{r:Option Nat}(h:w0.grownBy w r)(hb:Below w.heap.size w w'):w0.grownBy w' r:=⟨hb.os.trans h.os,hb.tape.trans h.tape,hb.output.trans h.output,Nat.le_trans h.size hb.size,fun k hk aS=>(hb.block k (by have:=h.size;omega)).trans (h.block k hk aS)⟩
theorem D1{w0 w w':World}{r r':Option Nat}(h:w0.grownBy w r)(hg:w.grownBy w' r')(hr:∀b,b<w0.heap.size→r'=some b→r=some b):w0.grownBy w' r:=⟨hg.os.trans h.os,hg.tape.trans h.tape,hg.output.trans h.output,Nat.le_trans h.size hg.size,fun k hk aS=>(hg.block k (by have:=h.size;omega) (fun e=>aS (hr k hk e.symm).symm)).trans (h.block k hk aS)⟩
theorem Em{w0 w:World}{r:Option Nat}{a:Addr}{u:Value}(h:w0.grownBy w r)(aS:r≠some a.block)(hc:w0.cell? a=some u):w.cell? a=some u:=by have hb:=h.block a.block (An hc) aS.symm;unfold World.cell? at hc ⊢;rw [hb];exact hc
theorem En{w0 w:World}{r:Option Nat}{B:Nat}(h:w0.grownBy w r)(hB:B≤w0.heap.size)(hr:∀b,r=some b→B≤b):Below B w0 w:=⟨h.os,h.tape,h.output,h.size,fun k hk=>h.block k (by omega) (fun e=>by have:=hr k e.symm;omega)⟩
theorem AJ.from{α:Type}{enc:α→List Value}{k:Nat}{w:World}{base e n:Nat}{v:Value}{l:List α}(h:AJ enc k w base e v n l):∀b,v.ownBlock=some b→base≤b:=fun b hb=>(World.ownsRow.lt h b hb).1
theorem AJ.under{α:Type}{enc:α→List Value}{k:Nat}{w:World}{base e n:Nat}{v:Value}{l:List α}(h:AJ enc k w base e v n l):∀b,v.ownBlock=some b→b<w.heap.size:=fun b hb=>(World.ownsRow.lt h b hb).2
end
section
open Go.Sort Go.Lib
def IW(a:LH):List Int:=if a.kind=1 then [] else a.rho::BQ a.eff
def By:RT→List Int:=AG.fold (fun a l=>IW a++l.flatten)
theorem Mh(a:LH)(l:List RT):By (.node a l)=IW a++l.flatMap By:=by show AG.fold _ _=_;rw [AG.fold_node,List.flatMap_def];rfl
def AY(l:List PT):List Int:=l.flatMap (fun t=>By t.er)
theorem Jd(x:PT):By x.er=IW x.head.plain++AY x.kids:=by obtain⟨a,l⟩:=x;rw [PT.er_node,Mh,List.flatMap_map];rfl
theorem Mg{l:List PT}{k:Nat}{x:PT}(h:l[k]?=some x):AY (l.take (k+1))=AY (l.take k)++(IW x.head.plain++AY x.kids):=by unfold AY;rw [AI h,List.flatMap_append,List.flatMap_singleton,Jd];rfl
theorem OJ{l:List PT}{x:PT}(h:x∈l):(AY x.kids).length≤(AY l).length:=by
 have h1:(By x.er).length≤(AY l).length:=by unfold AY;rw [List.length_flatMap];exact BN (List.mem_map_of_mem (f:=fun t=>(By (PT.er t)).length) h)
 rw [Jd,List.length_append] at h1;omega
theorem TY{l:List PT}{k:Nat}{x:PT}(h:l[k]?=some x):(AY (l.take k)).length+((IW x.head.plain).length+(AY x.kids).length)≤(AY l).length:=by
 have h1:=Mg h;have h2:AY l=AY (l.take (k+1))++AY (l.drop (k+1)):=by unfold AY;rw [←List.flatMap_append,List.take_append_drop]
 rw [h2,h1];simp only [List.length_append];omega
def Wl(n:Nat)(l:List PT):Prop:=∀x∈l,x.head.en≤n
def RL(x:PT)(W:World):Prop:=Calls prog 185 #[.slice x.head.kp x.head.kn x.head.kc] W fun e w'=>∃v,e=.returned v∧AJ Ab 1 w' W.heap.size 3 v (AY x.kids).length (AY x.kids)∧Below W.heap.size W w'
theorem Lg{b o:Nat}{ep:Option Addr}{en ec:Nat}{eff:List AD}{w:World}(hc:w.cell? ⟨b,o,none⟩=some (.slice ep en ec))(hr:AE AS 3 w ep en ec eff)(hm:en≤1000000):Calls prog 132 #[.slice (some ⟨b,o,none⟩) 1 1] w fun e w'=>∃q m c,e=.returned (.slice q m c)∧m≤1000000∧AE Ab 1 w' q m c (BQ eff)∧Below w.heap.size w w':=by
 have h:=FN (some ⟨b,o,none⟩) 1 1 [⟨ep,en,ec,eff⟩] w rfl (by omega) (.inr ⟨b,o,rfl,An hc,fun j x hx i u hi=>by
  rcases j with _|j
  ·simp at hx;subst hx;rcases i with _|i
   ·simp [Fy] at hi;subst hi;simpa using hc
   ·simp [Fy] at hi
  ·simp at hx⟩) (fun r aT=>by
   have:r=⟨ep,en,ec,eff⟩:=by simpa using aT
   subst this;exact⟨hr.len,hr.le,hr.nil,hr.row⟩) (by simpa using hm)
 simpa using h
theorem A5{α:Type}{enc:α→List Value}{k:Nat}{w:World}{base e n:Nat}{v:Value}{l:List α}(h:AJ enc k w base e v n l)(o:Obj):AJ enc k (w.alloc o) base e v n l:=h.below ((Below.refl _ w).alloc (Nat.le_refl _) o)
theorem VG{w:World}{b:Nat}{y:Int}(h:w.cell? ⟨b,0,none⟩=some (.int .i64 y)):Au Ab 1 w (some ⟨b,0,none⟩) [y]:=
 .inr ⟨b,0,rfl,An h,fun j x hx i u hi=>by
  rcases j with _|j
  ·simp at hx;subst hx;rcases i with _|i
   ·simp [Ab] at hi;subst hi;simpa using h
   ·simp [Ab] at hi
  ·simp at hx⟩
theorem Hn{p:Option Addr}{n cap:Nat}{l:List PT}{w:World}(hr:Da w p n cap l)(hs:(AY l).length≤1000000)(he:Wl 1000000 l)(hf:∀x∈l,∀W,Below w.heap.size w W→RL x W):Calls prog 185 #[.slice p n cap] w fun e w'=>∃v,e=.returned v∧AJ Ab 1 w' w.heap.size 3 v (AY l).length (AY l)∧Below w.heap.size w w':=by
 have hm:=hr.row.max;have HR:=AA hr;have HF:=AA hf;have HS:=AA hs;have rJ:=AA he;clear hr hf hs he;go_enter func185,ntmps185;go_wp2_with fail;go_loopw [3,5,8] (fun u _ i wr=>∃(k m:Nat) (v0:Value),k≤n∧i=.int .i64 k∧v0=u∧AJ Ab 1 wr w.heap.size 3 v0 m (AY (l.take k))∧Below w.heap.size w wr) (fun _ _ i _=>n-(intOf i).toNat)
 case atStart=>exact⟨0,0,_,by omega,rfl,rfl,AJ.nil _ _ _ _ _,Below.refl _ _⟩
 case round=>
  obtain⟨k,m,v0,hk,rfl,rfl,aB,hb⟩:=hrel;have mo:=aB.len Ag (by omega);have aO:=AA aB;have HB:=AA hb;clear aB hb;by_cases aF:k<n
  ·obtain⟨x,hx⟩:=HR.o.at (j:=k) aF;have HE:=AA hx;obtain⟨b,o,rfl,aP,d0,d1,d2,d3⟩:=(HR.o.below HB.o).kid hx;have et:Hd (m+((IW x.head.plain).length+(AY x.kids).length)≤1000000):=by have h1:=TY hx;have h2:=HS.o;show _≤_;omega
   have HT:=AA (Mg hx);have HN:=AA (BD ((AG.eta x)▸HR.o.lies hx));have gT:=HB.o.size;clear hx aP mo;by_cases h1:x.head.kind=1
   ·have bz:(x.head.kind != 1)=false:=by simp [h1]
    have om:Hd (AY (l.take (k+1))=AY (l.take k)++AY x.kids):=by show _=_;rw [HT.o];simp [IW,RH.plain,h1]
    clear h1;go_wp2_with fail;refine(HF.o x (List.mem_of_getElem? HE.o) _ (HB.o.alloc gT _)).mono ?_;rintro e w5 ⟨v5,rfl,aI,hb⟩;have aw:=AA ((HB.o.alloc gT _).trans (hb.mono (HB.o.alloc gT _).size));have HV:=AA (AJ.below (A5 aO.o _) hb);obtain⟨q5,c5,rfl,aQ⟩:=aI.isRow Ag (by omega);have bN:=AA aQ;clear hb aI aQ;go_wp2_with (at_builtin;refine Cj rfl _ _ 24 rfl w.heap.size 3 _ 1 8 underlying24 F9 rfl (by decide) Ab Ag Co (AY x.kids) _ _ _ HV.o _ _ _ rfl rfl bN.o.len bN.o.nil bN.o.row ?c1 ?c2 ?c3 ?_)
    case c1=>have:=et.o;omega
    case c2=>have:=et.o;omega
    case c3=>exact aw.o.size
    ·intro v6 w6 aM bV;have fQ:=AA aM;have fm:=AA (Below.own aw.o bV aw.o.size HV.o);clear aM bV;go_wp2_with fail;go_roundw
     case rel=>exact⟨k+1,_,_,by omega,by go_num,rfl,(by rw [om.o];exact fQ.o),fm.o⟩
     case measure=>simp [intOf];omega
   ·have bz:(x.head.kind != 1)=true:=by simpa using h1
    have kP:Hd ((IW x.head.plain).length=1+(BQ x.head.eff).length):=by show _=_;simp [IW,RH.plain,h1];omega
    have om:Hd (AY (l.take (k+1))=AY (l.take k)++x.head.rho::(BQ x.head.eff++AY x.kids)):=by show _=_;rw [HT.o];simp [IW,RH.plain,h1]
    clear h1;have nZ:=AA (AJ.under aO.o);have rL:=AA (AJ.from aO.o);have pY:(wr.alloc (.cells #[.int .u8 x.head.kind,.int .i64 x.head.rho,.slice x.head.ep x.head.en x.head.ec,.slice x.head.kp x.head.kn x.head.kc] 28)).heap.size=wr.heap.size+1:=by simp
    have e1:(wr.alloc (.cells #[.int .u8 x.head.kind,.int .i64 x.head.rho,.slice x.head.ep x.head.en x.head.ec,.slice x.head.kp x.head.kn x.head.kc] 28)).cell? ⟨wr.heap.size,1,none⟩=some (.int .i64 x.head.rho):=by rw [AR];rfl
    have e2:(wr.alloc (.cells #[.int .u8 x.head.kind,.int .i64 x.head.rho,.slice x.head.ep x.head.en x.head.ec,.slice x.head.kp x.head.kn x.head.kc] 28)).cell? ⟨wr.heap.size,2,none⟩=some (.slice x.head.ep x.head.en x.head.ec):=by rw [AR];rfl
    have e3:(wr.alloc (.cells #[.int .u8 x.head.kind,.int .i64 x.head.rho,.slice x.head.ep x.head.en x.head.ec,.slice x.head.kp x.head.kn x.head.kc] 28)).cell? ⟨wr.heap.size,3,none⟩=some (.slice x.head.kp x.head.kn x.head.kc):=by rw [AR];rfl
    have fq:=AA (A5 aO.o (.cells #[.int .u8 x.head.kind,.int .i64 x.head.rho,.slice x.head.ep x.head.en x.head.ec,.slice x.head.kp x.head.kn x.head.kc] 28));have ay:=AA (HB.o.alloc gT (.cells #[.int .u8 x.head.kind,.int .i64 x.head.rho,.slice x.head.ep x.head.en x.head.ec,.slice x.head.kp x.head.kn x.head.kc] 28));go_wp2_with fail;generalize wr.alloc (.cells #[.int .u8 x.head.kind,.int .i64 x.head.rho,.slice x.head.ep x.head.en x.head.ec,.slice x.head.kp x.head.kn x.head.kc] 28)=W0 at *
    have bx:Hd (∀W,W0.grownBy W v0.ownBlock→W.cell? ⟨wr.heap.size,1,none⟩=some (.int .i64 x.head.rho)∧W.cell? ⟨wr.heap.size,2,none⟩=some (.slice x.head.ep x.head.en x.head.ec)∧W0.grownBy W v0.ownBlock):=fun W hg=>⟨Em hg (fun h=>by have:=nZ.o _ h;simp at this) e1,Em hg (fun h=>by have:=nZ.o _ h;simp at this) e2,hg⟩;have nX:Hd (∀W,W0.grownBy W v0.ownBlock→W.cell? ⟨wr.heap.size,3,none⟩=some (.slice x.head.kp x.head.kn x.head.kc)∧Below w.heap.size w W):=fun W hg=>⟨Em hg (fun h=>by have:=nZ.o _ h;simp at this) e3,ay.o.trans (En hg (by omega) rL.o)⟩;have l0:Hd (∀b,W0.heap.size≤b→v0.ownBlock≠some b):=fun b hb h=>by have:=nZ.o _ h;omega
    have hX:m+1≤1000000:=by have:=et.o;rw [kP.o] at this;omega
    have dT:=AA (rJ.o x (List.mem_of_getElem? HE.o));clear e1 e2 e3 d0 d1 d2 d3
    go_region_held3 (fun W=>W.cell? ⟨wr.heap.size,1,none⟩=some (.int .i64 x.head.rho)∧W.cell? ⟨wr.heap.size,2,none⟩=some (.slice x.head.ep x.head.en x.head.ec)∧W0.grownBy W v0.ownBlock)
     (first
      |exact bx.o _ (Ta (World.grownBy.refl _ _))
      |exact bx.o _ (Rq (by go_split_ands;assumption) _)
      |exact bx.o _ (D1 (by go_split_ands;assumption) ea (fun b _ h=>h))
      |exact bx.o _ (D1 (by go_split_ands;assumption) a8 lV)
      |exact bx.o _ (Rr (by go_split_ands;assumption) bQ))
     (first
      |(
       go_at_call 132;refine(Lg (by first|(go_simp;done)|exact Em ea (l0.o _ (by first|omega|(simp;omega))) (by go_simp)) (HN.o.own.eff.below (nX.o _ (by go_split_ands;assumption)).2) dT.o).mono ?_;rintro e w2 ⟨q2,m2,c2,rfl,jC,dE,bQ⟩;have iq:w.heap.size≤w2.heap.size:=Nat.le_trans (nX.o _ (by go_split_ands;assumption)).2.size bQ.size)
      |(
       refine BC (by rfl) _ _ 24 (by rfl) w.heap.size 3 _ 1 8 underlying24 F9 rfl (by decide) Ab Ag Co [x.head.rho] _ _ v0 (by first|exact A5 (AJ.drew fq.o) _|exact A5 (A5 (AJ.drew fq.o) _) _) _ 1 _ (by rfl) (by rfl) rfl (by intro h;cases h) (VG (by go_simp)) (by omega) (by omega) (by simp;have:=ay.o.size;omega) ?_;intro v1 w1 ij ea mV;have lV:∀b,b<W0.heap.size→v1.ownBlock=some b→v0.ownBlock=some b:=fun b hb=>mV b (by simp;omega))
      |(
       refine BC (by rfl) _ _ 24 (by rfl) w.heap.size 3 _ 1 8 underlying24 F9 rfl (by decide) Ab Ag Co (BQ x.head.eff) _ _ v1 (by first|exact AJ.below ij bQ|exact AJ.below (A5 ij _) bQ) _ m2 _ (by rfl) (by rfl) dE.len dE.nil dE.row (by omega) (by omega) iq ?_;intro v3 w3 aX a8 gO))
    all_goals (
     have dI:W0.grownBy w3 v0.ownBlock:=by go_split_ands;assumption
     have bh:=(nX.o _ dI).1;have aV:=AA (nX.o _ dI).2;have gt:=AA aX;have ji:Hd (m+1+m2+(AY x.kids).length≤1000000):=by have h1:=et.o;have h2:=kP.o;have h3:=dE.len;show _≤_;omega
     clear dI ij ea lV mV dE bQ iq aX a8 gO jC pY hX)
    all_goals (
     go_wp2_with fail;refine(HF.o x (List.mem_of_getElem? HE.o) _ (aV.o)).mono ?_;rintro e w5 ⟨v5,rfl,aI,hb⟩;have aw:=AA ((aV.o).trans (hb.mono (aV.o).size));have HV:=AA (AJ.below (gt.o) hb);obtain⟨q5,c5,rfl,aQ⟩:=aI.isRow Ag (by omega);have bN:=AA aQ;clear hb aI aQ;go_wp2_with (at_builtin;refine Cj rfl _ _ 24 rfl w.heap.size 3 _ 1 8 underlying24 F9 rfl (by decide) Ab Ag Co (AY x.kids) _ _ _ HV.o _ _ _ rfl rfl bN.o.len bN.o.nil bN.o.row ?c1 ?c2 ?c3 ?_)
     case c1=>have:=ji.o;omega
     case c2=>have:=ji.o;omega
     case c3=>exact aw.o.size
     ·intro v6 w6 aM bV;have fQ:=AA aM;have fm:=AA (Below.own aw.o bV aw.o.size HV.o);clear aM bV;go_wp2_with fail;go_roundw
      case rel=>exact⟨k+1,_,_,by omega,by go_num,rfl,(by rw [om.o];exact fQ.o),fm.o⟩
      case measure=>simp [intOf];omega
     )
  ·have ao:k=n:=by omega
   subst ao;go_wp2_with fail;go_ret;have h:=aO.o;rw [AP (by rw [HR.o.row.len];omega)] at h;have hl:=h.len Ag (by omega);rw [←hl] at h;exact⟨_,rfl,h,HB.o⟩
theorem Rl(t:PT):∀w,LR.lies w t→(AY t.kids).length≤1000000→AG.all (fun a _=>decide (a.en≤1000000)) t=true→RL t w:=by
 refine AG.ind (P:=fun(t:PT)=>∀w,LR.lies w t→(AY t.kids).length≤1000000→AG.all (fun a _=>decide (a.en≤1000000)) t=true→RL t w) (fun a l ih=>?_) t;intro w hl hs he;have HN:=BD hl;rw [AG.all_node,Bool.and_eq_true,List.all_eq_true] at he
 exact Hn (l:=l) HN.rowT hs (fun x hx=>by
  have h:=he.2 x hx;obtain⟨b,m⟩:=x;rw [AG.all_node,Bool.and_eq_true] at h;simpa [AG.head] using h.1) (fun x hx W hW=>ih x hx W (LR.lies_below hW x (HN.each x hx)) (Nat.le_trans (OJ hx) hs) (he.2 x hx))
def Vx(l:List PT):Prop:=∀x∈l,AG.all (fun a _=>decide (a.en≤1000000)) x=true
theorem K3{p:Option Addr}{n cap:Nat}{l:List PT}{w:World}(hr:Da w p n cap l)(hs:(AY l).length≤1000000)(he:Vx l):Calls prog 185 #[.slice p n cap] w fun e w'=>∃v,e=.returned v∧AJ Ab 1 w' w.heap.size 3 v (AY l).length (AY l)∧Below w.heap.size w w':=
 Hn hr hs (fun x hx=>by
  have h:=he x hx;obtain⟨b,m⟩:=x;rw [AG.all_node,Bool.and_eq_true] at h;simpa [AG.head] using h.1) (fun x hx W hW=>Rl x W (LR.lies_below hW x (hr.each x hx)) (Nat.le_trans (OJ hx) hs) (he x hx))
theorem Ig{p:Option Addr}{n cap:Nat}{l:List PT}{w:World}(hr:Da w p n cap l)(hs:(AY l).length≤1000000)(he:Vx l):Calls prog 133 #[.slice p n cap] w fun e w'=>∃q m c,e=.returned (.slice q m c)∧m≤1000000∧AE Ab 1 w' q m c (Bv (AY l))∧Below w.heap.size w w':=by
 have HG:=AA (K3 hr hs he);have HS:=AA hs;clear hr hs he;generalize hL:AY l=L at *
 clear hL;go_enter func133,ntmps133;go_wp2_with fail;refine HG.o.mono ?_;rintro e w1 ⟨v,rfl,aB,hb⟩;have HO:=AA aB;have HB:=AA hb;clear hb;clear aB;rcases HO.o.split Ag (by omega) with⟨rfl,ia,ag⟩|⟨g,cp,rfl,kv,iU⟩
 ·have fp:=AA ag;clear ag ia;go_wp2_with fail;refine(slices_Sort_int_none none 0 _).mono ?_;rintro e w2 ⟨rfl,rfl⟩;go_wp2_with fail;refine(slices_Compact_int_empty none 0 _).mono ?_;rintro e w3 ⟨rfl,rfl⟩;go_wp2_with fail;go_ret;exact⟨none,0,0,rfl,by omega,by rw [fp.o];exact AE.none _ _ _,HB.o⟩
 ·go_wp2_with fail;refine(K4 g cp _ _ w.heap.size w1 HO.o (by have:=HS.o;omega)).mono ?_;rintro e w2 ⟨rfl,j2,ea⟩;have aJ:=AA (AJ.drop_base (enc:=Ab) (k:=1) ea iU HB.o HB.o.size);have dN:=AA j2;clear j2 ea;go_wp2_with fail;refine(Gs g cp _ _ w.heap.size w2 dN.o kv (by have:=HS.o;omega)).mono ?_;rintro e w3 ⟨m',rfl,co,gm,a8⟩;have aK:=AA (AJ.drop_base (enc:=Ab) (k:=1) a8 iU aJ.o aJ.o.size);rw [Fx] at gm;obtain⟨p',c',hv,aD⟩:=gm.isRow Ag (by omega);cases hv;have az:=AA aD;clear gm a8 aD;go_wp2_with fail;go_ret;exact⟨_,m',_,rfl,by have:=HS.o;omega,az.o,aK.o⟩
end
section
open Go.Sort Go.Lib
theorem IX{α:Type}{enc:α→List Value}{k:Nat}(hk:∀x,(enc x).length=k)(w:World)(base e:Nat)(l:List α)(n:Nat)(cs:Array Value)(am:cs=(l.flatMap enc).toArray)(hn:l.length=n)(hm:n≤maxLen)(hb:base≤w.heap.size):AJ enc k (w.alloc (.cells cs e)) base e (.slice (some ⟨w.heap.size,0,none⟩) n n) n l:=by subst am;refine⟨by rw [Ao hk,hn],.inr ⟨w.heap.size,n,_,rfl,hb,heap_alloc_new w _,Nat.le_refl _,hm,by simp [←hn];rw [←Ao hk];simp,?_⟩⟩;rw [←hn,←Ao hk];exact List.take_length
theorem Al{α:Type}{enc:α→List Value}{k:Nat}(hk:∀x,(enc x).length=k)(ba:0<k)(w:World)(e:Nat)(l:List α)(n:Nat)(cs:Array Value)(am:cs=(l.flatMap enc).toArray)(hn:l.length=n)(hm:n≤maxLen):AE enc k (w.alloc (.cells cs e)) (some ⟨w.heap.size,0,none⟩) n n l:=by obtain⟨p,cap,hv,hr⟩:=(IX hk w 0 e l n cs am hn hm (Nat.zero_le _)).isRow hk ba;cases hv;exact hr
theorem AK{w0 w w':World}(h:Below w0.heap.size w0 w)(hb:Below w.heap.size w w'):Below w0.heap.size w0 w':=h.trans (hb.mono h.size)
theorem AQ{w0 w:World}(h:Below w0.heap.size w0 w)(o:Obj):Below w0.heap.size w0 (w.alloc o):=h.alloc h.size o
theorem AC(w0:World):Below w0.heap.size w0 w0.drew:=⟨rfl,rfl,rfl,Nat.le_refl _,fun _ _=>rfl⟩
theorem Dg{l:List AD}(h:BU l=false):l.length≤100:=by unfold BU at h;simp only [Bool.or_eq_false_iff,decide_eq_false_iff_not] at h;omega
end
section
open Go.Sort Go.Lib
theorem Ev{w:World}{t:PT}(hl:LR.lies w t)(e:Nat):Da (w.alloc (.cells #[.int .u8 t.head.kind,.int .i64 t.head.rho,.slice t.head.ep t.head.en t.head.ec,.slice t.head.kp t.head.kn t.head.kc] e)) (some ⟨w.heap.size,0,none⟩) 1 1 [t]:=by
 refine⟨Al Hi (by omega) w e [t] 1 _ ?_ rfl (by decide),fun x hx=>?_⟩
 ·simp [Sb,Ma]
 ·have:x=t:=by simpa using hx
  subst this;exact LR.lies_below ((Below.refl _ w).alloc (Nat.le_refl _) _) x hl
theorem Ny{w:World}{t:PT}(hl:LR.lies w t){r:Bool}(hr:BF t.er=r)(ty:Nat){g:Nat}(bn:w.heap.size=g):Calls prog 129 #[.slice (some ⟨g,0,none⟩) 1 1] (w.alloc (.cells #[.int .u8 t.head.kind,.int .i64 t.head.rho,.slice t.head.ep t.head.en t.head.ec,.slice t.head.kp t.head.kn t.head.kc] ty)) fun e w'=>e=.returned (.bool r)∧Below (w.heap.size+1) (w.alloc (.cells #[.int .u8 t.head.kind,.int .i64 t.head.rho,.slice t.head.ep t.head.en t.head.ec,.slice t.head.kp t.head.kn t.head.kc] ty)) w':=by subst hr;subst bn;have h:=Nx (Ev hl ty);refine h.mono ?_;rintro e w' ⟨rfl,hb⟩;exact⟨by simp,by simpa using hb⟩
end
section
open Go.Sort Go.Lib
theorem NO{α:Type}(f g:α→Nat)(k:Nat):∀l:List α,(∀x∈l,f x≤k * g x)→(l.map f).sum≤k * (l.map g).sum
 |[],_=>by simp
 |x::l,h=>by have h1:=h x (List.mem_cons_self ..);have h2:=NO f g k l (fun y hy=>h y (List.mem_cons_of_mem _ hy));simp only [List.map_cons,List.sum_cons,Nat.mul_add];omega
theorem WE(a:LH)(h:BU a.eff=false):(IW a).length≤101:=by
 unfold IW;have h1:=Nw a.eff;have h2:=Dg h;split
 ·simp
 ·simp only [List.length_cons];omega
theorem C5(t:RT):BG t=true→(By t).length≤101 * t.size:=by refine AG.ind (P:=fun t=>BG t=true→(By t).length≤101 * t.size) (fun a l ih h=>?_) t;rw [Bi,Bool.and_eq_true,List.all_eq_true] at h;rw [Mh,List.length_append,AG.size_node,List.length_flatMap];have h1:=WE a (by simpa using h.1);have h2:=NO (fun t=>(By t).length) AG.size 101 l (fun x hx=>ih x hx (h.2 x hx));omega
theorem MZ(t:PT){w:World}:LR.lies w t→BG t.er=true→AG.all (fun a _=>decide (a.en≤1000000)) t=true:=by refine AG.ind (P:=fun(t:PT)=>LR.lies w t→BG t.er=true→AG.all (fun a _=>decide (a.en≤1000000)) t=true) (fun a l ih hl h=>?_) t;have HN:=BD hl;rw [PT.er_node,Bi,Bool.and_eq_true,List.all_map,List.all_eq_true] at h;rw [AG.all_node,Bool.and_eq_true,List.all_eq_true];refine⟨?_,fun x hx=>ih x hx (HN.each x hx) (h.2 x hx)⟩;have h1:=Dg (show BU a.eff=false by simpa [RH.plain] using h.1);have h2:=HN.own.eff.len;simp;omega
theorem EW(t:PT):t.er.size=t.size:=AG.size_map _ t
end
end Go.Proofs.YtkdjnegfnhldpaaGreatDoor
