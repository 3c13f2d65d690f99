/- Part 05. -/
import Derived.Maps.AppendAt
import Derived.Deep.AppendLies
import Derived.Deep.RegionLaw
import Derived.Test.YtkdjnegfnhldpaaGreatDoorK04
set_option linter.unusedVariables false
set_option maxRecDepth 100000
set_option linter.unusedSimpArgs false
set_option maxHeartbeats 40000000
set_option autoImplicit true
set_option relaxedAutoImplicit true
namespace Go.Proofs.YtkdjnegfnhldpaaGreatDoor
open Go.Proofs.Tryz Go.RowKit
section
theorem CB(bM:o.guard=none)(s x:Operand)(t:TypeId)(ho:o.op=.call { callee:=.builtin .append,args:=#[s,x],argTypes:=#[t,t] })(base:Nat)(e:TypeId)(z:Value)(k bytes:Nat)(ht:P.underlying t=some (.slice e))(ct:(P.info? e).map (fun i=>(i.zero,i.size,i.bytes))=some (some z,k,bytes))(iz:z.cells.size=k)(aI:0<k)(enc:α->List Value)(hk:∀x,(enc x).length=k)(h1:∀y,∀u∈enc y,u.oneCell'=true)(l' l:List α)(n:Nat)(v:Value)(aD:A1 enc k w base e v n l)(p:Option Addr)(m c:Nat)(hs:a.eval s=v)(hx:a.eval x=.slice p m c)(hl:l'.length=m)(hp:p=none->c=0)(hr:DK enc k w p l')(av:(n+m) * bytes<=140737488355328)(mZ:n+m<=9223372036854775807)(fH:base<=w.heap.size)(h:∀v' w',A1 enc k w' base e v' (n+m) (l++l')->w.grownBy w' v.ownBlock->(∀b,b<w.heap.size->v'.ownBlock=some b->v.ownBlock=some b)->K (a.put o.dst v') w'):if Region.wanted o (yielded ops a.tmps)=true then Oper.wp P o a w K Q else E:=by
 have hw:Region.wanted o (yielded ops a.tmps)=true:=by simp [Region.wanted,bM]
 rw [AJ hw];obtain⟨i,hi,hz,cv,iu⟩:=ET ct;rcases p with _|ad
 ·have iZ:l'=[]:=by
   rcases hr with h|⟨_,_,h,_⟩
   ·exact h
   ·cases h
  subst iZ;obtain rfl:m=0:=by simpa using hl.symm
  obtain rfl:=hp rfl;have dj:=run_append_owned_none (P:=P) (w:=w) base t o.type e i k ht hi v n _ aD;have:=h v w (by simpa using aD) (Cd _ _) (fun b _ h=>h);unfold Oper.wp execOp;simp only [ho,resolve,invoke,builtin,Do,Sem.run_pure,Result.andThen_ok,List.map_toArray,AV,Am,hs,hx,dj];exact this
 ·obtain⟨v',w',dj,h2,h3,h4,h5⟩:=run_append_own_at (P:=P) w base t o.type e i z k bytes ht hi hz cv iu iz aI v n _ aD ad m c (l'.flatMap enc) (by rw [DO hk,hl]) (by
   intro j u hj;rcases hr with h0|⟨b,o',hb,aG,hc⟩
   ·subst h0;simp at hj
   ·cases hb
    have j0:j<l'.length * k:=by rw [<-DO hk];exact DI hj
    have hq:j / k<l'.length:=Ea (by rw [Nat.mul_comm];exact j0);have hm:j % k<k:=Nat.mod_lt _ aI;have hf:=Gr hk l' (j / k) _ (j % k) (AI hq) hm;rw [DL j k,hj] at hf;have:=hc (j / k) _ (AI hq) (j % k) u hf.symm;rw [Ja,<-DL j k,<-EV];exact this) (by
   intro u hu;obtain⟨y,_,hy⟩:=Dr.1 hu;exact h1 y u hy) (by unfold maxLen;omega) av fH
  unfold Oper.wp execOp;simp only [ho,resolve,invoke,builtin,Do,Sem.run_pure,Result.andThen_ok,List.map_toArray,AV,Am,hs,hx,dj];refine h v' w' (by unfold A1;rw [Ci];exact h2) h3 (fun b hb hv=>?_);rcases h5 with h5|h5
  ·rw [<-h5];exact hv
  ·rw [h5] at hv;cases hv;omega
theorem Yh{w0 w:World}{r:Option Nat}(h:w0.grownBy w r):w0.grownBy w.drew r:=⟨h.os,h.tape,h.output,h.size,h.block⟩
theorem Wf{w0 w:World}{r:Option Nat}(h:w0.grownBy w r)(o:Obj):w0.grownBy (w.alloc o) r:=⟨h.os,h.tape,h.output,AM h.size (by simp),fun k hk aM=>(AP w o k (by have:=h.size;omega)).trans (h.block k hk aM)⟩
theorem Wg{w0 w w':World}{r:Option Nat}(h:w0.grownBy w r)(hb:Below w.heap.size w w'):w0.grownBy w' r:=⟨hb.os.trans h.os,hb.tape.trans h.tape,hb.output.trans h.output,AM h.size hb.size,fun k hk aM=>(hb.block k (by have:=h.size;omega)).trans (h.block k hk aM)⟩
theorem Hj{w0 w w':World}{r r':Option Nat}(h:w0.grownBy w r)(hg:w.grownBy w' r')(hr:∀b,b<w0.heap.size->r'=some b->r=some b):w0.grownBy w' r:=⟨hg.os.trans h.os,hg.tape.trans h.tape,hg.output.trans h.output,AM h.size hg.size,fun k hk aM=>(hg.block k (by have:=h.size;omega) (fun e=>aM (hr k hk e.symm).symm)).trans (h.block k hk aM)⟩
theorem Ij{w0 w:World}{r:Option Nat}{a:Addr}{u:Value}(h:w0.grownBy w r)(aM:r≠some a.block)(hc:w0.cell? a=some u):w.cell? a=some u:=by have hb:=h.block a.block (D9 hc) aM.symm;unfold World.cell? at hc ⊢;rw [hb];exact hc
theorem Ik(h:w0.grownBy w r)(hB:B<=w0.heap.size)(hr:∀b,r=some b->B<=b):Below B w0 w:=⟨h.os,h.tape,h.output,h.size,fun k hk=>h.block k (by omega) (fun e=>by have:=hr k e.symm;omega)⟩
theorem A1.from(h:A1 enc k w base e v n l):∀b,v.ownBlock=some b->base<=b:=fun b hb=>(Aa h b hb).1
theorem A1.under(h:A1 enc k w base e v n l):∀b,v.ownBlock=some b->b<w.heap.size:=fun b hb=>(Aa h b hb).2
end
section
open Go.Sort Go.Lib
def PV(a:LH):List Int:=if a.kind=1 then [] else a.rho::FQ a.eff
def Ic:RT->List Int:=Ad.fold (fun a l=>PV a++l.flatten)
theorem Qb(a:LH)(l:List RT):Ic (.node a l)=PV a++l.flatMap Ic:=by show Ad.fold _ _=_;rw [Ad.fold_node,List.flatMap_def];rfl
def Dg(l:List PT):List Int:=l.flatMap (fun t=>Ic t.er)
theorem Qa(x:PT):Ic x.er=PV x.head.plain++Dg x.kids:=by obtain⟨a,l⟩:=x;rw [PT.er_node,Qb,List.flatMap_map];rfl
theorem QZ{l:List PT}{k:Nat}{x:PT}(h:l[k]?=some x):Dg (l.take (k+1))=Dg (l.take k)++(PV x.head.plain++Dg x.kids):=by unfold Dg;rw [BG h,Ci,List.flatMap_singleton,Qa];rfl
theorem SO(h:x∈l):(Dg x.kids).length<=(Dg l).length:=by
 have h1:(Ic x.er).length<=(Dg l).length:=by unfold Dg;rw [Fd];exact EG (Au (f:=fun t=>(Ic (PT.er t)).length) h)
 rw [Qa,As] at h1;omega
theorem Ye(h:l[k]?=some x):(Dg (l.take k)).length+((PV x.head.plain).length+(Dg x.kids).length)<=(Dg l).length:=by
 have h1:=QZ h;have h2:Dg l=Dg (l.take (k+1))++Dg (l.drop (k+1)):=by unfold Dg;rw [<-Ci,BY]
 rw [h2,h1];simp only [As];omega
def ZC6(n:Nat)(l:List PT):Prop:=∀x∈l,x.head.en<=n
def V2(x:PT)(W:World):Prop:=Calls prog 185 #[.slice x.head.kp x.head.kn x.head.kc] W fun e w'=>∃v,e=.returned v/\A1 DE 1 w' W.heap.size 3 v (Dg x.kids).length (Dg x.kids)/\Below W.heap.size W w'
theorem PJ(hc:w.cell? ⟨b,o,none⟩=some (.slice ep en ec))(hr:Ax Ce 3 w ep en ec eff)(hm:en<=1000000):Calls prog 132 #[.slice (some ⟨b,o,none⟩) 1 1] w fun e w'=>∃q m c,e=.returned (.slice q m c)/\m<=1000000/\Ax DE 1 w' q m c (FQ eff)/\Below w.heap.size w w':=by
 have h:=JH (some ⟨b,o,none⟩) 1 1 [⟨ep,en,ec,eff⟩] w rfl (by omega) (.inr ⟨b,o,rfl,D9 hc,fun j x hx i u hi=>by
  rcases j with _|j
  ·simp at hx;subst hx;rcases i with _|i
   ·simp [J7] at hi;subst hi;simpa using hc
   ·simp [J7] at hi
  ·simp at hx⟩) (fun r bW=>by
   have:r=⟨ep,en,ec,eff⟩:=by simpa using bW
   subst this;exact⟨hr.len,hr.le,hr.nil,hr.row⟩) (by simpa using hm)
 simpa using h
theorem Cm(h:A1 enc k w base e v n l)(o:Obj):A1 enc k (w.alloc o) base e v n l:=h.below ((AA _ w).alloc (AB _) o)
theorem ZAw(h:w.cell? ⟨b,0,none⟩=some (.int .i64 y)):DK DE 1 w (some ⟨b,0,none⟩) [y]:=
 .inr ⟨b,0,rfl,D9 h,fun j x hx i u hi=>by
  rcases j with _|j
  ·simp at hx;subst hx;rcases i with _|i
   ·simp [DE] at hi;subst hi;simpa using h
   ·simp [DE] at hi
  ·simp at hx⟩
theorem LO(hr:G0 w p n cap l)(hs:(Dg l).length<=1000000)(he:ZC6 1000000 l)(hf:∀x∈l,∀W,Below w.heap.size w W->V2 x W):Calls prog 185 #[.slice p n cap] w fun e w'=>∃v,e=.returned v/\A1 DE 1 w' w.heap.size 3 v (Dg l).length (Dg l)/\Below w.heap.size w w':=by
 have hm:=hr.row.max;have HR:=AF hr;have HF:=AF hf;have HS:=AF hs;have vh:=AF he;clear hr hf hs he;go_enter func185,ntmps185;go_wp2_with fail;go_loopw [3,5,8] (fun u _ i wr=>∃(k m:Nat) (v0:Value),k<=n/\i=.int .i64 k/\v0=u/\A1 DE 1 wr w.heap.size 3 v0 m (Dg (l.take k))/\Below w.heap.size w wr) (fun _ _ i _=>n-(intOf i).toNat)
 case atStart=>exact⟨0,0,_,by omega,rfl,rfl,A1.nil _ _ _ _ _,AA _ _⟩
 case round=>
  obtain⟨k,m,v0,hk,rfl,rfl,aD,hb⟩:=hrel;have pT:=aD.len DR (by omega);have aZ:=AF aD;have HB:=AF hb;clear aD hb;by_cases aG:k<n
  ·obtain⟨x,hx⟩:=HR.o.at (j:=k) aG;have HE:=AF hx;obtain⟨b,o,rfl,bB,d0,d1,d2,d3⟩:=(HR.o.below HB.o).kid hx;have d7:Hd (m+((PV x.head.plain).length+(Dg x.kids).length)<=1000000):=by have h1:=Ye hx;have h2:=HS.o;show _<=_;omega
   have HT:=AF (QZ hx);have HN:=AF (Fs ((Ad.eta x)▸HR.o.lies hx));have fm:=HB.o.size;clear hx bB pT;by_cases h1:x.head.kind=1
   ·have ap:(x.head.kind != 1)=false:=by simp [h1]
    have rW:Hd (Dg (l.take (k+1))=Dg (l.take k)++Dg x.kids):=by show _=_;rw [HT.o];simp [PV,RH.plain,h1]
    clear h1;go_wp2_with fail;refine(HF.o x (AE HE.o) _ (HB.o.alloc fm _)).mono ?_;rintro e w5 ⟨v5,rfl,aE,hb⟩;have aw:=AF ((HB.o.alloc fm _).trans (hb.mono (HB.o.alloc fm _).size));have HV:=AF (A1.below (Cm aZ.o _) hb);obtain⟨q5,c5,rfl,aN⟩:=aE.isRow DR (by omega);have bR:=AF aN;clear hb aE aN;go_wp2_with (at_builtin;refine GK rfl _ _ 24 rfl w.heap.size 3 _ 1 8 underlying24 Qf rfl (by decide) DE DR Kd (Dg x.kids) _ _ _ HV.o _ _ _ rfl rfl bR.o.len bR.o.nil bR.o.row ?c1 ?c2 ?c3 ?_)
    case c1=>have:=d7.o;omega
    case c2=>have:=d7.o;omega
    case c3=>exact aw.o.size
    ·intro v6 w6 cS fj;have fF:=AF cS;have dW:=AF (Below.own aw.o fj aw.o.size HV.o);clear cS fj;go_wp2_with fail;go_roundw
     case rel=>exact⟨k+1,_,_,by omega,by go_num,rfl,(by rw [rW.o];exact fF.o),dW.o⟩
     case measure=>simp [intOf];omega
   ·have ap:(x.head.kind != 1)=true:=by simpa using h1
    have tR:Hd ((PV x.head.plain).length=1+(FQ x.head.eff).length):=by show _=_;simp [PV,RH.plain,h1];omega
    have rW:Hd (Dg (l.take (k+1))=Dg (l.take k)++x.head.rho::(FQ x.head.eff++Dg x.kids)):=by show _=_;rw [HT.o];simp [PV,RH.plain,h1]
    clear h1;have qL:=AF (A1.under aZ.o);have nv:=AF (A1.from aZ.o);have sy:(wr.alloc (.cells #[.int .u8 x.head.kind,.int .i64 x.head.rho,.slice x.head.ep x.head.en x.head.ec,.slice x.head.kp x.head.kn x.head.kc] 28)).heap.size=wr.heap.size+1:=by simp
    have e1:(wr.alloc (.cells #[.int .u8 x.head.kind,.int .i64 x.head.rho,.slice x.head.ep x.head.en x.head.ec,.slice x.head.kp x.head.kn x.head.kc] 28)).cell? ⟨wr.heap.size,1,none⟩=some (.int .i64 x.head.rho):=by rw [Bq];rfl
    have e2:(wr.alloc (.cells #[.int .u8 x.head.kind,.int .i64 x.head.rho,.slice x.head.ep x.head.en x.head.ec,.slice x.head.kp x.head.kn x.head.kc] 28)).cell? ⟨wr.heap.size,2,none⟩=some (.slice x.head.ep x.head.en x.head.ec):=by rw [Bq];rfl
    have e3:(wr.alloc (.cells #[.int .u8 x.head.kind,.int .i64 x.head.rho,.slice x.head.ep x.head.en x.head.ec,.slice x.head.kp x.head.kn x.head.kc] 28)).cell? ⟨wr.heap.size,3,none⟩=some (.slice x.head.kp x.head.kn x.head.kc):=by rw [Bq];rfl
    have cH:=AF (Cm aZ.o (.cells #[.int .u8 x.head.kind,.int .i64 x.head.rho,.slice x.head.ep x.head.en x.head.ec,.slice x.head.kp x.head.kn x.head.kc] 28));have dq:=AF (HB.o.alloc fm (.cells #[.int .u8 x.head.kind,.int .i64 x.head.rho,.slice x.head.ep x.head.en x.head.ec,.slice x.head.kp x.head.kn x.head.kc] 28));go_wp2_with fail;generalize wr.alloc (.cells #[.int .u8 x.head.kind,.int .i64 x.head.rho,.slice x.head.ep x.head.en x.head.ec,.slice x.head.kp x.head.kn x.head.kc] 28)=W0 at *
    have cJ:Hd (∀W,W0.grownBy W v0.ownBlock->W.cell? ⟨wr.heap.size,1,none⟩=some (.int .i64 x.head.rho)/\W.cell? ⟨wr.heap.size,2,none⟩=some (.slice x.head.ep x.head.en x.head.ec)/\W0.grownBy W v0.ownBlock):=fun W hg=>⟨Ij hg (fun h=>by have:=qL.o _ h;simp at this) e1,Ij hg (fun h=>by have:=qL.o _ h;simp at this) e2,hg⟩;have et:Hd (∀W,W0.grownBy W v0.ownBlock->W.cell? ⟨wr.heap.size,3,none⟩=some (.slice x.head.kp x.head.kn x.head.kc)/\Below w.heap.size w W):=fun W hg=>⟨Ij hg (fun h=>by have:=qL.o _ h;simp at this) e3,dq.o.trans (Ik hg (by omega) nv.o)⟩;have rO:Hd (∀b,W0.heap.size<=b->v0.ownBlock≠some b):=fun b hb h=>by have:=qL.o _ h;omega
    have kW:m+1<=1000000:=by have:=d7.o;rw [tR.o] at this;omega
    have fb:=AF (vh.o x (AE HE.o));clear e1 e2 e3 d0 d1 d2 d3
    go_region_held3 (fun W=>W.cell? ⟨wr.heap.size,1,none⟩=some (.int .i64 x.head.rho)/\W.cell? ⟨wr.heap.size,2,none⟩=some (.slice x.head.ep x.head.en x.head.ec)/\W0.grownBy W v0.ownBlock)
     (first
      |exact cJ.o _ (Yh (Cd _ _))
      |exact cJ.o _ (Wf (by go_split_ands;assumption) _)
      |exact cJ.o _ (Hj (by go_split_ands;assumption) gC (fun b _ h=>h))
      |exact cJ.o _ (Hj (by go_split_ands;assumption) aa kU)
      |exact cJ.o _ (Wg (by go_split_ands;assumption) aU))
     (first
      |(
       go_at_call 132;refine(PJ (by first|(go_simp;done)|exact Ij gC (rO.o _ (by first|omega|(simp;omega))) (by go_simp)) (HN.o.own.eff.below (et.o _ (by go_split_ands;assumption)).2) fb.o).mono ?_;rintro e w2 ⟨q2,m2,c2,rfl,lO,eZ,aU⟩;have pl:w.heap.size<=w2.heap.size:=AM (et.o _ (by go_split_ands;assumption)).2.size aU.size)
      |(
       refine CB (by rfl) _ _ 24 (by rfl) w.heap.size 3 _ 1 8 underlying24 Qf rfl (by decide) DE DR Kd [x.head.rho] _ _ v0 (by first|exact Cm (A1.drew cH.o) _|exact Cm (Cm (A1.drew cH.o) _) _) _ 1 _ (by rfl) (by rfl) rfl (by intro h;cases h) (ZAw (by go_simp)) (by omega) (by omega) (by simp;have:=dq.o.size;omega) ?_;intro v1 w1 jg gC o6;have kU:∀b,b<W0.heap.size->v1.ownBlock=some b->v0.ownBlock=some b:=fun b hb=>o6 b (by simp;omega))
      |(
       refine CB (by rfl) _ _ 24 (by rfl) w.heap.size 3 _ 1 8 underlying24 Qf rfl (by decide) DE DR Kd (FQ x.head.eff) _ _ v1 (by first|exact A1.below jg aU|exact A1.below (Cm jg _) aU) _ m2 _ (by rfl) (by rfl) eZ.len eZ.nil eZ.row (by omega) (by omega) pl ?_;intro v3 w3 aR aa jY))
    all_goals (
     have bN:W0.grownBy w3 v0.ownBlock:=by go_split_ands;assumption
     have om:=(et.o _ bN).1;have aL:=AF (et.o _ bN).2;have iG:=AF aR;have kr:Hd (m+1+m2+(Dg x.kids).length<=1000000):=by have h1:=d7.o;have h2:=tR.o;have h3:=eZ.len;show _<=_;omega
     clear bN jg gC kU o6 eZ aU pl aR aa jY lO sy kW)
    all_goals (
     go_wp2_with fail;refine(HF.o x (AE HE.o) _ (aL.o)).mono ?_;rintro e w5 ⟨v5,rfl,aE,hb⟩;have aw:=AF ((aL.o).trans (hb.mono (aL.o).size));have HV:=AF (A1.below (iG.o) hb);obtain⟨q5,c5,rfl,aN⟩:=aE.isRow DR (by omega);have bR:=AF aN;clear hb aE aN;go_wp2_with (at_builtin;refine GK rfl _ _ 24 rfl w.heap.size 3 _ 1 8 underlying24 Qf rfl (by decide) DE DR Kd (Dg x.kids) _ _ _ HV.o _ _ _ rfl rfl bR.o.len bR.o.nil bR.o.row ?c1 ?c2 ?c3 ?_)
     case c1=>have:=kr.o;omega
     case c2=>have:=kr.o;omega
     case c3=>exact aw.o.size
     ·intro v6 w6 cS fj;have fF:=AF cS;have dW:=AF (Below.own aw.o fj aw.o.size HV.o);clear cS fj;go_wp2_with fail;go_roundw
      case rel=>exact⟨k+1,_,_,by omega,by go_num,rfl,(by rw [rW.o];exact fF.o),dW.o⟩
      case measure=>simp [intOf];omega
     )
  ·have ai:k=n:=by omega
   subst ai;go_wp2_with fail;go_ret;have h:=aZ.o;rw [Bb (by rw [HR.o.row.len];omega)] at h;have hl:=h.len DR (by omega);rw [<-hl] at h;exact⟨_,rfl,h,HB.o⟩
theorem WZ(t:PT):∀w,LR.lies w t->(Dg t.kids).length<=1000000->Ad.all (fun a _=>decide (a.en<=1000000)) t=true->V2 t w:=by
 refine Ad.ind (P:=fun(t:PT)=>∀w,LR.lies w t->(Dg t.kids).length<=1000000->Ad.all (fun a _=>decide (a.en<=1000000)) t=true->V2 t w) (fun a l ih=>?_) t;intro w hl hs he;have HN:=Fs hl;rw [Ad.all_node,AK,Aj] at he
 exact LO (l:=l) HN.rowT hs (fun x hx=>by
  have h:=he.2 x hx;obtain⟨b,m⟩:=x;rw [Ad.all_node,AK] at h;simpa [Ad.head] using h.1) (fun x hx W hW=>ih x hx W (LR.lies_below hW x (HN.each x hx)) (AM (SO hx) hs) (he.2 x hx))
def ZBu(l:List PT):Prop:=∀x∈l,Ad.all (fun a _=>decide (a.en<=1000000)) x=true
theorem Oi(hr:G0 w p n cap l)(hs:(Dg l).length<=1000000)(he:ZBu l):Calls prog 185 #[.slice p n cap] w fun e w'=>∃v,e=.returned v/\A1 DE 1 w' w.heap.size 3 v (Dg l).length (Dg l)/\Below w.heap.size w w':=
 LO hr hs (fun x hx=>by
  have h:=he x hx;obtain⟨b,m⟩:=x;rw [Ad.all_node,AK] at h;simpa [Ad.head] using h.1) (fun x hx W hW=>WZ x W (LR.lies_below hW x (hr.each x hx)) (AM (SO hx) hs) (he x hx))
theorem MD(hr:G0 w p n cap l)(hs:(Dg l).length<=1000000)(he:ZBu l):Calls prog 133 #[.slice p n cap] w fun e w'=>∃q m c,e=.returned (.slice q m c)/\m<=1000000/\Ax DE 1 w' q m c (FN (Dg l))/\Below w.heap.size w w':=by
 have HG:=AF (Oi hr hs he);have HS:=AF hs;clear hr hs he;generalize hL:Dg l=L at *
 clear hL;go_enter func133,ntmps133;go_wp2_with fail;refine HG.o.mono ?_;rintro e w1 ⟨v,rfl,aD,hb⟩;have HO:=AF aD;have HB:=AF hb;clear hb;clear aD;rcases HO.o.split DR (by omega) with⟨rfl,iZ,aj⟩|⟨g,cp,rfl,ml,jU⟩
 ·have gj:=AF aj;clear aj iZ;go_wp2_with fail;refine(slices_Sort_int_none none 0 _).mono ?_;rintro e w2 ⟨rfl,rfl⟩;go_wp2_with fail;refine(slices_Compact_int_empty none 0 _).mono ?_;rintro e w3 ⟨rfl,rfl⟩;go_wp2_with fail;go_ret;exact⟨none,0,0,rfl,by omega,by rw [gj.o];exact Ax.none _ _ _,HB.o⟩
 ·go_wp2_with fail;refine(Ol g cp _ _ w.heap.size w1 HO.o (by have:=HS.o;omega)).mono ?_;rintro e w2 ⟨rfl,lU,gC⟩;have aH:=AF (A1.drop_base (enc:=DE) (k:=1) gC jU HB.o HB.o.size);have iF:=AF lU;clear lU gC;go_wp2_with fail;refine(Ks g cp _ _ w.heap.size w2 iF.o ml (by have:=HS.o;omega)).mono ?_;rintro e w3 ⟨m',rfl,eJ,ie,aa⟩;have aF:=AF (A1.drop_base (enc:=DE) (k:=1) aa jU aH.o aH.o.size);rw [Je] at ie;obtain⟨p',c',hv,aC⟩:=ie.isRow DR (by omega);cases hv;have af:=AF aC;clear ie aa aC;go_wp2_with fail;go_ret;exact⟨_,m',_,rfl,by have:=HS.o;omega,af.o,aF.o⟩
end
section
open Go.Sort Go.Lib
theorem Nv{α:Type}{enc:α->List Value}{k:Nat}(hk:∀x,(enc x).length=k)(w:World)(base e:Nat)(l:List α)(n:Nat)(cs:Array Value)(am:cs=(l.flatMap enc).toArray)(hn:l.length=n)(hm:n<=maxLen)(hb:base<=w.heap.size):A1 enc k (w.alloc (.cells cs e)) base e (.slice (some ⟨w.heap.size,0,none⟩) n n) n l:=by subst am;refine⟨by rw [DO hk,hn],.inr ⟨w.heap.size,n,_,rfl,hb,AG w _,AB _,hm,by simp [<-hn];rw [<-DO hk];simp,?_⟩⟩;rw [<-hn,<-DO hk];exact FL
theorem Bo{α:Type}{enc:α->List Value}{k:Nat}(hk:∀x,(enc x).length=k)(ao:0<k)(w:World)(e:Nat)(l:List α)(n:Nat)(cs:Array Value)(am:cs=(l.flatMap enc).toArray)(hn:l.length=n)(hm:n<=maxLen):Ax enc k (w.alloc (.cells cs e)) (some ⟨w.heap.size,0,none⟩) n n l:=by obtain⟨p,cap,hv,hr⟩:=(Nv hk w 0 e l n cs am hn hm (BM _)).isRow hk ao;cases hv;exact hr
theorem An{w0 w w':World}(h:Below w0.heap.size w0 w)(hb:Below w.heap.size w w'):Below w0.heap.size w0 w':=h.trans (hb.mono h.size)
theorem Ay{w0 w:World}(h:Below w0.heap.size w0 w)(o:Obj):Below w0.heap.size w0 (w.alloc o):=h.alloc h.size o
theorem At(w0:World):Below w0.heap.size w0 w0.drew:=⟨rfl,rfl,rfl,AB _,fun _ _=>rfl⟩
theorem I4(h:Fg l=false):l.length<=200:=by unfold Fg at h;simp only [A5,BE] at h;omega
end
section
open Go.Sort Go.Lib
theorem Kl(hl:LR.lies w t)(e:Nat):G0 (w.alloc (.cells #[.int .u8 t.head.kind,.int .i64 t.head.rho,.slice t.head.ep t.head.en t.head.ec,.slice t.head.kp t.head.kn t.head.kc] e)) (some ⟨w.heap.size,0,none⟩) 1 1 [t]:=by
 refine⟨Bo Oq (by omega) w e [t] 1 _ ?_ rfl (by decide),fun x hx=>?_⟩
 ·simp [Xi,QT]
 ·have:x=t:=by simpa using hx
  subst this;exact LR.lies_below ((AA _ w).alloc (AB _) _) x hl
theorem Rx{w:World}{t:PT}(hl:LR.lies w t){r:Bool}(hr:FK t.er=r)(ty:Nat){g:Nat}(ag:w.heap.size=g):Calls prog 129 #[.slice (some ⟨g,0,none⟩) 1 1] (w.alloc (.cells #[.int .u8 t.head.kind,.int .i64 t.head.rho,.slice t.head.ep t.head.en t.head.ec,.slice t.head.kp t.head.kn t.head.kc] ty)) fun e w'=>e=.returned (.bool r)/\Below (w.heap.size+1) (w.alloc (.cells #[.int .u8 t.head.kind,.int .i64 t.head.rho,.slice t.head.ep t.head.en t.head.ec,.slice t.head.kp t.head.kn t.head.kc] ty)) w':=by subst hr;subst ag;have h:=Rw (Kl hl ty);refine h.mono ?_;rintro e w' ⟨rfl,hb⟩;exact⟨by simp,by simpa using hb⟩
end
section
open Go.Sort Go.Lib
theorem RG{α:Type}(f g:α->Nat)(k:Nat):∀l:List α,(∀x∈l,f x<=k * g x)->(l.map f).sum<=k * (l.map g).sum
 |[],_=>by simp
 |x::l,h=>by have h1:=h x (BL ..);have h2:=RG f g k l (fun y hy=>h y (Cu _ hy));simp only [AV,A0,Nat.mul_add];omega
theorem ZCI(a:LH)(h:Fg a.eff=false):(PV a).length<=201:=by
 unfold PV;have h1:=Rv a.eff;have h2:=I4 h;split
 ·simp
 ·simp only [Aq];omega
theorem TP(t:RT):FG t=true->(Ic t).length<=201 * t.size:=by refine Ad.ind (P:=fun t=>FG t=true->(Ic t).length<=201 * t.size) (fun a l ih h=>?_) t;rw [FI,AK,Aj] at h;rw [Qb,As,Ad.size_node,Fd];have h1:=ZCI a (by simpa using h.1);have h2:=RG (fun t=>(Ic t).length) Ad.size 201 l (fun x hx=>ih x hx (h.2 x hx));omega
theorem QS(t:PT):LR.lies w t->FG t.er=true->Ad.all (fun a _=>decide (a.en<=1000000)) t=true:=by refine Ad.ind (P:=fun(t:PT)=>LR.lies w t->FG t.er=true->Ad.all (fun a _=>decide (a.en<=1000000)) t=true) (fun a l ih hl h=>?_) t;have HN:=Fs hl;rw [PT.er_node,FI,AK,CD,Aj] at h;rw [Ad.all_node,AK,Aj];refine⟨?_,fun x hx=>ih x hx (HN.each x hx) (h.2 x hx)⟩;have h1:=I4 (show Fg a.eff=false by simpa [RH.plain] using h.1);have h2:=HN.own.eff.len;simp;omega
theorem MN(t:PT):t.er.size=t.size:=Ad.size_map _ t
end
section
open Go.Sort Go.Lib
def N1(a b:LH):Bool:=decide (a.kind=b.kind)&&decide (a.rho=b.rho)&&(EP a.eff b.eff&&EP b.eff a.eff)
def Gi(x y:PT):Bool:=Ad.same N1 x.er y.er
def MF(l m:List PT):Bool:=Ad.sameL N1 (l.map PT.er) (m.map PT.er)
theorem XJ(a b:RH)(l m:List PT):Gi (.node a l) (.node b m)=(N1 a.plain b.plain&&MF l m):=by unfold Gi;rw [PT.er_node,PT.er_node,Ad.same_node];rfl
theorem XI(hl:l.length=m.length)(h:∀(j:Nat) (x y:PT),l[j]?=some x->m[j]?=some y->Gi x y=true):MF l m=true:=by unfold MF;rw [Ad.sameL_get];refine⟨by simp [hl],fun j t u ht hu=>?_⟩;rw [A7] at ht hu;obtain⟨x,hx,rfl⟩:=Ao.1 ht;obtain⟨y,hy,rfl⟩:=Ao.1 hu;exact h j x y hx hy
theorem ZC(hl:l.length≠m.length):MF l m=false:=by rw [Bool.eq_false_iff];intro h;exact hl (by simpa using Ad.sameL_length _ _ _ h)
theorem VY{l m:List PT}{j:Nat}{x y:PT}(hx:l[j]?=some x)(hy:m[j]?=some y)(h:Gi x y=false):MF l m=false:=by rw [Bool.eq_false_iff];intro hs;unfold MF at hs;rw [Ad.sameL_get] at hs;have:=hs.2 j x.er y.er (by rw [A7,hx];rfl) (by rw [A7,hy];rfl);unfold Gi at h;rw [h] at this;cases this
def TB(x y:PT)(W:World):Prop:=Calls prog 142 #[IJ x.head,IJ y.head] W fun e w'=>e=.returned (.bool (Gi x y))/\Below W.heap.size W w'
def Zi(fid:FuncId)(w:World)(l m:List PT):Prop:=∀x∈l,∀y∈m,∀r,Gi x y=r->∀W,Below w.heap.size w W->Calls prog fid #[IJ x.head,IJ y.head] W fun e w'=>e=.returned (.bool r)/\Below W.heap.size W w'
theorem Pf(fid:FuncId)(ay:Hv fid)(hr:G0 w p n cap l)(bW:G0 w q m mc l')(hf:Zi fid w l l'):Calls prog 192 #[.slice p n cap,.slice q m mc,.func (.func fid) #[] #[]] w (RB w (.bool (MF l l'))):=by
 unfold Hv at ay;have hm:=hr.row.max;have HR:=AF hr;have gW:=AF bW;have HF:=AF hf;clear hr bW hf;by_cases kX:n=m
 ·subst kX;go_enter func192,ntmps192;go_wp2_with fail;go_loopw [7,8,9,17] (fun _ _ _ i wr=>∃k:Nat,k<=n/\i=.int .i64 k/\(∀(j:Nat) (x y:PT),j<k->l[j]?=some x->l'[j]?=some y->Gi x y=true)/\Below w.heap.size w wr) (fun _ _ _ i _=>n-(intOf i).toNat)
  case atStart=>exact⟨0,by omega,rfl,fun j x y hj=>by omega,AA _ _⟩
  case round=>
   obtain⟨k,hk,rfl,an,hb⟩:=hrel;have ax:=AF an;have HB:=AF hb;clear an hb;by_cases aG:k<n
   ·obtain⟨x,hx⟩:=HR.o.at (j:=k) aG;obtain⟨y,hy⟩:=gW.out.at (j:=k) aG;have HX:=AF hx;have HY:=AF hy;obtain⟨b,o,rfl,bB,d0,d1,d2,d3⟩:=(HR.o.below HB.o).kid hx;obtain⟨b',o',rfl,ww,e0,e1,e2,e3⟩:=(gW.out.below HB.o).kid hy;have nO:=(HB.o.alloc HB.o.size (.cells #[.int .u8 x.head.kind,.int .i64 x.head.rho,.slice x.head.ep x.head.en x.head.ec,.slice x.head.kp x.head.kn x.head.kc] 28));have aF:=AF (nO.alloc nO.size (.cells #[.int .u8 y.head.kind,.int .i64 y.head.rho,.slice y.head.ep y.head.en y.head.ec,.slice y.head.kp y.head.kn y.head.kc] 28));clear hx hy nO;cases hq:Gi x y
    ·have HQ:=AF hq;clear hq;go_wp2_with fail;refine(HF.o x (AE HX.o) y (AE HY.o) _ HQ.o _ aF.o).mono ?_;rintro e w1 ⟨rfl,hb⟩;have aL:=bt aF hb;clear hb d0 d1 d2 d3 e0 e1 e2 e3;go_wp2_with fail;go_ret;exact⟨Af (VY HX.o HY.o HQ.o).symm,aL.o⟩
    ·have HQ:=AF hq;clear hq;go_wp2_with fail;refine(HF.o x (AE HX.o) y (AE HY.o) _ HQ.o _ aF.o).mono ?_;rintro e w1 ⟨rfl,hb⟩;have aL:=bt aF hb;clear hb d0 d1 d2 d3 e0 e1 e2 e3;go_wp2_with fail;go_roundw
     case rel=>
      refine⟨k+1,by omega,by go_num,fun j x' y' hj fY dp=>?_,aL.o⟩;by_cases lI:j=k
      ·subst lI;have h1:=HX.o;have h2:=HY.o;rw [fY] at h1;rw [dp] at h2;cases h1;cases h2;exact HQ.o
      ·exact ax.o j x' y' (by omega) fY dp
     case measure=>simp [intOf];omega
   ·have ai:k=n:=by omega
    go_wp2_with fail;go_ret;have hs:MF l l'=true:=XI (by rw [HR.o.row.len,gW.out.row.len]) (fun j x y hx hy=>ax.o j x y (by have h1:=(BJ.1 hx).1;have h2:=HR.o.row.len;omega) hx hy);exact⟨Af hs.symm,HB.o⟩
 ·have aM:Hd (MF l l'=false):=ZC (by rw [HR.o.row.len,gW.out.row.len];exact kX);have hb:((n:Int) != (m:Int))=true:=by rw [DD];omega
  clear kX;go_enter func192,ntmps192;go_wp2_with fail;go_ret;exact⟨Af aM.out.symm,AA _ _⟩
theorem Lp(h:(EP l l'&&EP l' l)=r)(hr:Ax Ce 3 w p n cap l)(bW:Ax Ce 3 w q m mc l'):Calls prog 191 #[.slice p n cap,.slice q m mc] w (RB w (.bool r)):=by subst h;exact PK p n cap l q m mc l' w hr.len hr.max hr.row bW.len bW.max bW.row
theorem Uf{w w1:World}{a b:RH}(hb:Below (w.heap.size+2) ((w.alloc (.cells #[.int .u8 a.kind,.int .i64 a.rho,.slice a.ep a.en a.ec,.slice a.kp a.kn a.kc] 28)).alloc (.cells #[.int .u8 b.kind,.int .i64 b.rho,.slice b.ep b.en b.ec,.slice b.kp b.kn b.kc] 28)) w1):(w1.cell? ⟨w.heap.size,0,none⟩=some (.int .u8 a.kind)/\w1.cell? ⟨w.heap.size,1,none⟩=some (.int .i64 a.rho)/\w1.cell? ⟨w.heap.size,2,none⟩=some (.slice a.ep a.en a.ec)/\w1.cell? ⟨w.heap.size,3,none⟩=some (.slice a.kp a.kn a.kc))/\(w1.cell? ⟨w.heap.size+1,0,none⟩=some (.int .u8 b.kind)/\w1.cell? ⟨w.heap.size+1,1,none⟩=some (.int .i64 b.rho)/\w1.cell? ⟨w.heap.size+1,2,none⟩=some (.slice b.ep b.en b.ec)/\w1.cell? ⟨w.heap.size+1,3,none⟩=some (.slice b.kp b.kn b.kc)):=by refine⟨⟨?_,?_,?_,?_⟩,?_,?_,?_,?_⟩<;>(rw [hb.cell (by simp)];go_simp)
abbrev ZCl(w:World)(a b:RH):World:=(w.alloc (.cells #[.int .u8 a.kind,.int .i64 a.rho,.slice a.ep a.en a.ec,.slice a.kp a.kn a.kc] 28)).alloc (.cells #[.int .u8 b.kind,.int .i64 b.rho,.slice b.ep b.en b.ec,.slice b.kp b.kn b.kc] 28)
theorem Ue(w:World)(a b:RH):Below w.heap.size w (ZCl w a b):=((AA w.heap.size w).alloc (AB _) _).alloc (by simp) _
theorem Ry(ha:Dz w a l)(hb:Dz w b m)(hf:Zi 142 w l m):TB (.node a l) (.node b m) w:=by
 have aK:=AF (Ue w a b);have kt:=AF ha;have bo:=AF hb;have HF:=AF hf;have HP:=AF (XJ a b l m);show Calls _ _ #[IJ a,IJ b] w _;clear ha hb hf;by_cases h1:a.kind=b.kind
 ·have b1:(a.kind==b.kind)=true:=by simpa using h1
  by_cases h2:a.rho=b.rho
  ·have b2:(a.rho==b.rho)=true:=by simpa using h2
   cases h3:(EP a.eff b.eff&&EP b.eff a.eff)
   ·have HS:Hd (Gi (.node a l) (.node b m)=false):=by show _=_;rw [HP.o];simp only [N1,RH.plain,h3,ED,Fk]
    have H3:=AF h3;clear h1 h2 h3;go_enter func142,ntmps142;go_wp2_with fail;refine(Lp H3.o (kt.o.below aK.o).own.eff (bo.o.below aK.o).own.eff).mono ?_;rintro e w1 ⟨rfl,hb⟩;have aH:=bt aK hb;clear hb;go_wp2_with fail;go_ret;exact⟨Af HS.o.symm,aH.o⟩
   ·have HS:Hd (Gi (.node a l) (.node b m)=MF l m):=by show _=_;rw [HP.o];simp only [N1,RH.plain,h1,h2,h3,decide_true,Bz]
    have H3:=AF h3;clear h1 h2 h3;generalize hk:MF l m=K at HS;have HK:=AF hk;clear hk;go_enter func142,ntmps142;go_wp2_with fail;refine(Lp H3.o (kt.o.below aK.o).own.eff (bo.o.below aK.o).own.eff).mono ?_;rintro e w1 ⟨rfl,hb⟩;have aH:=bt aK hb;have HC:Hd (Below (w.heap.size+2) (ZCl w a b) w1):=by show Below _ _ _;simpa using hb
    clear hb;obtain⟨⟨d0,d1,d2,d3⟩,e0,e1,e2,e3⟩:=Uf HC.o;go_wp2_with fail;refine(Pf 142 (fun a w=>call142 a w) (kt.o.below aH.o).rowT (bo.o.below aH.o).rowT (fun x hx y hy r hq W hW=>HF.o x hx y hy r hq W (aH.o.trans (hW.mono aH.o.size)))).mono ?_;rintro e w2 ⟨rfl,hb⟩;have aF:=bt aH hb;rw [HK.o];clear hb d0 d1 d2 d3 e0 e1 e2 e3;go_wp2_with fail;go_ret;exact⟨Af HS.o.symm,aF.o⟩
  ·have b2:(a.rho==b.rho)=false:=by rw [AW];exact h2
   have HS:Hd (Gi (.node a l) (.node b m)=false):=by show _=_;rw [HP.o];simp [N1,RH.plain,h2]
   clear h1 h2;go_enter func142,ntmps142;go_wp2_with fail;go_ret;exact⟨Af HS.o.symm,aK.o⟩
 ·have b1:(a.kind==b.kind)=false:=by rw [AW];exact h1
  have HS:Hd (Gi (.node a l) (.node b m)=false):=by show _=_;rw [HP.o];simp [N1,RH.plain,h1]
  clear h1;go_enter func142,ntmps142;go_wp2_with fail;go_ret;exact⟨Af HS.o.symm,aK.o⟩
theorem XH(x:PT):∀y w,LR.lies w x->LR.lies w y->TB x y w:=by refine Ad.ind (P:=fun(x:PT)=>∀y w,LR.lies w x->LR.lies w y->TB x y w) (fun a l ih=>?_) x;intro y w hx hy;obtain⟨b,m⟩:=y;have HX:=Fs hx;have HY:=Fs hy;refine Ry HX HY (fun x hx y hy r hq W hW=>?_);have:=ih x hx y W (LR.lies_below hW x (HX.each x hx)) (LR.lies_below hW y (HY.each y hy));unfold TB at this;rw [hq] at this;exact this
theorem Hl(h:Gi x y=r)(hx:LR.lies w x)(hy:LR.lies w y):Calls prog 142 #[IJ x.head,IJ y.head] w (RB w (.bool r)):=by subst h;exact XH x y w hx hy
end
section
open Go.Sort Go.Lib
theorem WG{w w1:World}{t:PT}(hb:Below (w.heap.size+1) (w.alloc (.cells #[.int .u8 t.head.kind,.int .i64 t.head.rho,.slice t.head.ep t.head.en t.head.ec,.slice t.head.kp t.head.kn t.head.kc] 28)) w1):w1.cell? ⟨w.heap.size,0,none⟩=some (.int .u8 t.head.kind)/\w1.cell? ⟨w.heap.size,1,none⟩=some (.int .i64 t.head.rho)/\w1.cell? ⟨w.heap.size,2,none⟩=some (.slice t.head.ep t.head.en t.head.ec)/\w1.cell? ⟨w.heap.size,3,none⟩=some (.slice t.head.kp t.head.kn t.head.kc):=by refine⟨?_,?_,?_,?_⟩<;>(rw [hb.cell (by simp),Bq];rfl)
end
section
open Go.Sort Go.Lib
structure LBH where
 kind:Int
 var:Int
structure BH where
 kind:Int
 var:Int
 kp:Option Addr
 kn:Nat
 kc:Nat
abbrev PB:=Ad BH
abbrev BT:=Ad LBH
def BH.plain(a:BH):LBH:=⟨a.kind,a.var⟩
def PB.er(t:PB):BT:=Ad.map BH.plain t
theorem PB.er_node(a:BH)(l:List PB):PB.er (.node a l)=.node a.plain (l.map PB.er):=Ad.map_node _ a l
def ZDV(a:BH):List Value:=[.int .u8 a.kind,.int .i64 a.var,.slice a.kp a.kn a.kc]
structure BH.Own(a:BH):Prop where
 kmax:a.kn<=9223372036854775807
 kle:a.kn<=a.kc
 knil:a.kp=none->a.kc=0
def LB:LS BH where
 enc:=ZDV
 k:=3
 own:=fun _=>BH.Own
 kp:=BH.kp
 kn:=BH.kn
 len:=fun _=>rfl
 below:=fun h _=>h
def YC(B E:Nat)(t:PB):Prop:=∀a∈t.nodes,∀ad,a.kp=some ad->B<=ad.block/\ad.block<E
theorem YC.mono(h:YC B E t)(hB:B'<=B)(hE:E<=E'):YC B' E' t:=fun a ha ad hp=>by have:=h a ha ad hp;omega
theorem YC.node(ha:∀ad,a.kp=some ad->B<=ad.block/\ad.block<E)(hl:∀t∈l,YC B E t):YC B E (.node a l):=by
 intro x hx;rw [Ad.nodes_node,AS] at hx;rcases hx with rfl|hx
 ·exact ha
 ·rw [BS] at hx;obtain⟨m,hm,hx⟩:=hx;obtain⟨t,ht,rfl⟩:=BI.1 hm;exact hl t ht x hx
theorem Gw(hg:w.grownBy w' r)(aM:∀ad,p=some ad->r≠some ad.block)(h:DK enc k w p l):DK enc k w' p l:=by
 rcases h with h|⟨b,o,rfl,hb,hc⟩
 ·exact .inl h
 ·refine .inr ⟨b,o,rfl,Ak hb hg.size,fun j x hx i u hi=>Ij hg (by exact aM ⟨b,o,none⟩ rfl) (hc j x hx i u hi)⟩
structure Ra(w:World)(g:Nat)(x y z:Value):Prop where
 blk:w.heap[g]?=some (.cells #[x,y,z] 45 (0,0))
theorem Ra.cells(h:Ra w g x y z):w.cell? ⟨g,0,none⟩=some x/\w.cell? ⟨g,1,none⟩=some y/\w.cell? ⟨g,2,none⟩=some z/\w.frozen? ⟨g,0,none⟩=false/\w.frozen? ⟨g,1,none⟩=false/\w.frozen? ⟨g,2,none⟩=false:=by have hb:=h.blk;refine⟨?_,?_,?_,?_,?_,?_⟩<;>simp [World.cell?,World.frozen?,hb]
theorem Ra.lt(h:Ra w g x y z):g<w.heap.size:=(AO.1 h.blk).1
theorem Ra.grown(h:Ra w g x y z)(hg:w.grownBy w' r)(hr:r≠some g):Ra w' g x y z:=⟨by rw [hg.block g h.lt hr.symm];exact h.blk⟩
theorem Ra.below(h:Ra w g x y z)(hb:Below w.heap.size w w'):Ra w' g x y z:=⟨by rw [hb.block g h.lt];exact h.blk⟩
theorem A1.other(h:A1 enc k w base e v n l)(hg:w.grownBy w' r)(hr:∀b,v.ownBlock=some b->r≠some b):A1 enc k w' base e v n l:=by
 refine⟨h.1,?_⟩;rcases h.2 with hn|⟨g,cap,cur,rfl,ab,ua,rest⟩
 ·exact .inl hn
 ·refine .inr ⟨g,cap,cur,rfl,ab,?_,rest⟩;rw [hg.block g (AO.1 ua).1 (hr g rfl).symm];exact ua
end
section
open Go.Sort Go.Lib
end
section
open Go.Sort Go.Lib
theorem ZB4(l:List PT):l.length<=Gj l:=by
 unfold Gj;induction l with
 |nil=>simp
 |cons x l ih=>have:=Ad.size_pos x;simp only [Aq,AV,A0];omega
structure UN(w:World)(a:BH)(l:List PB):Prop where
 own:BH.Own a
 len:l.length=a.kn
 row:DK LB.encT 3 w a.kp l
 each:∀t∈l,LB.lies w t
theorem UN.below(h:UN w a l)(hb:Below w.heap.size w w'):UN w' a l:=⟨h.own,h.len,h.row.below hb,fun t ht=>LB.lies_below hb t (h.each t ht)⟩
theorem UN.kid(h:UN w a l)(hx:l[j]?=some t):∃b o,a.kp=some ⟨b,o,none⟩/\b<w.heap.size/\w.cell? ⟨b,o+j * 3,none⟩=some (.int .u8 t.head.kind)/\w.cell? ⟨b,o+j * 3+1,none⟩=some (.int .i64 t.head.var)/\w.cell? ⟨b,o+j * 3+2,none⟩=some (.slice t.head.kp t.head.kn t.head.kc):=by obtain⟨b,o,hp,hb,hc⟩:=h.row.elem hx;exact⟨b,o,hp,hb,by simpa using hc 0 _ rfl,hc 1 _ rfl,hc 2 _ rfl⟩
end
end Go.Proofs.YtkdjnegfnhldpaaGreatDoor
