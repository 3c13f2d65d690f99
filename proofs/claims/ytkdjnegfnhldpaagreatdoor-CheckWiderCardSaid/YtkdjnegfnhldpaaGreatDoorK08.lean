/- Part 08. -/
import Derived.Maps.AppendAt
import Derived.Deep.AppendLies
import Derived.Deep.RegionLaw
import Derived.Test.YtkdjnegfnhldpaaGreatDoorK07
set_option linter.unusedVariables false
set_option maxRecDepth 100000
set_option linter.unusedSimpArgs false
set_option maxHeartbeats 40000000
namespace Go.Proofs.YtkdjnegfnhldpaaGreatDoor
open Go.Proofs.Tryz Go.RowKit
section
theorem AS{P:Program}{α:Type}{ops:Array Oper}{o:Oper}{a:Act}{K:Act→World→Prop}{Q:Exit→Act→World→Prop}{E:Prop}(bG:o.guard=none)(s x:Operand)(t:TypeId)(ho:o.op=.call { callee:=.builtin .append,args:=#[s,x],argTypes:=#[t,t] })(base:Nat)(e:TypeId)(z:Value)(k bytes:Nat)(ht:P.underlying t=some (.slice e))(bu:(P.info? e).map (fun i=>(i.zero,i.size,i.bytes))=some (some z,k,bytes))(et:z.cells.size=k)(aL:0<k)(enc:α→List Value)(hk:∀x,(enc x).length=k)(h1:∀y,∀u∈enc y,u.oneCell'=true)(l' l:List α)(n:Nat){w:World}(v:Value)(aD:AI enc k w base e v n l)(p:Option Addr)(m c:Nat)(hs:a.eval s=v)(hx:a.eval x=.slice p m c)(hl:l'.length=m)(hp:p=none→c=0)(hr:At enc k w p l')(ac:(n+m) * bytes≤140737488355328)(ic:n+m≤9223372036854775807)(dI:base≤w.heap.size)(h:∀v' w',AI enc k w' base e v' (n+m) (l++l')→w.grownBy w' v.ownBlock→(∀b,b<w.heap.size→v'.ownBlock=some b→v.ownBlock=some b)→K (a.put o.dst v') w'):if Region.wanted o (yielded ops a.tmps)=true then Oper.wp P o a w K Q else E:=by
 have hw:Region.wanted o (yielded ops a.tmps)=true:=by simp [Region.wanted,bG]
 rw [if_pos hw];obtain⟨i,hi,hz,bW,eL⟩:=info_parts bu;rcases p with _|ad
 ·have fN:l'=[]:=by
   rcases hr with h|⟨_,_,h,_⟩
   ·exact h
   ·cases h
  subst fN;obtain rfl:m=0:=by simpa using hl.symm
  obtain rfl:=hp rfl;have bx:=run_append_owned_none (P:=P) (w:=w) base t o.type e i k ht hi v n _ aD;have:=h v w (by simpa using aD) (World.grownBy.refl _ _) (fun b _ h=>h);unfold Oper.wp execOp;simp only [ho,resolve,invoke,builtin,Sem.run_bind,Sem.run_pure,Result.andThen_ok,List.map_toArray,List.map_cons,List.map_nil,hs,hx,bx];exact this
 ·obtain⟨v',w',bx,h2,h3,h4,h5⟩:=run_append_own_at (P:=P) w base t o.type e i z k bytes ht hi hz bW eL et aL v n _ aD ad m c (l'.flatMap enc) (by rw [Aj hk,hl]) (by
   intro j u hj;rcases hr with h0|⟨b,o',hb,aG,hc⟩
   ·subst h0;simp at hj
   ·cases hb
    have fy:j<l'.length * k:=by rw [←Aj hk];exact CD hj
    have hq:j / k<l'.length:=Nat.div_lt_of_lt_mul (by rw [Nat.mul_comm];exact fy);have hm:j % k<k:=Nat.mod_lt _ aL;have hf:=CY hk l' (j / k) _ (j % k) (List.getElem?_eq_getElem hq) hm;rw [Nat.div_add_mod' j k,hj] at hf;have:=hc (j / k) _ (List.getElem?_eq_getElem hq) (j % k) u hf.symm;rw [D3,←Nat.div_add_mod' j k,←Nat.add_assoc];exact this) (by
   intro u hu;obtain⟨y,_,hy⟩:=List.mem_flatMap.1 hu;exact h1 y u hy) (by unfold maxLen;omega) ac dI
  unfold Oper.wp execOp;simp only [ho,resolve,invoke,builtin,Sem.run_bind,Sem.run_pure,Result.andThen_ok,List.map_toArray,List.map_cons,List.map_nil,hs,hx,bx];refine h v' w' (by unfold AI;rw [List.flatMap_append];exact h2) h3 (fun b hb hv=>?_);rcases h5 with h5|h5
  ·rw [←h5];exact hv
  ·rw [h5] at hv;cases hv;omega
theorem RX{w0 w:World}{r:Option Nat}(h:w0.grownBy w r):w0.grownBy w.drew r:=⟨h.os,h.tape,h.output,h.size,h.block⟩
theorem Pf{w0 w:World}{r:Option Nat}(h:w0.grownBy w r)(o:Obj):w0.grownBy (w.alloc o) r:=⟨h.os,h.tape,h.output,Nat.le_trans h.size (by simp),fun k hk aR=>(Below.heap_alloc w o k (by have:=h.size;omega)).trans (h.block k hk aR)⟩
theorem Pg{w0 w w':World}{r:Option Nat}(h:w0.grownBy w r)(hb:Below w.heap.size w w'):w0.grownBy w' r:=⟨hb.os.trans h.os,hb.tape.trans h.tape,hb.output.trans h.output,Nat.le_trans h.size hb.size,fun k hk aR=>(hb.block k (by have:=h.size;omega)).trans (h.block k hk aR)⟩
theorem DB{w0 w w':World}{r r':Option Nat}(h:w0.grownBy w r)(hg:w.grownBy w' r')(hr:∀b,b<w0.heap.size→r'=some b→r=some b):w0.grownBy w' r:=⟨hg.os.trans h.os,hg.tape.trans h.tape,hg.output.trans h.output,Nat.le_trans h.size hg.size,fun k hk aR=>(hg.block k (by have:=h.size;omega) (fun e=>aR (hr k hk e.symm).symm)).trans (h.block k hk aR)⟩
theorem Dr{w0 w:World}{r:Option Nat}{a:Addr}{u:Value}(h:w0.grownBy w r)(aR:r≠some a.block)(hc:w0.cell? a=some u):w.cell? a=some u:=by have hb:=h.block a.block (BC hc) aR.symm;unfold World.cell? at hc ⊢;rw [hb];exact hc
theorem Ds{w0 w:World}{r:Option Nat}{B:Nat}(h:w0.grownBy w r)(hB:B≤w0.heap.size)(hr:∀b,r=some b→B≤b):Below B w0 w:=⟨h.os,h.tape,h.output,h.size,fun k hk=>h.block k (by omega) (fun e=>by have:=hr k e.symm;omega)⟩
theorem AI.from{α:Type}{enc:α→List Value}{k:Nat}{w:World}{base e n:Nat}{v:Value}{l:List α}(h:AI enc k w base e v n l):∀b,v.ownBlock=some b→base≤b:=fun b hb=>(World.ownsRow.lt h b hb).1
theorem AI.under{α:Type}{enc:α→List Value}{k:Nat}{w:World}{base e n:Nat}{v:Value}{l:List α}(h:AI enc k w base e v n l):∀b,v.ownBlock=some b→b<w.heap.size:=fun b hb=>(World.ownsRow.lt h b hb).2
end
section
open Go.Sort Go.Lib
def IW(a:LH):List Int:=if a.kind=1 then [] else a.rho::BN a.eff
def B2:RT→List Int:=AD.fold (fun a l=>IW a++l.flatten)
theorem Fa(a:LH)(l:List RT):B2 (.node a l)=IW a++l.flatMap B2:=by show AD.fold _ _=_;rw [AD.fold_node,List.flatMap_def];rfl
def Au(l:List PT):List Int:=l.flatMap (fun t=>B2 t.er)
theorem Ka(x:PT):B2 x.er=IW x.head.plain++Au x.kids:=by obtain⟨a,l⟩:=x;rw [PT.er_node,Fa,List.flatMap_map];rfl
theorem KZ{l:List PT}{k:Nat}{x:PT}(h:l[k]?=some x):Au (l.take (k+1))=Au (l.take k)++(IW x.head.plain++Au x.kids):=by unfold Au;rw [AJ h,List.flatMap_append,List.flatMap_singleton,Ka];rfl
theorem Ly{l:List PT}{x:PT}(h:x∈l):(Au x.kids).length≤(Au l).length:=by
 have h1:(B2 x.er).length≤(Au l).length:=by unfold Au;rw [List.length_flatMap];exact Ay (List.mem_map_of_mem (f:=fun t=>(B2 (PT.er t)).length) h)
 rw [Ka,List.length_append] at h1;omega
theorem RU{l:List PT}{k:Nat}{x:PT}(h:l[k]?=some x):(Au (l.take k)).length+((IW x.head.plain).length+(Au x.kids).length)≤(Au l).length:=by
 have h1:=KZ h;have h2:Au l=Au (l.take (k+1))++Au (l.drop (k+1)):=by unfold Au;rw [←List.flatMap_append,List.take_append_drop]
 rw [h2,h1];simp only [List.length_append];omega
def U7(n:Nat)(l:List PT):Prop:=∀x∈l,x.head.en≤n
def O8(x:PT)(W:World):Prop:=Calls prog 185 #[.slice x.head.kp x.head.kn x.head.kc] W fun e w'=>∃v,e=.returned v∧AI Am 1 w' W.heap.size 3 v (Au x.kids).length (Au x.kids)∧Below W.heap.size W w'
theorem Jj{b o:Nat}{ep:Option Addr}{en ec:Nat}{eff:List AB}{w:World}(hc:w.cell? ⟨b,o,none⟩=some (.slice ep en ec))(hr:AF AP 3 w ep en ec eff)(hm:en≤1000000):Calls prog 132 #[.slice (some ⟨b,o,none⟩) 1 1] w fun e w'=>∃q m c,e=.returned (.slice q m c)∧m≤1000000∧AF Am 1 w' q m c (BN eff)∧Below w.heap.size w w':=by
 have h:=EG (some ⟨b,o,none⟩) 1 1 [⟨ep,en,ec,eff⟩] w rfl (by omega) (.inr ⟨b,o,rfl,BC hc,fun j x hx i u hi=>by
  rcases j with _|j
  ·simp at hx;subst hx;rcases i with _|i
   ·simp [Eu] at hi;subst hi;simpa using hc
   ·simp [Eu] at hi
  ·simp at hx⟩) (fun r ah=>by
   have:r=⟨ep,en,ec,eff⟩:=by simpa using ah
   subst this;exact⟨hr.len,hr.le,hr.nil,hr.row⟩) (by simpa using hm)
 simpa using h
theorem BB{α:Type}{enc:α→List Value}{k:Nat}{w:World}{base e n:Nat}{v:Value}{l:List α}(h:AI enc k w base e v n l)(o:Obj):AI enc k (w.alloc o) base e v n l:=h.below ((Below.refl _ w).alloc (Nat.le_refl _) o)
theorem TQ{w:World}{b:Nat}{y:Int}(h:w.cell? ⟨b,0,none⟩=some (.int .i64 y)):At Am 1 w (some ⟨b,0,none⟩) [y]:=
 .inr ⟨b,0,rfl,BC h,fun j x hx i u hi=>by
  rcases j with _|j
  ·simp at hx;subst hx;rcases i with _|i
   ·simp [Am] at hi;subst hi;simpa using h
   ·simp [Am] at hi
  ·simp at hx⟩
theorem Fs{p:Option Addr}{n cap:Nat}{l:List PT}{w:World}(hr:Cy w p n cap l)(hs:(Au l).length≤1000000)(he:U7 1000000 l)(hf:∀x∈l,∀W,Below w.heap.size w W→O8 x W):Calls prog 185 #[.slice p n cap] w fun e w'=>∃v,e=.returned v∧AI Am 1 w' w.heap.size 3 v (Au l).length (Au l)∧Below w.heap.size w w':=by
 have hm:=hr.row.max;have HR:=AA hr;have HF:=AA hf;have HS:=AA hs;have nx:=AA he;clear hr hf hs he;go_enter func185,ntmps185;go_wp2_with fail;go_loopw [3,5,8] (fun u _ i wr=>∃(k m:Nat) (v0:Value),k≤n∧i=.int .i64 k∧v0=u∧AI Am 1 wr w.heap.size 3 v0 m (Au (l.take k))∧Below w.heap.size w wr) (fun _ _ i _=>n-(intOf i).toNat)
 case atStart=>exact⟨0,0,_,by omega,rfl,rfl,AI.nil _ _ _ _ _,Below.refl _ _⟩
 case round=>
  obtain⟨k,m,v0,hk,rfl,rfl,aD,hb⟩:=hrel;have jt:=aD.len Ap (by omega);have aS:=AA aD;have HB:=AA hb;clear aD hb;by_cases aG:k<n
  ·obtain⟨x,hx⟩:=HR.o.at (j:=k) aG;have HE:=AA hx;obtain⟨b,o,rfl,al,d0,d1,d2,d3⟩:=(HR.o.below HB.o).kid hx;have eT:Hd (m+((IW x.head.plain).length+(Au x.kids).length)≤1000000):=by have h1:=RU hx;have h2:=HS.o;show _≤_;omega
   have HT:=AA (KZ hx);have HN:=AA (Bb ((AD.eta x)▸HR.o.lies hx));have eO:=HB.o.size;clear hx al jt;by_cases h1:x.head.kind=1
   ·have bD:(x.head.kind != 1)=false:=by simp [h1]
    have lW:Hd (Au (l.take (k+1))=Au (l.take k)++Au x.kids):=by show _=_;rw [HT.o];simp [IW,RH.plain,h1]
    clear h1;go_wp2_with fail;refine(HF.o x (List.mem_of_getElem? HE.o) _ (HB.o.alloc eO _)).mono ?_;rintro e w5 ⟨v5,rfl,aF,hb⟩;have bJ:=AA ((HB.o.alloc eO _).trans (hb.mono (HB.o.alloc eO _).size));have HV:=AA (AI.below (BB aS.o _) hb);obtain⟨q5,c5,rfl,aK⟩:=aF.isRow Ap (by omega);have bR:=AA aK;clear hb aF aK;go_wp2_with (at_builtin;refine Cx rfl _ _ 24 rfl w.heap.size 3 _ 1 8 underlying24 Kc rfl (by decide) Am Ap FI (Au x.kids) _ _ _ HV.o _ _ _ rfl rfl bR.o.len bR.o.nil bR.o.row ?c1 ?c2 ?c3 ?_)
    case c1=>have:=eT.o;omega
    case c2=>have:=eT.o;omega
    case c3=>exact bJ.o.size
    ·intro v6 w6 aQ bN;have eK:=AA aQ;have gF:=AA (Below.own bJ.o bN bJ.o.size HV.o);clear aQ bN;go_wp2_with fail;go_roundw
     case rel=>exact⟨k+1,_,_,by omega,by go_num,rfl,(by rw [lW.o];exact eK.o),gF.o⟩
     case measure=>simp [intOf];omega
   ·have bD:(x.head.kind != 1)=true:=by simpa using h1
    have mS:Hd ((IW x.head.plain).length=1+(BN x.head.eff).length):=by show _=_;simp [IW,RH.plain,h1];omega
    have lW:Hd (Au (l.take (k+1))=Au (l.take k)++x.head.rho::(BN x.head.eff++Au x.kids)):=by show _=_;rw [HT.o];simp [IW,RH.plain,h1]
    clear h1;have kU:=AA (AI.under aS.o);have ny:=AA (AI.from aS.o);have ph:(wr.alloc (.cells #[.int .u8 x.head.kind,.int .i64 x.head.rho,.slice x.head.ep x.head.en x.head.ec,.slice x.head.kp x.head.kn x.head.kc] 28)).heap.size=wr.heap.size+1:=by simp
    have e1:(wr.alloc (.cells #[.int .u8 x.head.kind,.int .i64 x.head.rho,.slice x.head.ep x.head.en x.head.ec,.slice x.head.kp x.head.kn x.head.kc] 28)).cell? ⟨wr.heap.size,1,none⟩=some (.int .i64 x.head.rho):=by rw [AU];rfl
    have e2:(wr.alloc (.cells #[.int .u8 x.head.kind,.int .i64 x.head.rho,.slice x.head.ep x.head.en x.head.ec,.slice x.head.kp x.head.kn x.head.kc] 28)).cell? ⟨wr.heap.size,2,none⟩=some (.slice x.head.ep x.head.en x.head.ec):=by rw [AU];rfl
    have e3:(wr.alloc (.cells #[.int .u8 x.head.kind,.int .i64 x.head.rho,.slice x.head.ep x.head.en x.head.ec,.slice x.head.kp x.head.kn x.head.kc] 28)).cell? ⟨wr.heap.size,3,none⟩=some (.slice x.head.kp x.head.kn x.head.kc):=by rw [AU];rfl
    have d8:=AA (BB aS.o (.cells #[.int .u8 x.head.kind,.int .i64 x.head.rho,.slice x.head.ep x.head.en x.head.ec,.slice x.head.kp x.head.kn x.head.kc] 28));have cG:=AA (HB.o.alloc eO (.cells #[.int .u8 x.head.kind,.int .i64 x.head.rho,.slice x.head.ep x.head.en x.head.ec,.slice x.head.kp x.head.kn x.head.kc] 28));go_wp2_with fail;generalize wr.alloc (.cells #[.int .u8 x.head.kind,.int .i64 x.head.rho,.slice x.head.ep x.head.en x.head.ec,.slice x.head.kp x.head.kn x.head.kc] 28)=W0 at *
    have bf:Hd (∀W,W0.grownBy W v0.ownBlock→W.cell? ⟨wr.heap.size,1,none⟩=some (.int .i64 x.head.rho)∧W.cell? ⟨wr.heap.size,2,none⟩=some (.slice x.head.ep x.head.en x.head.ec)∧W0.grownBy W v0.ownBlock):=fun W hg=>⟨Dr hg (fun h=>by have:=kU.o _ h;simp at this) e1,Dr hg (fun h=>by have:=kU.o _ h;simp at this) e2,hg⟩;have kS:Hd (∀W,W0.grownBy W v0.ownBlock→W.cell? ⟨wr.heap.size,3,none⟩=some (.slice x.head.kp x.head.kn x.head.kc)∧Below w.heap.size w W):=fun W hg=>⟨Dr hg (fun h=>by have:=kU.o _ h;simp at this) e3,cG.o.trans (Ds hg (by omega) ny.o)⟩;have lO:Hd (∀b,W0.heap.size≤b→v0.ownBlock≠some b):=fun b hb h=>by have:=kU.o _ h;omega
    have iN:m+1≤1000000:=by have:=eT.o;rw [mS.o] at this;omega
    have iU:=AA (nx.o x (List.mem_of_getElem? HE.o));clear e1 e2 e3 d0 d1 d2 d3
    go_region_held3 (fun W=>W.cell? ⟨wr.heap.size,1,none⟩=some (.int .i64 x.head.rho)∧W.cell? ⟨wr.heap.size,2,none⟩=some (.slice x.head.ep x.head.en x.head.ec)∧W0.grownBy W v0.ownBlock)
     (first
      |exact bf.o _ (RX (World.grownBy.refl _ _))
      |exact bf.o _ (Pf (by go_split_ands;assumption) _)
      |exact bf.o _ (DB (by go_split_ands;assumption) dh (fun b _ h=>h))
      |exact bf.o _ (DB (by go_split_ands;assumption) ai lp)
      |exact bf.o _ (Pg (by go_split_ands;assumption) aj))
     (first
      |(
       go_at_call 132;refine(Jj (by first|(go_simp;done)|exact Dr dh (lO.o _ (by first|omega|(simp;omega))) (by go_simp)) (HN.o.own.eff.below (kS.o _ (by go_split_ands;assumption)).2) iU.o).mono ?_;rintro e w2 ⟨q2,m2,c2,rfl,il,cr,aj⟩;have kC:w.heap.size≤w2.heap.size:=Nat.le_trans (kS.o _ (by go_split_ands;assumption)).2.size aj.size)
      |(
       refine AS (by rfl) _ _ 24 (by rfl) w.heap.size 3 _ 1 8 underlying24 Kc rfl (by decide) Am Ap FI [x.head.rho] _ _ v0 (by first|exact BB (AI.drew d8.o) _|exact BB (BB (AI.drew d8.o) _) _) _ 1 _ (by rfl) (by rfl) rfl (by intro h;cases h) (TQ (by go_simp)) (by omega) (by omega) (by simp;have:=cG.o.size;omega) ?_;intro v1 w1 fR dh jc;have lp:∀b,b<W0.heap.size→v1.ownBlock=some b→v0.ownBlock=some b:=fun b hb=>jc b (by simp;omega))
      |(
       refine AS (by rfl) _ _ 24 (by rfl) w.heap.size 3 _ 1 8 underlying24 Kc rfl (by decide) Am Ap FI (BN x.head.eff) _ _ v1 (by first|exact AI.below fR aj|exact AI.below (BB fR _) aj) _ m2 _ (by rfl) (by rfl) cr.len cr.nil cr.row (by omega) (by omega) kC ?_;intro v3 w3 aE ai a7))
    all_goals (
     have eX:W0.grownBy w3 v0.ownBlock:=by go_split_ands;assumption
     have jW:=(kS.o _ eX).1;have aT:=AA (kS.o _ eX).2;have ee:=AA aE;have gL:Hd (m+1+m2+(Au x.kids).length≤1000000):=by have h1:=eT.o;have h2:=mS.o;have h3:=cr.len;show _≤_;omega
     clear eX fR dh lp jc cr aj kC aE ai a7 il ph iN)
    all_goals (
     go_wp2_with fail;refine(HF.o x (List.mem_of_getElem? HE.o) _ (aT.o)).mono ?_;rintro e w5 ⟨v5,rfl,aF,hb⟩;have bJ:=AA ((aT.o).trans (hb.mono (aT.o).size));have HV:=AA (AI.below (ee.o) hb);obtain⟨q5,c5,rfl,aK⟩:=aF.isRow Ap (by omega);have bR:=AA aK;clear hb aF aK;go_wp2_with (at_builtin;refine Cx rfl _ _ 24 rfl w.heap.size 3 _ 1 8 underlying24 Kc rfl (by decide) Am Ap FI (Au x.kids) _ _ _ HV.o _ _ _ rfl rfl bR.o.len bR.o.nil bR.o.row ?c1 ?c2 ?c3 ?_)
     case c1=>have:=gL.o;omega
     case c2=>have:=gL.o;omega
     case c3=>exact bJ.o.size
     ·intro v6 w6 aQ bN;have eK:=AA aQ;have gF:=AA (Below.own bJ.o bN bJ.o.size HV.o);clear aQ bN;go_wp2_with fail;go_roundw
      case rel=>exact⟨k+1,_,_,by omega,by go_num,rfl,(by rw [lW.o];exact eK.o),gF.o⟩
      case measure=>simp [intOf];omega
     )
  ·have bV:k=n:=by omega
   subst bV;go_wp2_with fail;go_ret;have h:=aS.o;rw [AY (by rw [HR.o.row.len];omega)] at h;have hl:=h.len Ap (by omega);rw [←hl] at h;exact⟨_,rfl,h,HB.o⟩
theorem Pb(t:PT):∀w,LR.lies w t→(Au t.kids).length≤1000000→AD.all (fun a _=>decide (a.en≤1000000)) t=true→O8 t w:=by
 refine AD.ind (P:=fun(t:PT)=>∀w,LR.lies w t→(Au t.kids).length≤1000000→AD.all (fun a _=>decide (a.en≤1000000)) t=true→O8 t w) (fun a l ih=>?_) t;intro w hl hs he;have HN:=Bb hl;rw [AD.all_node,Bool.and_eq_true,List.all_eq_true] at he
 exact Fs (l:=l) HN.rowT hs (fun x hx=>by
  have h:=he.2 x hx;obtain⟨b,m⟩:=x;rw [AD.all_node,Bool.and_eq_true] at h;simpa [AD.head] using h.1) (fun x hx W hW=>ih x hx W (LR.lies_below hW x (HN.each x hx)) (Nat.le_trans (Ly hx) hs) (he.2 x hx))
def UN(l:List PT):Prop:=∀x∈l,AD.all (fun a _=>decide (a.en≤1000000)) x=true
theorem JB{p:Option Addr}{n cap:Nat}{l:List PT}{w:World}(hr:Cy w p n cap l)(hs:(Au l).length≤1000000)(he:UN l):Calls prog 185 #[.slice p n cap] w fun e w'=>∃v,e=.returned v∧AI Am 1 w' w.heap.size 3 v (Au l).length (Au l)∧Below w.heap.size w w':=
 Fs hr hs (fun x hx=>by
  have h:=he x hx;obtain⟨b,m⟩:=x;rw [AD.all_node,Bool.and_eq_true] at h;simpa [AD.head] using h.1) (fun x hx W hW=>Pb x W (LR.lies_below hW x (hr.each x hx)) (Nat.le_trans (Ly hx) hs) (he x hx))
theorem Ga{p:Option Addr}{n cap:Nat}{l:List PT}{w:World}(hr:Cy w p n cap l)(hs:(Au l).length≤1000000)(he:UN l):Calls prog 133 #[.slice p n cap] w fun e w'=>∃q m c,e=.returned (.slice q m c)∧m≤1000000∧AF Am 1 w' q m c (BU (Au l))∧Below w.heap.size w w':=by
 have HG:=AA (JB hr hs he);have HS:=AA hs;clear hr hs he;generalize hL:Au l=L at *
 clear hL;go_enter func133,ntmps133;go_wp2_with fail;refine HG.o.mono ?_;rintro e w1 ⟨v,rfl,aD,hb⟩;have HO:=AA aD;have HB:=AA hb;clear hb;clear aD;rcases HO.o.split Ap (by omega) with⟨rfl,fN,aY⟩|⟨g,cp,rfl,iI,fJ⟩
 ·have d7:=AA aY;clear aY fN;go_wp2_with fail;refine(slices_Sort_int_none none 0 _).mono ?_;rintro e w2 ⟨rfl,rfl⟩;go_wp2_with fail;refine(slices_Compact_int_empty none 0 _).mono ?_;rintro e w3 ⟨rfl,rfl⟩;go_wp2_with fail;go_ret;exact⟨none,0,0,rfl,by omega,by rw [d7.o];exact AF.none _ _ _,HB.o⟩
 ·go_wp2_with fail;refine(JC g cp _ _ w.heap.size w1 HO.o (by have:=HS.o;omega)).mono ?_;rintro e w2 ⟨rfl,gc,dh⟩;have aO:=AA (AI.drop_base (enc:=Am) (k:=1) dh fJ HB.o HB.o.size);have fC:=AA gc;clear gc dh;go_wp2_with fail;refine(FX g cp _ _ w.heap.size w2 fC.o iI (by have:=HS.o;omega)).mono ?_;rintro e w3 ⟨m',rfl,cq,eZ,ai⟩;have aI:=AA (AI.drop_base (enc:=Am) (k:=1) ai fJ aO.o aO.o.size);rw [Eb] at eZ;obtain⟨p',c',hv,aB⟩:=eZ.isRow Ap (by omega);cases hv;have an:=AA aB;clear eZ ai aB;go_wp2_with fail;go_ret;exact⟨_,m',_,rfl,by have:=HS.o;omega,an.o,aI.o⟩
end
section
open Go.Sort Go.Lib
theorem Km{α:Type}{enc:α→List Value}{k:Nat}(hk:∀x,(enc x).length=k)(w:World)(base e:Nat)(l:List α)(n:Nat)(cs:Array Value)(ao:cs=(l.flatMap enc).toArray)(hn:l.length=n)(hm:n≤maxLen)(hb:base≤w.heap.size):AI enc k (w.alloc (.cells cs e)) base e (.slice (some ⟨w.heap.size,0,none⟩) n n) n l:=by subst ao;refine⟨by rw [Aj hk,hn],.inr ⟨w.heap.size,n,_,rfl,hb,heap_alloc_new w _,Nat.le_refl _,hm,by simp [←hn];rw [←Aj hk];simp,?_⟩⟩;rw [←hn,←Aj hk];exact List.take_length
theorem AW{α:Type}{enc:α→List Value}{k:Nat}(hk:∀x,(enc x).length=k)(bC:0<k)(w:World)(e:Nat)(l:List α)(n:Nat)(cs:Array Value)(ao:cs=(l.flatMap enc).toArray)(hn:l.length=n)(hm:n≤maxLen):AF enc k (w.alloc (.cells cs e)) (some ⟨w.heap.size,0,none⟩) n n l:=by obtain⟨p,cap,hv,hr⟩:=(Km hk w 0 e l n cs ao hn hm (Nat.zero_le _)).isRow hk bC;cases hv;exact hr
theorem AL{w0 w w':World}(h:Below w0.heap.size w0 w)(hb:Below w.heap.size w w'):Below w0.heap.size w0 w':=h.trans (hb.mono h.size)
theorem AQ{w0 w:World}(h:Below w0.heap.size w0 w)(o:Obj):Below w0.heap.size w0 (w.alloc o):=h.alloc h.size o
theorem AR(w0:World):Below w0.heap.size w0 w0.drew:=⟨rfl,rfl,rfl,Nat.le_refl _,fun _ _=>rfl⟩
theorem Cp{l:List AB}(h:BS l=false):l.length≤200:=by unfold BS at h;simp only [Bool.or_eq_false_iff,decide_eq_false_iff_not] at h;omega
end
section
open Go.Sort Go.Lib
theorem FO{w:World}{t:PT}(hl:LR.lies w t)(e:Nat):Cy (w.alloc (.cells #[.int .u8 t.head.kind,.int .i64 t.head.rho,.slice t.head.ep t.head.en t.head.ec,.slice t.head.kp t.head.kn t.head.kc] e)) (some ⟨w.heap.size,0,none⟩) 1 1 [t]:=by
 refine⟨AW DW (by omega) w e [t] 1 _ ?_ rfl (by decide),fun x hx=>?_⟩
 ·simp [Qd,KV]
 ·have:x=t:=by simpa using hx
  subst this;exact LR.lies_below ((Below.refl _ w).alloc (Nat.le_refl _) _) x hl
theorem La{w:World}{t:PT}(hl:LR.lies w t){r:Bool}(hr:Bj t.er=r)(ty:Nat){g:Nat}(bF:w.heap.size=g):Calls prog 129 #[.slice (some ⟨g,0,none⟩) 1 1] (w.alloc (.cells #[.int .u8 t.head.kind,.int .i64 t.head.rho,.slice t.head.ep t.head.en t.head.ec,.slice t.head.kp t.head.kn t.head.kc] ty)) fun e w'=>e=.returned (.bool r)∧Below (w.heap.size+1) (w.alloc (.cells #[.int .u8 t.head.kind,.int .i64 t.head.rho,.slice t.head.ep t.head.en t.head.ec,.slice t.head.kp t.head.kn t.head.kc] ty)) w':=by subst hr;subst bF;have h:=LZ (FO hl ty);refine h.mono ?_;rintro e w' ⟨rfl,hb⟩;exact⟨by simp,by simpa using hb⟩
end
section
open Go.Sort Go.Lib
theorem K4{α:Type}(f g:α→Nat)(k:Nat):∀l:List α,(∀x∈l,f x≤k * g x)→(l.map f).sum≤k * (l.map g).sum
 |[],_=>by simp
 |x::l,h=>by have h1:=h x (List.mem_cons_self ..);have h2:=K4 f g k l (fun y hy=>h y (List.mem_cons_of_mem _ hy));simp only [List.map_cons,List.sum_cons,Nat.mul_add];omega
theorem Ub(a:LH)(h:BS a.eff=false):(IW a).length≤201:=by
 unfold IW;have h1:=LY a.eff;have h2:=Cp h;split
 ·simp
 ·simp only [List.length_cons];omega
theorem Mh(t:RT):BL t=true→(B2 t).length≤201 * t.size:=by refine AD.ind (P:=fun t=>BL t=true→(B2 t).length≤201 * t.size) (fun a l ih h=>?_) t;rw [BG,Bool.and_eq_true,List.all_eq_true] at h;rw [Fa,List.length_append,AD.size_node,List.length_flatMap];have h1:=Ub a (by simpa using h.1);have h2:=K4 (fun t=>(B2 t).length) AD.size 201 l (fun x hx=>ih x hx (h.2 x hx));omega
theorem KU(t:PT){w:World}:LR.lies w t→BL t.er=true→AD.all (fun a _=>decide (a.en≤1000000)) t=true:=by refine AD.ind (P:=fun(t:PT)=>LR.lies w t→BL t.er=true→AD.all (fun a _=>decide (a.en≤1000000)) t=true) (fun a l ih hl h=>?_) t;have HN:=Bb hl;rw [PT.er_node,BG,Bool.and_eq_true,List.all_map,List.all_eq_true] at h;rw [AD.all_node,Bool.and_eq_true,List.all_eq_true];refine⟨?_,fun x hx=>ih x hx (HN.each x hx) (h.2 x hx)⟩;have h1:=Cp (show BS a.eff=false by simpa [RH.plain] using h.1);have h2:=HN.own.eff.len;simp;omega
theorem Gk(t:PT):t.er.size=t.size:=AD.size_map _ t
end
section
open Go.Sort Go.Lib
def Ez(a b:LH):Bool:=decide (a.kind=b.kind)&&decide (a.rho=b.rho)&&(Ag a.eff b.eff&&Ag b.eff a.eff)
def Cl(x y:PT):Bool:=AD.same Ez x.er y.er
def Gc(l m:List PT):Bool:=AD.sameL Ez (l.map PT.er) (m.map PT.er)
theorem QD(a b:RH)(l m:List PT):Cl (.node a l) (.node b m)=(Ez a.plain b.plain&&Gc l m):=by unfold Cl;rw [PT.er_node,PT.er_node,AD.same_node];rfl
theorem QC{l m:List PT}(hl:l.length=m.length)(h:∀(j:Nat) (x y:PT),l[j]?=some x→m[j]?=some y→Cl x y=true):Gc l m=true:=by unfold Gc;rw [AD.sameL_get];refine⟨by simp [hl],fun j t u ht hu=>?_⟩;rw [List.getElem?_map] at ht hu;obtain⟨x,hx,rfl⟩:=Option.map_eq_some_iff.1 ht;obtain⟨y,hy,rfl⟩:=Option.map_eq_some_iff.1 hu;exact h j x y hx hy
theorem Rv{l m:List PT}(hl:l.length≠m.length):Gc l m=false:=by rw [Bool.eq_false_iff];intro h;exact hl (by simpa using AD.sameL_length _ _ _ h)
theorem Oe{l m:List PT}{j:Nat}{x y:PT}(hx:l[j]?=some x)(hy:m[j]?=some y)(h:Cl x y=false):Gc l m=false:=by rw [Bool.eq_false_iff];intro hs;unfold Gc at hs;rw [AD.sameL_get] at hs;have:=hs.2 j x.er y.er (by rw [List.getElem?_map,hx];rfl) (by rw [List.getElem?_map,hy];rfl);unfold Cl at h;rw [h] at this;cases this
def MR(x y:PT)(W:World):Prop:=Calls prog 142 #[C9 x.head,C9 y.head] W fun e w'=>e=.returned (.bool (Cl x y))∧Below W.heap.size W w'
def SI(fid:FuncId)(w:World)(l m:List PT):Prop:=∀x∈l,∀y∈m,∀r,Cl x y=r→∀W,Below w.heap.size w W→Calls prog fid #[C9 x.head,C9 y.head] W fun e w'=>e=.returned (.bool r)∧Below W.heap.size W w'
theorem Ju(fid:FuncId)(ag:DJ fid){p:Option Addr}{n cap:Nat}{l:List PT}{q:Option Addr}{m mc:Nat}{l':List PT}{w:World}(hr:Cy w p n cap l)(ah:Cy w q m mc l')(hf:SI fid w l l'):Calls prog 192 #[.slice p n cap,.slice q m mc,.func (.func fid) #[] #[]] w (RB w (.bool (Gc l l'))):=by
 unfold DJ at ag;have hm:=hr.row.max;have HR:=AA hr;have dF:=AA ah;have HF:=AA hf;clear hr ah hf;by_cases iQ:n=m
 ·subst iQ;go_enter func192,ntmps192;go_wp2_with fail;go_loopw [7,8,9,17] (fun _ _ _ i wr=>∃k:Nat,k≤n∧i=.int .i64 k∧(∀(j:Nat) (x y:PT),j<k→l[j]?=some x→l'[j]?=some y→Cl x y=true)∧Below w.heap.size w wr) (fun _ _ _ i _=>n-(intOf i).toNat)
  case atStart=>exact⟨0,by omega,rfl,fun j x y hj=>by omega,Below.refl _ _⟩
  case round=>
   obtain⟨k,hk,rfl,aw,hb⟩:=hrel;have a8:=AA aw;have HB:=AA hb;clear aw hb;by_cases aG:k<n
   ·obtain⟨x,hx⟩:=HR.o.at (j:=k) aG;obtain⟨y,hy⟩:=dF.out.at (j:=k) aG;have HX:=AA hx;have HY:=AA hy;obtain⟨b,o,rfl,al,d0,d1,d2,d3⟩:=(HR.o.below HB.o).kid hx;obtain⟨b',o',rfl,pB,e0,e1,e2,e3⟩:=(dF.out.below HB.o).kid hy;have ie:=(HB.o.alloc HB.o.size (.cells #[.int .u8 x.head.kind,.int .i64 x.head.rho,.slice x.head.ep x.head.en x.head.ec,.slice x.head.kp x.head.kn x.head.kc] 28));have aI:=AA (ie.alloc ie.size (.cells #[.int .u8 y.head.kind,.int .i64 y.head.rho,.slice y.head.ep y.head.en y.head.ec,.slice y.head.kp y.head.kn y.head.kc] 28));clear hx hy ie;cases hq:Cl x y
    ·have HQ:=AA hq;clear hq;go_wp2_with fail;refine(HF.o x (List.mem_of_getElem? HX.o) y (List.mem_of_getElem? HY.o) _ HQ.o _ aI.o).mono ?_;rintro e w1 ⟨rfl,hb⟩;have aT:=bt aI hb;clear hb d0 d1 d2 d3 e0 e1 e2 e3;go_wp2_with fail;go_ret;exact⟨AE (Oe HX.o HY.o HQ.o).symm,aT.o⟩
    ·have HQ:=AA hq;clear hq;go_wp2_with fail;refine(HF.o x (List.mem_of_getElem? HX.o) y (List.mem_of_getElem? HY.o) _ HQ.o _ aI.o).mono ?_;rintro e w1 ⟨rfl,hb⟩;have aT:=bt aI hb;clear hb d0 d1 d2 d3 e0 e1 e2 e3;go_wp2_with fail;go_roundw
     case rel=>
      refine⟨k+1,by omega,by go_num,fun j x' y' hj eH b9=>?_,aT.o⟩;by_cases jk:j=k
      ·subst jk;have h1:=HX.o;have h2:=HY.o;rw [eH] at h1;rw [b9] at h2;cases h1;cases h2;exact HQ.o
      ·exact a8.o j x' y' (by omega) eH b9
     case measure=>simp [intOf];omega
   ·have bV:k=n:=by omega
    go_wp2_with fail;go_ret;have hs:Gc l l'=true:=QC (by rw [HR.o.row.len,dF.out.row.len]) (fun j x y hx hy=>a8.o j x y (by have h1:=(List.getElem?_eq_some_iff.1 hx).1;have h2:=HR.o.row.len;omega) hx hy);exact⟨AE hs.symm,HB.o⟩
 ·have aR:Hd (Gc l l'=false):=Rv (by rw [HR.o.row.len,dF.out.row.len];exact iQ);have hb:((n:Int) != (m:Int))=true:=by rw [bne_iff_ne];omega
  clear iQ;go_enter func192,ntmps192;go_wp2_with fail;go_ret;exact⟨AE aR.out.symm,Below.refl _ _⟩
theorem GK{p:Option Addr}{n cap:Nat}{l:List AB}{q:Option Addr}{m mc:Nat}{l':List AB}{w:World}{r:Bool}(h:(Ag l l'&&Ag l' l)=r)(hr:AF AP 3 w p n cap l)(ah:AF AP 3 w q m mc l'):Calls prog 191 #[.slice p n cap,.slice q m mc] w (RB w (.bool r)):=by subst h;exact Jk p n cap l q m mc l' w hr.len hr.max hr.row ah.len ah.max ah.row
theorem Dz{p:Option Addr}{n cap:Nat}{l:List AB}{q:Option Addr}{m mc:Nat}{l':List AB}{w:World}{r:Bool}(h:Ag l l'=r)(hr:AF AP 3 w p n cap l)(ah:AF AP 3 w q m mc l'):Calls prog 25 #[.slice p n cap,.slice q m mc] w (RB w (.bool r)):=by subst h;exact Kr p n cap l q m mc l' w hr.len hr.max hr.row ah.len ah.max ah.row
theorem No{w w1:World}{a b:RH}(hb:Below (w.heap.size+2) ((w.alloc (.cells #[.int .u8 a.kind,.int .i64 a.rho,.slice a.ep a.en a.ec,.slice a.kp a.kn a.kc] 28)).alloc (.cells #[.int .u8 b.kind,.int .i64 b.rho,.slice b.ep b.en b.ec,.slice b.kp b.kn b.kc] 28)) w1):(w1.cell? ⟨w.heap.size,0,none⟩=some (.int .u8 a.kind)∧w1.cell? ⟨w.heap.size,1,none⟩=some (.int .i64 a.rho)∧w1.cell? ⟨w.heap.size,2,none⟩=some (.slice a.ep a.en a.ec)∧w1.cell? ⟨w.heap.size,3,none⟩=some (.slice a.kp a.kn a.kc))∧(w1.cell? ⟨w.heap.size+1,0,none⟩=some (.int .u8 b.kind)∧w1.cell? ⟨w.heap.size+1,1,none⟩=some (.int .i64 b.rho)∧w1.cell? ⟨w.heap.size+1,2,none⟩=some (.slice b.ep b.en b.ec)∧w1.cell? ⟨w.heap.size+1,3,none⟩=some (.slice b.kp b.kn b.kc)):=by refine⟨⟨?_,?_,?_,?_⟩,?_,?_,?_,?_⟩<;>(rw [hb.cell (by simp)];go_simp)
abbrev Uq(w:World)(a b:RH):World:=(w.alloc (.cells #[.int .u8 a.kind,.int .i64 a.rho,.slice a.ep a.en a.ec,.slice a.kp a.kn a.kc] 28)).alloc (.cells #[.int .u8 b.kind,.int .i64 b.rho,.slice b.ep b.en b.ec,.slice b.kp b.kn b.kc] 28)
theorem Nn(w:World)(a b:RH):Below w.heap.size w (Uq w a b):=((Below.refl w.heap.size w).alloc (Nat.le_refl _) _).alloc (by simp) _
theorem Lb{a b:RH}{l m:List PT}{w:World}(ha:A4 w a l)(hb:A4 w b m)(hf:SI 142 w l m):MR (.node a l) (.node b m) w:=by
 have aM:=AA (Nn w a b);have gM:=AA ha;have gv:=AA hb;have HF:=AA hf;have HP:=AA (QD a b l m);show Calls _ _ #[C9 a,C9 b] w _;clear ha hb hf;by_cases h1:a.kind=b.kind
 ·have b1:(a.kind==b.kind)=true:=by simpa using h1
  by_cases h2:a.rho=b.rho
  ·have b2:(a.rho==b.rho)=true:=by simpa using h2
   cases h3:(Ag a.eff b.eff&&Ag b.eff a.eff)
   ·have HS:Hd (Cl (.node a l) (.node b m)=false):=by show _=_;rw [HP.o];simp only [Ez,RH.plain,h3,Bool.and_false,Bool.false_and]
    have H3:=AA h3;clear h1 h2 h3;go_enter func142,ntmps142;go_wp2_with fail;refine(GK H3.o (gM.o.below aM.o).own.eff (gv.o.below aM.o).own.eff).mono ?_;rintro e w1 ⟨rfl,hb⟩;have aO:=bt aM hb;clear hb;go_wp2_with fail;go_ret;exact⟨AE HS.o.symm,aO.o⟩
   ·have HS:Hd (Cl (.node a l) (.node b m)=Gc l m):=by show _=_;rw [HP.o];simp only [Ez,RH.plain,h1,h2,h3,decide_true,Bool.true_and]
    have H3:=AA h3;clear h1 h2 h3;generalize hk:Gc l m=K at HS;have HK:=AA hk;clear hk;go_enter func142,ntmps142;go_wp2_with fail;refine(GK H3.o (gM.o.below aM.o).own.eff (gv.o.below aM.o).own.eff).mono ?_;rintro e w1 ⟨rfl,hb⟩;have aO:=bt aM hb;have HC:Hd (Below (w.heap.size+2) (Uq w a b) w1):=by show Below _ _ _;simpa using hb
    clear hb;obtain⟨⟨d0,d1,d2,d3⟩,e0,e1,e2,e3⟩:=No HC.o;go_wp2_with fail;refine(Ju 142 (fun a w=>call142 a w) (gM.o.below aO.o).rowT (gv.o.below aO.o).rowT (fun x hx y hy r hq W hW=>HF.o x hx y hy r hq W (aO.o.trans (hW.mono aO.o.size)))).mono ?_;rintro e w2 ⟨rfl,hb⟩;have aI:=bt aO hb;rw [HK.o];clear hb d0 d1 d2 d3 e0 e1 e2 e3;go_wp2_with fail;go_ret;exact⟨AE HS.o.symm,aI.o⟩
  ·have b2:(a.rho==b.rho)=false:=by rw [beq_eq_false_iff_ne];exact h2
   have HS:Hd (Cl (.node a l) (.node b m)=false):=by show _=_;rw [HP.o];simp [Ez,RH.plain,h2]
   clear h1 h2;go_enter func142,ntmps142;go_wp2_with fail;go_ret;exact⟨AE HS.o.symm,aM.o⟩
 ·have b1:(a.kind==b.kind)=false:=by rw [beq_eq_false_iff_ne];exact h1
  have HS:Hd (Cl (.node a l) (.node b m)=false):=by show _=_;rw [HP.o];simp [Ez,RH.plain,h1]
  clear h1;go_enter func142,ntmps142;go_wp2_with fail;go_ret;exact⟨AE HS.o.symm,aM.o⟩
theorem QA(x:PT):∀y w,LR.lies w x→LR.lies w y→MR x y w:=by refine AD.ind (P:=fun(x:PT)=>∀y w,LR.lies w x→LR.lies w y→MR x y w) (fun a l ih=>?_) x;intro y w hx hy;obtain⟨b,m⟩:=y;have HX:=Bb hx;have HY:=Bb hy;refine Lb HX HY (fun x hx y hy r hq W hW=>?_);have:=ih x hx y W (LR.lies_below hW x (HX.each x hx)) (LR.lies_below hW y (HY.each y hy));unfold MR at this;rw [hq] at this;exact this
theorem DE{x y:PT}{w:World}{r:Bool}(h:Cl x y=r)(hx:LR.lies w x)(hy:LR.lies w y):Calls prog 142 #[C9 x.head,C9 y.head] w (RB w (.bool r)):=by subst h;exact QA x y w hx hy
end
section
open Go.Sort Go.Lib
theorem PM{w w1:World}{t:PT}(hb:Below (w.heap.size+1) (w.alloc (.cells #[.int .u8 t.head.kind,.int .i64 t.head.rho,.slice t.head.ep t.head.en t.head.ec,.slice t.head.kp t.head.kn t.head.kc] 28)) w1):w1.cell? ⟨w.heap.size,0,none⟩=some (.int .u8 t.head.kind)∧w1.cell? ⟨w.heap.size,1,none⟩=some (.int .i64 t.head.rho)∧w1.cell? ⟨w.heap.size,2,none⟩=some (.slice t.head.ep t.head.en t.head.ec)∧w1.cell? ⟨w.heap.size,3,none⟩=some (.slice t.head.kp t.head.kn t.head.kc):=by refine⟨?_,?_,?_,?_⟩<;>(rw [hb.cell (by simp),AU];rfl)
end
section
open Go.Sort Go.Lib
structure V3 where
 kind:Int
 var:Int
structure BH where
 kind:Int
 var:Int
 kp:Option Addr
 kn:Nat
 kc:Nat
abbrev PB:=AD BH
abbrev BT:=AD V3
def BH.plain(a:BH):V3:=⟨a.kind,a.var⟩
def PB.er(t:PB):BT:=AD.map BH.plain t
theorem PB.er_node(a:BH)(l:List PB):PB.er (.node a l)=.node a.plain (l.map PB.er):=AD.map_node _ a l
def Ve(a:BH):List Value:=[.int .u8 a.kind,.int .i64 a.var,.slice a.kp a.kn a.kc]
structure BH.Own(a:BH):Prop where
 kmax:a.kn≤9223372036854775807
 kle:a.kn≤a.kc
 knil:a.kp=none→a.kc=0
def LB:F7 BH where
 enc:=Ve
 k:=3
 own:=fun _=>BH.Own
 kp:=BH.kp
 kn:=BH.kn
 len:=fun _=>rfl
 below:=fun h _=>h
def Qx(B E:Nat)(t:PB):Prop:=∀a∈t.nodes,∀ad,a.kp=some ad→B≤ad.block∧ad.block<E
theorem Qx.mono{B E B' E':Nat}{t:PB}(h:Qx B E t)(hB:B'≤B)(hE:E≤E'):Qx B' E' t:=fun a ha ad hp=>by have:=h a ha ad hp;omega
theorem Qx.node{B E:Nat}{a:BH}{l:List PB}(ha:∀ad,a.kp=some ad→B≤ad.block∧ad.block<E)(hl:∀t∈l,Qx B E t):Qx B E (.node a l):=by
 intro x hx;rw [AD.nodes_node,List.mem_cons] at hx;rcases hx with rfl|hx
 ·exact ha
 ·rw [List.mem_flatten] at hx;obtain⟨m,hm,hx⟩:=hx;obtain⟨t,ht,rfl⟩:=List.mem_map.1 hm;exact hl t ht x hx
theorem P7{α:Type}{enc:α→List Value}{k:Nat}{w w':World}{r:Option Nat}{p:Option Addr}{l:List α}(hg:w.grownBy w' r)(aR:∀ad,p=some ad→r≠some ad.block)(h:At enc k w p l):At enc k w' p l:=by
 rcases h with h|⟨b,o,rfl,hb,hc⟩
 ·exact .inl h
 ·refine .inr ⟨b,o,rfl,Nat.lt_of_lt_of_le hb hg.size,fun j x hx i u hi=>Dr hg (by exact aR ⟨b,o,none⟩ rfl) (hc j x hx i u hi)⟩
structure LF(w:World)(g:Nat)(x y z:Value):Prop where
 blk:w.heap[g]?=some (.cells #[x,y,z] 45 (0,0))
theorem LF.cells{w:World}{g:Nat}{x y z:Value}(h:LF w g x y z):w.cell? ⟨g,0,none⟩=some x∧w.cell? ⟨g,1,none⟩=some y∧w.cell? ⟨g,2,none⟩=some z∧w.frozen? ⟨g,0,none⟩=false∧w.frozen? ⟨g,1,none⟩=false∧w.frozen? ⟨g,2,none⟩=false:=by have hb:=h.blk;refine⟨?_,?_,?_,?_,?_,?_⟩<;>simp [World.cell?,World.frozen?,hb]
theorem LF.lt{w:World}{g:Nat}{x y z:Value}(h:LF w g x y z):g<w.heap.size:=(Array.getElem?_eq_some_iff.1 h.blk).1
theorem LF.grown{w w':World}{g:Nat}{x y z:Value}{r:Option Nat}(h:LF w g x y z)(hg:w.grownBy w' r)(hr:r≠some g):LF w' g x y z:=⟨by rw [hg.block g h.lt hr.symm];exact h.blk⟩
theorem LF.below{w w':World}{g:Nat}{x y z:Value}(h:LF w g x y z)(hb:Below w.heap.size w w'):LF w' g x y z:=⟨by rw [hb.block g h.lt];exact h.blk⟩
theorem AI.other{α:Type}{enc:α→List Value}{k:Nat}{w w':World}{base e n:Nat}{v:Value}{l:List α}{r:Option Nat}(h:AI enc k w base e v n l)(hg:w.grownBy w' r)(hr:∀b,v.ownBlock=some b→r≠some b):AI enc k w' base e v n l:=by
 refine⟨h.1,?_⟩;rcases h.2 with hn|⟨g,cap,cur,rfl,bB,nD,rest⟩
 ·exact .inl hn
 ·refine .inr ⟨g,cap,cur,rfl,bB,?_,rest⟩;rw [hg.block g (Array.getElem?_eq_some_iff.1 nD).1 (hr g rfl).symm];exact nD
end
section
open Go.Sort Go.Lib
end
section
open Go.Sort Go.Lib
theorem Qg(l:List PT):l.length≤CS l:=by
 unfold CS;induction l with
 |nil=>simp
 |cons x l ih=>have:=AD.size_pos x;simp only [List.length_cons,List.map_cons,List.sum_cons];omega
structure NX(w:World)(a:BH)(l:List PB):Prop where
 own:BH.Own a
 len:l.length=a.kn
 row:At LB.encT 3 w a.kp l
 each:∀t∈l,LB.lies w t
theorem NX.below{w w':World}{a:BH}{l:List PB}(h:NX w a l)(hb:Below w.heap.size w w'):NX w' a l:=⟨h.own,h.len,h.row.below hb,fun t ht=>LB.lies_below hb t (h.each t ht)⟩
theorem NX.kid{w:World}{a:BH}{l:List PB}(h:NX w a l){j:Nat}{t:PB}(hx:l[j]?=some t):∃b o,a.kp=some ⟨b,o,none⟩∧b<w.heap.size∧w.cell? ⟨b,o+j * 3,none⟩=some (.int .u8 t.head.kind)∧w.cell? ⟨b,o+j * 3+1,none⟩=some (.int .i64 t.head.var)∧w.cell? ⟨b,o+j * 3+2,none⟩=some (.slice t.head.kp t.head.kn t.head.kc):=by obtain⟨b,o,hp,hb,hc⟩:=h.row.elem hx;exact⟨b,o,hp,hb,by simpa using hc 0 _ rfl,hc 1 _ rfl,hc 2 _ rfl⟩
end
end Go.Proofs.YtkdjnegfnhldpaaGreatDoor
