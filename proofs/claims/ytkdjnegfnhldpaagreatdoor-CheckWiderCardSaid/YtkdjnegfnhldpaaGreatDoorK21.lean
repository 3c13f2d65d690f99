/- Part 21. -/
import Derived.RangeFuncNested
import Derived.Test.YtkdjnegfnhldpaaGreatDoorK18
set_option linter.unusedVariables false
set_option maxRecDepth 100000
set_option linter.unusedSimpArgs false
set_option maxHeartbeats 40000000
namespace Go.Proofs.YtkdjnegfnhldpaaGreatDoor
open Go.Proofs.Tryz Go.RowKit
structure DV(w0 w:World)(S:Nat→Prop)(t:PA)(p q:Option Addr)(n c m mc:Nat)(env:List BV)(rhos:List Int):Prop where
 old:Below w0.heap.size w0 w
 lies:LA.lies w0 t
 small:A5 t
 good:Fp (PA.er t)
 envA:Cn w0 w S p n c env
 rhosA:AF Am 1 w q m mc rhos
 genv:ID (Ck env)
 s0:∀b,b<w0.heap.size→S b
 new:∀b,w.heap.size≤b→S b
 hn:n+2 * t.size≤900000
 hm:m+50 * t.size≤900000
 hs:202 * t.size≤900000
def MP(w0:World)(t:PA):Prop:=∀(w:World) (S:Nat→Prop) (p q:Option Addr) (n c m mc:Nat) (env:List BV) (rhos:List Int),DV w0 w S t p q n c m mc env rhos →
 Calls prog 38 #[.agg #[.slice p n c,.slice q m mc],An t.head] w (Co w S (chk (Ck env) rhos (PA.er t)))
def Sx(w:World)(S:Nat→Prop)(v:Value)(b:Nat):Prop:=(b<w.heap.size∧S b)∨(w.heap.size+3≤b∧v.ownBlock≠some b)
theorem Mz(t:PA):(PA.er t).size=t.size:=AD.size_map _ t
def UE(l:List PA)(rs:List RV):Prop:=∀(j:Nat) (t:PA) (r:RV),l[j]?=some t→rs[j]?=some r→Es (202 * t.size) r.er∧r.er.1.size≤500
structure D2(w:World)(S:Nat→Prop)(a:AH)(l:List PA)(x y:Value)(env:List EA)(rhos:List Int)(v:Value)(k:Nat)(rs:List RV)(wr:World):Prop where
 nd:Il w a x y wr
 own:AI Bt 5 wr (w.heap.size+3) 81 v k rs
 each:∀r∈rs,r.Ok wr (Sx w S v)
 chk:FE env rhos a.plain 0 [] (l.map PA.er)=FE env rhos a.plain k (BM rs) ((l.drop k).map PA.er)
 acc:UE l rs
theorem OC{w W:World}{S:Nat→Prop}{a:AH}{l:List PA}{x y:Value}{env:List EA}{rhos:List Int}(h:Il w a x y W):D2 w S a l x y env rhos (.slice none 0 0) 0 [] W:=⟨h,AI.nil Bt W _ _ 5,fun r hr=>(by cases hr),by simp [BM],fun j t r _ hr=>by simp at hr⟩
theorem Il.grown{w W W':World}{a:AH}{x y:Value}{r:Option Nat}(h:Il w a x y W)(hg:W.grownBy W' r)(hr:∀b,r=some b→w.heap.size+3≤b):Il w a x y W':=by obtain⟨cs,h1,h2⟩:=h.res;have aL:=h.size;have aR:∀k,k<w.heap.size+3→W'.heap[k]?=W.heap[k]?:=fun k hk=>hg.block k (by omega) (fun e=>by have:=hr k e.symm;omega);exact⟨⟨(aR _ (by omega)).trans h.b.b0,⟨(aR _ (by omega)).trans h.b.b1.blk⟩,h.below.grown hg h.below.size (fun k e=>by have:=hr k e;omega)⟩,⟨cs,h1,(aR _ (by omega)).trans h2⟩,Nat.le_trans h.size hg.size⟩
theorem D2.row{w:World}{S:Nat→Prop}{a:AH}{l:List PA}{x y:Value}{env:List EA}{rhos:List Int}{v:Value}{k:Nat}{rs:List RV}{wr:World}(h:D2 w S a l x y env rhos v k rs wr):∃p c,v=.slice p k c∧IG wr (Sx w S v) p k c rs∧rs.length=k∧∀b,v.ownBlock=some b→w.heap.size+3≤b∧b<wr.heap.size:=by obtain⟨p,c,hv,aB⟩:=AI.isRow FJ (by omega) h.own;exact⟨p,c,hv,⟨aB,h.each⟩,aB.len,fun b hb=>World.ownsRow.lt h.own b hb⟩
theorem D2.below{w:World}{S:Nat→Prop}{a:AH}{l:List PA}{x y:Value}{env:List EA}{rhos:List Int}{v:Value}{k:Nat}{rs:List RV}{wr wr':World}(h:D2 w S a l x y env rhos v k rs wr)(hb:Below wr.heap.size wr wr'):D2 w S a l x y env rhos v k rs wr':=⟨h.nd.step hb,h.own.below hb,fun r hr=>(h.each r hr).below hb,h.chk,h.acc⟩
theorem NF{w:World}{S:Nat→Prop}{v:Value}{W:World}(aL:w.heap.size+3≤W.heap.size)(hv:∀b,v.ownBlock=some b→b<W.heap.size):∀b,W.heap.size≤b→Sx w S v b:=fun b hb=>.inr ⟨by omega,fun e=>by have:=hv b e;omega⟩
theorem Sm{w0 w W:World}{S:Nat→Prop}{v:Value}{p:Option Addr}{n c:Nat}{env:List BV}(h:Cn w0 w S p n c env)(hb:Below w.heap.size w W):Cn w0 W (Sx w S v) p n c env:=⟨h.row.below hb,fun b cv=>((h.each b cv).below hb).weak (fun x hx=>.inl ⟨Aa _ (h.each b cv).ty x hx,(h.each b cv).uses x hx⟩)⟩
theorem D2.push{w:World}{S:Nat→Prop}{a:AH}{l:List PA}{x y:Value}{env:List EA}{rhos:List Int}{v v':Value}{k:Nat}{rs:List RV}{W w3:World}{t:PA}{z:RV}{r:TE}(h:D2 w S a l x y env rhos v k rs W)(ht:l[k]?=some t)(hz:z.Ok W (Sx w S v))(nk:z.er=r)(hc:Go.Proofs.YtkdjnegfnhldpaaGreatDoor.chk (Ai env a.plain k (BM rs)) (Aq rhos a.plain k) (PA.er t)=.ok r)(bG:Es (202 * t.size) r)(aD:AI Bt 5 w3 (w.heap.size+3) 81 v' (k+1) (rs++[z]))(hg:W.grownBy w3 v.ownBlock)(hf:∀b,b<W.heap.size→v'.ownBlock=some b→v.ownBlock=some b):D2 w S a l x y env rhos v' (k+1) (rs++[z]) w3:=by
 obtain⟨_,_,_,_,aJ,dm⟩:=h.row;refine⟨h.nd.grown hg (fun b e=>(dm b e).1),aD,fun u hu=>?_,?_,fun j u q hu hq=>?_⟩
 ·have h1:u.Ok W (Sx w S v):=by
   rcases List.mem_append.1 hu with hu|hu
   ·exact h.each u hu
   ·rw [List.mem_singleton] at hu;subst hu;exact hz
  have h2:u.Ok W (fun b=>Sx w S v b∧Sx w S v' b):=h1.weak (fun b hb hs=>⟨hs,by
   rcases hs with hs|⟨dM,fi⟩
   ·exact .inl hs
   ·exact .inr ⟨dM,fun e=>fi (hf b hb e)⟩⟩)
  refine(h2.grown hg (fun b e hs=>?_)).weak (fun b _ hs=>hs.2);rcases hs.1 with⟨hs,_⟩|⟨_,hs⟩
  ·have:=(dm b e).1;omega
  ·exact hs e
 ·have aG:=CD ht;have hd:l.drop k=t::l.drop (k+1):=by rw [List.drop_eq_getElem_cons aG];congr 1;rw [List.getElem?_eq_getElem aG] at ht;exact Option.some.inj ht
  rw [h.chk,hd,List.map_cons,EW,hc];show FE _ _ _ _ (BM rs++[r]) _=_;congr 1;simp [BM,nk]
 ·rcases Nat.lt_or_ge j rs.length with hj|hj
  ·rw [List.getElem?_append_left hj] at hq;exact h.acc j u q hu hq
  ·rw [List.getElem?_append_right hj] at hq;have jk:j=k:=by have:=CD hq;simp at this;omega
   subst jk;rw [aJ] at hq;simp at hq;subst hq;rw [ht] at hu;cases hu;rw [nk];exact⟨bG,KL _ hc⟩
theorem D2.stop{w:World}{S:Nat→Prop}{a:AH}{l:List PA}{x y:Value}{env:List EA}{rhos:List Int}{v:Value}{k:Nat}{rs:List RV}{W:World}{t:PA}{e:Int×Int}(h:D2 w S a l x y env rhos v k rs W)(ht:l[k]?=some t)(hc:Go.Proofs.YtkdjnegfnhldpaaGreatDoor.chk (Ai env a.plain k (BM rs)) (Aq rhos a.plain k) (PA.er t)=.error e):FE env rhos a.plain 0 [] (l.map PA.er)=.error e:=by
 have aG:=CD ht;have hd:l.drop k=t::l.drop (k+1):=by rw [List.drop_eq_getElem_cons aG];congr 1;rw [List.getElem?_eq_getElem aG] at ht;exact Option.some.inj ht
 rw [h.chk,hd,List.map_cons,EW,hc]
theorem D2.full{w:World}{S:Nat→Prop}{a:AH}{l:List PA}{x y:Value}{env:List EA}{rhos:List Int}{v:Value}{rs:List RV}{W:World}(h:D2 w S a l x y env rhos v l.length rs W):FE env rhos a.plain 0 [] (l.map PA.er)=.ok (BM rs):=by rw [h.chk,List.drop_length];exact GJ _ _ _ _ _
theorem D2.sum{w:World}{S:Nat→Prop}{a:AH}{l:List PA}{x y:Value}{env:List EA}{rhos:List Int}{v:Value}{rs:List RV}{W:World}(h:D2 w S a l x y env rhos v l.length rs W):(rs.map (·.en)).sum≤202 * (l.map AD.size).sum:=by
 have h1:(rs.map (·.en)).sum=D8 (BM rs):=by unfold D8 BM;rw [List.map_map];congr 1;exact List.map_congr_left (fun r hr=>((h.each r hr).eff.len).symm)
 have h2:(l.map AD.size)=((l.map PA.er).map AD.size):=by rw [List.map_map];exact List.map_congr_left (fun t _=>(Mz t).symm)
 obtain⟨_,_,_,_,aJ,_⟩:=h.row;rw [h1,h2];refine Qt (by simp [BM,aJ]) (fun j t r ht hr=>?_);rw [List.getElem?_map] at ht;cases hl:l[j]? with
 |none=>rw [hl] at ht;cases ht
 |some u=>
  rw [hl] at ht;cases ht;unfold BM at hr;rw [List.getElem?_map] at hr;cases hq:rs[j]? with
  |none=>rw [hq] at hr;cases hr
  |some q=>
   rw [hq] at hr;cases hr;rw [Mz];exact(h.acc j u q hl hq).1.len
theorem DV.kid{w0 w:World}{S:Nat→Prop}{a:AH}{l:List PA}{p q:Option Addr}{n c m mc:Nat}{env:List BV}{rhos:List Int}(h:DV w0 w S (.node a l) p q n c m mc env rhos){k:Nat}{t:PA}(ht:l[k]?=some t){x y:Value}{v:Value}{rs:List RV}{wr W2:World}(hk:D2 w S a l x y (Ck env) rhos v k rs wr)(aj:Below wr.heap.size wr W2){p' q':Option Addr}{n' c' m' c'':Nat}{env':List BV}(hE:Cn w0 W2 (Sx w S v) p' n' c' env')(he:Ck env'=Ai (Ck env) a.plain k (BM rs))(hq:AF Am 1 W2 q' m' c'' (Aq rhos a.plain k))(hn:n'≤n+2)(hm:m'≤m+50):DV w0 W2 (Sx w S v) t p' q' n' c' m' c'' env' (Aq rhos a.plain k):=by
 have kg:=List.mem_of_getElem? ht;have hN:=Cb h.lies;have aL:t.size+1≤(AD.node a l).size:=by rw [AD.size_node];have:=Ay (List.mem_map_of_mem (f:=AD.size) kg);omega
 have hg:=h.good;rw [PA.er_node] at hg;have bg:=hk.nd.below.trans (aj.mono hk.nd.below.size);have h1:=h.hn;have h2:=h.hm;have h3:=h.hs;obtain⟨_,_,_,_,aJ,aD⟩:=hk.row;refine⟨h.old.trans (bg.mono h.old.size),hN.each t kg,fun x hx=>h.small x (by rw [AD.nodes_node,List.mem_cons,List.mem_flatten];exact .inr ⟨_,List.mem_map_of_mem kg,hx⟩),hg.kid _ (List.mem_map_of_mem kg),hE,hq,?_,fun b hb=>.inl ⟨Nat.lt_of_lt_of_le hb h.old.size,h.s0 b hb⟩,NF (Nat.le_trans hk.nd.size aj.size) (fun b e=>Nat.lt_of_lt_of_le (aD b e).2 aj.size),by omega,by omega,by omega⟩;rw [he];refine LN hg.head h.genv (fun dc h1=>?_);subst h1;have aG:=CD ht;have dy:rs[0]?=some (rs[0]'(by omega)):=List.getElem?_eq_getElem _;have lr:=hk.acc 0 _ _ (List.getElem?_eq_getElem (by omega)) dy;have e0:(BM rs).getD 0 Bf=(rs[0]'(by omega)).er:=by rw [List.getD_eq_getElem?_getD];unfold BM;rw [List.getElem?_map,dy];rfl
 rw [e0];exact⟨lr.1.may,lr.1.effs,lr.2⟩
theorem S1{w0 w:World}{S:Nat→Prop}{t:PA}{p q:Option Addr}{n c m mc:Nat}{env:List BV}{rhos:List Int}(h:DV w0 w S t p q n c m mc env rhos){r:TE}(hc:Go.Proofs.YtkdjnegfnhldpaaGreatDoor.chk (Ck env) rhos (PA.er t)=.ok r):Es (202 * t.size) r:=by have:=KJ (PA.er t) (Ck env) rhos r h.good (fun b hb=>(h.genv b hb).1) hc;rwa [Mz] at this
section
open Go.Shelf
attribute [local go_sem] Oper.semAt_some
def EE(env:List BV)(k:Nat):List (Int×BV):=(List.range k).filterMap (fun j=>(env[env.length-1-j]?).map (fun x=>(((env.length-1-j:Nat):Int),x)))
theorem JL(env:List BV)(k:Nat){x:BV}(h:env[env.length-1-k]?=some x):EE env (k+1)=EE env k++[(((env.length-1-k:Nat):Int),x)]:=by simp [EE,List.range_succ,List.filterMap_append,h]
theorem Hi(env:List BV){k:Nat}(hk:k≤env.length):(EE env k).map (·.2)=env.reverse.take k:=by
 induction k with
 |zero=>simp [EE]
 |succ k ih=>
  have aG:env.length-1-k<env.length:=by omega
  rw [JL env k (List.getElem?_eq_getElem aG),List.map_append,ih (by omega)];have h2:env.reverse[k]?=some env[env.length-1-k]:=by rw [List.getElem?_reverse (by omega),List.getElem?_eq_getElem aG]
  rw [AJ h2];rfl
theorem MX(F:Fence)(n:Nat)(h7:F.fn 186)(ca:F.round=none)(hn:1≤n)(l Bs n₀ b off len cap:Nat)(env:List BV)(aJ:env.length=len)(eG:len≤1000000)(hb:b<n₀)(o4:Bs<n₀)(J Jx:List (Int×BV)→World→Prop)
 (hY:∀pre x W,J pre W→pre.length<len→YieldAt F (n-1) prog l #[.int .i64 x.1,JI x.2] W fun e W'=>
  (e=.returned (.bool true)∧J (pre++[x]) W'∧Below n₀ W W')∨(e=.returned (.bool false)∧Jx (pre++[x]) W'))
 (W:World) (dd:W.cell? ⟨Bs,0,none⟩=some (.slice (some ⟨b,off,none⟩) len cap)) (hc:∀j x,env[j]?=some x→∀i v,(EK x)[i]?=some v→W.cell? ⟨b,off+j * 6+i,none⟩=some v) (h0:J [] W) :
 CallsIn F n prog 186 #[.func (.yield l) #[] #[],.pointer (some ⟨Bs,0,none⟩)] W fun e W'=>(∃v,e=.returned v) ∧
  ((∃ys,ys=EE env len∧J ys W')∨(∃pre,(∃k,k≤len∧pre=EE env k)∧Jx pre W')):=by
 refine callsIn_of_wp func186 rfl h7 ?_ ca
 simp only [ntmps186,List.size_toArray,List.length_cons,List.length_nil,Nat.reduceAdd,Nat.reduceSub,Array.replicate_succ,Array.replicate_zero,List.push_toArray,List.append_toArray,List.nil_append,List.cons_append]
 gi_wp2
 gi_loopw [3] (fun i wr=>∃k:Nat,k≤len∧i=.int .i64 ((len:Int)-1-k)∧J (EE env k) wr∧Below n₀ W wr)
  (fun i _=>(intOf i+1).toNat)
 case atStart=>exact⟨0,Nat.zero_le _,by simp,by simpa [EE] using h0,Below.refl _ _⟩
 case round=>
  obtain⟨k,hk,rfl,fu,ip⟩:=hrel;have o6:=(ip.cell (p:=⟨Bs,0,none⟩) o4).trans dd;by_cases aG:k<len
  ·obtain⟨x,hx⟩:=Ac (l:=env) (j:=len-1-k) (by omega);have ls:((len:Int)-1-k)=((len-1-k:Nat):Int):=by omega
   have eA:∀i v,(EK x)[i]?=some v→wr.cell? ⟨b,off+(len-1-k) * 6+i,none⟩=some v:=fun i v hv=>(ip.cell (p:=⟨b,off+(len-1-k) * 6+i,none⟩) hb).trans (hc _ x hx i v hv);have c0:wr.cell? ⟨b,off+(len-1-k) * 6,none⟩=some (.string x.name):=eA 0 _ rfl;have c1:=eA 1 _ rfl;have c2:=eA 2 _ rfl;have c3:=eA 3 _ rfl;have c4:=eA 4 _ rfl;have c5:=eA 5 _ rfl;have pW:(EE env k).length<len:=by have:=congrArg List.length (Hi env (k:=k) (by omega));simp at this;omega
   obtain⟨fn,tmps,assign,body,hy,hR⟩:=hY _ (((len-1-k:Nat):Int),x) wr fu pW;have fU:=JL env k (x:=x) (by rw [aJ];exact hx);rw [aJ] at fU;have dQ:len-1-k<len:=by omega
   rw [ls];gi_wp2;refine hR.mono ?_;rintro e W3 (⟨rfl,lg,fM⟩|⟨rfl,iC⟩)
   ·gi_wp2;go_roundw
    case rel=>exact⟨k+1,by omega,by go_num,by rw [fU];exact lg,ip.trans fM⟩
    case measure=>simp [intOf]<;>omega
   ·gi_wp2;refine bodyPost_ret (results_none rfl _ _ _) rfl ?_;exact⟨⟨_,rfl⟩,.inr ⟨_,⟨k+1,by omega,fU.symm⟩,iC⟩⟩
  ·obtain rfl:k=len:=by omega
   have jy:((k:Int)-1-k)=-1:=by omega
   rw [jy];gi_wp2;go_end0;exact⟨⟨_,rfl⟩,.inl ⟨_,rfl,fu⟩⟩
theorem Nj(F:Fence)(n:Nat)(h5:F.fn 134)(ca:F.round=none)(p:Option Addr)(m c:Nat)(w:World):CallsIn F n prog 134 #[.slice p m c] w fun e w'=>e=.returned (.func (.func 186) #[] #[.pointer (some ⟨w.heap.size,0,none⟩)])∧w'=w.alloc (.cells #[.slice p m c] 82):=by refine callsIn_of_wp func134 rfl h5 ?_ ca;simp only [ntmps134,List.size_toArray,List.length_cons,List.length_nil,Nat.reduceAdd,Nat.reduceSub,Array.replicate_succ,Array.replicate_zero,List.push_toArray,List.append_toArray,List.nil_append,List.cons_append];gi_wp2;go_ret;exact⟨rfl,rfl⟩
theorem In{p:Option Addr}{c:Nat}(F:Fence)(n:Nat)(h7:F.fn 186)(ca:F.round=none)(l Bs:Nat)(J:List (Int×BV)→World→Prop)(W:World)(dd:W.cell? ⟨Bs,0,none⟩=some (.slice p 0 c))(h0:J [] W):CallsIn F n prog 186 #[.func (.yield l) #[] #[],.pointer (some ⟨Bs,0,none⟩)] W fun e W'=>(∃v,e=.returned v)∧J [] W':=by
 refine callsIn_of_wp func186 rfl h7 ?_ ca;simp only [ntmps186,List.size_toArray,List.length_cons,List.length_nil,Nat.reduceAdd,Nat.reduceSub,Array.replicate_succ,Array.replicate_zero,List.push_toArray,List.append_toArray,List.nil_append,List.cons_append];gi_wp2;gi_loopw [3] (fun i wr=>i=.int .i64 (-1)∧J [] wr) (fun _ _=>0)
 case atStart=>exact⟨rfl,h0⟩
 case round=>obtain⟨rfl,fu⟩:=hrel;gi_wp2;go_end0;exact⟨⟨_,rfl⟩,fu⟩
theorem KF(F:Fence)(n:Nat)(h7:F.fn 186)(ca:F.round=none)(hn:1≤n)(Bs:Nat){p:Option Addr}{m c:Nat}{env:List BV}(w:World)(hr:AF EK 6 w p m c env)(hm:m≤1000000)(W0:World)(fI:Below w.heap.size w W0)(dd:Bs<W0.heap.size)(ao:W0.cell? ⟨Bs,0,none⟩=some (.slice p m c)):SeqStopsK F n prog 186 #[.pointer (some ⟨Bs,0,none⟩)] (fun x:Int×BV=>#[Value.int .i64 x.1,JI x.2]) (Below W0.heap.size) (fun ys=>ys.map (·.2)=env.reverse) (fun pre=>(pre.map (·.2)) <+: env.reverse) env.length W0:=fun l J Jx W hW _ _ hY h0=>by
 have fK:=(hW.cell (p:=⟨Bs,0,none⟩) dd).trans ao;have aJ:=hr.len;rcases hr.row with h|⟨b,off,rfl,hb,eA⟩
 ·subst h;obtain rfl:m=0:=by simpa using aJ.symm
  exact(In F n h7 ca l Bs J W fK h0).mono fun e W' ⟨he,hj⟩=>⟨he,.inl ⟨[],rfl,hj⟩⟩
 ·have iH:b<W0.heap.size:=Nat.lt_of_lt_of_le hb fI.size;refine(MX F n h7 ca hn l Bs W0.heap.size b off m c env aJ hm iH dd J Jx (by rw [←aJ];exact hY) W fK (fun j x hx i v hv=>(hW.cell (p:=⟨b,off+j * 6+i,none⟩) iH).trans ((fI.cell (p:=⟨b,off+j * 6+i,none⟩) hb).trans (eA j x hx i v hv))) h0).mono ?_;rintro e W' ⟨he,⟨ys,rfl,hj⟩|⟨pre,⟨k,hk,rfl⟩,hj⟩⟩
  ·exact⟨he,.inl ⟨_,by show (EE env m).map (·.2)=env.reverse;rw [Hi env (by omega),List.take_of_length_le (by simp<;>omega)],hj⟩⟩
  ·exact⟨he,.inr ⟨_,by show (EE env k).map (·.2) <+: env.reverse;rw [Hi env (by omega)];exact List.take_prefix _ _,hj⟩⟩
def DZ(env:List BV)(x:ByteArray):Option BV:=env.reverse.find? (fun b=>decide (b.name=x))
theorem FK(env:List BV)(x:ByteArray):EL (Ck env) x=(DZ env x).map BV.er:=by unfold EL DZ Ck;rw [←List.map_reverse,List.find?_map];rfl
abbrev NR:Value:=.agg #[.string ⟨#[]⟩,.int .u8 0,.int .i64 0,.slice none 0 0,.slice none 0 0,.pointer none]
abbrev SW(b:BV):Obj:=.cells #[.string b.name,.int .u8 b.ty.head.kind,.int .i64 b.ty.head.rho,.slice b.ty.head.ep b.ty.head.en b.ty.head.ec,.slice b.ty.head.kp b.ty.head.kn b.ty.head.kc,.pointer (b.fn.map (fun x=>⟨x.2,0,none⟩))] 145
structure O7(w W:World)(name:ByteArray)(r:Obj)(ok:Bool):Prop where
 b1:W.heap[w.heap.size+1]?=some (.cells #[.string name] 9 (0,0))
 b2:W.heap[w.heap.size+2]?=some r
 b3:W.heap[w.heap.size+3]?=some (.cells #[.bool ok] 4 (0,0))
 below:Below w.heap.size w W
 size:w.heap.size+5≤W.heap.size
theorem O7.own{β:Type}{w:World}{name:ByteArray}{r:Obj}{ok:Bool}(hr:r.isCells=true){B:Nat}(hB:w.heap.size≤B):OwnFrom B (fun(_:β) W=>O7 w W name r ok):=fun s W W' row hs hg aB=>by
 have ne:∀(k:Nat) (o:Obj),W.heap[k]?=some o→o.isCells=true→some k≠row:=fun k o hk ho e=>by obtain⟨_,o',jz,hc⟩:=aB k e.symm;rw [hk] at jz;cases jz;rw [ho] at hc;cases hc
 have lt:∀(k:Nat) (o:Obj),W.heap[k]?=some o→k<W.heap.size:=fun k o hk=>(Array.getElem?_eq_some_iff.1 hk).1;exact⟨(hg.block _ (lt _ _ hs.b1) (ne _ _ hs.b1 rfl)).trans hs.b1,(hg.block _ (lt _ _ hs.b2) (ne _ _ hs.b2 hr)).trans hs.b2,(hg.block _ (lt _ _ hs.b3) (ne _ _ hs.b3 rfl)).trans hs.b3,hs.below.grown hg hs.below.size (fun k e=>Nat.le_trans hB (aB k e).1),Nat.le_trans hs.size hg.size⟩
def Ch(env:List BV)(name:ByteArray)(e:Ending):Prop:=
 match DZ env name with
 |some b=>e=.returned (.tuple #[JI b,.bool true])
 |none=>e=.returned (.tuple #[NR,.bool false])
theorem Sp{w W:World}{name:ByteArray}{y0 y1 y2 y3 y4 y5:Value}{t:TypeId}{ok:Bool}(hF:O7 w W name (.cells #[y0,y1,y2,y3,y4,y5] t (0,0)) ok)(u0 u1 u2 u3 u4 u5:Value)(b:Bool):O7 w (((((((W.setCell ⟨w.heap.size+1+1,0,none⟩ u0).setCell ⟨w.heap.size+1+1,1,none⟩ u1).setCell ⟨w.heap.size+1+1,2,none⟩ u2).setCell ⟨w.heap.size+1+1,3,none⟩ u3).setCell ⟨w.heap.size+1+1,4,none⟩ u4).setCell ⟨w.heap.size+1+1,5,none⟩ u5).setCell ⟨w.heap.size+1+1+1,0,none⟩ (.bool b)) name (.cells #[u0,u1,u2,u3,u4,u5] t (0,0)) b∧KeepsOthers W (((((((W.setCell ⟨w.heap.size+1+1,0,none⟩ u0).setCell ⟨w.heap.size+1+1,1,none⟩ u1).setCell ⟨w.heap.size+1+1,2,none⟩ u2).setCell ⟨w.heap.size+1+1,3,none⟩ u3).setCell ⟨w.heap.size+1+1,4,none⟩ u4).setCell ⟨w.heap.size+1+1,5,none⟩ u5).setCell ⟨w.heap.size+1+1+1,0,none⟩ (.bool b)):=by
 have aG:=hF.size;have h6:=AK (o:=5) u5 (AK (o:=4) u4 (AK (o:=3) u3 (AK (o:=2) u2 (AK (o:=1) u1 (AK (o:=0) u0 hF.b2)))));have bN:=DB (DB (DB (DB (DB (AG W (w.heap.size+1+1) 0 u0) (AG _ (w.heap.size+1+1) 1 u1) (fun b _ h=>h)) (AG _ (w.heap.size+1+1) 2 u2) (fun b _ h=>h)) (AG _ (w.heap.size+1+1) 3 u3) (fun b _ h=>h)) (AG _ (w.heap.size+1+1) 4 u4) (fun b _ h=>h)) (AG _ (w.heap.size+1+1) 5 u5) (fun b _ h=>h);have nK:=((((KeepsOthers.setCell W ⟨w.heap.size+1+1,0,none⟩ u0).trans (KeepsOthers.setCell _ ⟨w.heap.size+1+1,1,none⟩ u1)).trans (KeepsOthers.setCell _ ⟨w.heap.size+1+1,2,none⟩ u2)).trans (KeepsOthers.setCell _ ⟨w.heap.size+1+1,3,none⟩ u3)).trans ((KeepsOthers.setCell _ ⟨w.heap.size+1+1,4,none⟩ u4).trans (KeepsOthers.setCell _ ⟨w.heap.size+1+1,5,none⟩ u5));generalize ((((((W.setCell ⟨w.heap.size+1+1,0,none⟩ u0).setCell ⟨w.heap.size+1+1,1,none⟩ u1).setCell ⟨w.heap.size+1+1,2,none⟩ u2).setCell ⟨w.heap.size+1+1,3,none⟩ u3).setCell ⟨w.heap.size+1+1,4,none⟩ u4).setCell ⟨w.heap.size+1+1,5,none⟩ u5)=W6 at h6 bN nK ⊢;have kZ:=AG W6 (w.heap.size+1+1+1) 0 (.bool b);have dN:W6.heap[w.heap.size+1+1+1]?=some (.cells #[.bool ok] 4 (0,0)):=(bN.block _ (by omega) (fun e=>by injection e with e;omega)).trans hF.b3;have h7:=AK (o:=0) (.bool b) dN;have aL:=bN.size;refine⟨⟨?_,?_,by simpa using h7,?_,Nat.le_trans (Nat.le_trans aG bN.size) kZ.size⟩,nK.trans (KeepsOthers.setCell _ _ _)⟩
 ·exact(kZ.block _ (by omega) (fun e=>by injection e with e;omega)).trans ((bN.block _ (by omega) (fun e=>by injection e with e;omega)).trans hF.b1)
 ·refine(kZ.block _ (by omega) (fun e=>by injection e with e;omega)).trans ?_;simpa using h6
 ·exact(hF.below.grown bN hF.below.size (fun k e=>by injection e with e;omega)).grown kZ (by have:=hF.below.size;omega) (fun k e=>by injection e with e;omega)
theorem O7.cells{w W:World}{name:ByteArray}{y0 y1 y2 y3 y4 y5:Value}{t:TypeId}{ok:Bool}(h:O7 w W name (.cells #[y0,y1,y2,y3,y4,y5] t (0,0)) ok):W.cell? ⟨w.heap.size+1+1,0,none⟩=some y0∧W.cell? ⟨w.heap.size+1+1,1,none⟩=some y1∧W.cell? ⟨w.heap.size+1+1,2,none⟩=some y2∧W.cell? ⟨w.heap.size+1+1,3,none⟩=some y3∧W.cell? ⟨w.heap.size+1+1,4,none⟩=some y4∧W.cell? ⟨w.heap.size+1+1,5,none⟩=some y5∧W.cell? ⟨w.heap.size+1+1+1,0,none⟩=some (.bool ok):=by refine⟨?_,?_,?_,?_,?_,?_,?_⟩<;>simp only [World.cell?,h.b2,h.b3]<;>rfl
theorem O7.put{w W:World}{name:ByteArray}{r:Obj}{ok:Bool}(hr:r.isCells=true){D:Nat}(h:O7 w W name r ok)(hD:w.heap.size≤D){o:Obj}(ho:W.heap[D]?=some o)(hc:o.isCells=false)(o':Obj):O7 w (W.putObj D o') name r ok:=(O7.own (β:=Unit) (B:=w.heap.size) hr (Nat.le_refl _)) () W _ (some D) h (grownBy_putObj' W D o') (fun r e=>by cases e;exact⟨hD,o,ho,hc⟩)
theorem PW{env:List BV}{q:List (Int×BV)}{x:Int×BV}{name:ByteArray}(h:((q++[x]).map (·.2)) <+: env.reverse)(aR:∀y∈q,y.2.name≠name)(hx:x.2.name=name):DZ env name=some x.2:=by
 obtain⟨rest,hr⟩:=h;unfold DZ;rw [←hr,List.map_append,List.append_assoc,List.find?_append];have h1:(q.map (·.2)).find? (fun b=>decide (b.name=name))=none:=by rw [List.find?_eq_none];intro b hb;obtain⟨y,hy,rfl⟩:=List.mem_map.1 hb;simpa using aR y hy
 rw [h1];simp [hx]
theorem RL{env:List BV}{ys:List (Int×BV)}{name:ByteArray}(h:ys.map (·.2)=env.reverse)(aR:∀y∈ys,y.2.name≠name):DZ env name=none:=by unfold DZ;rw [←h,List.find?_eq_none];intro b hb;obtain⟨y,hy,rfl⟩:=List.mem_map.1 hb;simpa using aR y hy
theorem Ld(F:Fence)(n:Nat)(h3:F.fn 96)(h5:F.fn 134)(h7:F.fn 186)(ca:F.round=none)(hn:6≤n){w:World}{p:Option Addr}{m c:Nat}{env:List BV}(hr:AF EK 6 w p m c env)(hm:m≤1000000)(rv:Value)(name:ByteArray):CallsIn F n prog 96 #[.agg #[.slice p m c,rv],.string name] w fun e w'=>Ch env name e∧Below w.heap.size w w':=by
 have h1:1≤n:=by omega
 refine callsIn_of_wp_marks func96 rfl h3 ?_ ca;simp only [ntmps96,List.size_toArray,List.length_cons,List.length_nil,Nat.reduceAdd,Nat.reduceSub,Array.replicate_succ,Array.replicate_zero,List.push_toArray,List.append_toArray,List.nil_append,List.cons_append];gi_wp2_with (gi_at_call 134;refine(Nj F (n-1) h5 ca _ _ _ _).mono ?_;rintro e w' ⟨rfl,rfl⟩)
 have lf:O7 w (((((w.alloc (.cells #[.slice p m c,rv] 84)).alloc (.cells #[.string name] 9)).alloc (.cells #[.string ⟨#[]⟩,.int .u8 0,.int .i64 0,.slice none 0 0,.slice none 0 0,.pointer none] 145)).alloc (.cells #[.bool false] 4)).alloc (.cells #[.slice p m c] 82)) name (.cells #[.string ⟨#[]⟩,.int .u8 0,.int .i64 0,.slice none 0 0,.slice none 0 0,.pointer none] 145 (0,0)) false:=by
  have e1:=heap_alloc_new (w.alloc (.cells #[.slice p m c,rv] 84)) (.cells #[.string name] 9);have e2:=heap_alloc_new ((w.alloc (.cells #[.slice p m c,rv] 84)).alloc (.cells #[.string name] 9)) (.cells #[.string ⟨#[]⟩,.int .u8 0,.int .i64 0,.slice none 0 0,.slice none 0 0,.pointer none] 145);have e3:=heap_alloc_new (((w.alloc (.cells #[.slice p m c,rv] 84)).alloc (.cells #[.string name] 9)).alloc (.cells #[.string ⟨#[]⟩,.int .u8 0,.int .i64 0,.slice none 0 0,.slice none 0 0,.pointer none] 145)) (.cells #[.bool false] 4);simp only [World.size_alloc] at e1 e2 e3;refine⟨?_,?_,?_,?_,by simp⟩
  ·rw [Below.heap_alloc _ _ _ (by simp<;>omega),Below.heap_alloc _ _ _ (by simp<;>omega),Below.heap_alloc _ _ _ (by simp)];exact e1
  ·rw [Below.heap_alloc _ _ _ (by simp<;>omega),Below.heap_alloc _ _ _ (by simp)];exact e2
  ·rw [Below.heap_alloc _ _ _ (by simp)];exact e3
  ·exact(((((Below.refl w.heap.size w).alloc (Nat.le_refl _) _).alloc (by simp) _).alloc (by simp<;>omega) _).alloc (by simp<;>omega) _).alloc (by simp<;>omega) _
 have ao:(((((w.alloc (.cells #[.slice p m c,rv] 84)).alloc (.cells #[.string name] 9)).alloc (.cells #[.string ⟨#[]⟩,.int .u8 0,.int .i64 0,.slice none 0 0,.slice none 0 0,.pointer none] 145)).alloc (.cells #[.bool false] 4)).alloc (.cells #[.slice p m c] 82)).cell? ⟨w.heap.size+1+1+1+1,0,none⟩=some (.slice p m c):=by have e:=heap_alloc_new ((((w.alloc (.cells #[.slice p m c,rv] 84)).alloc (.cells #[.string name] 9)).alloc (.cells #[.string ⟨#[]⟩,.int .u8 0,.int .i64 0,.slice none 0 0,.slice none 0 0,.pointer none] 145)).alloc (.cells #[.bool false] 4)) (.cells #[.slice p m c] 82);simp only [World.size_alloc] at e;simp only [World.cell?,e];rfl
 have aL:(((((w.alloc (.cells #[.slice p m c,rv] 84)).alloc (.cells #[.string name] 9)).alloc (.cells #[.string ⟨#[]⟩,.int .u8 0,.int .i64 0,.slice none 0 0,.slice none 0 0,.pointer none] 145)).alloc (.cells #[.bool false] 4)).alloc (.cells #[.slice p m c] 82)).heap.size=w.heap.size+5:=by simp
 generalize ((((w.alloc (.cells #[.slice p m c,rv] 84)).alloc (.cells #[.string name] 9)).alloc (.cells #[.string ⟨#[]⟩,.int .u8 0,.int .i64 0,.slice none 0 0,.slice none 0 0,.pointer none] 145)).alloc (.cells #[.bool false] 4)).alloc (.cells #[.slice p m c] 82)=W0 at lf ao aL ⊢
 refine wpIn_rangeFunc_ownH ca h1 (gf:=186) (lb:=#[.pointer (some ⟨w.heap.size+1+1+1+1,0,none⟩)]) rfl h7 (enters_of func186 (by kernel_rfl) rfl)
  (KF F (n-1) h7 ca (by omega) (w.heap.size+1+1+1+1) w hr hm W0 lf.below (by omega) ao) belowK_t (belowK_b (Nat.le_refl _)) (Below.refl _ _) (fun _=>rfl)
  (fun pre W=>O7 w W name (.cells #[.string ⟨#[]⟩,.int .u8 0,.int .i64 0,.slice none 0 0,.slice none 0 0,.pointer none] 145 (0,0)) false∧∀y∈pre,y.2.name≠name)
  (fun c pre W=>c=.ret∧∃q x,pre=q++[x]∧(∀y∈q,y.2.name≠name)∧x.2.name=name∧O7 w W name (SW x.2) true)
  (OwnFrom.and (O7.own rfl (by omega)) (fun _ _ _ _ h _ _=>h))
  (fun c s W W' row hs hg aB=>by
   obtain⟨h1,q,x,h2,h3,h4,h5⟩:=hs;exact⟨h1,q,x,h2,h3,h4,(O7.own (β:=Unit) rfl (by omega)) () W W' row h5 hg aB⟩)
  ⟨lf,fun y hy=>by cases hy⟩
  (fun x a' W=>∃Bx,w.heap.size+5≤Bx∧W.heap[Bx]?=some (SW x.2)∧a'={ tmps:=#[.agg #[.slice p m c,rv],.string name,.pointer (some ⟨w.heap.size,0,none⟩),.pointer (some ⟨w.heap.size+1,0,none⟩),.pointer (some ⟨w.heap.size+1+1,0,none⟩),.pointer (some ⟨w.heap.size+1+1+1,0,none⟩),undef,.pointer (some ⟨Bx,0,none⟩),.pointer (some ⟨w.heap.size,0,none⟩),.slice p m c,.func (.func 186) #[] #[.pointer (some ⟨w.heap.size+1+1+1+1,0,none⟩)],.int .i64 x.1,JI x.2,undef,undef,undef,undef,undef,undef],defers:=[] })
  (fun x a' s W W' row hs hg aB=>by
   obtain⟨Bx,h1,h2,h3⟩:=hs;refine⟨Bx,h1,(hg.block _ (Array.getElem?_eq_some_iff.1 h2).1 (fun e=>?_)).trans h2,h3⟩;obtain⟨_,o',jz,hc⟩:=aB Bx e.symm;rw [h2] at jz;cases jz;cases hc) ?assign ?body ?done ?stop
 case assign=>
  intro l pre x W K hi hK;gi_wp2;have aG:=hi.1.size;refine hK _ _ ((KeepsOthers.alloc _ _).from _) ((Below.refl _ W).alloc (by omega) _) ⟨⟨?_,?_,?_,hi.1.below.alloc (by omega) _,by simp;omega⟩,hi.2⟩ ⟨W.heap.size,by omega,heap_alloc_new W _,rfl⟩
  ·rw [Below.heap_alloc _ _ _ (by omega)];exact hi.1.b1
  ·rw [Below.heap_alloc _ _ _ (by omega)];exact hi.1.b2
  ·rw [Below.heap_alloc _ _ _ (by omega)];exact hi.1.b3
 case body=>
  rintro l pre x a' W hl ⟨r,ah⟩ ⟨hF,aR⟩ ⟨Bx,pr,dP,rfl⟩ aG;have c0:W.cell? ⟨Bx,0,none⟩=some (.string x.2.name):=by simp [World.cell?,dP]
  have c1:W.cell? ⟨Bx,1,none⟩=some (.int .u8 x.2.ty.head.kind):=by simp [World.cell?,dP]
  have c2:W.cell? ⟨Bx,2,none⟩=some (.int .i64 x.2.ty.head.rho):=by simp [World.cell?,dP]
  have c3:W.cell? ⟨Bx,3,none⟩=some (.slice x.2.ty.head.ep x.2.ty.head.en x.2.ty.head.ec):=by simp [World.cell?,dP]
  have c4:W.cell? ⟨Bx,4,none⟩=some (.slice x.2.ty.head.kp x.2.ty.head.kn x.2.ty.head.kc):=by simp [World.cell?,dP]
  have c5:W.cell? ⟨Bx,5,none⟩=some (.pointer (x.2.fn.map (fun x=>⟨x.2,0,none⟩))):=by simp [World.cell?,dP]
  have cn:W.cell? ⟨w.heap.size+1,0,none⟩=some (.string name):=by simp [World.cell?,hF.b1]
  have z0:W.cell? ⟨w.heap.size+1+1,0,none⟩=some (.string ⟨#[]⟩):=by simp only [World.cell?,hF.b2];rfl
  have f0:W.frozen? ⟨w.heap.size+1+1,0,none⟩=false:=by simp only [World.frozen?,hF.b2];rfl
  have z1:W.cell? ⟨w.heap.size+1+1,1,none⟩=some (.int .u8 0):=by simp only [World.cell?,hF.b2];rfl
  have f1:W.frozen? ⟨w.heap.size+1+1,1,none⟩=false:=by simp only [World.frozen?,hF.b2];rfl
  have z2:W.cell? ⟨w.heap.size+1+1,2,none⟩=some (.int .i64 0):=by simp only [World.cell?,hF.b2];rfl
  have f2:W.frozen? ⟨w.heap.size+1+1,2,none⟩=false:=by simp only [World.frozen?,hF.b2];rfl
  have z3:W.cell? ⟨w.heap.size+1+1,3,none⟩=some (.slice none 0 0):=by simp only [World.cell?,hF.b2];rfl
  have f3:W.frozen? ⟨w.heap.size+1+1,3,none⟩=false:=by simp only [World.frozen?,hF.b2];rfl
  have z4:W.cell? ⟨w.heap.size+1+1,4,none⟩=some (.slice none 0 0):=by simp only [World.cell?,hF.b2];rfl
  have f4:W.frozen? ⟨w.heap.size+1+1,4,none⟩=false:=by simp only [World.frozen?,hF.b2];rfl
  have z5:W.cell? ⟨w.heap.size+1+1,5,none⟩=some (.pointer none):=by simp only [World.cell?,hF.b2];rfl
  have f5:W.frozen? ⟨w.heap.size+1+1,5,none⟩=false:=by simp only [World.frozen?,hF.b2];rfl
  have z6:W.cell? ⟨w.heap.size+1+1+1,0,none⟩=some (.bool false):=by simp only [World.cell?,hF.b3];rfl
  have f6:W.frozen? ⟨w.heap.size+1+1+1,0,none⟩=false:=by simp only [World.frozen?,hF.b3];rfl
  by_cases hq:x.2.name=name
  ·have hb:(x.2.name.toList==name.toList)=true:=by rw [hq];simp
   have fT:=Sp hF (.string name) (.int .u8 x.2.ty.head.kind) (.int .i64 x.2.ty.head.rho) (.slice x.2.ty.head.ep x.2.ty.head.en x.2.ty.head.ec) (.slice x.2.ty.head.kp x.2.ty.head.kn x.2.ty.head.kc) (.pointer (x.2.fn.map (fun x=>⟨x.2,0,none⟩))) true;have dA:=AA fT;clear fT;gi_wp2;exact⟨dA.o.2.from _,rfl,pre,x,rfl,aR,hq,by unfold SW;rw [hq];exact dA.o.1⟩
  ·have hb:(x.2.name.toList==name.toList)=false:=by rw [Q3];exact decide_eq_false hq
   gi_wp2
   exact⟨KeepsFrom.refl _ _,Below.refl _ _,hF,fun y hy=>by
    rcases List.mem_append.1 hy with hy|hy
    ·exact aR y hy
    ·rw [List.mem_singleton] at hy;subst hy;exact hq⟩
 case done=>
  rintro D ys W hD pl ⟨hF,aR⟩ hK;have z0:W.cell? ⟨w.heap.size+1+1,0,none⟩=some (.string ⟨#[]⟩):=by simp only [World.cell?,hF.b2];rfl
  have f0:W.frozen? ⟨w.heap.size+1+1,0,none⟩=false:=by simp only [World.frozen?,hF.b2];rfl
  have z1:W.cell? ⟨w.heap.size+1+1,1,none⟩=some (.int .u8 0):=by simp only [World.cell?,hF.b2];rfl
  have f1:W.frozen? ⟨w.heap.size+1+1,1,none⟩=false:=by simp only [World.frozen?,hF.b2];rfl
  have z2:W.cell? ⟨w.heap.size+1+1,2,none⟩=some (.int .i64 0):=by simp only [World.cell?,hF.b2];rfl
  have f2:W.frozen? ⟨w.heap.size+1+1,2,none⟩=false:=by simp only [World.frozen?,hF.b2];rfl
  have z3:W.cell? ⟨w.heap.size+1+1,3,none⟩=some (.slice none 0 0):=by simp only [World.cell?,hF.b2];rfl
  have f3:W.frozen? ⟨w.heap.size+1+1,3,none⟩=false:=by simp only [World.frozen?,hF.b2];rfl
  have z4:W.cell? ⟨w.heap.size+1+1,4,none⟩=some (.slice none 0 0):=by simp only [World.cell?,hF.b2];rfl
  have f4:W.frozen? ⟨w.heap.size+1+1,4,none⟩=false:=by simp only [World.frozen?,hF.b2];rfl
  have z5:W.cell? ⟨w.heap.size+1+1,5,none⟩=some (.pointer none):=by simp only [World.cell?,hF.b2];rfl
  have f5:W.frozen? ⟨w.heap.size+1+1,5,none⟩=false:=by simp only [World.frozen?,hF.b2];rfl
  have z6:W.cell? ⟨w.heap.size+1+1+1,0,none⟩=some (.bool false):=by simp only [World.cell?,hF.b3];rfl
  have f6:W.frozen? ⟨w.heap.size+1+1+1,0,none⟩=false:=by simp only [World.frozen?,hF.b3];rfl
  have dA:=AA (Sp hF (.string ⟨#[]⟩) (.int .u8 0) (.int .i64 0) (.slice none 0 0) (.slice none 0 0) (.pointer none) false);gi_wp2;have jP:=dA.o.2.same D _ hK rfl;have hP:=dA.o.1.put rfl (by omega) jP rfl (.deferred none);refine⟨by simp,.inl ⟨_,_,rfl,run_takeDeferred jP,?_⟩⟩;obtain⟨d0,d1,d2,d3,d4,d5,d6⟩:=hP.cells;refine⟨.tuple #[NR,.bool false],?_,by unfold Ch;rw [RL pl aR],hP.below⟩;clear hK dA jP hP hF z0 z1 z2 z3 z4 z5 z6 f0 f1 f2 f3 f4 f5 f6;simp [results,f96,go_sem,d0,d1,d2,d3,d4,d5,d6]
 case stop=>rintro D cd pre W hD l3 ⟨rfl,q,x,rfl,aR,hx,hF⟩ hK;gi_wp2;have hP:=hF.put rfl (by omega) hK rfl (.deferred none);refine⟨by simp,.inl ⟨_,_,rfl,run_takeDeferred hK,?_⟩⟩;obtain⟨d0,d1,d2,d3,d4,d5,d6⟩:=hP.cells;refine⟨.tuple #[JI x.2,.bool true],?_,by unfold Ch;rw [PW l3 aR hx],hP.below⟩;clear hK hP hF;simp [results,f96,go_sem,d0,d1,d2,d3,d4,d5,d6]
theorem Cu{w:World}{p:Option Addr}{m c:Nat}{env:List BV}(hr:AF EK 6 w p m c env)(hm:m≤1000000)(rv:Value)(name:ByteArray):Calls prog 96 #[.agg #[.slice p m c,rv],.string name] w fun e w'=>Ch env name e∧Below w.heap.size w w':=(callsIn_wide (n:=6)).1 (Ld Fence.wide 6 trivial trivial trivial rfl (by omega) hr hm rv name)
end
end Go.Proofs.YtkdjnegfnhldpaaGreatDoor
