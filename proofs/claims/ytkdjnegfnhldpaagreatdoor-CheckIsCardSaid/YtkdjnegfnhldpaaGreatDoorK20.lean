/- Part 20. -/
import Derived.Test.YtkdjnegfnhldpaaGreatDoorK19
set_option linter.unusedVariables false
set_option maxRecDepth 100000
set_option linter.unusedSimpArgs false
set_option maxHeartbeats 40000000
namespace Go.Proofs.YtkdjnegfnhldpaaGreatDoor
open Go.Proofs.Tryz Go.RowKit
section
open Go.Shelf
theorem Ur(x:Int){g:Nat}{q:Option Addr}{m mc:Nat}{rhos:List Int}{W:World}(hc:W.cell? ⟨g,1,none⟩=some (.slice q m mc))(hr:AE Ab 1 W q m mc rhos):Calls prog 182 #[.int .i64 x,.pointer (some ⟨g,0,none⟩)] W fun e w'=>e=.returned (.bool (!Du rhos x))∧w'=W:=by have HC:=AA (GA hr x);clear hr;go_enter func182,ntmps182;go_wp2_with fail;refine HC.o.mono ?_;rintro e w1 ⟨rfl,rfl⟩;go_wp2_with fail;go_ret;exact⟨rfl,rfl⟩
theorem TB{W:World}{p:Option Addr}{n c:Nat}{l:List Int}(hr:AE Ab 1 W p n c l){g:Nat}{q:Option Addr}{m mc:Nat}{rhos:List Int}(hc:W.cell? ⟨g,1,none⟩=some (.slice q m mc))(hq:AE Ab 1 W q m mc rhos):Calls prog 122 #[.slice p n c,.func (.func 182) #[] #[.pointer (some ⟨g,0,none⟩)]] W fun e w'=>e=.returned (.bool (l.any (fun x=>!Du rhos x)))∧Below W.heap.size W w':=by
 have dM:=hr.len;have qo:=hr.max;rcases hr.row with h|⟨b,o,hp,hb,am⟩
 ·subst h;obtain rfl:n=0:=by simpa using dM.symm
  refine(DB (α:=Int) p c _ W).mono ?_;rintro e w' ⟨rfl,rfl⟩;exact⟨rfl,Below.refl _ _⟩
 ·subst hp;have fz:∀j,j<l.length→W.cell? ⟨b,o+j,none⟩=some (Value.int .i64 (l[j]!)):=fun j hj=>by have:=am j (l[j]!) (by rw [List.getElem?_eq_getElem hj,getElem!_pos l j hj]) 0 (.int .i64 (l[j]!)) rfl;simpa using this
  refine(D7 (α:=Int) (Value.int .i64) (fun x:Int=>!Du rhos x) 182 #[.pointer (some ⟨g,0,none⟩)] (fun args w=>rfl) b o n c l W ?_ (by omega) (by omega) fz).mono ?_
  ·intro W' x aW;refine(Ur x (W:=W') (g:=g) (by rw [aW.cell (An hc)];exact hc) (hq.below aW)).mono ?_;rintro e w' ⟨rfl,rfl⟩;exact⟨rfl,0,rfl⟩
  ·rintro e w' ⟨rfl,q,rfl⟩;rw [List.take_of_length_le (by omega)];exact⟨rfl,rfl,rfl,rfl,Nat.le_refl _,fun _ _=>rfl⟩
theorem Vu(rhos l:List Int):(!l.any (fun x=>!Du rhos x))=At rhos l:=by unfold At;rw [List.not_any_eq_all_not];simp
theorem N2{w:World}{p:Option Addr}{n c:Nat}{l:List Int}(hr:AE Ab 1 w p n c l)(ep:Option Addr)(en ec:Nat){q:Option Addr}{m mc:Nat}{rhos:List Int}(hq:AE Ab 1 w q m mc rhos):Calls prog 130 #[.agg #[.slice ep en ec,.slice q m mc],.slice p n c] w (RB w (.bool (At rhos l))):=by have hb:Below w.heap.size w (w.alloc (.cells #[.slice ep en ec,.slice q m mc] 84)):=bA;have HC:=AA (TB (hr.below hb) (g:=w.heap.size) (q:=q) (m:=m) (mc:=mc) (rhos:=rhos) (by rw [AR];rfl) (hq.below hb));have HB:=AA hb;have HE:=AA (Vu rhos l);generalize l.any (fun x=>!Du rhos x)=r at HC HE;clear hr hq hb;go_enter func130,ntmps130;go_wp2_with fail;refine HC.o.mono ?_;rintro e w1 ⟨rfl,hb⟩;have aK:=bt HB hb;clear hb;go_wp2_with fail;go_ret;exact⟨AB HE.o,aK.o⟩
end
theorem tk{P:Program}{ops:Array Oper}{Q:Exit→Act→World→Prop}{md:Region.Mode}{S:World→Prop}{i:Nat}{oi:Oper}{v:Value}{fuel:Nat}{listed:Array Bool}{a:Act}{w:World}(hi:ops[i]?=some oi)(hy:YieldsIf P ops S oi v a)(h:wpAnyH P md ops Q S fuel (listed.setIfInBounds i true) (a.put oi.dst v) w)(hs:Region.noSelect ops=true:=by kernel_rfl)(hf:Region.free md ops listed i=true:=by kernel_rfl)(hr:(Region.ready md ops listed).contains i=true:=by kernel_rfl)(hQ:∀c a w,Q (.panic c) (a.put oi.dst v) w→Q (.panic c) a w:=by exact fun _ _ _ h=>h)(hS:S w:=by assumption):wpAnyH P md ops Q S (fuel+1) listed a w:=wpAnyH_take hi hs hf hr hQ hy hS h
theorem VS{w:World}{p:Option Addr}{n cap:Nat}{l:List RV}(h:AE Ck 5 w p n cap l){j:Nat}{t:RV}(hx:l[j]?=some t) :
 ∃b o,p=some ⟨b,o,none⟩∧b<w.heap.size∧w.cell? ⟨b,o+j * 5,none⟩=some (.int .u8 t.ty.head.kind)∧w.cell? ⟨b,o+j * 5+1,none⟩=some (.int .i64 t.ty.head.rho) ∧
  w.cell? ⟨b,o+j * 5+2,none⟩=some (.slice t.ty.head.ep t.ty.head.en t.ty.head.ec)∧w.cell? ⟨b,o+j * 5+3,none⟩=some (.slice t.ty.head.kp t.ty.head.kn t.ty.head.kc)∧w.cell? ⟨b,o+j * 5+4,none⟩=some (.slice t.ep t.en t.ec):=by
 obtain⟨b,o,hp,hb,hc⟩:=h.row.elem hx
 exact⟨b,o,hp,hb,hc 0 _ rfl,hc 1 _ rfl,hc 2 _ rfl,hc 3 _ rfl,hc 4 _ rfl⟩
def SV(fid:FuncId)(caps:Array Value)(w:World)(l:List RV)(q:RV→Bool):Prop:=∀x∈l,∀W,Below w.heap.size w W→Calls prog fid (#[K9 x]++caps) W fun e w'=>e=.returned (.bool (q x))∧Below W.heap.size W w'
theorem SV.is{fid:FuncId}{caps:Array Value}{w:World}{l:List RV}{q:RV→Bool}(h:SV fid caps w l q){x:RV}(hx:x∈l){r:Bool}(hq:q x=r){W:World}(hb:Below w.heap.size w W):Calls prog fid (#[K9 x]++caps) W fun e w'=>e=.returned (.bool r)∧Below W.heap.size W w':=by subst hq;exact h x hx W hb
theorem L1(fid:FuncId)(caps:Array Value)(q:RV→Bool)(a7:EA fid){p:Option Addr}{n cap:Nat}{l:List RV}{w:World}(hr:AE Ck 5 w p n cap l)(hf:SV fid caps w l q) :
 Calls prog 219 #[.slice p n cap,.func (.func fid) #[] caps] w fun e w'=>(∃r:Int,e=.returned (.int .i64 r)∧Pp q l r)∧Below w.heap.size w w':=by
 unfold EA at a7
 have hm:=hr.max
 have HR:=AA hr
 have HF:=AA hf
 clear hr hf
 go_enter func219,ntmps219
 go_wp2_with fail
 go_loopw [5,8] (fun _ i wr=>∃k:Nat,k≤n∧i=.int .i64 k∧(l.take k).any q=false∧Below w.heap.size w wr) (fun _ i _=>n-(intOf i).toNat)
 case atStart=>exact⟨0,by omega,rfl,by simp,Below.refl _ _⟩
 case round=>
  obtain⟨k,hk,rfl,ac,hb⟩:=hrel;have an:=AA ac;have HB:=AA hb;clear ac hb;by_cases aF:k<n
  ·obtain⟨x,hx⟩:=AM (l:=l) (j:=k) (by rw [HR.o.len];exact aF);have HE:=AA hx;obtain⟨b,o,rfl,aP,d0,d1,d2,d3,d4⟩:=VS (HR.o.below HB.o) hx;clear hx aP;cases hq:q x
   ·have HQ:=AA hq;clear hq;go_wp2_with fail;refine(HF.o.is (List.mem_of_getElem? HE.o) HQ.o HB.o).mono ?_;rintro e w1 ⟨rfl,hb⟩;have aJ:=bt HB hb;clear hb;clear d0 d1 d2 d3 d4;go_wp2_with fail;go_roundw
    case rel=>exact⟨k+1,by omega,by go_num,by rw [Av HE.o,an.o,HQ.o];rfl,aJ.o⟩
    case measure=>simp [intOf];omega
   ·have HQ:=AA hq;clear hq;go_wp2_with fail;refine(HF.o.is (List.mem_of_getElem? HE.o) HQ.o HB.o).mono ?_;rintro e w1 ⟨rfl,hb⟩;have aJ:=bt HB hb;clear hb;clear d0 d1 d2 d3 d4;go_wp2_with fail;go_ret;exact⟨⟨k,rfl,.inr ⟨k,x,rfl,HE.o,HQ.o,an.o⟩⟩,aJ.o⟩
  ·go_wp2_with fail;go_ret;have h:=an.o;rw [AP (by rw [HR.o.len];omega)] at h;exact⟨⟨-1,rfl,.inl ⟨rfl,h⟩⟩,HB.o⟩
theorem Jp(fid:FuncId)(caps:Array Value)(q:RV→Bool)(a7:EA fid){p:Option Addr}{n cap:Nat}{l:List RV}{w:World}(hr:AE Ck 5 w p n cap l)(hf:SV fid caps w l q):Calls prog 193 #[.slice p n cap,.func (.func fid) #[] caps] w (RB w (.bool (l.any q))):=by
 have hc:Calls prog 219 #[.slice p n cap,.func (.func fid) #[] caps] w fun e w'=>
  (∃r:Int,e=.returned (.int .i64 r)∧l.any q=decide (0≤r))∧Below w.heap.size w w':=
  (L1 fid caps q a7 hr hf).mono fun _ _ ⟨⟨r,he,hr⟩,hb⟩=>⟨⟨r,he,hr.any⟩,hb⟩
 generalize l.any q=r at hc ⊢;clear hr hf a7;go_enter func193,ntmps193;go_wp2_with fail;refine hc.mono ?_;rintro e w1 ⟨⟨r,rfl,hr⟩,hb⟩;have HR:=AA hr;have HB:=AA hb;clear hr hb hc;go_wp2_with fail;go_ret;exact⟨AB HR.o.symm,HB.o⟩
def XG(k:Int)(r:RV):Bool:=r.ty.head.kind==k
theorem Tg(r:RV)(w:World):Calls prog 194 #[K9 r] w (RB w (.bool (!XG 1 r))):=by have hb:Below w.heap.size w (w.alloc (.cells #[.int .u8 r.ty.head.kind,.int .i64 r.ty.head.rho,.slice r.ty.head.ep r.ty.head.en r.ty.head.ec,.slice r.ty.head.kp r.ty.head.kn r.ty.head.kc,.slice r.ep r.en r.ec] 81)):=bA;have HB:=AA hb;clear hb;go_enter func194,ntmps194;go_wp2_with fail;refine(JJ r 1 _).mono ?_;rintro e w1 ⟨rfl,hb⟩;have aK:=bt HB hb;clear hb;go_wp2_with fail;go_ret;exact⟨AB rfl,aK.o⟩
theorem MR{p:Option Addr}{n c:Nat}{l:List RV}{w:World}(hr:AE Ck 5 w p n c l):Calls prog 143 #[.slice p n c] w (RB w (.bool (l.all (XG 1)))):=by
 have HC:=AA (Jp 194 #[] (fun r=>!XG 1 r) (fun args w=>rfl) hr (fun x hx W hb=>Tg x W));have HE:Hd ((!l.any (fun r=>!XG 1 r))=l.all (XG 1)):=by show _=_;rw [List.not_any_eq_all_not];simp
 generalize l.any (fun r=>!XG 1 r)=b at HC HE;clear hr;go_enter func143,ntmps143;go_wp2_with fail;refine HC.o.mono ?_;rintro e w1 ⟨rfl,hb⟩;have aK:=AA hb;clear hb;go_wp2_with fail;go_ret;exact⟨AB HE.o,aK.o⟩
def XA(r:RV):Kc AD:=⟨r.ep,r.en,r.ec,r.eff⟩
theorem Wu:(prog.info? 25).map (fun i=>(i.zero,i.size,i.bytes))=some (some (.slice none 0 0),1,24):=by kernel_rfl
theorem Gu(r:Kc AD):(Fy r).length=1:=rfl
theorem Rf:∀r:Kc AD,∀u∈Fy r,u.oneCell'=true:=by intro r u hu;simp [Fy] at hu;subst hu;rfl
theorem UP(q:Option Addr)(m mc:Nat)(more:List AD)(l:List RV):A2 (((⟨q,m,mc,more⟩:Kc AD)::l.map XA).flatMap (·.l))=BO (Ak l) more:=by
 unfold BO Ak;have h:(l.map XA).flatMap (·.l)=(l.map RV.er).flatMap (·.2):=by rw [List.flatMap_map,List.flatMap_map];rfl
 rw [List.flatMap_cons,h]
theorem BM{p:Option Addr}{n c:Nat}{l:List RV}{w:World}(hr:AE Ck 5 w p n c l)(he:∀r∈l,AE AS 3 w r.ep r.en r.ec r.eff){q:Option Addr}{m mc:Nat}{more:List AD}(hm:AE AS 3 w q m mc more)(hn:n≤1000)(dA:m+(l.map (·.en)).sum≤1000000):Calls prog 140 #[.slice p n c,.slice q m mc] w fun e w'=>∃v k,e=.returned v∧AJ AS 3 w' w.heap.size 59 v k (BO (Ak l) more)∧Below w.heap.size w w':=by
 have HR:=AA hr;have rI:=AA he;have HM:=AA hm;clear hr he hm;go_enter func140,ntmps140;go_wp2_with fail;have sC:Hd (AJ Fy 1 (w.alloc (.cells #[.slice q m mc] 25)) w.heap.size 25 (.slice (some ⟨w.heap.size,0,none⟩) 1 1) 1 [(⟨q,m,mc,more⟩:Kc AD)]):=IX Gu w w.heap.size _ [(⟨q,m,mc,more⟩:Kc AD)] 1 _ rfl rfl (by decide) (Nat.le_refl _);have cx:=AA ((Below.refl w.heap.size w).alloc (Nat.le_refl _) (.cells #[.slice q m mc] 25));have bu:=HR.o.max;go_loopw [5,7,12] (fun u _ i wr=>∃(k:Nat) (v0:Value),k≤n∧i=.int .i64 k∧v0=u∧AJ Fy 1 wr w.heap.size 25 v0 (k+1) ((⟨q,m,mc,more⟩:Kc AD)::(l.take k).map XA)∧Below w.heap.size w wr) (fun _ _ i _=>n-(intOf i).toNat)
 case atStart=>exact⟨0,_,by omega,rfl,rfl,by simpa using sC.o,cx.o⟩
 case round=>
  obtain⟨k,v0,hk,rfl,rfl,hv,hb⟩:=hrel;have HV:=AA hv;have HB:=AA hb;clear hv hb;by_cases aF:k<n
  ·obtain⟨x,hx⟩:=AM (l:=l) (j:=k) (by rw [HR.o.len];exact aF);have HT:=AA (AI hx);obtain⟨b,o,rfl,aP,d0,d1,d2,d3,d4⟩:=VS (HR.o.below HB.o) hx;clear hx aP;have tU:Hd (Below wr.heap.size wr (wr.alloc (.cells #[.int .u8 x.ty.head.kind,.int .i64 x.ty.head.rho,.slice x.ty.head.ep x.ty.head.en x.ty.head.ec,.slice x.ty.head.kp x.ty.head.kn x.ty.head.kc,.slice x.ep x.en x.ec] 81))):=bA;have gG:=AA (Al Gu (by omega) (wr.alloc (.cells #[.int .u8 x.ty.head.kind,.int .i64 x.ty.head.rho,.slice x.ty.head.ep x.ty.head.en x.ty.head.ec,.slice x.ty.head.kp x.ty.head.kn x.ty.head.kc,.slice x.ep x.en x.ec] 81)) 25 [XA x] 1 #[.slice x.ep x.en x.ec] rfl rfl (by decide));have tN:=HB.o.size;go_wp2_with (at_builtin;(refine Cj rfl _ _ 66 rfl w.heap.size 25 _ 1 24 underlying66 Wu rfl (by decide) Fy Gu Rf [XA x] _ _ _ (A5 (A5 HV.o _) _) (some ⟨wr.heap.size+1,0,none⟩) 1 1 rfl rfl rfl (by intro h;cases h) (by simpa using gG.o.row) (by omega) (by omega) (by simp<;>omega) ?_;intro v3 w3 aX bM;have sD:=AA aX;have aV:=AA (Below.own ((HB.o.alloc tN _).alloc (by simp<;>omega) _) bM (by simp<;>omega) (A5 (A5 HV.o _) _));clear aX bM));go_roundw
   case rel=>exact⟨k+1,_,by omega,by go_num,rfl,by rw [HT.o,List.map_append];exact sD.o,aV.o⟩
   case measure=>simp [intOf];omega
  ·obtain rfl:k=n:=by omega
   have cA:l.take k=l:=AP (by rw [HR.o.len];exact Nat.le_refl _);rw [cA] at HV;obtain⟨q2,c2,rfl,aD⟩:=AJ.isRow Gu (by omega) HV.o
   have bR:∀r∈(⟨q,m,mc,more⟩:Kc AD)::l.map XA,r.Ok AS 3 wr:=fun r hr=>by
    rcases List.mem_cons.1 hr with rfl|hr
    ·have h:=HM.o.below HB.o;exact⟨h.len,h.le,h.nil,h.row⟩
    ·obtain⟨x,hx,rfl⟩:=List.mem_map.1 hr;have h:=(rI.o x hx).below HB.o;exact⟨h.len,h.le,h.nil,h.row⟩
   have qt:(((⟨q,m,mc,more⟩:Kc AD)::l.map XA).map (·.n)).sum≤1000000:=by rw [List.map_cons,List.sum_cons,List.map_map];exact dA
   have HU:=AA (C6 q2 (k+1) c2 _ wr aD.len (by omega) aD.row bR qt);clear aD bR qt cA;go_wp2_with fail;refine HU.o.mono ?_;rintro e w3 ⟨v,j,rfl,_,aB,dq⟩;have HO:=AA aB;have aV:=bt HB dq;clear aB dq;go_wp2_with fail;go_ret;exact⟨v,j,rfl,by rw [←UP q m mc more l];exact HO.o.lower HB.o.size,aV.o⟩
structure RG(w W:World)(a:AH)(x y:Value):Prop where
 b0:W.heap[w.heap.size]?=some (.cells #[x,y] 84 (0,0))
 b1:Fq W (w.heap.size+1) a
 below:Below w.heap.size w W
theorem PS(w:World)(a:AH)(x y:Value):RG w ((w.alloc (.cells #[x,y] 84)).alloc (AO a)) a x y:=by have e1:=Aa (w.alloc (.cells #[x,y] 84)) a;rw [show (w.alloc (.cells #[x,y] 84)).heap.size=w.heap.size+1 by simp] at e1;refine⟨?_,e1,((Below.refl w.heap.size w).alloc (Nat.le_refl _) _).alloc (by simp) _⟩;rw [Below.heap_alloc _ _ _ (by simp)];exact heap_alloc_new w _
theorem RG.step{w W W':World}{a:AH}{x y:Value}(h:RG w W a x y)(hb:Below W.heap.size W W'):RG w W' a x y:=⟨(hb.block _ (Array.getElem?_eq_some_iff.1 h.b0).1).trans h.b0,h.b1.below hb,h.below.trans (hb.mono h.below.size)⟩
theorem RG.scells{w W:World}{a:AH}{x y:Value}(h:RG w W a x y):W.cell? ⟨w.heap.size,0,none⟩=some x∧W.cell? ⟨w.heap.size,1,none⟩=some y:=by constructor<;>simp only [World.cell?,h.b0]<;>rfl
theorem RG.set{w W:World}{a:AH}{x y x':Value}(h:RG w W a x y)(y':Value):RG w (W.setRow w.heap.size #[x',y']) a x' y':=⟨setRow_heap _ _ _ _ _ _ h.b0,⟨(setRow_other _ _ _ _ (by omega)).trans h.b1.blk⟩,h.below.grown BB h.below.size (fun k e=>by cases e;exact Nat.le_refl _)⟩
theorem Fq.lt{W:World}{g:Nat}{a:AH}(h:Fq W g a):g<W.heap.size:=(Array.getElem?_eq_some_iff.1 h.blk).1
theorem W7{W:World}{g:Nat}{x y:Value}{t:TypeId}(h:W.heap[g]?=some (.cells #[x,y] t (0,0))):W.rangeAt g 0 [x,y]:=fun j v hj=>by rw [Nat.zero_add,Lib.cell_of_heap h];simpa using hj
theorem RG.r0{w W:World}{a:AH}{x y:Value}(h:RG w W a x y):W.rangeAt w.heap.size 0 [x,y]:=W7 h.b0
theorem Ea{w:World}{p:Option Addr}{n c:Nat}{l:List Int}{q:Option Addr}{m mc:Nat}{rhos:List Int}{u:Bool}(hu:At rhos l=u)(hr:AE Ab 1 w p n c l)(ep:Option Addr)(en ec:Nat)(hq:AE Ab 1 w q m mc rhos):Calls prog 130 #[.agg #[.slice ep en ec,.slice q m mc],.slice p n c] w (RB w (.bool u)):=by subst hu;exact N2 hr ep en ec hq
theorem Ax{W:World}{g:Nat}{a:AH}(h:Fq W g a)(o n:Nat){cs:List Value}(hc:cs=((Bn a).drop o).take n):W.rangeAt g o cs:=fun j v hj=>by
 subst hc;rw [List.getElem?_take] at hj;split at hj
 ·rw [List.getElem?_drop] at hj;exact h.c (o+j) v hj
 ·cases hj
theorem DQ{w:World}{x y:PT}(hx:LR.lies w x)(hy:LR.lies w y)(e:Nat):Da (w.alloc (.cells #[.int .u8 x.head.kind,.int .i64 x.head.rho,.slice x.head.ep x.head.en x.head.ec,.slice x.head.kp x.head.kn x.head.kc,.int .u8 y.head.kind,.int .i64 y.head.rho,.slice y.head.ep y.head.en y.head.ec,.slice y.head.kp y.head.kn y.head.kc] e)) (some ⟨w.heap.size,0,none⟩) 2 2 [x,y]:=by
 refine⟨Al Hi (by omega) w e [x,y] 2 _ ?_ rfl (by decide),fun t ht=>?_⟩
 ·simp [Hw.encT,LR,Ma]
 ·have hb:Below w.heap.size w (w.alloc (.cells #[.int .u8 x.head.kind,.int .i64 x.head.rho,.slice x.head.ep x.head.en x.head.ec,.slice x.head.kp x.head.kn x.head.kc,.int .u8 y.head.kind,.int .i64 y.head.rho,.slice y.head.ep y.head.en y.head.ec,.slice y.head.kp y.head.kn y.head.kc] e)):=bA;simp only [List.mem_cons,List.not_mem_nil,or_false] at ht;rcases ht with rfl|rfl
  ·exact LR.lies_below hb _ hx
  ·exact LR.lies_below hb _ hy
def RP(a:AH)(b:Bool)(e:Ending):Prop:=(b=true→e=.returned (.tuple #[]))∧(b=false→e=.panicked [{ v:=Jq a.at_ 4,recovered:=false }])
theorem R8{a:AH}{b:Bool}(h:b=true):RP a b (.returned (.tuple #[])):=⟨fun _=>rfl,fun h'=>(by rw [h] at h';cases h')⟩
theorem Iy{a:AH}{b:Bool}(h:b=false):RP a b (.panicked [{ v:=Jq a.at_ 4,recovered:=false }]):=⟨fun h'=>(by rw [h] at h';cases h'),fun _=>rfl⟩
theorem Cu{w:World}{a:AH}(ha:AH.Own w a)(hs:Bl a)(ep:Option Addr)(en ec:Nat){q:Option Addr}{m mc:Nat}{rhos:List Int}(hq:AE Ab 1 w q m mc rhos)(hm:m≤900000):Calls prog 95 #[.agg #[.slice ep en ec,.slice q m mc],Aj a] w fun e w'=>RP a (A8 a.plain rhos) e∧Below w.heap.size w w':=by
 have HX:=AA (PS w a (.slice ep en ec) (.slice q m mc));have HQ:=AA hq;have ax:=AA ha.rhos;have aq:=AA ha.eff;have bH:=AA ha.ty;have bT:=AA ha.res;have dy:a.en≤1000000:=by have h1:=ha.eff.len;have h2:=CD hs.eff;omega
 have d8:a.rn≤50:=hs.rhos;have dT:=AA dy;have dI:(AY [a.ty,a.res]).length≤1000000:=by have h1:=C5 _ hs.ty.effs;have h2:=C5 _ hs.res.effs;have h3:=hs.ty.size;have h4:=hs.res.size;simp only [AY,List.flatMap_cons,List.flatMap_nil,List.append_nil,List.length_append];omega
 have gY:=AA dI
 have lu:Hd (Vx [a.ty,a.res]):=fun x hx=>by
  simp only [List.mem_cons,List.not_mem_nil,or_false] at hx;rcases hx with rfl|rfl
  ·exact MZ _ ha.ty hs.ty.effs
  ·exact MZ _ ha.res hs.res.effs
 obtain⟨u1,ns⟩:∃u1,At rhos [a.rho]=u1:=⟨_,rfl⟩;obtain⟨u2,j8⟩:∃u2,At rhos a.rhos=u2:=⟨_,rfl⟩;have sA:=AA ns;have lP:=AA j8;have iR:Hd (A8 a.plain rhos=((decide (a.kind=17)||u1)&&(!decide (a.kind=18)||u2)&&(At (if a.kind=13 then rhos++a.rhos else rhos) (BQ a.eff)&&At (if a.kind=13 then rhos++a.rhos else rhos) (Bv (AY [a.ty,a.res]))))):=by show _=_;rw [←ns,←j8];simp [A8,At,AH.plain,AY];rfl
 clear hq ha hs dy dI ns j8;have c0:=HX.o.b1.c 0 _ rfl;go_enter func95,ntmps95;go_upto_if 7 with fail;go_cut [] from 4 to 15 (fun wx=>RG w wx a (.slice ep en ec) (.slice q m mc)∧(decide (a.kind=17)||u1)=true)
 case first=>
  by_cases k17:a.kind=17
  ·have e17:(a.kind != 17)=false:=by simp [k17]
   go_wp2_with fail;go_meet
   case rel=>exact⟨HX.o,by simp [k17]⟩
  ·have e17:(a.kind != 17)=true:=by simp [k17]
   have oT:=AA k17;have gv:=iR;clear c0;go_upto_region 2 with fail;generalize (w.alloc (.cells #[.slice ep en ec,.slice q m mc] 84)).alloc (AO a)=W1 at *
   refine rg (fun W'=>Below W1.heap.size W1 W') (AC W1) fun aA=>?_;refine tm 0 8 [.slice ep en ec,.slice q m mc] 84 w.heap.size 0 (fun W' aC=>(HX.o.step aC).r0) underlying84 ?_;refine tp 1 9 ?_;refine tp 2 10 ?_ (hy:=fun w aC=>by(try dsimp only at aC);have q7:=(HX.o.step aC).b1.c 7 _ rfl;go_simp;try with_reducible rfl);refine ta 5 13 a (w.heap.size+1) 0 (fun W' aC=>(HX.o.step aC).b1.range) ?_;refine tr 3 11 fun K hK=>?_;go_simp;refine tn hK (AQ aA _) ?_;clear aA hK K;intro aA;refine tr 4 12 fun K hK=>?_;go_simp;go_at_call 130;refine(Ea sA.o ((Al Ag (by omega) W1 3 [a.rho] 1 #[.int .i64 a.rho] rfl rfl (by decide)).below (AC _)) ep en ec (HQ.o.below (HX.o.below.trans (aA.mono HX.o.below.size)))).mono ?_;rintro e w8 ⟨rfl,hb⟩;try go_wp2_with fail
   refine tn hK (AK aA hb) ?_;clear aA hK K;intro aA;refine tr 6 14 fun K hK=>?_;go_simp;cases u1
   ·go_at_call 64;refine(Bd a 4 _).mono ?_;rintro e w9 ⟨rfl,hb⟩;exact⟨rfl,Iy (gv.o.trans (by simp [oT.o])),HX.o.below.trans ((AK aA hb).mono HX.o.below.size)⟩
   go_at_call 64;refine(BZ a 4 _).mono ?_;rintro e w9 ⟨rfl,hb⟩;try go_wp2_with fail
   refine tn hK (AK aA hb) ?_;clear aA hK K;intro aA;refine dn ?_;have ah:=AA (HX.o.step aA);clear aA;go_wp2_with fail;go_meet
   case rel=>exact⟨ah.o,by simp⟩
 case rest=>
  obtain⟨hx,jo⟩:=hcut;clear HX c0;have HX:=AA hx;have jf:=AA jo;have c0:=HX.o.b1.c 0 _ rfl;clear hx jo;go_upto_if 18 with fail;go_cut [] from 4 to 24 (fun wx=>RG w wx a (.slice ep en ec) (.slice q m mc)∧(!decide (a.kind=18)||u2)=true)
  case first=>
   by_cases k18:a.kind=18
   ·have e18:(a.kind==18)=true:=by simp [k18]
    have oU:=AA k18;have gv:=iR;clear c0 k18;go_upto_region 4 with fail;refine rg (fun W'=>Below wc.heap.size wc W') (AC wc) fun aA=>?_;refine tm 0 19 [.slice ep en ec,.slice q m mc] 84 w.heap.size 0 (fun W' aC=>(HX.o.step aC).r0) underlying84 ?_;refine tp 1 20 ?_;refine tp 2 21 ?_ (hy:=fun w aC=>by(try dsimp only at aC);have q8:=(HX.o.step aC).b1.c 8 _ rfl;go_simp;try with_reducible rfl);refine ta 4 23 a (w.heap.size+1) 0 (fun W' aC=>(HX.o.step aC).b1.range) ?_;refine tr 3 22 fun K hK=>?_;go_simp;go_at_call 130;refine(Ea lP.o (ax.o.below (HX.o.below.trans (aA.mono HX.o.below.size))) ep en ec (HQ.o.below (HX.o.below.trans (aA.mono HX.o.below.size)))).mono ?_;rintro e w8 ⟨rfl,hb⟩;try go_wp2_with fail
    refine tn hK (AK aA hb) ?_;clear aA hK K;intro aA;refine tr 5 24 fun K hK=>?_;go_simp;cases u2
    ·go_at_call 64;refine(Bd a 4 _).mono ?_;rintro e w9 ⟨rfl,hb⟩;exact⟨rfl,Iy (gv.o.trans (by simp [oU.o])),HX.o.below.trans ((AK aA hb).mono HX.o.below.size)⟩
    go_at_call 64;refine(BZ a 4 _).mono ?_;rintro e w9 ⟨rfl,hb⟩;try go_wp2_with fail
    refine tn hK (AK aA hb) ?_;clear aA hK K;intro aA;refine dn ?_;have ah:=AA (HX.o.step aA);clear aA;go_wp2_with fail;go_meet
    case rel=>exact⟨ah.o,by simp⟩
   ·have e18:(a.kind==18)=false:=by simp [k18]
    go_wp2_with fail;go_meet
    case rel=>exact⟨HX.o,by simp [k18]⟩
  case rest=>
   obtain⟨hx,gM⟩:=hcut;clear HX c0;have HX:=AA hx;have fc:=AA gM;have c0:=HX.o.b1.c 0 _ rfl;clear hx gM;go_upto_if 28 with fail;go_cut [] from 4 to 33 (fun wx=>∃(q7:Option Addr) (m7 c7:Nat),RG w wx a (.slice ep en ec) (.slice q7 m7 c7)∧AE Ab 1 wx q7 m7 c7 (if a.kind=13 then rhos++a.rhos else rhos))
   case first=>
    by_cases k13:a.kind=13
    ·have e13:(a.kind==13)=true:=by simp [k13]
     have oS:=AA k13;have c8:=HX.o.b1.c 8 _ rfl;obtain⟨s0,s1⟩:=HX.o.scells;clear k13
     go_wp2_with (first
      |(refine sw #[.slice ep en ec,.slice p' (m+a.rn) c'] lR.o.b0 ?_)
      |(go_at_call 131;refine(Eb (HQ.o.below HX.o.below) ep en ec (ax.o.below HX.o.below) (by omega)).mono ?_;rintro e wA ⟨p',c',rfl,aD,hb,cX⟩;have aL:=AA aD;have kX:=AA cX;have lR:=AA (HX.o.step hb);have tI:=HX.o.b1.lt;clear aD hb cX))
     go_meet
     case rel=>
      refine⟨p',_,c',lR.o.set _,?_⟩;rw [if_pos oS.o];refine Fg aL.o BB (fun hl ad hp e=>?_);rcases kX.o with⟨h1,h2⟩|h2
      ·have aF:=Bf HQ.o.row (by intro h0;apply hl;rw [h0,h1];rfl) (h2▸hp);omega
      ·have:=h2 ad hp;omega
    ·have e13:(a.kind==13)=false:=by simp [k13]
     go_wp2_with fail;go_meet
     case rel=>exact⟨q,m,mc,HX.o,by rw [if_neg k13];exact HQ.o.below HX.o.below⟩
   case rest=>
    obtain⟨q7,m7,c7,hx,aD⟩:=hcut;clear HX c0;have HX:=AA hx;have nV:=AA aD;clear hx aD;obtain⟨R,hR⟩:∃R,(if a.kind=13 then rhos++a.rhos else rhos)=R:=⟨_,rfl⟩;rw [hR] at iR nV;clear hR;have gv:Hd (A8 a.plain rhos=(At R (BQ a.eff)&&At R (Bv (AY [a.ty,a.res])))):=by show _=_;rw [iR.o,jf.o,fc.o];simp
    obtain⟨u3,fA⟩:∃u3,At R (BQ a.eff)=u3:=⟨_,rfl⟩;obtain⟨u4,fB⟩:∃u4,At R (Bv (AY [a.ty,a.res]))=u4:=⟨_,rfl⟩;rw [fA,fB] at gv;have gI:=AA fA;have jP:=AA fB;clear fA fB iR;go_upto_region 7 with fail;cases u3
    ·skip;refine rg (fun W'=>Below wc.heap.size wc W') (AC wc) fun aA=>?_;refine tm 0 33 [.slice ep en ec,.slice q7 m7 c7] 84 w.heap.size 0 (fun W' aC=>(HX.o.step aC).r0) underlying84 ?_;refine tp 1 34 ?_;refine tp 2 35 ?_ (hy:=fun w aC=>by(try dsimp only at aC);have q9:=(HX.o.step aC).b1.c 9 _ rfl;go_simp;try with_reducible rfl);refine ta 16 49 a (w.heap.size+1) 0 (fun W' aC=>(HX.o.step aC).b1.range) ?_;refine tr 3 36 fun K hK=>?_;go_simp;refine tn hK (AQ aA _) ?_;clear aA hK K;intro aA;refine tr 4 37 fun K hK=>?_;go_simp;go_at_call 132;refine(FN _ 1 1 [⟨a.ep,a.en,a.ec,a.eff⟩] _ rfl (by decide) ((Sm (w:=wc) a.eff 25).below (AC _)) (U9 (aq.o.below (HX.o.below.trans (aA.mono HX.o.below.size)))) (by simpa using dT.o)).mono ?_;rintro e w3 ⟨q3,m3,c3,rfl,_,aD,hb⟩;have aL:Hd (AE Ab 1 w3 q3 m3 c3 (BQ a.eff)):=by have h:=aD;simp only [List.flatMap_cons,List.flatMap_nil,List.append_nil] at h;exact h
     clear aD;try go_wp2_with fail
     refine tn hK (AK aA hb) ?_;clear aA hK K;intro aA;refine tr 5 38 fun K hK=>?_;go_simp;go_at_call 130;refine(Ea gI.o aL.o ep en ec (nV.o.below aA)).mono ?_;rintro e w8 ⟨rfl,hb⟩;try go_wp2_with fail
     refine tn hK (AK aA hb) ?_;clear aA hK K;intro aA;refine tp 6 39 ?_;refine Cz 7 40 6 true ?_;refine Cz 8 41 6 true ?_;refine Cz 9 42 6 true ?_;refine Cz 10 43 6 true ?_;refine Cz 11 44 6 true ?_;refine K6 12 45 6 true fun K hK=>?_;go_simp;refine tn hK (aA) ?_;clear aA hK K;intro aA;refine K6 13 46 6 true fun K hK=>?_;go_simp;refine tn hK (aA) ?_;clear aA hK K;intro aA;refine K6 14 47 6 true fun K hK=>?_;go_simp;refine tn hK (aA) ?_;clear aA hK K;intro aA;refine tp 15 48 ?_;refine tr 17 50 fun K hK=>?_;go_simp;go_at_call 64;refine(Bd a 4 _).mono ?_;rintro e w9 ⟨rfl,hb⟩;exact⟨rfl,Iy (gv.o.trans (by simp)),HX.o.below.trans ((AK aA hb).mono HX.o.below.size)⟩
    ·skip;refine rg (fun W'=>Below wc.heap.size wc W') (AC wc) fun aA=>?_;refine tm 0 33 [.slice ep en ec,.slice q7 m7 c7] 84 w.heap.size 0 (fun W' aC=>(HX.o.step aC).r0) underlying84 ?_;refine tp 1 34 ?_;refine tp 2 35 ?_ (hy:=fun w aC=>by(try dsimp only at aC);have q9:=(HX.o.step aC).b1.c 9 _ rfl;go_simp;try with_reducible rfl);refine ta 16 49 a (w.heap.size+1) 0 (fun W' aC=>(HX.o.step aC).b1.range) ?_;refine tr 3 36 fun K hK=>?_;go_simp;refine tn hK (AQ aA _) ?_;clear aA hK K;intro aA;refine tr 4 37 fun K hK=>?_;go_simp;go_at_call 132;refine(FN _ 1 1 [⟨a.ep,a.en,a.ec,a.eff⟩] _ rfl (by decide) ((Sm (w:=wc) a.eff 25).below (AC _)) (U9 (aq.o.below (HX.o.below.trans (aA.mono HX.o.below.size)))) (by simpa using dT.o)).mono ?_;rintro e w3 ⟨q3,m3,c3,rfl,_,aD,hb⟩;have aL:Hd (AE Ab 1 w3 q3 m3 c3 (BQ a.eff)):=by have h:=aD;simp only [List.flatMap_cons,List.flatMap_nil,List.append_nil] at h;exact h
     clear aD;try go_wp2_with fail
     refine tn hK (AK aA hb) ?_;clear aA hK K;intro aA;refine tr 5 38 fun K hK=>?_;go_simp;go_at_call 130;refine(Ea gI.o aL.o ep en ec (nV.o.below aA)).mono ?_;rintro e w8 ⟨rfl,hb⟩;have pv:=AA (AK aA hb);try go_wp2_with fail
     refine tn hK (AK aA hb) ?_;clear aA hK K;intro aA;refine tp 6 39 ?_;refine Xn 7 40 6 true [.slice ep en ec,.slice q7 m7 c7] 84 w.heap.size 0 (fun W' aC=>(HX.o.step aC).r0) underlying84 ?_;refine Db 8 41 6 true ?_;refine RI 9 42 6 true a.ty (w.heap.size+1) 10 (fun W' aC=>Ax (HX.o.step aC).b1 10 4 rfl) ?_;refine Db 10 43 6 true ?_;refine RI 11 44 6 true a.res (w.heap.size+1) 14 (fun W' aC=>Ax (HX.o.step aC).b1 14 4 rfl) ?_;refine K6 12 45 6 true fun K hK=>?_;go_simp;refine tn hK (AQ aA _) ?_;clear aA hK K;intro aA;refine K6 13 46 6 true fun K hK=>?_;go_simp;go_at_call 133;refine(Ig (DQ (LR.lies_below (HX.o.below.trans (pv.o.mono HX.o.below.size)) _ bH.o) (LR.lies_below (HX.o.below.trans (pv.o.mono HX.o.below.size)) _ bT.o) _) gY.o lu.o).mono ?_;rintro e w5 ⟨q5,m5,c5,rfl,_,aD,hb⟩;have l8:=AA aD;clear aD;try go_wp2_with fail
     refine tn hK (AK aA hb) ?_;clear aA hK K;intro aA;refine K6 14 47 6 true fun K hK=>?_;go_simp;go_at_call 130;refine(Ea jP.o l8.o ep en ec (nV.o.below aA)).mono ?_;rintro e w8 ⟨rfl,hb⟩;try go_wp2_with fail
     refine tn hK (AK aA hb) ?_;clear aA hK K;intro aA;refine tp 15 48 ?_;refine tr 17 50 fun K hK=>?_;go_simp;cases u4
     ·go_at_call 64;refine(Bd a 4 _).mono ?_;rintro e w9 ⟨rfl,hb⟩;exact⟨rfl,Iy (gv.o.trans (by simp)),HX.o.below.trans ((AK aA hb).mono HX.o.below.size)⟩
     go_at_call 64;refine(BZ a 4 _).mono ?_;rintro e w9 ⟨rfl,hb⟩;try go_wp2_with fail
     refine tn hK (AK aA hb) ?_;clear aA hK K;intro aA;refine dn ?_;have ah:=AA (HX.o.step aA);clear aA;go_wp2_with fail;go_end0;exact⟨R8 (gv.o.trans (by simp)),ah.o.below⟩
structure FU(w:World)(a:AH)(W:World):Prop where
 box:Fq W w.heap.size a
 res:∃cs:Array Value,cs.size=5∧W.heap[w.heap.size+1]?=some (.cells cs 81 (0,0))
 below:Below w.heap.size w W
 size:w.heap.size+2≤W.heap.size
theorem Ct(w:World)(a:AH):FU w a ((w.alloc (AO a)).alloc (.cells #[.int .u8 0,.int .i64 0,.slice none 0 0,.slice none 0 0,.slice none 0 0] 81)):=by have e:=heap_alloc_new (w.alloc (AO a)) (.cells #[.int .u8 0,.int .i64 0,.slice none 0 0,.slice none 0 0,.slice none 0 0] 81);simp only [World.size_alloc] at e;exact⟨(Aa w a).below bA,⟨_,rfl,e⟩,((Below.refl w.heap.size w).alloc (Nat.le_refl _) _).alloc (by simp) _,by simp⟩
theorem FU.step{w W W':World}{a:AH}(h:FU w a W)(hb:Below W.heap.size W W'):FU w a W':=by obtain⟨cs,h1,h2⟩:=h.res;exact⟨h.box.below hb,⟨cs,h1,(hb.block _ (Array.getElem?_eq_some_iff.1 h2).1).trans h2⟩,h.below.trans (hb.mono h.below.size),Nat.le_trans h.size hb.size⟩
theorem FU.alloc{w W:World}{a:AH}(h:FU w a W)(o:Obj):FU w a (W.alloc o):=h.step bA
theorem FU.drew{w W:World}{a:AH}(h:FU w a W):FU w a W.drew:=h.step (AC W)
theorem FU.store{w W:World}{a:AH}(h:FU w a W){cs:Array Value}(hc:cs.size=5):FU w a (W.setRow (w.heap.size+1) cs):=by obtain⟨cs',h1,h2⟩:=h.res;exact⟨⟨(setRow_other _ _ _ _ (by omega)).trans h.box.blk⟩,⟨cs,hc,setRow_heap _ _ _ _ _ _ h2⟩,h.below.grown BB h.below.size (fun k e=>by cases e;omega),by have:=h.size;simpa using this⟩
theorem Ew{P:Program}{ops:Array Oper}{rest:List Oper}{o:Oper}{act:Act}{Q:Exit→Act→World→Prop}(au:o.guard=none)(ty:TypeId)(x y:Operand)(ho:o.op=.store ty x y){w W:World}{a:AH}(h:FU w a W)(cells:Array Value)(hx:act.eval x=.pointer (some ⟨w.heap.size+1,0,none⟩))(hy:act.eval y=.agg cells)(hi:(P.info? ty).map (·.size)=some cells.size)(h5:cells.size=5)(h1:cells.all (·.oneCell')=true)(hK:wpList P ops Q rest (act.put o.dst undef) (W.setRow (w.heap.size+1) cells)):wpList P ops Q (o::rest) act W:=by obtain⟨cs,e1,e2⟩:=h.res;exact wpList_store_row au ty x y ho (w.heap.size+1) cells hx hy 81 cs e2 hi (by omega) h1 hK
theorem A9{P:Program}{ops:Array Oper}{o:Oper}{act:Act}{K:Act→World→Prop}{Q:Exit→Act→World→Prop}{E:Prop}(au:o.guard=none)(ty:TypeId)(x y:Operand)(ho:o.op=.store ty x y){w W:World}{a:AH}(h:FU w a W)(cells:Array Value)(hx:act.eval x=.pointer (some ⟨w.heap.size+1,0,none⟩))(hy:act.eval y=.agg cells)(hi:(P.info? ty).map (·.size)=some cells.size)(h5:cells.size=5)(h1:cells.all (·.oneCell')=true)(hK:K (act.put o.dst undef) (W.setRow (w.heap.size+1) cells)):if Region.wanted o (yielded ops act.tmps)=true then Oper.wp P o act W K Q else E:=by obtain⟨cs,e1,e2⟩:=h.res;rw [if_pos (by simp [Region.wanted,au])];exact wp_store_row ty x y ho (w.heap.size+1) cells hx hy 81 cs e2 hi (by omega) h1 hK
theorem VT{w W:World}{a:AH}(h:FU w a W){S:Nat→Prop}(hS:¬S (w.heap.size+1)){y:RV}(hy:y.Ok W S)(cs:Array Value):y.Ok (W.setRow (w.heap.size+1) cs) S:=hy.grown BB (fun b e=>by cases e;exact hS)
def Sn(w:World)(S:Nat→Prop)(b:Nat):Prop:=(b<w.heap.size∧S b)∨w.heap.size+2≤b
theorem FU.heap{w W:World}{a:AH}(h:FU w a W)(cs:Array Value):(W.setRow (w.heap.size+1) cs).heap[w.heap.size+1]?=some (.cells cs 81 (0,0)):=by obtain⟨cs',_,h2⟩:=h.res;exact setRow_heap _ _ _ _ _ _ h2
abbrev Cc(y:RV):Array Value:=#[.int .u8 y.ty.head.kind,.int .i64 y.ty.head.rho,.slice y.ty.head.ep y.ty.head.en y.ty.head.ec,.slice y.ty.head.kp y.ty.head.kn y.ty.head.kc,.slice y.ep y.en y.ec]
theorem EG{w W:World}{a:AH}{S:Nat→Prop}{y:RV}{x:TE}(h:FU w a W)(hS:∀b,w.heap.size≤b→S b)(hy:y.Ok W (Sn w S))(hx:y.er=x):Dd w S (.ok x) (.returned (K9 y)) (W.setRow (w.heap.size+1) (Cc y)):=by
 have hn:¬Sn w S (w.heap.size+1):=by rintro(⟨h1,_⟩|h1)<;>omega
 refine⟨⟨y,rfl,hx,(VT h hn hy _).weak (fun b _ hb=>?_)⟩,(h.store (cs:=Cc y) rfl).below⟩;rcases hb with⟨_,h2⟩|h2
 ·exact h2
 ·exact hS b (by omega)
theorem Eu{w W:World}{S:Nat→Prop}{p:Option Addr}{n c:Nat}{l:List RV}(h:Jw w S p n c l)(hb:Below w.heap.size w W):Jw W (Sn w S) p n c l:=⟨h.row.below hb,fun r hr=>((h.each r hr).weak (fun b h1 h2=>.inl ⟨h1,h2⟩)).below hb⟩
theorem Dl{l:List RV}{more:List AD}(hl:∀r∈l,∀x∈r.eff,Cq x)(hm:∀x∈more,Cq x):∀x∈BO (Ak l) more,Cq x:=fun x hx=>by
 rcases (Px hx).1 with h|⟨y,hy,h⟩
 ·exact hm x h
 ·obtain⟨r,hr,rfl⟩:=List.mem_map.1 hy;exact hl r hr x h
structure Eh(w:World)(S:Nat→Prop)(a:AH)(p:Option Addr)(n c:Nat)(l:List RV):Prop where
 own:AH.Own w a
 small:Bl a
 res:Jw w S p n c l
 new:∀b,w.heap.size≤b→S b
 ty:∀b∈A7 a.ty,S b
 few:n≤1000
 sum:(l.map (·.en)).sum≤900000
 good:∀r∈l,BF r.ty.er=true∧BG r.ty.er=true∧r.ty.size≤1000
theorem Rx{w W:World}{a:AH}{S:Nat→Prop}{q q3:Option Addr}{m qc k c3:Nat}{eff:List AD}(h:FU w a W)(hS:∀b,w.heap.size≤b→S b)(aD:AE AS 3 W q m qc [])(bP:AE AS 3 W q3 k c3 eff)(bw:∀ad,q3=some ad→w.heap.size+2≤ad.block)(bY:∀x∈eff,Cq x):Dd w S (.ok (Ij,eff)) (.returned (.agg #[.int .u8 1,.int .i64 0,.slice q m qc,.slice none 0 0,.slice q3 k c3])) (W.setRow (w.heap.size+1) #[.int .u8 1,.int .i64 0,.slice q m qc,.slice none 0 0,.slice q3 k c3]):=by have hl:LR.lies W (.node ⟨1,0,q,m,qc,[],none,0,0⟩ []):=BK.lies ⟨⟨aD,(fun x hx=>(nomatch hx)),by dsimp only;decide,by dsimp only;decide,by dsimp only;decide,by dsimp only;decide,by dsimp only;decide,by dsimp only;decide,fun _=>rfl⟩,AE.none _ _ _,fun t ht=>by cases ht⟩;exact EG (y:=⟨.node ⟨1,0,q,m,qc,[],none,0,0⟩ [],q3,k,c3,eff⟩) h hS ⟨hl,fun b hb=>by simp [CZ] at hb,bP,bY,fun _ ad hp=>.inr (bw ad hp)⟩ rfl
theorem Qw{W:World}{b o n c:Nat}{l:List RV}(h:AE Ck 5 W (some ⟨b,o,none⟩) n c l){j:Nat}{x:RV}(hx:l[j]?=some x):W.rangeAt b (o+j * 5) (Ck x):=fun i v hv=>by obtain⟨b',o',hp,_,hc⟩:=h.row.elem hx;cases hp;exact hc i v hv
theorem G3{W:World}{b o:Nat}{cs:List Value}(h:W.rangeAt b o cs)(k:Nat):W.rangeAt b o (cs.take k):=fun i v hv=>by
 rw [List.getElem?_take] at hv;split at hv
 ·exact h i v hv
 ·cases hv
theorem G7{W:World}{b o n c:Nat}{x:RV}{l:List RV}(h:AE Ck 5 W (some ⟨b,o,none⟩) n c (x::l)):W.rangeAt b o [.int .u8 x.ty.head.kind,.int .i64 x.ty.head.rho,.slice x.ty.head.ep x.ty.head.en x.ty.head.ec,.slice x.ty.head.kp x.ty.head.kn x.ty.head.kc]:=by have:=G3 (Qw h (j:=0) rfl) 4;simpa [Ck] using this
theorem Ih{W:World}{b o n c:Nat}{x y:RV}{l:List RV}(h:AE Ck 5 W (some ⟨b,o,none⟩) n c (x::y::l)):W.rangeAt b (o+5) [.int .u8 y.ty.head.kind,.int .i64 y.ty.head.rho,.slice y.ty.head.ep y.ty.head.en y.ty.head.ec,.slice y.ty.head.kp y.ty.head.kn y.ty.head.kc]:=by have:=G3 (Qw h (j:=1) rfl) 4;simpa [Ck] using this
theorem W8{W:World}{b o n c:Nat}{x y z:RV}{l:List RV}(h:AE Ck 5 W (some ⟨b,o,none⟩) n c (x::y::z::l)):W.rangeAt b (o+10) [.int .u8 z.ty.head.kind,.int .i64 z.ty.head.rho,.slice z.ty.head.ep z.ty.head.en z.ty.head.ec,.slice z.ty.head.kp z.ty.head.kn z.ty.head.kc]:=by have:=G3 (Qw h (j:=2) rfl) 4;simpa [Ck] using this
theorem E6{W:World}{b o n c:Nat}{x:RV}{l:List RV}(h:AE Ck 5 W (some ⟨b,o,none⟩) n c (x::l)):W.rangeAt b o (Ck x):=by simpa using Qw h (j:=0) rfl
theorem Cr{r:Int}(h0:-9223372036854775808≤r)(h1:r≤9223372036854775807):Cq (A3 r):=⟨by show (0:Int)≤2;decide,by show (2:Int)≤255;decide,h0,h1,by show (ByteArray.size ⟨#[]⟩)≤_;decide⟩
theorem D2{r:Int}(h0:-9223372036854775808≤r)(h1:r≤9223372036854775807):Cq (Bm r):=⟨by show (0:Int)≤1;decide,by show (1:Int)≤255;decide,h0,h1,by show (ByteArray.size ⟨#[]⟩)≤_;decide⟩
theorem CG(w:World)(x:AD):AE AS 3 (w.alloc (.cells #[.int .u8 x.kind,.int .i64 x.rho,.string x.exn] 59)) (some ⟨w.heap.size,0,none⟩) 1 1 [x]:=Al AF (by omega) w 59 [x] 1 _ rfl rfl (by decide)
theorem Es{W:World}{k rho:Int}{q:Option Addr}{m qc g:Nat}{eff:List AD}{x y:PT}(hk:0≤k∧k≤255)(hr:O4 rho)(aD:AE AS 3 W q m qc eff)(bY:∀x∈eff,Cq x)(ht:Da W (some ⟨g,0,none⟩) 2 2 [x,y]):LR.lies W (.node ⟨k,rho,q,m,qc,eff,some ⟨g,0,none⟩,2,2⟩ [x,y]):=BK.lies ⟨⟨aD,bY,hk.1,hk.2,hr.1,hr.2,by dsimp only;decide,by dsimp only;decide,fun h=>(nomatch h)⟩,ht.row,ht.each⟩
theorem Et{T:Nat→Prop}{k rho:Int}{q:Option Addr}{m qc g:Nat}{eff:List AD}{x y:PT}(hx:∀b∈A7 x,T b)(hy:∀b∈A7 y,T b)(hg:T g)(hq:eff≠[]→∀ad,q=some ad→T ad.block):∀b∈A7 (.node ⟨k,rho,q,m,qc,eff,some ⟨g,0,none⟩,2,2⟩ [x,y]),T b:=fun b hb=>by
 rcases FJ hb with⟨_,ad,hp,rfl⟩|⟨he,ad,hp,rfl⟩|⟨t,ht,na⟩
 ·cases hp;exact hg
 ·exact hq he ad hp
 ·simp only [List.mem_cons,List.not_mem_nil,or_false] at ht;rcases ht with rfl|rfl
  ·exact hx b na
  ·exact hy b na
theorem J7(t:PT):(PT.er t).head=t.head.plain:=by cases t;rw [PT.er_node];rfl
theorem Vz(t:PT):(PT.er t).kids=t.kids.map PT.er:=by cases t;rw [PT.er_node];rfl
theorem EE(k:Int)(r:RV):ON k r.er=(r.ty.head.kind==k):=by unfold ON RV.er;rw [J7];rfl
theorem UO(k:Int)(l:List RV):(Ak l).all (ON k)=l.all (fun r=>r.ty.head.kind==k):=by unfold Ak;rw [List.all_map];congr 1;funext r;exact EE k r
theorem Mu{W:World}{k rho:Int}{q:Option Addr}{m qc g:Nat}{eff:List AD}{x:PT}(hk:0≤k∧k≤255)(hr:O4 rho)(aD:AE AS 3 W q m qc eff)(bY:∀x∈eff,Cq x)(ht:Da W (some ⟨g,0,none⟩) 1 1 [x]):LR.lies W (.node ⟨k,rho,q,m,qc,eff,some ⟨g,0,none⟩,1,1⟩ [x]):=BK.lies ⟨⟨aD,bY,hk.1,hk.2,hr.1,hr.2,by dsimp only;decide,by dsimp only;decide,fun h=>(nomatch h)⟩,ht.row,ht.each⟩
theorem Mv{T:Nat→Prop}{k rho:Int}{q:Option Addr}{m qc g:Nat}{eff:List AD}{x:PT}(hx:∀b∈A7 x,T b)(hg:T g)(hq:eff≠[]→∀ad,q=some ad→T ad.block):∀b∈A7 (.node ⟨k,rho,q,m,qc,eff,some ⟨g,0,none⟩,1,1⟩ [x]),T b:=fun b hb=>by
 rcases FJ hb with⟨_,ad,hp,rfl⟩|⟨he,ad,hp,rfl⟩|⟨t,ht,na⟩
 ·cases hp;exact hg
 ·exact hq he ad hp
 ·rw [List.mem_singleton] at ht;subst ht;exact hx b na
theorem EV(x:RV):(AG.head x.er.1).rho=x.ty.head.rho:=by unfold RV.er;rw [J7];rfl
theorem Gv(x:RV):(AG.head x.er.1).eff=x.ty.head.eff:=by unfold RV.er;rw [J7];rfl
theorem NH{W:World}{b o n c:Nat}{x:RV}{l:List RV}(h:AE Ck 5 W (some ⟨b,o,none⟩) n c (x::l))(i:Nat)(v:Value)(hv:(Ck x)[i]?=some v):W.cell? ⟨b,o+i,none⟩=some v:=E6 h i v hv
structure Wf(w:World)(b o b1 o1 n kc:Nat)(x:RV)(ts:List PT):Prop where
 kids:x.ty.kids=ts
 cell:∀W,Below w.heap.size w W→W.cell? ⟨b,o+3,none⟩=some (.slice (some ⟨b1,o1,none⟩) n kc)
 row:Da w (some ⟨b1,o1,none⟩) n kc ts
theorem Wf.at{w:World}{b o b1 o1 n kc:Nat}{x:RV}{ts:List PT}(h:Wf w b o b1 o1 n kc x ts){j:Nat}{t:PT}(ht:ts[j]?=some t){W:World}(hb:Below w.heap.size w W):W.rangeAt b1 (o1+j * 4) [.int .u8 t.head.kind,.int .i64 t.head.rho,.slice t.head.ep t.head.en t.head.ec,.slice t.head.kp t.head.kn t.head.kc]:=fun i v hv=>by obtain⟨b',o',hp,_,hc⟩:=(h.row.below hb).row.row.elem ht;cases hp;exact hc i v hv
theorem KB{w:World}{S:Nat→Prop}{a:AH}{b o n c:Nat}{x:RV}{l:List RV}(h:Eh w S a (some ⟨b,o,none⟩) n c (x::l)){k:Int}(hk:x.ty.head.kind=k)(dL:k=2∨k=3∨k=4):∃b1 o1 kc ts,Wf w b o b1 o1 ts.length kc x ts∧ts.length=if k=3 then 1 else 2:=by
 have hx:=h.res.each x (by simp);have hm:=(h.good x (by simp)).1;have hn:BK w x.ty.head x.ty.kids:=BD (by rw [←AG.eta];exact hx.ty)
 have aG:x.ty.kids.length=if k=3 then 1 else 2:=by
  rw [AG.eta x.ty,Bj,Bool.and_eq_true] at hm;have h1:=hm.1;unfold Ar at h1;have e:x.ty.head.plain.kind=k:=hk;rcases dL with rfl|rfl|rfl
  ·simp [e] at h1;simp [h1]
  ·simp [e] at h1;simp [h1]
  ·simp [e] at h1;simp [h1]
 have aS:x.ty.kids≠[]:=by intro e;rw [e] at aG;simp at aG;split at aG<;>omega
 have ao:=hn.kids.len;rcases hn.kids.row with h0|⟨b1,o1,hp,_,_⟩
 ·exact absurd h0 aS
 ·refine⟨b1,o1,x.ty.head.kc,x.ty.kids,⟨rfl,fun W hb=>?_,?_⟩,aG⟩
  ·rw [NH (h.res.row.below hb) 3 _ rfl,hp,ao]
  ·rw [←hp,ao];exact hn.rowT
theorem KA{x:PT}{S:Nat→Prop}(h:∀b∈A7 x,S b){t:PT}(ht:t∈x.kids):∀b∈A7 t,S b:=fun b hb=>h b (by rw [AG.eta x];exact K7 ht hb)
theorem FO{x:PT}{ts:List PT}(h:x.kids=ts)(j:Nat):(PT.er x).kids.getD j Bu=((ts.map PT.er)[j]?).getD Bu:=by rw [Vz,h,List.getD_eq_getElem?_getD]
end Go.Proofs.YtkdjnegfnhldpaaGreatDoor
