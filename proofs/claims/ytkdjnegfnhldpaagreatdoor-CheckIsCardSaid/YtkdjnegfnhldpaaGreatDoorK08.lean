/- Part 08. -/
import Derived.WalkSmall
import Derived.Lib.LaidTab
import Derived.LaidLaws
import Derived.Stop.LaidErr
import Derived.Test.YtkdjnegfnhldpaaGreatDoorK07
set_option linter.unusedVariables false
set_option maxRecDepth 100000
set_option linter.unusedSimpArgs false
set_option maxHeartbeats 40000000
namespace Go.Proofs.YtkdjnegfnhldpaaGreatDoor
open Go.Proofs.Tryz Go.RowKit
section
open Go.ChangeShapes Go.WideShapes Go.ChangeAt Go.RowKit Go.Deep
section
variable {H:Type} {enc:TypeId×Value→H} {W:World} {base:Nat} {t e:TypeId} {v:Value} {d:DataW H} {ps:List MemPlace}
def Su(enc:TypeId×Value→H)(W:World)(e:TypeId)(n:Nat){α:Type}(enc1:α→List Value)(Q:α→Prop):Prop:=∀cs' x,DataW.trod enc prog W 0 (fun _=>true) true n e cs'=some x→cs'.length=prog.cellsOf e→∃y:α,cs'=enc1 y∧Q y
theorem FF{α:Type}{k fuel:Nat}{cs:List Value}{x:DataW H×List MemPlace}(enc1:α→List Value)(Q:α→Prop)(ht:prog.underlying t=some (.slice e))(hc:prog.cellsOf e=k)(ba:0<k)(mT:∀y,(enc1 y).length=k)(hf:DataW.trod enc prog W 0 (fun _=>true) true fuel t cs=some x)(he:∀n,n<fuel→Su enc W e n enc1 Q):∃p n cap,∃l:List α,cs=[.slice p n cap]∧AE enc1 k W p n cap l∧∀y∈l,Q y:=by
 rcases DataW.trod_slice ht hf with⟨am,_⟩|⟨a,len,cap,elems,rest,n,tf,am,_,_,hl,hm,aG,kw,_,_⟩
 ·exact⟨none,0,0,[],am,AE.none _ _ _,fun y hy=>by cases hy⟩
 ·unfold maxLen at hm
  have each:∀i,i<len→∃y:α,Q y∧∀j u,(enc1 y)[j]?=some u→W.cell? ((a.add (i * k)).add j)=some u:=by
   intro i hi;have h:=kw i hi;rw [List.getElem?_eq_getElem (by omega)] at h;obtain⟨cs',h1,h2⟩:=Option.bind_eq_some_iff.1 h;rw [hc] at h1;obtain⟨_,mi,bs⟩:=World.cells?_some h1;obtain⟨y,rfl,hq⟩:=he n (by omega) cs' _ h2 (by rw [hc];exact mi);refine⟨y,hq,fun j u hu=>?_⟩;have hj:j<k:=by rw [←mT y];exact Bh hu
   rw [bs j hj];exact hu
  by_cases mq:len=0
  ·subst mq;exact⟨_,0,cap,[],am,⟨rfl,by omega,hl,(fun h=>by cases h),.inl rfl⟩,fun y hy=>by cases hy⟩
  ·obtain⟨y0,_⟩:=each 0 (by omega);haveI:Inhabited α:=⟨y0⟩;obtain⟨q,hq⟩:=choose_lt each;obtain⟨b,off,spot⟩:=a;obtain⟨u0,tJ⟩:∃u,(enc1 (q 0))[0]?=some u:=AM (by rw [mT];omega);have c0:=(hq 0 (by omega)).2 0 u0 tJ;have nE:spot=none:=by simpa [Addr.add] using World.cell?_spot c0
   subst nE;have aP:b<W.heap.size:=by simpa [Addr.add] using An c0
   refine⟨_,len,cap,(List.range len).map q,am,⟨by simp,by omega,hl,(fun h=>by cases h),Qu W b off aP len q (fun j hj i u hu=>?_)⟩,fun y hy=>?_⟩
   ·have:=(hq j hj).2 i u hu;rw [FA,FA] at this;exact this
   ·obtain⟨j,hj,rfl⟩:=List.mem_map.1 hy;exact(hq j (List.mem_range.1 hj)).1
theorem Ud(n:Nat):Su enc W 3 n Ab (fun z:Int=>-9223372036854775808≤z∧z≤9223372036854775807):=by intro cs' x h _;obtain⟨z,rfl,_,hz⟩:=DataW.trod_int underlying3 h;exact⟨z,rfl,by simpa [Lit.wf,IntKind.min,IntKind.max,IntKind.signed,IntKind.bits] using hz⟩
theorem OH(n:Nat):Su enc W 59 n AS Cq:=by
 intro cs' x h aG;have he:prog.underlying 59=some (.struct (prog.fieldsOf 59)):=by kernel_rfl
 have ce:prog.cellsOf 59=3:=by kernel_rfl
 have F0:((prog.fieldsOf 59)[0]?).map (fun f=>(f.type,f.offset))=some (5,0):=by kernel_rfl
 have F1:((prog.fieldsOf 59)[1]?).map (fun f=>(f.type,f.offset))=some (3,1):=by kernel_rfl
 have F2:((prog.fieldsOf 59)[2]?).map (fun f=>(f.type,f.offset))=some (9,2):=by kernel_rfl
 have C0:prog.cellsOf 5=1:=by kernel_rfl
 have C1:prog.cellsOf 3=1:=by kernel_rfl
 have C2:prog.cellsOf 9=1:=by kernel_rfl
 rw [ce] at aG;obtain⟨xs,k,hk,nK,_,j9,dz⟩:=DataW.trod_struct he h;obtain⟨f0,e0,p0⟩:=Option.map_eq_some_iff.1 F0;obtain⟨f1,e1,p1⟩:=Option.map_eq_some_iff.1 F1;obtain⟨f2,e2,p2⟩:=Option.map_eq_some_iff.1 F2;simp only [Prod.mk.injEq] at p0 p1 p2;have g0:=dz 0 f0 e0;have g1:=dz 1 f1 e1;have g2:=dz 2 f2 e2;rw [p0.1,p0.2,C0] at g0;rw [p1.1,p1.2,C1] at g1;rw [p2.1,p2.2,C2] at g2;have b0:=(Array.getElem?_eq_some_iff.1 e0).1;have b1:=(Array.getElem?_eq_some_iff.1 e1).1;have b2:=(Array.getElem?_eq_some_iff.1 e2).1;match cs',aG with
 |[v0,v1,v2],_=>
  rw [List.getElem?_eq_getElem (show 0<xs.length by omega)] at g0;rw [List.getElem?_eq_getElem (show 1<xs.length by omega)] at g1;rw [List.getElem?_eq_getElem (show 2<xs.length by omega)] at g2;obtain⟨z0,q0,_,b0'⟩:=DataW.trod_int underlying5 g0;obtain⟨z1,q1,_,b1'⟩:=DataW.trod_int underlying3 g1;obtain⟨z2,q2,_,b2'⟩:=DataW.trod_string underlying9 g2;simp at q0 q1 q2;have h0:0≤z0∧z0≤255:=by simpa [Lit.wf,IntKind.min,IntKind.max,IntKind.signed,IntKind.bits] using b0'
  have h1:-9223372036854775808≤z1∧z1≤9223372036854775807:=by simpa [Lit.wf,IntKind.min,IntKind.max,IntKind.signed,IntKind.bits] using b1'
  unfold maxLen at b2';exact⟨⟨z0,z1,z2⟩,by rw [q0,q1,q2];rfl,h0.1,h0.2,h1.1,h1.2,by omega⟩
end
end
structure LH where
 kind:Int
 rho:Int
 eff:List AD
structure RH where
 kind:Int
 rho:Int
 ep:Option Addr
 en:Nat
 ec:Nat
 eff:List AD
 kp:Option Addr
 kn:Nat
 kc:Nat
abbrev PT:=AG RH
abbrev RT:=AG LH
def RH.plain(a:RH):LH:=⟨a.kind,a.rho,a.eff⟩
def PT.er(t:PT):RT:=AG.map RH.plain t
theorem PT.er_node(a:RH)(l:List PT):PT.er (.node a l)=.node a.plain (l.map PT.er):=AG.map_node _ a l
def Ma(a:RH):List Value:=[.int .u8 a.kind,.int .i64 a.rho,.slice a.ep a.en a.ec,.slice a.kp a.kn a.kc]
structure RH.Own(w:World)(a:RH):Prop where
 eff:AE AS 3 w a.ep a.en a.ec a.eff
 ok:∀x∈a.eff,Cq x
 k0:0≤a.kind
 k1:a.kind≤255
 r0:-9223372036854775808≤a.rho
 r1:a.rho≤9223372036854775807
 kmax:a.kn≤9223372036854775807
 kle:a.kn≤a.kc
 knil:a.kp=none→a.kc=0
def LR:Hw RH where
 enc:=Ma
 k:=4
 own:=RH.Own
 kp:=RH.kp
 kn:=RH.kn
 len:=fun _=>rfl
 below:=fun h hb=>⟨h.eff.below hb,h.ok,h.k0,h.k1,h.r0,h.r1,h.kmax,h.kle,h.knil⟩
theorem Sb(t:PT):LR.encT t=Ma t.head:=rfl
theorem Hi:∀t:PT,(LR.encT t).length=4:=fun _=>rfl
abbrev Ci(a:RH):Value:=.agg #[.int .u8 a.kind,.int .i64 a.rho,.slice a.ep a.en a.ec,.slice a.kp a.kn a.kc]
structure BK(w:World)(a:RH)(l:List PT):Prop where
 own:RH.Own w a
 kids:AE LR.encT 4 w a.kp a.kn a.kc l
 each:∀t∈l,LR.lies w t
theorem BD{w:World}{a:RH}{l:List PT}(h:LR.lies w (.node a l)):BK w a l:=by rw [Hw.lies_node] at h;exact⟨h.1,⟨h.2.1,h.1.kmax,h.1.kle,h.1.knil,h.2.2.1⟩,h.2.2.2⟩
theorem BK.lies{w:World}{a:RH}{l:List PT}(h:BK w a l):LR.lies w (.node a l):=by rw [Hw.lies_node];exact⟨h.own,h.kids.len,h.kids.row,h.each⟩
theorem BK.below{w w':World}{a:RH}{l:List PT}(h:BK w a l)(hb:Below w.heap.size w w'):BK w' a l:=BD (LR.lies_below hb _ h.lies)
theorem BK.alloc{w:World}{a:RH}{l:List PT}(h:BK w a l)(o:Obj):BK (w.alloc o) a l:=h.below bA
structure Da(w:World)(p:Option Addr)(n cap:Nat)(l:List PT):Prop where
 row:AE LR.encT 4 w p n cap l
 each:∀t∈l,LR.lies w t
theorem BK.rowT{w:World}{a:RH}{l:List PT}(h:BK w a l):Da w a.kp a.kn a.kc l:=⟨h.kids,h.each⟩
theorem Da.below{w w':World}{p:Option Addr}{n cap:Nat}{l:List PT}(h:Da w p n cap l)(hb:Below w.heap.size w w'):Da w' p n cap l:=⟨h.row.below hb,fun t ht=>LR.lies_below hb t (h.each t ht)⟩
theorem Da.alloc{w:World}{p:Option Addr}{n cap:Nat}{l:List PT}(h:Da w p n cap l)(o:Obj):Da (w.alloc o) p n cap l:=h.below bA
theorem Da.kid{w:World}{p:Option Addr}{n cap:Nat}{l:List PT}(h:Da w p n cap l){j:Nat}{t:PT}(hx:l[j]?=some t) :
 ∃b o,p=some ⟨b,o,none⟩∧b<w.heap.size∧w.cell? ⟨b,o+j * 4,none⟩=some (.int .u8 t.head.kind)∧w.cell? ⟨b,o+j * 4+1,none⟩=some (.int .i64 t.head.rho) ∧
  w.cell? ⟨b,o+j * 4+2,none⟩=some (.slice t.head.ep t.head.en t.head.ec)∧w.cell? ⟨b,o+j * 4+3,none⟩=some (.slice t.head.kp t.head.kn t.head.kc):=by
 obtain⟨b,o,hp,hb,hc⟩:=h.row.row.elem hx
 exact⟨b,o,hp,hb,by simpa using hc 0 _ rfl,hc 1 _ rfl,hc 2 _ rfl,hc 3 _ rfl⟩
theorem Da.at{w:World}{p:Option Addr}{n cap:Nat}{l:List PT}(h:Da w p n cap l){j:Nat}(hj:j<n):∃t,l[j]?=some t:=AM (by rw [h.row.len];exact hj)
theorem Da.lies{w:World}{p:Option Addr}{n cap:Nat}{l:List PT}(h:Da w p n cap l){j:Nat}{t:PT}(hx:l[j]?=some t):LR.lies w t:=h.each t (List.mem_of_getElem? hx)
theorem BN:∀{l:List Nat} {x:Nat},x∈l→x≤l.sum
 |[],_,h=>by cases h
 |y::l,x,h=>by
  rcases List.mem_cons.1 h with rfl|h
  ·simp
  ·have:=BN h;simp;omega
def BG:RT→Bool:=AG.all (fun a _=>!BU a.eff)
theorem Bi(a:LH)(l:List RT):BG (.node a l)=(!BU a.eff&&l.all BG):=AG.all_node _ a l
structure EU(t:RT)(n:Nat):Prop where
 size:t.size≤n
 effs:BG t=true
theorem EU.kid{a:LH}{l:List RT}{n:Nat}(h:EU (.node a l) n){t:RT}(ht:t∈l):EU t n:=by
 refine⟨?_,?_⟩
 ·have h1:=h.size;rw [AG.size_node] at h1;have h2:t.size≤(l.map AG.size).sum:=by have:t.size∈l.map AG.size:=List.mem_map_of_mem ht;exact BN this
  omega
 ·have h1:=h.effs;rw [Bi,Bool.and_eq_true,List.all_eq_true] at h1;exact h1.2 t ht
theorem EU.kids{a:LH}{l:List RT}{n:Nat}(h:EU (.node a l) n):l.length≤n:=by
 have h1:=h.size;rw [AG.size_node] at h1
 have:∀l:List RT,l.length≤(l.map AG.size).sum:=by
  intro l;induction l with
  |nil=>simp
  |cons x l ih=>have:=AG.size_pos x;simp only [List.length_cons,List.map_cons,List.sum_cons];omega
 have:=this l;omega
theorem EU.eff{a:LH}{l:List RT}{n:Nat}(h:EU (.node a l) n):BU a.eff=false:=by have h1:=h.effs;rw [Bi,Bool.and_eq_true] at h1;simpa using h1.1
theorem JH{a:RH}{w:World}{r:Bool}(h:BU a.eff=r)(ho:RH.Own w a):Calls prog 86 #[.slice a.ep a.en a.ec] w fun e w'=>e=.returned (.bool r)∧w=w':=by subst h;exact JG _ _ _ _ w ho.eff.len ho.eff.max ho.eff.row
def RM(t:RT)(n r:Int):Prop:=-1≤r∧r≤n∧(0≤r→(t.size:Int)+r=n∧BG t=true)
def Oe(l:List RT)(n r:Int):Prop:=-1≤r∧r≤n∧(0≤r→((l.map AG.size).sum:Int)+r=n∧l.all BG=true)
theorem Oe.step{l:List RT}{n r r':Int}{t:RT}(h:Oe l n r)(h0:0≤r)(h':RM t r r'):Oe (l++[t]) n r':=by refine⟨h'.1,by have:=h.2.1;have:=h'.2.1;omega,fun hr=>?_⟩;obtain⟨h1,h2⟩:=h.2.2 h0;obtain⟨h3,h4⟩:=h'.2.2 hr;refine⟨?_,by simp [h2,h4]⟩;simp only [List.map_append,List.map_cons,List.map_nil,List.sum_append,List.sum_cons,List.sum_nil];omega
theorem PP(t:PT):∀w,LR.lies w t→∀n:Int,0≤n→n≤1000000→Calls prog 119 #[Ci t.head,.int .i64 n] w fun e w'=>(∃r:Int,e=.returned (.int .i64 r)∧RM t.er n r)∧Below w.heap.size w w':=by
 refine AG.ind (P:=fun(t:PT)=>∀w,LR.lies w t→∀n:Int,0≤n→n≤1000000→Calls prog 119 #[Ci t.head,.int .i64 n] w fun e w'=>(∃r:Int,e=.returned (.int .i64 r)∧RM t.er n r)∧Below w.heap.size w w') (fun a l ih=>?_) t;intro w hl n h0 hn;have HN:=AA (BD hl);have IH:=AA ih;have dr:=HN.o.own.kmax;have aE:=AA ((Below.refl w.heap.size w).alloc (Nat.le_refl _) (.cells #[.int .u8 a.kind,.int .i64 a.rho,.slice a.ep a.en a.ec,.slice a.kp a.kn a.kc] 28));show Calls _ _ #[Ci a,.int .i64 n] w _;clear hl ih;cases hg:BU a.eff
 ·have HG:=AA hg;clear hg;obtain⟨kd,rr,ep,en,ec,eff,kp,kn,kc⟩:=a;simp only at dr;go_enter func119,ntmps119;go_wp2_with fail;refine(JH HG.o (HN.o.alloc _).own).mono ?_;rintro e w1 ⟨rfl,rfl⟩;generalize hW:w.alloc (.cells #[.int .u8 kd,.int .i64 rr,.slice ep en ec,.slice kp kn kc] 28)=W at *
  have eo:Hd (∀wr,Below W.heap.size W wr→wr.cell? ⟨w.heap.size,3,none⟩=some (.slice kp kn kc)):=by show ∀wr,_;intro wr hb;rw [←hW] at hb;rw [hb.cell (by simp),AR];rfl
  have bL:Hd (BK W ⟨kd,rr,ep,en,ec,eff,kp,kn,kc⟩ l):=by show BK _ _ _;rw [←hW];exact HN.o.alloc _
  clear hW;have sR:=eo.o W (Below.refl _ _);go_wp2_with fail;clear sR;go_loopw [1,5] (fun u i wr=>∃(k:Nat) (r:Int),k≤kn∧i=.int .i64 k∧u=.int .i64 r∧Oe ((l.take k).map PT.er) (n-1) r∧Below W.heap.size W wr) (fun _ i _=>kn-(intOf i).toNat)
  case atStart=>exact⟨0,n-1,by omega,rfl,rfl,⟨by omega,by omega,fun _=>⟨by simp,by simp⟩⟩,Below.refl _ _⟩
  case round=>
   obtain⟨k,r,hk,rfl,rfl,jb,hb⟩:=hrel;have d7:=jb.1;have eI:=jb.2.1;have kV:=AA jb;have HB:=AA hb;clear jb hb;have bh:=eo.o wr HB.o;by_cases aF:k<kn
   ·by_cases da:0≤r
    ·obtain⟨x,hx⟩:=(bL.o.rowT).at (j:=k) aF;have HE:=AA hx;obtain⟨b,o,rfl,aP,d0,d1,d2,d3⟩:=(bL.o.rowT.below HB.o).kid hx;clear hx aP;go_wp2_with fail;refine(IH.out x (List.mem_of_getElem? HE.o) wr ((bL.o.rowT.below HB.o).lies HE.o) r da (by omega)).mono ?_;rintro e w2 ⟨⟨r',rfl,bY⟩,hb⟩;have dc:=AA bY;have aK:=bt HB hb;clear bY hb d0 d1 d2 d3 bh;go_wp2_with fail;go_roundw
     case rel=>exact⟨k+1,r',by omega,by go_num,rfl,by rw [AI HE.o,List.map_append];exact kV.o.step da dc.o,aK.o⟩
     case measure=>simp [intOf];omega
    ·have hd:decide (0≤r)=false:=by simpa using da
     go_wp2_with fail;go_ret;exact⟨⟨r,rfl,by have:=kV.o;refine⟨this.1,by omega,fun h=>absurd h (by omega)⟩⟩,aE.o.trans (HB.o.mono aE.o.size)⟩
   ·have ao:k=kn:=by omega
    subst ao;go_wp2_with fail;go_ret;have h:=kV.o;rw [AP (by rw [bL.o.kids.len];omega)] at h;refine⟨⟨r,rfl,h.1,by omega,fun h0=>?_⟩,aE.o.trans (HB.o.mono aE.o.size)⟩;obtain⟨h1,h2⟩:=h.2.2 h0;rw [PT.er_node,AG.size_node,Bi];refine⟨by omega,?_⟩;rw [h2,Bool.and_true];show (!BU eff)=true;rw [HG.o];rfl
 ·have HG:=AA hg;clear hg;go_enter func119,ntmps119;go_wp2_with fail;refine(JH HG.o (HN.o.alloc _).own).mono ?_;rintro e w1 ⟨rfl,rfl⟩;go_wp2_with fail;go_ret;refine⟨⟨-1,rfl,by omega,by omega,fun h=>by omega⟩,aE.o⟩
theorem Lt{t:PT}{w:World}(hl:LR.lies w t):Calls prog 87 #[Ci t.head] w fun e w'=>(∃r,e=.returned (.bool r)∧(r=false→EU t.er 100))∧Below w.heap.size w w':=by
 have HL:=AA (fun o=>PP t (w.alloc o) (LR.lies_below bA t hl) 100 (by omega) (by omega));obtain⟨a,l⟩:=t;show Calls _ _ #[Ci a] w _;obtain⟨kd,rr,ep,en,ec,eff,kp,kn,kc⟩:=a;clear hl;go_enter func87,ntmps87;go_wp2_with fail;refine(HL.o _).mono ?_;rintro e w1 ⟨⟨r,rfl,bY⟩,hb⟩;have dc:=AA bY;have HB:=AA (((Below.refl w.heap.size w).alloc (Nat.le_refl _) (.cells #[.int .u8 kd,.int .i64 rr,.slice ep en ec,.slice kp kn kc] 28)).trans (hb.mono (by simp)));clear bY hb;go_wp2_with fail;go_ret;refine⟨⟨_,rfl,fun h=>?_⟩,HB.o⟩;have h0:0≤r:=by simpa using h
 obtain⟨h1,h2⟩:=dc.o.2.2 h0;exact⟨by omega,h2⟩
theorem Mk:∀l:List AD,DD l=true↔MF l l.length
 |[]=>by simp [DD,MF]
 |[a]=>by
  simp only [DD,MF];constructor
  ·intro h;refine⟨by simp [h],fun j x y hj=>?_⟩;simp at hj
  ·intro h;have:=h.1;simpa using this
 |a::b::l=>by
  have ih:=Mk (b::l);simp only [DD,Bool.and_eq_true,ih];constructor
  ·rintro⟨⟨h1,h2⟩,h3,h4⟩;refine⟨?_,fun j x y hj hx hy=>?_⟩
   ·rw [AP (Nat.le_refl _)] at h3 ⊢;rw [List.all_cons,h1,h3];rfl
   ·cases j with
    |zero=>simp at hx hy;subst hx;subst hy;exact h2
    |succ j=>exact h4 j x y (by simpa using hj) (by simpa using hx) (by simpa using hy)
  ·rintro⟨h1,h2⟩;rw [AP (Nat.le_refl _),List.all_cons,Bool.and_eq_true] at h1;refine⟨⟨h1.1,h2 0 a b (by simp) rfl rfl⟩,?_,fun j x y hj hx hy=>h2 (j+1) x y (by simpa using hj) (by simpa using hx) (by simpa using hy)⟩;rw [AP (Nat.le_refl _)];exact h1.2
theorem Ce{p:Option Addr}{n cap:Nat}{l:List AD}{w:World}{r:Bool}(h:DD l=r)(hr:AE AS 3 w p n cap l):Calls prog 18 #[.slice p n cap] w (RB w (.bool r)):=by
 refine(Qn p n cap l w hr.len hr.max hr.row).mono ?_;rintro e w' ⟨⟨r',rfl,aT⟩,hb⟩;have:r'=r:=by rw [←h,Bool.eq_iff_iff,aT,Mk,hr.len]
 subst this;exact⟨rfl,hb⟩
theorem Gt{p:Option Addr}{n cap:Nat}{l:List AD}{w:World}{r:Bool}(h:DD l=r)(hr:AE AS 3 w p n cap l):Calls prog 93 #[.slice p n cap] w (RB w (.bool r)):=by
 refine(MY p n cap l w hr.len hr.max hr.row).mono ?_;rintro e w' ⟨⟨r',rfl,aT⟩,hb⟩;have:r'=r:=by rw [←h,Bool.eq_iff_iff,aT,Mk,hr.len]
 subst this;exact⟨rfl,hb⟩
def Ar(a:LH)(n:Nat):Bool:=
 if a.kind=1 then decide (a.rho=0)&&decide (a.eff=[])&&decide (n=0)
 else if a.kind=2 then decide (0≤a.rho)&&decide (a.eff=[])&&decide (n=2)
 else if a.kind=3 then decide (0≤a.rho)&&decide (a.eff=[])&&decide (n=1)
 else if a.kind=4 then decide (0≤a.rho)&&DD a.eff&&decide (n=2)
 else false
def BF:RT→Bool:=AG.all Ar
theorem Eo(a:LH)(l:List RT):BF (.node a l)=(Ar a l.length&&l.all BF):=AG.all_node _ a l
theorem Bj(a:RH)(l:List PT):BF (PT.er (.node a l))=(Ar a.plain l.length&&l.all (fun t=>BF (PT.er t))):=by rw [PT.er_node,Eo,List.length_map,List.all_map];rfl
theorem E0(t:PT):∀w,LR.lies w t→Calls prog 17 #[Ci t.head] w (RB w (.bool (BF t.er))):=by
 refine AG.ind (P:=fun(t:PT)=>∀w,LR.lies w t→Calls prog 17 #[Ci t.head] w fun e w'=>e=.returned (.bool (BF t.er))∧Below w.heap.size w w') (fun a l ih=>?_) t;intro w hl;have HN:=AA (BD hl);have IH:=AA ih;have dr:=HN.o.own.kmax;have mS:=HN.o.own.eff.max;have aE:=AA ((Below.refl w.heap.size w).alloc (Nat.le_refl _) (.cells #[.int .u8 a.kind,.int .i64 a.rho,.slice a.ep a.en a.ec,.slice a.kp a.kn a.kc] 28));show Calls _ _ #[Ci a] w _;clear hl ih;obtain⟨kd,rr,ep,en,ec,eff,kp,kn,kc⟩:=a;simp only at dr mS;have hV:l.length=kn:=HN.o.kids.len;have cB:eff.length=en:=HN.o.own.eff.len;have eo:Hd (∀w1,Below w.heap.size (w.alloc (.cells #[.int .u8 kd,.int .i64 rr,.slice ep en ec,.slice kp kn kc] 28)) w1→True):=fun _ _=>trivial;clear eo;have ag:en=0→eff=[]:=fun h=>List.length_eq_zero_iff.1 (by omega);have aS:0<en→eff≠[]:=fun h e=>by rw [e] at cB;simp at cB;omega
 by_cases h1:kd=1
 ·subst h1;by_cases hk:kn=0
  ·subst hk;rcases (by omega:rr<0∨0<rr∨rr=0) with hr|hr|hr
   ·have hz:¬rr=0:=by omega
    have HF:Hd (BF (PT.er (.node ⟨1,rr,ep,en,ec,eff,kp,0,kc⟩ l))=false):=by show _=_;rw [Bj];simp [Ar,RH.plain,hz]
    clear hz;go_enter func17,ntmps17;go_wp2_with fail;go_ret;exact⟨AB HF.o.symm,aE.o⟩
   ·have hz:¬rr=0:=by omega
    have HF:Hd (BF (PT.er (.node ⟨1,rr,ep,en,ec,eff,kp,0,kc⟩ l))=false):=by show _=_;rw [Bj];simp [Ar,RH.plain,hz]
    clear hz;go_enter func17,ntmps17;go_wp2_with fail;go_ret;exact⟨AB HF.o.symm,aE.o⟩
   ·subst hr;by_cases he:en=0
    ·subst he;obtain rfl:=ag rfl;have jM:Hd (DD []=true):=rfl;have eB:Hd (Ar (RH.plain ⟨1,0,ep,0,ec,[],kp,0,kc⟩) l.length=true):=by show _=_;rw [hV];simp [Ar,RH.plain]
     clear ag aS hV cB;go_enter func17,ntmps17;go_wp2_with fail;refine(Ce jM.o (HN.o.alloc _).own.eff).mono ?_;rintro e w1 ⟨rfl,hb⟩;have aJ:=bt aE hb;have bL:=AA ((HN.o.alloc _).below hb);have bh:w1.cell? ⟨w.heap.size,3,none⟩=some (.slice kp 0 kc):=by rw [hb.cell (by simp),AR];rfl
     have eo:Hd (∀wr,Below w1.heap.size w1 wr→wr.cell? ⟨w.heap.size,3,none⟩=some (.slice kp 0 kc)):=fun wr h=>by rw [h.cell (An bh)];exact bh
     clear hb;go_wp2_with fail;clear bh;go_loopw [4,66] (fun _ i wr=>∃(k:Nat),k≤0∧i=.int .i64 k∧(l.take k).all (fun t=>BF (PT.er t))=true∧Below w1.heap.size w1 wr) (fun _ i _=>0-(intOf i).toNat)
     case atStart=>exact⟨0,by omega,rfl,by simp,Below.refl _ _⟩
     case round=>
      obtain⟨k,hk,rfl,ac,hb⟩:=hrel;have an:=AA ac;have HB:=AA hb;clear ac hb;have bh:=eo.o wr HB.o;by_cases aF:k<0
      ·omega
      ·have ao:k=0:=by omega
       have HT:Hd (BF (PT.er (.node ⟨1,0,ep,0,ec,[],kp,0,kc⟩ l))=true):=by show _=_;have h:=an.o;rw [AP (by have:=bL.o.kids.len;simp only at this;omega)] at h;rw [Bj,eB.o,h];rfl
       go_wp2_with fail;go_ret;exact⟨AB HT.o.symm,aJ.o.trans (HB.o.mono aJ.o.size)⟩
    ·have dZ:0<en:=by omega
     have cV:=aS dZ;have HF:Hd (BF (PT.er (.node ⟨1,0,ep,en,ec,eff,kp,0,kc⟩ l))=false):=by show _=_;rw [Bj];simp [Ar,RH.plain,cV]
     clear cV aS ag;go_enter func17,ntmps17;go_wp2_with fail;go_ret;exact⟨AB HF.o.symm,aE.o⟩
  ·have hb:((kn:Int) != 0)=true:=by rw [bne_iff_ne];omega
   have HF:Hd (BF (PT.er (.node ⟨1,rr,ep,en,ec,eff,kp,kn,kc⟩ l))=false):=by show _=_;rw [Bj];simp [Ar,RH.plain,hV,cB];try omega
   go_enter func17,ntmps17;go_wp2_with fail;go_ret;exact⟨AB HF.o.symm,aE.o⟩
 by_cases h2:kd=2
 ·subst h2;by_cases hk:kn=2
  ·subst hk;by_cases hr:rr<0
   ·have hz:¬0≤rr:=by omega
    have HF:Hd (BF (PT.er (.node ⟨2,rr,ep,en,ec,eff,kp,2,kc⟩ l))=false):=by show _=_;rw [Bj];simp [Ar,RH.plain,hz]
    clear hz;go_enter func17,ntmps17;go_wp2_with fail;go_ret;exact⟨AB HF.o.symm,aE.o⟩
   ·have da:0≤rr:=by omega
    by_cases he:en=0
    ·subst he;obtain rfl:=ag rfl;have jM:Hd (DD []=true):=rfl;have eB:Hd (Ar (RH.plain ⟨2,rr,ep,0,ec,[],kp,2,kc⟩) l.length=true):=by show _=_;rw [hV];simp [Ar,RH.plain,da]
     clear ag aS hV cB;go_enter func17,ntmps17;go_wp2_with fail;refine(Ce jM.o (HN.o.alloc _).own.eff).mono ?_;rintro e w1 ⟨rfl,hb⟩;have aJ:=bt aE hb;have bL:=AA ((HN.o.alloc _).below hb);have bh:w1.cell? ⟨w.heap.size,3,none⟩=some (.slice kp 2 kc):=by rw [hb.cell (by simp),AR];rfl
     have eo:Hd (∀wr,Below w1.heap.size w1 wr→wr.cell? ⟨w.heap.size,3,none⟩=some (.slice kp 2 kc)):=fun wr h=>by rw [h.cell (An bh)];exact bh
     clear hb;go_wp2_with fail;clear bh;go_loopw [4,66] (fun _ i wr=>∃(k:Nat),k≤2∧i=.int .i64 k∧(l.take k).all (fun t=>BF (PT.er t))=true∧Below w1.heap.size w1 wr) (fun _ i _=>2-(intOf i).toNat)
     case atStart=>exact⟨0,by omega,rfl,by simp,Below.refl _ _⟩
     case round=>
      obtain⟨k,hk,rfl,ac,hb⟩:=hrel;have an:=AA ac;have HB:=AA hb;clear ac hb;have bh:=eo.o wr HB.o;by_cases aF:k<2
      ·obtain⟨x,hx⟩:=(bL.o.rowT).at (j:=k) aF;have HE:=AA hx;obtain⟨b,o,bF,aP,d0,d1,d2,d3⟩:=(bL.o.rowT.below HB.o).kid hx;have HX:=AA ((bL.o.rowT.below HB.o).lies hx);simp only at bF;subst bF;clear hx aP;cases hq:BF (PT.er x)
       ·have HQ:=AA hq;have HF:Hd (BF (PT.er (.node ⟨2,rr,ep,0,ec,[],some ⟨b,o,none⟩,2,kc⟩ l))=false):=by show _=_;rw [Bj,GM HE.o hq,Bool.and_false]
        clear hq;go_wp2_with fail;refine(IH.out x (List.mem_of_getElem? HE.o) wr HX.o).mono ?_;rintro e w2 ⟨rfl,hb⟩;have aK:=AA (aJ.o.trans ((HB.o.trans (hb.mono HB.o.size)).mono aJ.o.size));rw [HQ.o];clear hb d0 d1 d2 d3 bh;go_wp2_with fail;go_ret;exact⟨AB HF.o.symm,aK.o⟩
       ·have HQ:=AA hq;clear hq;go_wp2_with fail;refine(IH.out x (List.mem_of_getElem? HE.o) wr HX.o).mono ?_;rintro e w2 ⟨rfl,hb⟩;have aK:=bt HB hb;rw [HQ.o];clear hb d0 d1 d2 d3 bh;go_wp2_with fail;go_roundw
        case rel=>exact⟨k+1,by omega,by go_num,by rw [CF HE.o,an.o,HQ.o];rfl,aK.o⟩
        case measure=>simp [intOf];omega
      ·have ao:k=2:=by omega
       have HT:Hd (BF (PT.er (.node ⟨2,rr,ep,0,ec,[],kp,2,kc⟩ l))=true):=by show _=_;have h:=an.o;rw [AP (by have:=bL.o.kids.len;simp only at this;omega)] at h;rw [Bj,eB.o,h];rfl
       go_wp2_with fail;go_ret;exact⟨AB HT.o.symm,aJ.o.trans (HB.o.mono aJ.o.size)⟩
    ·have dZ:0<en:=by omega
     have cV:=aS dZ;have HF:Hd (BF (PT.er (.node ⟨2,rr,ep,en,ec,eff,kp,2,kc⟩ l))=false):=by show _=_;rw [Bj];simp [Ar,RH.plain,cV]
     clear cV aS ag;go_enter func17,ntmps17;go_wp2_with fail;go_ret;exact⟨AB HF.o.symm,aE.o⟩
  ·have hb:((kn:Int) != 2)=true:=by rw [bne_iff_ne];omega
   have HF:Hd (BF (PT.er (.node ⟨2,rr,ep,en,ec,eff,kp,kn,kc⟩ l))=false):=by show _=_;rw [Bj];simp [Ar,RH.plain,hV,cB];try omega
   go_enter func17,ntmps17;go_wp2_with fail;go_ret;exact⟨AB HF.o.symm,aE.o⟩
 by_cases h3:kd=3
 ·subst h3;by_cases hk:kn=1
  ·subst hk;by_cases hr:rr<0
   ·have hz:¬0≤rr:=by omega
    have HF:Hd (BF (PT.er (.node ⟨3,rr,ep,en,ec,eff,kp,1,kc⟩ l))=false):=by show _=_;rw [Bj];simp [Ar,RH.plain,hz]
    clear hz;go_enter func17,ntmps17;go_wp2_with fail;go_ret;exact⟨AB HF.o.symm,aE.o⟩
   ·have da:0≤rr:=by omega
    by_cases he:en=0
    ·subst he;obtain rfl:=ag rfl;have jM:Hd (DD []=true):=rfl;have eB:Hd (Ar (RH.plain ⟨3,rr,ep,0,ec,[],kp,1,kc⟩) l.length=true):=by show _=_;rw [hV];simp [Ar,RH.plain,da]
     clear ag aS hV cB;go_enter func17,ntmps17;go_wp2_with fail;refine(Ce jM.o (HN.o.alloc _).own.eff).mono ?_;rintro e w1 ⟨rfl,hb⟩;have aJ:=bt aE hb;have bL:=AA ((HN.o.alloc _).below hb);have bh:w1.cell? ⟨w.heap.size,3,none⟩=some (.slice kp 1 kc):=by rw [hb.cell (by simp),AR];rfl
     have eo:Hd (∀wr,Below w1.heap.size w1 wr→wr.cell? ⟨w.heap.size,3,none⟩=some (.slice kp 1 kc)):=fun wr h=>by rw [h.cell (An bh)];exact bh
     clear hb;go_wp2_with fail;clear bh;go_loopw [4,66] (fun _ i wr=>∃(k:Nat),k≤1∧i=.int .i64 k∧(l.take k).all (fun t=>BF (PT.er t))=true∧Below w1.heap.size w1 wr) (fun _ i _=>1-(intOf i).toNat)
     case atStart=>exact⟨0,by omega,rfl,by simp,Below.refl _ _⟩
     case round=>
      obtain⟨k,hk,rfl,ac,hb⟩:=hrel;have an:=AA ac;have HB:=AA hb;clear ac hb;have bh:=eo.o wr HB.o;by_cases aF:k<1
      ·obtain⟨x,hx⟩:=(bL.o.rowT).at (j:=k) aF;have HE:=AA hx;obtain⟨b,o,bF,aP,d0,d1,d2,d3⟩:=(bL.o.rowT.below HB.o).kid hx;have HX:=AA ((bL.o.rowT.below HB.o).lies hx);simp only at bF;subst bF;clear hx aP;cases hq:BF (PT.er x)
       ·have HQ:=AA hq;have HF:Hd (BF (PT.er (.node ⟨3,rr,ep,0,ec,[],some ⟨b,o,none⟩,1,kc⟩ l))=false):=by show _=_;rw [Bj,GM HE.o hq,Bool.and_false]
        clear hq;go_wp2_with fail;refine(IH.out x (List.mem_of_getElem? HE.o) wr HX.o).mono ?_;rintro e w2 ⟨rfl,hb⟩;have aK:=AA (aJ.o.trans ((HB.o.trans (hb.mono HB.o.size)).mono aJ.o.size));rw [HQ.o];clear hb d0 d1 d2 d3 bh;go_wp2_with fail;go_ret;exact⟨AB HF.o.symm,aK.o⟩
       ·have HQ:=AA hq;clear hq;go_wp2_with fail;refine(IH.out x (List.mem_of_getElem? HE.o) wr HX.o).mono ?_;rintro e w2 ⟨rfl,hb⟩;have aK:=bt HB hb;rw [HQ.o];clear hb d0 d1 d2 d3 bh;go_wp2_with fail;go_roundw
        case rel=>exact⟨k+1,by omega,by go_num,by rw [CF HE.o,an.o,HQ.o];rfl,aK.o⟩
        case measure=>simp [intOf];omega
      ·have ao:k=1:=by omega
       have HT:Hd (BF (PT.er (.node ⟨3,rr,ep,0,ec,[],kp,1,kc⟩ l))=true):=by show _=_;have h:=an.o;rw [AP (by have:=bL.o.kids.len;simp only at this;omega)] at h;rw [Bj,eB.o,h];rfl
       go_wp2_with fail;go_ret;exact⟨AB HT.o.symm,aJ.o.trans (HB.o.mono aJ.o.size)⟩
    ·have dZ:0<en:=by omega
     have cV:=aS dZ;have HF:Hd (BF (PT.er (.node ⟨3,rr,ep,en,ec,eff,kp,1,kc⟩ l))=false):=by show _=_;rw [Bj];simp [Ar,RH.plain,cV]
     clear cV aS ag;go_enter func17,ntmps17;go_wp2_with fail;go_ret;exact⟨AB HF.o.symm,aE.o⟩
  ·have hb:((kn:Int) != 1)=true:=by rw [bne_iff_ne];omega
   have HF:Hd (BF (PT.er (.node ⟨3,rr,ep,en,ec,eff,kp,kn,kc⟩ l))=false):=by show _=_;rw [Bj];simp [Ar,RH.plain,hV,cB];try omega
   go_enter func17,ntmps17;go_wp2_with fail;go_ret;exact⟨AB HF.o.symm,aE.o⟩
 by_cases h4:kd=4
 ·subst h4;by_cases hk:kn=2
  ·subst hk;by_cases hr:rr<0
   ·have hz:¬0≤rr:=by omega
    have HF:Hd (BF (PT.er (.node ⟨4,rr,ep,en,ec,eff,kp,2,kc⟩ l))=false):=by show _=_;rw [Bj];simp [Ar,RH.plain,hz]
    clear hz;go_enter func17,ntmps17;go_wp2_with fail;go_ret;exact⟨AB HF.o.symm,aE.o⟩
   ·have da:0≤rr:=by omega
    cases hm:DD eff
    ·have HF:Hd (BF (PT.er (.node ⟨4,rr,ep,en,ec,eff,kp,2,kc⟩ l))=false):=by show _=_;rw [Bj];simp [Ar,RH.plain,hm]
     have jM:=AA hm;clear hm;go_enter func17,ntmps17;go_wp2_with fail;refine(Ce jM.o (HN.o.alloc _).own.eff).mono ?_;rintro e w1 ⟨rfl,hb⟩;have aJ:=bt aE hb;clear hb;go_wp2_with fail;go_ret;exact⟨AB HF.o.symm,aJ.o⟩
    ·have jM:=AA hm;have eB:Hd (Ar (RH.plain ⟨4,rr,ep,en,ec,eff,kp,2,kc⟩) l.length=true):=by show _=_;rw [hV];simp [Ar,RH.plain,da,hm]
     clear hm;clear ag aS hV cB;go_enter func17,ntmps17;go_wp2_with fail;refine(Ce jM.o (HN.o.alloc _).own.eff).mono ?_;rintro e w1 ⟨rfl,hb⟩;have aJ:=bt aE hb;have bL:=AA ((HN.o.alloc _).below hb);have bh:w1.cell? ⟨w.heap.size,3,none⟩=some (.slice kp 2 kc):=by rw [hb.cell (by simp),AR];rfl
     have eo:Hd (∀wr,Below w1.heap.size w1 wr→wr.cell? ⟨w.heap.size,3,none⟩=some (.slice kp 2 kc)):=fun wr h=>by rw [h.cell (An bh)];exact bh
     clear hb;go_wp2_with fail;clear bh;go_loopw [4,66] (fun _ i wr=>∃(k:Nat),k≤2∧i=.int .i64 k∧(l.take k).all (fun t=>BF (PT.er t))=true∧Below w1.heap.size w1 wr) (fun _ i _=>2-(intOf i).toNat)
     case atStart=>exact⟨0,by omega,rfl,by simp,Below.refl _ _⟩
     case round=>
      obtain⟨k,hk,rfl,ac,hb⟩:=hrel;have an:=AA ac;have HB:=AA hb;clear ac hb;have bh:=eo.o wr HB.o;by_cases aF:k<2
      ·obtain⟨x,hx⟩:=(bL.o.rowT).at (j:=k) aF;have HE:=AA hx;obtain⟨b,o,bF,aP,d0,d1,d2,d3⟩:=(bL.o.rowT.below HB.o).kid hx;have HX:=AA ((bL.o.rowT.below HB.o).lies hx);simp only at bF;subst bF;clear hx aP;cases hq:BF (PT.er x)
       ·have HQ:=AA hq;have HF:Hd (BF (PT.er (.node ⟨4,rr,ep,en,ec,eff,some ⟨b,o,none⟩,2,kc⟩ l))=false):=by show _=_;rw [Bj,GM HE.o hq,Bool.and_false]
        clear hq;go_wp2_with fail;refine(IH.out x (List.mem_of_getElem? HE.o) wr HX.o).mono ?_;rintro e w2 ⟨rfl,hb⟩;have aK:=AA (aJ.o.trans ((HB.o.trans (hb.mono HB.o.size)).mono aJ.o.size));rw [HQ.o];clear hb d0 d1 d2 d3 bh;go_wp2_with fail;go_ret;exact⟨AB HF.o.symm,aK.o⟩
       ·have HQ:=AA hq;clear hq;go_wp2_with fail;refine(IH.out x (List.mem_of_getElem? HE.o) wr HX.o).mono ?_;rintro e w2 ⟨rfl,hb⟩;have aK:=bt HB hb;rw [HQ.o];clear hb d0 d1 d2 d3 bh;go_wp2_with fail;go_roundw
        case rel=>exact⟨k+1,by omega,by go_num,by rw [CF HE.o,an.o,HQ.o];rfl,aK.o⟩
        case measure=>simp [intOf];omega
      ·have ao:k=2:=by omega
       have HT:Hd (BF (PT.er (.node ⟨4,rr,ep,en,ec,eff,kp,2,kc⟩ l))=true):=by show _=_;have h:=an.o;rw [AP (by have:=bL.o.kids.len;simp only at this;omega)] at h;rw [Bj,eB.o,h];rfl
       go_wp2_with fail;go_ret;exact⟨AB HT.o.symm,aJ.o.trans (HB.o.mono aJ.o.size)⟩
  ·have hb:((kn:Int) != 2)=true:=by rw [bne_iff_ne];omega
   have HF:Hd (BF (PT.er (.node ⟨4,rr,ep,en,ec,eff,kp,kn,kc⟩ l))=false):=by show _=_;rw [Bj];simp [Ar,RH.plain,hV,cB];try omega
   go_enter func17,ntmps17;go_wp2_with fail;go_ret;exact⟨AB HF.o.symm,aE.o⟩
 ·have h0:=HN.o.own.k0;simp only at h0;have b2:(kd==2)=false:=by rw [beq_eq_false_iff_ne];exact h2
  have b3:(kd==3)=false:=by rw [beq_eq_false_iff_ne];exact h3
  have b4:(kd==4)=false:=by rw [beq_eq_false_iff_ne];exact h4
  have HF:Hd (BF (PT.er (.node ⟨kd,rr,ep,en,ec,eff,kp,kn,kc⟩ l))=false):=by show _=_;rw [Bj];simp [Ar,RH.plain,h1,h2,h3,h4]
  rcases (by omega:kd<1∨4<kd) with hr|hr
  all_goals
   clear h1 h2 h3 h4
   go_enter func17,ntmps17
   go_wp2_with fail
   go_ret
   exact⟨AB HF.o.symm,aE.o⟩
def Ps(fid:FuncId)(caps:Array Value)(w:World)(l:List PT)(q:PT→Bool):Prop:=∀x∈l,∀W,Below w.heap.size w W→Calls prog fid (#[Ci x.head]++caps) W fun e w'=>e=.returned (.bool (q x))∧Below W.heap.size W w'
theorem Ps.is{fid:FuncId}{caps:Array Value}{w:World}{l:List PT}{q:PT→Bool}(h:Ps fid caps w l q){x:PT}(hx:x∈l){r:Bool}(hq:q x=r){W:World}(hb:Below w.heap.size w W):Calls prog fid (#[Ci x.head]++caps) W fun e w'=>e=.returned (.bool r)∧Below W.heap.size W w':=by subst hq;exact h x hx W hb
theorem L0(fid:FuncId)(caps:Array Value)(q:PT→Bool)(a7:EA fid){p:Option Addr}{n cap:Nat}{l:List PT}{w:World}(hr:Da w p n cap l)(hf:Ps fid caps w l q) :
 Calls prog 216 #[.slice p n cap,.func (.func fid) #[] caps] w fun e w'=>(∃r:Int,e=.returned (.int .i64 r)∧Pp q l r)∧Below w.heap.size w w':=by
 unfold EA at a7
 have hm:=hr.row.max
 have HR:=AA hr
 have HF:=AA hf
 clear hr hf
 go_enter func216,ntmps216
 go_wp2_with fail
 go_loopw [5,8] (fun _ i wr=>∃k:Nat,k≤n∧i=.int .i64 k∧(l.take k).any q=false∧Below w.heap.size w wr) (fun _ i _=>n-(intOf i).toNat)
 case atStart=>exact⟨0,by omega,rfl,by simp,Below.refl _ _⟩
 case round=>
  obtain⟨k,hk,rfl,ac,hb⟩:=hrel;have an:=AA ac;have HB:=AA hb;clear ac hb;by_cases aF:k<n
  ·obtain⟨x,hx⟩:=HR.o.at (j:=k) aF;have HE:=AA hx;obtain⟨b,o,rfl,aP,d0,d1,d2,d3⟩:=(HR.o.below HB.o).kid hx;clear hx aP;cases hq:q x
   ·have HQ:=AA hq;clear hq;go_wp2_with fail;refine(HF.o.is (List.mem_of_getElem? HE.o) HQ.o HB.o).mono ?_;rintro e w1 ⟨rfl,hb⟩;have aJ:=bt HB hb;clear hb;clear d0 d1 d2 d3;go_wp2_with fail;go_roundw
    case rel=>exact⟨k+1,by omega,by go_num,by rw [Av HE.o,an.o,HQ.o];rfl,aJ.o⟩
    case measure=>simp [intOf];omega
   ·have HQ:=AA hq;clear hq;go_wp2_with fail;refine(HF.o.is (List.mem_of_getElem? HE.o) HQ.o HB.o).mono ?_;rintro e w1 ⟨rfl,hb⟩;have aJ:=bt HB hb;clear hb;clear d0 d1 d2 d3;go_wp2_with fail;go_ret;exact⟨⟨k,rfl,.inr ⟨k,x,rfl,HE.o,HQ.o,an.o⟩⟩,aJ.o⟩
  ·go_wp2_with fail;go_ret;have h:=an.o;rw [AP (by rw [HR.o.row.len];omega)] at h;exact⟨⟨-1,rfl,.inl ⟨rfl,h⟩⟩,HB.o⟩
theorem Jn(fid:FuncId)(caps:Array Value)(q:PT→Bool)(a7:EA fid){p:Option Addr}{n cap:Nat}{l:List PT}{w:World}(hr:Da w p n cap l)(hf:Ps fid caps w l q):Calls prog 179 #[.slice p n cap,.func (.func fid) #[] caps] w (RB w (.bool (l.any q))):=by
 have hc:Calls prog 216 #[.slice p n cap,.func (.func fid) #[] caps] w fun e w'=>
  (∃r:Int,e=.returned (.int .i64 r)∧l.any q=decide (0≤r))∧Below w.heap.size w w':=
  (L0 fid caps q a7 hr hf).mono fun _ _ ⟨⟨r,he,hr⟩,hb⟩=>⟨⟨r,he,hr.any⟩,hb⟩
 generalize l.any q=r at hc ⊢;clear hr hf a7;go_enter func179,ntmps179;go_wp2_with fail;refine hc.mono ?_;rintro e w1 ⟨⟨r,rfl,hr⟩,hb⟩;have HR:=AA hr;have HB:=AA hb;clear hr hb hc;go_wp2_with fail;go_ret;exact⟨AB HR.o.symm,HB.o⟩
theorem NG{a:RH}{w:World}(ho:RH.Own w a):Calls prog 181 #[Ci a] w (RB w (.bool (Ar a.plain a.kn))):=by
 have aE:=AA ((Below.refl w.heap.size w).alloc (Nat.le_refl _) (.cells #[.int .u8 a.kind,.int .i64 a.rho,.slice a.ep a.en a.ec,.slice a.kp a.kn a.kc] 28));have dr:=ho.kmax;have mS:=ho.eff.max;have HO:=AA ho;obtain⟨kd,rr,ep,en,ec,eff,kp,kn,kc⟩:=a;simp only at dr mS;have cB:eff.length=en:=ho.eff.len;have ag:en=0→eff=[]:=fun h=>List.length_eq_zero_iff.1 (by omega);have aS:0<en→eff≠[]:=fun h e=>by rw [e] at cB;simp at cB;omega
 clear ho cB;by_cases h1:kd=1
 ·subst h1;by_cases hr:rr=0
  ·subst hr;by_cases he:en=0
   ·subst he;obtain rfl:=ag rfl;by_cases hk:kn=0
    ·subst hk;have HF:Hd (Ar (RH.plain ⟨1,0,ep,0,ec,[],kp,0,kc⟩) 0=true):=by show _=_;simp [Ar,RH.plain]
     clear aS ag;go_enter func181,ntmps181;go_wp2_with fail;go_ret;exact⟨AB HF.o.symm,aE.o⟩
    ·have hb:((kn:Int)==0)=false:=by rw [beq_eq_false_iff_ne];omega
     have HF:Hd (Ar (RH.plain ⟨1,0,ep,0,ec,[],kp,kn,kc⟩) kn=false):=by show _=_;simp [Ar,RH.plain,hk]
     clear aS ag hk;go_enter func181,ntmps181;go_wp2_with fail;go_ret;exact⟨AB HF.o.symm,aE.o⟩
   ·have hb:((en:Int)==0)=false:=by rw [beq_eq_false_iff_ne];omega
    have cV:=aS (by omega);have HF:Hd (Ar (RH.plain ⟨1,0,ep,en,ec,eff,kp,kn,kc⟩) kn=false):=by show _=_;simp [Ar,RH.plain,cV]
    clear aS ag cV he;go_enter func181,ntmps181;go_wp2_with fail;go_ret;exact⟨AB HF.o.symm,aE.o⟩
  ·have hb:(rr==0)=false:=by rw [beq_eq_false_iff_ne];exact hr
   have HF:Hd (Ar (RH.plain ⟨1,rr,ep,en,ec,eff,kp,kn,kc⟩) kn=false):=by show _=_;simp [Ar,RH.plain,hr]
   clear aS ag hr;go_enter func181,ntmps181;go_wp2_with fail;go_ret;exact⟨AB HF.o.symm,aE.o⟩
 by_cases h2:kd=2
 ·subst h2;by_cases hr:0≤rr
  ·by_cases he:en=0
   ·subst he;obtain rfl:=ag rfl;by_cases hk:kn=2
    ·subst hk;have HF:Hd (Ar (RH.plain ⟨2,rr,ep,0,ec,[],kp,2,kc⟩) 2=true):=by show _=_;simp [Ar,RH.plain,hr]
     clear aS ag;go_enter func181,ntmps181;go_wp2_with fail;go_ret;exact⟨AB HF.o.symm,aE.o⟩
    ·have hb:((kn:Int)==2)=false:=by rw [beq_eq_false_iff_ne];omega
     have HF:Hd (Ar (RH.plain ⟨2,rr,ep,0,ec,[],kp,kn,kc⟩) kn=false):=by show _=_;simp [Ar,RH.plain,hk]
     clear aS ag hk;go_enter func181,ntmps181;go_wp2_with fail;go_ret;exact⟨AB HF.o.symm,aE.o⟩
   ·have hb:((en:Int)==0)=false:=by rw [beq_eq_false_iff_ne];omega
    have cV:=aS (by omega);have HF:Hd (Ar (RH.plain ⟨2,rr,ep,en,ec,eff,kp,kn,kc⟩) kn=false):=by show _=_;simp [Ar,RH.plain,cV]
    clear aS ag cV he;go_enter func181,ntmps181;go_wp2_with fail;go_ret;exact⟨AB HF.o.symm,aE.o⟩
  ·have HF:Hd (Ar (RH.plain ⟨2,rr,ep,en,ec,eff,kp,kn,kc⟩) kn=false):=by show _=_;simp [Ar,RH.plain,hr]
   clear aS ag;go_enter func181,ntmps181;go_wp2_with fail;go_ret;exact⟨AB HF.o.symm,aE.o⟩
 by_cases h3:kd=3
 ·subst h3;by_cases hr:0≤rr
  ·by_cases he:en=0
   ·subst he;obtain rfl:=ag rfl;by_cases hk:kn=1
    ·subst hk;have HF:Hd (Ar (RH.plain ⟨3,rr,ep,0,ec,[],kp,1,kc⟩) 1=true):=by show _=_;simp [Ar,RH.plain,hr]
     clear aS ag;go_enter func181,ntmps181;go_wp2_with fail;go_ret;exact⟨AB HF.o.symm,aE.o⟩
    ·have hb:((kn:Int)==1)=false:=by rw [beq_eq_false_iff_ne];omega
     have HF:Hd (Ar (RH.plain ⟨3,rr,ep,0,ec,[],kp,kn,kc⟩) kn=false):=by show _=_;simp [Ar,RH.plain,hk]
     clear aS ag hk;go_enter func181,ntmps181;go_wp2_with fail;go_ret;exact⟨AB HF.o.symm,aE.o⟩
   ·have hb:((en:Int)==0)=false:=by rw [beq_eq_false_iff_ne];omega
    have cV:=aS (by omega);have HF:Hd (Ar (RH.plain ⟨3,rr,ep,en,ec,eff,kp,kn,kc⟩) kn=false):=by show _=_;simp [Ar,RH.plain,cV]
    clear aS ag cV he;go_enter func181,ntmps181;go_wp2_with fail;go_ret;exact⟨AB HF.o.symm,aE.o⟩
  ·have HF:Hd (Ar (RH.plain ⟨3,rr,ep,en,ec,eff,kp,kn,kc⟩) kn=false):=by show _=_;simp [Ar,RH.plain,hr]
   clear aS ag;go_enter func181,ntmps181;go_wp2_with fail;go_ret;exact⟨AB HF.o.symm,aE.o⟩
 by_cases h4:kd=4
 ·subst h4;by_cases hr:0≤rr
  ·cases hm:DD eff
   ·have HF:Hd (Ar (RH.plain ⟨4,rr,ep,en,ec,eff,kp,kn,kc⟩) kn=false):=by show _=_;simp [Ar,RH.plain,hm]
    have HM:=AA hm;clear hm aS ag;go_enter func181,ntmps181;go_wp2_with fail;refine(Gt HM.o (HO.o.eff.alloc _)).mono ?_;rintro e w1 ⟨rfl,hb⟩;have aJ:=bt aE hb;clear hb;go_wp2_with fail;go_ret;exact⟨AB HF.o.symm,aJ.o⟩
   ·have HM:=AA hm;by_cases hk:kn=2
    ·subst hk;have HF:Hd (Ar (RH.plain ⟨4,rr,ep,en,ec,eff,kp,2,kc⟩) 2=true):=by show _=_;simp [Ar,RH.plain,hm,hr]
     clear hm aS ag;go_enter func181,ntmps181;go_wp2_with fail;refine(Gt HM.o (HO.o.eff.alloc _)).mono ?_;rintro e w1 ⟨rfl,hb⟩;have aJ:=bt aE hb;have bh:w1.cell? ⟨w.heap.size,3,none⟩=some (.slice kp 2 kc):=by rw [hb.cell (by simp),AR];rfl
     clear hb;go_wp2_with fail;go_ret;exact⟨AB HF.o.symm,aJ.o⟩
    ·have bQ:((kn:Int)==2)=false:=by rw [beq_eq_false_iff_ne];omega
     have HF:Hd (Ar (RH.plain ⟨4,rr,ep,en,ec,eff,kp,kn,kc⟩) kn=false):=by show _=_;simp [Ar,RH.plain,hk]
     clear hm aS ag hk;go_enter func181,ntmps181;go_wp2_with fail;refine(Gt HM.o (HO.o.eff.alloc _)).mono ?_;rintro e w1 ⟨rfl,hb⟩;have aJ:=bt aE hb;have bh:w1.cell? ⟨w.heap.size,3,none⟩=some (.slice kp kn kc):=by rw [hb.cell (by simp),AR];rfl
     clear hb;go_wp2_with fail;go_ret;exact⟨AB HF.o.symm,aJ.o⟩
  ·have HF:Hd (Ar (RH.plain ⟨4,rr,ep,en,ec,eff,kp,kn,kc⟩) kn=false):=by show _=_;simp [Ar,RH.plain,hr]
   clear aS ag;go_enter func181,ntmps181;go_wp2_with fail;go_ret;exact⟨AB HF.o.symm,aE.o⟩
 ·have b1:(kd==1)=false:=by rw [beq_eq_false_iff_ne];exact h1
  have b2:(kd==2)=false:=by rw [beq_eq_false_iff_ne];exact h2
  have b3:(kd==3)=false:=by rw [beq_eq_false_iff_ne];exact h3
  have b4:(kd==4)=false:=by rw [beq_eq_false_iff_ne];exact h4
  have HF:Hd (Ar (RH.plain ⟨kd,rr,ep,en,ec,eff,kp,kn,kc⟩) kn=false):=by show _=_;simp [Ar,RH.plain,h1,h2,h3,h4]
  clear aS ag h1 h2 h3 h4;go_enter func181,ntmps181;go_wp2_with fail;go_ret;exact⟨AB HF.o.symm,aE.o⟩
theorem JN{a:RH}{w:World}{r:Bool}(h:Ar a.plain a.kn=r)(ho:RH.Own w a):Calls prog 181 #[Ci a] w (RB w (.bool r)):=by subst h;exact NG ho
theorem KU{p:Option Addr}{n cap:Nat}{l:List PT}{w:World}(hr:Da w p n cap l)(hf:Ps 180 #[] w l (fun t=>!BF (PT.er t))):Calls prog 129 #[.slice p n cap] w fun e w'=>e=.returned (.bool (l.all (fun t=>BF (PT.er t))))∧Below w.heap.size w w':=by
 have hc:=Jn 180 #[] _ (fun a w=>call180 a w) hr hf;have he:Hd (l.all (fun t=>BF (PT.er t))=!l.any (fun t=>!BF (PT.er t))):=by show _=_;rw [List.all_eq_not_any_not]
 generalize l.any (fun t=>!BF (PT.er t))=q at hc he;have HC:=AA hc;clear hr hf hc;go_enter func129,ntmps129;go_wp2_with fail;refine HC.o.mono ?_;rintro e w1 ⟨rfl,hb⟩;have HB:=AA hb;clear hb;go_wp2_with fail;go_ret;exact⟨AB he.out.symm,HB.o⟩
theorem ND(t:PT):∀w,LR.lies w t→Calls prog 180 #[Ci t.head] w (RB w (.bool (!BF t.er))):=by
 refine AG.ind (P:=fun(t:PT)=>∀w,LR.lies w t→Calls prog 180 #[Ci t.head] w fun e w'=>e=.returned (.bool (!BF t.er))∧Below w.heap.size w w') (fun a l ih=>?_) t;intro w hl;have HN:=AA (BD hl);have HK:=AA (fun W (hW:Below w.heap.size w W)=>KU ((HN.o.below hW).rowT) (fun x hx W' mJ=>by simpa using ih x hx W' (LR.lies_below mJ x ((HN.o.below hW).each x hx))));have aE:=AA ((Below.refl w.heap.size w).alloc (Nat.le_refl _) (.cells #[.int .u8 a.kind,.int .i64 a.rho,.slice a.ep a.en a.ec,.slice a.kp a.kn a.kc] 28));show Calls _ _ #[Ci a] w _;clear hl ih;cases hn:Ar a.plain a.kn
 ·have HF:Hd (BF (PT.er (.node a l))=false):=by show _=_;rw [Bj,HN.o.kids.len,hn];rfl
  have eB:=AA hn;clear hn;go_enter func180,ntmps180;go_wp2_with fail;refine(JN eB.o (HN.o.alloc _).own).mono ?_;rintro e w1 ⟨rfl,hb⟩;have aJ:=bt aE hb;clear hb;go_wp2_with fail;go_ret;exact⟨by rw [HF.o];rfl,aJ.o⟩
 ·have HF:Hd (BF (PT.er (.node a l))=l.all (fun t=>BF (PT.er t))):=by show _=_;rw [Bj,HN.o.kids.len,hn];rfl
  have eB:=AA hn;clear hn;go_enter func180,ntmps180;go_wp2_with fail;refine(JN eB.o (HN.o.alloc _).own).mono ?_;rintro e w1 ⟨rfl,hb⟩;have aJ:=bt aE hb;have bh:w1.cell? ⟨w.heap.size,3,none⟩=some (.slice a.kp a.kn a.kc):=by rw [hb.cell (by simp),AR];rfl
  clear hb;go_wp2_with fail;refine(HK.o w1 aJ.o).mono ?_;rintro e w2 ⟨rfl,hb⟩;have aK:=bt aJ hb;clear hb;go_wp2_with fail;go_ret;exact⟨by rw [HF.o];rfl,aK.o⟩
theorem Nx{p:Option Addr}{n cap:Nat}{l:List PT}{w:World}(hr:Da w p n cap l):Calls prog 129 #[.slice p n cap] w fun e w'=>e=.returned (.bool (l.all (fun t=>BF (PT.er t))))∧Below w.heap.size w w':=KU hr (fun x hx W hW=>by simpa using ND x W (LR.lies_below hW x (hr.each x hx)))
section
open Go.Sort Go.Lib
end
end Go.Proofs.YtkdjnegfnhldpaaGreatDoor
