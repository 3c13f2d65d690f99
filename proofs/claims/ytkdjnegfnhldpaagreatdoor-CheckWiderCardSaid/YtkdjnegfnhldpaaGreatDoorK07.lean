/- Part 07. -/
import Derived.ProofKit
import Derived.OpenShut
import Derived.Deep.Slices
import Derived.Deep.SlicePairs
import Derived.Lib.SmallJoins
import Derived.ChangeOld
import Derived.WalkSmall
import Derived.Lib.LaidTab
import Derived.LaidLaws
import Derived.Stop.LaidErr
import Derived.Test.YtkdjnegfnhldpaaGreatDoorK06
set_option linter.unusedVariables false
set_option maxRecDepth 100000
set_option linter.unusedSimpArgs false
set_option maxHeartbeats 40000000
namespace Go.Proofs.YtkdjnegfnhldpaaGreatDoor
open Go.Proofs.Tryz Go.RowKit
section
open Go.Sort Go.Lib
def RW(x:AB):Bool:=AM x&&decide (x.kind≠3)
def BN(l:List AB):List Int:=BU ((l.filter RW).map (·.rho))
theorem Us:∀(l:List Int) (e:List Int),A9 IU e→A9 IU (l.foldl (fun e a=>Hx a e) e)∧∀x,x∈l.foldl (fun e a=>Hx a e) e↔x∈e∨x∈l
 |[],e,h=>⟨h,fun x=>by simp⟩
 |a::l,e,h=>by
  obtain⟨h1,h2⟩:=Us l (Hx a e) (OZ a e h);refine⟨h1,fun x=>?_⟩;rw [List.foldl_cons,h2,S8,List.mem_cons];constructor
  ·rintro((rfl|h)|h)
   ·exact .inr (.inl rfl)
   ·exact .inl h
   ·exact .inr (.inr h)
  ·rintro(h|rfl|h)
   ·exact .inl (.inr h)
   ·exact .inl (.inl rfl)
   ·exact .inr h
theorem GO{α:Type}(lt:α→α→Bool)(a:α):∀l:List α,(Db lt a l).length≤l.length+1
 |[]=>by simp [Db]
 |b::l=>by
  unfold Db;split
  ·simp
  ·split
   ·have:=GO lt a l;simp;omega
   ·simp
theorem ES{α:Type}(lt:α→α→Bool):∀l:List α,(E0 lt l).length≤l.length
 |[]=>by simp [E0]
 |a::l=>by have h1:=GO lt a (E0 lt l);have h2:=ES lt l;simp only [E0,List.length_cons];omega
theorem LY(l:List AB):(BN l).length≤l.length:=by have h1:=ES IU ((l.filter RW).map (·.rho));have h2:=List.length_filter_le RW l;rw [List.length_map] at h1;exact Nat.le_trans h1 h2
theorem Fc(l:List AB)(r:Int):r∈BN l↔∃x∈l,AM x=true∧x.kind≠3∧x.rho=r:=by
 unfold BN;rw [DT,List.mem_map];constructor
 ·rintro⟨x,hx,rfl⟩;rw [List.mem_filter] at hx;have h:=hx.2;unfold RW at h;rw [Bool.and_eq_true] at h;exact⟨x,hx.1,h.1,of_decide_eq_true h.2,rfl⟩
 ·rintro⟨x,hx,h1,h2,rfl⟩;exact⟨x,List.mem_filter.2 ⟨hx,by unfold RW;rw [h1,decide_eq_true h2];rfl⟩,rfl⟩
theorem M8{l m:List AB}(h:∀x,AM x=true→(x∈l↔x∈m)):BN l=BN m:=by
 refine Om (fun r=>?_);have h1:=Fc l r;have h2:=Fc m r;unfold BN at h1 h2;rw [DT] at h1 h2;rw [h1,h2];constructor
 ·rintro⟨x,hx,ha,hk,hr⟩;exact⟨x,(h x ha).1 hx,ha,hk,hr⟩
 ·rintro⟨x,hx,ha,hk,hr⟩;exact⟨x,(h x ha).2 hx,ha,hk,hr⟩
theorem OX(l:List AB):BN (BE l)=BN l:=M8 (fun x hx=>by rw [By,List.mem_filter];simp [hx])
theorem EG(p:Option Addr)(n cap:Nat)(rows:List (Lq AB))(w:World)(hn:rows.length=n)(hm:n≤1000000)(hr:At Eu 1 w p rows)(ax:∀r∈rows,r.Ok AP 3 w)(cW:(rows.map (·.n)).sum≤1000000):Calls prog 132 #[.slice p n cap] w fun e w'=>∃q m c,e=.returned (.slice q m c)∧m≤1000000∧AF Am 1 w' q m c (BN (rows.flatMap (·.l)))∧Below w.heap.size w w':=by
 have HU:=AA (C4 p n cap rows w hn hm hr ax cW);have HT:=AA cW;have aq:Hd (BU (((Cv ((rows.flatMap (·.l)).filter AM)).filter (fun x=>decide (x.kind≠3))).map (·.rho))=BN (rows.flatMap (·.l))):=by show _=_;rw [←OX];unfold BN;congr 2;apply List.filter_congr;intro x hx;rw [By,List.mem_filter] at hx;simp [RW,hx.2]
 clear hn hr ax cW;go_enter func132,ntmps132;go_wp2_with fail;refine HU.o.mono ?_;rintro e w1 ⟨v,m,rfl,eY,aD,hb⟩;obtain⟨q,mc,rfl,aB⟩:=aD.isRow AC (by omega);have iN:m≤1000000:=by have:=HT.o;omega
 generalize hS:Cv ((rows.flatMap (·.l)).filter AM)=S at aB aq;have HS:=AA hS;have HR:=AA aB;have HB:=AA hb;clear aB hb;clear aD hS eY;go_wp2_with fail;go_loopw [3,5,9] (fun u _ i wr=>∃k t:Nat,k≤m∧i=.int .i64 k∧t≤k∧AI Am 1 wr w1.heap.size 3 u t (((S.take k).filter (fun x=>decide (x.kind≠3))).map (·.rho))∧Below w1.heap.size w1 wr) (fun _ _ i _=>m-(intOf i).toNat)
 case atStart=>exact⟨0,0,by omega,rfl,by omega,AI.nil _ _ _ _ _,Below.refl _ _⟩
 case round=>
  obtain⟨k,t,hk,rfl,kf,aD,hb⟩:=hrel;have aS:=AA aD;have cG:=AA hb;clear aD hb;by_cases aG:k<m
  ·obtain⟨x,hx⟩:=Ac (l:=S) (j:=k) (by rw [HR.o.len];exact aG);have HE:=AA hx;obtain⟨b,o,rfl,al,d0,d1,d2⟩:=Cm.atom (HR.o.below cG.o).row hx;obtain⟨kd,rr,ss⟩:=x;simp only at d0 d1 d2;clear hx al;have aM:=AA (cG.o.alloc cG.o.size (.cells #[.int .u8 kd,.int .i64 rr,.string ss] 59));have an:=AA (aS.o.below ((Below.refl _ wr).alloc (Nat.le_refl _) (.cells #[.int .u8 kd,.int .i64 rr,.string ss] 59)));by_cases h3:kd=3
   ·have lc:(kd != 3)=false:=by simp [h3]
    have lN:=AA h3;clear h3;go_wp2_with fail;go_roundw
    case rel=>exact⟨k+1,t,by omega,by go_num,by omega,by rw [AJ HE.o,List.filter_append,List.map_append];simpa [lN.o] using an.o,aM.o⟩
    case measure=>simp [intOf];omega
   ·have lc:(kd != 3)=true:=by simpa using h3
    have lN:=AA h3;clear h3;go_wp2_with (at_builtin;refine Ae rfl _ _ 24 rfl w1.heap.size 3 _ 1 8 underlying24 Kc rfl (by decide) Am Ap FI rr _ _ _ an.o rfl (by refine Eq.trans (b:=Value.slice (some ⟨wr.heap.size+1,0,none⟩) 1 1) rfl ?_;simp) ?c1 ?c2 ?c3 ?_)
    case c1=>omega
    case c2=>omega
    case c3=>have:=aM.o.size;simp at this ⊢;omega
    ·intro v' w4 aH hg;have lP:=AA aH;have bQ:=AA (Below.own aM.o hg (by have:=aM.o.size;simp at this ⊢;omega) an.o);clear aH hg d0 d1 d2;go_wp2_with fail;go_roundw
     case rel=>exact⟨k+1,t+1,by omega,by go_num,by omega,by rw [AJ HE.o,List.filter_append,List.map_append];simpa [lN.o] using lP.o,bQ.o⟩
     case measure=>simp [intOf];omega
  ·have fd:k=m:=by omega
   subst fd;have h1:=aS.o;rw [AY (by rw [HR.o.len];omega)] at h1;have HO:=AA h1;clear h1;rcases HO.o.split Ap (by omega) with⟨rfl,rfl,aY⟩|⟨g,cp,rfl,iI,fJ⟩
   ·have d7:=AA aY;clear aY;go_wp2_with fail;refine(slices_Sort_int_none none 0 _).mono ?_;rintro e w2 ⟨rfl,rfl⟩;go_wp2_with fail;refine(slices_Compact_int_empty none 0 _).mono ?_;rintro e w3 ⟨rfl,rfl⟩;go_wp2_with fail;go_ret;exact⟨none,0,0,rfl,by omega,by rw [←aq.o,d7.o];exact AF.none _ _ _,HB.o.trans (cG.o.mono HB.o.size)⟩
   ·go_wp2_with fail;refine(JC g cp t _ w1.heap.size wr HO.o (by omega)).mono ?_;rintro e w2 ⟨rfl,gc,dh⟩;have aO:=AA (AI.drop_base (enc:=Am) (k:=1) dh fJ cG.o cG.o.size);have fC:=AA gc;clear gc dh;go_wp2_with fail;refine(FX g cp t _ w1.heap.size w2 fC.o iI (by omega)).mono ?_;rintro e w3 ⟨m',rfl,cq,eZ,ai⟩;have aI:=AA (AI.drop_base (enc:=Am) (k:=1) ai fJ aO.o aO.o.size);rw [Eb,aq.o] at eZ;obtain⟨p',c',hv,aB⟩:=eZ.isRow Ap (by omega);cases hv;have an:=AA aB;clear eZ ai aB;go_wp2_with fail;go_ret;exact⟨_,m',_,rfl,by omega,an.o,HB.o.trans (aI.o.mono HB.o.size)⟩
end
section
open Go.ChangeShapes Go.WideShapes Go.ChangeAt Go.RowKit Go.Deep
variable {H:Type} {enc:TypeId×Value→H} {W:World} {base:Nat} {t e:TypeId} {v:Value} {d:DataW H} {ps:List MemPlace}
theorem Ob{α:Type}{encE:α→List Value}{k:Nat}(w:World)(b o:Nat)(hb:b<w.heap.size)(n:Nat)(q:Nat→α)(h:∀j,j<n→∀i u,(encE (q j))[i]?=some u→w.cell? ⟨b,o+j * k+i,none⟩=some u):At encE k w (some ⟨b,o,none⟩) ((List.range n).map q):=by
 refine .inr ⟨b,o,rfl,hb,fun j x hx i u hu=>?_⟩;rw [List.getElem?_map] at hx;have hj:j<n:=by have:=(Option.map_eq_some_iff.1 hx).choose_spec.1;have:=(List.getElem?_eq_some_iff.1 this).1;simpa using this
 rw [List.getElem?_range hj] at hx;cases hx;exact h j hj i u hu
end
section
open Go.ChangeShapes Go.WideShapes Go.ChangeAt Go.RowKit Go.Deep
section
variable {H:Type} {enc:TypeId×Value→H} {W:World} {base:Nat} {t e:TypeId} {v:Value} {d:DataW H} {ps:List MemPlace}
end
end
section
open Go.ChangeShapes Go.WideShapes Go.ChangeAt Go.RowKit Go.Deep
variable {H:Type} {enc:TypeId×Value→H} {W:World} {base:Nat} {t e:TypeId} {v:Value} {d:DataW H} {ps:List MemPlace}
structure DD(x:AB):Prop where
 k0:0≤x.kind
 k1:x.kind≤255
 r0:-9223372036854775808≤x.rho
 r1:x.rho≤9223372036854775807
 s1:x.exn.size≤9223372036854775807
end
section
open Go.ChangeShapes Go.WideShapes Go.ChangeAt Go.RowKit Go.Deep
section
variable {H:Type} {enc:TypeId×Value→H} {W:World} {base:Nat} {t e:TypeId} {v:Value} {d:DataW H} {ps:List MemPlace}
def Qu(enc:TypeId×Value→H)(W:World)(e:TypeId)(n:Nat){α:Type}(enc1:α→List Value)(Q:α→Prop):Prop:=∀cs' x,DataW.trod enc prog W 0 (fun _=>true) true n e cs'=some x→cs'.length=prog.cellsOf e→∃y:α,cs'=enc1 y∧Q y
theorem D6{α:Type}{k fuel:Nat}{cs:List Value}{x:DataW H×List MemPlace}(enc1:α→List Value)(Q:α→Prop)(ht:prog.underlying t=some (.slice e))(hc:prog.cellsOf e=k)(bC:0<k)(ja:∀y,(enc1 y).length=k)(hf:DataW.trod enc prog W 0 (fun _=>true) true fuel t cs=some x)(he:∀n,n<fuel→Qu enc W e n enc1 Q):∃p n cap,∃l:List α,cs=[.slice p n cap]∧AF enc1 k W p n cap l∧∀y∈l,Q y:=by
 rcases DataW.trod_slice ht hf with⟨ao,_⟩|⟨a,len,cap,elems,rest,n,qA,ao,_,_,hl,hm,aJ,cD,_,_⟩
 ·exact⟨none,0,0,[],ao,AF.none _ _ _,fun y hy=>by cases hy⟩
 ·unfold maxLen at hm
  have each:∀i,i<len→∃y:α,Q y∧∀j u,(enc1 y)[j]?=some u→W.cell? ((a.add (i * k)).add j)=some u:=by
   intro i hi;have h:=cD i hi;rw [List.getElem?_eq_getElem (by omega)] at h;obtain⟨cs',h1,h2⟩:=Option.bind_eq_some_iff.1 h;rw [hc] at h1;obtain⟨_,jp,bT⟩:=World.cells?_some h1;obtain⟨y,rfl,hq⟩:=he n (by omega) cs' _ h2 (by rw [hc];exact jp);refine⟨y,hq,fun j u hu=>?_⟩;have hj:j<k:=by rw [←ja y];exact CD hu
   rw [bT j hj];exact hu
  by_cases jv:len=0
  ·subst jv;exact⟨_,0,cap,[],ao,⟨rfl,by omega,hl,(fun h=>by cases h),.inl rfl⟩,fun y hy=>by cases hy⟩
  ·obtain⟨y0,_⟩:=each 0 (by omega);haveI:Inhabited α:=⟨y0⟩;obtain⟨q,hq⟩:=choose_lt each;obtain⟨b,off,spot⟩:=a;obtain⟨u0,pe⟩:∃u,(enc1 (q 0))[0]?=some u:=Ac (by rw [ja];omega);have c0:=(hq 0 (by omega)).2 0 u0 pe;have j9:spot=none:=by simpa [Addr.add] using World.cell?_spot c0
   subst j9;have al:b<W.heap.size:=by simpa [Addr.add] using BC c0
   refine⟨_,len,cap,(List.range len).map q,ao,⟨by simp,by omega,hl,(fun h=>by cases h),Ob W b off al len q (fun j hj i u hu=>?_)⟩,fun y hy=>?_⟩
   ·have:=(hq j hj).2 i u hu;rw [D3,D3] at this;exact this
   ·obtain⟨j,hj,rfl⟩:=List.mem_map.1 hy;exact(hq j (List.mem_range.1 hj)).1
theorem Sh(n:Nat):Qu enc W 3 n Am (fun z:Int=>-9223372036854775808≤z∧z≤9223372036854775807):=by intro cs' x h _;obtain⟨z,rfl,_,hz⟩:=DataW.trod_int underlying3 h;exact⟨z,rfl,by simpa [Lit.wf,IntKind.min,IntKind.max,IntKind.signed,IntKind.bits] using hz⟩
theorem Lu(n:Nat):Qu enc W 59 n AP DD:=by
 intro cs' x h aJ;have he:prog.underlying 59=some (.struct (prog.fieldsOf 59)):=by kernel_rfl
 have ce:prog.cellsOf 59=3:=by kernel_rfl
 have F0:((prog.fieldsOf 59)[0]?).map (fun f=>(f.type,f.offset))=some (5,0):=by kernel_rfl
 have F1:((prog.fieldsOf 59)[1]?).map (fun f=>(f.type,f.offset))=some (3,1):=by kernel_rfl
 have F2:((prog.fieldsOf 59)[2]?).map (fun f=>(f.type,f.offset))=some (9,2):=by kernel_rfl
 have C0:prog.cellsOf 5=1:=by kernel_rfl
 have C1:prog.cellsOf 3=1:=by kernel_rfl
 have C2:prog.cellsOf 9=1:=by kernel_rfl
 rw [ce] at aJ;obtain⟨xs,k,hk,mC,_,eq,cY⟩:=DataW.trod_struct he h;obtain⟨f0,e0,p0⟩:=Option.map_eq_some_iff.1 F0;obtain⟨f1,e1,p1⟩:=Option.map_eq_some_iff.1 F1;obtain⟨f2,e2,p2⟩:=Option.map_eq_some_iff.1 F2;simp only [Prod.mk.injEq] at p0 p1 p2;have g0:=cY 0 f0 e0;have g1:=cY 1 f1 e1;have g2:=cY 2 f2 e2;rw [p0.1,p0.2,C0] at g0;rw [p1.1,p1.2,C1] at g1;rw [p2.1,p2.2,C2] at g2;have b0:=(Array.getElem?_eq_some_iff.1 e0).1;have b1:=(Array.getElem?_eq_some_iff.1 e1).1;have b2:=(Array.getElem?_eq_some_iff.1 e2).1;match cs',aJ with
 |[v0,v1,v2],_=>
  rw [List.getElem?_eq_getElem (show 0<xs.length by omega)] at g0;rw [List.getElem?_eq_getElem (show 1<xs.length by omega)] at g1;rw [List.getElem?_eq_getElem (show 2<xs.length by omega)] at g2;obtain⟨z0,q0,_,b0'⟩:=DataW.trod_int underlying5 g0;obtain⟨z1,q1,_,b1'⟩:=DataW.trod_int underlying3 g1;obtain⟨z2,q2,_,b2'⟩:=DataW.trod_string underlying9 g2;simp at q0 q1 q2;have h0:0≤z0∧z0≤255:=by simpa [Lit.wf,IntKind.min,IntKind.max,IntKind.signed,IntKind.bits] using b0'
  have h1:-9223372036854775808≤z1∧z1≤9223372036854775807:=by simpa [Lit.wf,IntKind.min,IntKind.max,IntKind.signed,IntKind.bits] using b1'
  unfold maxLen at b2';exact⟨⟨z0,z1,z2⟩,by rw [q0,q1,q2];rfl,h0.1,h0.2,h1.1,h1.2,by omega⟩
end
end
structure LH where
 kind:Int
 rho:Int
 eff:List AB
structure RH where
 kind:Int
 rho:Int
 ep:Option Addr
 en:Nat
 ec:Nat
 eff:List AB
 kp:Option Addr
 kn:Nat
 kc:Nat
abbrev PT:=AD RH
abbrev RT:=AD LH
def RH.plain(a:RH):LH:=⟨a.kind,a.rho,a.eff⟩
def PT.er(t:PT):RT:=AD.map RH.plain t
theorem PT.er_node(a:RH)(l:List PT):PT.er (.node a l)=.node a.plain (l.map PT.er):=AD.map_node _ a l
def KV(a:RH):List Value:=[.int .u8 a.kind,.int .i64 a.rho,.slice a.ep a.en a.ec,.slice a.kp a.kn a.kc]
structure RH.Own(w:World)(a:RH):Prop where
 eff:AF AP 3 w a.ep a.en a.ec a.eff
 ok:∀x∈a.eff,DD x
 k0:0≤a.kind
 k1:a.kind≤255
 r0:-9223372036854775808≤a.rho
 r1:a.rho≤9223372036854775807
 kmax:a.kn≤9223372036854775807
 kle:a.kn≤a.kc
 knil:a.kp=none→a.kc=0
def LR:F7 RH where
 enc:=KV
 k:=4
 own:=RH.Own
 kp:=RH.kp
 kn:=RH.kn
 len:=fun _=>rfl
 below:=fun h hb=>⟨h.eff.below hb,h.ok,h.k0,h.k1,h.r0,h.r1,h.kmax,h.kle,h.knil⟩
theorem Qd(t:PT):LR.encT t=KV t.head:=rfl
theorem DW:∀t:PT,(LR.encT t).length=4:=fun _=>rfl
abbrev C9(a:RH):Value:=.agg #[.int .u8 a.kind,.int .i64 a.rho,.slice a.ep a.en a.ec,.slice a.kp a.kn a.kc]
structure A4(w:World)(a:RH)(l:List PT):Prop where
 own:RH.Own w a
 kids:AF LR.encT 4 w a.kp a.kn a.kc l
 each:∀t∈l,LR.lies w t
theorem Bb{w:World}{a:RH}{l:List PT}(h:LR.lies w (.node a l)):A4 w a l:=by rw [F7.lies_node] at h;exact⟨h.1,⟨h.2.1,h.1.kmax,h.1.kle,h.1.knil,h.2.2.1⟩,h.2.2.2⟩
theorem A4.lies{w:World}{a:RH}{l:List PT}(h:A4 w a l):LR.lies w (.node a l):=by rw [F7.lies_node];exact⟨h.own,h.kids.len,h.kids.row,h.each⟩
theorem A4.below{w w':World}{a:RH}{l:List PT}(h:A4 w a l)(hb:Below w.heap.size w w'):A4 w' a l:=Bb (LR.lies_below hb _ h.lies)
theorem A4.alloc{w:World}{a:RH}{l:List PT}(h:A4 w a l)(o:Obj):A4 (w.alloc o) a l:=h.below bA
structure Cy(w:World)(p:Option Addr)(n cap:Nat)(l:List PT):Prop where
 row:AF LR.encT 4 w p n cap l
 each:∀t∈l,LR.lies w t
theorem A4.rowT{w:World}{a:RH}{l:List PT}(h:A4 w a l):Cy w a.kp a.kn a.kc l:=⟨h.kids,h.each⟩
theorem Cy.below{w w':World}{p:Option Addr}{n cap:Nat}{l:List PT}(h:Cy w p n cap l)(hb:Below w.heap.size w w'):Cy w' p n cap l:=⟨h.row.below hb,fun t ht=>LR.lies_below hb t (h.each t ht)⟩
theorem Cy.alloc{w:World}{p:Option Addr}{n cap:Nat}{l:List PT}(h:Cy w p n cap l)(o:Obj):Cy (w.alloc o) p n cap l:=h.below bA
theorem Cy.kid{w:World}{p:Option Addr}{n cap:Nat}{l:List PT}(h:Cy w p n cap l){j:Nat}{t:PT}(hx:l[j]?=some t) :
 ∃b o,p=some ⟨b,o,none⟩∧b<w.heap.size∧w.cell? ⟨b,o+j * 4,none⟩=some (.int .u8 t.head.kind)∧w.cell? ⟨b,o+j * 4+1,none⟩=some (.int .i64 t.head.rho) ∧
  w.cell? ⟨b,o+j * 4+2,none⟩=some (.slice t.head.ep t.head.en t.head.ec)∧w.cell? ⟨b,o+j * 4+3,none⟩=some (.slice t.head.kp t.head.kn t.head.kc):=by
 obtain⟨b,o,hp,hb,hc⟩:=h.row.row.elem hx
 exact⟨b,o,hp,hb,by simpa using hc 0 _ rfl,hc 1 _ rfl,hc 2 _ rfl,hc 3 _ rfl⟩
theorem Cy.at{w:World}{p:Option Addr}{n cap:Nat}{l:List PT}(h:Cy w p n cap l){j:Nat}(hj:j<n):∃t,l[j]?=some t:=Ac (by rw [h.row.len];exact hj)
theorem Cy.lies{w:World}{p:Option Addr}{n cap:Nat}{l:List PT}(h:Cy w p n cap l){j:Nat}{t:PT}(hx:l[j]?=some t):LR.lies w t:=h.each t (List.mem_of_getElem? hx)
theorem Ay:∀{l:List Nat} {x:Nat},x∈l→x≤l.sum
 |[],_,h=>by cases h
 |y::l,x,h=>by
  rcases List.mem_cons.1 h with rfl|h
  ·simp
  ·have:=Ay h;simp;omega
def BL:RT→Bool:=AD.all (fun a _=>!BS a.eff)
theorem BG(a:LH)(l:List RT):BL (.node a l)=(!BS a.eff&&l.all BL):=AD.all_node _ a l
def Fq:RT→Bool:=AD.all (fun a _=>!CF a.eff)
theorem Ho(a:LH)(l:List RT):Fq (.node a l)=(!CF a.eff&&l.all Fq):=AD.all_node _ a l
theorem RD(t:RT):Fq t=true→BL t=true:=by refine AD.ind (P:=fun(t:RT)=>Fq t=true→BL t=true) (fun a l ih h=>?_) t;rw [Ho,Bool.and_eq_true,List.all_eq_true] at h;rw [BG,Bool.and_eq_true,List.all_eq_true];refine⟨?_,fun x hx=>ih x hx (h.2 x hx)⟩;rw [Iz (by simpa using h.1)];rfl
structure DX(t:RT)(n:Nat):Prop where
 size:t.size≤n
 effs:BL t=true
theorem DX.kid{a:LH}{l:List RT}{n:Nat}(h:DX (.node a l) n){t:RT}(ht:t∈l):DX t n:=by
 refine⟨?_,?_⟩
 ·have h1:=h.size;rw [AD.size_node] at h1;have h2:t.size≤(l.map AD.size).sum:=by have:t.size∈l.map AD.size:=List.mem_map_of_mem ht;exact Ay this
  omega
 ·have h1:=h.effs;rw [BG,Bool.and_eq_true,List.all_eq_true] at h1;exact h1.2 t ht
theorem DX.kids{a:LH}{l:List RT}{n:Nat}(h:DX (.node a l) n):l.length≤n:=by
 have h1:=h.size;rw [AD.size_node] at h1
 have:∀l:List RT,l.length≤(l.map AD.size).sum:=by
  intro l;induction l with
  |nil=>simp
  |cons x l ih=>have:=AD.size_pos x;simp only [List.length_cons,List.map_cons,List.sum_cons];omega
 have:=this l;omega
theorem DX.eff{a:LH}{l:List RT}{n:Nat}(h:DX (.node a l) n):BS a.eff=false:=by have h1:=h.effs;rw [BG,Bool.and_eq_true] at h1;simpa using h1.1
theorem G6{a:RH}{w:World}{r:Bool}(h:CF a.eff=r)(ho:RH.Own w a):Calls prog 86 #[.slice a.ep a.en a.ec] w fun e w'=>e=.returned (.bool r)∧w=w':=by subst h;exact G5 _ _ _ _ w ho.eff.len ho.eff.max ho.eff.row
def O9(t:RT)(n r:Int):Prop:=-1≤r∧r≤n∧(0≤r→(t.size:Int)+r=n∧Fq t=true)
def MO(l:List RT)(n r:Int):Prop:=-1≤r∧r≤n∧(0≤r→((l.map AD.size).sum:Int)+r=n∧l.all Fq=true)
theorem MO.step{l:List RT}{n r r':Int}{t:RT}(h:MO l n r)(h0:0≤r)(h':O9 t r r'):MO (l++[t]) n r':=by refine⟨h'.1,by have:=h.2.1;have:=h'.2.1;omega,fun hr=>?_⟩;obtain⟨h1,h2⟩:=h.2.2 h0;obtain⟨h3,h4⟩:=h'.2.2 hr;refine⟨?_,by simp [h2,h4]⟩;simp only [List.map_append,List.map_cons,List.map_nil,List.sum_append,List.sum_cons,List.sum_nil];omega
theorem M2(t:PT):∀w,LR.lies w t→∀n:Int,0≤n→n≤1000000→Calls prog 119 #[C9 t.head,.int .i64 n] w fun e w'=>(∃r:Int,e=.returned (.int .i64 r)∧O9 t.er n r)∧Below w.heap.size w w':=by
 refine AD.ind (P:=fun(t:PT)=>∀w,LR.lies w t→∀n:Int,0≤n→n≤1000000→Calls prog 119 #[C9 t.head,.int .i64 n] w fun e w'=>(∃r:Int,e=.returned (.int .i64 r)∧O9 t.er n r)∧Below w.heap.size w w') (fun a l ih=>?_) t;intro w hl n h0 hn;have HN:=AA (Bb hl);have IH:=AA ih;have fd:=HN.o.own.kmax;have aM:=AA ((Below.refl w.heap.size w).alloc (Nat.le_refl _) (.cells #[.int .u8 a.kind,.int .i64 a.rho,.slice a.ep a.en a.ec,.slice a.kp a.kn a.kc] 28));show Calls _ _ #[C9 a,.int .i64 n] w _;clear hl ih;cases hg:CF a.eff
 ·have HG:=AA hg;clear hg;obtain⟨kd,rr,ep,en,ec,eff,kp,kn,kc⟩:=a;simp only at fd;go_enter func119,ntmps119;go_wp2_with fail;refine(G6 HG.o (HN.o.alloc _).own).mono ?_;rintro e w1 ⟨rfl,rfl⟩;generalize hW:w.alloc (.cells #[.int .u8 kd,.int .i64 rr,.slice ep en ec,.slice kp kn kc] 28)=W at *
  have mH:Hd (∀wr,Below W.heap.size W wr→wr.cell? ⟨w.heap.size,3,none⟩=some (.slice kp kn kc)):=by show ∀wr,_;intro wr hb;rw [←hW] at hb;rw [hb.cell (by simp),AU];rfl
  have bS:Hd (A4 W ⟨kd,rr,ep,en,ec,eff,kp,kn,kc⟩ l):=by show A4 _ _ _;rw [←hW];exact HN.o.alloc _
  clear hW;have pA:=mH.o W (Below.refl _ _);go_wp2_with fail;clear pA;go_loopw [1,5] (fun u i wr=>∃(k:Nat) (r:Int),k≤kn∧i=.int .i64 k∧u=.int .i64 r∧MO ((l.take k).map PT.er) (n-1) r∧Below W.heap.size W wr) (fun _ i _=>kn-(intOf i).toNat)
  case atStart=>exact⟨0,n-1,by omega,rfl,rfl,⟨by omega,by omega,fun _=>⟨by simp,by simp⟩⟩,Below.refl _ _⟩
  case round=>
   obtain⟨k,r,hk,rfl,rfl,gC,hb⟩:=hrel;have eN:=gC.1;have dL:=gC.2.1;have g7:=AA gC;have HB:=AA hb;clear gC hb;have jW:=mH.o wr HB.o;by_cases aG:k<kn
   ·by_cases dy:0≤r
    ·obtain⟨x,hx⟩:=(bS.o.rowT).at (j:=k) aG;have HE:=AA hx;obtain⟨b,o,rfl,al,d0,d1,d2,d3⟩:=(bS.o.rowT.below HB.o).kid hx;clear hx al;go_wp2_with fail;refine(IH.out x (List.mem_of_getElem? HE.o) wr ((bS.o.rowT.below HB.o).lies HE.o) r dy (by omega)).mono ?_;rintro e w2 ⟨⟨r',rfl,ax⟩,hb⟩;have cu:=AA ax;have aI:=bt HB hb;clear ax hb d0 d1 d2 d3 jW;go_wp2_with fail;go_roundw
     case rel=>exact⟨k+1,r',by omega,by go_num,rfl,by rw [AJ HE.o,List.map_append];exact g7.o.step dy cu.o,aI.o⟩
     case measure=>simp [intOf];omega
    ·have hd:decide (0≤r)=false:=by simpa using dy
     go_wp2_with fail;go_ret;exact⟨⟨r,rfl,by have:=g7.o;refine⟨this.1,by omega,fun h=>absurd h (by omega)⟩⟩,aM.o.trans (HB.o.mono aM.o.size)⟩
   ·have bV:k=kn:=by omega
    subst bV;go_wp2_with fail;go_ret;have h:=g7.o;rw [AY (by rw [bS.o.kids.len];omega)] at h;refine⟨⟨r,rfl,h.1,by omega,fun h0=>?_⟩,aM.o.trans (HB.o.mono aM.o.size)⟩;obtain⟨h1,h2⟩:=h.2.2 h0;rw [PT.er_node,AD.size_node,Ho];refine⟨by omega,?_⟩;rw [h2,Bool.and_true];show (!CF eff)=true;rw [HG.o];rfl
 ·have HG:=AA hg;clear hg;go_enter func119,ntmps119;go_wp2_with fail;refine(G6 HG.o (HN.o.alloc _).own).mono ?_;rintro e w1 ⟨rfl,rfl⟩;go_wp2_with fail;go_ret;refine⟨⟨-1,rfl,by omega,by omega,fun h=>by omega⟩,aM.o⟩
theorem Kq{t:PT}{w:World}(hl:LR.lies w t):Calls prog 87 #[C9 t.head] w fun e w'=>(∃r,e=.returned (.bool r)∧(r=false→DX t.er 100∧Fq t.er=true))∧Below w.heap.size w w':=by
 have HL:=AA (fun o=>M2 t (w.alloc o) (LR.lies_below bA t hl) 100 (by omega) (by omega));obtain⟨a,l⟩:=t;show Calls _ _ #[C9 a] w _;obtain⟨kd,rr,ep,en,ec,eff,kp,kn,kc⟩:=a;clear hl;go_enter func87,ntmps87;go_wp2_with fail;refine(HL.o _).mono ?_;rintro e w1 ⟨⟨r,rfl,ax⟩,hb⟩;have cu:=AA ax;have HB:=AA (((Below.refl w.heap.size w).alloc (Nat.le_refl _) (.cells #[.int .u8 kd,.int .i64 rr,.slice ep en ec,.slice kp kn kc] 28)).trans (hb.mono (by simp)));clear ax hb;go_wp2_with fail;go_ret;refine⟨⟨_,rfl,fun h=>?_⟩,HB.o⟩;have h0:0≤r:=by simpa using h
 obtain⟨h1,h2⟩:=cu.o.2.2 h0;exact⟨⟨by omega,RD _ h2⟩,h2⟩
theorem OK:∀l:List AB,DM l=true↔NW l l.length
 |[]=>by simp [DM,NW]
 |[a]=>by
  simp only [DM,NW];constructor
  ·intro h;refine⟨by simp [h],fun j x y hj=>?_⟩;simp at hj
  ·intro h;have:=h.1;simpa using this
 |a::b::l=>by
  have ih:=OK (b::l);simp only [DM,Bool.and_eq_true,ih];constructor
  ·rintro⟨⟨h1,h2⟩,h3,h4⟩;refine⟨?_,fun j x y hj hx hy=>?_⟩
   ·rw [AY (Nat.le_refl _)] at h3 ⊢;rw [List.all_cons,h1,h3];rfl
   ·cases j with
    |zero=>simp at hx hy;subst hx;subst hy;exact h2
    |succ j=>exact h4 j x y (by simpa using hj) (by simpa using hx) (by simpa using hy)
  ·rintro⟨h1,h2⟩;rw [AY (Nat.le_refl _),List.all_cons,Bool.and_eq_true] at h1;refine⟨⟨h1.1,h2 0 a b (by simp) rfl rfl⟩,?_,fun j x y hj hx hy=>h2 (j+1) x y (by simpa using hj) (by simpa using hx) (by simpa using hy)⟩;rw [AY (Nat.le_refl _)];exact h1.2
theorem FY{p:Option Addr}{n cap:Nat}{l:List AB}{w:World}{r:Bool}(h:DM l=r)(hr:AF AP 3 w p n cap l):Calls prog 93 #[.slice p n cap] w (RB w (.bool r)):=by
 refine(KT p n cap l w hr.len hr.max hr.row).mono ?_;rintro e w' ⟨⟨r',rfl,ah⟩,hb⟩;have:r'=r:=by rw [←h,Bool.eq_iff_iff,ah,OK,hr.len]
 subst this;exact⟨rfl,hb⟩
def A0(a:LH)(n:Nat):Bool:=
 if a.kind=1 then decide (a.rho=0)&&decide (a.eff=[])&&decide (n=0)
 else if a.kind=2 then decide (0≤a.rho)&&decide (a.eff=[])&&decide (n=2)
 else if a.kind=3 then decide (0≤a.rho)&&decide (a.eff=[])&&decide (n=1)
 else if a.kind=4 then decide (0≤a.rho)&&DM a.eff&&decide (n=2)
 else false
def Bj:RT→Bool:=AD.all A0
theorem C6(a:LH)(l:List RT):Bj (.node a l)=(A0 a l.length&&l.all Bj):=AD.all_node _ a l
theorem Mv(a:RH)(l:List PT):Bj (PT.er (.node a l))=(A0 a.plain l.length&&l.all (fun t=>Bj (PT.er t))):=by rw [PT.er_node,C6,List.length_map,List.all_map];rfl
def NZ(fid:FuncId)(caps:Array Value)(w:World)(l:List PT)(q:PT→Bool):Prop:=∀x∈l,∀W,Below w.heap.size w W→Calls prog fid (#[C9 x.head]++caps) W fun e w'=>e=.returned (.bool (q x))∧Below W.heap.size W w'
theorem NZ.is{fid:FuncId}{caps:Array Value}{w:World}{l:List PT}{q:PT→Bool}(h:NZ fid caps w l q){x:PT}(hx:x∈l){r:Bool}(hq:q x=r){W:World}(hb:Below w.heap.size w W):Calls prog fid (#[C9 x.head]++caps) W fun e w'=>e=.returned (.bool r)∧Below W.heap.size W w':=by subst hq;exact h x hx W hb
theorem Jv(fid:FuncId)(caps:Array Value)(q:PT→Bool)(ag:DJ fid){p:Option Addr}{n cap:Nat}{l:List PT}{w:World}(hr:Cy w p n cap l)(hf:NZ fid caps w l q) :
 Calls prog 216 #[.slice p n cap,.func (.func fid) #[] caps] w fun e w'=>(∃r:Int,e=.returned (.int .i64 r)∧NV q l r)∧Below w.heap.size w w':=by
 unfold DJ at ag
 have hm:=hr.row.max
 have HR:=AA hr
 have HF:=AA hf
 clear hr hf
 go_enter func216,ntmps216
 go_wp2_with fail
 go_loopw [5,8] (fun _ i wr=>∃k:Nat,k≤n∧i=.int .i64 k∧(l.take k).any q=false∧Below w.heap.size w wr) (fun _ i _=>n-(intOf i).toNat)
 case atStart=>exact⟨0,by omega,rfl,by simp,Below.refl _ _⟩
 case round=>
  obtain⟨k,hk,rfl,aw,hb⟩:=hrel;have a8:=AA aw;have HB:=AA hb;clear aw hb;by_cases aG:k<n
  ·obtain⟨x,hx⟩:=HR.o.at (j:=k) aG;have HE:=AA hx;obtain⟨b,o,rfl,al,d0,d1,d2,d3⟩:=(HR.o.below HB.o).kid hx;clear hx al;cases hq:q x
   ·have HQ:=AA hq;clear hq;go_wp2_with fail;refine(HF.o.is (List.mem_of_getElem? HE.o) HQ.o HB.o).mono ?_;rintro e w1 ⟨rfl,hb⟩;have aO:=bt HB hb;clear hb;clear d0 d1 d2 d3;go_wp2_with fail;go_roundw
    case rel=>exact⟨k+1,by omega,by go_num,by rw [BF HE.o,a8.o,HQ.o];rfl,aO.o⟩
    case measure=>simp [intOf];omega
   ·have HQ:=AA hq;clear hq;go_wp2_with fail;refine(HF.o.is (List.mem_of_getElem? HE.o) HQ.o HB.o).mono ?_;rintro e w1 ⟨rfl,hb⟩;have aO:=bt HB hb;clear hb;clear d0 d1 d2 d3;go_wp2_with fail;go_ret;exact⟨⟨k,rfl,.inr ⟨k,x,rfl,HE.o,HQ.o,a8.o⟩⟩,aO.o⟩
  ·go_wp2_with fail;go_ret;have h:=a8.o;rw [AY (by rw [HR.o.row.len];omega)] at h;exact⟨⟨-1,rfl,.inl ⟨rfl,h⟩⟩,HB.o⟩
theorem H7(fid:FuncId)(caps:Array Value)(q:PT→Bool)(ag:DJ fid){p:Option Addr}{n cap:Nat}{l:List PT}{w:World}(hr:Cy w p n cap l)(hf:NZ fid caps w l q):Calls prog 179 #[.slice p n cap,.func (.func fid) #[] caps] w (RB w (.bool (l.any q))):=by
 have hc:Calls prog 216 #[.slice p n cap,.func (.func fid) #[] caps] w fun e w'=>
  (∃r:Int,e=.returned (.int .i64 r)∧l.any q=decide (0≤r))∧Below w.heap.size w w':=
  (Jv fid caps q ag hr hf).mono fun _ _ ⟨⟨r,he,hr⟩,hb⟩=>⟨⟨r,he,hr.any⟩,hb⟩
 generalize l.any q=r at hc ⊢;clear hr hf ag;go_enter func179,ntmps179;go_wp2_with fail;refine hc.mono ?_;rintro e w1 ⟨⟨r,rfl,hr⟩,hb⟩;have HR:=AA hr;have HB:=AA hb;clear hr hb hc;go_wp2_with fail;go_ret;exact⟨AE HR.o.symm,HB.o⟩
theorem Kw{a:RH}{w:World}(ho:RH.Own w a):Calls prog 181 #[C9 a] w (RB w (.bool (A0 a.plain a.kn))):=by
 have aM:=AA ((Below.refl w.heap.size w).alloc (Nat.le_refl _) (.cells #[.int .u8 a.kind,.int .i64 a.rho,.slice a.ep a.en a.ec,.slice a.kp a.kn a.kc] 28));have fd:=ho.kmax;have m8:=ho.eff.max;have HO:=AA ho;obtain⟨kd,rr,ep,en,ec,eff,kp,kn,kc⟩:=a;simp only at fd m8;have dC:eff.length=en:=ho.eff.len;have aY:en=0→eff=[]:=fun h=>List.length_eq_zero_iff.1 (by omega);have aR:0<en→eff≠[]:=fun h e=>by rw [e] at dC;simp at dC;omega
 clear ho dC;by_cases h1:kd=1
 ·subst h1;by_cases hr:rr=0
  ·subst hr;by_cases he:en=0
   ·subst he;obtain rfl:=aY rfl;by_cases hk:kn=0
    ·subst hk;have HF:Hd (A0 (RH.plain ⟨1,0,ep,0,ec,[],kp,0,kc⟩) 0=true):=by show _=_;simp [A0,RH.plain]
     clear aR aY;go_enter func181,ntmps181;go_wp2_with fail;go_ret;exact⟨AE HF.o.symm,aM.o⟩
    ·have hb:((kn:Int)==0)=false:=by rw [beq_eq_false_iff_ne];omega
     have HF:Hd (A0 (RH.plain ⟨1,0,ep,0,ec,[],kp,kn,kc⟩) kn=false):=by show _=_;simp [A0,RH.plain,hk]
     clear aR aY hk;go_enter func181,ntmps181;go_wp2_with fail;go_ret;exact⟨AE HF.o.symm,aM.o⟩
   ·have hb:((en:Int)==0)=false:=by rw [beq_eq_false_iff_ne];omega
    have dS:=aR (by omega);have HF:Hd (A0 (RH.plain ⟨1,0,ep,en,ec,eff,kp,kn,kc⟩) kn=false):=by show _=_;simp [A0,RH.plain,dS]
    clear aR aY dS he;go_enter func181,ntmps181;go_wp2_with fail;go_ret;exact⟨AE HF.o.symm,aM.o⟩
  ·have hb:(rr==0)=false:=by rw [beq_eq_false_iff_ne];exact hr
   have HF:Hd (A0 (RH.plain ⟨1,rr,ep,en,ec,eff,kp,kn,kc⟩) kn=false):=by show _=_;simp [A0,RH.plain,hr]
   clear aR aY hr;go_enter func181,ntmps181;go_wp2_with fail;go_ret;exact⟨AE HF.o.symm,aM.o⟩
 by_cases h2:kd=2
 ·subst h2;by_cases hr:0≤rr
  ·by_cases he:en=0
   ·subst he;obtain rfl:=aY rfl;by_cases hk:kn=2
    ·subst hk;have HF:Hd (A0 (RH.plain ⟨2,rr,ep,0,ec,[],kp,2,kc⟩) 2=true):=by show _=_;simp [A0,RH.plain,hr]
     clear aR aY;go_enter func181,ntmps181;go_wp2_with fail;go_ret;exact⟨AE HF.o.symm,aM.o⟩
    ·have hb:((kn:Int)==2)=false:=by rw [beq_eq_false_iff_ne];omega
     have HF:Hd (A0 (RH.plain ⟨2,rr,ep,0,ec,[],kp,kn,kc⟩) kn=false):=by show _=_;simp [A0,RH.plain,hk]
     clear aR aY hk;go_enter func181,ntmps181;go_wp2_with fail;go_ret;exact⟨AE HF.o.symm,aM.o⟩
   ·have hb:((en:Int)==0)=false:=by rw [beq_eq_false_iff_ne];omega
    have dS:=aR (by omega);have HF:Hd (A0 (RH.plain ⟨2,rr,ep,en,ec,eff,kp,kn,kc⟩) kn=false):=by show _=_;simp [A0,RH.plain,dS]
    clear aR aY dS he;go_enter func181,ntmps181;go_wp2_with fail;go_ret;exact⟨AE HF.o.symm,aM.o⟩
  ·have HF:Hd (A0 (RH.plain ⟨2,rr,ep,en,ec,eff,kp,kn,kc⟩) kn=false):=by show _=_;simp [A0,RH.plain,hr]
   clear aR aY;go_enter func181,ntmps181;go_wp2_with fail;go_ret;exact⟨AE HF.o.symm,aM.o⟩
 by_cases h3:kd=3
 ·subst h3;by_cases hr:0≤rr
  ·by_cases he:en=0
   ·subst he;obtain rfl:=aY rfl;by_cases hk:kn=1
    ·subst hk;have HF:Hd (A0 (RH.plain ⟨3,rr,ep,0,ec,[],kp,1,kc⟩) 1=true):=by show _=_;simp [A0,RH.plain,hr]
     clear aR aY;go_enter func181,ntmps181;go_wp2_with fail;go_ret;exact⟨AE HF.o.symm,aM.o⟩
    ·have hb:((kn:Int)==1)=false:=by rw [beq_eq_false_iff_ne];omega
     have HF:Hd (A0 (RH.plain ⟨3,rr,ep,0,ec,[],kp,kn,kc⟩) kn=false):=by show _=_;simp [A0,RH.plain,hk]
     clear aR aY hk;go_enter func181,ntmps181;go_wp2_with fail;go_ret;exact⟨AE HF.o.symm,aM.o⟩
   ·have hb:((en:Int)==0)=false:=by rw [beq_eq_false_iff_ne];omega
    have dS:=aR (by omega);have HF:Hd (A0 (RH.plain ⟨3,rr,ep,en,ec,eff,kp,kn,kc⟩) kn=false):=by show _=_;simp [A0,RH.plain,dS]
    clear aR aY dS he;go_enter func181,ntmps181;go_wp2_with fail;go_ret;exact⟨AE HF.o.symm,aM.o⟩
  ·have HF:Hd (A0 (RH.plain ⟨3,rr,ep,en,ec,eff,kp,kn,kc⟩) kn=false):=by show _=_;simp [A0,RH.plain,hr]
   clear aR aY;go_enter func181,ntmps181;go_wp2_with fail;go_ret;exact⟨AE HF.o.symm,aM.o⟩
 by_cases h4:kd=4
 ·subst h4;by_cases hr:0≤rr
  ·cases hm:DM eff
   ·have HF:Hd (A0 (RH.plain ⟨4,rr,ep,en,ec,eff,kp,kn,kc⟩) kn=false):=by show _=_;simp [A0,RH.plain,hm]
    have HM:=AA hm;clear hm aR aY;go_enter func181,ntmps181;go_wp2_with fail;refine(FY HM.o (HO.o.eff.alloc _)).mono ?_;rintro e w1 ⟨rfl,hb⟩;have aO:=bt aM hb;clear hb;go_wp2_with fail;go_ret;exact⟨AE HF.o.symm,aO.o⟩
   ·have HM:=AA hm;by_cases hk:kn=2
    ·subst hk;have HF:Hd (A0 (RH.plain ⟨4,rr,ep,en,ec,eff,kp,2,kc⟩) 2=true):=by show _=_;simp [A0,RH.plain,hm,hr]
     clear hm aR aY;go_enter func181,ntmps181;go_wp2_with fail;refine(FY HM.o (HO.o.eff.alloc _)).mono ?_;rintro e w1 ⟨rfl,hb⟩;have aO:=bt aM hb;have jW:w1.cell? ⟨w.heap.size,3,none⟩=some (.slice kp 2 kc):=by rw [hb.cell (by simp),AU];rfl
     clear hb;go_wp2_with fail;go_ret;exact⟨AE HF.o.symm,aO.o⟩
    ·have aj:((kn:Int)==2)=false:=by rw [beq_eq_false_iff_ne];omega
     have HF:Hd (A0 (RH.plain ⟨4,rr,ep,en,ec,eff,kp,kn,kc⟩) kn=false):=by show _=_;simp [A0,RH.plain,hk]
     clear hm aR aY hk;go_enter func181,ntmps181;go_wp2_with fail;refine(FY HM.o (HO.o.eff.alloc _)).mono ?_;rintro e w1 ⟨rfl,hb⟩;have aO:=bt aM hb;have jW:w1.cell? ⟨w.heap.size,3,none⟩=some (.slice kp kn kc):=by rw [hb.cell (by simp),AU];rfl
     clear hb;go_wp2_with fail;go_ret;exact⟨AE HF.o.symm,aO.o⟩
  ·have HF:Hd (A0 (RH.plain ⟨4,rr,ep,en,ec,eff,kp,kn,kc⟩) kn=false):=by show _=_;simp [A0,RH.plain,hr]
   clear aR aY;go_enter func181,ntmps181;go_wp2_with fail;go_ret;exact⟨AE HF.o.symm,aM.o⟩
 ·have b1:(kd==1)=false:=by rw [beq_eq_false_iff_ne];exact h1
  have b2:(kd==2)=false:=by rw [beq_eq_false_iff_ne];exact h2
  have b3:(kd==3)=false:=by rw [beq_eq_false_iff_ne];exact h3
  have b4:(kd==4)=false:=by rw [beq_eq_false_iff_ne];exact h4
  have HF:Hd (A0 (RH.plain ⟨kd,rr,ep,en,ec,eff,kp,kn,kc⟩) kn=false):=by show _=_;simp [A0,RH.plain,h1,h2,h3,h4]
  clear aR aY h1 h2 h3 h4;go_enter func181,ntmps181;go_wp2_with fail;go_ret;exact⟨AE HF.o.symm,aM.o⟩
theorem Hb{a:RH}{w:World}{r:Bool}(h:A0 a.plain a.kn=r)(ho:RH.Own w a):Calls prog 181 #[C9 a] w (RB w (.bool r)):=by subst h;exact Kw ho
theorem Ia{p:Option Addr}{n cap:Nat}{l:List PT}{w:World}(hr:Cy w p n cap l)(hf:NZ 180 #[] w l (fun t=>!Bj (PT.er t))):Calls prog 129 #[.slice p n cap] w fun e w'=>e=.returned (.bool (l.all (fun t=>Bj (PT.er t))))∧Below w.heap.size w w':=by
 have hc:=H7 180 #[] _ (fun a w=>call180 a w) hr hf;have he:Hd (l.all (fun t=>Bj (PT.er t))=!l.any (fun t=>!Bj (PT.er t))):=by show _=_;rw [List.all_eq_not_any_not]
 generalize l.any (fun t=>!Bj (PT.er t))=q at hc he;have HC:=AA hc;clear hr hf hc;go_enter func129,ntmps129;go_wp2_with fail;refine HC.o.mono ?_;rintro e w1 ⟨rfl,hb⟩;have HB:=AA hb;clear hb;go_wp2_with fail;go_ret;exact⟨AE he.out.symm,HB.o⟩
theorem Kt(t:PT):∀w,LR.lies w t→Calls prog 180 #[C9 t.head] w (RB w (.bool (!Bj t.er))):=by
 refine AD.ind (P:=fun(t:PT)=>∀w,LR.lies w t→Calls prog 180 #[C9 t.head] w fun e w'=>e=.returned (.bool (!Bj t.er))∧Below w.heap.size w w') (fun a l ih=>?_) t;intro w hl;have HN:=AA (Bb hl);have HK:=AA (fun W (hW:Below w.heap.size w W)=>Ia ((HN.o.below hW).rowT) (fun x hx W' iE=>by simpa using ih x hx W' (LR.lies_below iE x ((HN.o.below hW).each x hx))));have aM:=AA ((Below.refl w.heap.size w).alloc (Nat.le_refl _) (.cells #[.int .u8 a.kind,.int .i64 a.rho,.slice a.ep a.en a.ec,.slice a.kp a.kn a.kc] 28));show Calls _ _ #[C9 a] w _;clear hl ih;cases hn:A0 a.plain a.kn
 ·have HF:Hd (Bj (PT.er (.node a l))=false):=by show _=_;rw [Mv,HN.o.kids.len,hn];rfl
  have gv:=AA hn;clear hn;go_enter func180,ntmps180;go_wp2_with fail;refine(Hb gv.o (HN.o.alloc _).own).mono ?_;rintro e w1 ⟨rfl,hb⟩;have aO:=bt aM hb;clear hb;go_wp2_with fail;go_ret;exact⟨by rw [HF.o];rfl,aO.o⟩
 ·have HF:Hd (Bj (PT.er (.node a l))=l.all (fun t=>Bj (PT.er t))):=by show _=_;rw [Mv,HN.o.kids.len,hn];rfl
  have gv:=AA hn;clear hn;go_enter func180,ntmps180;go_wp2_with fail;refine(Hb gv.o (HN.o.alloc _).own).mono ?_;rintro e w1 ⟨rfl,hb⟩;have aO:=bt aM hb;have jW:w1.cell? ⟨w.heap.size,3,none⟩=some (.slice a.kp a.kn a.kc):=by rw [hb.cell (by simp),AU];rfl
  clear hb;go_wp2_with fail;refine(HK.o w1 aO.o).mono ?_;rintro e w2 ⟨rfl,hb⟩;have aI:=bt aO hb;clear hb;go_wp2_with fail;go_ret;exact⟨by rw [HF.o];rfl,aI.o⟩
theorem LZ{p:Option Addr}{n cap:Nat}{l:List PT}{w:World}(hr:Cy w p n cap l):Calls prog 129 #[.slice p n cap] w fun e w'=>e=.returned (.bool (l.all (fun t=>Bj (PT.er t))))∧Below w.heap.size w w':=Ia hr (fun x hx W hW=>by simpa using Kt x W (LR.lies_below hW x (hr.each x hx)))
section
open Go.Sort Go.Lib
end
def CS(l:List PT):Nat:=(l.map AD.size).sum
theorem QF{l:List PT}{k:Nat}{x:PT}(h:l[k]?=some x):CS (l.take (k+1))=CS (l.take k)+x.size∧CS (l.take k)+x.size≤CS l:=ET AD.size l k x h
theorem Ff(t:PT):CS t.kids+1=t.size:=by obtain⟨a,l⟩:=t;rw [AD.size_node];show CS l+1=_;unfold CS;omega
def PE(x:PT)(W:World):Prop:=Calls prog 65 #[.slice x.head.kp x.head.kn x.head.kc] W fun e w'=>e=.returned (.int .i64 (CS x.kids))∧Below W.heap.size W w'
theorem Ha{p:Option Addr}{n cap:Nat}{l:List PT}{w:World}(hr:Cy w p n cap l)(hs:CS l≤1000000)(hf:∀x∈l,∀W,Below w.heap.size w W→PE x W):Calls prog 65 #[.slice p n cap] w (RB w (.int .i64 (CS l))):=by
 have hm:=hr.row.max;have HR:=AA hr;have HF:=AA hf;have HS:=AA hs;clear hr hf hs;go_enter func65,ntmps65;go_wp2_with fail;go_loopw [3,5,8] (fun s _ i wr=>∃k S:Nat,k≤n∧i=.int .i64 k∧CS (l.take k)=S∧S≤1000000∧s=.int .i64 S∧Below w.heap.size w wr) (fun _ _ i _=>n-(intOf i).toNat)
 case atStart=>exact⟨0,0,by omega,rfl,rfl,by omega,rfl,Below.refl _ _⟩
 case round=>
  obtain⟨k,S,hk,rfl,hS,mo,rfl,hb⟩:=hrel;have HSk:=AA hS;have HB:=AA hb;clear hS hb;by_cases aG:k<n
  ·obtain⟨x,hx⟩:=HR.o.at (j:=k) aG;have HE:=AA hx;obtain⟨b,o,rfl,al,d0,d1,d2,d3⟩:=(HR.o.below HB.o).kid hx;have au:=AA (QF hx);have lT:=AA (Ff x);have bD:S+x.size≤1000000:=by have:=au.o.2;have:=HS.o;have:=HSk.o;omega
   have aj:CS x.kids≤1000000:=by have:=lT.o;omega
   have eO:=HB.o.size;clear hx al;go_wp2_with fail;refine(HF.o x (List.mem_of_getElem? HE.o) _ (HB.o.alloc eO _)).mono ?_;rintro e w1 ⟨rfl,hb⟩;have aO:=AA ((HB.o.alloc eO (.cells #[.int .u8 x.head.kind,.int .i64 x.head.rho,.slice x.head.ep x.head.en x.head.ec,.slice x.head.kp x.head.kn x.head.kc] 28)).trans (hb.mono (by simp;omega)));clear hb d0 d1 d2 d3;generalize hz:CS x.kids=z at *
   have qH:S+z≤1000000:=by have:=lT.o;omega
   have lU:Hd (z+1=x.size):=lT.o;have qI:=AA hz;clear hz;go_wp2_with fail;go_roundw
   case rel=>exact⟨k+1,S+x.size,by omega,by go_num,by have:=au.o.1;have:=HSk.o;omega,bD,by have:=lU.o;rw [show ((S+x.size:Nat):Int)=(S:Int)+((1:Int)+(z:Int)) by omega],aO.o⟩
   case measure=>simp [intOf];omega
  ·have bV:k=n:=by omega
   subst bV;go_wp2_with fail;go_ret;have h:=HSk.o;rw [AY (by rw [HR.o.row.len];omega)] at h;subst h;exact⟨rfl,HB.o⟩
theorem QE(t:PT):∀w,LR.lies w t→t.size≤1000000→PE t w:=by
 refine AD.ind (P:=fun(t:PT)=>∀w,LR.lies w t→t.size≤1000000→PE t w) (fun a l ih=>?_) t;intro w hl hs;have HN:=Bb hl;have hk:CS l+1=(AD.node a l).size:=Ff (.node a l)
 exact Ha (l:=l) HN.rowT (by omega) (fun x hx W hW=>ih x hx W (LR.lies_below hW x (HN.each x hx)) (by
  have h2:x.size≤CS l:=Ay (List.mem_map_of_mem hx);omega))
theorem Ku{p:Option Addr}{n cap:Nat}{l:List PT}{w:World}(hr:Cy w p n cap l)(hs:CS l≤1000000):Calls prog 65 #[.slice p n cap] w (RB w (.int .i64 (CS l))):=
 Ha hr hs (fun x hx W hW=>QE x W (LR.lies_below hW x (hr.each x hx)) (by
  have:x.size≤CS l:=Ay (List.mem_map_of_mem hx);omega))
end Go.Proofs.YtkdjnegfnhldpaaGreatDoor
