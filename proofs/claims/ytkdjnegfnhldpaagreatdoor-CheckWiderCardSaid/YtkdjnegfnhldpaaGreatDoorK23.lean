/- Part 23. -/
import Derived.Maps.OwnSet
import Derived.Recover
import Derived.Laws.Entries
import Derived.Tactics
import Derived.Test.YtkdjnegfnhldpaaGreatDoorK22
set_option linter.unusedVariables false
set_option maxRecDepth 100000
set_option linter.unusedSimpArgs false
set_option maxHeartbeats 40000000
namespace Go.Proofs.YtkdjnegfnhldpaaGreatDoor
open Go.Proofs.Tryz Go.RowKit
theorem Jh(a:AH){w:World}(hr:AF Am 1 w a.rp a.rn a.rc a.rhos):Calls prog 62 #[An a] w fun e w'=>∃p n c,e=.returned (.slice p n c)∧AF Am 1 w' p n c (Bm a.plain)∧(p=a.rp∧Bm a.plain=a.rhos∨∀ad,p=some ad→w.heap.size≤ad.block)∧Below w.heap.size w w':=by
 have HR:=AA hr;have HB:=AA (Ah w a);have aO:Hd (Below w.heap.size w (w.alloc (AO a))):=bA;have c0:=HB.o.c 0 _ rfl;have c7:=HB.o.c 7 _ rfl;have c8:=HB.o.c 8 _ rfl;clear hr;by_cases bb:a.kind=17
 ·have e17:(a.kind==17)=true:=by simp [bb]
  have HQ:Hd (Bm a.plain=[a.rho]):=by show _=_;unfold Bm;rw [if_pos (show a.plain.kind=17 from bb)];rfl
  clear bb;go_enter func62,ntmps62;go_wp2_with fail;go_ret;exact⟨_,_,_,rfl,by rw [HQ.o];have h:=AW Ap (by omega) (w.alloc (AO a)) 3 [a.rho] 1 _ rfl rfl (by decide);rw [World.size_alloc] at h;exact h,.inr (fun ad hp=>by cases hp;simp),AQ aO.o _⟩
 ·have e17:(a.kind==17)=false:=by simp [bb]
  by_cases bn:a.kind=13
  ·have e13:(a.kind==13)=true:=by simp [bn]
   have HQ:Hd (Bm a.plain=a.rhos):=by show _=_;unfold Bm;rw [if_neg (show ¬a.plain.kind=17 from bb),if_pos (show a.plain.kind=13 from bn)];rfl
   clear bb bn;go_enter func62,ntmps62;go_wp2_with fail;go_ret;exact⟨_,_,_,rfl,by rw [HQ.o];exact HR.o.below aO.o,.inl ⟨rfl,HQ.o⟩,aO.o⟩
  ·have e13:(a.kind==13)=false:=by simp [bn]
   have HQ:Hd (Bm a.plain=[]):=by show _=_;unfold Bm;rw [if_neg (show ¬a.plain.kind=17 from bb),if_neg (show ¬a.plain.kind=13 from bn)]
   clear bb bn;go_enter func62,ntmps62;go_wp2_with fail;go_ret;exact⟨_,_,_,rfl,by rw [HQ.o];exact AF.none _ _ _,.inr (fun ad hp=>(nomatch hp)),aO.o⟩
def Jr(met:List Int):List Int→List Int
 |[]=>met
 |r::l=>if FA met r then met else Jr (met++[r]) l
theorem Is:∀(l m met:List Int),Ba met (l++m)=(Ba met l||Ba (met++l) m)
 |[],m,met=>by simp [Ba]
 |r::l,m,met=>by simp only [List.cons_append,Ba,Is l m (met++[r]),List.append_assoc,List.cons_append,List.nil_append,Bool.or_assoc]
theorem Kh:∀(l m met:List Int),Ba met l=false→Jr met (l++m)=Jr (met++l) m
 |[],m,met,_=>by simp [Jr]
 |r::l,m,met,h=>by simp only [Ba,Bool.or_eq_false_iff] at h;simp only [List.cons_append,Jr,h.1,Bool.false_eq_true,if_false,Kh l m (met++[r]) h.2,List.append_assoc,List.cons_append,List.nil_append]
theorem L7(l met:List Int)(h:Ba met l=false):Jr met l=met++l:=by have:=Kh l [] met h;simpa [Jr] using this
theorem Q8{l met:List Int}{k:Nat}{r:Int}(h:Ba met (l.take k)=false)(hr:l[k]?=some r)(hi:FA (met++l.take k) r=true):Ba met l=true∧Jr met l=met++l.take k:=by
 have aG:=CD hr
 have hd:l=l.take k++r::l.drop (k+1):=by
  conv=>lhs;rw [←List.take_append_drop k l,List.drop_eq_getElem_cons aG]
  congr 2;rw [List.getElem?_eq_getElem aG] at hr;exact Option.some.inj hr
 constructor
 ·rw [hd,Is,h];simp only [Ba,hi,Bool.true_or,Bool.or_true]
 ·conv=>lhs;rw [hd]
  rw [Kh _ _ _ h];simp only [Jr,hi,if_true]
theorem Se{l met:List Int}{k:Nat}{r:Int}(h:Ba met (l.take k)=false)(hr:l[k]?=some r)(hi:FA (met++l.take k) r=false):Ba met (l.take (k+1))=false:=by rw [AJ hr,Is,h];simp [Ba,hi]
def BJ(a:AH)(s:List Int×Int):Bool×(List Int×Int):=(!Ba s.1 (Bm a.plain),(Jr s.1 (Bm a.plain),if Ba s.1 (Bm a.plain) then a.at_ else s.2))
theorem Ja:∀(l:List AH) (met:List Int) (z:Int),GB (l.map AH.plain) met=(match AN BJ l (met,z) with|(true,_)=>none|(false,s)=>some s.2)∧((AN BJ l (met,z)).1=true→(AN BJ l (met,z)).2.2=z)
 |[],met,z=>⟨rfl,fun _=>rfl⟩
 |a::l,met,z=>by
  have e:AN BJ (a::l) (met,z)=if(BJ a (met,z)).1 then AN BJ l (BJ a (met,z)).2 else(false,(BJ a (met,z)).2):=rfl;rw [e,List.map_cons];unfold GB;cases h:Ba met (Bm a.plain) with
  |true=>
   have e1:(BJ a (met,z)).1=false:=by simp [BJ,h]
   have e2:(BJ a (met,z)).2.2=a.at_:=by simp [BJ,h]
   rw [e1,if_neg Bool.false_ne_true];refine⟨?_,fun h=>(nomatch h)⟩;show some a.at_=some (BJ a (met,z)).2.2;rw [e2]
  |false=>
   have e1:(BJ a (met,z)).1=true:=by simp [BJ,h]
   have e2:(BJ a (met,z)).2=(met++Bm a.plain,z):=by simp [BJ,h,L7 _ _ h]
   rw [e1,if_pos rfl,e2];simp only [Bool.false_eq_true,if_false];exact Ja l (met++Bm a.plain) z
def Lp(D:DataW Unit)(met:List Int):Prop:=∀r:Int,Maps.has D (.int .i64 r)=FA met r
theorem Rw:Lp (.map []) []:=fun r=>rfl
theorem Rx{D:DataW Unit}{met:List Int}(h:Lp D met)(hD:Maps.IsMap D)(r:Int):Lp (D.put (.int .i64 r) (.agg [])) (met++[r]):=fun z=>by
 have e:FA (met++[r]) z=(FA met z||decide (z=r)):=by rw [Bool.eq_iff_iff,Bool.or_eq_true,D5,D5,List.mem_append,List.mem_singleton,decide_eq_true_eq]
 by_cases hz:z=r
 ·subst hz;rw [Maps.has_put_same hD (show WideAt.IsKeyLit (.int .i64 z) from trivial),e];simp
 ·rw [Maps.has_put_other (by intro hh;injection hh with _ hh;exact hz hh),h z,e];simp [hz]
structure NS(b4 b5 bm:Nat)(k:Nat)(s:List Int×Int)(W:World):Prop where
 c4:W.heap[b4]?=some (.cells #[.map (some bm)] 113 (0,0))
 c5:W.heap[b5]?=some (.cells #[.int .i64 s.2] 3 (0,0))
 m:∃D:DataW Unit,W.ownsMap prog 3 unitElem bm s.1.length D∧Lp D s.1
 len:s.1.length+50 * k≤1000000
 n45:b4≠b5
 n4m:b4≠bm
 n5m:b5≠bm
def Lo(b5 bm:Nat)(b:Nat):Prop:=b=b5∨b=bm
theorem I4:Maps.Keyed prog 3:=Maps.int_keyed underlying3
theorem NS.lt{b4 b5 bm k:Nat}{s:List Int×Int}{W:World}(h:NS b4 b5 bm k s W):b4<W.heap.size∧b5<W.heap.size∧bm<W.heap.size:=by obtain⟨D,⟨es,clock,hb,_⟩,_⟩:=h.m;exact⟨(Array.getElem?_eq_some_iff.1 h.c4).1,(Array.getElem?_eq_some_iff.1 h.c5).1,(Array.getElem?_eq_some_iff.1 hb).1⟩
theorem NS.below{b4 b5 bm k:Nat}{s:List Int×Int}{W W':World}(h:NS b4 b5 bm k s W)(hb:Below W.heap.size W W'):NS b4 b5 bm k s W':=by obtain⟨l4,l5,lm⟩:=h.lt;obtain⟨D,⟨es,clock,hm,r⟩,hs⟩:=h.m;exact⟨(hb.block _ l4).trans h.c4,(hb.block _ l5).trans h.c5,⟨D,⟨es,clock,(hb.block _ lm).trans hm,r⟩,hs⟩,h.len,h.n45,h.n4m,h.n5m⟩
theorem NS.less{b4 b5 bm k:Nat}{s:List Int×Int}{W:World}(h:NS b4 b5 bm (k+1) s W):NS b4 b5 bm k s W:=⟨h.c4,h.c5,h.m,by have:=h.len;omega,h.n45,h.n4m,h.n5m⟩
theorem PJ{a:AH}{n:Nat}(h:a.rhos.length≤n)(hn:1≤n):(Bm a.plain).length≤n:=by
 unfold Bm;split
 ·simpa using hn
 ·split
  ·exact h
  ·simp
theorem Qz{w:World}{a:AH}(h:AH.Own w a):∀z∈Bm a.plain,Mn z:=fun z hz=>by
 unfold Bm at hz;split at hz
 ·rw [List.mem_singleton] at hz;subst hz;exact h.rho
 ·split at hz
  ·exact h.rok z hz
  ·cases hz
theorem UT{r:Int}(h:Mn r):keyOf prog 3 (.int .i64 r)=some (.int .i64 r):=by
 have hw:(Lit.int .i64 r).wf=true:=by
  have h1:=h.1;have h2:=h.2;have e1:IntKind.min .i64=-9223372036854775808:=by decide
  have e2:IntKind.max .i64=9223372036854775807:=by decide
  simp only [Lit.wf,e1,e2,Bool.and_eq_true,decide_eq_true_eq];exact⟨h1,h2⟩
 simp [keyOf,mapKey,underlying3,hw]
structure VZ(b4 b5 bm g:Nat)(a:AH)(p:Option Addr)(n c:Nat)(l met:List Int)(z:Int)(W:World)(j:Nat)(wr:World):Prop where
 i:NS b4 b5 bm 0 (met++l.take j,z) wr
 box:CW wr g a
 row:AF Am 1 wr p n c l
 far:l≠[]→∀ad,p=some ad→¬Lo b5 bm ad.block
 grown:BR W wr (Lo b5 bm)
 clash:Ba met (l.take j)=false
theorem P8{α:Type}{enc:α→List Value}{k:Nat}{w w':World}{R:Nat→Prop}{p:Option Addr}{n c:Nat}{l:List α}(h:AF enc k w p n c l)(hg:BR w w' R)(hr:l≠[]→∀ad,p=some ad→¬R ad.block):AF enc k w' p n c l:=by
 refine⟨h.len,h.max,h.le,h.nil,?_⟩;rcases h.row with h0|⟨b,o,hp,aG,hc⟩
 ·exact .inl h0
 ·by_cases hl:l=[]
  ·exact .inl hl
  ·exact .inr ⟨b,o,hp,Nat.lt_of_lt_of_le aG hg.size,fun j x hx i u hu=>hg.cell (hc j x hx i u hu) (show ¬R b from hr hl ⟨b,o,none⟩ hp)⟩
theorem VZ.add{b4 b5 bm g:Nat}{a:AH}{p:Option Addr}{n c:Nat}{l met:List Int}{z:Int}{W wr w5:World}{j:Nat}(h:VZ b4 b5 bm g a p n c l met z W j wr){o:Obj}{r:Int}(hr:l[j]?=some r)(hi:FA (met++l.take j) r=false)(py:met.length+l.length≤1000000){D:DataW Unit}(hm:w5.ownsMap prog 3 unitElem bm ((met++l.take j).length+1) (D.put (.int .i64 r) (.agg [])))(hs:Lp D (met++l.take j))(hD:Maps.IsMap D)(hg:(wr.alloc o).grownBy w5 (some bm))(ej:g≠bm)(eX:g<wr.heap.size):VZ b4 b5 bm g a p n c l met z W (j+1) w5:=by
 obtain⟨l4,l5,lm⟩:=h.i.lt;have dh:wr.grownBy w5 (some bm):=JV hg;have kf:met++l.take (j+1)=(met++l.take j)++[r]:=by rw [AJ hr,List.append_assoc]
 have aG:=CD hr;have bF:BR wr w5 (Lo b5 bm):=.of_grown dh (fun b e=>by cases e;exact .inr rfl);refine⟨⟨(dh.block _ l4 (fun e=>h.i.n4m (by injection e))).trans h.i.c4,(dh.block _ l5 (fun e=>h.i.n5m (by injection e))).trans h.i.c5,⟨D.put (.int .i64 r) (.agg []),?_,?_⟩,?_,h.i.n45,h.i.n4m,h.i.n5m⟩,⟨(dh.block g eX (fun e=>ej (by injection e))).trans h.box.blk⟩,P8 h.row bF h.far,h.far,h.grown.trans bF,Se h.clash hr hi⟩
 ·show w5.ownsMap _ _ _ bm (met++l.take (j+1)).length _;rw [kf,List.length_append];exact hm
 ·show Lp _ (met++l.take (j+1));rw [kf];exact Rx hs hD r
 ·show (met++l.take (j+1)).length+50 * 0≤1000000;rw [List.length_append,List.length_take];omega
theorem NS.hit{b4 b5 bm:Nat}{met:List Int}{z:Int}{wr:World}(h:NS b4 b5 bm 0 (met,z) wr)(o:Obj)(v:Int)(k:Nat)(hl:met.length+50 * k≤1000000):NS b4 b5 bm k (met,v) ((wr.alloc o).setCell ⟨b5,0,none⟩ (.int .i64 v)):=by have h1:=h.below ((Below.refl wr.heap.size wr).alloc (Nat.le_refl _) o);have hg:=AG (wr.alloc o) b5 0 (.int .i64 v);obtain⟨D,hm,hs⟩:=h1.m;exact⟨(hg.block _ h1.lt.1 (fun e=>h1.n45 (by injection e))).trans h1.c4,AK _ h1.c5,⟨D,hm.setCell (fun e=>h1.n5m e.symm) _,hs⟩,hl,h1.n45,h1.n4m,h1.n5m⟩
theorem PH{w0:World}{b4 b5 bm:Nat}{a:AH}{k:Nat}{s:List Int×Int}{W:World}(ho:AH.Own w0 a)(hs:CB a)(hW:Below w0.heap.size w0 W)(h5:w0.heap.size≤b5)(hm:w0.heap.size≤bm)(h:NS b4 b5 bm (k+1) s W):Calls prog 61 #[An a,.pointer (some ⟨b4,0,none⟩),.pointer (some ⟨b5,0,none⟩)] W fun e w'=>e=.returned (.bool (BJ a s).1)∧NS b4 b5 bm k (BJ a s).2 w'∧BR W w' (Lo b5 bm):=by
 obtain⟨met,z⟩:=s;have HO:=AA ho;have HH:=AA h;have HW:=AA hW;obtain⟨l4,l5,lm⟩:=h.lt;have aM:=AA (Ah W a);have bD:Below W.heap.size W (W.alloc (AO a)):=bA;have aO:=AA bD;have jI:=AA ((ho.rhos.below hW).below bD);obtain⟨l,hl⟩:∃l,Bm a.plain=l:=⟨_,rfl⟩;have qC:l.length≤50:=by rw [←hl];exact PJ (by have h1:=ho.rhos.len;have h2:=hs.rhos;omega) (by decide)
 have ax:∀z∈l,Mn z:=by rw [←hl];exact Qz ho
 have nQ:met.length+50 * (k+1)≤1000000:=h.len;have HL:=AA hl;have cu:=AA ax;have au:Hd (BJ a (met,z)=(!Ba met l,(Jr met l,if Ba met l then a.at_ else z))):=by show _=_;unfold BJ;rw [hl]
 obtain⟨u,⟨mt,zt⟩,fj⟩:∃u m,BJ a (met,z)=(u,m):=⟨_,_,rfl⟩;rw [fj];have HU:Hd (u=!Ba met l∧mt=Jr met l∧zt=if Ba met l then a.at_ else z):=by have e:=au.o;rw [fj] at e;injection e with e1 e2;injection e2 with e2 e3;exact⟨e1,e2,e3⟩
 clear ho hs hW h bD hl ax au fj;go_enter func61,ntmps61;go_upto_region 1 with fail
 go_wp2_with (first
  |(refine lw aM.o.blk underlying31 ?_)
  |(go_at_call 62;refine(Jh a jI.o).mono ?_;rintro e w2 ⟨p,n,c,rfl,aB,bM,hb⟩;rw [HL.o] at aB;have nU:=aB.len;have aI:=bt aO hb;have iy:=AA (aM.o.below hb);have aa:=AA aB;have i6:=AA bM;clear aB bM hb))
 have mN:Hd (VZ b4 b5 bm W.heap.size a p n c l met z W 0 w2):=by
  refine⟨?_,iy.o,aa.o,fun aR ad hp hr=>?_,BR.of_below aI.o _,rfl⟩
  ·have h1:=HH.o.below aI.o;exact⟨h1.c4,h1.c5,by simpa using h1.m,by have:=h1.len;simp at this ⊢;omega,h1.n45,h1.n4m,h1.n5m⟩
  ·rcases i6.o with⟨e1,e2⟩|e1
   ·have aG:=BD HO.o.rhos.row (by rw [←e2,HL.o];exact aR) (e1▸hp);rcases hr with hr|hr<;>omega
   ·have h1:=e1 ad hp;simp only [World.size_alloc] at h1;rcases hr with hr|hr<;>omega
 have ej:W.heap.size≠bm:=by omega
 have fx:W.heap.size≠b5:=by omega
 clear aM aO jI aI iy aa i6;go_loopw [6,7,8,12] (fun _ _ _ i wr=>∃j:Nat,j≤n∧i=.int .i64 j∧VZ b4 b5 bm W.heap.size a p n c l met z W j wr) (fun _ _ _ i _=>n-(intOf i).toNat)
 case atStart=>exact⟨0,Nat.zero_le _,rfl,mN.o⟩
 case round=>
  obtain⟨j,hj,rfl,nJ⟩:=hrel;have HJ:=AA nJ;clear nJ mN;by_cases aG:j<n
  ·obtain⟨r,hr⟩:∃r,l[j]?=some r:=Ac (by rw [nU];exact aG);obtain⟨b,o,b8,al,ao⟩:=HJ.o.row.row.elem hr;have cw:=HJ.o.far (by intro e;rw [e] at hr;simp at hr) _ b8;subst b8;have hc:wr.cell? ⟨b,o+j,none⟩=some (.int .i64 r):=by have:=ao 0 _ rfl;simpa using this
   have HR:=AA hr;obtain⟨D,aD,fT⟩:=HJ.o.i.m;have aS:=AA aD;have dA:=AA fT;have gu:=AA (UT (cu.o r (List.mem_of_getElem? hr)));have c4:wr.cell? ⟨b4,0,none⟩=some (.map (some bm)):=by rw [Lib.cell_of_heap HJ.o.i.c4];rfl
   have cb4:=HJ.o.i.c4;have c5:wr.cell? ⟨b5,0,none⟩=some (.int .i64 z):=by rw [Lib.cell_of_heap HJ.o.i.c5];rfl
   have f5:wr.frozen? ⟨b5,0,none⟩=false:=by simp only [World.frozen?,HJ.o.i.c5];rfl
   have c2:=HJ.o.box.c 2 _ rfl;have eX:=HJ.o.box.lt;have nn:Hd (∀o,(wr.alloc o).cell? ⟨b4,0,none⟩=some (.map (some bm))):=fun o=>by rw [World.cell?_alloc_past _ _ _ (World.block_lt_of_cell? _ _ c4)];exact c4
   have dX:Below wr.heap.size wr (wr.alloc (.cells #[] 114)):=bA;have d4:(wr.alloc (.cells #[] 114)).cell? ⟨b4,0,none⟩=some (.map (some bm)):=nn.o _;have e5:(wr.alloc (.cells #[] 114)).heap[b5]?=some (.cells #[.int .i64 z] 3 (0,0)):=(dX.block _ HJ.o.i.lt.2.1).trans HJ.o.i.c5;have d5:(wr.alloc (.cells #[] 114)).cell? ⟨b5,0,none⟩=some (.int .i64 z):=by rw [Lib.cell_of_heap e5];rfl
   have g5:(wr.alloc (.cells #[] 114)).frozen? ⟨b5,0,none⟩=false:=by simp only [World.frozen?,e5];rfl
   have d2:(wr.alloc (.cells #[] 114)).cell? ⟨W.heap.size,2,none⟩=some (.int .i64 a.at_):=(HJ.o.box.below dX).c 2 _ rfl;clear ao hr aD fT cb4 dX e5;cases hi:FA (met++l.take j) r with
   |true=>
    have gq:Hd (Maps.has D (.int .i64 r)=true):=(dA.o r).trans hi;obtain⟨cj,js⟩:=Q8 HJ.o.clash HR.o hi;have np:=AA cj;have oR:=AA js;clear hi cj js
    go_wp2_with (first
     |(at_lookup;refine wpList_lookup_own_unit _ rfl _ _ 113 rfl 3 114 I4 underlying113 (zeroValue114 _) bm _ D rfl aS.o _ _ rfl gu.o ?_;rw [gq.o]))
    go_ret;obtain⟨hu,ju,iw⟩:=HU.o;rw [np.o] at hu iw;rw [oR.o] at ju;simp only [if_true] at iw;have l8:u=false:=hu;subst l8 ju iw;clear hu;exact⟨rfl,HJ.o.i.hit _ _ k (by have h1:=HJ.o.i.len;rw [List.length_append,List.length_take] at *;omega),(HJ.o.grown.trans (BR.alloc _ _ _)).trans (.of_grown (AG _ _ _ _) (fun b e=>by cases e;exact .inl rfl))⟩
   |false=>
    have gq:Hd (Maps.has D (.int .i64 r)=false):=(dA.o r).trans hi;have HI:=AA hi;clear hi
    go_wp2_with (first
     |(at_lookup;refine wpList_lookup_own_unit _ rfl _ _ 113 rfl 3 114 I4 underlying113 (zeroValue114 _) bm _ D rfl aS.o _ _ rfl gu.o ?_;rw [gq.o])
     |(at_mapUpdate;refine wpList_mapUpdate_own _ rfl _ _ _ 113 rfl 3 114 I4 underlying113 unitElem bm _ D rfl (aS.o.alloc _) (by unfold maxLen;have:=HJ.o.i.len;omega) _ _ _ rfl rfl gu.o _ [] unitElem_mk ?_;intro w5 aF jg;have jG:=AA aF;have fA:=AA jg;clear aF jg))
    go_roundw
    case rel=>exact⟨j+1,by omega,by go_num,HJ.o.add HR.o HI.o (by omega) jG.o dA.o aS.o.isMap fA.o ej eX⟩
    case measure=>simp [intOf];omega
  ·have pM:j=l.length:=by omega
   subst pM;go_wp2_with fail;go_ret;have cj:=HJ.o.clash;rw [List.take_length] at cj;obtain⟨hu,ju,iw⟩:=HU.o;rw [cj] at hu iw;rw [L7 _ _ cj] at ju;have hi:=HJ.o.i;rw [List.take_length] at hi;have l8:u=true:=hu;have cy:zt=z:=iw;subst l8 ju cy;exact⟨rfl,⟨hi.c4,hi.c5,hi.m,by show (met++l).length+50 * k≤1000000;rw [List.length_append];omega,hi.n45,hi.n4m,hi.n5m⟩,HJ.o.grown⟩
theorem RS{w0:World}{b4 b5 bm:Nat}(h5:w0.heap.size≤b5)(hm:w0.heap.size≤bm):Vz w0 (Lo b5 bm) 61 #[.pointer (some ⟨b4,0,none⟩),.pointer (some ⟨b5,0,none⟩)] (NS b4 b5 bm) (fun a=>AH.Own w0 a∧CB a) BJ:=⟨fun args w=>call61 args w,fun b h=>by rcases h with rfl|rfl<;>assumption,fun b h k s W hi=>by rcases h with rfl|rfl;exact hi.lt.2.1;exact hi.lt.2.2,fun k s W W' hi hb=>hi.below hb,fun k s W hi=>hi.less,fun k a s W ho hW hi=>PH ho.1 ho.2 hW h5 hm hi⟩
def J8(r:Option Int)(e:Ending):Prop:=
 match r with
 |none=>e=.returned (.tuple #[.int .i64 0,.bool true])
 |some z=>e=.returned (.tuple #[.int .i64 z,.bool false])
theorem Ng(W:World)(k:Nat)(hk:50 * k≤1000000):NS (W.heap.size+1) (W.heap.size+2) W.heap.size k ([],0) (((W.alloc (.map #[] 0)).alloc (.cells #[.map (some W.heap.size)] 113)).alloc (.cells #[.int .i64 0] 3)):=by have e0:=World.ownsMap_made (H:=Unit) W prog 3 unitElem;have e1:=heap_alloc_new (W.alloc (.map #[] 0)) (.cells #[.map (some W.heap.size)] 113);have e2:=heap_alloc_new ((W.alloc (.map #[] 0)).alloc (.cells #[.map (some W.heap.size)] 113)) (.cells #[.int .i64 0] 3);simp only [World.size_alloc] at e1 e2;refine⟨?_,e2,⟨.map [],(e0.alloc _).alloc _,Rw⟩,by simpa using hk,by omega,by omega,by omega⟩;rw [Below.heap_alloc _ _ _ (by simp)];exact e1
theorem Pu(t:PA):AD.nodes (PA.er t)=(AD.nodes t).map AH.plain:=by refine AD.ind (P:=fun(t:PA)=>AD.nodes (PA.er t)=(AD.nodes t).map AH.plain) (fun a l ih=>?_) t;rw [PA.er_node,AD.nodes_node,AD.nodes_node,List.map_cons,List.map_flatten,List.map_map,List.map_map];congr 2;exact List.map_congr_left (fun t ht=>ih t ht)
theorem Pv{w:World}{t:PA}(h:LA.lies w t):∀x∈AD.nodes t,AH.Own w x:=by
 revert h;refine AD.ind (P:=fun(t:PA)=>LA.lies w t→∀x∈AD.nodes t,AH.Own w x) (fun a l ih h x hx=>?_) t;have hn:=Cb h;rw [AD.nodes_node,List.mem_cons,List.mem_flatten] at hx;rcases hx with rfl|⟨m,hm,hx⟩
 ·exact hn.own
 ·obtain⟨u,hu,rfl⟩:=List.mem_map.1 hm;exact ih u hu (hn.each u hu) x hx
theorem ED{w:World}{t:PA}(hl:LA.lies w t)(hs:A5 t)(aL:t.size≤1000):Calls prog 36 #[An t.head] w fun e w'=>J8 (EC (PA.er t)) e∧Below w.heap.size w w':=by
 obtain⟨a,l,rfl⟩:∃a l,t=AD.node a l:=⟨t.head,t.kids,AD.eta t⟩;have HL:=AA hl;have HS:=AA hs;have iO:=@run_makeMap prog;have aM:=AA (Ah w a);obtain⟨u,⟨mt,zt⟩,fj⟩:∃u m,AN BJ (AX [AD.node a l]) ([],0)=(u,m):=⟨_,_,rfl⟩;have au:=AA fj;have hN:AX [AD.node a l]=AD.nodes (AD.node a l):=by simp [AX]
 have gh:Hd (J8 (EC (PA.er (AD.node a l))) (.returned (.tuple #[.int .i64 zt,.bool u]))):=by
  have h1:=Ja (AX [AD.node a l]) [] 0;rw [fj] at h1;have h2:EC (PA.er (AD.node a l))=GB ((AX [AD.node a l]).map AH.plain) []:=by unfold EC;rw [hN];congr 1;exact Pu _
  show J8 _ _;rw [h2,h1.1];cases u with
  |true=>have h3:=h1.2 rfl;have h4:zt=0:=h3;subst h4;rfl
  |false=>rfl
 have nU:(AX [AD.node a l]).length≤1000:=by rw [hN,Df];exact aL
 have kr:=AA (Ng (w.alloc (AO a)) (0+(AX [AD.node a l]).length) (by omega));clear hl hs fj hN;have kr:Hd (NS (w.heap.size+1+1) (w.heap.size+1+1+1) (w.heap.size+1) (0+(AX [AD.node a l]).length) ([],0) ((((w.alloc (AO a)).alloc (.map #[] 0)).alloc (.cells #[.map (some (w.heap.size+1))] 113)).alloc (.cells #[.int .i64 0] 3))):=by have h:=kr.o;simp only [World.size_alloc] at h;exact h
 have nV:∀x∈AX [AD.node a l],AH.Own w x∧CB x:=fun x hx=>by
  have eH:x∈AD.nodes (AD.node a l):=by simpa [AX] using hx
  exact⟨Pv HL.o x eH,HS.o x eH⟩
 have oW:=AA nV;clear nV;show Calls prog 36 #[An a] w _;go_enter func36,ntmps36;go_upto_region 3 with fail;have aT:Hd (Below w.heap.size w ((((w.alloc (AO a)).alloc (.map #[] 0)).alloc (.cells #[.map (some (w.heap.size+1))] 113)).alloc (.cells #[.int .i64 0] 3))):=(((((Below.refl w.heap.size w).alloc (Nat.le_refl _) _).alloc (by simp only [World.size_alloc];omega) _).alloc (by simp only [World.size_alloc];omega) _).alloc (by simp only [World.size_alloc];omega) _);have kx:Hd (CW ((((w.alloc (AO a)).alloc (.map #[] 0)).alloc (.cells #[.map (some (w.heap.size+1))] 113)).alloc (.cells #[.int .i64 0] 3)) w.heap.size a):=aM.o.below ((bA.alloc (by simp only [World.size_alloc];omega) _).alloc (by simp only [World.size_alloc];omega) _);have pc:((((w.alloc (AO a)).alloc (.map #[] 0)).alloc (.cells #[.map (some (w.heap.size+1))] 113)).alloc (.cells #[.int .i64 0] 3)).heap.size=w.heap.size+4:=by simp
 generalize ((((w.alloc (AO a)).alloc (.map #[] 0)).alloc (.cells #[.map (some (w.heap.size+1))] 113)).alloc (.cells #[.int .i64 0] 3))=W3 at *
 have mn:U2 w (W3.alloc (AO a)) (Lo (w.heap.size+1+1+1) (w.heap.size+1)) (some ⟨W3.heap.size,0,none⟩) 1 1 [AD.node a l]:=⟨AW Et (by omega) W3 31 [AD.node a l] 1 _ rfl rfl (by decide),fun _ ad hp hr=>by cases hp;rcases hr with hr|hr<;>(dsimp only at hr;omega),fun t ht=>by rw [List.mem_singleton] at ht;subst ht;exact HL.o⟩;have fa:=AA mn;clear mn aM pc
 go_wp2_with (first
  |(refine lw kx.o.blk underlying31 ?_))
 go_at_call 59;refine(Ji (RS (b4:=w.heap.size+1+1) (by omega) (by omega)) [AD.node a l] 0 _ 1 1 _ fa.o oW.o ([],0) (aT.o.alloc aT.o.size _) (kr.o.below bA)).mono ?_;rw [au.o];rintro e w5 ⟨rfl,nH,fx⟩;have c5:w5.cell? ⟨w.heap.size+1+1+1,0,none⟩=some (.int .i64 zt):=by rw [Lib.cell_of_heap nH.c5];rfl
 have bJ:=AA (FV (aT.o.alloc aT.o.size (AO a)) fx (aT.o.alloc aT.o.size _).size (fun k h=>by rcases h with rfl|rfl<;>omega));clear nH fx;go_wp2_with fail;go_ret2;exact⟨gh.o,bJ.o⟩
theorem SP(h:BY)(n:Nat)(hb:Da h n=true):0≤h.at_:=by
 unfold Da at hb;split at hb
 ·simp only [Bool.and_eq_true,decide_eq_true_eq] at hb;exact hb.1.2
 ·split at hb
  ·simp only [Bool.and_eq_true,decide_eq_true_eq] at hb;exact hb.1.2
  ·unfold Bp at hb;simp only [Bool.and_eq_true,Bool.not_eq_true',Bool.or_eq_false_iff,decide_eq_false_iff_not] at hb;have:=hb.1.1.1.2;omega
theorem Ri{a:AH}(h:Cs a=true):0≤a.at_:=by unfold Cs at h;simp only [Bool.and_eq_true,Bool.not_eq_true',Bool.or_eq_false_iff,Bool.not_eq_false'] at h;exact SP a.hd a.kn h.1.1.1.1.1.1.1.1
theorem GL{w:World}(t:PA):LA.lies w t→A5 t→Ep t=true→Fp (PA.er t):=by
 refine AD.ind (P:=fun(t:PA)=>LA.lies w t→A5 t→Ep t=true→Fp (PA.er t)) (fun a l ih hl hs hm=>?_) t;have hn:=Cb hl;unfold Ep at hm;rw [List.all_eq_true] at hm
 have ck:∀x∈AD.nodes (AD.node a l),x=a∨∃t∈l,x∈AD.nodes t:=fun x hx=>by
  rw [AD.nodes_node,List.mem_cons,List.mem_flatten] at hx;rcases hx with h|⟨m,hm,hx⟩
  ·exact .inl h
  ·obtain⟨u,hu,rfl⟩:=List.mem_map.1 hm;exact .inr ⟨u,hu,hx⟩
 have j0:∀t∈l,∀x∈AD.nodes t,x∈AD.nodes (AD.node a l):=fun t ht x hx=>by rw [AD.nodes_node,List.mem_cons,List.mem_flatten];exact .inr ⟨_,List.mem_map_of_mem ht,hx⟩
 have ha:a∈AD.nodes (AD.node a l):=by rw [AD.nodes_node];exact List.mem_cons_self
 have h0:=hm a ha;have hk:=UZ h0 hn.own.rhos.len;have iu:=hs a ha;rw [PA.er_node];refine .node _ _ ⟨hk.k1,hk.k18,?_,hk.rho,hk.rhos,hk.eff,iu.eff,hk.ty,hk.res,iu.ty,iu.res,iu.exn,Ri h0⟩ (fun t ht=>?_)
 ·rw [List.length_map,hn.kids.len];exact hk.kids
 ·obtain⟨u,hu,rfl⟩:=List.mem_map.1 ht;exact ih u hu (hn.each u hu) (fun x hx=>hs x (j0 u hu x hx)) (by unfold Ep;rw [List.all_eq_true];exact fun x hx=>hm x (j0 u hu x hx))
structure O6(w:World)(a:AH)(W:World):Prop where
 box:CW W w.heap.size a
 o:∃cs:Array Value,cs.size=4∧W.heap[w.heap.size+1]?=some (.cells cs 28 (0,0))
 m:∃v,W.heap[w.heap.size+1+1]?=some (.cells #[v] 25 (0,0))
 at_:∃v,W.heap[w.heap.size+1+1+1]?=some (.cells #[v] 3 (0,0))
 e:∃v,W.heap[w.heap.size+1+1+1+1]?=some (.cells #[v] 34 (0,0))
 below:Below w.heap.size w W
 size:w.heap.size+5≤W.heap.size
theorem O6.step{w W W':World}{a:AH}(h:O6 w a W)(hb:Below W.heap.size W W'):O6 w a W':=by obtain⟨cs,h1,h2⟩:=h.o;obtain⟨v2,h3⟩:=h.m;obtain⟨v3,h4⟩:=h.at_;obtain⟨v4,h5⟩:=h.e;exact⟨h.box.below hb,⟨cs,h1,(hb.block _ (AV h2)).trans h2⟩,⟨v2,(hb.block _ (AV h3)).trans h3⟩,⟨v3,(hb.block _ (AV h4)).trans h4⟩,⟨v4,(hb.block _ (AV h5)).trans h5⟩,h.below.trans (hb.mono h.below.size),Nat.le_trans h.size hb.size⟩
structure Vt(w:World)(a:AH)(cs:Array Value)(v2 v3 v4:Value)(W:World):Prop where
 o:W.heap[w.heap.size+1]?=some (.cells cs 28 (0,0))
 m:W.heap[w.heap.size+1+1]?=some (.cells #[v2] 25 (0,0))
 at_:W.heap[w.heap.size+1+1+1]?=some (.cells #[v3] 3 (0,0))
 e:W.heap[w.heap.size+1+1+1+1]?=some (.cells #[v4] 34 (0,0))
 below:Below w.heap.size w W
theorem O6.w1{w W:World}{a:AH}(h:O6 w a W){cs:Array Value}(hc:cs.size=4):O6 w a (W.setRow (w.heap.size+1) cs):=by obtain⟨cs',h1,h2⟩:=h.o;obtain⟨v2,h3⟩:=h.m;obtain⟨v3,h4⟩:=h.at_;obtain⟨v4,h5⟩:=h.e;exact⟨⟨(setRow_other _ _ _ _ (by omega)).trans h.box.blk⟩,⟨cs,hc,setRow_heap _ _ _ _ _ _ h2⟩,⟨v2,(setRow_other _ _ _ _ (by omega)).trans h3⟩,⟨v3,(setRow_other _ _ _ _ (by omega)).trans h4⟩,⟨v4,(setRow_other _ _ _ _ (by omega)).trans h5⟩,h.below.grown BP h.below.size (fun k e=>by cases e;omega),by have:=h.size;simpa using this⟩
theorem O6.wset{w W:World}{a:AH}(h:O6 w a W){b:Nat}(hb:b=w.heap.size+1+1∨b=w.heap.size+1+1+1∨b=w.heap.size+1+1+1+1)(v:Value):O6 w a (W.setCell ⟨b,0,none⟩ v):=by
 obtain⟨cs,h1,h2⟩:=h.o;obtain⟨v2,h3⟩:=h.m;obtain⟨v3,h4⟩:=h.at_;obtain⟨v4,h5⟩:=h.e;have hg:=AG W b 0 v;have aL:=h.size;have ot:∀{k:Nat} {o:Obj},W.heap[k]?=some o→k≠b→(W.setCell ⟨b,0,none⟩ v).heap[k]?=some o:=fun {k o} hk aR=>(hg.block k (AV hk) (fun e=>aR (by injection e))).trans hk;refine⟨⟨ot h.box.blk (by omega)⟩,⟨cs,h1,ot h2 (by omega)⟩,?_,?_,?_,h.below.grown hg h.below.size (fun k e=>by cases e;omega),Nat.le_trans h.size hg.size⟩
 ·by_cases e:b=w.heap.size+1+1
  ·subst e;exact⟨v,AK v h3⟩
  ·exact⟨v2,ot h3 (fun h=>e h.symm)⟩
 ·by_cases e:b=w.heap.size+1+1+1
  ·subst e;exact⟨v,AK v h4⟩
  ·exact⟨v3,ot h4 (fun h=>e h.symm)⟩
 ·by_cases e:b=w.heap.size+1+1+1+1
  ·subst e;exact⟨v,AK v h5⟩
  ·exact⟨v4,ot h5 (fun h=>e h.symm)⟩
theorem O6.fill{w W:World}{a:AH}(h:O6 w a W){cs:Array Value}(hc:cs.size=4)(v2 v3 v4:Value):Vt w a cs v2 v3 v4 ((((W.setRow (w.heap.size+1) cs).setCell ⟨w.heap.size+1+1,0,none⟩ v2).setCell ⟨w.heap.size+1+1+1,0,none⟩ v3).setCell ⟨w.heap.size+1+1+1+1,0,none⟩ v4):=by have iR:=h.w1 hc;obtain⟨cs',h1,h2⟩:=h.o;have e1:(W.setRow (w.heap.size+1) cs).heap[w.heap.size+1]?=some (.cells cs 28 (0,0)):=setRow_heap _ _ _ _ _ _ h2;have ot:∀{W:World} {b k:Nat} {v:Value} {o:Obj},W.heap[k]?=some o→k≠b→(W.setCell ⟨b,0,none⟩ v).heap[k]?=some o:=fun {W b k v o} hk aR=>((AG W b 0 v).block k (AV hk) (fun e=>aR (by injection e))).trans hk;obtain⟨u2,f2⟩:=iR.m;have kJ:=iR.wset (b:=w.heap.size+1+1) (.inl rfl) v2;have e2:=AK (o:=0) v2 f2;obtain⟨u3,f3⟩:=kJ.at_;have nh:=kJ.wset (b:=w.heap.size+1+1+1) (.inr (.inl rfl)) v3;have e3:=AK (o:=0) v3 f3;obtain⟨u4,f4⟩:=nh.e;have pi:=nh.wset (b:=w.heap.size+1+1+1+1) (.inr (.inr rfl)) v4;have e4:=AK (o:=0) v4 f4;exact⟨ot (ot (ot e1 (by omega)) (by omega)) (by omega),ot (ot e2 (by omega)) (by omega),ot e3 (by omega),e4,pi.below⟩
theorem Ie{P:Program}{ops:Array Oper}{o:Oper}{act:Act}{K:Act→World→Prop}{Q:Exit→Act→World→Prop}{E:Prop}(bG:o.guard=none)(ty:TypeId)(x y:Operand)(ho:o.op=.store ty x y){W:World}{g:Nat}(h:∃cs:Array Value,cs.size=4∧W.heap[g]?=some (.cells cs 28 (0,0)))(cells:Array Value)(hx:act.eval x=.pointer (some ⟨g,0,none⟩))(hy:act.eval y=.agg cells)(h4:cells.size=4)(h1:cells.all (·.oneCell')=true)(hi:(P.info? ty).map (·.size)=some 4)(hK:K (act.put o.dst undef) (W.setRow g cells)):if Region.wanted o (yielded ops act.tmps)=true then Oper.wp P o act W K Q else E:=by obtain⟨cs,e1,e2⟩:=h;rw [if_pos (by simp [Region.wanted,bG])];exact wp_store_row ty x y ho g cells hx hy 28 cs e2 (by rw [hi,h4]) (by omega) h1 hK
theorem Ea{W:World}{g:Nat}{v:Value}{t:TypeId}(h:W.heap[g]?=some (.cells #[v] t (0,0))):W.cell? ⟨g,0,none⟩=some v∧W.frozen? ⟨g,0,none⟩=false:=⟨by rw [Lib.cell_of_heap h];rfl,by simp only [World.frozen?,h];rfl⟩
structure SD(w:World)(a:AH)(g:Nat)(z no:Int)(W:World):Prop where
 ch:O6 w a W
 t:W.heap[g]?=some (.cells #[.int .i64 z,.int .i64 no] 79 (0,0))
 g5:w.heap.size+5≤g
theorem SD.drew{w W:World}{a:AH}{g:Nat}{z no:Int}(h:SD w a g z no W):SD w a g z no W.drew:=⟨h.ch.step (AR W),h.t,h.g5⟩
theorem SD.w1{w W:World}{a:AH}{g:Nat}{z no:Int}(h:SD w a g z no W){cs:Array Value}(hc:cs.size=4):SD w a g z no (W.setRow (w.heap.size+1) cs):=⟨h.ch.w1 hc,(setRow_other _ _ _ _ (by have:=h.g5;omega)).trans h.t,h.g5⟩
theorem SD.set{w W:World}{a:AH}{g:Nat}{z no:Int}(h:SD w a g z no W){b:Nat}(hb:b=w.heap.size+1+1∨b=w.heap.size+1+1+1∨b=w.heap.size+1+1+1+1)(v:Value):SD w a g z no (W.setCell ⟨b,0,none⟩ v):=⟨h.ch.wset hb v,((AG W b 0 v).block _ (AV h.t) (fun e=>by have:=h.g5;injection e with e;omega)).trans h.t,h.g5⟩
theorem MW(z no:Int)(W:World):Sem.run prog (Instr.typeAssert (IB z no) 20 79 true) W=.ok (.tuple #[.agg #[.int .i64 z,.int .i64 no],.bool true]) W:=by simp [Instr.typeAssert,run_underlying underlying79,typeInfo]
theorem Md{w:World}{a:AH}{z no:Int}(older:List PanicEntry){W:World}(h:O6 w a W) :
 CallsD prog 37 #[.pointer (some ⟨w.heap.size+1,0,none⟩),.pointer (some ⟨w.heap.size+1+1,0,none⟩),.pointer (some ⟨w.heap.size+1+1+1,0,none⟩),.pointer (some ⟨w.heap.size+1+1+1+1,0,none⟩)] (.panicking ({ v:=IB z no,recovered:=false }::older)) W fun e u' w'=>e=.returned (.tuple #[])∧u'=.panicking ({ v:=IB z no,recovered:=true }::older)∧Vt w a #[.int .u8 0,.int .i64 0,.slice none 0 0,.slice none 0 0] (.slice none 0 0) (.int .i64 z) (.int .i64 no) w':=by
 have qG:=MW z no
 have HH:=AA h
 have bd:=AA (heap_alloc_new W (.cells #[.int .i64 0,.int .i64 0] 79))
 have HT:Hd (SD w a W.heap.size z no (W.alloc (.cells #[.int .i64 z,.int .i64 no] 79))):=⟨h.step bA,heap_alloc_new W _,h.size⟩
 clear h
 refine callsD_of_wpS func37 rfl fun c₀ cs hu=>?_
 apply wpS_seq
 apply wpS_region
 simp [wpOpsS,go_sem,recoverD,hu,ntmps37,Exit.thenS]
 refine wpS_of_wp ?_
 simp only [List.size_toArray,List.length_cons,List.length_nil,Nat.reduceAdd,Nat.reduceSub,Array.replicate_succ,Array.replicate_zero,List.push_toArray,List.append_toArray,List.nil_append,List.cons_append,zA,zB,zC]
 go_upto_region 7 with fail
 obtain⟨g,hg⟩:∃g,W.heap.size=g:=⟨_,rfl⟩
 rw [hg] at HT ⊢
 generalize (W.alloc (.cells #[.int .i64 z,.int .i64 no] 79))=W2 at *
 clear hg bd HH
 refine rg (fun W'=>SD w a g z no W') (HT.o.drew) fun aA=>?_
 refine tp 0 13 ?_
 refine tp 1 14 ?_
 refine tp 2 15 ?_ (hy:=fun w aC=>by(try dsimp only at aC);have q0:w.cell? ⟨g,0,none⟩=some (.int .i64 z):=(by rw [Lib.cell_of_heap aC.t];rfl);go_simp;try with_reducible rfl)
 refine tp 3 16 ?_
 refine tp 4 17 ?_ (hy:=fun w aC=>by(try dsimp only at aC);have q1:w.cell? ⟨g,1,none⟩=some (.int .i64 no):=(by rw [Lib.cell_of_heap aC.t];rfl);go_simp;try with_reducible rfl)
 refine DH 5 fun K hK=>?_
 refine Ie (by rfl) _ _ _ (by rfl) aA.ch.o #[.int .u8 0,.int .i64 0,.slice none 0 0,.slice none 0 0] (by rfl) (by rfl) rfl (by simp [Value.oneCell']) (by kernel_rfl) ?_
 refine tn hK (aA.w1 rfl) ?_;clear aA hK K;intro aA
 refine DH 6 fun K hK=>?_
 obtain⟨v2,gD⟩:=aA.ch.m
 obtain⟨q2,f2⟩:=Ea gD
 clear gD
 go_simp
 clear q2 f2
 refine tn hK (aA.set (.inl rfl) _) ?_;clear aA hK K;intro aA
 refine DH 7 fun K hK=>?_
 obtain⟨v3,kG⟩:=aA.ch.at_
 obtain⟨q3,f3⟩:=Ea kG
 clear kG
 go_simp
 clear q3 f3
 refine tn hK (aA.set (.inr (.inl rfl)) _) ?_;clear aA hK K;intro aA
 refine DH 8 fun K hK=>?_
 obtain⟨v4,kH⟩:=aA.ch.e
 obtain⟨q4,f4⟩:=Ea kH
 clear kH
 go_simp
 clear q4 f4
 refine tn hK (aA.set (.inr (.inr rfl)) _) ?_;clear aA hK K;intro aA
 refine dn ?_
 clear aA
 simp only [Exit.inBlock]
 refine(show bodyPostS prog f37 c₀ _ _ Exit.normal _ _ _ from ?_)
 cases c₀
 simp [bodyPostS,results,results37]
 exact HT.o.drew.ch.fill rfl _ _ _
theorem Np(args:Array Value)(h4:∃a b c d,args=#[a,b,c,d])(W:World):CallsD prog 37 args .returning W fun e u' w'=>e=.returned (.tuple #[])∧u'=.returning∧w'=W:=by obtain⟨x1,x2,x3,x4,rfl⟩:=h4;refine callsD_of_wpS func37 rfl fun c₀ cs hu=>?_;apply wpS_seq;apply wpS_region;simp [wpOpsS,go_sem,recoverD,hu,ntmps37,Exit.thenS];refine wpS_of_wp ?_;simp only [List.size_toArray,List.length_cons,List.length_nil,Nat.reduceAdd,Nat.reduceSub,Array.replicate_succ,Array.replicate_zero,List.push_toArray,List.append_toArray,List.nil_append,List.cons_append,zA,zB,zC];go_wp2_with fail;cases c₀;simp_all [bodyPostS,results,results37]
theorem Sz{w0 w:World}{S:Nat→Prop}{a:AH}{p q r:Option Addr}{n c m mc rn rc:Nat}{env:List BV}{rhos:List Int}{acc:List RV}{i:Int}(hE:Cn w0 w S p n c env)(hq:AF Am 1 w q m mc rhos)(ha:AH.Own w a)(bo:AH.Own w0 a)(hS:∀b,w.heap.size≤b→S b)(bY:∀b∈Ao a.ty,S b)(hn:n≤900000)(hm:m≤900000)(hk:a.kind=11):Calls prog 98 #[.agg #[.slice p n c,.slice q m mc],An a,.int .i64 i,.slice r rn rc] w (KA w0 w S n m (Ai (Ck env) a.plain i.toNat (BM acc)) (Aq rhos a.plain i.toNat)):=by
 have HX:=AA (EO w a (.slice p n c) (.slice q m mc));have HE:=AA hE;have HQ:=AA hq;have HA:=AA ha;have cR:=AA bo;have HS:=AA hS;have HT:=AA bY;have bE:=HX.o.b.b1.c 0 _ rfl;have e11:(a.kind==11)=true:=by simp [hk]
 have aq:Hd (Ai (Ck env) a.plain i.toNat (BM acc)=Ck env++[⟨a.arg,a.ty.er,none⟩]):=by show _=_;unfold Ai;simp [show a.plain.kind=11 from hk];try first|rfl|exact⟨rfl,rfl⟩
 have cI:Hd (Aq rhos a.plain i.toNat=rhos):=by show _=_;unfold Aq;simp [show a.plain.kind=11 from hk]
 rw [aq.o,cI.o];clear hE hq ha bo hS bY hk;have kX:=HX.o.b.b1.c 5 _ rfl;go_enter func98,ntmps98;go_upto_region 2 with fail;generalize (((w.alloc (.cells #[.slice p n c,.slice q m mc] 84)).alloc (AO a)).alloc (.cells #[.slice none 0 0,.slice none 0 0] 84))=W1 at *
 go_wp2_with (first
  |(refine lw HX.o.b.b0 underlying84 ?_)
  |(refine l4 a.ty (BO HX.o.b.b1 10 4 rfl) underlying28 ?_))
 refine(CG (HE.o.row.below (AQ HX.o.below _)) q m mc (AW Do (by omega) W1 145 [⟨a.arg,a.ty,none⟩] 1 _ rfl rfl (by decide)) (by omega)).mono ?_;rintro e w2 ⟨p',c',rfl,aB,hb,bh⟩;have aV:=AA (HX.o.step (AL (AQ (Below.refl _ _) _) hb));have bK:=AA aB;have dt:=AA bh;clear aB bh;go_wp2_with (refine wpList_store_row rfl 84 _ _ rfl (w.heap.size+2) #[.slice p' (n+1) c',.slice q m mc] rfl rfl 84 _ aV.o.res.choose_spec.2 (by kernel_rfl) (by rw [aV.o.res.choose_spec.1];rfl) (by simp [Value.oneCell']) ?_);refine br (aV.o.heap _) underlying84 ?_;refine E5 aV.o HS.o bK.o (fun _ ad hp=>?_) (fun z hz=>?_) (by simp [Ck,BV.er]) (HQ.o.below aV.o.below) (fun hl ad hp=>?_) (by omega) (by omega)
 ·rcases dt.o with⟨h1,_⟩|h1
  ·cases h1
  ·have h2:=h1 ad hp;have h3:=HX.o.size;simp at h2;omega
 ·rcases List.mem_append.1 hz with hz|hz
  ·have ho:=(HE.o.each z hz);refine⟨(ho.below aV.o.below).weak (fun x hx=>.inl ⟨Aa _ ho.ty x hx,ho.uses x hx⟩),fun a' g e=>?_⟩;have:=(ho.fn a' g e).2.2;omega
  ·rw [List.mem_singleton] at hz;subst hz;exact⟨⟨LR.lies_below aV.o.below _ HA.o.ty,fun x hx=>.inl ⟨Aa _ HA.o.ty x hx,HT.o x hx⟩,fun a' g e=>(nomatch e),HA.o.arg⟩,fun a' g e=>(nomatch e)⟩
 ·have:=BD HQ.o.row hl hp;omega
theorem Mp{w0 w:World}{S:Nat→Prop}{a:AH}{p q r:Option Addr}{n c m mc rn rc:Nat}{env:List BV}{rhos:List Int}{acc:List RV}{i:Int}(hE:Cn w0 w S p n c env)(hq:AF Am 1 w q m mc rhos)(ha:AH.Own w a)(bo:AH.Own w0 a)(hS:∀b,w.heap.size≤b→S b)(bY:∀b∈Ao a.ty,S b)(hn:n≤900000)(hm:m≤900000)(hk:a.kind=16)(hi:i=1):Calls prog 98 #[.agg #[.slice p n c,.slice q m mc],An a,.int .i64 i,.slice r rn rc] w (KA w0 w S n m (Ai (Ck env) a.plain i.toNat (BM acc)) (Aq rhos a.plain i.toNat)):=by
 have HX:=AA (EO w a (.slice p n c) (.slice q m mc));have HE:=AA hE;have HQ:=AA hq;have HA:=AA ha;have cR:=AA bo;have HS:=AA hS;have HT:=AA bY;have bE:=HX.o.b.b1.c 0 _ rfl;have e11:(a.kind==11)=false:=by simp [hk]
 have e12:(a.kind==12)=false:=by simp [hk]
 have e13:(a.kind==13)=false:=by simp [hk]
 have e16:(a.kind==16)=true:=by simp [hk]
 have aq:Hd (Ai (Ck env) a.plain i.toNat (BM acc)=Ck env++[⟨a.arg,Fi,none⟩]):=by show _=_;unfold Ai;simp [show a.plain.kind=16 from hk,hi];try first|rfl|exact⟨rfl,rfl⟩
 have cI:Hd (Aq rhos a.plain i.toNat=rhos):=by show _=_;unfold Aq;simp [show a.plain.kind=16 from hk,hi]
 rw [aq.o,cI.o];clear hE hq ha bo hS bY hk;subst hi;have kX:=HX.o.b.b1.c 5 _ rfl;go_enter func98,ntmps98;go_upto_region 10 with fail;generalize (((w.alloc (.cells #[.slice p n c,.slice q m mc] 84)).alloc (AO a)).alloc (.cells #[.slice none 0 0,.slice none 0 0] 84))=W1 at *
 go_wp2_with (first
  |(refine lw HX.o.b.b0 underlying84 ?_)
  |(refine l4 a.ty (BO HX.o.b.b1 10 4 rfl) underlying28 ?_))
 refine(CG (HE.o.row.below (AQ HX.o.below _)) q m mc (AW Do (by omega) W1 145 [⟨a.arg,(.node ⟨1,0,none,0,0,[],none,0,0⟩ []),none⟩] 1 _ rfl rfl (by decide)) (by omega)).mono ?_;rintro e w2 ⟨p',c',rfl,aB,hb,bh⟩;have aV:=AA (HX.o.step (AL (AQ (Below.refl _ _) _) hb));have bK:=AA aB;have dt:=AA bh;clear aB bh;go_wp2_with (refine wpList_store_row rfl 84 _ _ rfl (w.heap.size+2) #[.slice p' (n+1) c',.slice q m mc] rfl rfl 84 _ aV.o.res.choose_spec.2 (by kernel_rfl) (by rw [aV.o.res.choose_spec.1];rfl) (by simp [Value.oneCell']) ?_);refine br (aV.o.heap _) underlying84 ?_;refine E5 aV.o HS.o bK.o (fun _ ad hp=>?_) (fun z hz=>?_) (by simp [Ck,BV.er];rfl) (HQ.o.below aV.o.below) (fun hl ad hp=>?_) (by omega) (by omega)
 ·rcases dt.o with⟨h1,_⟩|h1
  ·cases h1
  ·have h2:=h1 ad hp;have h3:=HX.o.size;simp at h2;omega
 ·rcases List.mem_append.1 hz with hz|hz
  ·have ho:=(HE.o.each z hz);refine⟨(ho.below aV.o.below).weak (fun x hx=>.inl ⟨Aa _ ho.ty x hx,ho.uses x hx⟩),fun a' g e=>?_⟩;have:=(ho.fn a' g e).2.2;omega
  ·rw [List.mem_singleton] at hz;subst hz;exact⟨⟨(QZ w2 (Si w S)).1,(QZ w2 (Si w S)).2,fun a' g e=>(nomatch e),HA.o.arg⟩,fun a' g e=>(nomatch e)⟩
 ·have:=BD HQ.o.row hl hp;omega
theorem Mq{w0 w:World}{S:Nat→Prop}{a:AH}{p q r:Option Addr}{n c m mc rn rc:Nat}{env:List BV}{rhos:List Int}{acc:List RV}{i:Int}(hE:Cn w0 w S p n c env)(hq:AF Am 1 w q m mc rhos)(ha:AH.Own w a)(bo:AH.Own w0 a)(hS:∀b,w.heap.size≤b→S b)(bY:∀b∈Ao a.ty,S b)(hn:n≤900000)(hm:m≤900000)(hk:a.kind=13)(nG:0≤i)(hi:i≠0):Calls prog 98 #[.agg #[.slice p n c,.slice q m mc],An a,.int .i64 i,.slice r rn rc] w (KA w0 w S n m (Ai (Ck env) a.plain i.toNat (BM acc)) (Aq rhos a.plain i.toNat)):=by
 have HX:=AA (EO w a (.slice p n c) (.slice q m mc));have HE:=AA hE;have HQ:=AA hq;have HA:=AA ha;have cR:=AA bo;have HS:=AA hS;have HT:=AA bY;have bE:=HX.o.b.b1.c 0 _ rfl;have e11:(a.kind==11)=false:=by simp [hk]
 have e12:(a.kind==12)=false:=by simp [hk]
 have e13:(a.kind==13)=true:=by simp [hk]
 have ei0:(i==0)=false:=by simp [hi]
 have ck:¬i.toNat=0:=by omega
 have aq:Hd (Ai (Ck env) a.plain i.toNat (BM acc)=Ck env++[⟨a.name,A8,some a.plain⟩]):=by show _=_;unfold Ai;simp [show a.plain.kind=13 from hk,ck];try first|rfl|exact⟨rfl,rfl⟩
 have cI:Hd (Aq rhos a.plain i.toNat=rhos):=by show _=_;unfold Aq;simp [show a.plain.kind=13 from hk,ck]
 rw [aq.o,cI.o];clear hE hq ha bo hS bY hk;have kX:=HX.o.b.b1.c 4 _ rfl;go_enter func98,ntmps98;go_upto_region 8 with fail;generalize (((w.alloc (.cells #[.slice p n c,.slice q m mc] 84)).alloc (AO a)).alloc (.cells #[.slice none 0 0,.slice none 0 0] 84))=W1 at *
 go_wp2_with (first
  |(refine lw HX.o.b.b0 underlying84 ?_)
  |(refine l4 a.ty (BO HX.o.b.b1 10 4 rfl) underlying28 ?_))
 refine(CG (HE.o.row.below (AQ HX.o.below _)) q m mc (AW Do (by omega) W1 145 [⟨a.name,(.node ⟨0,0,none,0,0,[],none,0,0⟩ []),some (a,w.heap.size+1)⟩] 1 _ rfl rfl (by decide)) (by omega)).mono ?_;rintro e w2 ⟨p',c',rfl,aB,hb,bh⟩;have aV:=AA (HX.o.step (AL (AQ (Below.refl _ _) _) hb));have bK:=AA aB;have dt:=AA bh;clear aB bh;go_wp2_with (refine wpList_store_row rfl 84 _ _ rfl (w.heap.size+2) #[.slice p' (n+1) c',.slice q m mc] rfl rfl 84 _ aV.o.res.choose_spec.2 (by kernel_rfl) (by rw [aV.o.res.choose_spec.1];rfl) (by simp [Value.oneCell']) ?_);refine br (aV.o.heap _) underlying84 ?_;refine E5 aV.o HS.o bK.o (fun _ ad hp=>?_) (fun z hz=>?_) (by simp [Ck,BV.er];rfl) (HQ.o.below aV.o.below) (fun hl ad hp=>?_) (by omega) (by omega)
 ·rcases dt.o with⟨h1,_⟩|h1
  ·cases h1
  ·have h2:=h1 ad hp;have h3:=HX.o.size;simp at h2;omega
 ·rcases List.mem_append.1 hz with hz|hz
  ·have ho:=(HE.o.each z hz);refine⟨(ho.below aV.o.below).weak (fun x hx=>.inl ⟨Aa _ ho.ty x hx,ho.uses x hx⟩),fun a' g e=>?_⟩;have:=(ho.fn a' g e).2.2;omega
  ·rw [List.mem_singleton] at hz;subst hz;exact⟨⟨(FC w2 (Si w S)).1,(FC w2 (Si w S)).2,fun a' g e=>(by cases e;exact⟨⟨fun i v hv=>aV.o.b.b1.c (0+i) v (by simpa using hv)⟩,cR.o,by have:=aV.o.size;omega⟩),HA.o.name⟩,fun a' g e=>(by cases e;omega)⟩
 ·have:=BD HQ.o.row hl hp;omega
theorem Mr{w0 w:World}{S:Nat→Prop}{a:AH}{p q r:Option Addr}{n c m mc rn rc:Nat}{env:List BV}{rhos:List Int}{acc:List RV}{i:Int}(hE:Cn w0 w S p n c env)(hq:AF Am 1 w q m mc rhos)(ha:AH.Own w a)(bo:AH.Own w0 a)(hS:∀b,w.heap.size≤b→S b)(bY:∀b∈Ao a.ty,S b)(hn:n≤900000)(hm:m≤900000)(hk:a.kind=17):Calls prog 98 #[.agg #[.slice p n c,.slice q m mc],An a,.int .i64 i,.slice r rn rc] w (KA w0 w S n m (Ai (Ck env) a.plain i.toNat (BM acc)) (Aq rhos a.plain i.toNat)):=by
 have HX:=AA (EO w a (.slice p n c) (.slice q m mc));have HE:=AA hE;have HQ:=AA hq;have HA:=AA ha;have cR:=AA bo;have HS:=AA hS;have HT:=AA bY;have bE:=HX.o.b.b1.c 0 _ rfl;have e11:(a.kind==11)=false:=by simp [hk]
 have e12:(a.kind==12)=false:=by simp [hk]
 have e13:(a.kind==13)=false:=by simp [hk]
 have e16:(a.kind==16)=false:=by simp [hk]
 have e17:(a.kind==17)=true:=by simp [hk]
 have aq:Hd (Ai (Ck env) a.plain i.toNat (BM acc)=Ck env):=by show _=_;unfold Ai;simp [show a.plain.kind=17 from hk]
 have cI:Hd (Aq rhos a.plain i.toNat=rhos++[a.rho]):=by show _=_;unfold Aq;simp [show a.plain.kind=17 from hk];try rfl
 rw [aq.o,cI.o];clear hE hq ha bo hS bY hk;have mw:=HX.o.b.b1.c 7 _ rfl;go_enter func98,ntmps98;go_upto_region 12 with fail;generalize (((w.alloc (.cells #[.slice p n c,.slice q m mc] 84)).alloc (AO a)).alloc (.cells #[.slice none 0 0,.slice none 0 0] 84))=W1 at *
 go_wp2_with (refine lw HX.o.b.b0 underlying84 ?_);refine(Dj (HQ.o.below (AQ HX.o.below _)) p n c (AW Ap (by omega) W1 3 [a.rho] 1 _ rfl rfl (by decide)) (by omega)).mono ?_;rintro e w2 ⟨p',c',rfl,aB,hb,bh⟩;have aV:=AA (HX.o.step (AL (AQ (Below.refl _ _) _) hb));have bK:=AA aB;have dt:=AA bh;clear aB bh;go_wp2_with (refine wpList_store_row rfl 84 _ _ rfl (w.heap.size+2) #[.slice p n c,.slice p' (m+1) c'] rfl rfl 84 _ aV.o.res.choose_spec.2 (by kernel_rfl) (by rw [aV.o.res.choose_spec.1];rfl) (by simp [Value.oneCell']) ?_);refine br (aV.o.heap _) underlying84 ?_;refine E5 aV.o HS.o (HE.o.row.below aV.o.below) (fun hl ad hp=>?_) (fun z hz=>?_) rfl bK.o (fun _ ad hp=>?_) (by omega) (by omega)
 ·have:=BD HE.o.row.row hl hp;omega
 ·have ho:=(HE.o.each z hz);refine⟨(ho.below aV.o.below).weak (fun x hx=>.inl ⟨Aa _ ho.ty x hx,ho.uses x hx⟩),fun a' g e=>?_⟩;have:=(ho.fn a' g e).2.2;omega
 ·rcases dt.o with⟨h1,_⟩|h1
  ·cases h1
  ·have h2:=h1 ad hp;have h3:=HX.o.size;simp at h2;omega
end Go.Proofs.YtkdjnegfnhldpaaGreatDoor
