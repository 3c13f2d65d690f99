/- Part 07. -/
import Derived.Deep.AppendSrc
import Derived.ProofKit
import Derived.OpenShut
import Derived.Deep.Slices
import Derived.Deep.SlicePairs
import Derived.Lib.SmallJoins
import Derived.ChangeOld
import Derived.Test.YtkdjnegfnhldpaaGreatDoorK06
set_option linter.unusedVariables false
set_option maxRecDepth 100000
set_option linter.unusedSimpArgs false
set_option maxHeartbeats 40000000
namespace Go.Proofs.YtkdjnegfnhldpaaGreatDoor
open Go.Proofs.Tryz Go.RowKit
def CK(a:Int):List Int→List Int
 |[]=>[a]
 |b::l=>if Fc a b then a::b::l else b::CK a l
def D4(a:Int)(e:List Int):List Int:=if Du e a then e else CK a e
theorem LQ(a:Int):∀(l:List Int) (x:Int),l.any (Fc a)=true→CK a (l++[x])=CK a l++[x]
 |[],x,h=>by simp at h
 |b::l,x,h=>by
  simp only [List.cons_append,CK];by_cases hb:Fc a b=true
  ·simp [hb]
  ·rw [if_neg hb,if_neg hb,LQ a l x (by simpa [hb] using h)];rfl
theorem JE(a:Int):∀(l:List Int) (x:Int),l.any (Fc a)=false→Fc a x=true→CK a (l++[x])=l++[a,x]
 |[],x,_,hx=>by simp [CK,hx]
 |b::l,x,h,hx=>by simp only [List.any_cons,Bool.or_eq_false_iff] at h;simp only [List.cons_append,CK];rw [if_neg (by simp [h.1]),JE a l x h.2 hx]
theorem KF(a:Int):∀(l:List Int),l.any (Fc a)=false→CK a l=l++[a]
 |[],_=>rfl
 |b::l,h=>by simp only [List.any_cons,Bool.or_eq_false_iff] at h;simp only [CK,List.cons_append];rw [if_neg (by simp [h.1]),KF a l h.2]
theorem GC(a:Int):∀l:List Int,(CK a l).length=l.length+1
 |[]=>rfl
 |b::l=>by
  simp only [CK];split
  ·rfl
  ·simp [GC a l]
def KE(a:Int)(l:List Int):List Int:=if l.any (Fc a) then CK a l else l
theorem Tu(a:Int)(l:List Int)(x:Int)(h:l.any (Fc a)=true):KE a (l++[x])=KE a l++[x]:=by unfold KE;rw [if_pos h,if_pos (by rw [List.any_append,h];rfl),LQ a l x h]
theorem R4(a:Int)(l:List Int)(x:Int)(h:l.any (Fc a)=false)(hx:Fc a x=true):KE a (l++[x])=(KE a l++[a])++[x]:=by
 have e1:(l++[x]).any (Fc a)=true:=by rw [List.any_append];simp [hx]
 unfold KE;rw [if_pos e1,if_neg (by rw [h];exact Bool.false_ne_true),JE a l x h hx];simp
theorem VC(a:Int)(l:List Int)(x:Int)(h:l.any (Fc a)=false)(hx:Fc a x=false):KE a (l++[x])=KE a l++[x]:=by
 have e1:(l++[x]).any (Fc a)=false:=by rw [List.any_append,h];simp [hx]
 unfold KE;rw [if_neg (by rw [e1];exact Bool.false_ne_true),if_neg (by rw [h];exact Bool.false_ne_true)]
theorem IS(a x:Int):∀l:List Int,x∈CK a l↔x=a∨x∈l
 |[]=>by simp [CK]
 |b::l=>by
  unfold CK;by_cases h:Fc a b=true
  ·rw [if_pos h];simp
  ·rw [if_neg h,List.mem_cons,IS a x l,List.mem_cons];constructor
   ·rintro(h|h|h)
    ·exact .inr (.inl h)
    ·exact .inl h
    ·exact .inr (.inr h)
   ·rintro(h|h|h)
    ·exact .inr (.inl h)
    ·exact .inl h
    ·exact .inr (.inr h)
theorem If(a:Int):∀l:List Int,BX Fc l→a∉l→BX Fc (CK a l)
 |[],_,_=>by simp [CK,BX]
 |b::l,hr,hn=>by
  obtain⟨hb,hl⟩:=List.pairwise_cons.1 hr;unfold CK;by_cases h:Fc a b=true
  ·rw [if_pos h];refine List.pairwise_cons.2 ⟨fun x hx=>?_,hr⟩;rcases List.mem_cons.1 hx with rfl|hx
   ·exact h
   ·exact Kp _ _ _ h (hb x hx)
  ·rw [if_neg h];refine List.pairwise_cons.2 ⟨fun x hx=>?_,If a l hl (fun h=>hn (List.mem_cons_of_mem _ h))⟩;rcases (IS a x l).1 hx with rfl|hx
   ·cases e:Fc b x with
    |true=>rfl
    |false=>exact absurd (List.mem_cons.2 (.inl (MB _ _ (by simpa using h) e))) hn
   ·exact hb x hx
theorem Gh(l:List Int)(x:Int):Du l x=true↔x∈l:=by
 unfold Du;rw [List.any_eq_true];constructor
 ·rintro⟨y,hy,h⟩;have:y=x:=by simpa using h
  subst this;exact hy
 ·intro h;exact⟨x,h,by simp⟩
theorem Qg(a x:Int)(l:List Int):x∈D4 a l↔x=a∨x∈l:=by
 unfold D4;by_cases h:Du l a=true
 ·rw [if_pos h];constructor
  ·exact .inr
  ·rintro(rfl|h')
   ·exact(Gh _ _).1 h
   ·exact h'
 ·rw [if_neg h,IS]
theorem Qs(a:Int)(l:List Int)(hr:BX Fc l):BX Fc (D4 a l):=by
 unfold D4;by_cases h:Du l a=true
 ·rw [if_pos h];exact hr
 ·rw [if_neg h];exact If a l hr (fun hm=>h ((Gh l a).2 hm))
theorem FG(a:Int)(l:List Int):(D4 a l).length≤l.length+1:=by
 unfold D4;split
 ·omega
 ·rw [GC];omega
theorem F9:(prog.info? 3).map (fun i=>(i.zero,i.size,i.bytes))=some (some (.int .i64 0),1,8):=by kernel_rfl
theorem Co(y:Int):∀u∈Ab y,u.oneCell'=true:=by intro u hu;simp [Ab] at hu;subst hu;rfl
theorem Cs{p:Option Addr}{n cap:Nat}{l:List Int}{x:Int}{w:World}{r:Bool}(hq:Du l x=r)(h:AE Ab 1 w p n cap l):Calls prog 21 #[.slice p n cap,.int .i64 x] w fun e w'=>e=.returned (.bool r)∧w=w':=by subst hq;exact PO p n cap l x w h.len h.max h.row
theorem GD{p:Option Addr}{n cap:Nat}{l:List Int}{w:World}(hr:AE Ab 1 w p n cap l)(hm:n≤10000000)(a:Int):Calls prog 41 #[.slice p n cap,.int .i64 a] w fun e w'=>∃v p' m c,e=.returned v∧v=.slice p' m c∧AE Ab 1 w' p' m c (D4 a l)∧Below w.heap.size w w':=by
 cases hi:Du l a
 ·have HP:Hd (D4 a l=CK a l):=by show _=_;unfold D4;rw [hi];rfl
  have HI:=AA hi;have HR:=AA hr;clear hr;clear hi;go_enter func41,ntmps41;go_wp2_with fail;refine(Cs HI.o HR.o).mono ?_;rintro e w1 ⟨rfl,rfl⟩;have iP:=AA (AJ.lit Ab w w.heap.size 3 1 (Nat.le_refl _));go_wp2_with fail;go_loopw [5,6,7,15] (fun u d _ i wr=>∃k m:Nat,k≤n∧m≤2 * k∧i=.int .i64 k∧d=.bool ((l.take k).any (Fc a))∧AJ Ab 1 wr w.heap.size 3 u m (KE a (l.take k))∧Below w.heap.size w wr) (fun _ _ _ i _=>n-(intOf i).toNat)
  case atStart=>exact⟨0,0,by omega,by omega,rfl,by simp,iP.o,bA⟩
  case round=>
   obtain⟨k,m,hk,j0,rfl,rfl,aB,hb⟩:=hrel;have aO:=AA aB;have HB:=AA hb;clear aB hb;by_cases aF:k<n
   ·obtain⟨x,hx⟩:=AM (l:=l) (j:=k) (by rw [HR.o.len];exact aF);obtain⟨b,o,rfl,d0⟩:=(HR.o.below HB.o).row.num hx;have HE:=AA hx;clear hx;cases bq:(l.take k).any (Fc a)
    ·have dF:=AA bq;clear bq;by_cases qK:a<x
     ·have iL:Hd (Fc a x=true):=by show _=_;unfold Fc;simpa using qK
      go_wp2_with (at_builtin;refine Ae rfl _ _ 24 rfl w.heap.size 3 _ 1 8 underlying24 F9 rfl (by decide) Ab Ag Co a _ _ _ aO.o rfl rfl ?c1 ?c2 ?c3 ?_)
      case c1=>omega
      case c2=>omega
      case c3=>exact HB.o.size
      ·intro v' w4 aH hg;have HO:=AA aH;have av:=AA (Below.own HB.o hg HB.o.size aO.o);have e0:w4.cell? ⟨b,o+k,none⟩=some (.int .i64 x):=by obtain⟨b',o',bF,d1⟩:=(HR.o.below av.o).row.num HE.o;cases bF;exact d1
       clear aH hg d0;go_wp2_with (at_builtin;refine Ae rfl _ _ 24 rfl w.heap.size 3 _ 1 8 underlying24 F9 rfl (by decide) Ab Ag Co x _ _ _ HO.o rfl rfl ?c1 ?c2 ?c3 ?_)
       case c1=>omega
       case c2=>omega
       case c3=>exact av.o.size
       ·intro v'' w5 aH hg;have jN:=AA aH;have aw:=AA (Below.own av.o hg av.o.size HO.o);clear aH hg e0;go_wp2_with fail;go_roundw
        case rel=>exact⟨k+1,m+2,by omega,by omega,by go_num,by rw [Av HE.o,dF.o,iL.o];rfl,by rw [AI HE.o,R4 a _ _ dF.o iL.o,List.append_assoc];exact jN.o,aw.o⟩
        case measure=>simp [intOf];omega
     ·have iL:Hd (Fc a x=false):=by show _=_;unfold Fc;simpa using qK
      go_wp2_with (at_builtin;refine Ae rfl _ _ 24 rfl w.heap.size 3 _ 1 8 underlying24 F9 rfl (by decide) Ab Ag Co x _ _ _ aO.o rfl rfl ?c1 ?c2 ?c3 ?_)
      case c1=>omega
      case c2=>omega
      case c3=>exact HB.o.size
      ·intro v' w4 aH hg;have HO:=AA aH;have av:=AA (Below.own HB.o hg HB.o.size aO.o);clear aH hg d0;go_wp2_with fail;go_roundw
       case rel=>exact⟨k+1,m+1,by omega,by omega,by go_num,by rw [Av HE.o,dF.o,iL.o];rfl,by rw [AI HE.o,VC a _ _ dF.o iL.o];exact HO.o,av.o⟩
       case measure=>simp [intOf];omega
    ·have dF:=AA bq;clear bq;go_wp2_with (at_builtin;refine Ae rfl _ _ 24 rfl w.heap.size 3 _ 1 8 underlying24 F9 rfl (by decide) Ab Ag Co x _ _ _ aO.o rfl rfl ?c1 ?c2 ?c3 ?_)
     case c1=>omega
     case c2=>omega
     case c3=>exact HB.o.size
     ·intro v' w4 aH hg;have HO:=AA aH;have av:=AA (Below.own HB.o hg HB.o.size aO.o);clear aH hg d0;go_wp2_with fail;go_roundw
      case rel=>exact⟨k+1,m+1,by omega,by omega,by go_num,by rw [Av HE.o,dF.o];rfl,by rw [AI HE.o,Tu a _ _ dF.o];exact HO.o,av.o⟩
      case measure=>simp [intOf];omega
   ·have ao:k=n:=by omega
    subst ao;have ht:l.take k=l:=AP (by rw [HR.o.len];omega);rw [ht];cases bq:l.any (Fc a)
    ·have oc:Hd (D4 a l=KE a l++[a]):=by show _=_;rw [HP.o];unfold KE;rw [if_neg (by rw [bq];exact Bool.false_ne_true),KF a l bq]
     clear bq;go_wp2_with (at_builtin;refine Ae rfl _ _ 24 rfl w.heap.size 3 _ 1 8 underlying24 F9 rfl (by decide) Ab Ag Co a _ _ _ aO.o rfl rfl ?c1 ?c2 ?c3 ?_)
     case c1=>omega
     case c2=>omega
     case c3=>exact HB.o.size
     ·intro v' w4 aH hg;have HO:=AA aH;have av:=AA (Below.own HB.o hg HB.o.size aO.o);clear aH hg;go_wp2_with fail;go_ret;have h:=HO.o;rw [←oc.o] at h;obtain⟨p',c',hv,aD⟩:=h.isRow Ag (by omega);exact⟨_,p',_,c',rfl,hv,aD,av.o⟩
    ·have oc:Hd (D4 a l=KE a l):=by show _=_;rw [HP.o];unfold KE;rw [if_pos bq]
     clear bq;go_wp2_with fail;go_ret;have h:=aO.o;rw [ht,←oc.o] at h;obtain⟨p',c',hv,aD⟩:=h.isRow Ag (by omega);exact⟨_,p',_,c',rfl,hv,aD,HB.o⟩
 ·have HP:Hd (D4 a l=l):=by show _=_;unfold D4;rw [hi];rfl
  have HI:=AA hi;have HR:=AA hr;clear hr;clear hi;go_enter func41,ntmps41;go_wp2_with fail;refine(Cs HI.o HR.o).mono ?_;rintro e w1 ⟨rfl,rfl⟩;go_wp2_with fail;go_ret;exact⟨_,p,n,cap,rfl,rfl,by rw [HP.o];exact HR.o,Below.refl _ _⟩
theorem Dm(a b:ByteArray):(a.toList==b.toList)=decide (a=b):=by
 by_cases h:a=b
 ·subst h;simp
 ·rw [decide_eq_false h,beq_eq_false_iff_ne];exact fun e=>h (Hb e)
def Vo(l m:List ByteArray):Bool:=l.length==m.length&&(l.zip m).all (fun x=>decide (x.1=x.2))
theorem L7(l m:List ByteArray):Vo l m=true↔l=m:=by
 unfold Vo;constructor
 ·intro h;simp only [Bool.and_eq_true,beq_iff_eq,List.all_eq_true] at h;apply List.ext_getElem h.1;intro i h1 h2;have:=h.2 (l[i],m[i]) (by rw [List.mem_iff_getElem];exact⟨i,by simp;omega,by simp⟩);simpa using this
 ·rintro rfl;simp only [beq_self_eq_true,Bool.true_and,List.all_eq_true];intro x hx;rw [List.mem_iff_getElem] at hx;obtain⟨i,hi,rfl⟩:=hx;simp
theorem JI{p:Option Addr}{n cap:Nat}{l:List ByteArray}{q:Option Addr}{m mc:Nat}{l':List ByteArray}{w:World}(hr:AE EC 1 w p n cap l)(aT:AE EC 1 w q m mc l'):Calls prog 30 #[.slice p n cap,.slice q m mc] w fun e w'=>e=.returned (.bool (Vo l l'))∧∃j,w'=w.drewN j:=by
 have qo:=hr.max;have HR:=AA hr;have cD:=AA aT;clear hr aT;by_cases gl:n=m
 ·subst gl;go_enter func30,ntmps30;go_wp2_with fail;go_loopw [5,13] (fun _ i wr=>∃k:Nat,k≤n∧i=.int .i64 k∧l.take k=l'.take k∧∃j,wr=w.drewN j) (fun _ i _=>n-(intOf i).toNat)
  case atStart=>exact⟨0,by omega,rfl,by simp,0,rfl⟩
  case round=>
   obtain⟨k,hk,rfl,ac,j,rfl⟩:=hrel;have an:=AA ac;clear ac;by_cases aF:k<n
   ·obtain⟨x,hx⟩:=AM (l:=l) (j:=k) (by rw [HR.o.len];exact aF);obtain⟨y,hy⟩:=AM (l:=l') (j:=k) (by rw [cD.out.len];exact aF);obtain⟨b,o,rfl,c0⟩:=HR.o.row.str hx;obtain⟨b',o',rfl,d0⟩:=cD.out.row.str hy;have HE:=AA hx;have lj:=AA hy;clear hx hy;by_cases hq:x=y
    ·have hb:(x.toList==y.toList)=true:=by rw [Dm];simpa using hq
     have aW:(x.toList != y.toList)=false:=by simp [bne,hb]
     have HQ:=AA hq;clear hq;go_wp2_with fail;go_quiet (fail);go_wp2_with fail;go_roundw
     case rel=>exact⟨k+1,by omega,by go_num,by rw [AI HE.o,AI lj.out,an.o,HQ.o],_,rfl⟩
     case measure=>simp [intOf];omega
    ·have hb:(x.toList==y.toList)=false:=by rw [Dm];simpa using hq
     have aW:(x.toList != y.toList)=true:=by simp [bne,hb]
     have aS:Hd (Vo l l'=false):=by show Vo l l'=false;rw [Bool.eq_false_iff,ne_eq,L7];intro e;have h1:=HE.o;rw [e,lj.out] at h1;cases h1;exact hq rfl
     clear hq;go_wp2_with fail;go_quiet (fail);go_wp2_with fail;go_ret;exact⟨AB aS.out.symm,_,World.drewN_drewN _ _ _⟩
   ·have ao:k=n:=by omega
    subst ao;go_wp2_with fail;go_ret;exact⟨AB (by have h:=an.o;rw [AP (by rw [HR.o.len];omega),AP (by rw [cD.out.len];omega)] at h;rw [(L7 l l').2 h]),_,rfl⟩
 ·have aS:Hd (Vo l l'=false):=by show Vo l l'=false;rw [Bool.eq_false_iff,ne_eq,L7];intro e;have h1:=HR.o.len;have h2:=cD.out.len;rw [e] at h1;omega
  have hb:((n:Int) != (m:Int))=true:=by rw [bne_iff_ne];omega
  clear gl;go_enter func30,ntmps30;go_wp2_with fail;go_ret;exact⟨AB aS.out.symm,0,rfl⟩
section
open Go.Sort Go.Lib
theorem Sc(l:List Int):l.flatMap Ab=l.map (Value.int .i64):=by
 induction l with
 |nil=>rfl
 |cons a l ih=>rw [List.flatMap_cons,ih];rfl
theorem Rs{w:World}{g:Nat}{cur:Array Value}{e:TypeId}{ss:List Int}(hb:w.heap[g]?=some (.cells cur e (0,0)))(ht:cur.toList.take ss.length=ss.map (Value.int .i64)):Holds (Value.int .i64) w g 0 ss.toArray:=by
 intro j hj;have f9:j<ss.length:=by simpa using hj
 refine⟨?_,by simp [World.frozen?,hb]⟩;have h1:(cur.toList.take ss.length)[j]?=(ss.map (Value.int .i64))[j]?:=by rw [ht]
 rw [List.getElem?_take_of_lt f9] at h1;simp only [World.cell?,hb,Nat.zero_add];simp only [Option.isSome_none,Bool.false_eq_true,if_false];rw [←Array.getElem?_toList,h1];simp [f9]
theorem Pe(cur:Array Value)(ts:List Int)(h:ts.length≤cur.size):(putCells (Value.int .i64) 0 ts.toArray cur).toList.take ts.length=ts.map (Value.int .i64):=by
 apply List.ext_getElem?;intro j;by_cases hj:j<ts.length
 ·rw [List.getElem?_take_of_lt hj,Array.getElem?_toList];simp [putCells,hj,show j<cur.size by omega]
 ·rw [List.getElem?_take_eq_none (by omega),List.getElem?_eq_none (by simp;omega)]
theorem O2{w:World}{g n:Nat}{os:Array Obj}{cur:Array Value}{e:TypeId}{fr:Nat×Nat}(d:Array Int)(hb:w.heap[g]?=some (.cells cur e fr)):(grow (putRow (Value.int .i64) (Sort.ahead w n) g 0 d) os).heap[g]?=some (.cells (putCells (Value.int .i64) 0 d cur) e fr):=by have hg:g<w.heap.size:=(Array.getElem?_eq_some_iff.1 hb).1;rw [heap_grow_old _ _ (by simpa using hg)];simp [putRow,mapBlock,Sort.ahead,Array.getElem?_modify,hb,onCells]
theorem Ll{w:World}{g n:Nat}{os:Array Obj}(d:Array Int):w.grownBy (grow (putRow (Value.int .i64) (Sort.ahead w n) g 0 d) os) (some g):=by refine⟨rfl,rfl,rfl,by simp,fun k hk aS=>?_⟩;rw [heap_grow_old _ _ (by simpa using hk)];have:g≠k:=fun e=>aS (by rw [e]);simp [putRow,mapBlock,Sort.ahead,Array.getElem?_modify,this]
theorem AJ.holdsN{w:World}{base e n g cap:Nat}{l:List Int}(h:AJ Ab 1 w base e (.slice (some ⟨g,0,none⟩) n cap) n l):Holds (Value.int .i64) w g 0 l.toArray∧g<w.heap.size:=by
 have dM:=h.len Ag (by omega);rcases h.2 with⟨h0,_⟩|⟨g',cap',cur,hv,hb,hg,hn,hm,hs,ht⟩
 ·cases h0
 ·cases hv
  refine⟨Rs hg ?_,(Array.getElem?_eq_some_iff.1 hg).1⟩;rw [←Sc,dM];simpa using ht
theorem AJ.putN{w:World}{base e n g cap:Nat}{l l':List Int}(h:AJ Ab 1 w base e (.slice (some ⟨g,0,none⟩) n cap) n l)(hl:l'.length=l.length)(m:Nat)(os:Array Obj):AJ Ab 1 (grow (putRow (Value.int .i64) (Sort.ahead w m) g 0 l'.toArray) os) base e (.slice (some ⟨g,0,none⟩) n cap) n l'∧w.grownBy (grow (putRow (Value.int .i64) (Sort.ahead w m) g 0 l'.toArray) os) (some g):=by
 have dM:=h.len Ag (by omega);rcases h.2 with⟨h0,_⟩|⟨g',cap',cur,hv,hb,hg,hn,hm,hs,ht⟩
 ·cases h0
 ·cases hv
  refine⟨⟨by rw [Sc];simp [hl,dM],.inr ⟨g,cap,_,rfl,hb,O2 _ hg,hn,hm,by simp [putCells,hs],?_⟩⟩,Ll _⟩;rw [Sc,Nat.mul_one,←dM,←hl];exact Pe cur l' (by rw [hl,dM,hs];omega)
theorem Rp(w:World):grow w #[]=w:=by simp [grow]
theorem FR{d:Array Int}(h:∀i j,i<j→j<d.size→Fc d[j]! d[i]! = false):∀m,m≤d.size→BX Fc (compactUpTo d m)
 |0,_=>by simp [compactUpTo,BX]
 |m+1,hm=>by
  rw [compactUpTo_succ];by_cases c:keeps d m=true
  ·rw [if_pos c];refine List.pairwise_append.2 ⟨FR h m (by omega),by simp,?_⟩;intro x hx y hy;obtain⟨j,hj,rfl⟩:=(DO d x m).1 hx;have:y=d[m]!:=by simpa using hy
   subst this;have hc:m=0∨d[m]!≠d[m-1]!:=by simpa [keeps] using c
   have aS:d[m]!≠d[m-1]!:=hc.resolve_left (by omega);have h1:=h (m-1) m (by omega) (by omega)
   have h2:j=m-1∨Fc d[m-1]! d[j]! = false:=by
    by_cases e:j=m-1
    ·exact .inl e
    ·exact .inr (h j (m-1) (by omega) (by omega))
   unfold Fc at h1 h2 ⊢;simp only [decide_eq_true_eq,decide_eq_false_iff_not] at h1 h2 ⊢;rcases h2 with e|h2
   ·rw [e];omega
   ·omega
  ·rw [if_neg c,List.append_nil];exact FR h m (by omega)
abbrev Er(l:List Int):List Int:=l.mergeSort fun x y=>decide (x≤y)
theorem Nm(l:List Int):(Er l).Pairwise (fun a b=>Fc b a=false):=by have:=List.pairwise_mergeSort (le:=fun x y:Int=>decide (x≤y)) (fun a b c h1 h2=>by simp at *;omega) (fun a b=>by simp;omega) l;refine this.imp ?_;intro a b h;unfold Fc;simp at h ⊢;omega
theorem Fx(l:List Int):compact (Er l)=Bv l:=by
 refine J6 ?_ ?_
 ·unfold compact;refine FR ?_ _ (by simp);intro i j nk hj;have f9:j<(Er l).length:=by simpa using hj
  rw [getElem!_pos _ j hj,getElem!_pos _ i (by omega)];simpa using List.pairwise_iff_getElem.1 (Nm l) i j (by omega) f9 nk
 ·intro a;unfold compact;rw [DO];constructor
  ·rintro⟨j,hj,rfl⟩;rw [getElem!_pos _ j (by simpa using hj)];exact List.mem_mergeSort.1 (List.getElem_mem (l:=Er l) (by simpa using hj))
  ·intro ha;have:a∈Er l:=by simpa [Er] using ha
   obtain⟨j,hj,e⟩:=List.getElem_of_mem this;exact⟨j,hj,by rw [getElem!_pos _ j (by simpa using hj)];simpa using e⟩
theorem K4(g cap n:Nat)(l:List Int)(base:Nat)(w:World)(h:AJ Ab 1 w base 3 (.slice (some ⟨g,0,none⟩) n cap) n l)(hn:n≤1000000000):Calls prog 172 #[.slice (some ⟨g,0,none⟩) n cap] w fun e w'=>e=.returned (.tuple #[])∧AJ Ab 1 w' base 3 (.slice (some ⟨g,0,none⟩) n cap) n (Er l)∧w.grownBy w' (some g):=by obtain⟨hH,hb⟩:=h.holdsN;have dM:=h.len Ag (by omega);have:=slices_Sort_int g 0 cap l w hH hb (by omega);rw [dM] at this;refine this.mono ?_;rintro e w' ⟨he,m,os,rfl⟩;obtain⟨h1,h2⟩:=h.putN (l':=Er l) (by simp) m os;exact⟨he,h1,h2⟩
theorem Gs(g cap n:Nat)(l:List Int)(base:Nat)(w:World)(h:AJ Ab 1 w base 3 (.slice (some ⟨g,0,none⟩) n cap) n l)(eH:n≤cap)(hn:n≤1000000000) :
 Calls prog 126 #[.slice (some ⟨g,0,none⟩) n cap] w fun e w'=>∃m,e=.returned (.slice (some ⟨g,0,none⟩) m cap)∧m≤n∧AJ Ab 1 w' base 3 (.slice (some ⟨g,0,none⟩) m cap) m (compact l)∧w.grownBy w' (some g):=by
 obtain⟨hH,hb⟩:=h.holdsN
 have dM:=h.len Ag (by omega)
 have:=slices_Compact_int g 0 cap l w hH (by omega) (by omega)
 rw [dM] at this
 have cB:(compact l).length≤n:=by rw [←dM];exact compact_length_le l
 refine this.mono ?_
 rintro e w' ⟨he,q,rfl⟩
 obtain⟨h1,h2⟩:=h.putN (l':=compact l++List.replicate (n-(compact l).length) 0) (by simp;omega) q #[]
 rw [Rp] at h1 h2
 refine⟨(compact l).length,he,cB,?_,h2⟩
 have h3:=AJ.cut (m:=(compact l).length) Ag h1 (by simp;omega) cB
 rw [List.take_append_of_le_length (Nat.le_refl _),List.take_length] at h3
 exact h3
end
section
open Go.Sort Go.Lib
def Hh{α:Type}(enc:α→List Value)(k:Nat)(w:World)(e:Ending)(l:List α):Prop:=∃p n c,e=.returned (.slice p n c)∧AE enc k w p n c l
theorem Hh.mk{α:Type}{enc:α→List Value}{k:Nat}{w:World}{p:Option Addr}{n c:Nat}{l:List α}(h:AE enc k w p n c l):Hh enc k w (.returned (.slice p n c)) l:=⟨p,n,c,rfl,h⟩
theorem Qo{p:Option Addr}{n cap:Nat}{l:List AD}{w:World}(hr:AE AS 3 w p n cap l)(hm:n≤1000000)(a:AD):Calls prog 52 #[.slice p n cap,.agg #[.int .u8 a.kind,.int .i64 a.rho,.string a.exn]] w fun e w'=>Hh AS 3 w' e (D3 a l)∧Below w.heap.size w w':=by
 by_cases ha:AX a=true
 ·by_cases hi:LP l a=true
  ·have hp:Hd (D3 a l=l):=by show D3 a l=l;simp [D3,ha,hi]
   have HR:=AA hr;clear hr;go_enter func52,ntmps52;go_wp2_with fail;refine(DK a _).mono ?_;rintro e w1 ⟨rfl,hb⟩;have H1:Hd (Below w.heap.size w w1):=((Below.refl _ w).alloc (Nat.le_refl _) _).trans (hb.mono (by simp));have c0:w1.cell? ⟨w.heap.size,0,none⟩=some (.int .u8 a.kind):=by rw [hb.cell (by simp),AR];rfl
   have c1:w1.cell? ⟨w.heap.size,1,none⟩=some (.int .i64 a.rho):=by rw [hb.cell (by simp),AR];rfl
   have c2:w1.cell? ⟨w.heap.size,2,none⟩=some (.string a.exn):=by rw [hb.cell (by simp),AR];rfl
   rw [ha];clear hb ha;go_wp2_with fail;refine(G5 p n cap l a w1 HR.o.len (by omega) (HR.o.below H1.o).row).mono ?_;rintro e w2 ⟨rfl,hb⟩;have H2:=bt H1 hb;rw [hi];clear hb hi;go_wp2_with fail;go_ret;exact⟨by rw [hp.out];exact Hh.mk (HR.o.below H2.o),H2.o⟩
  ·have mb:LP l a=false:=by simpa using hi
   refine(KR p n cap l a w hr.len hm hr.row ha mb).mono ?_;rintro e w' ⟨v,he,ho,hb⟩;obtain⟨p',c',rfl,aD⟩:=ho.isRow AF (by omega);exact⟨by rw [he,show D3 a l=CS a l from by simp [D3,ha,mb]];exact Hh.mk aD,hb⟩
 ·have i7:AX a=false:=by simpa using ha
  have hp:Hd (D3 a l=l):=by show D3 a l=l;simp [D3,i7]
  have HR:=AA hr;clear hr;clear ha;go_enter func52,ntmps52;go_wp2_with fail;refine(DK a _).mono ?_;rintro e w1 ⟨rfl,hb⟩;have H1:Hd (Below w.heap.size w w1):=((Below.refl _ w).alloc (Nat.le_refl _) _).trans (hb.mono (by simp));rw [i7];clear hb i7;go_wp2_with fail;go_ret;exact⟨by rw [hp.out];exact Hh.mk (HR.o.below H1.o),H1.o⟩
theorem DT{α:Type}(enc:α→List Value)(k:Nat)(w:World)(t:TypeId):AE enc k (w.alloc (.cells #[] t)) (some ⟨w.heap.size,0,none⟩) 0 0 []:=⟨rfl,by omega,by omega,(fun h=>by cases h),.inl rfl⟩
theorem R5{p:Option Addr}{n cap:Nat}{l:List AD}{w:World}(hr:AE AS 3 w p n cap l)(hm:n≤1000000):Calls prog 50 #[.slice p n cap] w fun e w'=>Hh AS 3 w' e (A2 l)∧Below w.heap.size w w':=by
 have kG:=AA (Gk l);have HR:=AA hr;clear hr;go_enter func50,ntmps50;go_wp2_with fail;go_loopw [3,8] (fun u i wr=>∃(k:Nat) (q:Option Addr) (m mc:Nat),k≤n∧i=.int .i64 k∧u=.slice q m mc∧m≤k∧AE AS 3 wr q m mc (EP (l.take k))∧Below w.heap.size w wr) (fun _ i _=>n-(intOf i).toNat)
 case atStart=>exact⟨0,_,_,_,by omega,rfl,rfl,by omega,DT _ _ _ _,bA⟩
 case round=>
  obtain⟨k,q,m,mc,hk,rfl,rfl,j0,aD,hb⟩:=hrel;have aL:=AA aD;have HB:=AA hb;clear aD hb;by_cases aF:k<n
  ·obtain⟨x,hx⟩:=AM (l:=l) (j:=k) (by rw [HR.o.len];exact aF);have HE:=AA hx;obtain⟨b,o,rfl,aP,d0,d1,d2⟩:=CX.atom (HR.o.below HB.o).row hx;clear hx aP;go_wp2_with fail;refine(Qo aL.o (by omega) x).mono ?_;rintro e w1 ⟨⟨q',m',mc',rfl,aT⟩,hb⟩;have aJ:=bt HB hb;have co:m'≤k+1:=by have h1:=EO x (EP (l.take k));have h2:=aT.len;have h3:=aL.o.len;omega
   have cD:=AA aT;clear hb d0 d1 d2 aT;go_wp2_with fail;go_roundw
   case rel=>exact⟨k+1,q',m',mc',by omega,by go_num,rfl,co,by rw [AI HE.o,EH];exact cD.out,aJ.o⟩
   case measure=>simp [intOf];omega
  ·have ao:k=n:=by omega
   subst ao;go_wp2_with fail;go_ret;have h2:=aL.o;rw [AP (by rw [HR.o.len];omega),kG.o] at h2;exact⟨Hh.mk h2,HB.o⟩
theorem IF(l:List AD):(A2 l).length≤l.length:=by have:=KL l;rw [Gk] at this;exact this
theorem FE(q:AD→Bool)(l:List AD):(A2 l).filter q=A2 (l.filter q):=by
 refine IJ ?_ (fun x=>?_)
 ·exact List.Pairwise.filter _ (G6 _)
 ·simp only [List.mem_filter,CV];constructor
  ·rintro⟨⟨h1,h2⟩,h3⟩;exact⟨⟨h1,h3⟩,h2⟩
  ·rintro⟨⟨h1,h3⟩,h2⟩;exact⟨⟨h1,h2⟩,h3⟩
theorem Ro{exns:List ByteArray}{j:Nat}{s:ByteArray}(h:exns[j]?=some s)(x:AD):DE (exns.take (j+1)) x=(DE (exns.take j) x||(decide (x.kind=3)&&decide (s=x.exn))):=by unfold DE WW;rw [Av h];cases decide (x.kind=3)<;>rfl
end
def GK{α:Type}(enc:α→List Value)(k:Nat)(w:World)(base:Nat)(e:TypeId)(v:Value)(n:Nat)(l:List α):Prop:=AJ enc k w base e v n l∨∃p,v=.slice p 0 0∧n=0∧l=[]
section
variable {α:Type} {enc:α→List Value} {k:Nat} {w w':World} {base base' e n:Nat} {v:Value} {l:List α}
theorem AJ.z(h:AJ enc k w base e v n l):GK enc k w base e v n l:=.inl h
theorem GK.lit(enc:α→List Value)(k:Nat)(w:World)(base:Nat)(e:TypeId)(p:Option Addr):GK enc k w base e (.slice p 0 0) 0 []:=.inr ⟨p,rfl,rfl,rfl⟩
theorem GK.below(h:GK enc k w base e v n l)(hb:Below w.heap.size w w'):GK enc k w' base e v n l:=h.elim (fun h=>.inl (h.below hb)) .inr
theorem GK.lower(h:GK enc k w base e v n l)(hb:base'≤base):GK enc k w base' e v n l:=h.elim (fun h=>.inl (h.lower hb)) .inr
theorem GK.drewN(h:GK enc k w base e v n l)(m:Nat):GK enc k (w.drewN m) base e v n l:=h
theorem GK.isRow(h:GK enc k w base e v n l)(hk:∀x,(enc x).length=k)(ba:0<k):∃p cap,v=.slice p n cap∧l.length=n∧n≤cap∧Au enc k w p l∧cap≤maxLen∧(p=none→cap=0):=by
 rcases h with h|⟨p,rfl,rfl,rfl⟩
 ·obtain⟨p,cap,hv,hl,hc,hr,hm,hn,_⟩:=h.row hk ba;exact⟨p,cap,hv,hl,hc,hr,hm,fun e=>(hn e).2⟩
 ·exact⟨p,0,rfl,rfl,by omega,.inl rfl,by unfold maxLen;omega,fun _=>rfl⟩
theorem GK.len(h:GK enc k w base e v n l)(hk:∀x,(enc x).length=k)(ba:0<k):l.length=n:=by obtain⟨_,_,_,h,_⟩:=h.isRow hk ba;exact h
end
def WR(B:Nat)(w w':World):Prop:=∀B0 w0,B0≤B→B0≤w.heap.size→Below B0 w0 w→Below B0 w0 w'
theorem NW{P:Program}{α:Type}{ops:Array Oper}{rest:List Oper}{o:Oper}{a:Act}{Q:Exit→Act→World→Prop}(au:o.guard=none)(s x:Operand)(t:TypeId)(ho:o.op=.call { callee:=.builtin .append,args:=#[s,x],argTypes:=#[t,t] })(base:Nat)(e:TypeId)(z:Value)(k bytes:Nat)(ht:P.underlying t=some (.slice e))(bd:(P.info? e).map (fun i=>(i.zero,i.size,i.bytes))=some (some z,k,bytes))(fK:z.cells.size=k)(aU:0<k)(enc:α→List Value)(hk:∀x,(enc x).length=k)(h1:∀y,∀u∈enc y,u.oneCell'=true)(l' l:List α)(n:Nat){w:World}(v:Value)(aB:GK enc k w base e v n l)(p:Option Addr)(m c:Nat)(hs:a.eval s=v)(hx:a.eval x=.slice p m c)(hl:l'.length=m)(hp:p=none→c=0)(hr:Au enc k w p l')(aj:(n+m) * bytes≤140737488355328)(gz:n+m≤9223372036854775807)(cm:base≤w.heap.size)(h:∀v' w',GK enc k w' base e v' (n+m) (l++l')→WR base w w'→wpList P ops Q rest (a.put o.dst v') w'):wpList P ops Q (o::rest) a w:=by
 rcases aB with aB|⟨q,rfl,rfl,rfl⟩
 ·refine Cj au s x t ho base e z k bytes ht bd fK aU enc hk h1 l' l n v aB p m c hs hx hl hp hr aj gz cm (fun v' w' ii hg=>h v' w' ii.z ?_);intro B0 w0 hB kl hb;exact hb.grown hg kl (fun g pC=>Nat.le_trans hB (World.ownsRow.lt aB g pC).1)
 ·rcases q with _|ad
  ·refine Cj au s x t ho base e z k bytes ht bd fK aU enc hk h1 l' [] 0 _ (AJ.nil enc w base e k) p m c hs hx hl hp hr aj gz cm (fun v' w' ii hg=>h v' w' ii.z ?_);intro B0 w0 hB kl hb;exact hb.grown hg kl (fun g pC=>by cases pC)
  ·obtain⟨i,hi,hz,cH,gL⟩:=info_parts bd;rcases Nat.eq_zero_or_pos m with qn|qn
   ·subst qn;have ia:l'=[]:=List.length_eq_zero_iff.1 hl;subst ia
    have im:Src P i.size t (.slice p 0 c) 0 [] w:=by
     rcases p with _|b
     ·exact Src.ofNil w ht c
     ·exact Src.ofSlice w ht b 0 c [] (by simp) (by simp) (by simp)
    have io:=run_storeCells_cells (P:=P) ad.block (ad.off) [] 0 w (by simp) (by simp) (by simp);have cW:(Builtin.append_ #[t,t] o.type #[.slice (some ad) 0 0,.slice p 0 c]).run P w=.ok (.slice (some ad) 0 0) w:=by rcases im.kind with⟨e',cU⟩|cU<;>simp [Builtin.append_,run_underlying ht,sizeOf,typeInfo,hi,im.len,im.cells,storeCells]
    exact Lib.wpList_append_run w au s x t t ho _ _ hs hx _ _ cW (h _ _ (.inr ⟨_,rfl,rfl,by simp⟩) (fun _ _ _ _ hb=>hb))
   ·have ku:∀b,p=some b→∀j u,(l'.flatMap enc)[j]?=some u→w.cell? (b.add j)=some u:=by
     intro ad' sT j u hj;rcases hr with h0|⟨b,o',hb,aF,hc⟩
     ·subst h0;simp at hj
     ·rw [sT] at hb;cases hb;have iZ:j<l'.length * k:=by rw [←Ao hk];exact Bh hj
      have hq:j / k<l'.length:=Nat.div_lt_of_lt_mul (by rw [Nat.mul_comm];exact iZ);have hm:j % k<k:=Nat.mod_lt _ aU;have hf:=DN hk l' (j / k) _ (j % k) (List.getElem?_eq_getElem hq) hm;rw [Nat.div_add_mod' j k,hj] at hf;have:=hc (j / k) _ (List.getElem?_eq_getElem hq) (j % k) u hf.symm;rw [FA,←Nat.div_add_mod' j k,←Nat.add_assoc];exact this
    have lD:∀u∈l'.flatMap enc,u.oneCell'=true:=by intro u hu;rw [List.mem_flatMap] at hu;obtain⟨y,_,hu⟩:=hu;exact h1 y u hu
    rcases p with _|b
    ·rcases hr with h0|⟨_,_,hb,_⟩
     ·subst h0;simp at hl;omega
     ·cases hb
    ·have im:Src P i.size t (.slice (some b) m c) m (l'.flatMap enc) w:=Src.ofSlice w ht b m c _ (by rw [Ao hk,hl,cH]) (ku b rfl) lD
     have cW:=run_append_grow_src (P:=P) (w:=w) t t o.type e i z ht hi hz (some ad) 0 0 [] (by exact run_firstCells_some w.drew i.size 0 ad 0 0 [] (by simp) (by simp)) _ m _ im (by omega) (by omega)
      (growslice_fits (by omega) (by rw [gL];exact aj))
     rw [Nat.zero_add] at cW;have lW:=grownCap_ge w m 0 e;have cB:=grownCap_le_maxLen w m 0 e (by unfold maxLen;omega);refine Lib.wpList_append_run w au s x t t ho _ _ hs hx _ _ cW (h _ _ (.inl ?_) ?_)
     ·rw [Nat.zero_add];refine⟨by rw [List.nil_append,Ao hk,hl],.inr ⟨_,_,_,rfl,by simpa using cm,heap_alloc_new w.drew _,lW,cB,?_,?_⟩⟩
      ·simp only [List.nil_append,Array.size_append,List.size_toArray,size_zeroCells,Ao hk,hl,fK];rw [←Nat.add_mul];congr 1;omega
      ·simp only [List.nil_append,Array.toList_append];rw [List.take_append_of_le_length (by simp [Ao hk,hl]),List.take_of_length_le (by simp [Ao hk,hl])]
     ·intro B0 w0 hB kl hb;exact hb.drew.alloc kl _
theorem L3{P:Program}{α:Type}{ops:Array Oper}{rest:List Oper}{o:Oper}{a:Act}{Q:Exit→Act→World→Prop}(au:o.guard=none)(s x:Operand)(t:TypeId)(ho:o.op=.call { callee:=.builtin .append,args:=#[s,x],argTypes:=#[t,t] })(base:Nat)(e:TypeId)(z:Value)(k bytes:Nat)(ht:P.underlying t=some (.slice e))(bd:(P.info? e).map (fun i=>(i.zero,i.size,i.bytes))=some (some z,k,bytes))(fK:z.cells.size=k)(aU:0<k)(enc:α→List Value)(hk:∀x,(enc x).length=k)(h1:∀y,∀u∈enc y,u.oneCell'=true)(y:α)(l:List α)(n:Nat){w:World}(v:Value)(aB:GK enc k w base e v n l)(hs:a.eval s=v)(hx:a.eval x=.slice (some ⟨w.heap.size,0,none⟩) 1 1)(aj:(n+1) * bytes≤140737488355328)(gz:n+1≤9223372036854775807)(cm:base≤w.heap.size)(h:∀v' w',GK enc k w' base e v' (n+1) (l++[y])→WR base w w'→wpList P ops Q rest (a.put o.dst v') w'):wpList P ops Q (o::rest) a (w.alloc (.cells (enc y).toArray e)):=by
 refine NW au s x t ho base e z k bytes ht bd fK aU enc hk h1 [y] l n v (aB.below bA) _ 1 1 hs hx rfl (fun h=>by cases h) ?_ aj gz (by simp;omega) ?_
 ·exact Au.newAt hk w [y] _ (by simp) _ _ _ rfl
 ·intro v' w' ii cU;exact h v' w' ii (fun B0 w0 hB kl hb=>cU B0 w0 hB (by simp;omega) (hb.alloc kl _))
section
open Go.Sort Go.Lib
def IL(x:AD):Bool:=AX x&&decide (x.kind≠3)
def BQ(l:List AD):List Int:=Bv ((l.filter IL).map (·.rho))
def KS(l:List AD):List Int:=(l.filter IL).foldl (fun e a=>D4 a.rho e) []
theorem Jh(l:List AD)(x:AD):KS (l++[x])=if IL x then D4 x.rho (KS l) else KS l:=by unfold KS;rw [List.filter_append,List.foldl_append];cases h:IL x<;>simp [h]
theorem Ul:∀(l:List Int) (e:List Int),BX Fc e→BX Fc (l.foldl (fun e a=>D4 a e) e)∧∀x,x∈l.foldl (fun e a=>D4 a e) e↔x∈e∨x∈l
 |[],e,h=>⟨h,fun x=>by simp⟩
 |a::l,e,h=>by
  obtain⟨h1,h2⟩:=Ul l (D4 a e) (Qs a e h);refine⟨h1,fun x=>?_⟩;rw [List.foldl_cons,h2,Qg,List.mem_cons];constructor
  ·rintro((rfl|h)|h)
   ·exact .inr (.inl rfl)
   ·exact .inl h
   ·exact .inr (.inr h)
  ·rintro(h|rfl|h)
   ·exact .inl (.inr h)
   ·exact .inl (.inl rfl)
   ·exact .inr h
theorem VE(l:List AD):KS l=BQ l:=by
 have e:KS l=((l.filter IL).map (·.rho)).foldl (fun e a=>D4 a e) []:=by unfold KS;rw [List.foldl_map]
 obtain⟨h1,h2⟩:=Ul ((l.filter IL).map (·.rho)) [] (by simp [BX]);rw [e];exact J6 h1 (fun x=>by rw [h2];simp)
theorem IN{α:Type}(lt:α→α→Bool)(a:α):∀l:List α,(EY lt a l).length≤l.length+1
 |[]=>by simp [EY]
 |b::l=>by
  unfold EY;split
  ·simp
  ·split
   ·have:=IN lt a l;simp;omega
   ·simp
theorem Fh{α:Type}(lt:α→α→Bool):∀l:List α,(GR lt l).length≤l.length
 |[]=>by simp [GR]
 |a::l=>by have h1:=IN lt a (GR lt l);have h2:=Fh lt l;simp only [GR,List.length_cons];omega
theorem Nw(l:List AD):(BQ l).length≤l.length:=by have h1:=Fh Fc ((l.filter IL).map (·.rho));have h2:=List.length_filter_le IL l;rw [List.length_map] at h1;exact Nat.le_trans h1 h2
theorem Mo(l:List AD)(r:Int):r∈BQ l↔∃x∈l,AX x=true∧x.kind≠3∧x.rho=r:=by
 unfold BQ;rw [Ep,List.mem_map];constructor
 ·rintro⟨x,hx,rfl⟩;rw [List.mem_filter] at hx;have h:=hx.2;unfold IL at h;rw [Bool.and_eq_true] at h;exact⟨x,hx.1,h.1,of_decide_eq_true h.2,rfl⟩
 ·rintro⟨x,hx,h1,h2,rfl⟩;exact⟨x,List.mem_filter.2 ⟨hx,by unfold IL;rw [h1,decide_eq_true h2];rfl⟩,rfl⟩
theorem PU{l m:List AD}(h:∀x,AX x=true→(x∈l↔x∈m)):BQ l=BQ m:=by
 refine Q1 (fun r=>?_);have h1:=Mo l r;have h2:=Mo m r;unfold BQ at h1 h2;rw [Ep] at h1 h2;rw [h1,h2];constructor
 ·rintro⟨x,hx,ha,hk,hr⟩;exact⟨x,(h x ha).1 hx,ha,hk,hr⟩
 ·rintro⟨x,hx,ha,hk,hr⟩;exact⟨x,(h x ha).2 hx,ha,hk,hr⟩
theorem Qq(l:List AD):BQ (A2 l)=BQ l:=PU (fun x hx=>by rw [CV,List.mem_filter];simp [hx])
theorem Cf{p:Option Addr}{n cap:Nat}{l:List AD}{w:World}(hr:AE AS 3 w p n cap l)(hm:n≤1000000):Calls prog 16 #[.slice p n cap] w fun e w'=>Hh Ab 1 w' e (BQ l)∧Below w.heap.size w w':=by
 have HR:=AA hr;clear hr;go_enter func16,ntmps16;go_wp2_with fail;go_loopw [3,4,8] (fun u _ i wr=>∃(k:Nat) (q:Option Addr) (m mc:Nat),k≤n∧i=.int .i64 k∧u=.slice q m mc∧m≤k∧AE Ab 1 wr q m mc (KS (l.take k))∧Below w.heap.size w wr) (fun _ _ i _=>n-(intOf i).toNat)
 case atStart=>exact⟨0,_,_,_,by omega,rfl,rfl,by omega,DT _ _ _ _,bA⟩
 case round=>
  obtain⟨k,q,m,mc,hk,rfl,rfl,j0,aD,hb⟩:=hrel;have aL:=AA aD;have HB:=AA hb;clear aD hb;by_cases aF:k<n
  ·obtain⟨x,hx⟩:=AM (l:=l) (j:=k) (by rw [HR.o.len];exact aF);have HE:=AA hx;obtain⟨b,o,rfl,aP,d0,d1,d2⟩:=CX.atom (HR.o.below HB.o).row hx;have dG:Hd (∀W,Below wr.heap.size wr W→W.cell? ⟨b,o+k * 3,none⟩=some (.int .u8 x.kind)∧W.cell? ⟨b,o+k * 3+1,none⟩=some (.int .i64 x.rho)):=fun W h=>⟨by rw [h.cell aP];exact d0,by rw [h.cell aP];exact d1⟩;clear hx aP;cases ha:AX x
   ·have HQ:Hd (IL x=false):=by show _=_;simp [IL,ha]
    have HA:=AA ha;clear ha;go_wp2_with fail;refine(Bp HA.o _).mono ?_;rintro e w1 ⟨rfl,hb⟩;have aJ:=bt HB hb;have ay:=AA hb;clear hb d0 d1 d2;go_wp2_with fail;go_roundw
    case rel=>exact⟨k+1,q,m,mc,by omega,by go_num,rfl,by omega,by rw [AI HE.o,Jh,HQ.o];exact aL.o.below ay.o,aJ.o⟩
    case measure=>simp [intOf];omega
   ·have HA:=AA ha;by_cases h3:x.kind=3
    ·have i6:(x.kind != 3)=false:=by simp [h3]
     have HQ:Hd (IL x=false):=by show _=_;simp [IL,h3]
     clear ha h3;go_wp2_with fail;refine(Bp HA.o _).mono ?_;rintro e w1 ⟨rfl,hb⟩;have aJ:=bt HB hb;have ay:=AA hb;clear d0 d1 d2;obtain⟨d0,d1⟩:=dG.o w1 hb;clear hb;go_wp2_with fail;go_roundw
     case rel=>exact⟨k+1,q,m,mc,by omega,by go_num,rfl,by omega,by rw [AI HE.o,Jh,HQ.o];exact aL.o.below ay.o,aJ.o⟩
     case measure=>simp [intOf];omega
    ·have i6:(x.kind != 3)=true:=by simpa using h3
     have HQ:Hd (IL x=true):=by show _=_;simp [IL,h3,ha]
     clear ha h3;go_wp2_with fail;refine(Bp HA.o _).mono ?_;rintro e w1 ⟨rfl,hb⟩;have aJ:=bt HB hb;have dQ:=AA (aL.o.below hb);clear d0 d1 d2;obtain⟨d0,d1⟩:=dG.o w1 hb;clear hb;go_wp2_with fail;refine(GD dQ.o (by omega) x.rho).mono ?_;rintro e w2 ⟨v,q',m',mc',rfl,rfl,aT,hb⟩;have aK:=bt aJ hb;have co:m'≤k+1:=by have h1:=FG x.rho (KS (l.take k));have h2:=aT.len;have h3:=aL.o.len;omega
     have cD:=AA aT;clear hb d0 d1 aT;go_wp2_with fail;go_roundw
     case rel=>exact⟨k+1,q',m',mc',by omega,by go_num,rfl,co,by rw [AI HE.o,Jh,HQ.o];exact cD.out,aK.o⟩
     case measure=>simp [intOf];omega
  ·have ao:k=n:=by omega
   subst ao;go_wp2_with fail;go_ret;have h2:=aL.o;rw [AP (by rw [HR.o.len];omega),VE] at h2;exact⟨Hh.mk h2,HB.o⟩
theorem KM{p:Option Addr}{n cap:Nat}{l:List AD}{w:World}(hr:AE AS 3 w p n cap l)(hm:n≤1000000):Calls prog 32 #[.slice p n cap] w fun e w'=>Hh EC 1 w' e (IK (A2 l))∧Below w.heap.size w w':=by
 have kw:=IF l;have HR:=AA hr;clear hr;go_enter func32,ntmps32;go_wp2_with fail;refine(R5 (HR.o.alloc _) hm).mono ?_;rintro e w1 ⟨⟨q,m,mc,rfl,aD⟩,hb⟩;have aL:=AA aD;have hX:m≤1000000:=by have:=aD.len;have:=HR.o.len;omega
 have HB:=AA (((Below.refl _ w).alloc (Nat.le_refl _) (.cells #[] 9)).trans (hb.mono (by simp)));generalize mH:A2 l=S at *
 have bx:=AA mH;clear hb aD kw mH;go_wp2_with fail;go_loopw [3,5,11] (fun u _ i wr=>∃k t:Nat,k≤m∧i=.int .i64 k∧t≤k∧GK EC 1 wr w1.heap.size 9 u t (IK (S.take k))∧Below w1.heap.size w1 wr) (fun _ _ i _=>m-(intOf i).toNat)
 case atStart=>exact⟨0,0,by omega,rfl,by omega,GK.lit _ _ _ _ _ _,Below.refl _ _⟩
 case round=>
  obtain⟨k,t,hk,rfl,ja,aB,hb⟩:=hrel;have aO:=AA aB;have ay:=AA hb;clear aB hb;by_cases aF:k<m
  ·obtain⟨x,hx⟩:=AM (l:=S) (j:=k) (by rw [aL.o.len];exact aF);have HE:=AA hx;obtain⟨b,o,rfl,aP,d0,d1,d2⟩:=CX.atom (aL.o.below ay.o).row hx;obtain⟨kd,rr,ss⟩:=x;simp only at d0 d1 d2;clear hx aP;by_cases h3:kd=3
   ·subst h3;go_wp2_with (at_builtin;refine L3 rfl _ _ 72 rfl w1.heap.size 9 _ 1 16 underlying72 WY rfl (by decide) EC De QK ss _ _ _ aO.o rfl rfl ?c1 ?c2 ?c3 ?_)
    case c1=>omega
    case c2=>omega
    case c3=>exact ay.o.size
    ·intro v' w4 aH hg;have gu:=AA aH;have av:=AA (hg _ _ (Nat.le_refl _) ay.o.size ay.o);clear aH hg d0 d1 d2;go_wp2_with fail;go_roundw
     case rel=>exact⟨k+1,t+1,by omega,by go_num,by omega,by rw [AI HE.o];unfold IK at gu ⊢;rw [List.filter_append,List.map_append];exact gu.o,av.o⟩
     case measure=>simp [intOf];omega
   ·have i6:(kd==3)=false:=by rw [beq_eq_false_iff_ne];exact h3
    have fE:=AA h3;clear h3;go_wp2_with fail;go_roundw
    case rel=>exact⟨k+1,t,by omega,by go_num,by omega,by rw [AI HE.o];have:=aO.o;unfold IK at this ⊢;rw [List.filter_append,List.map_append];simpa [fE.o] using this,ay.o⟩
    case measure=>simp [intOf];omega
  ·have dr:k=m:=by omega
   subst dr;go_wp2_with fail;go_ret;have h1:=aO.o;rw [AP (by rw [aL.o.len];omega)] at h1;obtain⟨p',c',rfl,h2,h3,h4,h5,h6⟩:=h1.isRow De (by omega);exact⟨by rw [bx.o];exact Hh.mk ⟨h2,by omega,h3,h6,h4⟩,HB.o.trans (ay.o.mono HB.o.size)⟩
theorem FN(p:Option Addr)(n cap:Nat)(rows:List (Kc AD))(w:World)(hn:rows.length=n)(hm:n≤1000000)(hr:Au Fy 1 w p rows)(bY:∀r∈rows,r.Ok AS 3 w)(dA:(rows.map (·.n)).sum≤1000000):Calls prog 132 #[.slice p n cap] w fun e w'=>∃q m c,e=.returned (.slice q m c)∧m≤1000000∧AE Ab 1 w' q m c (BQ (rows.flatMap (·.l)))∧Below w.heap.size w w':=by
 have HU:=AA (C6 p n cap rows w hn hm hr bY dA);have HT:=AA dA;have dd:Hd (Bv (((DR ((rows.flatMap (·.l)).filter AX)).filter (fun x=>decide (x.kind≠3))).map (·.rho))=BQ (rows.flatMap (·.l))):=by show _=_;rw [←Qq];unfold BQ;congr 2;apply List.filter_congr;intro x hx;rw [CV,List.mem_filter] at hx;simp [IL,hx.2]
 clear hn hr bY dA;go_enter func132,ntmps132;go_wp2_with fail;refine HU.o.mono ?_;rintro e w1 ⟨v,m,rfl,gB,aB,hb⟩;obtain⟨q,mc,rfl,aD⟩:=aB.isRow AF (by omega);have hX:m≤1000000:=by have:=HT.o;omega
 generalize hS:DR ((rows.flatMap (·.l)).filter AX)=S at aD dd;have HS:=AA hS;have HR:=AA aD;have HB:=AA hb;clear aD hb;clear aB hS gB;go_wp2_with fail;go_loopw [3,5,9] (fun u _ i wr=>∃k t:Nat,k≤m∧i=.int .i64 k∧t≤k∧AJ Ab 1 wr w1.heap.size 3 u t (((S.take k).filter (fun x=>decide (x.kind≠3))).map (·.rho))∧Below w1.heap.size w1 wr) (fun _ _ i _=>m-(intOf i).toNat)
 case atStart=>exact⟨0,0,by omega,rfl,by omega,AJ.nil _ _ _ _ _,Below.refl _ _⟩
 case round=>
  obtain⟨k,t,hk,rfl,ja,aB,hb⟩:=hrel;have aO:=AA aB;have ay:=AA hb;clear aB hb;by_cases aF:k<m
  ·obtain⟨x,hx⟩:=AM (l:=S) (j:=k) (by rw [HR.o.len];exact aF);have HE:=AA hx;obtain⟨b,o,rfl,aP,d0,d1,d2⟩:=CX.atom (HR.o.below ay.o).row hx;obtain⟨kd,rr,ss⟩:=x;simp only at d0 d1 d2;clear hx aP;have aE:=AA (ay.o.alloc ay.o.size (.cells #[.int .u8 kd,.int .i64 rr,.string ss] 59));have az:=AA (aO.o.below ((Below.refl _ wr).alloc (Nat.le_refl _) (.cells #[.int .u8 kd,.int .i64 rr,.string ss] 59)));by_cases h3:kd=3
   ·have i6:(kd != 3)=false:=by simp [h3]
    have fE:=AA h3;clear h3;go_wp2_with fail;go_roundw
    case rel=>exact⟨k+1,t,by omega,by go_num,by omega,by rw [AI HE.o,List.filter_append,List.map_append];simpa [fE.o] using az.o,aE.o⟩
    case measure=>simp [intOf];omega
   ·have i6:(kd != 3)=true:=by simpa using h3
    have fE:=AA h3;clear h3;go_wp2_with (at_builtin;refine Ae rfl _ _ 24 rfl w1.heap.size 3 _ 1 8 underlying24 F9 rfl (by decide) Ab Ag Co rr _ _ _ az.o rfl (by refine Eq.trans (b:=Value.slice (some ⟨wr.heap.size+1,0,none⟩) 1 1) rfl ?_;simp) ?c1 ?c2 ?c3 ?_)
    case c1=>omega
    case c2=>omega
    case c3=>have:=aE.o.size;simp at this ⊢;omega
    ·intro v' w4 aH hg;have gu:=AA aH;have av:=AA (Below.own aE.o hg (by have:=aE.o.size;simp at this ⊢;omega) az.o);clear aH hg d0 d1 d2;go_wp2_with fail;go_roundw
     case rel=>exact⟨k+1,t+1,by omega,by go_num,by omega,by rw [AI HE.o,List.filter_append,List.map_append];simpa [fE.o] using gu.o,av.o⟩
     case measure=>simp [intOf];omega
  ·have dr:k=m:=by omega
   subst dr;have h1:=aO.o;rw [AP (by rw [HR.o.len];omega)] at h1;have HO:=AA h1;clear h1;rcases HO.o.split Ag (by omega) with⟨rfl,rfl,ag⟩|⟨g,cp,rfl,kv,iU⟩
   ·have fp:=AA ag;clear ag;go_wp2_with fail;refine(slices_Sort_int_none none 0 _).mono ?_;rintro e w2 ⟨rfl,rfl⟩;go_wp2_with fail;refine(slices_Compact_int_empty none 0 _).mono ?_;rintro e w3 ⟨rfl,rfl⟩;go_wp2_with fail;go_ret;exact⟨none,0,0,rfl,by omega,by rw [←dd.o,fp.o];exact AE.none _ _ _,HB.o.trans (ay.o.mono HB.o.size)⟩
   ·go_wp2_with fail;refine(K4 g cp t _ w1.heap.size wr HO.o (by omega)).mono ?_;rintro e w2 ⟨rfl,j2,ea⟩;have aJ:=AA (AJ.drop_base (enc:=Ab) (k:=1) ea iU ay.o ay.o.size);have dN:=AA j2;clear j2 ea;go_wp2_with fail;refine(Gs g cp t _ w1.heap.size w2 dN.o kv (by omega)).mono ?_;rintro e w3 ⟨m',rfl,co,gm,a8⟩;have aK:=AA (AJ.drop_base (enc:=Ab) (k:=1) a8 iU aJ.o aJ.o.size);rw [Fx,dd.o] at gm;obtain⟨p',c',hv,aD⟩:=gm.isRow Ag (by omega);cases hv;have az:=AA aD;clear gm a8 aD;go_wp2_with fail;go_ret;exact⟨_,m',_,rfl,by omega,az.o,HB.o.trans (aK.o.mono HB.o.size)⟩
end
section
open Go.ChangeShapes Go.WideShapes Go.ChangeAt Go.RowKit Go.Deep
variable {H:Type} {enc:TypeId×Value→H} {W:World} {base:Nat} {t e:TypeId} {v:Value} {d:DataW H} {ps:List MemPlace}
theorem Qu{α:Type}{encE:α→List Value}{k:Nat}(w:World)(b o:Nat)(hb:b<w.heap.size)(n:Nat)(q:Nat→α)(h:∀j,j<n→∀i u,(encE (q j))[i]?=some u→w.cell? ⟨b,o+j * k+i,none⟩=some u):Au encE k w (some ⟨b,o,none⟩) ((List.range n).map q):=by
 refine .inr ⟨b,o,rfl,hb,fun j x hx i u hu=>?_⟩;rw [List.getElem?_map] at hx;have hj:j<n:=by have:=(Option.map_eq_some_iff.1 hx).choose_spec.1;have:=(List.getElem?_eq_some_iff.1 this).1;simpa using this
 rw [List.getElem?_range hj] at hx;cases hx;exact h j hj i u hu
end
section
open Go.ChangeShapes Go.WideShapes Go.ChangeAt Go.RowKit Go.Deep
section
variable {H:Type} {enc:TypeId×Value→H} {W:World} {base:Nat} {t e:TypeId} {v:Value} {d:DataW H} {ps:List MemPlace}
end
end
section
open Go.ChangeShapes Go.WideShapes Go.ChangeAt Go.RowKit Go.Deep
variable {H:Type} {enc:TypeId×Value→H} {W:World} {base:Nat} {t e:TypeId} {v:Value} {d:DataW H} {ps:List MemPlace}
structure Cq(x:AD):Prop where
 k0:0≤x.kind
 k1:x.kind≤255
 r0:-9223372036854775808≤x.rho
 r1:x.rho≤9223372036854775807
 s1:x.exn.size≤9223372036854775807
end
end Go.Proofs.YtkdjnegfnhldpaaGreatDoor
