/- Part 05. -/
import Derived.Lib.SlicesCompact
import Derived.Lib.SliceRun
import Derived.Test.YtkdjnegfnhldpaaGreatDoorK04
set_option linter.unusedVariables false
set_option maxRecDepth 100000
set_option linter.unusedSimpArgs false
set_option maxHeartbeats 40000000
namespace Go.Proofs.YtkdjnegfnhldpaaGreatDoor
open Go.Proofs.Tryz Go.RowKit
section
open Go.Sort Go.Lib
theorem GO(w:World)(q:Nat)(row:Option Nat):w.grownBy (w.drewN q) row:=⟨rfl,rfl,rfl,Nat.le_refl _,fun _ _ _=>rfl⟩
theorem AZ{w:World}{g o:Nat}{cur:Array Value}{e:TypeId}{fr:Nat×Nat}(v:Value)(h:w.heap[g]?=some (.cells cur e fr)):(w.setCell ⟨g,o,none⟩ v).heap[g]?=some (.cells (cur.setIfInBounds o v) e fr):=by simp [World.setCell,Array.getElem?_modify,h]
theorem AL(w:World)(g o:Nat)(v:Value):w.grownBy (w.setCell ⟨g,o,none⟩ v) (some g):=by refine⟨rfl,rfl,rfl,by simp [World.setCell],fun k hk aS=>?_⟩;have:g≠k:=fun e=>aS (by rw [e]);simp [World.setCell,Array.getElem?_modify,this]
theorem IM{g:Nat}{e:TypeId}{fr:Nat×Nat}:∀(vs:List Value) (o:Nat) (w:World) (cur:Array Value),w.heap[g]?=some (.cells cur e fr)→∃cur',(w.setCells g o vs).heap[g]?=some (.cells cur' e fr)∧cur'.size=cur.size∧∀j,j<o→cur'[j]?=cur[j]?
 |[],o,w,cur,h=>⟨cur,h,rfl,fun _ _=>rfl⟩
 |v::r,o,w,cur,h=>by obtain⟨c',h1,h2,h3⟩:=IM r (o+1) _ _ (AZ (o:=o) v h);refine⟨c',h1,by simpa using h2,fun j hj=>?_⟩;rw [h3 j (by omega),Array.getElem?_setIfInBounds,if_neg (by omega)]
theorem Fz(g:Nat):∀(vs:List Value) (o:Nat) (w:World),w.grownBy (w.setCells g o vs) (some g)
 |[],_,_=>World.grownBy.refl _ _
 |v::r,o,w=>(AL w g o v).trans (Fz g r (o+1) _)
section
variable {α:Type} {enc:α→List Value} {k:Nat}
theorem AJ.at{w:World}{base e n g cap:Nat}{l:List α}(hk:∀x,(enc x).length=k)(h:AJ enc k w base e (.slice (some ⟨g,0,none⟩) n cap) n l){j:Nat}{x:α}(hx:l[j]?=some x){i:Nat}(hi:i<k):w.cell? ⟨g,j * k+i,none⟩=(enc x)[i]?∧w.frozen? ⟨g,j * k+i,none⟩=false:=by
 rcases h.2 with⟨h0,_⟩|⟨g',cap',cur,hv,hb,hg,hn,hm,hs,ht⟩
 ·cases h0
 ·cases hv
  refine⟨?_,by simp [World.frozen?,hg]⟩;have hf:=DN hk l j x i hx hi;rw [←ht] at hf
  have aF:j * k+i<n * k:=by
   have hj:=(List.getElem?_eq_some_iff.1 hx).1;have hl:l.length * k=n * k:=by rw [←Ao hk,h.1]
   have:(j+1) * k≤l.length * k:=Nat.mul_le_mul_right k hj;rw [Nat.add_mul] at this;omega
  rw [List.getElem?_take_of_lt aF] at hf;simp only [World.cell?,hg];simpa using hf
theorem AJ.cellSome{w:World}{base e n g cap:Nat}{l:List α}(h:AJ enc k w base e (.slice (some ⟨g,0,none⟩) n cap) n l){o:Nat}(ho:o<n * k):(w.cell? ⟨g,o,none⟩).isSome=true∧w.frozen? ⟨g,o,none⟩=false:=by
 rcases h.2 with⟨h0,_⟩|⟨g',cap',cur,hv,hb,hg,hn,hm,hs,ht⟩
 ·cases h0
 ·cases hv
  refine⟨?_,by simp [World.frozen?,hg]⟩;have:o<cur.size:=by rw [hs];exact Nat.lt_of_lt_of_le ho (Nat.mul_le_mul_right k hn)
  simp [World.cell?,hg,this]
theorem AJ.cut{w:World}{base e n g cap m:Nat}{l:List α}(hk:∀x,(enc x).length=k)(h:AJ enc k w base e (.slice (some ⟨g,0,none⟩) n cap) n l)(dM:l.length=n)(hm:m≤n):AJ enc k w base e (.slice (some ⟨g,0,none⟩) m cap) m (l.take m):=by
 rcases h.2 with⟨h0,_⟩|⟨g',cap',cur,hv,hb,hg,hn,co,hs,ht⟩
 ·cases h0
 ·cases hv
  have hl:((l.take m).flatMap enc).length=m * k:=by rw [Ao hk,List.length_take,Nat.min_eq_left (by omega)]
  refine⟨hl,.inr ⟨g,cap,cur,rfl,hb,hg,by omega,co,hs,?_⟩⟩;apply List.ext_getElem?;intro j;by_cases hj:j<m * k
  ·rw [List.getElem?_take_of_lt hj]
   have e1:(l.flatMap enc)[j]?=((l.take m).flatMap enc)[j]?:=by
    conv=>lhs;rw [←List.take_append_drop m l,List.flatMap_append]
    rw [List.getElem?_append_left (by rw [hl];exact hj)]
   rw [←e1,←ht,List.getElem?_take_of_lt (Nat.lt_of_lt_of_le hj (Nat.mul_le_mul_right k hm))]
  ·rw [List.getElem?_take_eq_none (by omega),List.getElem?_eq_none (by omega)]
theorem AJ.clearBehind{w:World}{base e g cap m:Nat}{l:List α}(hk:∀x,(enc x).length=k)(h:AJ enc k w base e (.slice (some ⟨g,0,none⟩) m cap) m l)(o:Nat)(vs:List Value)(ho:m * k≤o):AJ enc k (w.setCells g o vs) base e (.slice (some ⟨g,0,none⟩) m cap) m l:=by
 rcases h.2 with⟨h0,_⟩|⟨g',cap',cur,hv,hb,hg,hn,co,hs,ht⟩
 ·cases h0
 ·cases hv
  obtain⟨c',h1,h2,h3⟩:=IM vs o w cur hg;refine⟨h.1,.inr ⟨g,cap,c',rfl,hb,h1,hn,co,by rw [h2,hs],?_⟩⟩;rw [←ht];apply List.ext_getElem?;intro j;by_cases hj:j<m * k
  ·rw [List.getElem?_take_of_lt hj,List.getElem?_take_of_lt hj,Array.getElem?_toList,Array.getElem?_toList,h3 j (by omega)]
  ·rw [List.getElem?_take_eq_none (by omega),List.getElem?_take_eq_none (by omega)]
end
theorem AJ.setA{w:World}{base e n g cap:Nat}{l:List AD}(h:AJ AS 3 w base e (.slice (some ⟨g,0,none⟩) n cap) n l)(i:Nat)(x:AD)(hi:i<n):AJ AS 3 (((w.setCell ⟨g,i * 3,none⟩ (.int .u8 x.kind)).setCell ⟨g,i * 3+1,none⟩ (.int .i64 x.rho)).setCell ⟨g,i * 3+2,none⟩ (.string x.exn)) base e (.slice (some ⟨g,0,none⟩) n cap) n (l.set i x):=by
 have dM:=h.len AF (by omega);rcases h.2 with⟨h0,_⟩|⟨g',cap',cur,hv,hb,hg,hn,co,hs,ht⟩
 ·cases h0
 ·cases hv
  have hl:((l.set i x).flatMap AS).length=n * 3:=by rw [Ao AF,List.length_set,dM]
  refine⟨hl,.inr ⟨g,cap,_,rfl,hb,AZ _ (AZ _ (AZ _ hg)),hn,co,by simp [hs],?_⟩⟩;apply List.ext_getElem?;intro j;by_cases hj:j<n * 3
  ·rw [List.getElem?_take_of_lt hj,Array.getElem?_toList];have hq:j / 3<n:=by omega
   obtain⟨y,hy⟩:=AM (l:=l) (j:=j / 3) (by omega);have e0:j / 3 * 3+j % 3=j:=by omega
   have old:=DN AF l (j / 3) y (j % 3) hy (by omega);rw [e0,←ht,List.getElem?_take_of_lt hj,Array.getElem?_toList] at old;have am:j<cur.size:=by rw [hs];have:=Nat.mul_le_mul_right 3 hn;omega
   by_cases sf:j / 3=i
   ·have hx:(l.set i x)[j / 3]?=some x:=by rw [sf,List.getElem?_set_self (by omega)]
    have new:=DN AF _ (j / 3) x (j % 3) hx (by omega);rw [e0] at new;rw [new];rcases (by omega:j % 3=0∨j % 3=1∨j % 3=2) with r|r|r
    ·rw [r];simp [Array.getElem?_setIfInBounds,show i * 3+2≠j by omega,show i * 3+1≠j by omega,show i * 3=j by omega,am,AS]
    ·rw [r];simp [Array.getElem?_setIfInBounds,show i * 3+2≠j by omega,show i * 3+1=j by omega,show i * 3≠j by omega,am,AS]
    ·rw [r];simp [Array.getElem?_setIfInBounds,show i * 3+2=j by omega,show i * 3+1≠j by omega,show i * 3≠j by omega,am,AS]
   ·have hx:(l.set i x)[j / 3]?=some y:=by rw [List.getElem?_set_ne (by omega)];exact hy
    have new:=DN AF _ (j / 3) y (j % 3) hx (by omega);rw [e0] at new;rw [new,←old];simp [Array.getElem?_setIfInBounds,show i * 3+2≠j by omega,show i * 3+1≠j by omega,show i * 3≠j by omega]
  ·rw [List.getElem?_take_eq_none (by omega),List.getElem?_eq_none (by omega)]
theorem Oc(a b c:Value):∀n,(List.range (n * 3)).map (fun i=>(#[a,b,c]:Array Value)[i % 3]!)=(List.replicate n [a,b,c]).flatten
 |0=>rfl
 |n+1=>by rw [show (n+1) * 3=n * 3+1+1+1 by omega,List.range_succ,List.range_succ,List.range_succ,List.map_append,List.map_append,List.map_append,Oc a b c n,List.replicate_succ',List.flatten_append];simp [show (n * 3+1) % 3=1 by omega,show (n * 3+1+1) % 3=2 by omega]
theorem Ho(w:World)(ty:TypeId)(b o n c:Nat)(hn:0<n)(hc:∀j,j<n * 3→(w.cell? ⟨b,o+j,none⟩).isSome=true)(hf:∀j,j<n * 3→w.frozen? ⟨b,o+j,none⟩=false):(Builtin.clear_ #[25] ty #[.slice (some ⟨b,o,none⟩) n c]).run prog w=.ok (.tuple #[]) (w.setCells b o (List.replicate n [Value.int .u8 0,.int .i64 0,.string .empty]).flatten):=by
 have hz:∀w:World,(zeroValue 59).run prog w=.ok (.agg #[.int .u8 0,.int .i64 0,.string .empty]) w:=fun w=>by rfl
 have tS:(Builtin.zeroCells (Value.agg #[.int .u8 0,.int .i64 0,.string .empty]).cells n).toList=(List.replicate n [Value.int .u8 0,.int .i64 0,.string .empty]).flatten:=by rw [←Oc];simp [Builtin.zeroCells,Value.cells]
 have io:=run_storeCells_cells (P:=prog) b o (List.replicate n [Value.int .u8 0,.int .i64 0,.string .empty]).flatten 0 w (by simpa using hc) (by simpa using hf) (by
  intro v hv;obtain⟨l,hl,hv⟩:=List.mem_flatten.1 hv;rw [List.eq_of_mem_replicate hl] at hv;simp at hv;rcases hv with rfl|rfl|rfl<;>rfl)
 simp only [Nat.add_zero] at io;obtain⟨m,rfl⟩:∃m,n=m+1:=⟨n-1,by omega⟩;simp [Builtin.clear_,run_underlying (underlying25),hz,tS,io]
theorem DO{α:Type} [Inhabited α] [DecidableEq α] (d:Array α) (x:α):∀m,x∈compactUpTo d m↔∃j,j<m∧d[j]! = x
 |0=>by simp [compactUpTo]
 |m+1=>by
  rw [compactUpTo_succ,List.mem_append,DO d x m];constructor
  ·rintro(⟨j,hj,rfl⟩|h)
   ·exact⟨j,by omega,rfl⟩
   ·by_cases c:keeps d m=true
    ·rw [if_pos c] at h;exact⟨m,by omega,(List.mem_singleton.1 h).symm⟩
    ·rw [if_neg c] at h;simp at h
  ·rintro⟨j,hj,rfl⟩;by_cases e:j=m
   ·subst e;by_cases c:keeps d j=true
    ·rw [if_pos c];exact .inr (by simp)
    ·rw [if_neg c];have hc:¬(j=0∨d[j]!≠d[j-1]!):=by simpa [keeps] using c
     have h0:j≠0:=fun h=>hc (.inl h)
     have h1:d[j]! = d[j-1]!:=by
      by_cases h1:d[j]! = d[j-1]!
      ·exact h1
      ·exact absurd (.inr h1) hc
     exact .inl ⟨j-1,by omega,h1.symm⟩
   ·exact .inl ⟨j,by omega,rfl⟩
theorem EI{d:Array AD}(h:∀i j,i<j→j<d.size→AD.lt d[j]! d[i]! = false):∀m,m≤d.size→BX AD.lt (compactUpTo d m)
 |0,_=>by simp [compactUpTo,BX]
 |m+1,hm=>by
  rw [compactUpTo_succ];by_cases c:keeps d m=true
  ·rw [if_pos c];refine List.pairwise_append.2 ⟨EI h m (by omega),by simp,?_⟩;intro x hx y hy;obtain⟨j,hj,rfl⟩:=(DO d x m).1 hx;have:y=d[m]!:=by simpa using hy
   subst this;have hc:m=0∨d[m]!≠d[m-1]!:=by simpa [keeps] using c
   have aS:d[m]!≠d[m-1]!:=hc.resolve_left (by omega)
   have aF:AD.lt d[m-1]! d[m]! = true:=by
    cases e:AD.lt d[m-1]! d[m]! with
    |true=>rfl
    |false=>exact absurd (AD.lt_tri (h (m-1) m (by omega) (by omega)) e) aS
   by_cases e:j=m-1
   ·subst e;exact aF
   ·cases e2:AD.lt d[j]! d[m-1]! with
    |true=>exact AD.lt_trans e2 aF
    |false=>rw [AD.lt_tri e2 (h j (m-1) (by omega) (by omega))];exact aF
  ·rw [if_neg c,List.append_nil];exact EI h m (by omega)
theorem PE(l:List AD):(IT l).Pairwise (fun a b=>AD.lt b a=false):=by
 have:=List.pairwise_mergeSort (le:=fun x y=>!AD.lt y x) (fun a b c h1 h2=>by
  simp only [Bool.not_eq_true',] at *
  cases e:AD.lt c a with
  |false=>rfl
  |true=>
   cases e2:AD.lt b a with
   |true=>rw [e2] at h1;cases h1
   |false=>
    cases e3:AD.lt a b with
    |true=>rw [AD.lt_trans e e3] at h2;cases h2
    |false=>rw [AD.lt_tri e2 e3] at h2;rw [e] at h2;cases h2) (fun a b=>by
  cases e:AD.lt a b with
  |false=>simp
  |true=>
   cases e2:AD.lt b a with
   |false=>simp
   |true=>have:=AD.lt_trans e e2;rw [AD.lt_irrefl] at this;cases this) l
 refine this.imp ?_;intro a b h;simpa using h
theorem Nf(l:List AD):compact (IT l)=DR l:=by
 refine IJ ?_ ?_
 ·unfold compact;refine EI ?_ _ (by simp);intro i j nk hj;have f9:j<(IT l).length:=by simpa using hj
  rw [getElem!_pos _ j hj,getElem!_pos _ i (by omega)];simpa using List.pairwise_iff_getElem.1 (PE l) i j (by omega) f9 nk
 ·intro a;unfold compact;rw [DO];constructor
  ·rintro⟨j,hj,rfl⟩;rw [getElem!_pos _ j (by simpa using hj)];exact List.mem_mergeSort.1 (List.getElem_mem (l:=IT l) (by simpa using hj))
  ·intro ha;have:a∈IT l:=by simpa [IT] using ha
   obtain⟨j,hj,e⟩:=List.getElem_of_mem this;exact⟨j,hj,by rw [getElem!_pos _ j (by simpa using hj)];simpa using e⟩
theorem QG(g cap n:Nat)(l:List AD)(base:Nat)(w:World)(h:AJ AS 3 w base 59 (.slice (some ⟨g,0,none⟩) n cap) n l)(eH:n≤cap)(hn:n≤4611686018427387904) :
 Calls prog 146 #[.slice (some ⟨g,0,none⟩) n cap] w fun e w'=>∃m,e=.returned (.slice (some ⟨g,0,none⟩) m cap)∧m≤n∧AJ AS 3 w' base 59 (.slice (some ⟨g,0,none⟩) m cap) m (compact l)∧w.grownBy w' (some g):=by
 have hl:l.length=n:=h.len AF (by omega)
 generalize hd:l.toArray=d
 have lU:d.size=n:=by subst hd;simpa using hl
 have mY:∀j,j<n→l[j]?=some d[j]!:=fun j hj=>by subst hd;rw [getElem!_pos _ j (by simpa using(by omega:j<l.length))];simp
 have same:(∀j,j<n→keeps d j=true)→compact l=l:=fun bR=>by subst hd;exact compact_all l (fun j hj=>bR j (by omega))
 have SAME:=AA same
 have HO:=AA h
 have HL:=AA hl
 have HD:=AA hd
 have li:=AA lU
 have ls:=AA mY
 clear h same hl hd lU mY
 by_cases h2:n<2
 ·go_enter func146,ntmps146;go_wp2_with fail;go_ret;exact⟨n,rfl,Nat.le_refl _,by rw [SAME.out (fun j hj=>keeps_lt_one d j (by omega))];exact HO.o,World.grownBy.refl _ _⟩
 ·go_enter func146,ntmps146;go_wp2_with fail;go_loopw [3] (fun i wr=>∃k q:Nat,1≤k∧k≤n∧i=.int .i64 k∧wr=w.drewN q∧∀j,j<k→keeps d j=true) (fun i _=>n-(intOf i).toNat)
  case atStart=>exact⟨1,0,Nat.le_refl _,by omega,rfl,rfl,keeps_lt_one d⟩
  case round=>
   obtain⟨k,q,cQ,hk,rfl,rfl,bR⟩:=hrel;have ALL:=AA bR;clear bR;by_cases aF:k<n
   ·have HOq:=HO.o;have hx:=ls.o k aF;have hy:=ls.o (k-1) (by omega);generalize fJ:d[k]! = x at hx;generalize eh:d[k-1]! = y at hy;have B:=AA (⟨fJ,eh⟩:d[k]! = x∧d[k-1]! = y);have c0:=(HOq.at AF hx (i:=0) (by omega)).1;have c1:=(HOq.at AF hx (i:=1) (by omega)).1;have c2:=(HOq.at AF hx (i:=2) (by omega)).1;have b0:=(HOq.at AF hy (i:=0) (by omega)).1;have b1:=(HOq.at AF hy (i:=1) (by omega)).1;have b2:=(HOq.at AF hy (i:=2) (by omega)).1;simp only [AS,List.getElem?_cons_zero,List.getElem?_cons_succ,Nat.add_zero] at c0 c1 c2 b0 b1 b2;clear hx hy fJ eh HOq;have he:=fun W=>PW x y W;cases hq:NX x y
    ·go_wp2_with fail;go_quiet (fail);go_wp2_with fail;go_roundw
     case rel=>
      refine⟨k+1,_,by omega,by omega,by go_num,rfl,fun j hj=>?_⟩;by_cases e:j=k
      ·subst e;exact keeps_pos (by rw [B.out.1,B.out.2];simpa [NX] using hq)
      ·exact ALL.out j (by omega)
     case measure=>simp [intOf];omega
    ·go_wp2_with fail;go_quiet (fail);go_wp2_with fail;clear c0 c1 c2 b0 b1 b2 he;go_loopw [3,5] (fun s3 s5 wr=>∃(kk k2:Nat) (dk:Array AD),s3=.int .i64 kk∧s5=.int .i64 k2∧1≤k2∧k+k2≤n∧AJ AS 3 wr base 59 (.slice (some ⟨g,0,none⟩) n cap) n dk.toList∧w.grownBy wr (some g)∧CompInv d (k+k2) kk dk) (fun _ s5 _=>n-k-(intOf s5).toNat)
     case atStart=>exact⟨k,1,d,rfl,rfl,Nat.le_refl _,by omega,by have:=HO.o;rw [←HD.o];exact this.drewN _,GO w _ _,CompInv.start ALL.out (keeps_neg (by omega) (by rw [B.out.1,B.out.2];simpa [NX] using hq))⟩
     case round=>
      obtain⟨kk,k2,dk,rfl,rfl,h1,cB,aB,eP,hI⟩:=hrel;have dL:=hI.lt;have qS:=hI.size;have nj:=hI.high;have HW:=AA aB;have jg:=AA eP;have HI:=AA hI;have au:∀j,j<n→dk.toList[j]?=some dk[j]!:=fun j hj=>by rw [getElem!_pos dk j (by have:=li.o;omega)];simp [show j<dk.size by have:=li.o;omega]
      have lU:=li.o;by_cases ds:k+k2<n
      ·have hx:=au (k+k2) ds;have hy:=au (k+k2-1) (by omega);rw [nj _ (by omega)] at hx;rw [nj _ (by omega)] at hy;generalize fJ:d[k+k2]! = x2 at hx;generalize eh:d[k+k2-1]! = y2 at hy;have C:=AA (⟨fJ,eh⟩:d[k+k2]! = x2∧d[k+k2-1]! = y2);have c0:=(aB.at AF hx (i:=0) (by omega)).1;have c1:=(aB.at AF hx (i:=1) (by omega)).1;have c2:=(aB.at AF hx (i:=2) (by omega)).1;have b0:=(aB.at AF hy (i:=0) (by omega)).1;have b1:=(aB.at AF hy (i:=1) (by omega)).1;have b2:=(aB.at AF hy (i:=2) (by omega)).1;simp only [AS,List.getElem?_cons_zero,List.getElem?_cons_succ,Nat.add_zero] at c0 c1 c2 b0 b1 b2;rw [show (k+k2) * 3=k * 3+k2 * 3 by omega] at c0 c1 c2;rw [show (k+k2-1) * 3=k * 3+(k2-1) * 3 by omega] at b0 b1 b2;have he:=fun W=>Sq x2 y2 W;clear hx hy fJ eh au nj hI qS lU;cases ee:NX x2 y2
       ·have Q2:=AA ee;obtain⟨o0,f0⟩:=aB.cellSome (o:=kk * 3) (by omega);obtain⟨o1,f1⟩:=aB.cellSome (o:=kk * 3+1) (by omega);obtain⟨o2,f2⟩:=aB.cellSome (o:=kk * 3+2) (by omega);obtain⟨u0,o0⟩:=Option.isSome_iff_exists.1 o0;obtain⟨u1,o1⟩:=Option.isSome_iff_exists.1 o1;obtain⟨u2,o2⟩:=Option.isSome_iff_exists.1 o2;clear aB eP;go_wp2_with fail;go_quiet (fail);go_wp2_with fail;go_roundw
        case rel=>
         refine⟨kk+1,k2+1,dk.setIfInBounds kk x2,by go_num,by go_num,by omega,by omega,?_,?_,?_⟩
         ·rw [Array.toList_setIfInBounds];exact(HW.o.drewN _).setA kk x2 (by omega)
         ·exact jg.o.trans ((GO _ _ _).trans ((AL _ _ _ _).trans ((AL _ _ _ _).trans (AL _ _ _ _))))
         ·have:=HI.o.keep (by rw [li.o];omega) (keeps_pos (by rw [C.out.1,C.out.2];simpa [NX] using Q2.out));rw [C.out.1] at this;exact this
        case measure=>simp [intOf];omega
       ·have Q2:=AA ee;clear aB eP;go_wp2_with fail;go_quiet (fail);go_wp2_with fail;go_roundw
        case rel=>exact⟨kk,k2+1,dk,rfl,by go_num,by omega,by omega,HW.o.drewN _,jg.o.trans (GO _ _ _),by have:=HI.o.skip (keeps_neg (by omega) (by rw [C.out.1,C.out.2];simpa [NX] using Q2.out));exact this⟩
        case measure=>simp [intOf];omega
      ·have kx:k+k2=n:=by omega
       have de:=fun ty=>Ho wr ty g (kk * 3) (n-kk) (cap-kk) (by omega) (fun j hj=>(aB.cellSome (by omega)).1) (fun j hj=>(aB.cellSome (by omega)).2);clear aB eP au nj hI qS lU;go_wp2_with fail;go_ret;have hI:=HI.o;have lU:=li.o;have aG:=hI.len;have ib:=hI.low;have sh:=hI.lt;have sZ:=hI.size;rw [kx] at ib aG
       have mP:dk.toList.take kk=compact l:=by
        have e1:compact l=compactUpTo d n:=by unfold compact;rw [HL.o,HD.o]
        rw [e1];apply List.ext_getElem?;intro j;by_cases hj:j<kk
        ·rw [List.getElem?_take_of_lt hj,ib j hj,getElem!_pos dk j (by omega),Array.getElem?_toList,Array.getElem?_eq_getElem]
        ·rw [List.getElem?_take_eq_none (by omega),List.getElem?_eq_none (by omega)]
       refine⟨kk,rfl,by omega,?_,jg.o.trans (Fz _ _ _ _)⟩;have:=(AJ.cut (n:=n) (m:=kk) AF HW.o (by simp;omega) (by omega)).clearBehind AF (kk * 3) (List.replicate (n-kk) [Value.int .u8 0,.int .i64 0,.string .empty]).flatten (Nat.le_refl _);rw [mP] at this;exact this
   ·have ao:k=n:=by omega
    subst ao;go_wp2_with fail;go_ret;exact⟨k,rfl,Nat.le_refl _,by rw [SAME.out ALL.out];exact HO.o.drewN q,GO w q _⟩
end
section
open Go.Sort Go.Lib
theorem AJ.split{α:Type}{enc:α→List Value}{k:Nat}{w:World}{base e n:Nat}{v:Value}{l:List α}(hk:∀x,(enc x).length=k)(ba:0<k)(h:AJ enc k w base e v n l):(v=.slice none 0 0∧n=0∧l=[])∨∃g cap,v=.slice (some ⟨g,0,none⟩) n cap∧n≤cap∧base≤g:=by
 have hl:=h.len hk ba;rcases h.2 with⟨h0,h1⟩|⟨g,cap,cur,hv,hb,hg,hn,_⟩
 ·refine .inl ⟨h0,?_⟩;obtain⟨p,c,hv,jv,_⟩:=h.row hk ba;rw [h0] at hv;cases hv;exact⟨rfl,List.length_eq_zero_iff.1 hl⟩
 ·exact .inr ⟨g,cap,hv,hn,hb⟩
theorem PZ(w:World):Calls prog 145 #[.slice none 0 0,.func (.func 128) #[] #[]] w fun e w'=>e=.returned (.tuple #[])∧w'=w:=AnyF.slices_SortFunc_none { OW with } none 0 _ w
theorem QH(w:World):Calls prog 146 #[.slice none 0 0] w fun e w'=>e=.returned (.slice none 0 0)∧w'=w:=by go_enter func146,ntmps146;go_wp2_with fail;go_ret;exact⟨rfl,rfl⟩
theorem AJ.drop_base{α:Type}{enc:α→List Value}{k:Nat}{w w':World}{g base:Nat}{w0:World}(hg:w.grownBy w' (some g))(iU:base≤g)(hb:Below base w0 w)(hs:base≤w.heap.size):Below base w0 w':=hb.grown hg hs (fun k hk=>by cases hk;exact iU)
theorem CJ(p:Option Addr)(n cap:Nat)(l:List AD)(w:World)(hn:l.length=n)(hm:n≤1000000)(hr:CX w p l):Calls prog 100 #[.slice p n cap] w fun e w'=>∃v m,e=.returned v∧m≤n∧AJ AS 3 w' w.heap.size 59 v m (DR (l.filter AX))∧Below w.heap.size w w':=by
 have HR:=AA hr;have HN:=AA hn;clear hr hn;go_enter func100,ntmps100;go_wp2_with fail;go_loopw [3,8] (fun u i wr=>∃k m:Nat,k≤n∧i=.int .i64 k∧m≤k∧AJ AS 3 wr w.heap.size 59 u m ((l.take k).filter AX)∧Below w.heap.size w wr) (fun _ i _=>n-(intOf i).toNat)
 case atStart=>exact⟨0,0,by omega,rfl,by omega,AJ.nil _ _ _ _ _,Below.refl _ _⟩
 case round=>
  obtain⟨k,m,hk,rfl,j0,aB,hb⟩:=hrel;have aO:=AA aB;have HB:=AA hb;clear aB hb;by_cases aF:k<n
  ·obtain⟨x,hx⟩:=AM (l:=l) (j:=k) (by rw [HN.o];exact aF);have HE:=AA hx;obtain⟨b,o,rfl,aP,d0,d1,d2⟩:=CX.atom (HR.o.below HB.o) hx;clear hx aP;go_wp2_with fail;refine(Pz x _).mono ?_;rintro e w1 ⟨rfl,hb⟩;have aJ:Hd (Below w.heap.size w w1):=(HB.o.alloc HB.o.size _).trans (hb.mono (by have:=HB.o.size;simp;omega));have iQ:=AA ((aO.o.below ((Below.refl _ wr).alloc (Nat.le_refl _) (.cells #[.int .u8 x.kind,.int .i64 x.rho,.string x.exn] 59))).below hb);have f0:w1.cell? ⟨wr.heap.size,0,none⟩=some (.int .u8 x.kind):=by rw [hb.cell (by simp),AR];rfl
   have f1:w1.cell? ⟨wr.heap.size,1,none⟩=some (.int .i64 x.rho):=by rw [hb.cell (by simp),AR];rfl
   have f2:w1.cell? ⟨wr.heap.size,2,none⟩=some (.string x.exn):=by rw [hb.cell (by simp),AR];rfl
   clear hb d0 d1 d2;cases ha:AX x
   ·have HA:=AA ha;clear ha;go_wp2_with fail;go_roundw
    case rel=>exact⟨k+1,m,by omega,by go_num,by omega,by rw [AI HE.o,List.filter_append];simpa [HA.o] using iQ.o,aJ.o⟩
    case measure=>simp [intOf];omega
   ·have HA:=AA ha;clear ha;go_wp2_with (at_builtin;refine Ae rfl _ _ 25 rfl w.heap.size 59 _ 3 32 underlying25 CQ rfl (by decide) AS AF As x _ _ _ iQ.o rfl rfl ?c1 ?c2 ?c3 ?_)
    case c1=>omega
    case c2=>omega
    case c3=>exact aJ.o.size
    ·intro v' w4 aH hg;have HO:=AA aH;have av:=AA (Below.own aJ.o hg aJ.o.size iQ.o);clear aH hg f0 f1 f2;go_wp2_with fail;go_roundw
     case rel=>exact⟨k+1,m+1,by omega,by go_num,by omega,by rw [AI HE.o,List.filter_append];simpa [HA.o] using HO.o,av.o⟩
     case measure=>simp [intOf];omega
  ·have ao:k=n:=by omega
   subst ao;have HT:Hd ((l.take k).filter AX=l.filter AX):=by show (l.take k).filter AX=l.filter AX;rw [AP (by rw [HN.o];omega)]
   rcases aO.o.split AF (by omega) with⟨rfl,rfl,ag⟩|⟨g,cp,rfl,kv,iU⟩
   ·have fp:=AA ag;clear ag;go_wp2_with fail;refine(PZ _).mono ?_;rintro e w1 ⟨rfl,rfl⟩;go_wp2_with fail;refine(QH _).mono ?_;rintro e w2 ⟨rfl,rfl⟩;go_wp2_with fail;go_ret;exact⟨_,0,rfl,by omega,by rw [←HT.o,fp.o];exact AJ.nil _ _ _ _ _,HB.o⟩
   ·go_wp2_with fail;refine(PY g cp m _ w.heap.size wr aO.o (by omega)).mono ?_;rintro e w1 ⟨rfl,j2,ea⟩;have aJ:=AA (AJ.drop_base (enc:=AS) (k:=3) ea iU HB.o HB.o.size);have dN:=AA j2;clear j2 ea;go_wp2_with fail;refine(QG g cp m _ w.heap.size w1 dN.o kv (by omega)).mono ?_;rintro e w2 ⟨m',rfl,co,gm,a8⟩;have aK:=AA (AJ.drop_base (enc:=AS) (k:=3) a8 iU aJ.o aJ.o.size);have az:=AA gm;clear gm a8;go_wp2_with fail;go_ret;have h2:=az.o;rw [Nf,HT.o] at h2;exact⟨_,m',rfl,by omega,h2,aK.o⟩
theorem Jf(a x:AD):∀l:List AD,x∈CS a l↔x=a∨x∈l
 |[]=>by simp [CS]
 |b::l=>by
  unfold CS;by_cases h:AD.lt a b=true
  ·rw [if_pos h];simp
  ·rw [if_neg h,List.mem_cons,Jf a x l,List.mem_cons];constructor
   ·rintro(h|h|h)
    ·exact .inr (.inl h)
    ·exact .inl h
    ·exact .inr (.inr h)
   ·rintro(h|h|h)
    ·exact .inr (.inl h)
    ·exact .inl h
    ·exact .inr (.inr h)
theorem JK(a:AD):∀l:List AD,BX AD.lt l→a∉l→BX AD.lt (CS a l)
 |[],_,_=>by simp [CS,BX]
 |b::l,hr,hn=>by
  obtain⟨hb,hl⟩:=List.pairwise_cons.1 hr;unfold CS;by_cases h:AD.lt a b=true
  ·rw [if_pos h];refine List.pairwise_cons.2 ⟨fun x hx=>?_,hr⟩;rcases List.mem_cons.1 hx with rfl|hx
   ·exact h
   ·exact AD.lt_trans h (hb x hx)
  ·rw [if_neg h];refine List.pairwise_cons.2 ⟨fun x hx=>?_,JK a l hl (fun h=>hn (List.mem_cons_of_mem _ h))⟩;rcases (Jf a x l).1 hx with rfl|hx
   ·cases e:AD.lt b x with
    |true=>rfl
    |false=>exact absurd (List.mem_cons.2 (.inl (AD.lt_tri (by simpa using h) e))) hn
   ·exact hb x hx
theorem L9(l:List AD)(a:AD):LP l a=true↔a∈l:=by unfold LP NX;simp
theorem U4(a x:AD)(l:List AD):x∈D3 a l↔(x=a∧AX a=true)∨x∈l:=by
 unfold D3;by_cases h:(AX a&&!LP l a)=true
 ·rw [if_pos h,Jf];have:AX a=true:=by simp at h;exact h.1
  simp [this]
 ·rw [if_neg h];constructor
  ·exact .inr
  ·rintro(⟨rfl,ha⟩|h')
   ·have:LP l x=true:=by simpa [ha] using h
    exact(L9 l x).1 this
   ·exact h'
theorem Qr(a:AD)(l:List AD)(hr:BX AD.lt l):BX AD.lt (D3 a l):=by
 unfold D3;by_cases h:(AX a&&!LP l a)=true
 ·rw [if_pos h];refine JK a l hr (fun hm=>?_);rw [(L9 l a).2 hm] at h;simp at h
 ·rw [if_neg h];exact hr
theorem M8:∀(l e:List AD),BX AD.lt e→BX AD.lt (l.foldl (fun e a=>D3 a e) e)∧∀x,x∈l.foldl (fun e a=>D3 a e) e↔x∈e∨(x∈l∧AX x=true)
 |[],e,h=>⟨h,fun x=>by simp⟩
 |a::l,e,h=>by
  obtain⟨h1,h2⟩:=M8 l (D3 a e) (Qr a e h);refine⟨h1,fun x=>?_⟩;rw [List.foldl_cons,h2,U4,List.mem_cons];constructor
  ·rintro((⟨rfl,h⟩|h)|⟨h,h'⟩)
   ·exact .inr ⟨.inl rfl,h⟩
   ·exact .inl h
   ·exact .inr ⟨.inr h,h'⟩
  ·rintro(h|⟨rfl|h,h'⟩)
   ·exact .inl (.inr h)
   ·exact .inl (.inl ⟨rfl,h'⟩)
   ·exact .inr ⟨h,h'⟩
theorem Gk(l:List AD):EP l=DR (l.filter AX):=by obtain⟨h1,h2⟩:=M8 l [] (by simp [BX]);refine IJ h1 (fun x=>?_);show x∈l.foldl (fun e a=>D3 a e) []↔_;rw [h2,List.mem_filter];simp
end
theorem EK{a:AD}{r:Bool}(h:AX a=r)(w:World):Calls prog 127 #[.agg #[.int .u8 a.kind,.int .i64 a.rho,.string a.exn]] w (RB w (.bool r)):=by subst h;exact Pz a w
theorem RS(W:World)(q:Nat)(os':Array Obj):Below W.heap.size W (Go.Sort.grow (W.drewN q) os'):=⟨rfl,rfl,rfl,by simp [Go.Sort.grow],fun k hk=>by rw [Go.Sort.heap_grow_old _ _ (by simpa using hk)];rfl⟩
theorem MU{a b:AD}{r:Int}(h:MT a b=r)(w:World):Calls prog 128 #[.agg #[.int .u8 a.kind,.int .i64 a.rho,.string a.exn],.agg #[.int .u8 b.kind,.int .i64 b.rho,.string b.exn]] w (RB w (.int .i64 r)):=by subst h;refine(LG a b w).mono ?_;rintro e w' ⟨he,q,os',rfl⟩;exact⟨he,RS w q os'⟩
theorem MY(p:Option Addr)(n cap:Nat)(l:List AD)(w:World)(hn:l.length=n)(hm:n≤9223372036854775807)(hr:CX w p l):Calls prog 93 #[.slice p n cap] w fun e w'=>(∃r,e=.returned (.bool r)∧(r=true↔MF l n))∧Below w.heap.size w w':=by
 have HR:=AA hr;have HN:=AA hn;clear hr hn;go_enter func93,ntmps93;go_wp2_with fail;go_loopw [7] (fun i wr=>∃k:Nat,k≤n∧i=.int .i64 k∧MF l k∧Below w.heap.size w wr) (fun i _=>n-(intOf i).toNat)
 case atStart=>exact⟨0,by omega,rfl,⟨by simp,fun j _ _ h=>by omega⟩,Below.refl _ _⟩
 case round=>
  obtain⟨k,hk,rfl,ac,hb⟩:=hrel;have an:=AA ac;have HB:=AA hb;clear ac hb;by_cases aF:k<n
  ·obtain⟨x,hx⟩:=AM (l:=l) (j:=k) (by rw [HN.o];exact aF);have HE:=AA hx;obtain⟨b,o,rfl,aP,d0,d1,d2⟩:=CX.atom (HR.o.below HB.o) hx;have pc:=AA aP;clear hx aP;have v0:=fun g=>BL (a:=⟨wr.heap.size,0,none⟩) (v:=.int .u8 x.kind) (w:=wr.alloc (.cells #[.int .u8 x.kind,.int .i64 x.rho,.string x.exn] 59)) (by rw [AR];rfl) g;have v1:=fun g=>BL (a:=⟨wr.heap.size,1,none⟩) (v:=.int .i64 x.rho) (w:=wr.alloc (.cells #[.int .u8 x.kind,.int .i64 x.rho,.string x.exn] 59)) (by rw [AR];rfl) g;have v2:=fun g=>BL (a:=⟨wr.heap.size,2,none⟩) (v:=.string x.exn) (w:=wr.alloc (.cells #[.int .u8 x.kind,.int .i64 x.rho,.string x.exn] 59)) (by rw [AR];rfl) g;cases ha:AX x
   ·have HA:=AA ha;clear ha;have hW:=Dh (wr.alloc (.cells #[.int .u8 x.kind,.int .i64 x.rho,.string x.exn] 59));go_wp2_with fail;refine Aw (by kernel_rfl) (by kernel_rfl) ?_;repeat ((with_reducible refine wpQuiet_step (fun K hK=>?_));go_simp;refine hK _ ?_;clear hK K)
    refine wpQuiet_step (fun K hK=>?_);go_simp;refine⟨.bool false,fun _=>Ay (EK HA.o _),hK _ ?_⟩;clear hK K;repeat ((with_reducible refine wpQuiet_step (fun K hK=>?_));go_simp;refine hK _ ?_;clear hK K)
    refine wpQuiet_nil ?_;rintro w3 ⟨g,rfl⟩;have aV:=AA ((HB.o.alloc HB.o.size _).trans ((hW g).mono (by have:=HB.o.size;simp;omega)));clear hW;go_wp2_with fail;go_ret
    exact⟨⟨false,rfl,by
     constructor
     ·intro h;cases h
     ·intro h;have h1:=h.1;rw [AP (by rw [HN.o];omega),GM HE.o HA.o] at h1;cases h1⟩,aV.o⟩
   ·have HA:=AA ha;clear ha;have hW:=Dh (wr.alloc (.cells #[.int .u8 x.kind,.int .i64 x.rho,.string x.exn] 59));by_cases ba:k=0
    ·have hd:decide ((0:Int)<(k:Int))=false:=by simp;omega
     have o9:decide (0<k)=false:=by simp;omega
     have fO:=AA ba;clear ba;go_wp2_with fail;refine Aw (by kernel_rfl) (by kernel_rfl) ?_;repeat ((with_reducible refine wpQuiet_step (fun K hK=>?_));go_simp;refine hK _ ?_;clear hK K)
     refine wpQuiet_step (fun K hK=>?_);go_simp;refine⟨.bool true,fun _=>Ay (EK HA.o _),hK _ ?_⟩;clear hK K;repeat ((with_reducible refine wpQuiet_step (fun K hK=>?_));go_simp;refine hK _ ?_;clear hK K)
     refine wpQuiet_nil ?_;rintro w3 ⟨g,rfl⟩;have aV:=AA ((HB.o.alloc HB.o.size _).trans ((hW g).mono (by have:=HB.o.size;simp;omega)));clear hW;go_wp2_with fail;go_roundw
     case rel=>exact⟨k+1,by omega,by go_num,⟨by rw [CF HE.o,an.o.1,HA.o];rfl,fun j _ _ h=>by have:=fO.o;omega⟩,aV.o⟩
     case measure=>simp [intOf];omega
    ·obtain⟨y,hy⟩:=AM (l:=l) (j:=k-1) (by rw [HN.o];omega);have HY:=AA hy;obtain⟨b',o',bF,_,e0,e1,e2⟩:=CX.atom ((HR.o.below HB.o).alloc (.cells #[.int .u8 x.kind,.int .i64 x.rho,.string x.exn] 59)) hy;cases bF;have sa:=fun g=>BL e0 g;have sb:=fun g=>BL e1 g;have nh:=fun g=>BL e2 g;have cQ:Hd (0<k):=show 0<k by omega
     have hd:decide ((0:Int)<(k:Int))=true:=by simp;omega
     have o9:decide (0<k)=true:=by simp;omega
     have sk:0<k:=cQ.out;have a1:IntKind.i64.wrap ((k:Int)-1)=(k:Int)-1:=IntWalk.i64_in _ (by omega);have a2:(0:Int)≤(k:Int)-1:=by omega
     have a3:((k:Int)-1).toNat=k-1:=by omega
     have a4:(k:Int)-1<(n:Int):=by omega
     have a5:(1:Int)≤(k:Int):=by omega
     clear hy ba;have de:=SZ y x;generalize fz:MT y x=c at de;have pe:=AA fz;clear fz;cases hl:AD.lt y x
     ·have HL:=AA hl;rw [hl] at de;have nb:decide ((0:Int)≤c)=true:=by simp at de ⊢;omega
      clear hl de;go_wp2_with fail;refine Aw (by kernel_rfl) (by kernel_rfl) ?_;repeat ((with_reducible refine wpQuiet_step (fun K hK=>?_));go_simp;refine hK _ ?_;clear hK K)
      refine wpQuiet_step (fun K hK=>?_);go_simp;refine⟨.bool true,fun _=>Ay (EK HA.o _),hK _ ?_⟩;clear hK K;repeat ((with_reducible refine wpQuiet_step (fun K hK=>?_));go_simp;refine hK _ ?_;clear hK K)
      refine wpQuiet_step (fun K hK=>?_);go_simp;refine⟨.int .i64 c,fun _=>Ay (MU pe.o _),hK _ ?_⟩;clear hK K;repeat ((with_reducible refine wpQuiet_step (fun K hK=>?_));go_simp;refine hK _ ?_;clear hK K)
      refine wpQuiet_nil ?_;rintro w3 ⟨g,rfl⟩;have aV:=AA ((HB.o.alloc HB.o.size _).trans ((hW g).mono (by have:=HB.o.size;simp;omega)));clear hW;go_wp2_with fail;go_ret
      exact⟨⟨false,rfl,by
       constructor
       ·intro h;cases h
       ·intro h;have h1:=h.2 (k-1) y x (by have:=cQ.out;omega) HY.o (by rw [show k-1+1=k from by have:=cQ.out;omega];exact HE.o);rw [HL.o] at h1;cases h1⟩,aV.o⟩
     ·have HL:=AA hl;rw [hl] at de;have nb:decide ((0:Int)≤c)=false:=by simp at de ⊢;omega
      clear hl de;go_wp2_with fail;refine Aw (by kernel_rfl) (by kernel_rfl) ?_;repeat ((with_reducible refine wpQuiet_step (fun K hK=>?_));go_simp;refine hK _ ?_;clear hK K)
      refine wpQuiet_step (fun K hK=>?_);go_simp;refine⟨.bool true,fun _=>Ay (EK HA.o _),hK _ ?_⟩;clear hK K;repeat ((with_reducible refine wpQuiet_step (fun K hK=>?_));go_simp;refine hK _ ?_;clear hK K)
      refine wpQuiet_step (fun K hK=>?_);go_simp;refine⟨.int .i64 c,fun _=>Ay (MU pe.o _),hK _ ?_⟩;clear hK K;repeat ((with_reducible refine wpQuiet_step (fun K hK=>?_));go_simp;refine hK _ ?_;clear hK K)
      refine wpQuiet_nil ?_;rintro w3 ⟨g,rfl⟩;have aV:=AA ((HB.o.alloc HB.o.size _).trans ((hW g).mono (by have:=HB.o.size;simp;omega)));clear hW;go_wp2_with fail;go_roundw
      case rel=>exact⟨k+1,by omega,by go_num,⟨by rw [CF HE.o,an.o.1,HA.o];rfl,fun i u v hi hu hv=>by
       have cQ:=cQ.out;rcases (by omega:i=k-1∨i+1<k) with rfl|gi
       ·rw [HY.o] at hu;cases hu;rw [show k-1+1=k from by omega,HE.o] at hv;cases hv;exact HL.o
       ·exact an.o.2 i u v gi hu hv⟩,aV.o⟩
      case measure=>simp [intOf];omega
  ·go_wp2_with fail;go_ret;obtain rfl:k=n:=by omega
   exact⟨⟨true,rfl,by simp [an.o]⟩,HB.o⟩
theorem Om(l:List AD)(a:AD):l.any (fun x=>NX a x)=LP l a:=by unfold LP;congr 1;funext x;unfold NX;exact decide_eq_decide.2 ⟨fun h=>h.symm,fun h=>h.symm⟩
theorem Pv(p:Option Addr)(n cap:Nat)(l:List AD)(a:AD)(w:World)(hn:l.length=n)(hm:n≤9223372036854775807)(hr:CX w p l) :
 Calls prog 218 #[.slice p n cap,.agg #[.int .u8 a.kind,.int .i64 a.rho,.string a.exn]] w fun e w'=>(∃r:Int,e=.returned (.int .i64 r)∧(LP l a=decide (0≤r)))∧Below w.heap.size w w':=by
 have HR:=AA (hr.alloc (.cells #[.int .u8 a.kind,.int .i64 a.rho,.string a.exn] 59))
 have HN:=AA hn
 have HC:Hd (l.any (fun x=>NX a x)=LP l a):=Om l a
 clear hr hn
 go_enter func218,ntmps218
 go_wp2_with fail
 go_loopw [5,8] (fun _ i wr=>∃k:Nat,k≤n∧i=.int .i64 k∧(l.take k).any (fun x=>NX a x)=false∧∃q,wr=(w.alloc (.cells #[.int .u8 a.kind,.int .i64 a.rho,.string a.exn] 59)).drewN q) (fun _ i _=>n-(intOf i).toNat)
 case atStart=>exact⟨0,by omega,rfl,by simp,0,rfl⟩
 case round=>
  obtain⟨k,hk,rfl,ac,q,rfl⟩:=hrel;have an:=AA ac;clear ac;by_cases aF:k<n
  ·obtain⟨x,hx⟩:=AM (l:=l) (j:=k) (by rw [HN.o];exact aF);obtain⟨b,o,rfl,hb,c0,c1,c2⟩:=CX.atom HR.o hx;have HE:=AA hx;clear hx hb;have he:=fun W=>PW a x W;cases hq:NX a x
   ·go_wp2_with fail;go_quiet (fail);go_wp2_with fail;go_roundw
    case rel=>exact⟨k+1,by omega,by go_num,by rw [Av HE.o,an.o,hq];rfl,_,rfl⟩
    case measure=>simp [intOf];omega
   ·go_wp2_with fail;go_quiet (fail);go_wp2_with fail;go_ret;exact⟨⟨k,rfl,by rw [←HC.o,Ex HE.o hq];simp⟩,below_drewN (below_drewN bA _) _⟩
  ·go_wp2_with fail;go_ret;have h:=an.o;rw [AP (by rw [HN.o];omega)] at h;exact⟨⟨-1,rfl,by rw [←HC.o,h];simp⟩,below_drewN bA _⟩
theorem MI(p:Option Addr)(n cap:Nat)(l:List AD)(a:AD)(w:World)(hn:l.length=n)(hm:n≤9223372036854775807)(hr:CX w p l) :
 Calls prog 189 #[.slice p n cap,.agg #[.int .u8 a.kind,.int .i64 a.rho,.string a.exn]] w (RB w (.bool (LP l a))):=by
 have hc:=fun W h=>Pv p n cap l a W hn hm h
 have HR:=AA (hr.alloc (.cells #[.int .u8 a.kind,.int .i64 a.rho,.string a.exn] 59))
 generalize LP l a=r at hc ⊢
 have HC:=AA hc
 clear hr hn hc
 go_enter func189,ntmps189
 go_wp2_with fail
 refine(HC.o _ HR.o).mono ?_
 rintro e w1 ⟨⟨r',rfl,hr⟩,hb⟩
 have aa:=AA hr
 have HB:=AA (((Below.refl _ w).alloc (Nat.le_refl _) _).trans (hb.mono (by simp)))
 clear hr hb
 go_wp2_with fail
 go_ret
 exact⟨AB aa.o.symm,HB.o⟩
theorem RC(x:AD)(ad:Addr)(q:Option Addr)(m mc:Nat)(l:List AD)(w:World)(a6:w.cell? ad=some (.slice q m mc))(hn:l.length=m)(hm:m≤9223372036854775807)(hr:CX w q l):Calls prog 188 #[MJ x,.pointer (some ad)] w (RB w (.bool (AX x&&!LP l x))):=by
 have HX:=AA a6;have HR:=AA hr;have HN:=AA hn;clear hr hn;clear a6;cases ha:AX x
 ·have HA:=AA ha;clear ha;go_enter func188,ntmps188;go_wp2_with fail;refine(EK HA.o _).mono ?_;rintro e w1 ⟨rfl,hb⟩;have HB:=AA (((Below.refl _ w).alloc (Nat.le_refl _) _).trans (hb.mono (by simp)));clear hb;go_wp2_with fail;go_ret;exact⟨rfl,HB.o⟩
 ·have HA:=AA ha;clear ha;go_enter func188,ntmps188;go_wp2_with fail;refine(EK HA.o _).mono ?_;rintro e w1 ⟨rfl,hb⟩;have HB:=AA (((Below.refl _ w).alloc (Nat.le_refl _) (.cells #[.int .u8 x.kind,.int .i64 x.rho,.string x.exn] 59)).trans (hb.mono (by simp)));have f0:w1.cell? ⟨w.heap.size,0,none⟩=some (.int .u8 x.kind):=by rw [hb.cell (by simp),AR];rfl
  have f1:w1.cell? ⟨w.heap.size,1,none⟩=some (.int .i64 x.rho):=by rw [hb.cell (by simp),AR];rfl
  have f2:w1.cell? ⟨w.heap.size,2,none⟩=some (.string x.exn):=by rw [hb.cell (by simp),AR];rfl
  have eO:w1.cell? ad=some (.slice q m mc):=by rw [HB.o.cell (An HX.o)];exact HX.o
  clear hb;go_wp2_with fail;refine(MI q m mc l x w1 HN.o hm (HR.o.below HB.o)).mono ?_;rintro e w2 ⟨rfl,hb⟩;have aK:=bt HB hb;clear hb;go_wp2_with fail;go_ret;exact⟨rfl,aK.o⟩
theorem DY(p:Option Addr)(n cap:Nat)(l:List AD)(q:Option Addr)(m mc:Nat)(l':List AD)(w:World)(hn:l.length=n)(hm:n≤9223372036854775807)(hr:CX w p l)(ed:l'.length=m)(co:m≤9223372036854775807)(aT:CX w q l'):Calls prog 135 #[.slice p n cap,.slice q m mc] w (RB w (.bool (A1 l l'))):=by
 have hc:∀t,Calls prog 187 #[.slice p n cap,.func (.func 188) #[] #[.pointer (some ⟨w.heap.size,0,none⟩)]] (w.alloc (.cells #[.slice q m mc] t)) fun e w'=>
  e=.returned (.bool (l.any (fun x=>AX x&&!LP l' x)))∧Below (w.alloc (.cells #[.slice q m mc] t)).heap.size (w.alloc (.cells #[.slice q m mc] t)) w':=fun t=>
  JR 188 #[.pointer (some ⟨w.heap.size,0,none⟩)] (fun x=>AX x&&!LP l' x) (fun a w=>call188 a w) p n cap l _ hn hm (hr.alloc _)
   (fun x _ W hW=>by
    have:=RC x ⟨w.heap.size,0,none⟩ q m mc l' W (by rw [hW.cell (by simp),AR];rfl) ed co ((aT.alloc _).below hW);simpa using this)
 have he:Hd (A1 l l'=!l.any (fun x=>AX x&&!LP l' x)):=by show A1 l l'=_;unfold A1;rw [List.all_eq_not_any_not];congr 2;funext x;cases AX x<;>simp
 generalize l.any (fun x=>AX x&&!LP l' x)=r at hc he;have HC:=AA hc;clear hr hn hc aT ed;go_enter func135,ntmps135;go_wp2_with fail;refine(HC.o _).mono ?_;rintro e w1 ⟨rfl,hb⟩;have HB:=AA (((Below.refl _ w).alloc (Nat.le_refl _) _).trans (hb.mono (by simp)));clear hb;go_wp2_with fail;go_ret;exact⟨AB he.out.symm,HB.o⟩
theorem Gc{p:Option Addr}{n cap:Nat}{l:List AD}{q:Option Addr}{m mc:Nat}{l':List AD}{w:World}{r:Bool}(hq:A1 l l'=r)(hn:l.length=n)(hm:n≤9223372036854775807)(hr:CX w p l)(ed:l'.length=m)(co:m≤9223372036854775807)(aT:CX w q l'):Calls prog 135 #[.slice p n cap,.slice q m mc] w (RB w (.bool r)):=by subst hq;exact DY p n cap l q m mc l' w hn hm hr ed co aT
theorem Lh(p:Option Addr)(n cap:Nat)(l:List AD)(q:Option Addr)(m mc:Nat)(l':List AD)(w:World)(hn:l.length=n)(hm:n≤9223372036854775807)(hr:CX w p l)(ed:l'.length=m)(co:m≤9223372036854775807)(aT:CX w q l'):Calls prog 191 #[.slice p n cap,.slice q m mc] w (RB w (.bool (A1 l l'&&A1 l' l))):=by
 have HR:=AA hr;have HN:=AA hn;have cD:=AA aT;have iN:=AA ed;clear hr hn aT ed;cases ha:A1 l l'
 ·have HA:=AA ha;clear ha;go_enter func191,ntmps191;go_wp2_with fail;refine(Gc HA.o HN.o hm HR.o iN.out co cD.out).mono ?_;rintro e w1 ⟨rfl,hb⟩;have HB:=AA hb;clear hb;go_wp2_with fail;go_ret;exact⟨rfl,HB.o⟩
 ·have HA:=AA ha;clear ha;go_enter func191,ntmps191;go_wp2_with fail;refine(Gc HA.o HN.o hm HR.o iN.out co cD.out).mono ?_;rintro e w1 ⟨rfl,hb⟩;have HB:=AA hb;clear hb;go_wp2_with fail;refine(DY q m mc l' p n cap l w1 iN.out co (cD.out.below HB.o) HN.o hm (HR.o.below HB.o)).mono ?_;rintro e w2 ⟨rfl,hb⟩;have aK:=bt HB hb;clear hb;go_wp2_with fail;go_ret;exact⟨rfl,aK.o⟩
theorem C6(p:Option Addr)(n cap:Nat)(rows:List (Kc AD))(w:World)(hn:rows.length=n)(hm:n≤1000000)(hr:Au Fy 1 w p rows)(bY:∀r∈rows,r.Ok AS 3 w)(dA:(rows.map (·.n)).sum≤1000000):Calls prog 85 #[.slice p n cap] w fun e w'=>∃v m,e=.returned v∧m≤(rows.map (·.n)).sum∧AJ AS 3 w' w.heap.size 59 v m (DR ((rows.flatMap (·.l)).filter AX))∧Below w.heap.size w w':=by
 have HT:=AA dA;have hc:=Re p n cap rows w hn hm hr bY dA;have HC:=AA hc;clear hr hn bY hc dA;go_enter func85,ntmps85;go_wp2_with fail;refine HC.o.mono ?_;rintro e w1 ⟨v,rfl,ho,hb⟩;obtain⟨q,mc,rfl,hl,mn,aD,_⟩:=ho.row AF (by omega);have HL:=AA hl;have aL:=AA aD;have HB:=AA hb;clear hb;clear ho hl aD;generalize mH:(rows.map (·.n)).sum=S at *
 have bx:=AA mH;clear mH;have hS:=HT.o;go_wp2_with fail;refine(CJ q S mc _ w1 HL.o hS aL.o).mono ?_;rintro e w2 ⟨v,m,rfl,gB,aB,hb⟩;have HO:=AA (aB.lower HB.o.size);have aK:=bt HB hb;clear hb;clear aB;go_wp2_with fail;go_ret;exact⟨_,m,rfl,by rw [bx.o];exact gB,HO.o,aK.o⟩
end Go.Proofs.YtkdjnegfnhldpaaGreatDoor
