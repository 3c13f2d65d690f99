/- Part 05. -/
import Derived.Lib.SlicesCompact
import Derived.Lib.SliceRun
import Derived.Test.YtkdjnegfnhldpaaGreatDoorK04
set_option linter.unusedVariables false
set_option maxRecDepth 100000
set_option linter.unusedSimpArgs false
set_option maxHeartbeats 40000000
namespace Go.Proofs.YtkdjnegfnhldpaaGreatDoor
open Go.Proofs.Tryz Go.RowKit
section
open Go.Sort Go.Lib
theorem Ev(w:World)(q:Nat)(row:Option Nat):w.grownBy (w.drewN q) row:=⟨rfl,rfl,rfl,Nat.le_refl _,fun _ _ _=>rfl⟩
theorem AK{w:World}{g o:Nat}{cur:Array Value}{e:TypeId}{fr:Nat×Nat}(v:Value)(h:w.heap[g]?=some (.cells cur e fr)):(w.setCell ⟨g,o,none⟩ v).heap[g]?=some (.cells (cur.setIfInBounds o v) e fr):=by simp [World.setCell,Array.getElem?_modify,h]
theorem AG(w:World)(g o:Nat)(v:Value):w.grownBy (w.setCell ⟨g,o,none⟩ v) (some g):=by refine⟨rfl,rfl,rfl,by simp [World.setCell],fun k hk aR=>?_⟩;have:g≠k:=fun e=>aR (by rw [e]);simp [World.setCell,Array.getElem?_modify,this]
theorem GN{g:Nat}{e:TypeId}{fr:Nat×Nat}:∀(vs:List Value) (o:Nat) (w:World) (cur:Array Value),w.heap[g]?=some (.cells cur e fr)→∃cur',(w.setCells g o vs).heap[g]?=some (.cells cur' e fr)∧cur'.size=cur.size∧∀j,j<o→cur'[j]?=cur[j]?
 |[],o,w,cur,h=>⟨cur,h,rfl,fun _ _=>rfl⟩
 |v::r,o,w,cur,h=>by obtain⟨c',h1,h2,h3⟩:=GN r (o+1) _ _ (AK (o:=o) v h);refine⟨c',h1,by simpa using h2,fun j hj=>?_⟩;rw [h3 j (by omega),Array.getElem?_setIfInBounds,if_neg (by omega)]
theorem Cq(g:Nat):∀(vs:List Value) (o:Nat) (w:World),w.grownBy (w.setCells g o vs) (some g)
 |[],_,_=>World.grownBy.refl _ _
 |v::r,o,w=>(AG w g o v).trans (Cq g r (o+1) _)
section
variable {α:Type} {enc:α→List Value} {k:Nat}
theorem AI.at{w:World}{base e n g cap:Nat}{l:List α}(hk:∀x,(enc x).length=k)(h:AI enc k w base e (.slice (some ⟨g,0,none⟩) n cap) n l){j:Nat}{x:α}(hx:l[j]?=some x){i:Nat}(hi:i<k):w.cell? ⟨g,j * k+i,none⟩=(enc x)[i]?∧w.frozen? ⟨g,j * k+i,none⟩=false:=by
 rcases h.2 with⟨h0,_⟩|⟨g',cap',cur,hv,hb,hg,hn,hm,hs,ht⟩
 ·cases h0
 ·cases hv
  refine⟨?_,by simp [World.frozen?,hg]⟩;have hf:=CY hk l j x i hx hi;rw [←ht] at hf
  have aG:j * k+i<n * k:=by
   have hj:=(List.getElem?_eq_some_iff.1 hx).1;have hl:l.length * k=n * k:=by rw [←Aj hk,h.1]
   have:(j+1) * k≤l.length * k:=Nat.mul_le_mul_right k hj;rw [Nat.add_mul] at this;omega
  rw [List.getElem?_take_of_lt aG] at hf;simp only [World.cell?,hg];simpa using hf
theorem AI.cellSome{w:World}{base e n g cap:Nat}{l:List α}(h:AI enc k w base e (.slice (some ⟨g,0,none⟩) n cap) n l){o:Nat}(ho:o<n * k):(w.cell? ⟨g,o,none⟩).isSome=true∧w.frozen? ⟨g,o,none⟩=false:=by
 rcases h.2 with⟨h0,_⟩|⟨g',cap',cur,hv,hb,hg,hn,hm,hs,ht⟩
 ·cases h0
 ·cases hv
  refine⟨?_,by simp [World.frozen?,hg]⟩;have:o<cur.size:=by rw [hs];exact Nat.lt_of_lt_of_le ho (Nat.mul_le_mul_right k hn)
  simp [World.cell?,hg,this]
theorem AI.cut{w:World}{base e n g cap m:Nat}{l:List α}(hk:∀x,(enc x).length=k)(h:AI enc k w base e (.slice (some ⟨g,0,none⟩) n cap) n l)(cP:l.length=n)(hm:m≤n):AI enc k w base e (.slice (some ⟨g,0,none⟩) m cap) m (l.take m):=by
 rcases h.2 with⟨h0,_⟩|⟨g',cap',cur,hv,hb,hg,hn,cq,hs,ht⟩
 ·cases h0
 ·cases hv
  have hl:((l.take m).flatMap enc).length=m * k:=by rw [Aj hk,List.length_take,Nat.min_eq_left (by omega)]
  refine⟨hl,.inr ⟨g,cap,cur,rfl,hb,hg,by omega,cq,hs,?_⟩⟩;apply List.ext_getElem?;intro j;by_cases hj:j<m * k
  ·rw [List.getElem?_take_of_lt hj]
   have e1:(l.flatMap enc)[j]?=((l.take m).flatMap enc)[j]?:=by
    conv=>lhs;rw [←List.take_append_drop m l,List.flatMap_append]
    rw [List.getElem?_append_left (by rw [hl];exact hj)]
   rw [←e1,←ht,List.getElem?_take_of_lt (Nat.lt_of_lt_of_le hj (Nat.mul_le_mul_right k hm))]
  ·rw [List.getElem?_take_eq_none (by omega),List.getElem?_eq_none (by omega)]
theorem AI.clearBehind{w:World}{base e g cap m:Nat}{l:List α}(hk:∀x,(enc x).length=k)(h:AI enc k w base e (.slice (some ⟨g,0,none⟩) m cap) m l)(o:Nat)(vs:List Value)(ho:m * k≤o):AI enc k (w.setCells g o vs) base e (.slice (some ⟨g,0,none⟩) m cap) m l:=by
 rcases h.2 with⟨h0,_⟩|⟨g',cap',cur,hv,hb,hg,hn,cq,hs,ht⟩
 ·cases h0
 ·cases hv
  obtain⟨c',h1,h2,h3⟩:=GN vs o w cur hg;refine⟨h.1,.inr ⟨g,cap,c',rfl,hb,h1,hn,cq,by rw [h2,hs],?_⟩⟩;rw [←ht];apply List.ext_getElem?;intro j;by_cases hj:j<m * k
  ·rw [List.getElem?_take_of_lt hj,List.getElem?_take_of_lt hj,Array.getElem?_toList,Array.getElem?_toList,h3 j (by omega)]
  ·rw [List.getElem?_take_eq_none (by omega),List.getElem?_take_eq_none (by omega)]
end
theorem AI.setA{w:World}{base e n g cap:Nat}{l:List AB}(h:AI AP 3 w base e (.slice (some ⟨g,0,none⟩) n cap) n l)(i:Nat)(x:AB)(hi:i<n):AI AP 3 (((w.setCell ⟨g,i * 3,none⟩ (.int .u8 x.kind)).setCell ⟨g,i * 3+1,none⟩ (.int .i64 x.rho)).setCell ⟨g,i * 3+2,none⟩ (.string x.exn)) base e (.slice (some ⟨g,0,none⟩) n cap) n (l.set i x):=by
 have cP:=h.len AC (by omega);rcases h.2 with⟨h0,_⟩|⟨g',cap',cur,hv,hb,hg,hn,cq,hs,ht⟩
 ·cases h0
 ·cases hv
  have hl:((l.set i x).flatMap AP).length=n * 3:=by rw [Aj AC,List.length_set,cP]
  refine⟨hl,.inr ⟨g,cap,_,rfl,hb,AK _ (AK _ (AK _ hg)),hn,cq,by simp [hs],?_⟩⟩;apply List.ext_getElem?;intro j;by_cases hj:j<n * 3
  ·rw [List.getElem?_take_of_lt hj,Array.getElem?_toList];have hq:j / 3<n:=by omega
   obtain⟨y,hy⟩:=Ac (l:=l) (j:=j / 3) (by omega);have e0:j / 3 * 3+j % 3=j:=by omega
   have old:=CY AC l (j / 3) y (j % 3) hy (by omega);rw [e0,←ht,List.getElem?_take_of_lt hj,Array.getElem?_toList] at old;have ao:j<cur.size:=by rw [hs];have:=Nat.mul_le_mul_right 3 hn;omega
   by_cases pL:j / 3=i
   ·have hx:(l.set i x)[j / 3]?=some x:=by rw [pL,List.getElem?_set_self (by omega)]
    have new:=CY AC _ (j / 3) x (j % 3) hx (by omega);rw [e0] at new;rw [new];rcases (by omega:j % 3=0∨j % 3=1∨j % 3=2) with r|r|r
    ·rw [r];simp [Array.getElem?_setIfInBounds,show i * 3+2≠j by omega,show i * 3+1≠j by omega,show i * 3=j by omega,ao,AP]
    ·rw [r];simp [Array.getElem?_setIfInBounds,show i * 3+2≠j by omega,show i * 3+1=j by omega,show i * 3≠j by omega,ao,AP]
    ·rw [r];simp [Array.getElem?_setIfInBounds,show i * 3+2=j by omega,show i * 3+1≠j by omega,show i * 3≠j by omega,ao,AP]
   ·have hx:(l.set i x)[j / 3]?=some y:=by rw [List.getElem?_set_ne (by omega)];exact hy
    have new:=CY AC _ (j / 3) y (j % 3) hx (by omega);rw [e0] at new;rw [new,←old];simp [Array.getElem?_setIfInBounds,show i * 3+2≠j by omega,show i * 3+1≠j by omega,show i * 3≠j by omega]
  ·rw [List.getElem?_take_eq_none (by omega),List.getElem?_eq_none (by omega)]
theorem MM(a b c:Value):∀n,(List.range (n * 3)).map (fun i=>(#[a,b,c]:Array Value)[i % 3]!)=(List.replicate n [a,b,c]).flatten
 |0=>rfl
 |n+1=>by rw [show (n+1) * 3=n * 3+1+1+1 by omega,List.range_succ,List.range_succ,List.range_succ,List.map_append,List.map_append,List.map_append,MM a b c n,List.replicate_succ',List.flatten_append];simp [show (n * 3+1) % 3=1 by omega,show (n * 3+1+1) % 3=2 by omega]
theorem Ft(w:World)(ty:TypeId)(b o n c:Nat)(hn:0<n)(hc:∀j,j<n * 3→(w.cell? ⟨b,o+j,none⟩).isSome=true)(hf:∀j,j<n * 3→w.frozen? ⟨b,o+j,none⟩=false):(Builtin.clear_ #[25] ty #[.slice (some ⟨b,o,none⟩) n c]).run prog w=.ok (.tuple #[]) (w.setCells b o (List.replicate n [Value.int .u8 0,.int .i64 0,.string .empty]).flatten):=by
 have hz:∀w:World,(zeroValue 59).run prog w=.ok (.agg #[.int .u8 0,.int .i64 0,.string .empty]) w:=fun w=>by rfl
 have po:(Builtin.zeroCells (Value.agg #[.int .u8 0,.int .i64 0,.string .empty]).cells n).toList=(List.replicate n [Value.int .u8 0,.int .i64 0,.string .empty]).flatten:=by rw [←MM];simp [Builtin.zeroCells,Value.cells]
 have fj:=run_storeCells_cells (P:=prog) b o (List.replicate n [Value.int .u8 0,.int .i64 0,.string .empty]).flatten 0 w (by simpa using hc) (by simpa using hf) (by
  intro v hv;obtain⟨l,hl,hv⟩:=List.mem_flatten.1 hv;rw [List.eq_of_mem_replicate hl] at hv;simp at hv;rcases hv with rfl|rfl|rfl<;>rfl)
 simp only [Nat.add_zero] at fj;obtain⟨m,rfl⟩:∃m,n=m+1:=⟨n-1,by omega⟩;simp [Builtin.clear_,run_underlying (underlying25),hz,po,fj]
theorem Ca{α:Type} [Inhabited α] [DecidableEq α] (d:Array α) (x:α):∀m,x∈compactUpTo d m↔∃j,j<m∧d[j]! = x
 |0=>by simp [compactUpTo]
 |m+1=>by
  rw [compactUpTo_succ,List.mem_append,Ca d x m];constructor
  ·rintro(⟨j,hj,rfl⟩|h)
   ·exact⟨j,by omega,rfl⟩
   ·by_cases c:keeps d m=true
    ·rw [if_pos c] at h;exact⟨m,by omega,(List.mem_singleton.1 h).symm⟩
    ·rw [if_neg c] at h;simp at h
  ·rintro⟨j,hj,rfl⟩;by_cases e:j=m
   ·subst e;by_cases c:keeps d j=true
    ·rw [if_pos c];exact .inr (by simp)
    ·rw [if_neg c];have hc:¬(j=0∨d[j]!≠d[j-1]!):=by simpa [keeps] using c
     have h0:j≠0:=fun h=>hc (.inl h)
     have h1:d[j]! = d[j-1]!:=by
      by_cases h1:d[j]! = d[j-1]!
      ·exact h1
      ·exact absurd (.inr h1) hc
     exact .inl ⟨j-1,by omega,h1.symm⟩
   ·exact .inl ⟨j,by omega,rfl⟩
theorem DO{d:Array AB}(h:∀i j,i<j→j<d.size→AB.lt d[j]! d[i]! = false):∀m,m≤d.size→A9 AB.lt (compactUpTo d m)
 |0,_=>by simp [compactUpTo,A9]
 |m+1,hm=>by
  rw [compactUpTo_succ];by_cases c:keeps d m=true
  ·rw [if_pos c];refine List.pairwise_append.2 ⟨DO h m (by omega),by simp,?_⟩;intro x hx y hy;obtain⟨j,hj,rfl⟩:=(Ca d x m).1 hx;have:y=d[m]!:=by simpa using hy
   subst this;have hc:m=0∨d[m]!≠d[m-1]!:=by simpa [keeps] using c
   have aR:d[m]!≠d[m-1]!:=hc.resolve_left (by omega)
   have aG:AB.lt d[m-1]! d[m]! = true:=by
    cases e:AB.lt d[m-1]! d[m]! with
    |true=>rfl
    |false=>exact absurd (AB.lt_tri (h (m-1) m (by omega) (by omega)) e) aR
   by_cases e:j=m-1
   ·subst e;exact aG
   ·cases e2:AB.lt d[j]! d[m-1]! with
    |true=>exact AB.lt_trans e2 aG
    |false=>rw [AB.lt_tri e2 (h j (m-1) (by omega) (by omega))];exact aG
  ·rw [if_neg c,List.append_nil];exact DO h m (by omega)
theorem Mw(l:List AB):(GT l).Pairwise (fun a b=>AB.lt b a=false):=by
 have:=List.pairwise_mergeSort (le:=fun x y=>!AB.lt y x) (fun a b c h1 h2=>by
  simp only [Bool.not_eq_true',] at *
  cases e:AB.lt c a with
  |false=>rfl
  |true=>
   cases e2:AB.lt b a with
   |true=>rw [e2] at h1;cases h1
   |false=>
    cases e3:AB.lt a b with
    |true=>rw [AB.lt_trans e e3] at h2;cases h2
    |false=>rw [AB.lt_tri e2 e3] at h2;rw [e] at h2;cases h2) (fun a b=>by
  cases e:AB.lt a b with
  |false=>simp
  |true=>
   cases e2:AB.lt b a with
   |false=>simp
   |true=>have:=AB.lt_trans e e2;rw [AB.lt_irrefl] at this;cases this) l
 refine this.imp ?_;intro a b h;simpa using h
theorem LL(l:List AB):compact (GT l)=Cv l:=by
 refine IM ?_ ?_
 ·unfold compact;refine DO ?_ _ (by simp);intro i j kb hj;have eC:j<(GT l).length:=by simpa using hj
  rw [getElem!_pos _ j hj,getElem!_pos _ i (by omega)];simpa using List.pairwise_iff_getElem.1 (Mw l) i j (by omega) eC kb
 ·intro a;unfold compact;rw [Ca];constructor
  ·rintro⟨j,hj,rfl⟩;rw [getElem!_pos _ j (by simpa using hj)];exact List.mem_mergeSort.1 (List.getElem_mem (l:=GT l) (by simpa using hj))
  ·intro ha;have:a∈GT l:=by simpa [GT] using ha
   obtain⟨j,hj,e⟩:=List.getElem_of_mem this;exact⟨j,hj,by rw [getElem!_pos _ j (by simpa using hj)];simpa using e⟩
theorem Nv(g cap n:Nat)(l:List AB)(base:Nat)(w:World)(h:AI AP 3 w base 59 (.slice (some ⟨g,0,none⟩) n cap) n l)(ci:n≤cap)(hn:n≤4611686018427387904) :
 Calls prog 146 #[.slice (some ⟨g,0,none⟩) n cap] w fun e w'=>∃m,e=.returned (.slice (some ⟨g,0,none⟩) m cap)∧m≤n∧AI AP 3 w' base 59 (.slice (some ⟨g,0,none⟩) m cap) m (compact l)∧w.grownBy w' (some g):=by
 have hl:l.length=n:=h.len AC (by omega)
 generalize hd:l.toArray=d
 have ij:d.size=n:=by subst hd;simpa using hl
 have jh:∀j,j<n→l[j]?=some d[j]!:=fun j hj=>by subst hd;rw [getElem!_pos _ j (by simpa using(by omega:j<l.length))];simp
 have same:(∀j,j<n→keeps d j=true)→compact l=l:=fun bg=>by subst hd;exact compact_all l (fun j hj=>bg j (by omega))
 have SAME:=AA same
 have HO:=AA h
 have HL:=AA hl
 have HD:=AA hd
 have i2:=AA ij
 have i8:=AA jh
 clear h same hl hd ij jh
 by_cases h2:n<2
 ·go_enter func146,ntmps146;go_wp2_with fail;go_ret;exact⟨n,rfl,Nat.le_refl _,by rw [SAME.out (fun j hj=>keeps_lt_one d j (by omega))];exact HO.o,World.grownBy.refl _ _⟩
 ·go_enter func146,ntmps146;go_wp2_with fail;go_loopw [3] (fun i wr=>∃k q:Nat,1≤k∧k≤n∧i=.int .i64 k∧wr=w.drewN q∧∀j,j<k→keeps d j=true) (fun i _=>n-(intOf i).toNat)
  case atStart=>exact⟨1,0,Nat.le_refl _,by omega,rfl,rfl,keeps_lt_one d⟩
  case round=>
   obtain⟨k,q,cZ,hk,rfl,rfl,bg⟩:=hrel;have ALL:=AA bg;clear bg;by_cases aG:k<n
   ·have HOq:=HO.o;have hx:=i8.o k aG;have hy:=i8.o (k-1) (by omega);generalize eH:d[k]! = x at hx;generalize b9:d[k-1]! = y at hy;have B:=AA (⟨eH,b9⟩:d[k]! = x∧d[k-1]! = y);have c0:=(HOq.at AC hx (i:=0) (by omega)).1;have c1:=(HOq.at AC hx (i:=1) (by omega)).1;have c2:=(HOq.at AC hx (i:=2) (by omega)).1;have b0:=(HOq.at AC hy (i:=0) (by omega)).1;have b1:=(HOq.at AC hy (i:=1) (by omega)).1;have b2:=(HOq.at AC hy (i:=2) (by omega)).1;simp only [AP,List.getElem?_cons_zero,List.getElem?_cons_succ,Nat.add_zero] at c0 c1 c2 b0 b1 b2;clear hx hy eH b9 HOq;have he:=fun W=>NA x y W;cases hq:Mg x y
    ·go_wp2_with fail;go_quiet (fail);go_wp2_with fail;go_roundw
     case rel=>
      refine⟨k+1,_,by omega,by omega,by go_num,rfl,fun j hj=>?_⟩;by_cases e:j=k
      ·subst e;exact keeps_pos (by rw [B.out.1,B.out.2];simpa [Mg] using hq)
      ·exact ALL.out j (by omega)
     case measure=>simp [intOf];omega
    ·go_wp2_with fail;go_quiet (fail);go_wp2_with fail;clear c0 c1 c2 b0 b1 b2 he;go_loopw [3,5] (fun s3 s5 wr=>∃(kk k2:Nat) (dk:Array AB),s3=.int .i64 kk∧s5=.int .i64 k2∧1≤k2∧k+k2≤n∧AI AP 3 wr base 59 (.slice (some ⟨g,0,none⟩) n cap) n dk.toList∧w.grownBy wr (some g)∧CompInv d (k+k2) kk dk) (fun _ s5 _=>n-k-(intOf s5).toNat)
     case atStart=>exact⟨k,1,d,rfl,rfl,Nat.le_refl _,by omega,by have:=HO.o;rw [←HD.o];exact this.drewN _,Ev w _ _,CompInv.start ALL.out (keeps_neg (by omega) (by rw [B.out.1,B.out.2];simpa [Mg] using hq))⟩
     case round=>
      obtain⟨kk,k2,dk,rfl,rfl,h1,dC,aD,cV,hI⟩:=hrel;have nM:=hI.lt;have my:=hI.size;have ka:=hI.high;have HW:=AA aD;have du:=AA cV;have HI:=AA hI;have bG:∀j,j<n→dk.toList[j]?=some dk[j]!:=fun j hj=>by rw [getElem!_pos dk j (by have:=i2.o;omega)];simp [show j<dk.size by have:=i2.o;omega]
      have ij:=i2.o;by_cases dQ:k+k2<n
      ·have hx:=bG (k+k2) dQ;have hy:=bG (k+k2-1) (by omega);rw [ka _ (by omega)] at hx;rw [ka _ (by omega)] at hy;generalize eH:d[k+k2]! = x2 at hx;generalize b9:d[k+k2-1]! = y2 at hy;have C:=AA (⟨eH,b9⟩:d[k+k2]! = x2∧d[k+k2-1]! = y2);have c0:=(aD.at AC hx (i:=0) (by omega)).1;have c1:=(aD.at AC hx (i:=1) (by omega)).1;have c2:=(aD.at AC hx (i:=2) (by omega)).1;have b0:=(aD.at AC hy (i:=0) (by omega)).1;have b1:=(aD.at AC hy (i:=1) (by omega)).1;have b2:=(aD.at AC hy (i:=2) (by omega)).1;simp only [AP,List.getElem?_cons_zero,List.getElem?_cons_succ,Nat.add_zero] at c0 c1 c2 b0 b1 b2;rw [show (k+k2) * 3=k * 3+k2 * 3 by omega] at c0 c1 c2;rw [show (k+k2-1) * 3=k * 3+(k2-1) * 3 by omega] at b0 b1 b2;have he:=fun W=>Ug x2 y2 W;clear hx hy eH b9 bG ka hI my ij;cases dK:Mg x2 y2
       ·have Q2:=AA dK;obtain⟨o0,f0⟩:=aD.cellSome (o:=kk * 3) (by omega);obtain⟨o1,f1⟩:=aD.cellSome (o:=kk * 3+1) (by omega);obtain⟨o2,f2⟩:=aD.cellSome (o:=kk * 3+2) (by omega);obtain⟨u0,o0⟩:=Option.isSome_iff_exists.1 o0;obtain⟨u1,o1⟩:=Option.isSome_iff_exists.1 o1;obtain⟨u2,o2⟩:=Option.isSome_iff_exists.1 o2;clear aD cV;go_wp2_with fail;go_quiet (fail);go_wp2_with fail;go_roundw
        case rel=>
         refine⟨kk+1,k2+1,dk.setIfInBounds kk x2,by go_num,by go_num,by omega,by omega,?_,?_,?_⟩
         ·rw [Array.toList_setIfInBounds];exact(HW.o.drewN _).setA kk x2 (by omega)
         ·exact du.o.trans ((Ev _ _ _).trans ((AG _ _ _ _).trans ((AG _ _ _ _).trans (AG _ _ _ _))))
         ·have:=HI.o.keep (by rw [i2.o];omega) (keeps_pos (by rw [C.out.1,C.out.2];simpa [Mg] using Q2.out));rw [C.out.1] at this;exact this
        case measure=>simp [intOf];omega
       ·have Q2:=AA dK;clear aD cV;go_wp2_with fail;go_quiet (fail);go_wp2_with fail;go_roundw
        case rel=>exact⟨kk,k2+1,dk,rfl,by go_num,by omega,by omega,HW.o.drewN _,du.o.trans (Ev _ _ _),by have:=HI.o.skip (keeps_neg (by omega) (by rw [C.out.1,C.out.2];simpa [Mg] using Q2.out));exact this⟩
        case measure=>simp [intOf];omega
      ·have iL:k+k2=n:=by omega
       have cj:=fun ty=>Ft wr ty g (kk * 3) (n-kk) (cap-kk) (by omega) (fun j hj=>(aD.cellSome (by omega)).1) (fun j hj=>(aD.cellSome (by omega)).2);clear aD cV bG ka hI my ij;go_wp2_with fail;go_ret;have hI:=HI.o;have ij:=i2.o;have aJ:=hI.len;have fP:=hI.low;have pP:=hI.lt;have pI:=hI.size;rw [iL] at fP aJ
       have jY:dk.toList.take kk=compact l:=by
        have e1:compact l=compactUpTo d n:=by unfold compact;rw [HL.o,HD.o]
        rw [e1];apply List.ext_getElem?;intro j;by_cases hj:j<kk
        ·rw [List.getElem?_take_of_lt hj,fP j hj,getElem!_pos dk j (by omega),Array.getElem?_toList,Array.getElem?_eq_getElem]
        ·rw [List.getElem?_take_eq_none (by omega),List.getElem?_eq_none (by omega)]
       refine⟨kk,rfl,by omega,?_,du.o.trans (Cq _ _ _ _)⟩;have:=(AI.cut (n:=n) (m:=kk) AC HW.o (by simp;omega) (by omega)).clearBehind AC (kk * 3) (List.replicate (n-kk) [Value.int .u8 0,.int .i64 0,.string .empty]).flatten (Nat.le_refl _);rw [jY] at this;exact this
   ·have bV:k=n:=by omega
    subst bV;go_wp2_with fail;go_ret;exact⟨k,rfl,Nat.le_refl _,by rw [SAME.out ALL.out];exact HO.o.drewN q,Ev w q _⟩
end
section
open Go.Sort Go.Lib
theorem AI.split{α:Type}{enc:α→List Value}{k:Nat}{w:World}{base e n:Nat}{v:Value}{l:List α}(hk:∀x,(enc x).length=k)(bC:0<k)(h:AI enc k w base e v n l):(v=.slice none 0 0∧n=0∧l=[])∨∃g cap,v=.slice (some ⟨g,0,none⟩) n cap∧n≤cap∧base≤g:=by
 have hl:=h.len hk bC;rcases h.2 with⟨h0,h1⟩|⟨g,cap,cur,hv,hb,hg,hn,_⟩
 ·refine .inl ⟨h0,?_⟩;obtain⟨p,c,hv,eo,_⟩:=h.row hk bC;rw [h0] at hv;cases hv;exact⟨rfl,List.length_eq_zero_iff.1 hl⟩
 ·exact .inr ⟨g,cap,hv,hn,hb⟩
theorem NC(w:World):Calls prog 145 #[.slice none 0 0,.func (.func 128) #[] #[]] w fun e w'=>e=.returned (.tuple #[])∧w'=w:=AnyF.slices_SortFunc_none { MD with } none 0 _ w
theorem Nw(w:World):Calls prog 146 #[.slice none 0 0] w fun e w'=>e=.returned (.slice none 0 0)∧w'=w:=by go_enter func146,ntmps146;go_wp2_with fail;go_ret;exact⟨rfl,rfl⟩
theorem AI.drop_base{α:Type}{enc:α→List Value}{k:Nat}{w w':World}{g base:Nat}{w0:World}(hg:w.grownBy w' (some g))(fJ:base≤g)(hb:Below base w0 w)(hs:base≤w.heap.size):Below base w0 w':=hb.grown hg hs (fun k hk=>by cases hk;exact fJ)
theorem BW(p:Option Addr)(n cap:Nat)(l:List AB)(w:World)(hn:l.length=n)(hm:n≤1000000)(hr:Cm w p l):Calls prog 100 #[.slice p n cap] w fun e w'=>∃v m,e=.returned v∧m≤n∧AI AP 3 w' w.heap.size 59 v m (Cv (l.filter AM))∧Below w.heap.size w w':=by
 have HR:=AA hr;have HN:=AA hn;clear hr hn;go_enter func100,ntmps100;go_wp2_with fail;go_loopw [3,8] (fun u i wr=>∃k m:Nat,k≤n∧i=.int .i64 k∧m≤k∧AI AP 3 wr w.heap.size 59 u m ((l.take k).filter AM)∧Below w.heap.size w wr) (fun _ i _=>n-(intOf i).toNat)
 case atStart=>exact⟨0,0,by omega,rfl,by omega,AI.nil _ _ _ _ _,Below.refl _ _⟩
 case round=>
  obtain⟨k,m,hk,rfl,nS,aD,hb⟩:=hrel;have aS:=AA aD;have HB:=AA hb;clear aD hb;by_cases aG:k<n
  ·obtain⟨x,hx⟩:=Ac (l:=l) (j:=k) (by rw [HN.o];exact aG);have HE:=AA hx;obtain⟨b,o,rfl,al,d0,d1,d2⟩:=Cm.atom (HR.o.below HB.o) hx;clear hx al;go_wp2_with fail;refine(Nh x _).mono ?_;rintro e w1 ⟨rfl,hb⟩;have aO:Hd (Below w.heap.size w w1):=(HB.o.alloc HB.o.size _).trans (hb.mono (by have:=HB.o.size;simp;omega));have fD:=AA ((aS.o.below ((Below.refl _ wr).alloc (Nat.le_refl _) (.cells #[.int .u8 x.kind,.int .i64 x.rho,.string x.exn] 59))).below hb);have f0:w1.cell? ⟨wr.heap.size,0,none⟩=some (.int .u8 x.kind):=by rw [hb.cell (by simp),AU];rfl
   have f1:w1.cell? ⟨wr.heap.size,1,none⟩=some (.int .i64 x.rho):=by rw [hb.cell (by simp),AU];rfl
   have f2:w1.cell? ⟨wr.heap.size,2,none⟩=some (.string x.exn):=by rw [hb.cell (by simp),AU];rfl
   clear hb d0 d1 d2;cases ha:AM x
   ·have HA:=AA ha;clear ha;go_wp2_with fail;go_roundw
    case rel=>exact⟨k+1,m,by omega,by go_num,by omega,by rw [AJ HE.o,List.filter_append];simpa [HA.o] using fD.o,aO.o⟩
    case measure=>simp [intOf];omega
   ·have HA:=AA ha;clear ha;go_wp2_with (at_builtin;refine Ae rfl _ _ 25 rfl w.heap.size 59 _ 3 32 underlying25 BK rfl (by decide) AP AC AZ x _ _ _ fD.o rfl rfl ?c1 ?c2 ?c3 ?_)
    case c1=>omega
    case c2=>omega
    case c3=>exact aO.o.size
    ·intro v' w4 aH hg;have HO:=AA aH;have bQ:=AA (Below.own aO.o hg aO.o.size fD.o);clear aH hg f0 f1 f2;go_wp2_with fail;go_roundw
     case rel=>exact⟨k+1,m+1,by omega,by go_num,by omega,by rw [AJ HE.o,List.filter_append];simpa [HA.o] using HO.o,bQ.o⟩
     case measure=>simp [intOf];omega
  ·have bV:k=n:=by omega
   subst bV;have HT:Hd ((l.take k).filter AM=l.filter AM):=by show (l.take k).filter AM=l.filter AM;rw [AY (by rw [HN.o];omega)]
   rcases aS.o.split AC (by omega) with⟨rfl,rfl,aY⟩|⟨g,cp,rfl,iI,fJ⟩
   ·have d7:=AA aY;clear aY;go_wp2_with fail;refine(NC _).mono ?_;rintro e w1 ⟨rfl,rfl⟩;go_wp2_with fail;refine(Nw _).mono ?_;rintro e w2 ⟨rfl,rfl⟩;go_wp2_with fail;go_ret;exact⟨_,0,rfl,by omega,by rw [←HT.o,d7.o];exact AI.nil _ _ _ _ _,HB.o⟩
   ·go_wp2_with fail;refine(NB g cp m _ w.heap.size wr aS.o (by omega)).mono ?_;rintro e w1 ⟨rfl,gc,dh⟩;have aO:=AA (AI.drop_base (enc:=AP) (k:=3) dh fJ HB.o HB.o.size);have fC:=AA gc;clear gc dh;go_wp2_with fail;refine(Nv g cp m _ w.heap.size w1 fC.o iI (by omega)).mono ?_;rintro e w2 ⟨m',rfl,cq,eZ,ai⟩;have aI:=AA (AI.drop_base (enc:=AP) (k:=3) ai fJ aO.o aO.o.size);have an:=AA eZ;clear eZ ai;go_wp2_with fail;go_ret;have h2:=an.o;rw [LL,HT.o] at h2;exact⟨_,m',rfl,by omega,h2,aI.o⟩
theorem Hw(a x:AB):∀l:List AB,x∈Bc a l↔x=a∨x∈l
 |[]=>by simp [Bc]
 |b::l=>by
  unfold Bc;by_cases h:AB.lt a b=true
  ·rw [if_pos h];simp
  ·rw [if_neg h,List.mem_cons,Hw a x l,List.mem_cons];constructor
   ·rintro(h|h|h)
    ·exact .inr (.inl h)
    ·exact .inl h
    ·exact .inr (.inr h)
   ·rintro(h|h|h)
    ·exact .inr (.inl h)
    ·exact .inl h
    ·exact .inr (.inr h)
theorem G8(a:AB):∀l:List AB,A9 AB.lt l→a∉l→A9 AB.lt (Bc a l)
 |[],_,_=>by simp [Bc,A9]
 |b::l,hr,hn=>by
  obtain⟨hb,hl⟩:=List.pairwise_cons.1 hr;unfold Bc;by_cases h:AB.lt a b=true
  ·rw [if_pos h];refine List.pairwise_cons.2 ⟨fun x hx=>?_,hr⟩;rcases List.mem_cons.1 hx with rfl|hx
   ·exact h
   ·exact AB.lt_trans h (hb x hx)
  ·rw [if_neg h];refine List.pairwise_cons.2 ⟨fun x hx=>?_,G8 a l hl (fun h=>hn (List.mem_cons_of_mem _ h))⟩;rcases (Hw a x l).1 hx with rfl|hx
   ·cases e:AB.lt b x with
    |true=>rfl
    |false=>exact absurd (List.mem_cons.2 (.inl (AB.lt_tri (by simpa using h) e))) hn
   ·exact hb x hx
theorem Ew(l:List AB)(a:AB):J3 l a=true↔a∈l:=by unfold J3 Mg;simp
theorem S7(a x:AB)(l:List AB):x∈E6 a l↔(x=a∧AM a=true)∨x∈l:=by
 unfold E6;by_cases h:(AM a&&!J3 l a)=true
 ·rw [if_pos h,Hw];have:AM a=true:=by simp at h;exact h.1
  simp [this]
 ·rw [if_neg h];constructor
  ·exact .inr
  ·rintro(⟨rfl,ha⟩|h')
   ·have:J3 l x=true:=by simpa [ha] using h
    exact(Ew l x).1 this
   ·exact h'
theorem OY(a:AB)(l:List AB)(hr:A9 AB.lt l):A9 AB.lt (E6 a l):=by
 unfold E6;by_cases h:(AM a&&!J3 l a)=true
 ·rw [if_pos h];refine G8 a l hr (fun hm=>?_);rw [(Ew l a).2 hm] at h;simp at h
 ·rw [if_neg h];exact hr
theorem Kp:∀(l e:List AB),A9 AB.lt e→A9 AB.lt (l.foldl (fun e a=>E6 a e) e)∧∀x,x∈l.foldl (fun e a=>E6 a e) e↔x∈e∨(x∈l∧AM x=true)
 |[],e,h=>⟨h,fun x=>by simp⟩
 |a::l,e,h=>by
  obtain⟨h1,h2⟩:=Kp l (E6 a e) (OY a e h);refine⟨h1,fun x=>?_⟩;rw [List.foldl_cons,h2,S7,List.mem_cons];constructor
  ·rintro((⟨rfl,h⟩|h)|⟨h,h'⟩)
   ·exact .inr ⟨.inl rfl,h⟩
   ·exact .inl h
   ·exact .inr ⟨.inr h,h'⟩
  ·rintro(h|⟨rfl|h,h'⟩)
   ·exact .inl (.inr h)
   ·exact .inl (.inl ⟨rfl,h'⟩)
   ·exact .inr ⟨h,h'⟩
theorem TN(l:List AB):L9 l=Cv (l.filter AM):=by obtain⟨h1,h2⟩:=Kp l [] (by simp [A9]);refine IM h1 (fun x=>?_);show x∈l.foldl (fun e a=>E6 a e) []↔_;rw [h2,List.mem_filter];simp
end
theorem DR{a:AB}{r:Bool}(h:AM a=r)(w:World):Calls prog 127 #[.agg #[.int .u8 a.kind,.int .i64 a.rho,.string a.exn]] w (RB w (.bool r)):=by subst h;exact Nh a w
theorem PI(W:World)(q:Nat)(os':Array Obj):Below W.heap.size W (Go.Sort.grow (W.drewN q) os'):=⟨rfl,rfl,rfl,by simp [Go.Sort.grow],fun k hk=>by rw [Go.Sort.heap_grow_old _ _ (by simpa using hk)];rfl⟩
theorem KO{a b:AB}{r:Int}(h:KN a b=r)(w:World):Calls prog 128 #[.agg #[.int .u8 a.kind,.int .i64 a.rho,.string a.exn],.agg #[.int .u8 b.kind,.int .i64 b.rho,.string b.exn]] w (RB w (.int .i64 r)):=by subst h;refine(JO a b w).mono ?_;rintro e w' ⟨he,q,os',rfl⟩;exact⟨he,PI w q os'⟩
theorem KT(p:Option Addr)(n cap:Nat)(l:List AB)(w:World)(hn:l.length=n)(hm:n≤9223372036854775807)(hr:Cm w p l):Calls prog 93 #[.slice p n cap] w fun e w'=>(∃r,e=.returned (.bool r)∧(r=true↔NW l n))∧Below w.heap.size w w':=by
 have HR:=AA hr;have HN:=AA hn;clear hr hn;go_enter func93,ntmps93;go_wp2_with fail;go_loopw [7] (fun i wr=>∃k:Nat,k≤n∧i=.int .i64 k∧NW l k∧Below w.heap.size w wr) (fun i _=>n-(intOf i).toNat)
 case atStart=>exact⟨0,by omega,rfl,⟨by simp,fun j _ _ h=>by omega⟩,Below.refl _ _⟩
 case round=>
  obtain⟨k,hk,rfl,aw,hb⟩:=hrel;have a8:=AA aw;have HB:=AA hb;clear aw hb;by_cases aG:k<n
  ·obtain⟨x,hx⟩:=Ac (l:=l) (j:=k) (by rw [HN.o];exact aG);have HE:=AA hx;obtain⟨b,o,rfl,al,d0,d1,d2⟩:=Cm.atom (HR.o.below HB.o) hx;have kv:=AA al;clear hx al;have v0:=fun g=>Gn (a:=⟨wr.heap.size,0,none⟩) (v:=.int .u8 x.kind) (w:=wr.alloc (.cells #[.int .u8 x.kind,.int .i64 x.rho,.string x.exn] 59)) (by rw [AU];rfl) g;have v1:=fun g=>Gn (a:=⟨wr.heap.size,1,none⟩) (v:=.int .i64 x.rho) (w:=wr.alloc (.cells #[.int .u8 x.kind,.int .i64 x.rho,.string x.exn] 59)) (by rw [AU];rfl) g;have v2:=fun g=>Gn (a:=⟨wr.heap.size,2,none⟩) (v:=.string x.exn) (w:=wr.alloc (.cells #[.int .u8 x.kind,.int .i64 x.rho,.string x.exn] 59)) (by rw [AU];rfl) g;cases ha:AM x
   ·have HA:=AA ha;clear ha;have hW:=GM (wr.alloc (.cells #[.int .u8 x.kind,.int .i64 x.rho,.string x.exn] 59));go_wp2_with fail;refine EV (by kernel_rfl) (by kernel_rfl) ?_;repeat ((with_reducible refine wpQuiet_step (fun K hK=>?_));go_simp;refine hK _ ?_;clear hK K)
    refine wpQuiet_step (fun K hK=>?_);go_simp;refine⟨.bool false,fun _=>FD (DR HA.o _),hK _ ?_⟩;clear hK K;repeat ((with_reducible refine wpQuiet_step (fun K hK=>?_));go_simp;refine hK _ ?_;clear hK K)
    refine wpQuiet_nil ?_;rintro w3 ⟨g,rfl⟩;have aT:=AA ((HB.o.alloc HB.o.size _).trans ((hW g).mono (by have:=HB.o.size;simp;omega)));clear hW;go_wp2_with fail;go_ret
    exact⟨⟨false,rfl,by
     constructor
     ·intro h;cases h
     ·intro h;have h1:=h.1;rw [AY (by rw [HN.o];omega),J0 HE.o HA.o] at h1;cases h1⟩,aT.o⟩
   ·have HA:=AA ha;clear ha;have hW:=GM (wr.alloc (.cells #[.int .u8 x.kind,.int .i64 x.rho,.string x.exn] 59));by_cases bC:k=0
    ·have hd:decide ((0:Int)<(k:Int))=false:=by simp;omega
     have pG:decide (0<k)=false:=by simp;omega
     have oI:=AA bC;clear bC;go_wp2_with fail;refine EV (by kernel_rfl) (by kernel_rfl) ?_;repeat ((with_reducible refine wpQuiet_step (fun K hK=>?_));go_simp;refine hK _ ?_;clear hK K)
     refine wpQuiet_step (fun K hK=>?_);go_simp;refine⟨.bool true,fun _=>FD (DR HA.o _),hK _ ?_⟩;clear hK K;repeat ((with_reducible refine wpQuiet_step (fun K hK=>?_));go_simp;refine hK _ ?_;clear hK K)
     refine wpQuiet_nil ?_;rintro w3 ⟨g,rfl⟩;have aT:=AA ((HB.o.alloc HB.o.size _).trans ((hW g).mono (by have:=HB.o.size;simp;omega)));clear hW;go_wp2_with fail;go_roundw
     case rel=>exact⟨k+1,by omega,by go_num,⟨by rw [DY HE.o,a8.o.1,HA.o];rfl,fun j _ _ h=>by have:=oI.o;omega⟩,aT.o⟩
     case measure=>simp [intOf];omega
    ·obtain⟨y,hy⟩:=Ac (l:=l) (j:=k-1) (by rw [HN.o];omega);have HY:=AA hy;obtain⟨b',o',b8,_,e0,e1,e2⟩:=Cm.atom ((HR.o.below HB.o).alloc (.cells #[.int .u8 x.kind,.int .i64 x.rho,.string x.exn] 59)) hy;cases b8;have p8:=fun g=>Gn e0 g;have p9:=fun g=>Gn e1 g;have lo:=fun g=>Gn e2 g;have cZ:Hd (0<k):=show 0<k by omega
     have hd:decide ((0:Int)<(k:Int))=true:=by simp;omega
     have pG:decide (0<k)=true:=by simp;omega
     have qB:0<k:=cZ.out;have a1:IntKind.i64.wrap ((k:Int)-1)=(k:Int)-1:=IntWalk.i64_in _ (by omega);have a2:(0:Int)≤(k:Int)-1:=by omega
     have a3:((k:Int)-1).toNat=k-1:=by omega
     have a4:(k:Int)-1<(n:Int):=by omega
     have a5:(1:Int)≤(k:Int):=by omega
     clear hy bC;have cj:=Qb y x;generalize eA:KN y x=c at cj;have mI:=AA eA;clear eA;cases hl:AB.lt y x
     ·have HL:=AA hl;rw [hl] at cj;have kX:decide ((0:Int)≤c)=true:=by simp at cj ⊢;omega
      clear hl cj;go_wp2_with fail;refine EV (by kernel_rfl) (by kernel_rfl) ?_;repeat ((with_reducible refine wpQuiet_step (fun K hK=>?_));go_simp;refine hK _ ?_;clear hK K)
      refine wpQuiet_step (fun K hK=>?_);go_simp;refine⟨.bool true,fun _=>FD (DR HA.o _),hK _ ?_⟩;clear hK K;repeat ((with_reducible refine wpQuiet_step (fun K hK=>?_));go_simp;refine hK _ ?_;clear hK K)
      refine wpQuiet_step (fun K hK=>?_);go_simp;refine⟨.int .i64 c,fun _=>FD (KO mI.o _),hK _ ?_⟩;clear hK K;repeat ((with_reducible refine wpQuiet_step (fun K hK=>?_));go_simp;refine hK _ ?_;clear hK K)
      refine wpQuiet_nil ?_;rintro w3 ⟨g,rfl⟩;have aT:=AA ((HB.o.alloc HB.o.size _).trans ((hW g).mono (by have:=HB.o.size;simp;omega)));clear hW;go_wp2_with fail;go_ret
      exact⟨⟨false,rfl,by
       constructor
       ·intro h;cases h
       ·intro h;have h1:=h.2 (k-1) y x (by have:=cZ.out;omega) HY.o (by rw [show k-1+1=k from by have:=cZ.out;omega];exact HE.o);rw [HL.o] at h1;cases h1⟩,aT.o⟩
     ·have HL:=AA hl;rw [hl] at cj;have kX:decide ((0:Int)≤c)=false:=by simp at cj ⊢;omega
      clear hl cj;go_wp2_with fail;refine EV (by kernel_rfl) (by kernel_rfl) ?_;repeat ((with_reducible refine wpQuiet_step (fun K hK=>?_));go_simp;refine hK _ ?_;clear hK K)
      refine wpQuiet_step (fun K hK=>?_);go_simp;refine⟨.bool true,fun _=>FD (DR HA.o _),hK _ ?_⟩;clear hK K;repeat ((with_reducible refine wpQuiet_step (fun K hK=>?_));go_simp;refine hK _ ?_;clear hK K)
      refine wpQuiet_step (fun K hK=>?_);go_simp;refine⟨.int .i64 c,fun _=>FD (KO mI.o _),hK _ ?_⟩;clear hK K;repeat ((with_reducible refine wpQuiet_step (fun K hK=>?_));go_simp;refine hK _ ?_;clear hK K)
      refine wpQuiet_nil ?_;rintro w3 ⟨g,rfl⟩;have aT:=AA ((HB.o.alloc HB.o.size _).trans ((hW g).mono (by have:=HB.o.size;simp;omega)));clear hW;go_wp2_with fail;go_roundw
      case rel=>exact⟨k+1,by omega,by go_num,⟨by rw [DY HE.o,a8.o.1,HA.o];rfl,fun i u v hi hu hv=>by
       have cZ:=cZ.out;rcases (by omega:i=k-1∨i+1<k) with rfl|lz
       ·rw [HY.o] at hu;cases hu;rw [show k-1+1=k from by omega,HE.o] at hv;cases hv;exact HL.o
       ·exact a8.o.2 i u v lz hu hv⟩,aT.o⟩
      case measure=>simp [intOf];omega
  ·go_wp2_with fail;go_ret;obtain rfl:k=n:=by omega
   exact⟨⟨true,rfl,by simp [a8.o]⟩,HB.o⟩
theorem MU(l:List AB)(a:AB):l.any (fun x=>Mg a x)=J3 l a:=by unfold J3;congr 1;funext x;unfold Mg;exact decide_eq_decide.2 ⟨fun h=>h.symm,fun h=>h.symm⟩
theorem Nb(p:Option Addr)(n cap:Nat)(l:List AB)(a:AB)(w:World)(hn:l.length=n)(hm:n≤9223372036854775807)(hr:Cm w p l) :
 Calls prog 218 #[.slice p n cap,.agg #[.int .u8 a.kind,.int .i64 a.rho,.string a.exn]] w fun e w'=>(∃r:Int,e=.returned (.int .i64 r)∧(J3 l a=decide (0≤r)))∧Below w.heap.size w w':=by
 have HR:=AA (hr.alloc (.cells #[.int .u8 a.kind,.int .i64 a.rho,.string a.exn] 59))
 have HN:=AA hn
 have HC:Hd (l.any (fun x=>Mg a x)=J3 l a):=MU l a
 clear hr hn
 go_enter func218,ntmps218
 go_wp2_with fail
 go_loopw [5,8] (fun _ i wr=>∃k:Nat,k≤n∧i=.int .i64 k∧(l.take k).any (fun x=>Mg a x)=false∧∃q,wr=(w.alloc (.cells #[.int .u8 a.kind,.int .i64 a.rho,.string a.exn] 59)).drewN q) (fun _ i _=>n-(intOf i).toNat)
 case atStart=>exact⟨0,by omega,rfl,by simp,0,rfl⟩
 case round=>
  obtain⟨k,hk,rfl,aw,q,rfl⟩:=hrel;have a8:=AA aw;clear aw;by_cases aG:k<n
  ·obtain⟨x,hx⟩:=Ac (l:=l) (j:=k) (by rw [HN.o];exact aG);obtain⟨b,o,rfl,hb,c0,c1,c2⟩:=Cm.atom HR.o hx;have HE:=AA hx;clear hx hb;have he:=fun W=>NA a x W;cases hq:Mg a x
   ·go_wp2_with fail;go_quiet (fail);go_wp2_with fail;go_roundw
    case rel=>exact⟨k+1,by omega,by go_num,by rw [BF HE.o,a8.o,hq];rfl,_,rfl⟩
    case measure=>simp [intOf];omega
   ·go_wp2_with fail;go_quiet (fail);go_wp2_with fail;go_ret;exact⟨⟨k,rfl,by rw [←HC.o,FU HE.o hq];simp⟩,below_drewN (below_drewN bA _) _⟩
  ·go_wp2_with fail;go_ret;have h:=a8.o;rw [AY (by rw [HN.o];omega)] at h;exact⟨⟨-1,rfl,by rw [←HC.o,h];simp⟩,below_drewN bA _⟩
theorem KB(p:Option Addr)(n cap:Nat)(l:List AB)(a:AB)(w:World)(hn:l.length=n)(hm:n≤9223372036854775807)(hr:Cm w p l) :
 Calls prog 189 #[.slice p n cap,.agg #[.int .u8 a.kind,.int .i64 a.rho,.string a.exn]] w (RB w (.bool (J3 l a))):=by
 have hc:=fun W h=>Nb p n cap l a W hn hm h
 have HR:=AA (hr.alloc (.cells #[.int .u8 a.kind,.int .i64 a.rho,.string a.exn] 59))
 generalize J3 l a=r at hc ⊢
 have HC:=AA hc
 clear hr hn hc
 go_enter func189,ntmps189
 go_wp2_with fail
 refine(HC.o _ HR.o).mono ?_
 rintro e w1 ⟨⟨r',rfl,hr⟩,hb⟩
 have cI:=AA hr
 have HB:=AA (((Below.refl _ w).alloc (Nat.le_refl _) _).trans (hb.mono (by simp)))
 clear hr hb
 go_wp2_with fail
 go_ret
 exact⟨AE cI.o.symm,HB.o⟩
theorem O3(x:AB)(ad:Addr)(q:Option Addr)(m mc:Nat)(l:List AB)(w:World)(af:w.cell? ad=some (.slice q m mc))(hn:l.length=m)(hm:m≤9223372036854775807)(hr:Cm w q l):Calls prog 188 #[MT x,.pointer (some ad)] w (RB w (.bool (AM x&&!J3 l x))):=by
 have HX:=AA af;have HR:=AA hr;have HN:=AA hn;clear hr hn;clear af;cases ha:AM x
 ·have HA:=AA ha;clear ha;go_enter func188,ntmps188;go_wp2_with fail;refine(DR HA.o _).mono ?_;rintro e w1 ⟨rfl,hb⟩;have HB:=AA (((Below.refl _ w).alloc (Nat.le_refl _) _).trans (hb.mono (by simp)));clear hb;go_wp2_with fail;go_ret;exact⟨rfl,HB.o⟩
 ·have HA:=AA ha;clear ha;go_enter func188,ntmps188;go_wp2_with fail;refine(DR HA.o _).mono ?_;rintro e w1 ⟨rfl,hb⟩;have HB:=AA (((Below.refl _ w).alloc (Nat.le_refl _) (.cells #[.int .u8 x.kind,.int .i64 x.rho,.string x.exn] 59)).trans (hb.mono (by simp)));have f0:w1.cell? ⟨w.heap.size,0,none⟩=some (.int .u8 x.kind):=by rw [hb.cell (by simp),AU];rfl
  have f1:w1.cell? ⟨w.heap.size,1,none⟩=some (.int .i64 x.rho):=by rw [hb.cell (by simp),AU];rfl
  have f2:w1.cell? ⟨w.heap.size,2,none⟩=some (.string x.exn):=by rw [hb.cell (by simp),AU];rfl
  have dP:w1.cell? ad=some (.slice q m mc):=by rw [HB.o.cell (BC HX.o)];exact HX.o
  clear hb;go_wp2_with fail;refine(KB q m mc l x w1 HN.o hm (HR.o.below HB.o)).mono ?_;rintro e w2 ⟨rfl,hb⟩;have aI:=bt HB hb;clear hb;go_wp2_with fail;go_ret;exact⟨rfl,aI.o⟩
theorem Cj(p:Option Addr)(n cap:Nat)(l:List AB)(q:Option Addr)(m mc:Nat)(l':List AB)(w:World)(hn:l.length=n)(hm:n≤9223372036854775807)(hr:Cm w p l)(dR:l'.length=m)(cq:m≤9223372036854775807)(ah:Cm w q l'):Calls prog 135 #[.slice p n cap,.slice q m mc] w (RB w (.bool (Ag l l'))):=by
 have hc:∀t,Calls prog 187 #[.slice p n cap,.func (.func 188) #[] #[.pointer (some ⟨w.heap.size,0,none⟩)]] (w.alloc (.cells #[.slice q m mc] t)) fun e w'=>
  e=.returned (.bool (l.any (fun x=>AM x&&!J3 l' x)))∧Below (w.alloc (.cells #[.slice q m mc] t)).heap.size (w.alloc (.cells #[.slice q m mc] t)) w':=fun t=>
  Hh 188 #[.pointer (some ⟨w.heap.size,0,none⟩)] (fun x=>AM x&&!J3 l' x) (fun a w=>call188 a w) p n cap l _ hn hm (hr.alloc _)
   (fun x _ W hW=>by
    have:=O3 x ⟨w.heap.size,0,none⟩ q m mc l' W (by rw [hW.cell (by simp),AU];rfl) dR cq ((ah.alloc _).below hW);simpa using this)
 have he:Hd (Ag l l'=!l.any (fun x=>AM x&&!J3 l' x)):=by show Ag l l'=_;unfold Ag;rw [List.all_eq_not_any_not];congr 2;funext x;cases AM x<;>simp
 generalize l.any (fun x=>AM x&&!J3 l' x)=r at hc he;have HC:=AA hc;clear hr hn hc ah dR;go_enter func135,ntmps135;go_wp2_with fail;refine(HC.o _).mono ?_;rintro e w1 ⟨rfl,hb⟩;have HB:=AA (((Below.refl _ w).alloc (Nat.le_refl _) _).trans (hb.mono (by simp)));clear hb;go_wp2_with fail;go_ret;exact⟨AE he.out.symm,HB.o⟩
theorem FF{p:Option Addr}{n cap:Nat}{l:List AB}{q:Option Addr}{m mc:Nat}{l':List AB}{w:World}{r:Bool}(hq:Ag l l'=r)(hn:l.length=n)(hm:n≤9223372036854775807)(hr:Cm w p l)(dR:l'.length=m)(cq:m≤9223372036854775807)(ah:Cm w q l'):Calls prog 135 #[.slice p n cap,.slice q m mc] w (RB w (.bool r)):=by subst hq;exact Cj p n cap l q m mc l' w hn hm hr dR cq ah
theorem Jk(p:Option Addr)(n cap:Nat)(l:List AB)(q:Option Addr)(m mc:Nat)(l':List AB)(w:World)(hn:l.length=n)(hm:n≤9223372036854775807)(hr:Cm w p l)(dR:l'.length=m)(cq:m≤9223372036854775807)(ah:Cm w q l'):Calls prog 191 #[.slice p n cap,.slice q m mc] w (RB w (.bool (Ag l l'&&Ag l' l))):=by
 have HR:=AA hr;have HN:=AA hn;have dF:=AA ah;have jD:=AA dR;clear hr hn ah dR;cases ha:Ag l l'
 ·have HA:=AA ha;clear ha;go_enter func191,ntmps191;go_wp2_with fail;refine(FF HA.o HN.o hm HR.o jD.out cq dF.out).mono ?_;rintro e w1 ⟨rfl,hb⟩;have HB:=AA hb;clear hb;go_wp2_with fail;go_ret;exact⟨rfl,HB.o⟩
 ·have HA:=AA ha;clear ha;go_enter func191,ntmps191;go_wp2_with fail;refine(FF HA.o HN.o hm HR.o jD.out cq dF.out).mono ?_;rintro e w1 ⟨rfl,hb⟩;have HB:=AA hb;clear hb;go_wp2_with fail;refine(Cj q m mc l' p n cap l w1 jD.out cq (dF.out.below HB.o) HN.o hm (HR.o.below HB.o)).mono ?_;rintro e w2 ⟨rfl,hb⟩;have aI:=bt HB hb;clear hb;go_wp2_with fail;go_ret;exact⟨rfl,aI.o⟩
theorem C4(p:Option Addr)(n cap:Nat)(rows:List (Lq AB))(w:World)(hn:rows.length=n)(hm:n≤1000000)(hr:At Eu 1 w p rows)(ax:∀r∈rows,r.Ok AP 3 w)(cW:(rows.map (·.n)).sum≤1000000):Calls prog 85 #[.slice p n cap] w fun e w'=>∃v m,e=.returned v∧m≤(rows.map (·.n)).sum∧AI AP 3 w' w.heap.size 59 v m (Cv ((rows.flatMap (·.l)).filter AM))∧Below w.heap.size w w':=by
 have HT:=AA cW;have hc:=PS p n cap rows w hn hm hr ax cW;have HC:=AA hc;clear hr hn ax hc cW;go_enter func85,ntmps85;go_wp2_with fail;refine HC.o.mono ?_;rintro e w1 ⟨v,rfl,ho,hb⟩;obtain⟨q,mc,rfl,hl,js,aB,_⟩:=ho.row AC (by omega);have HL:=AA hl;have aa:=AA aB;have HB:=AA hb;clear hb;clear ho hl aB;generalize mp:(rows.map (·.n)).sum=S at *
 have bf:=AA mp;clear mp;have hS:=HT.o;go_wp2_with fail;refine(BW q S mc _ w1 HL.o hS aa.o).mono ?_;rintro e w2 ⟨v,m,rfl,eY,aD,hb⟩;have HO:=AA (aD.lower HB.o.size);have aI:=bt HB hb;clear hb;clear aD;go_wp2_with fail;go_ret;exact⟨_,m,rfl,by rw [bf.o];exact eY,HO.o,aI.o⟩
end Go.Proofs.YtkdjnegfnhldpaaGreatDoor
