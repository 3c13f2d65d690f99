/- Part 03. -/
import Derived.Sort.OwnSorted
import Derived.Lib.SlicesCompact
import Derived.Lib.SliceRun
import Derived.Lib.ItoaNum
import Derived.Lib.Join
import Derived.Lib.ItoaMem
import Derived.Lib.ItoaLen
import Derived.Test.YtkdjnegfnhldpaaGreatDoorK02
set_option linter.unusedVariables false
set_option maxRecDepth 100000
set_option linter.unusedSimpArgs false
set_option maxHeartbeats 40000000
set_option autoImplicit true
set_option relaxedAutoImplicit true
namespace Go.Proofs.YtkdjnegfnhldpaaGreatDoor
open Go.Proofs.Tryz Go.RowKit
section
open Go.Sort Go.Lib
theorem Wi(hb:w.heap[g]?=some (.cells cur e (0,0)))(ht:cur.toList.take ss.length=ss):Holds id w g 0 ss.toArray:=by
 intro j hj;have gu:j<ss.length:=by simpa using hj
 refine⟨?_,by simp [World.frozen?,hb]⟩;have h1:(cur.toList.take ss.length)[j]?=ss[j]?:=by rw [ht]
 rw [BQ gu] at h1;simp only [World.cell?,hb,BP];simp only [Option.isSome_none,Ex,if_false];rw [<-Bj,h1];simp [gu]
theorem T4(cur:Array Value)(ts:List Value)(h:ts.length<=cur.size):(putCells id 0 ts.toArray cur).toList.take ts.length=ts:=by
 apply DA;intro j;by_cases hj:j<ts.length
 ·rw [BQ hj,Bj];simp [putCells,hj,show j<cur.size by omega]
 ·rw [CC (by omega),Bm (by omega)]
theorem TX(d:Array Value)(hb:w.heap[g]?=some (.cells cur e fr)):(grow (putRow id (Sort.ahead w n) g 0 d) os).heap[g]?=some (.cells (putCells id 0 d cur) e fr):=by have hg:g<w.heap.size:=(AO.1 hb).1;rw [heap_grow_old _ _ (by simpa using hg)];simp [putRow,mapBlock,Sort.ahead,C5,hb,onCells]
theorem PQ{w:World}{g n:Nat}{os:Array Obj}(d:Array Value):w.grownBy (grow (putRow id (Sort.ahead w n) g 0 d) os) (some g):=by refine⟨rfl,rfl,rfl,by simp,fun k hk aM=>?_⟩;rw [heap_grow_old _ _ (by simpa using hk)];have:g≠k:=fun e=>aM (by rw [e]);simp [putRow,mapBlock,Sort.ahead,C5,this]
section
variable {α:Type} [Inhabited α]
theorem QW(hk:∀x,(enc x).length=k)(ao:0<k)(d:Array α):flatK enc k d=(d.toList.flatMap enc).toArray:=by
 apply Array.ext
 ·simp only [size_flatK,CL,DO hk,Eg]
 ·intro t h1 h2;have ht:t<d.size * k:=by simpa using h1
  have hq:t / k<d.size:=Ea (by rwa [Nat.mul_comm]);have hr:t % k<k:=Nat.mod_lt _ ao;have hx:d.toList[t / k]?=some d[t / k]!:=by rw [AI (by simpa using hq)];simp [hq]
  have hf:=Gr hk d.toList (t / k) _ (t % k) hx hr;rw [show t / k * k+t % k=t from DL t k] at hf;rw [<-Bw (flatK enc k d) t h1,get_flatK enc k d t ht];have e2:(enc d[t / k]!)[t % k]! = (enc d[t / k]!)[t % k]'(by rw [hk];exact hr):=Bw _ _ (by rw [hk];exact hr);rw [e2];have e3:(enc d[t / k]!)[t % k]?=some ((enc d[t / k]!)[t % k]'(by rw [hk];exact hr)):=AI (by rw [hk];exact hr);rw [e3] at hf;have:=(BJ.1 hf).2;simpa using this.symm
theorem A1.holdsK{enc:α->List Value}{k:Nat}(hk:∀x,(enc x).length=k)(ao:0<k){w:World}{base e n:Nat}{g cap:Nat}{l:List α}(h:A1 enc k w base e (.slice (some ⟨g,0,none⟩) n cap) n l):HoldsK enc k w g 0 l.toArray/\g<w.heap.size:=by
 rcases h.2 with⟨h0,_⟩|⟨g',cap',cur,hv,hb,hg,hn,hm,hs,ht⟩
 ·cases h0
 ·cases hv
  refine⟨?_,(AO.1 hg).1⟩;unfold HoldsK;rw [QW hk ao];refine Wi hg ?_;rw [h.1];exact ht
theorem A1.sorted{enc:α->List Value}{k:Nat}(hk:∀x,(enc x).length=k)(ao:0<k){w:World}{base e n:Nat}{g cap:Nat}{l l':List α}(h:A1 enc k w base e (.slice (some ⟨g,0,none⟩) n cap) n l)(hl:l'.length=l.length)(m:Nat)(os:Array Obj):A1 enc k (sortWorldK enc k w g 0 m l'.toArray os) base e (.slice (some ⟨g,0,none⟩) n cap) n l'/\w.grownBy (sortWorldK enc k w g 0 m l'.toArray os) (some g):=by
 rcases h.2 with⟨h0,_⟩|⟨g',cap',cur,hv,hb,hg,hn,hm,hs,ht⟩
 ·cases h0
 ·cases hv
  have aJ:(l'.flatMap enc).length=n * k:=by rw [DO hk,hl,<-DO hk,h.1]
  unfold sortWorldK putRowK;rw [QW hk ao];refine⟨⟨aJ,.inr ⟨g,cap,_,rfl,hb,TX _ hg,hn,hm,by simp [putCells,hs],?_⟩⟩,PQ _⟩;rw [<-aJ];refine T4 cur _ ?_;rw [aJ,hs];exact Cw k hn
end
theorem Xg(a b:BB):decide (QM a b<0)=BB.lt a b:=by
 unfold QM If OL BB.lt;rcases (by omega:a.kind<b.kind\/b.kind<a.kind\/a.kind=b.kind) with h|h|h
 ·have:¬a.kind=b.kind:=by omega
  simp [h,this]
 ·have h1:¬a.kind<b.kind:=by omega
  have h2:¬a.kind=b.kind:=by omega
  simp [h,h1,h2]
 ·have h1:¬a.kind<b.kind:=by omega
  have h2:¬b.kind<a.kind:=by omega
  rcases (by omega:a.rho<b.rho\/b.rho<a.rho\/a.rho=b.rho) with g|g|g
  ·have:¬a.rho=b.rho:=by omega
   simp [h,g,this]
  ·have g1:¬a.rho<b.rho:=by omega
   have g2:¬a.rho=b.rho:=by omega
   simp [h,g,g1,g2]
  ·cases hb:Op.bytesLess a.exn.toList b.exn.toList
   ·cases ab:Op.bytesLess b.exn.toList a.exn.toList<;>simp [h,g,hb,ab]
   ·simp [h,g,hb]
theorem MP:ltOf QM=BB.lt:=by funext a b;exact Xg a b
theorem ZDh:SWO (ltOf QM):=by
 rw [MP];refine⟨BB.lt_irrefl,fun _ _ _=>BB.lt_trans,fun x y z h h'=>?_⟩;cases vT:BB.lt x z with
 |false=>rfl
 |true=>
  cases gP:BB.lt y x with
  |true=>rw [BB.lt_trans gP vT] at h';cases h'
  |false=>
   have:=BB.lt_tri h gP;subst this;rw [vT] at h';cases h'
theorem Z7(blk off size:Nat)(w:World):CmpLays prog 128 #[] Ce 3 QM blk off size w:=fun _ _ _ _ x y=>Ox x y _
def L5(l:List BB):List BB:=l.mergeSort (fun x y=>!BB.lt y x)
theorem Tw(g cap n:Nat)(l:List BB)(base:Nat)(w:World)(h:A1 Ce 3 w base 59 (.slice (some ⟨g,0,none⟩) n cap) n l)(hn:n<4611686018427387904) :
 Calls prog 145 #[.slice (some ⟨g,0,none⟩) n cap,.func (.func 128) #[] #[]] w fun e w'=>e=.returned (.tuple #[])/\A1 Ce 3 w' base 59 (.slice (some ⟨g,0,none⟩) n cap) n (L5 l)/\w.grownBy w' (some g):=by
 obtain⟨hH,iX⟩:=h.holdsK BF (by omega)
 have hl:l.length=n:=h.len BF (by omega)
 have eg:∀args w,(callFunc 128 args).run prog w=.ok (.enter 128 args) w:=enters_of func128 (by kernel_rfl) rfl
 have hc:=AnyQ.slices_SortFunc_total Sp 3 isAgg59 sizeOf59 Ce BF Gp QM ZDh 128 #[] g 0 cap l.toArray w eg (Z7 g 0 _ w) hH iX (by simp;omega)
  (by rw [MP];exact fun _ _=>BB.lt_tri)
 have es:l.toArray.size=n:=by simpa using hl
 rw [es] at hc
 refine hc.mono ?_
 rintro e w' ⟨he,m,os,rfl⟩
 have hs:=h.sorted BF (by omega) (l':=L5 l) (by simp [L5]) m os
 refine⟨he,?_,?_⟩
 ·have:=hs.1;rw [show L5 l=l.mergeSort (fun x y=>!ltOf QM y x) from by rw [MP];rfl] at this ⊢;exact this
 ·have:=hs.2;rw [show L5 l=l.mergeSort (fun x y=>!ltOf QM y x) from by rw [MP];rfl] at this;exact this
end
section
open Go.Sort Go.Lib
theorem J9(w:World)(q:Nat)(row:Option Nat):w.grownBy (w.drewN q) row:=⟨rfl,rfl,rfl,AB _,fun _ _ _=>rfl⟩
theorem Aw{w:World}{g o:Nat}{cur:Array Value}{e:TypeId}{fr:Nat×Nat}(v:Value)(h:w.heap[g]?=some (.cells cur e fr)):(w.setCell ⟨g,o,none⟩ v).heap[g]?=some (.cells (cur.setIfInBounds o v) e fr):=by simp [World.setCell,C5,h]
theorem Ar(w:World)(g o:Nat)(v:Value):w.grownBy (w.setCell ⟨g,o,none⟩ v) (some g):=by refine⟨rfl,rfl,rfl,by simp [World.setCell],fun k hk aM=>?_⟩;have:g≠k:=fun e=>aM (by rw [e]);simp [World.setCell,C5,this]
theorem Lt:∀(vs:List Value) (o:Nat) (w:World) (cur:Array Value),w.heap[g]?=some (.cells cur e fr)->∃cur',(w.setCells g o vs).heap[g]?=some (.cells cur' e fr)/\cur'.size=cur.size/\∀j,j<o->cur'[j]?=cur[j]?
 |[],o,w,cur,h=>⟨cur,h,rfl,fun _ _=>rfl⟩
 |v::r,o,w,cur,h=>by obtain⟨c',h1,h2,h3⟩:=Lt r (o+1) _ _ (Aw (o:=o) v h);refine⟨c',h1,by simpa using h2,fun j hj=>?_⟩;rw [h3 j (by omega),Cp,AC (by omega)]
theorem Du(g:Nat):∀(vs:List Value) (o:Nat) (w:World),w.grownBy (w.setCells g o vs) (some g)
 |[],_,_=>Cd _ _
 |v::r,o,w=>(Ar w g o v).trans (Du g r (o+1) _)
section
variable {α:Type} {enc:α->List Value} {k:Nat}
theorem A1.at(hk:∀x,(enc x).length=k)(h:A1 enc k w base e (.slice (some ⟨g,0,none⟩) n cap) n l)(hx:l[j]?=some x)(hi:i<k):w.cell? ⟨g,j * k+i,none⟩=(enc x)[i]?/\w.frozen? ⟨g,j * k+i,none⟩=false:=by
 rcases h.2 with⟨h0,_⟩|⟨g',cap',cur,hv,hb,hg,hn,hm,hs,ht⟩
 ·cases h0
 ·cases hv
  refine⟨?_,by simp [World.frozen?,hg]⟩;have hf:=Gr hk l j x i hx hi;rw [<-ht] at hf
  have aG:j * k+i<n * k:=by
   have hj:=(BJ.1 hx).1;have hl:l.length * k=n * k:=by rw [<-DO hk,h.1]
   have:(j+1) * k<=l.length * k:=Cw k hj;rw [E7] at this;omega
  rw [BQ aG] at hf;simp only [World.cell?,hg];simpa using hf
theorem A1.cellSome(h:A1 enc k w base e (.slice (some ⟨g,0,none⟩) n cap) n l)(ho:o<n * k):(w.cell? ⟨g,o,none⟩).isSome=true/\w.frozen? ⟨g,o,none⟩=false:=by
 rcases h.2 with⟨h0,_⟩|⟨g',cap',cur,hv,hb,hg,hn,hm,hs,ht⟩
 ·cases h0
 ·cases hv
  refine⟨?_,by simp [World.frozen?,hg]⟩;have:o<cur.size:=by rw [hs];exact Ak ho (Cw k hn)
  simp [World.cell?,hg,this]
theorem A1.cut(hk:∀x,(enc x).length=k)(h:A1 enc k w base e (.slice (some ⟨g,0,none⟩) n cap) n l)(cu:l.length=n)(hm:m<=n):A1 enc k w base e (.slice (some ⟨g,0,none⟩) m cap) m (l.take m):=by
 rcases h.2 with⟨h0,_⟩|⟨g',cap',cur,hv,hb,hg,hn,eJ,hs,ht⟩
 ·cases h0
 ·cases hv
  have hl:((l.take m).flatMap enc).length=m * k:=by rw [DO hk,EU,Nat.min_eq_left (by omega)]
  refine⟨hl,.inr ⟨g,cap,cur,rfl,hb,hg,by omega,eJ,hs,?_⟩⟩;apply DA;intro j;by_cases hj:j<m * k
  ·rw [BQ hj]
   have e1:(l.flatMap enc)[j]?=((l.take m).flatMap enc)[j]?:=by
    conv=>lhs;rw [<-BY m l,Ci]
    rw [BW (by rw [hl];exact hj)]
   rw [<-e1,<-ht,BQ (Ak hj (Cw k hm))]
  ·rw [CC (by omega),Bm (by omega)]
theorem A1.clearBehind(hk:∀x,(enc x).length=k)(h:A1 enc k w base e (.slice (some ⟨g,0,none⟩) m cap) m l)(o:Nat)(vs:List Value)(ho:m * k<=o):A1 enc k (w.setCells g o vs) base e (.slice (some ⟨g,0,none⟩) m cap) m l:=by
 rcases h.2 with⟨h0,_⟩|⟨g',cap',cur,hv,hb,hg,hn,eJ,hs,ht⟩
 ·cases h0
 ·cases hv
  obtain⟨c',h1,h2,h3⟩:=Lt vs o w cur hg;refine⟨h.1,.inr ⟨g,cap,c',rfl,hb,h1,hn,eJ,by rw [h2,hs],?_⟩⟩;rw [<-ht];apply DA;intro j;by_cases hj:j<m * k
  ·rw [BQ hj,BQ hj,Bj,Bj,h3 j (by omega)]
  ·rw [CC (by omega),CC (by omega)]
end
theorem A1.setA(h:A1 Ce 3 w base e (.slice (some ⟨g,0,none⟩) n cap) n l)(i:Nat)(x:BB)(hi:i<n):A1 Ce 3 (((w.setCell ⟨g,i * 3,none⟩ (.int .u8 x.kind)).setCell ⟨g,i * 3+1,none⟩ (.int .i64 x.rho)).setCell ⟨g,i * 3+2,none⟩ (.string x.exn)) base e (.slice (some ⟨g,0,none⟩) n cap) n (l.set i x):=by
 have cu:=h.len BF (by omega);rcases h.2 with⟨h0,_⟩|⟨g',cap',cur,hv,hb,hg,hn,eJ,hs,ht⟩
 ·cases h0
 ·cases hv
  have hl:((l.set i x).flatMap Ce).length=n * 3:=by rw [DO BF,CQ,cu]
  refine⟨hl,.inr ⟨g,cap,_,rfl,hb,Aw _ (Aw _ (Aw _ hg)),hn,eJ,by simp [hs],?_⟩⟩;apply DA;intro j;by_cases hj:j<n * 3
  ·rw [BQ hj,Bj];have hq:j / 3<n:=by omega
   obtain⟨y,hy⟩:=Bh (l:=l) (j:=j / 3) (by omega);have e0:j / 3 * 3+j % 3=j:=by omega
   have old:=Gr BF l (j / 3) y (j % 3) hy (by omega);rw [e0,<-ht,BQ hj,Bj] at old;have am:j<cur.size:=by rw [hs];have:=Cw 3 hn;omega
   by_cases jz:j / 3=i
   ·have hx:(l.set i x)[j / 3]?=some x:=by rw [jz,List.getElem?_set_self (by omega)]
    have new:=Gr BF _ (j / 3) x (j % 3) hx (by omega);rw [e0] at new;rw [new];rcases (by omega:j % 3=0\/j % 3=1\/j % 3=2) with r|r|r
    ·rw [r];simp [Cp,show i * 3+2≠j by omega,show i * 3+1≠j by omega,show i * 3=j by omega,am,Ce]
    ·rw [r];simp [Cp,show i * 3+2≠j by omega,show i * 3+1=j by omega,show i * 3≠j by omega,am,Ce]
    ·rw [r];simp [Cp,show i * 3+2=j by omega,show i * 3+1≠j by omega,show i * 3≠j by omega,am,Ce]
   ·have hx:(l.set i x)[j / 3]?=some y:=by rw [List.getElem?_set_ne (by omega)];exact hy
    have new:=Gr BF _ (j / 3) y (j % 3) hx (by omega);rw [e0] at new;rw [new,<-old];simp [Cp,show i * 3+2≠j by omega,show i * 3+1≠j by omega,show i * 3≠j by omega]
  ·rw [CC (by omega),Bm (by omega)]
theorem Sw(a b c:Value):∀n,(List.range (n * 3)).map (fun i=>(#[a,b,c]:Array Value)[i % 3]!)=(List.replicate n [a,b,c]).flatten
 |0=>rfl
 |n+1=>by rw [show (n+1) * 3=n * 3+1+1+1 by omega,Ek,Ek,Ek,Ah,Ah,Ah,Sw a b c n,De,Dt];simp [show (n * 3+1) % 3=1 by omega,show (n * 3+1+1) % 3=2 by omega]
theorem LP(w:World)(ty:TypeId)(b o n c:Nat)(hn:0<n)(hc:∀j,j<n * 3->(w.cell? ⟨b,o+j,none⟩).isSome=true)(hf:∀j,j<n * 3->w.frozen? ⟨b,o+j,none⟩=false):(Builtin.clear_ #[25] ty #[.slice (some ⟨b,o,none⟩) n c]).run prog w=.ok (.tuple #[]) (w.setCells b o (List.replicate n [Value.int .u8 0,.int .i64 0,.string .empty]).flatten):=by
 have hz:∀w:World,(zeroValue 59).run prog w=.ok (.agg #[.int .u8 0,.int .i64 0,.string .empty]) w:=fun w=>by rfl
 have xb:(Builtin.zeroCells (Value.agg #[.int .u8 0,.int .i64 0,.string .empty]).cells n).toList=(List.replicate n [Value.int .u8 0,.int .i64 0,.string .empty]).flatten:=by rw [<-Sw];simp [Builtin.zeroCells,Value.cells]
 have dN:=run_storeCells_cells (P:=prog) b o (List.replicate n [Value.int .u8 0,.int .i64 0,.string .empty]).flatten 0 w (by simpa using hc) (by simpa using hf) (by
  intro v hv;obtain⟨l,hl,hv⟩:=BS.1 hv;rw [List.eq_of_mem_replicate hl] at hv;simp at hv;rcases hv with rfl|rfl|rfl<;>rfl)
 simp only [Bd] at dN;obtain⟨m,rfl⟩:∃m,n=m+1:=⟨n-1,by omega⟩;simp [Builtin.clear_,run_underlying (underlying25),hz,xb,dN]
theorem GY [Inhabited α] [DecidableEq α] (d:Array α) (x:α):∀m,x∈compactUpTo d m↔∃j,j<m/\d[j]! = x
 |0=>by simp [compactUpTo]
 |m+1=>by
  rw [compactUpTo_succ,Ac,GY d x m];constructor
  ·rintro(⟨j,hj,rfl⟩|h)
   ·exact⟨j,by omega,rfl⟩
   ·by_cases c:keeps d m=true
    ·rw [AJ c] at h;exact⟨m,by omega,(AQ.1 h).symm⟩
    ·rw [AC c] at h;simp at h
  ·rintro⟨j,hj,rfl⟩;by_cases e:j=m
   ·subst e;by_cases c:keeps d j=true
    ·rw [AJ c];exact .inr (by simp)
    ·rw [AC c];have hc:¬(j=0\/d[j]!≠d[j-1]!):=by simpa [keeps] using c
     have h0:j≠0:=fun h=>hc (.inl h)
     have h1:d[j]! = d[j-1]!:=by
      by_cases h1:d[j]! = d[j-1]!
      ·exact h1
      ·exact absurd (.inr h1) hc
     exact .inl ⟨j-1,by omega,h1.symm⟩
   ·exact .inl ⟨j,by omega,rfl⟩
theorem Hz(h:∀i j,i<j->j<d.size->BB.lt d[j]! d[i]! = false):∀m,m<=d.size->FD BB.lt (compactUpTo d m)
 |0,_=>by simp [compactUpTo,FD]
 |m+1,hm=>by
  rw [compactUpTo_succ];by_cases c:keeps d m=true
  ·rw [AJ c];refine List.pairwise_append.2 ⟨Hz h m (by omega),by simp,?_⟩;intro x hx y hy;obtain⟨j,hj,rfl⟩:=(GY d x m).1 hx;have:y=d[m]!:=by simpa using hy
   subst this;have hc:m=0\/d[m]!≠d[m-1]!:=by simpa [keeps] using c
   have aM:d[m]!≠d[m-1]!:=hc.resolve_left (by omega)
   have aG:BB.lt d[m-1]! d[m]! = true:=by
    cases e:BB.lt d[m-1]! d[m]! with
    |true=>rfl
    |false=>exact absurd (BB.lt_tri (h (m-1) m (by omega) (by omega)) e) aM
   by_cases e:j=m-1
   ·subst e;exact aG
   ·cases e2:BB.lt d[j]! d[m-1]! with
    |true=>exact BB.lt_trans e2 aG
    |false=>rw [BB.lt_tri e2 (h j (m-1) (by omega) (by omega))];exact aG
  ·rw [AC c,B6];exact Hz h m (by omega)
theorem Tj(l:List BB):(L5 l).Pairwise (fun a b=>BB.lt b a=false):=by
 have:=List.pairwise_mergeSort (le:=fun x y=>!BB.lt y x) (fun a b c h1 h2=>by
  simp only [BO,] at *
  cases e:BB.lt c a with
  |false=>rfl
  |true=>
   cases e2:BB.lt b a with
   |true=>rw [e2] at h1;cases h1
   |false=>
    cases e3:BB.lt a b with
    |true=>rw [BB.lt_trans e e3] at h2;cases h2
    |false=>rw [BB.lt_tri e2 e3] at h2;rw [e] at h2;cases h2) (fun a b=>by
  cases e:BB.lt a b with
  |false=>simp
  |true=>
   cases e2:BB.lt b a with
   |false=>simp
   |true=>have:=BB.lt_trans e e2;rw [BB.lt_irrefl] at this;cases this) l
 refine this.imp ?_;intro a b h;simpa using h
theorem Rg(l:List BB):compact (L5 l)=IA l:=by
 refine Ur ?_ ?_
 ·unfold compact;refine Hz ?_ _ (by simp);intro i j lG hj;have gu:j<(L5 l).length:=by simpa using hj
  rw [Bw _ j hj,Bw _ i (by omega)];simpa using List.pairwise_iff_getElem.1 (Tj l) i j (by omega) gu lG
 ·intro a;unfold compact;rw [GY];constructor
  ·rintro⟨j,hj,rfl⟩;rw [Bw _ j (by simpa using hj)];exact List.mem_mergeSort.1 (Be (l:=L5 l) (by simpa using hj))
  ·intro ha;have:a∈L5 l:=by simpa [L5] using ha
   obtain⟨j,hj,e⟩:=List.getElem_of_mem this;exact⟨j,hj,by rw [Bw _ j (by simpa using hj)];simpa using e⟩
theorem Uk(g cap n:Nat)(l:List BB)(base:Nat)(w:World)(h:A1 Ce 3 w base 59 (.slice (some ⟨g,0,none⟩) n cap) n l)(eV:n<=cap)(hn:n<=4611686018427387904) :
 Calls prog 146 #[.slice (some ⟨g,0,none⟩) n cap] w fun e w'=>∃m,e=.returned (.slice (some ⟨g,0,none⟩) m cap)/\m<=n/\A1 Ce 3 w' base 59 (.slice (some ⟨g,0,none⟩) m cap) m (compact l)/\w.grownBy w' (some g):=by
 have hl:l.length=n:=h.len BF (by omega)
 generalize hd:l.toArray=d
 have nS:d.size=n:=by subst hd;simpa using hl
 have fB:∀j,j<n->l[j]?=some d[j]!:=fun j hj=>by subst hd;rw [Bw _ j (by simpa using(by omega:j<l.length))];simp
 have same:(∀j,j<n->keeps d j=true)->compact l=l:=fun bh=>by subst hd;exact compact_all l (fun j hj=>bh j (by omega))
 have SAME:=AF same
 have HO:=AF h
 have HL:=AF hl
 have HD:=AF hd
 have nt:=AF nS
 have ny:=AF fB
 clear h same hl hd nS fB
 by_cases h2:n<2
 ·go_enter func146,ntmps146;go_wp2_with fail;go_ret;exact⟨n,rfl,AB _,by rw [SAME.out (fun j hj=>keeps_lt_one d j (by omega))];exact HO.o,Cd _ _⟩
 ·go_enter func146,ntmps146;go_wp2_with fail;go_loopw [3] (fun i wr=>∃k q:Nat,1<=k/\k<=n/\i=.int .i64 k/\wr=w.drewN q/\∀j,j<k->keeps d j=true) (fun i _=>n-(intOf i).toNat)
  case atStart=>exact⟨1,0,AB _,by omega,rfl,rfl,keeps_lt_one d⟩
  case round=>
   obtain⟨k,q,dS,hk,rfl,rfl,bh⟩:=hrel;have ALL:=AF bh;clear bh;by_cases aG:k<n
   ·have HOq:=HO.o;have hx:=ny.o k aG;have hy:=ny.o (k-1) (by omega);generalize fY:d[k]! = x at hx;generalize dp:d[k-1]! = y at hy;have B:=AF (⟨fY,dp⟩:d[k]! = x/\d[k-1]! = y);have c0:=(HOq.at BF hx (i:=0) (by omega)).1;have c1:=(HOq.at BF hx (i:=1) (by omega)).1;have c2:=(HOq.at BF hx (i:=2) (by omega)).1;have b0:=(HOq.at BF hy (i:=0) (by omega)).1;have b1:=(HOq.at BF hy (i:=1) (by omega)).1;have b2:=(HOq.at BF hy (i:=2) (by omega)).1;simp only [Ce,Ew,Ds,Bd] at c0 c1 c2 b0 b1 b2;clear hx hy fY dp HOq;have he:=fun W=>X3 x y W;cases hq:Vx x y
    ·go_wp2_with fail;go_quiet (fail);go_wp2_with fail;go_roundw
     case rel=>
      refine⟨k+1,_,by omega,by omega,by go_num,rfl,fun j hj=>?_⟩;by_cases e:j=k
      ·subst e;exact keeps_pos (by rw [B.out.1,B.out.2];simpa [Vx] using hq)
      ·exact ALL.out j (by omega)
     case measure=>simp [intOf];omega
    ·go_wp2_with fail;go_quiet (fail);go_wp2_with fail;clear c0 c1 c2 b0 b1 b2 he;go_loopw [3,5] (fun s3 s5 wr=>∃(kk k2:Nat) (dk:Array BB),s3=.int .i64 kk/\s5=.int .i64 k2/\1<=k2/\k+k2<=n/\A1 Ce 3 wr base 59 (.slice (some ⟨g,0,none⟩) n cap) n dk.toList/\w.grownBy wr (some g)/\CompInv d (k+k2) kk dk) (fun _ s5 _=>n-k-(intOf s5).toNat)
     case atStart=>exact⟨k,1,d,rfl,rfl,AB _,by omega,by have:=HO.o;rw [<-HD.o];exact this.drewN _,J9 w _ _,CompInv.start ALL.out (keeps_neg (by omega) (by rw [B.out.1,B.out.2];simpa [Vx] using hq))⟩
     case round=>
      obtain⟨kk,k2,dk,rfl,rfl,h1,di,aD,cA,hI⟩:=hrel;have cz:=hI.lt;have uQ:=hI.size;have qT:=hI.high;have HW:=AF aD;have df:=AF cA;have HI:=AF hI;have bM:∀j,j<n->dk.toList[j]?=some dk[j]!:=fun j hj=>by rw [Bw dk j (by have:=nt.o;omega)];simp [show j<dk.size by have:=nt.o;omega]
      have nS:=nt.o;by_cases gv:k+k2<n
      ·have hx:=bM (k+k2) gv;have hy:=bM (k+k2-1) (by omega);rw [qT _ (by omega)] at hx;rw [qT _ (by omega)] at hy;generalize fY:d[k+k2]! = x2 at hx;generalize dp:d[k+k2-1]! = y2 at hy;have C:=AF (⟨fY,dp⟩:d[k+k2]! = x2/\d[k+k2-1]! = y2);have c0:=(aD.at BF hx (i:=0) (by omega)).1;have c1:=(aD.at BF hx (i:=1) (by omega)).1;have c2:=(aD.at BF hx (i:=2) (by omega)).1;have b0:=(aD.at BF hy (i:=0) (by omega)).1;have b1:=(aD.at BF hy (i:=1) (by omega)).1;have b2:=(aD.at BF hy (i:=2) (by omega)).1;simp only [Ce,Ew,Ds,Bd] at c0 c1 c2 b0 b1 b2;rw [show (k+k2) * 3=k * 3+k2 * 3 by omega] at c0 c1 c2;rw [show (k+k2-1) * 3=k * 3+(k2-1) * 3 by omega] at b0 b1 b2;have he:=fun W=>ZCX x2 y2 W;clear hx hy fY dp bM qT hI uQ nS;cases fN:Vx x2 y2
       ·have Q2:=AF fN;obtain⟨o0,f0⟩:=aD.cellSome (o:=kk * 3) (by omega);obtain⟨o1,f1⟩:=aD.cellSome (o:=kk * 3+1) (by omega);obtain⟨o2,f2⟩:=aD.cellSome (o:=kk * 3+2) (by omega);obtain⟨u0,o0⟩:=Cr.1 o0;obtain⟨u1,o1⟩:=Cr.1 o1;obtain⟨u2,o2⟩:=Cr.1 o2;clear aD cA;go_wp2_with fail;go_quiet (fail);go_wp2_with fail;go_roundw
        case rel=>
         refine⟨kk+1,k2+1,dk.setIfInBounds kk x2,by go_num,by go_num,by omega,by omega,?_,?_,?_⟩
         ·rw [Array.toList_setIfInBounds];exact(HW.o.drewN _).setA kk x2 (by omega)
         ·exact df.o.trans ((J9 _ _ _).trans ((Ar _ _ _ _).trans ((Ar _ _ _ _).trans (Ar _ _ _ _))))
         ·have:=HI.o.keep (by rw [nt.o];omega) (keeps_pos (by rw [C.out.1,C.out.2];simpa [Vx] using Q2.out));rw [C.out.1] at this;exact this
        case measure=>simp [intOf];omega
       ·have Q2:=AF fN;clear aD cA;go_wp2_with fail;go_quiet (fail);go_wp2_with fail;go_roundw
        case rel=>exact⟨kk,k2+1,dk,rfl,by go_num,by omega,by omega,HW.o.drewN _,df.o.trans (J9 _ _ _),by have:=HI.o.skip (keeps_neg (by omega) (by rw [C.out.1,C.out.2];simpa [Vx] using Q2.out));exact this⟩
        case measure=>simp [intOf];omega
      ·have mo:k+k2=n:=by omega
       have dw:=fun ty=>LP wr ty g (kk * 3) (n-kk) (cap-kk) (by omega) (fun j hj=>(aD.cellSome (by omega)).1) (fun j hj=>(aD.cellSome (by omega)).2);clear aD cA bM qT hI uQ nS;go_wp2_with fail;go_ret;have hI:=HI.o;have nS:=nt.o;have aJ:=hI.len;have je:=hI.low;have xF:=hI.lt;have xC:=hI.size;rw [mo] at je aJ
       have oo:dk.toList.take kk=compact l:=by
        have e1:compact l=compactUpTo d n:=by unfold compact;rw [HL.o,HD.o]
        rw [e1];apply DA;intro j;by_cases hj:j<kk
        ·rw [BQ hj,je j hj,Bw dk j (by omega),Bj,Array.getElem?_eq_getElem]
        ·rw [CC (by omega),Bm (by omega)]
       refine⟨kk,rfl,by omega,?_,df.o.trans (Du _ _ _ _)⟩;have:=(A1.cut (n:=n) (m:=kk) BF HW.o (by simp;omega) (by omega)).clearBehind BF (kk * 3) (List.replicate (n-kk) [Value.int .u8 0,.int .i64 0,.string .empty]).flatten (AB _);rw [oo] at this;exact this
   ·have ai:k=n:=by omega
    subst ai;go_wp2_with fail;go_ret;exact⟨k,rfl,AB _,by rw [SAME.out ALL.out];exact HO.o.drewN q,J9 w q _⟩
end
section
open Go.Sort Go.Lib
theorem A1.split(hk:∀x,(enc x).length=k)(ao:0<k)(h:A1 enc k w base e v n l):(v=.slice none 0 0/\n=0/\l=[])\/∃g cap,v=.slice (some ⟨g,0,none⟩) n cap/\n<=cap/\base<=g:=by
 have hl:=h.len hk ao;rcases h.2 with⟨h0,h1⟩|⟨g,cap,cur,hv,hb,hg,hn,_⟩
 ·refine .inl ⟨h0,?_⟩;obtain⟨p,c,hv,bE,_⟩:=h.row hk ao;rw [h0] at hv;cases hv;exact⟨rfl,BA.1 hl⟩
 ·exact .inr ⟨g,cap,hv,hn,hb⟩
theorem Tx(w:World):Calls prog 145 #[.slice none 0 0,.func (.func 128) #[] #[]] w fun e w'=>e=.returned (.tuple #[])/\w'=w:=AnyF.slices_SortFunc_none { Sp with } none 0 _ w
theorem Ul(w:World):Calls prog 146 #[.slice none 0 0] w fun e w'=>e=.returned (.slice none 0 0)/\w'=w:=by go_enter func146,ntmps146;go_wp2_with fail;go_ret;exact⟨rfl,rfl⟩
theorem A1.drop_base{α:Type}{enc:α->List Value}{k:Nat}{w w':World}{g base:Nat}{w0:World}(hg:w.grownBy w' (some g))(jU:base<=g)(hb:Below base w0 w)(hs:base<=w.heap.size):Below base w0 w':=hb.grown hg hs (fun k hk=>by cases hk;exact jU)
theorem FB(p:Option Addr)(n cap:Nat)(l:List BB)(w:World)(hn:l.length=n)(hm:n<=1000000)(hr:Ia w p l):Calls prog 100 #[.slice p n cap] w fun e w'=>∃v m,e=.returned v/\m<=n/\A1 Ce 3 w' w.heap.size 59 v m (IA (l.filter DF))/\Below w.heap.size w w':=by
 have HR:=AF hr;have HN:=AF hn;clear hr hn;go_enter func100,ntmps100;go_wp2_with fail;go_loopw [3,8] (fun u i wr=>∃k m:Nat,k<=n/\i=.int .i64 k/\m<=k/\A1 Ce 3 wr w.heap.size 59 u m ((l.take k).filter DF)/\Below w.heap.size w wr) (fun _ i _=>n-(intOf i).toNat)
 case atStart=>exact⟨0,0,by omega,rfl,by omega,A1.nil _ _ _ _ _,AA _ _⟩
 case round=>
  obtain⟨k,m,hk,rfl,ux,aD,hb⟩:=hrel;have aZ:=AF aD;have HB:=AF hb;clear aD hb;by_cases aG:k<n
  ·obtain⟨x,hx⟩:=Bh (l:=l) (j:=k) (by rw [HN.o];exact aG);have HE:=AF hx;obtain⟨b,o,rfl,bB,d0,d1,d2⟩:=Ia.atom (HR.o.below HB.o) hx;clear hx bB;go_wp2_with fail;refine(UW x _).mono ?_;rintro e w1 ⟨rfl,hb⟩;have aH:Hd (Below w.heap.size w w1):=(HB.o.alloc HB.o.size _).trans (hb.mono (by have:=HB.o.size;simp;omega));have jI:=AF ((aZ.o.below ((AA _ wr).alloc (AB _) (.cells #[.int .u8 x.kind,.int .i64 x.rho,.string x.exn] 59))).below hb);have f0:w1.cell? ⟨wr.heap.size,0,none⟩=some (.int .u8 x.kind):=by rw [hb.cell (by simp),Bq];rfl
   have f1:w1.cell? ⟨wr.heap.size,1,none⟩=some (.int .i64 x.rho):=by rw [hb.cell (by simp),Bq];rfl
   have f2:w1.cell? ⟨wr.heap.size,2,none⟩=some (.string x.exn):=by rw [hb.cell (by simp),Bq];rfl
   clear hb d0 d1 d2;cases ha:DF x
   ·have HA:=AF ha;clear ha;go_wp2_with fail;go_roundw
    case rel=>exact⟨k+1,m,by omega,by go_num,by omega,by rw [BG HE.o,DB];simpa [HA.o] using jI.o,aH.o⟩
    case measure=>simp [intOf];omega
   ·have HA:=AF ha;clear ha;go_wp2_with (at_builtin;refine Dx rfl _ _ 25 rfl w.heap.size 59 _ 3 32 underlying25 Lu rfl (by decide) Ce BF Gp x _ _ _ jI.o rfl rfl ?c1 ?c2 ?c3 ?_)
    case c1=>omega
    case c2=>omega
    case c3=>exact aH.o.size
    ·intro v' w4 aP hg;have HO:=AF aP;have bJ:=AF (Below.own aH.o hg aH.o.size jI.o);clear aP hg f0 f1 f2;go_wp2_with fail;go_roundw
     case rel=>exact⟨k+1,m+1,by omega,by go_num,by omega,by rw [BG HE.o,DB];simpa [HA.o] using HO.o,bJ.o⟩
     case measure=>simp [intOf];omega
  ·have ai:k=n:=by omega
   subst ai;have HT:Hd ((l.take k).filter DF=l.filter DF):=by show (l.take k).filter DF=l.filter DF;rw [Bb (by rw [HN.o];omega)]
   rcases aZ.o.split BF (by omega) with⟨rfl,rfl,aj⟩|⟨g,cp,rfl,ml,jU⟩
   ·have gj:=AF aj;clear aj;go_wp2_with fail;refine(Tx _).mono ?_;rintro e w1 ⟨rfl,rfl⟩;go_wp2_with fail;refine(Ul _).mono ?_;rintro e w2 ⟨rfl,rfl⟩;go_wp2_with fail;go_ret;exact⟨_,0,rfl,by omega,by rw [<-HT.o,gj.o];exact A1.nil _ _ _ _ _,HB.o⟩
   ·go_wp2_with fail;refine(Tw g cp m _ w.heap.size wr aZ.o (by omega)).mono ?_;rintro e w1 ⟨rfl,lU,gC⟩;have aH:=AF (A1.drop_base (enc:=Ce) (k:=3) gC jU HB.o HB.o.size);have iF:=AF lU;clear lU gC;go_wp2_with fail;refine(Uk g cp m _ w.heap.size w1 iF.o ml (by omega)).mono ?_;rintro e w2 ⟨m',rfl,eJ,ie,aa⟩;have aF:=AF (A1.drop_base (enc:=Ce) (k:=3) aa jU aH.o aH.o.size);have af:=AF ie;clear ie aa;go_wp2_with fail;go_ret;have h2:=af.o;rw [Rg,HT.o] at h2;exact⟨_,m',rfl,by omega,h2,aF.o⟩
end
theorem H7(h:DF a=r)(w:World):Calls prog 127 #[.agg #[.int .u8 a.kind,.int .i64 a.rho,.string a.exn]] w (RB w (.bool r)):=by subst h;exact UW a w
theorem WD(W:World)(q:Nat)(os':Array Obj):Below W.heap.size W (Go.Sort.grow (W.drewN q) os'):=⟨rfl,rfl,rfl,by simp [Go.Sort.grow],fun k hk=>by rw [Go.Sort.heap_grow_old _ _ (by simpa using hk)];rfl⟩
theorem QN(h:QM a b=r)(w:World):Calls prog 128 #[.agg #[.int .u8 a.kind,.int .i64 a.rho,.string a.exn],.agg #[.int .u8 b.kind,.int .i64 b.rho,.string b.exn]] w (RB w (.int .i64 r)):=by subst h;refine(Ox a b w).mono ?_;rintro e w' ⟨he,q,os',rfl⟩;exact⟨he,WD w q os'⟩
theorem QQ(p:Option Addr)(n cap:Nat)(l:List BB)(w:World)(hn:l.length=n)(hm:n<=9223372036854775807)(hr:Ia w p l):Calls prog 93 #[.slice p n cap] w fun e w'=>(∃r,e=.returned (.bool r)/\(r=true↔UM l n))/\Below w.heap.size w w':=by
 have HR:=AF hr;have HN:=AF hn;clear hr hn;go_enter func93,ntmps93;go_wp2_with fail;go_loopw [7] (fun i wr=>∃k:Nat,k<=n/\i=.int .i64 k/\UM l k/\Below w.heap.size w wr) (fun i _=>n-(intOf i).toNat)
 case atStart=>exact⟨0,by omega,rfl,⟨by simp,fun j _ _ h=>by omega⟩,AA _ _⟩
 case round=>
  obtain⟨k,hk,rfl,an,hb⟩:=hrel;have ax:=AF an;have HB:=AF hb;clear an hb;by_cases aG:k<n
  ·obtain⟨x,hx⟩:=Bh (l:=l) (j:=k) (by rw [HN.o];exact aG);have HE:=AF hx;obtain⟨b,o,rfl,bB,d0,d1,d2⟩:=Ia.atom (HR.o.below HB.o) hx;have tE:=AF bB;clear hx bB;have v0:=fun g=>Ez (a:=⟨wr.heap.size,0,none⟩) (v:=.int .u8 x.kind) (w:=wr.alloc (.cells #[.int .u8 x.kind,.int .i64 x.rho,.string x.exn] 59)) (by rw [Bq];rfl) g;have v1:=fun g=>Ez (a:=⟨wr.heap.size,1,none⟩) (v:=.int .i64 x.rho) (w:=wr.alloc (.cells #[.int .u8 x.kind,.int .i64 x.rho,.string x.exn] 59)) (by rw [Bq];rfl) g;have v2:=fun g=>Ez (a:=⟨wr.heap.size,2,none⟩) (v:=.string x.exn) (w:=wr.alloc (.cells #[.int .u8 x.kind,.int .i64 x.rho,.string x.exn] 59)) (by rw [Bq];rfl) g;cases ha:DF x
   ·have HA:=AF ha;clear ha;have hW:=Ji (wr.alloc (.cells #[.int .u8 x.kind,.int .i64 x.rho,.string x.exn] 59));go_wp2_with fail;refine Es (by kernel_rfl) (by kernel_rfl) ?_;repeat ((with_reducible refine AZ (fun K hK=>?_));go_simp;refine hK _ ?_;clear hK K)
    refine AZ (fun K hK=>?_);go_simp;refine⟨.bool false,fun _=>Df (H7 HA.o _),hK _ ?_⟩;clear hK K;repeat ((with_reducible refine AZ (fun K hK=>?_));go_simp;refine hK _ ?_;clear hK K)
    refine CX ?_;rintro w3 ⟨g,rfl⟩;have aL:=AF ((HB.o.alloc HB.o.size _).trans ((hW g).mono (by have:=HB.o.size;simp;omega)));clear hW;go_wp2_with fail;go_ret
    exact⟨⟨false,rfl,by
     constructor
     ·intro h;cases h
     ·intro h;have h1:=h.1;rw [Bb (by rw [HN.o];omega),J4 HE.o HA.o] at h1;cases h1⟩,aL.o⟩
   ·have HA:=AF ha;clear ha;have hW:=Ji (wr.alloc (.cells #[.int .u8 x.kind,.int .i64 x.rho,.string x.exn] 59));by_cases ao:k=0
    ·have hd:decide ((0:Int)<(k:Int))=false:=by simp;omega
     have xA:decide (0<k)=false:=by simp;omega
     have aq:=AF ao;clear ao;go_wp2_with fail;refine Es (by kernel_rfl) (by kernel_rfl) ?_;repeat ((with_reducible refine AZ (fun K hK=>?_));go_simp;refine hK _ ?_;clear hK K)
     refine AZ (fun K hK=>?_);go_simp;refine⟨.bool true,fun _=>Df (H7 HA.o _),hK _ ?_⟩;clear hK K;repeat ((with_reducible refine AZ (fun K hK=>?_));go_simp;refine hK _ ?_;clear hK K)
     refine CX ?_;rintro w3 ⟨g,rfl⟩;have aL:=AF ((HB.o.alloc HB.o.size _).trans ((hW g).mono (by have:=HB.o.size;simp;omega)));clear hW;go_wp2_with fail;go_roundw
     case rel=>exact⟨k+1,by omega,by go_num,⟨by rw [FU HE.o,ax.o.1,HA.o];rfl,fun j _ _ h=>by have:=aq.o;omega⟩,aL.o⟩
     case measure=>simp [intOf];omega
    ·obtain⟨y,hy⟩:=Bh (l:=l) (j:=k-1) (by rw [HN.o];omega);have HY:=AF hy;obtain⟨b',o',bV,_,e0,e1,e2⟩:=Ia.atom ((HR.o.below HB.o).alloc (.cells #[.int .u8 x.kind,.int .i64 x.rho,.string x.exn] 59)) hy;cases bV;have cN:=fun g=>Ez e0 g;have sK:=fun g=>Ez e1 g;have nT:=fun g=>Ez e2 g;have dS:Hd (0<k):=show 0<k by omega
     have hd:decide ((0:Int)<(k:Int))=true:=by simp;omega
     have xA:decide (0<k)=true:=by simp;omega
     have yA:0<k:=dS.out;have a1:IntKind.i64.wrap ((k:Int)-1)=(k:Int)-1:=Bi _ (by omega);have a2:(0:Int)<=(k:Int)-1:=by omega
     have a3:((k:Int)-1).toNat=k-1:=by omega
     have a4:(k:Int)-1<(n:Int):=by omega
     have a5:(1:Int)<=(k:Int):=by omega
     clear hy ao;have dw:=Xg y x;generalize f9:QM y x=c at dw;have tH:=AF f9;clear f9;cases hl:BB.lt y x
     ·have HL:=AF hl;rw [hl] at dw;have nR:decide ((0:Int)<=c)=true:=by simp at dw ⊢;omega
      clear hl dw;go_wp2_with fail;refine Es (by kernel_rfl) (by kernel_rfl) ?_;repeat ((with_reducible refine AZ (fun K hK=>?_));go_simp;refine hK _ ?_;clear hK K)
      refine AZ (fun K hK=>?_);go_simp;refine⟨.bool true,fun _=>Df (H7 HA.o _),hK _ ?_⟩;clear hK K;repeat ((with_reducible refine AZ (fun K hK=>?_));go_simp;refine hK _ ?_;clear hK K)
      refine AZ (fun K hK=>?_);go_simp;refine⟨.int .i64 c,fun _=>Df (QN tH.o _),hK _ ?_⟩;clear hK K;repeat ((with_reducible refine AZ (fun K hK=>?_));go_simp;refine hK _ ?_;clear hK K)
      refine CX ?_;rintro w3 ⟨g,rfl⟩;have aL:=AF ((HB.o.alloc HB.o.size _).trans ((hW g).mono (by have:=HB.o.size;simp;omega)));clear hW;go_wp2_with fail;go_ret
      exact⟨⟨false,rfl,by
       constructor
       ·intro h;cases h
       ·intro h;have h1:=h.2 (k-1) y x (by have:=dS.out;omega) HY.o (by rw [show k-1+1=k from by have:=dS.out;omega];exact HE.o);rw [HL.o] at h1;cases h1⟩,aL.o⟩
     ·have HL:=AF hl;rw [hl] at dw;have nR:decide ((0:Int)<=c)=false:=by simp at dw ⊢;omega
      clear hl dw;go_wp2_with fail;refine Es (by kernel_rfl) (by kernel_rfl) ?_;repeat ((with_reducible refine AZ (fun K hK=>?_));go_simp;refine hK _ ?_;clear hK K)
      refine AZ (fun K hK=>?_);go_simp;refine⟨.bool true,fun _=>Df (H7 HA.o _),hK _ ?_⟩;clear hK K;repeat ((with_reducible refine AZ (fun K hK=>?_));go_simp;refine hK _ ?_;clear hK K)
      refine AZ (fun K hK=>?_);go_simp;refine⟨.int .i64 c,fun _=>Df (QN tH.o _),hK _ ?_⟩;clear hK K;repeat ((with_reducible refine AZ (fun K hK=>?_));go_simp;refine hK _ ?_;clear hK K)
      refine CX ?_;rintro w3 ⟨g,rfl⟩;have aL:=AF ((HB.o.alloc HB.o.size _).trans ((hW g).mono (by have:=HB.o.size;simp;omega)));clear hW;go_wp2_with fail;go_roundw
      case rel=>exact⟨k+1,by omega,by go_num,⟨by rw [FU HE.o,ax.o.1,HA.o];rfl,fun i u v hi hu hv=>by
       have dS:=dS.out;rcases (by omega:i=k-1\/i+1<k) with rfl|sV
       ·rw [HY.o] at hu;cases hu;rw [show k-1+1=k from by omega,HE.o] at hv;cases hv;exact HL.o
       ·exact ax.o.2 i u v sV hu hv⟩,aL.o⟩
      case measure=>simp [intOf];omega
  ·go_wp2_with fail;go_ret;obtain rfl:k=n:=by omega
   exact⟨⟨true,rfl,by simp [ax.o]⟩,HB.o⟩
theorem TD(l:List BB)(a:BB):l.any (fun x=>Vx a x)=ZS l a:=by unfold ZS;congr 1;funext x;unfold Vx;exact decide_eq_decide.2 ⟨fun h=>h.symm,fun h=>h.symm⟩
theorem UR(p:Option Addr)(n cap:Nat)(l:List BB)(a:BB)(w:World)(hn:l.length=n)(hm:n<=9223372036854775807)(hr:Ia w p l) :
 Calls prog 218 #[.slice p n cap,.agg #[.int .u8 a.kind,.int .i64 a.rho,.string a.exn]] w fun e w'=>(∃r:Int,e=.returned (.int .i64 r)/\(ZS l a=decide (0<=r)))/\Below w.heap.size w w':=by
 have HR:=AF (hr.alloc (.cells #[.int .u8 a.kind,.int .i64 a.rho,.string a.exn] 59))
 have HN:=AF hn
 have HC:Hd (l.any (fun x=>Vx a x)=ZS l a):=TD l a
 clear hr hn
 go_enter func218,ntmps218
 go_wp2_with fail
 go_loopw [5,8] (fun _ i wr=>∃k:Nat,k<=n/\i=.int .i64 k/\(l.take k).any (fun x=>Vx a x)=false/\∃q,wr=(w.alloc (.cells #[.int .u8 a.kind,.int .i64 a.rho,.string a.exn] 59)).drewN q) (fun _ i _=>n-(intOf i).toNat)
 case atStart=>exact⟨0,by omega,rfl,by simp,0,rfl⟩
 case round=>
  obtain⟨k,hk,rfl,an,q,rfl⟩:=hrel;have ax:=AF an;clear an;by_cases aG:k<n
  ·obtain⟨x,hx⟩:=Bh (l:=l) (j:=k) (by rw [HN.o];exact aG);obtain⟨b,o,rfl,hb,c0,c1,c2⟩:=Ia.atom HR.o hx;have HE:=AF hx;clear hx hb;have he:=fun W=>X3 a x W;cases hq:Vx a x
   ·go_wp2_with fail;go_quiet (fail);go_wp2_with fail;go_roundw
    case rel=>exact⟨k+1,by omega,by go_num,by rw [FA HE.o,ax.o,hq];rfl,_,rfl⟩
    case measure=>simp [intOf];omega
   ·go_wp2_with fail;go_quiet (fail);go_wp2_with fail;go_ret;exact⟨⟨k,rfl,by rw [<-HC.o,J5 HE.o hq];simp⟩,E4 (E4 bA _) _⟩
  ·go_wp2_with fail;go_ret;have h:=ax.o;rw [Bb (by rw [HN.o];omega)] at h;exact⟨⟨-1,rfl,by rw [<-HC.o,h];simp⟩,E4 bA _⟩
theorem P3(p:Option Addr)(n cap:Nat)(l:List BB)(a:BB)(w:World)(hn:l.length=n)(hm:n<=9223372036854775807)(hr:Ia w p l) :
 Calls prog 189 #[.slice p n cap,.agg #[.int .u8 a.kind,.int .i64 a.rho,.string a.exn]] w (RB w (.bool (ZS l a))):=by
 have hc:=fun W h=>UR p n cap l a W hn hm h
 have HR:=AF (hr.alloc (.cells #[.int .u8 a.kind,.int .i64 a.rho,.string a.exn] 59))
 generalize ZS l a=r at hc ⊢
 have HC:=AF hc
 clear hr hn hc
 go_enter func189,ntmps189
 go_wp2_with fail
 refine(HC.o _ HR.o).mono ?_
 rintro e w1 ⟨⟨r',rfl,hr⟩,hb⟩
 have co:=AF hr
 have HB:=AF (((AA _ w).alloc (AB _) _).trans (hb.mono (by simp)))
 clear hr hb
 go_wp2_with fail
 go_ret
 exact⟨Af co.o.symm,HB.o⟩
theorem Vn(x:BB)(ad:Addr)(q:Option Addr)(m mc:Nat)(l:List BB)(w:World)(ac:w.cell? ad=some (.slice q m mc))(hn:l.length=m)(hm:m<=9223372036854775807)(hr:Ia w q l):Calls prog 188 #[TC x,.pointer (some ad)] w (RB w (.bool (DF x&&!ZS l x))):=by
 have HX:=AF ac;have HR:=AF hr;have HN:=AF hn;clear hr hn;clear ac;cases ha:DF x
 ·have HA:=AF ha;clear ha;go_enter func188,ntmps188;go_wp2_with fail;refine(H7 HA.o _).mono ?_;rintro e w1 ⟨rfl,hb⟩;have HB:=AF (((AA _ w).alloc (AB _) _).trans (hb.mono (by simp)));clear hb;go_wp2_with fail;go_ret;exact⟨rfl,HB.o⟩
 ·have HA:=AF ha;clear ha;go_enter func188,ntmps188;go_wp2_with fail;refine(H7 HA.o _).mono ?_;rintro e w1 ⟨rfl,hb⟩;have HB:=AF (((AA _ w).alloc (AB _) (.cells #[.int .u8 x.kind,.int .i64 x.rho,.string x.exn] 59)).trans (hb.mono (by simp)));have f0:w1.cell? ⟨w.heap.size,0,none⟩=some (.int .u8 x.kind):=by rw [hb.cell (by simp),Bq];rfl
  have f1:w1.cell? ⟨w.heap.size,1,none⟩=some (.int .i64 x.rho):=by rw [hb.cell (by simp),Bq];rfl
  have f2:w1.cell? ⟨w.heap.size,2,none⟩=some (.string x.exn):=by rw [hb.cell (by simp),Bq];rfl
  have eU:w1.cell? ad=some (.slice q m mc):=by rw [HB.o.cell (D9 HX.o)];exact HX.o
  clear hb;go_wp2_with fail;refine(P3 q m mc l x w1 HN.o hm (HR.o.below HB.o)).mono ?_;rintro e w2 ⟨rfl,hb⟩;have aF:=bt HB hb;clear hb;go_wp2_with fail;go_ret;exact⟨rfl,aF.o⟩
theorem Gf(p:Option Addr)(n cap:Nat)(l:List BB)(q:Option Addr)(m mc:Nat)(l':List BB)(w:World)(hn:l.length=n)(hm:n<=9223372036854775807)(hr:Ia w p l)(a8:l'.length=m)(eJ:m<=9223372036854775807)(bW:Ia w q l'):Calls prog 135 #[.slice p n cap,.slice q m mc] w (RB w (.bool (EP l l'))):=by
 have hc:∀t,Calls prog 187 #[.slice p n cap,.func (.func 188) #[] #[.pointer (some ⟨w.heap.size,0,none⟩)]] (w.alloc (.cells #[.slice q m mc] t)) fun e w'=>
  e=.returned (.bool (l.any (fun x=>DF x&&!ZS l' x)))/\Below (w.alloc (.cells #[.slice q m mc] t)).heap.size (w.alloc (.cells #[.slice q m mc] t)) w':=fun t=>
  Mw 188 #[.pointer (some ⟨w.heap.size,0,none⟩)] (fun x=>DF x&&!ZS l' x) (fun a w=>call188 a w) p n cap l _ hn hm (hr.alloc _)
   (fun x _ W hW=>by
    have:=Vn x ⟨w.heap.size,0,none⟩ q m mc l' W (by rw [hW.cell (by simp),Bq];rfl) a8 eJ ((bW.alloc _).below hW);simpa using this)
 have he:Hd (EP l l'=!l.any (fun x=>DF x&&!ZS l' x)):=by show EP l l'=_;unfold EP;rw [D1];congr 2;funext x;cases DF x<;>simp
 generalize l.any (fun x=>DF x&&!ZS l' x)=r at hc he;have HC:=AF hc;clear hr hn hc bW a8;go_enter func135,ntmps135;go_wp2_with fail;refine(HC.o _).mono ?_;rintro e w1 ⟨rfl,hb⟩;have HB:=AF (((AA _ w).alloc (AB _) _).trans (hb.mono (by simp)));clear hb;go_wp2_with fail;go_ret;exact⟨Af he.out.symm,HB.o⟩
theorem Kc(hq:EP l l'=r)(hn:l.length=n)(hm:n<=9223372036854775807)(hr:Ia w p l)(a8:l'.length=m)(eJ:m<=9223372036854775807)(bW:Ia w q l'):Calls prog 135 #[.slice p n cap,.slice q m mc] w (RB w (.bool r)):=by subst hq;exact Gf p n cap l q m mc l' w hn hm hr a8 eJ bW
theorem PK(p:Option Addr)(n cap:Nat)(l:List BB)(q:Option Addr)(m mc:Nat)(l':List BB)(w:World)(hn:l.length=n)(hm:n<=9223372036854775807)(hr:Ia w p l)(a8:l'.length=m)(eJ:m<=9223372036854775807)(bW:Ia w q l'):Calls prog 191 #[.slice p n cap,.slice q m mc] w (RB w (.bool (EP l l'&&EP l' l))):=by
 have HR:=AF hr;have HN:=AF hn;have gW:=AF bW;have rM:=AF a8;clear hr hn bW a8;cases ha:EP l l'
 ·have HA:=AF ha;clear ha;go_enter func191,ntmps191;go_wp2_with fail;refine(Kc HA.o HN.o hm HR.o rM.out eJ gW.out).mono ?_;rintro e w1 ⟨rfl,hb⟩;have HB:=AF hb;clear hb;go_wp2_with fail;go_ret;exact⟨rfl,HB.o⟩
 ·have HA:=AF ha;clear ha;go_enter func191,ntmps191;go_wp2_with fail;refine(Kc HA.o HN.o hm HR.o rM.out eJ gW.out).mono ?_;rintro e w1 ⟨rfl,hb⟩;have HB:=AF hb;clear hb;go_wp2_with fail;refine(Gf q m mc l' p n cap l w1 rM.out eJ (gW.out.below HB.o) HN.o hm (HR.o.below HB.o)).mono ?_;rintro e w2 ⟨rfl,hb⟩;have aF:=bt HB hb;clear hb;go_wp2_with fail;go_ret;exact⟨rfl,aF.o⟩
theorem G3(p:Option Addr)(n cap:Nat)(rows:List (SF BB))(w:World)(hn:rows.length=n)(hm:n<=1000000)(hr:DK J7 1 w p rows)(aW:∀r∈rows,r.Ok Ce 3 w)(eD:(rows.map (·.n)).sum<=1000000):Calls prog 85 #[.slice p n cap] w fun e w'=>∃v m,e=.returned v/\m<=(rows.map (·.n)).sum/\A1 Ce 3 w' w.heap.size 59 v m (IA ((rows.flatMap (·.l)).filter DF))/\Below w.heap.size w w':=by
 have HT:=AF eD;have hc:=WM p n cap rows w hn hm hr aW eD;have HC:=AF hc;clear hr hn aW hc eD;go_enter func85,ntmps85;go_wp2_with fail;refine HC.o.mono ?_;rintro e w1 ⟨v,rfl,ho,hb⟩;obtain⟨q,mc,rfl,hl,pS,aC,_⟩:=ho.row BF (by omega);have HL:=AF hl;have a6:=AF aC;have HB:=AF hb;clear hb;clear ho hl aC;generalize t8:(rows.map (·.n)).sum=S at *
 have cJ:=AF t8;clear t8;have hS:=HT.o;go_wp2_with fail;refine(FB q S mc _ w1 HL.o hS a6.o).mono ?_;rintro e w2 ⟨v,m,rfl,ic,aD,hb⟩;have HO:=AF (aD.lower HB.o.size);have aF:=bt HB hb;clear hb;clear aD;go_wp2_with fail;go_ret;exact⟨_,m,rfl,by rw [cJ.o];exact ic,HO.o,aF.o⟩
section
open Go.Sort Go.Lib
structure KI(q:BB->Bool)(l:List BB)(j i:Nat)(dk:List BB):Prop where
 size:dk.length=l.length
 low:dk.take i=(l.take j).filter (fun x=>!q x)
 high:∀t,j<=t->dk[t]?=l[t]?
 lt:i<j
theorem KI.start(hx:l[k]?=some x)(hq:q x=true)(an:(l.take k).any q=false):KI q l (k+1) k l:=by
 refine⟨rfl,?_,fun _ _=>rfl,by omega⟩;rw [BG hx,DB];have h1:(l.take k).filter (fun x=>!q x)=l.take k:=by rw [List.filter_eq_self];intro a ha;have:=EF.1 an a ha;simpa using this
 rw [h1];simp [hq]
theorem KI.skip(h:KI q l j i dk)(hx:l[j]?=some x)(hq:q x=true):KI q l (j+1) i dk:=by refine⟨h.size,?_,fun t ht=>h.high t (by omega),by have:=h.lt;omega⟩;rw [BG hx,DB,h.low];simp [hq]
theorem KI.keep(h:KI q l j i dk)(hx:l[j]?=some x)(hq:q x=false):KI q l (j+1) (i+1) (dk.set i x):=by
 have hj:=DI hx;have hi:i<dk.length:=by have:=h.lt;have:=h.size;omega
 refine⟨by rw [CQ];exact h.size,?_,fun t ht=>?_,by have:=h.lt;omega⟩
 ·rw [BG hx,DB,<-h.low];rw [BG (List.getElem?_set_self hi),List.take_set_of_le (AB _)];simp [hq]
 ·rw [List.getElem?_set_ne (by have:=h.lt;omega)];exact h.high t (by omega)
theorem QO(fid:FuncId)(caps:Array Value)(q:BB->Bool)(ay:Hv fid)(g cap n:Nat)(l:List BB)(base:Nat)(w:World)(h:A1 Ce 3 w base 59 (.slice (some ⟨g,0,none⟩) n cap) n l)(eV:n<=cap)(hn:n<=1000000)(iJ:base<=w.heap.size)(hf:NY fid caps base w l q) :
 Calls prog 250 #[.slice (some ⟨g,0,none⟩) n cap,.func (.func fid) #[] caps] w fun e w'=>∃m,e=.returned (.slice (some ⟨g,0,none⟩) m cap)/\m<=n/\A1 Ce 3 w' base 59 (.slice (some ⟨g,0,none⟩) m cap) m (l.filter (fun x=>!q x))/\Below base w w':=by
 have hl:l.length=n:=h.len BF (by omega)
 have aC:Ia w (some ⟨g,0,none⟩) l:=by obtain⟨p',c',hv,_,_,hr,_⟩:=h.row BF (by omega);cases hv;exact hr
 have kF:=AF (JC fid caps q ay (some ⟨g,0,none⟩) n cap l w hl (by omega) aC (hf.a (AA _ _) iJ))
 have o3:=ay
 unfold Hv at o3
 have HO:=AF h
 have HL:=AF hl
 have HF:=AF hf
 clear h hl hf
 clear aC
 go_enter func250,ntmps250
 go_wp2_with fail
 refine kF.o.mono ?_
 rintro e w1 ⟨⟨r,rfl,hr⟩,hb⟩
 have aH:=AF (hb.mono iJ)
 have iF:=AF (HO.o.below hb)
 clear hb
 rcases hr with⟨rfl,an⟩|⟨k,x,rfl,hx,hq,an⟩
 ·have ax:=AF an;clear an;go_wp2_with fail;go_ret;refine⟨n,rfl,AB _,?_,aH.o⟩;have e1:l.filter (fun x=>!q x)=l:=by rw [List.filter_eq_self];intro a ha;have:=EF.1 ax.o a ha;simpa using this
  rw [e1];exact iF.o
 ·have hk:=DI hx;have ai:k<n:=by have:=HL.o;omega
  have cx:=AF (KI.start hx hq an);have mu:((k:Int)==-1)=false:=by rw [AW];omega
  clear hx hq an hk;go_wp2_with fail;go_loopw [5,6] (fun si sj wr=>∃(i j:Nat) (dk:List BB),si=.int .i64 i/\sj=.int .i64 j/\j<=n/\i<j/\KI q l j i dk/\A1 Ce 3 wr base 59 (.slice (some ⟨g,0,none⟩) n cap) n dk/\Below base w wr) (fun _ sj _=>n-(intOf sj).toNat)
  case atStart=>exact⟨k,k+1,l,rfl,by go_num,by omega,by omega,cx.o,iF.o,aH.o⟩
  case round=>
   obtain⟨i,j,dk,rfl,rfl,hj,lG,hI,aD,hb⟩:=hrel;have HI:=AF hI;have aZ:=AF aD;have HB:=AF hb;clear hI aD hb;by_cases aG:j<n
   ·obtain⟨x,hx⟩:=Bh (l:=l) (j:=j) (by rw [HL.o];exact aG);have HE:=AF hx;have qR:dk[j]?=some x:=by rw [HI.o.high j (AB _)];exact hx
    have d0:=(aZ.o.at BF qR (i:=0) (by omega)).1;have d1:=(aZ.o.at BF qR (i:=1) (by omega)).1;have d2:=(aZ.o.at BF qR (i:=2) (by omega)).1;simp only [Ce,Ew,Ds,Bd] at d0 d1 d2;clear hx qR;have fm:base<=wr.heap.size:=AM iJ HB.o.size;cases hq:q x
    ·have HQ:=AF hq;clear hq;go_wp2_with fail;refine(HF.o.is (AE HE.o) HQ.o (HB.o.alloc fm _)).mono ?_;rintro e w2 ⟨rfl,hb⟩;have aF:=AF ((HB.o.alloc fm (.cells #[.int .u8 x.kind,.int .i64 x.rho,.string x.exn] 59)).trans (hb.mono (by simp;omega)));have af:=AF ((aZ.o.below ((AA _ wr).alloc (AB _) (.cells #[.int .u8 x.kind,.int .i64 x.rho,.string x.exn] 59))).below hb);have f0:w2.cell? ⟨wr.heap.size,0,none⟩=some (.int .u8 x.kind):=by rw [hb.cell (by simp),Bq];rfl
     have f1:w2.cell? ⟨wr.heap.size,1,none⟩=some (.int .i64 x.rho):=by rw [hb.cell (by simp),Bq];rfl
     have f2:w2.cell? ⟨wr.heap.size,2,none⟩=some (.string x.exn):=by rw [hb.cell (by simp),Bq];rfl
     obtain⟨o0,g0⟩:=af.o.cellSome (o:=i * 3) (by omega);obtain⟨o1,g1⟩:=af.o.cellSome (o:=i * 3+1) (by omega);obtain⟨o2,g2⟩:=af.o.cellSome (o:=i * 3+2) (by omega);obtain⟨u0,o0⟩:=Cr.1 o0;obtain⟨u1,o1⟩:=Cr.1 o1;obtain⟨u2,o2⟩:=Cr.1 o2;clear hb d0 d1 d2;go_wp2_with fail;go_roundw
     case rel=>
      refine⟨i+1,j+1,dk.set i x,by go_num,by go_num,by omega,by omega,HI.o.keep HE.o HQ.o,af.o.setA i x (by omega),?_⟩
      have eC:base<=g:=by
       rcases af.o.2 with⟨h0,_⟩|⟨g',cap',cur,hv,hb,_⟩
       ·cases h0
       ·cases hv;exact hb
      exact((aF.o.setCell (p:=⟨g,i * 3,none⟩) eC _).setCell (p:=⟨g,i * 3+1,none⟩) eC _).setCell (p:=⟨g,i * 3+2,none⟩) eC _
     case measure=>simp [intOf];omega
    ·have HQ:=AF hq;clear hq;go_wp2_with fail;refine(HF.o.is (AE HE.o) HQ.o (HB.o.alloc fm _)).mono ?_;rintro e w2 ⟨rfl,hb⟩;have aF:=AF ((HB.o.alloc fm (.cells #[.int .u8 x.kind,.int .i64 x.rho,.string x.exn] 59)).trans (hb.mono (by simp;omega)));have af:=AF ((aZ.o.below ((AA _ wr).alloc (AB _) (.cells #[.int .u8 x.kind,.int .i64 x.rho,.string x.exn] 59))).below hb);clear hb d0 d1 d2;go_wp2_with fail;go_roundw
     case rel=>exact⟨i,j+1,dk,rfl,by go_num,by omega,by omega,HI.o.skip HE.o HQ.o,af.o,aF.o⟩
     case measure=>simp [intOf];omega
   ·have mo:j=n:=by omega
    have dw:=fun ty=>LP wr ty g (i * 3) (n-i) (cap-i) (by omega) (fun t ht=>(aZ.o.cellSome (by omega)).1) (fun t ht=>(aZ.o.cellSome (by omega)).2);go_wp2_with fail;go_ret;have je:=HI.o.low;rw [mo,Bb (l:=l) (by rw [HL.o];omega)] at je;refine⟨i,rfl,by omega,?_,?_⟩
    ·have:=(A1.cut (n:=n) (m:=i) BF aZ.o (by rw [HI.o.size,HL.o]) (by omega)).clearBehind BF (i * 3) (List.replicate (n-i) [Value.int .u8 0,.int .i64 0,.string .empty]).flatten (AB _);rw [je] at this;exact this
    ·have eC:base<=g:=by
      rcases aZ.o.2 with⟨h0,_⟩|⟨g',cap',cur,hv,hb,_⟩
      ·cases h0
      ·cases hv;exact hb
     exact A1.drop_base (enc:=Ce) (k:=3) (Du g _ _ _) eC HB.o (AM iJ HB.o.size)
end
structure Ax{α:Type}(enc:α->List Value)(k:Nat)(w:World)(p:Option Addr)(n cap:Nat)(l:List α):Prop where
 len:l.length=n
 max:n<=9223372036854775807
 le:n<=cap
 nil:p=none->cap=0
 row:DK enc k w p l
section
variable {α:Type} {enc:α->List Value} {k:Nat} {w w':World} {p:Option Addr} {n cap:Nat} {l:List α}
theorem Ax.below(h:Ax enc k w p n cap l)(hb:Below w.heap.size w w'):Ax enc k w' p n cap l:=⟨h.1,h.2,h.3,h.4,h.5.below hb⟩
theorem Ax.alloc(h:Ax enc k w p n cap l)(o:Obj):Ax enc k (w.alloc o) p n cap l:=h.below bA
theorem A1.isRow(hk:∀x,(enc x).length=k)(ao:0<k)(h:A1 enc k w base e v n l):∃p cap,v=.slice p n cap/\Ax enc k w p n cap l:=by obtain⟨p,cap,hv,hl,hc,hr,hm,hn,_⟩:=h.row hk ao;unfold maxLen at hm;exact⟨p,cap,hv,hl,by omega,hc,fun e=>(hn e).2,hr⟩
theorem Ax.none(enc:α->List Value)(k:Nat)(w:World):Ax enc k w Option.none 0 0 []:=⟨rfl,by omega,by omega,fun _=>rfl,.inl rfl⟩
end
section
open Go.Sort Go.Lib
theorem ZCo:(prog.info? 9).map (fun i=>(i.zero,i.size,i.bytes))=some (some (.string .empty),1,16):=by kernel_rfl
theorem Uq(y:ByteArray):∀u∈Ib y,u.oneCell'=true:=by intro u hu;simp [Ib] at hu;subst hu;rfl
end
section
open Go.Sort Go.Lib
def GJ(r:Int):List Int->List Int->Int
 |[],_=>r
 |f::fs,t=>if f=r then(t[0]?).getD r else GJ r fs (t.drop 1)
def MV(f t:List Int)(a:BB):BB:=if a.kind=3 then a else { a with rho:=GJ a.rho f t }
end
section
open Go.Sort Go.Lib
theorem Yj(x:Int)(p:Option Addr)(n cap:Nat)(l:List Int)(w:World)(hn:l.length=n)(hm:n<=9223372036854775807)(hr:DK DE 1 w p l):Calls prog 67 #[.slice p n cap,.int .i64 x] w fun e w'=>e=.returned (.int .i64 (Lib.idxOf l x))/\w'=w:=by
 by_cases h0:n=0
 ·subst h0;have:l=[]:=BA.1 hn;subst this;exact slices_Index_int_empty p cap x w
 ·obtain⟨b,o,rfl,_,hc⟩:=hr.at (by omega)
  have:=slices_Index_int b o n cap l x w (by omega) hm (fun j hj=>by
   have:=hc j (l[j]) (AI hj) 0 _ rfl;simpa [List.getD,hj] using this)
  rw [BU (by omega)] at this;exact this
theorem Nh(x:Int):∀(f t:List Int) (i:Nat),(Lib.idxFrom f x i=-1/\GJ x f t=x)\/∃k:Nat,k<f.length/\Lib.idxFrom f x i=((i+k:Nat):Int)/\GJ x f t=(t[k]?).getD x
 |[],_,_=>.inl ⟨rfl,rfl⟩
 |y::f,t,i=>by
  unfold Lib.idxFrom GJ;by_cases h:y=x
  ·rw [AJ h,AJ h];exact .inr ⟨0,by simp,rfl,rfl⟩
  ·rw [AC h,AC h];rcases Nh x f (t.drop 1) (i+1) with h1|⟨k,hk,h1,h2⟩
   ·exact .inl h1
   ·refine .inr ⟨k+1,by simpa using hk,by rw [h1];congr 1;omega,?_⟩;rw [h2];simp [Nat.add_comm]
theorem Ni(x:Int)(f t:List Int):(Lib.idxOf f x=-1/\GJ x f t=x)\/∃k:Nat,k<f.length/\Lib.idxOf f x=k/\GJ x f t=(t[k]?).getD x:=by have:=Nh x f t 0;simpa [Lib.idxOf] using this
theorem Gu(x:Int)(p:Option Addr)(n cap:Nat)(l:List Int)(w:World)(i:Int)(hi:Lib.idxOf l x=i)(hn:l.length=n)(hm:n<=9223372036854775807)(hr:DK DE 1 w p l):Calls prog 67 #[.slice p n cap,.int .i64 x] w fun e w'=>e=.returned (.int .i64 i)/\w'=w:=by subst hi;exact Yj x p n cap l w hn hm hr
theorem ZBY(h3:kd≠3)(h:GJ rr f t=z):MV f t ⟨kd,rr,ss⟩=⟨kd,z,ss⟩:=by subst h;unfold MV;rw [AC h3]
theorem Km(h:kd=3\/GJ rr f t=rr):MV f t ⟨kd,rr,ss⟩=⟨kd,rr,ss⟩:=by
 unfold MV;by_cases h3:kd=3
 ·rw [AJ h3]
 ·rw [AC h3,h.resolve_left h3]
def RY(f t:List Int)(l:List BB):List BB:=IA (((IA (l.filter DF)).map (MV f t)).filter DF)
theorem PL(p:Option Addr)(n cap:Nat)(l:List BB)(p1:Option Addr)(n1 c1:Nat)(f:List Int)(p2:Option Addr)(n2 c2:Nat)(t:List Int)(w:World)(hn:l.length=n)(hm:n<=1000000)(hr:Ia w p l)(fC:f.length=n1)(kW:n1<=1000000)(iN:DK DE 1 w p1 f)(j5:t.length=n2)(lO:n2<=1000000)(dx:DK DE 1 w p2 t):Calls prog 66 #[.slice p n cap,.slice p1 n1 c1,.slice p2 n2 c2] w fun e w'=>∃v,e=.returned v/\Sl Ce 3 w' v (RY f t l)/\Below w.heap.size w w':=by
 have HR:=AF hr;have HN:=AF hn;have kJ:=AF iN;have dE:=AF fC;have bQ:=AF dx;have gU:=AF j5;clear hr hn iN fC dx j5;go_enter func66,ntmps66;go_wp2_with fail;refine(FB p n cap l _ HN.o hm HR.o).mono ?_;rintro e w1 ⟨v,m,rfl,ic,aD,hb⟩;obtain⟨q,mc,rfl,oa,pS,aC,_⟩:=aD.row BF (by omega);have a6:=AF aC;have iV:=AF oa;have aH:=AF hb;generalize hS:IA (l.filter DF)=S at a6 iV;have HS:=AF hS;clear aD hb aC oa hS;go_wp2_with fail;go_loopw [7,10,14] (fun u _ i wr=>∃k:Nat,k<=m/\i=.int .i64 k/\A1 Ce 3 wr w1.heap.size 59 u k ((S.take k).map (MV f t))/\Below w1.heap.size w1 wr) (fun _ _ i _=>m-(intOf i).toNat)
 case atStart=>exact⟨0,by omega,rfl,A1.nil _ _ _ _ _,AA _ _⟩
 case round=>
  obtain⟨k,hk,rfl,aD,hb⟩:=hrel;have aZ:=AF aD;have HB:=AF hb;clear aD hb;by_cases aG:k<m
  ·obtain⟨x,hx⟩:=Bh (l:=S) (j:=k) (by rw [iV.o];exact aG);have HE:=AF hx;obtain⟨b,o,rfl,bB,d0,d1,d2⟩:=Ia.atom (a6.o.below HB.o) hx;clear hx bB;obtain⟨kd,rr,ss⟩:=x;simp only at d0 d1 d2;have HW:=AF (aH.o.trans (HB.o.mono aH.o.size));by_cases jb:kd=3
   ·subst jb;have af:=AF (aZ.o.below ((AA _ wr).alloc (AB _) (.cells #[.int .u8 3,.int .i64 rr,.string ss] 59)));have aF:Hd (Below w1.heap.size w1 (wr.alloc (.cells #[.int .u8 3,.int .i64 rr,.string ss] 59))):=HB.o.alloc HB.o.size _;go_wp2_with fail;refine(Gu rr p1 n1 c1 f _ _ rfl dE.o (by omega) ((kJ.o.below HW.o).alloc _)).mono ?_;rintro e w2 ⟨rfl,rfl⟩;generalize Lib.idxOf f rr=c;go_wp2_with (at_builtin;refine Dx rfl _ _ 25 rfl w1.heap.size 59 _ 3 32 underlying25 Lu rfl (by decide) Ce BF Gp (⟨3,rr,ss⟩:BB) _ _ _ af.o rfl (by refine EL (b:=Value.slice (some ⟨wr.heap.size+1,0,none⟩) 1 1) rfl ?_;simp) ?c1 ?c2 ?c3 ?_)
    case c1=>omega
    case c2=>omega
    case c3=>exact aF.o.size
    ·intro v' w4 aP hg;have HO:=AF aP;have bJ:=AF (Below.own aF.o hg aF.o.size af.o);clear aP hg;go_wp2_with fail;go_roundw
     case rel=>exact⟨k+1,by omega,by go_num,by
      have e1:(S.take (k+1)).map (MV f t)=(S.take k).map (MV f t)++[(⟨3,rr,ss⟩:BB)]:=by rw [BG HE.o,Ah];simp only [AV,Am];rw [Km (.inl rfl)]
      rw [e1,CT];exact HO.o,bJ.o⟩
     case measure=>simp [intOf];omega
   ·have ko:=AF jb;have bH:decide (kd=3)=false:=by simp [jb]
    rcases Ni rr f t with⟨hi,ht⟩|⟨j,hj,hi,ht⟩
    ·have HI:=AF hi;have HT:=AF ht;clear hi ht;have af:=AF (aZ.o.below ((AA _ wr).alloc (AB _) (.cells #[.int .u8 kd,.int .i64 rr,.string ss] 59)));have aF:Hd (Below w1.heap.size w1 (wr.alloc (.cells #[.int .u8 kd,.int .i64 rr,.string ss] 59))):=HB.o.alloc HB.o.size _;go_wp2_with fail;refine(Gu rr p1 n1 c1 f _ (-1) HI.o dE.o (by omega) ((kJ.o.below HW.o).alloc _)).mono ?_;rintro e w2 ⟨rfl,rfl⟩;go_wp2_with (at_builtin;refine Dx rfl _ _ 25 rfl w1.heap.size 59 _ 3 32 underlying25 Lu rfl (by decide) Ce BF Gp (⟨kd,rr,ss⟩:BB) _ _ _ af.o rfl (by refine EL (b:=Value.slice (some ⟨wr.heap.size+1,0,none⟩) 1 1) rfl ?_;simp) ?c1 ?c2 ?c3 ?_)
     case c1=>omega
     case c2=>omega
     case c3=>exact aF.o.size
     ·intro v' w4 aP hg;have HO:=AF aP;have bJ:=AF (Below.own aF.o hg aF.o.size af.o);clear aP hg;go_wp2_with fail;go_roundw
      case rel=>exact⟨k+1,by omega,by go_num,by
       have e1:(S.take (k+1)).map (MV f t)=(S.take k).map (MV f t)++[(⟨kd,rr,ss⟩:BB)]:=by rw [BG HE.o,Ah];simp only [AV,Am];rw [Km (.inr HT.o)]
       rw [e1,CT];exact HO.o,bJ.o⟩
      case measure=>simp [intOf];omega
    ·have HI:=AF hi;have HT:=AF ht;clear hi ht;have uf:j<n1:=by have:=dE.o;omega
     by_cases pG:j<n2
     ·obtain⟨z,hz⟩:=Bh (l:=t) (j:=j) (by rw [gU.o];exact pG);have oP:Hd (GJ rr f t=z):=by show GJ rr f t=z;rw [HT.o,hz];rfl
      obtain⟨b',o',rfl,e0⟩:=(((bQ.o.below HW.o).alloc (.cells #[.int .u8 kd,.int .i64 rr,.string ss] 59))).num hz;clear hz;have af:=AF (aZ.o.below ((AA _ wr).alloc (AB _) (.cells #[.int .u8 kd,.int .i64 z,.string ss] 59)));have aF:Hd (Below w1.heap.size w1 (wr.alloc (.cells #[.int .u8 kd,.int .i64 z,.string ss] 59))):=HB.o.alloc HB.o.size _;go_wp2_with fail;refine(Gu rr p1 n1 c1 f _ (j:Int) HI.o dE.o (by omega) ((kJ.o.below HW.o).alloc _)).mono ?_;rintro e w2 ⟨rfl,rfl⟩;go_wp2_with (at_builtin;refine Dx rfl _ _ 25 rfl w1.heap.size 59 _ 3 32 underlying25 Lu rfl (by decide) Ce BF Gp (⟨kd,z,ss⟩:BB) _ _ _ af.o rfl (by refine EL (b:=Value.slice (some ⟨wr.heap.size+1,0,none⟩) 1 1) rfl ?_;simp) ?c1 ?c2 ?c3 ?_)
      case c1=>omega
      case c2=>omega
      case c3=>exact aF.o.size
      ·intro v' w4 aP hg;have HO:=AF aP;have bJ:=AF (Below.own aF.o hg aF.o.size af.o);clear aP hg;go_wp2_with fail;go_roundw
       case rel=>exact⟨k+1,by omega,by go_num,by
        have e1:(S.take (k+1)).map (MV f t)=(S.take k).map (MV f t)++[(⟨kd,z,ss⟩:BB)]:=by rw [BG HE.o,Ah];simp only [AV,Am];rw [ZBY ko.o oP.o]
        rw [e1,CT];exact HO.o,bJ.o⟩
       case measure=>simp [intOf];omega
     ·have HZ:Hd (GJ rr f t=rr):=by show GJ rr f t=rr;rw [HT.o,Bm (by rw [gU.o];omega)];rfl
      have af:=AF (aZ.o.below ((AA _ wr).alloc (AB _) (.cells #[.int .u8 kd,.int .i64 rr,.string ss] 59)));have aF:Hd (Below w1.heap.size w1 (wr.alloc (.cells #[.int .u8 kd,.int .i64 rr,.string ss] 59))):=HB.o.alloc HB.o.size _;go_wp2_with fail;refine(Gu rr p1 n1 c1 f _ (j:Int) HI.o dE.o (by omega) ((kJ.o.below HW.o).alloc _)).mono ?_;rintro e w2 ⟨rfl,rfl⟩;go_wp2_with (at_builtin;refine Dx rfl _ _ 25 rfl w1.heap.size 59 _ 3 32 underlying25 Lu rfl (by decide) Ce BF Gp (⟨kd,rr,ss⟩:BB) _ _ _ af.o rfl (by refine EL (b:=Value.slice (some ⟨wr.heap.size+1,0,none⟩) 1 1) rfl ?_;simp) ?c1 ?c2 ?c3 ?_)
      case c1=>omega
      case c2=>omega
      case c3=>exact aF.o.size
      ·intro v' w4 aP hg;have HO:=AF aP;have bJ:=AF (Below.own aF.o hg aF.o.size af.o);clear aP hg;go_wp2_with fail;go_roundw
       case rel=>exact⟨k+1,by omega,by go_num,by
        have e1:(S.take (k+1)).map (MV f t)=(S.take k).map (MV f t)++[(⟨kd,rr,ss⟩:BB)]:=by rw [BG HE.o,Ah];simp only [AV,Am];rw [Km (.inr HZ.o)]
        rw [e1,CT];exact HO.o,bJ.o⟩
       case measure=>simp [intOf];omega
  ·obtain rfl:k=m:=by omega
   have aD:=aZ.o;have HE:Hd (IA ((S.map (MV f t)).filter DF)=RY f t l):=by show _=RY f t l;unfold RY;rw [HS.o]
   rw [Bb (by rw [iV.o];exact AB _)] at aD;obtain⟨q',c',rfl,bE,ga,bW,_⟩:=aD.row BF (by omega);have rJ:=AF bE;have gW:=AF bW;clear aD bE bW;go_wp2_with fail;refine(FB q' k c' (S.map (MV f t)) wr rJ.out (by omega) gW.out).mono ?_;rintro e w3 ⟨v,m',rfl,_,aD,hb⟩;rw [HE.o] at aD;have HO:=AF (aD.sl BF (by omega));have aL:=AF ((aH.o.trans (HB.o.mono aH.o.size)).trans (hb.mono (aH.o.trans (HB.o.mono aH.o.size)).size));clear aD hb;go_wp2_with fail;go_ret;exact⟨_,rfl,HO.o,aL.o⟩
end
end Go.Proofs.YtkdjnegfnhldpaaGreatDoor
