/- Part 21. -/
import Derived.Test.YtkdjnegfnhldpaaGreatDoorK20
set_option linter.unusedVariables false
set_option maxRecDepth 100000
set_option linter.unusedSimpArgs false
set_option maxHeartbeats 40000000
namespace Go.Proofs.YtkdjnegfnhldpaaGreatDoor
open Go.Proofs.Tryz Go.RowKit
structure Na(w:World)(a:AH)(x y:Value)(W:World):Prop where
 b:RG w W a x y
 res:∃cs:Array Value,cs.size=2∧W.heap[w.heap.size+2]?=some (.cells cs 84 (0,0))
 size:w.heap.size+3≤W.heap.size
theorem Fb(w:World)(a:AH)(x y:Value):Na w a x y (((w.alloc (.cells #[x,y] 84)).alloc (AO a)).alloc (.cells #[.slice none 0 0,.slice none 0 0] 84)):=by have e:=heap_alloc_new ((w.alloc (.cells #[x,y] 84)).alloc (AO a)) (.cells #[.slice none 0 0,.slice none 0 0] 84);simp only [World.size_alloc] at e;exact⟨(PS w a x y).step bA,⟨_,rfl,e⟩,by simp⟩
theorem Na.step{w W W':World}{a:AH}{x y:Value}(h:Na w a x y W)(hb:Below W.heap.size W W'):Na w a x y W':=by obtain⟨cs,h1,h2⟩:=h.res;exact⟨h.b.step hb,⟨cs,h1,(hb.block _ (Array.getElem?_eq_some_iff.1 h2).1).trans h2⟩,Nat.le_trans h.size hb.size⟩
theorem Na.alloc{w W:World}{a:AH}{x y:Value}(h:Na w a x y W)(o:Obj):Na w a x y (W.alloc o):=h.step bA
theorem Na.drew{w W:World}{a:AH}{x y:Value}(h:Na w a x y W):Na w a x y W.drew:=h.step (AC W)
theorem Na.below{w W:World}{a:AH}{x y:Value}(h:Na w a x y W):Below w.heap.size w W:=h.b.below
theorem Na.store{w W:World}{a:AH}{x y:Value}(h:Na w a x y W){cs:Array Value}(hc:cs.size=2):Na w a x y (W.setRow (w.heap.size+2) cs):=by obtain⟨cs',h1,h2⟩:=h.res;exact⟨⟨(setRow_other _ _ _ _ (by omega)).trans h.b.b0,⟨(setRow_other _ _ _ _ (by omega)).trans h.b.b1.blk⟩,h.below.grown BB h.below.size (fun k e=>by cases e;omega)⟩,⟨cs,hc,setRow_heap _ _ _ _ _ _ h2⟩,by have:=h.size;simpa using this⟩
theorem Na.heap{w W:World}{a:AH}{x y:Value}(h:Na w a x y W)(cs:Array Value):(W.setRow (w.heap.size+2) cs).heap[w.heap.size+2]?=some (.cells cs 84 (0,0)):=by obtain⟨cs',_,h2⟩:=h.res;exact setRow_heap _ _ _ _ _ _ h2
theorem Ra{w w':World}{r g:Nat}(hg:w.grownBy w' (some r))(aF:g<w.heap.size)(hr:g≠r)(i:Nat):w'.cell? ⟨g,i,none⟩=w.cell? ⟨g,i,none⟩:=by have h:=hg.5 g aF (fun e=>hr (by cases e;rfl));simp only [World.cell?,h]
theorem BV.Ok.grown{w0 w w':World}{S:Nat→Prop}{b:BV}{r:Nat}(h:b.Ok w0 w S)(hg:w.grownBy w' (some r))(hr:¬S r)(hf:∀a g,b.fn=some (a,g)→g≠r)(aU:w.heap.size≤w'.heap.size):b.Ok w0 w' S:=⟨Cg hg _ (fun x hx e=>hr (by cases e;exact h.uses _ hx)) h.ty,h.uses,fun a g e=>⟨⟨fun i v hv=>(Ra hg (h.fn a g e).2.2 (hf a g e) _).trans ((h.fn a g e).1.c i v hv)⟩,(h.fn a g e).2.1,Nat.lt_of_lt_of_le (h.fn a g e).2.2 aU⟩,h.name⟩
def MG(w0 w:World)(S:Nat→Prop)(n m:Nat)(eb:List Fp)(rr:List Int)(e:Ending)(w':World):Prop:=∃p' n' c' env' q' m' c'',e=.returned (.agg #[.slice p' n' c',.slice q' m' c''])∧Dc w0 w' S p' n' c' env'∧DZ env'=eb∧AE Ab 1 w' q' m' c'' rr∧n'≤n+2∧m'≤m+50∧Below w.heap.size w w'
theorem FC(W:World)(S:Nat→Prop):LR.lies W (.node ⟨0,0,none,0,0,[],none,0,0⟩ []:PT)∧∀x∈A7 (.node ⟨0,0,none,0,0,[],none,0,0⟩ []:PT),S x:=⟨BK.lies ⟨⟨AE.none AS 3 _,(fun x hx=>(nomatch hx)),by dsimp only;decide,by dsimp only;decide,by dsimp only;decide,by dsimp only;decide,by dsimp only;decide,by dsimp only;decide,fun _=>rfl⟩,AE.none _ _ _,fun t ht=>by cases ht⟩,fun b hb=>by simp [CZ] at hb⟩
theorem FZ(W:World)(S:Nat→Prop):LR.lies W (.node ⟨1,0,none,0,0,[],none,0,0⟩ []:PT)∧∀x∈A7 (.node ⟨1,0,none,0,0,[],none,0,0⟩ []:PT),S x:=⟨BK.lies ⟨⟨AE.none AS 3 _,(fun x hx=>(nomatch hx)),by dsimp only;decide,by dsimp only;decide,by dsimp only;decide,by dsimp only;decide,by dsimp only;decide,by dsimp only;decide,fun _=>rfl⟩,AE.none _ _ _,fun t ht=>by cases ht⟩,fun b hb=>by simp [CZ] at hb⟩
def Si(w:World)(S:Nat→Prop)(b:Nat):Prop:=(b<w.heap.size∧S b)∨w.heap.size+3≤b
theorem GV{w0 w W:World}{S:Nat→Prop}{a:AH}{x y:Value}{n m:Nat}{eb:List Fp}{rr:List Int}(hI:Na w a x y W)(hS:∀b,w.heap.size≤b→S b){p':Option Addr}{n' c':Nat}{env':List BV}(aD:AE FV 6 W p' n' c' env')(bw:env'≠[]→∀ad,p'=some ad→ad.block≠w.heap.size+2)(bY:∀b∈env',b.Ok w0 W (Si w S)∧∀a g,b.fn=some (a,g)→g≠w.heap.size+2)(he:DZ env'=eb){q':Option Addr}{m' c'':Nat}(hq:AE Ab 1 W q' m' c'' rr)(mw:rr≠[]→∀ad,q'=some ad→ad.block≠w.heap.size+2)(hn:n'≤n+2)(hm:m'≤m+50):MG w0 w S n m eb rr (.returned (.agg #[.slice p' n' c',.slice q' m' c''])) (W.setRow (w.heap.size+2) #[.slice p' n' c',.slice q' m' c'']):=by
 have sz:¬Si w S (w.heap.size+2):=by rintro(⟨h1,_⟩|h1)<;>omega
 refine⟨p',n',c',env',q',m',c'',rfl,⟨Fg aD BB bw,fun b hb=>?_⟩,he,Fg hq BB mw,hn,hm,(hI.store (cs:=#[.slice p' n' c',.slice q' m' c'']) rfl).below⟩;refine((bY b hb).1.grown BB sz (bY b hb).2 (by simp)).weak (fun z hz=>?_);rcases (bY b hb).1.uses z hz with⟨_,h2⟩|h2
 ·exact h2
 ·exact hS z (by omega)
structure Ka(w:World)(a:AH)(x y:Value)(W:World):Prop where
 b:RG w W a x y
 res:∃cs:Array Value,cs.size=5∧W.heap[w.heap.size+2]?=some (.cells cs 81 (0,0))
 size:w.heap.size+3≤W.heap.size
theorem GQ(w:World)(a:AH)(x y:Value):Ka w a x y (((w.alloc (.cells #[x,y] 84)).alloc (AO a)).alloc (.cells #[.int .u8 0,.int .i64 0,.slice none 0 0,.slice none 0 0,.slice none 0 0] 81)):=by have e:=heap_alloc_new ((w.alloc (.cells #[x,y] 84)).alloc (AO a)) (.cells #[.int .u8 0,.int .i64 0,.slice none 0 0,.slice none 0 0,.slice none 0 0] 81);simp only [World.size_alloc] at e;exact⟨(PS w a x y).step bA,⟨_,rfl,e⟩,by simp⟩
theorem Ka.step{w W W':World}{a:AH}{x y:Value}(h:Ka w a x y W)(hb:Below W.heap.size W W'):Ka w a x y W':=by obtain⟨cs,h1,h2⟩:=h.res;exact⟨h.b.step hb,⟨cs,h1,(hb.block _ (Array.getElem?_eq_some_iff.1 h2).1).trans h2⟩,Nat.le_trans h.size hb.size⟩
theorem Ka.alloc{w W:World}{a:AH}{x y:Value}(h:Ka w a x y W)(o:Obj):Ka w a x y (W.alloc o):=h.step bA
theorem Ka.drew{w W:World}{a:AH}{x y:Value}(h:Ka w a x y W):Ka w a x y W.drew:=h.step (AC W)
theorem Ka.below{w W:World}{a:AH}{x y:Value}(h:Ka w a x y W):Below w.heap.size w W:=h.b.below
theorem Ka.store{w W:World}{a:AH}{x y:Value}(h:Ka w a x y W){cs:Array Value}(hc:cs.size=5):Ka w a x y (W.setRow (w.heap.size+2) cs):=by obtain⟨cs',h1,h2⟩:=h.res;exact⟨⟨(setRow_other _ _ _ _ (by omega)).trans h.b.b0,⟨(setRow_other _ _ _ _ (by omega)).trans h.b.b1.blk⟩,h.below.grown BB h.below.size (fun k e=>by cases e;omega)⟩,⟨cs,hc,setRow_heap _ _ _ _ _ _ h2⟩,by have:=h.size;simpa using this⟩
theorem Ka.heap{w W:World}{a:AH}{x y:Value}(h:Ka w a x y W)(cs:Array Value):(W.setRow (w.heap.size+2) cs).heap[w.heap.size+2]?=some (.cells cs 81 (0,0)):=by obtain⟨cs',_,h2⟩:=h.res;exact setRow_heap _ _ _ _ _ _ h2
theorem D9{P:Program}{ops:Array Oper}{rest:List Oper}{o:Oper}{act:Act}{Q:Exit→Act→World→Prop}(au:o.guard=none)(ty:TypeId)(x y:Operand)(ho:o.op=.store ty x y){w W:World}{a:AH}{u v:Value}(h:Ka w a u v W)(cells:Array Value)(hx:act.eval x=.pointer (some ⟨w.heap.size+2,0,none⟩))(hy:act.eval y=.agg cells)(hi:(P.info? ty).map (·.size)=some cells.size)(h5:cells.size=5)(h1:cells.all (·.oneCell')=true)(hK:wpList P ops Q rest (act.put o.dst undef) (W.setRow (w.heap.size+2) cells)):wpList P ops Q (o::rest) act W:=by obtain⟨cs,e1,e2⟩:=h.res;exact wpList_store_row au ty x y ho (w.heap.size+2) cells hx hy 81 cs e2 hi (by omega) h1 hK
theorem N6{P:Program}{ops:Array Oper}{o:Oper}{act:Act}{K:Act→World→Prop}{Q:Exit→Act→World→Prop}{E:Prop}(au:o.guard=none)(ty:TypeId)(x y:Operand)(ho:o.op=.store ty x y){w W:World}{a:AH}{u v:Value}(h:Ka w a u v W)(cells:Array Value)(hx:act.eval x=.pointer (some ⟨w.heap.size+2,0,none⟩))(hy:act.eval y=.agg cells)(hi:(P.info? ty).map (·.size)=some cells.size)(h5:cells.size=5)(h1:cells.all (·.oneCell')=true)(hK:K (act.put o.dst undef) (W.setRow (w.heap.size+2) cells)):if Region.wanted o (yielded ops act.tmps)=true then Oper.wp P o act W K Q else E:=by obtain⟨cs,e1,e2⟩:=h.res;rw [if_pos (by simp [Region.wanted,au])];exact wp_store_row ty x y ho (w.heap.size+2) cells hx hy 81 cs e2 hi (by omega) h1 hK
theorem Wx{w:World}{S:Nat→Prop}{k:Nat}(h0:w.heap.size≤k)(h1:k<w.heap.size+3):¬Si w S k:=by rintro(⟨h,_⟩|h)<;>omega
theorem Mw{w W:World}{a:AH}{u v:Value}{S:Nat→Prop}{y:RV}{x:TE}(h:Ka w a u v W)(hS:∀b,w.heap.size≤b→S b)(hy:y.Ok W (Si w S))(hx:y.er=x):Dd w S (.ok x) (.returned (K9 y)) (W.setRow (w.heap.size+2) (Cc y)):=by
 refine⟨⟨y,rfl,hx,(hy.grown BB (fun b e=>by cases e;exact Wx (by omega) (by omega))).weak (fun b _ hb=>?_)⟩,(h.store (cs:=Cc y) rfl).below⟩;rcases hb with⟨_,h2⟩|h2
 ·exact h2
 ·exact hS b (by omega)
theorem Wn{w0 w W:World}{S:Nat→Prop}{p:Option Addr}{n c:Nat}{env:List BV}(h:Dc w0 w S p n c env)(hb:Below w.heap.size w W):Dc w0 W (Si w S) p n c env:=⟨h.row.below hb,fun b cw=>((h.each b cw).below hb).weak (fun x hx=>.inl ⟨AN _ (h.each b cw).ty x hx,(h.each b cw).uses x hx⟩)⟩
def Im(env:List Fp):Prop:=∀b∈env,Jt b∧b.ty.size≤500
theorem LK:Im []:=fun b hb=>by cases hb
theorem JC{env:List Fp}{a:GT}{n i:Nat}{acc:List TE}(ha:EJ a n)(he:Im env)(eG:a.kind=12→i=1→BF (acc.getD 0 Dn).1=true∧BG (acc.getD 0 Dn).1=true∧(acc.getD 0 Dn).1.size≤500):Im (Ac env a i acc):=by
 intro b hb;refine⟨QM ha (fun x hx=>(he x hx).1) (fun h1 h2=>⟨(eG h1 h2).1,(eG h1 h2).2.1⟩) b hb,?_⟩;have h0:Bu.size≤500:=by decide
 have h1:Ij.size≤500:=by decide
 have ht:=ha.tys.size;unfold Ac at hb;split at hb
 ·rcases List.mem_append.1 hb with hb|hb
  ·exact(he b hb).2
  ·rw [List.mem_singleton] at hb;subst hb;show a.ty.size≤500;omega
 split at hb
 ·rename_i k;rcases List.mem_append.1 hb with hb|hb
  ·exact(he b hb).2
  ·rw [List.mem_singleton] at hb;subst hb;exact(eG k.1 k.2).2.2
 split at hb
 ·rcases List.mem_append.1 hb with hb|hb
  ·exact(he b hb).2
  ·simp only [List.mem_cons,List.not_mem_nil,or_false] at hb;rcases hb with rfl|rfl
   ·exact h0
   ·show a.ty.size≤500;omega
 split at hb
 ·rcases List.mem_append.1 hb with hb|hb
  ·exact(he b hb).2
  ·rw [List.mem_singleton] at hb;subst hb;exact h0
 split at hb
 ·rcases List.mem_append.1 hb with hb|hb
  ·exact(he b hb).2
  ·rw [List.mem_singleton] at hb;subst hb;exact h1
 ·exact(he b hb).2
theorem Uy{x:RT}(j:Nat):(x.kids.getD j Bu).size≤x.size:=by
 cases x with
 |node a l=>
  rw [AG.size_node];simp only [AG.kids];rw [List.getD_eq_getElem?_getD];cases h:l[j]? with
  |none=>simp only [Option.getD_none];show 1≤_;omega
  |some t=>
   simp only [Option.getD_some];have:=BN (List.mem_map_of_mem (f:=AG.size) (List.mem_of_getElem? h));omega
theorem OK{l:List TE}(hl:∀y∈l,y.1.size≤500)(j:Nat):(l.getD j Dn).1.size≤500:=by
 rw [List.getD_eq_getElem?_getD];cases h:l[j]? with
 |none=>simp only [Option.getD_none];show 1≤_;omega
 |some t=>exact hl t (List.mem_of_getElem? h)
theorem Tz{a:GT}{n:Nat}{l:List TE}{x:TE}(ha:EJ a n)(hl:∀y∈l,y.1.size≤500)(h:DW a l x):x.1.size≤1001:=by
 have h0:=OK hl 0;have h1:=OK hl 1;have ht:=ha.tys.size;have hk:=fun j=>Uy (x:=(l.getD 0 Dn).1) j;cases h with
 |pair k=>simp only [Iz,AG.size_node,List.map_cons,List.map_nil,List.sum_cons,List.sum_nil];omega
 |proj k _=>have:=hk (a.kind-4).toNat;simp only;omega
 |ref k=>simp only [Iz,AG.size_node,List.map_cons,List.map_nil,List.sum_cons,List.sum_nil];omega
 |get k _=>have:=hk 0;simp only;omega
 |set k _ _=>show 1≤_;omega
 |app k _ _=>have:=hk 1;simp only;omega
 |op k _=>show 1≤_;omega
 |ite k _ _=>simp only;omega
 |raise k _=>simp only;omega
 |num k=>show 1≤_;omega
 |fn k _=>simp only [Iz,AG.size_node,List.map_cons,List.map_nil,List.sum_cons,List.sum_nil];omega
 |letrec k _ _=>simp only;omega
 |handle k _=>simp only;omega
 |region k _=>simp only;omega
 |other k=>simp only;omega
theorem J2(t:AT){env:List Fp}{rhos:List Int}{x:TE}(h:chk env rhos t=.ok x):x.1.size≤500:=by
 cases t with
 |node a l=>exact(UX.1 h).2
theorem Me{env:List Fp}{rhos:List Int}{a:GT}{l:List AT}{x:TE}(ha:EJ a l.length)(he:Im env)(h:BE env rhos a l=.ok x):x.1.size≤1001:=by
 rw [QR] at h;rcases h.2 with⟨k,h⟩|⟨k,h⟩|⟨k2,k18,ks,nm,h⟩
 ·unfold Hf Lk at h;cases hf:Df env a.name with
  |none=>rw [hf] at h;cases h
  |some b=>
   rw [hf] at h;simp only [Bo] at h;obtain⟨hn,h⟩:=h;cases h;have:=(he b (Is hf).1).2;simp only;omega
 ·unfold Cm Lk at h;cases hf:Df env a.name with
  |none=>rw [hf] at h;cases h
  |some b=>
   rw [hf] at h;simp only at h;cases hb:b.fn with
   |none=>rw [hb] at h;cases h
   |some f=>
    rw [hb] at h;simp only [Bo,decide_eq_true_eq] at h;obtain⟨aG,_,h⟩:=h;cases h;obtain⟨n,fI,_,_⟩:=(he b (Is hf).1).1.fn f hb;have h1:=fI.tys.size;have h2:=fI.ress.size;simp only [Iz,AG.size_node,List.map_cons,List.map_nil,List.sum_cons,List.sum_nil,T4];omega
 ·rw [Qv] at h;obtain⟨rs,j7,hl,hj⟩:=Ox _ _ _ _ nm;rw [List.nil_append] at j7;subst j7;refine Tz ha (fun y hy=>?_) h;obtain⟨j,f9⟩:=List.getElem?_of_mem hy;have aF:j<l.length:=by rw [←hl];exact Bh f9
  obtain⟨r,e1,e2⟩:=hj j _ (List.getElem?_eq_getElem aF);rw [f9] at e1;cases e1;exact J2 _ e2
theorem G2{W:World}{g:Nat}{cs:Array Value}{t:TypeId}(h:W.heap[g]?=some (.cells cs t (0,0)))(l:List Value)(hl:∀(i:Nat) (v:Value),l[i]?=some v→cs[i]?=some v):W.rangeAt g 0 l:=fun j v hj=>by rw [Nat.zero_add,Lib.cell_of_heap h];exact hl j v hj
theorem NF{p:Option Addr}{c:Nat}{t:PT}{w:World}(hr:Da w p 1 c [t])(hs:t.size≤1000000):Calls prog 65 #[.slice p 1 c] w (RB w (.int .i64 (t.size:Int))):=by
 have e:C4 [t]=t.size:=by simp [C4]
 have:=NE hr (by rw [e];exact hs);rwa [e] at this
theorem N3{w:World}{S:Nat→Prop}{a:AH}{p q:Option Addr}{n c m mc:Nat}{R:E7}(hS:∀b,w.heap.size≤b→S b)(HF:∀W,Below w.heap.size w W→w.heap.size+3≤W.heap.size→Calls prog 63 #[.agg #[.slice p n c,.slice q m mc],Aj a] W (Dd W (Si w S) R))(aU:∀x,R=.ok x→x.1.size≤1001):Calls prog 38 #[.agg #[.slice p n c,.slice q m mc],Aj a] w (Dd w S (Hp a.plain R)):=by
 have HX:=AA (GQ w a (.slice p n c) (.slice q m mc));have HS:=AA hS;have ph:=AA HF;clear HF hS;rcases R with⟨r1,r2⟩|x
 ·clear aU;go_enter func38,ntmps38;go_upto_region 1 with fail;generalize (((w.alloc (.cells #[.slice p n c,.slice q m mc] 84)).alloc (AO a)).alloc (.cells #[.int .u8 0,.int .i64 0,.slice none 0 0,.slice none 0 0,.slice none 0 0] 81))=W1 at *
  go_wp2_with (first
   |(refine lw HX.o.b.b0 underlying84 ?_)
   |(refine lw HX.o.b.b1.blk underlying31 ?_))
  go_at_call 63;refine(ph.o _ HX.o.below HX.o.size).mono ?_;rintro e W9 ⟨hr,hb⟩;subst hr;exact⟨rfl,rfl,(HX.o.step hb).below⟩
 ·have tH:=aU x rfl;clear aU;obtain⟨u,hu⟩:∃u,decide (x.1.size≤500)=u:=⟨_,rfl⟩;have HR:Hd (Hp a.plain (.ok x)=A4 u a.plain 3 (.ok x)):=by show _=_;rw [←hu];rfl
  rw [HR.o];clear HR;have HU:=AA hu;clear hu;go_enter func38,ntmps38;go_upto_region 1 with fail;generalize (((w.alloc (.cells #[.slice p n c,.slice q m mc] 84)).alloc (AO a)).alloc (.cells #[.int .u8 0,.int .i64 0,.slice none 0 0,.slice none 0 0,.slice none 0 0] 81))=W1 at *
  go_wp2_with (first
   |(refine lw HX.o.b.b0 underlying84 ?_)
   |(refine lw HX.o.b.b1.blk underlying31 ?_)
   |(go_at_call 63;refine(ph.o _ HX.o.below HX.o.size).mono ?_;rintro e W9 ⟨hr,hb⟩;obtain⟨y,rfl,cM,hy⟩:=hr;have al:=AA (HX.o.step hb);have HY:=AA hy;have dm:=AA cM;have cF:=AA (heap_alloc_new W9 (.cells #[.int .u8 0,.int .i64 0,.slice none 0 0,.slice none 0 0,.slice none 0 0] 81));clear hy cM HX hb)
   |(refine sw (Cc y) cF.o ?_;rw [World.setRow_alloc_new]))
  have HG:=AA (heap_alloc_new W9 (.cells (Cc y) 81));have ah:=AA (al.o.alloc (.cells (Cc y) 81));have p9:=AA (HY.o.below ((Below.refl W9.heap.size W9).alloc (Nat.le_refl _) (.cells (Cc y) 81)));have iC:y.ty.size=x.1.size:=by rw [←dm.o];exact(EW y.ty).symm
  have j8:decide ((y.ty.size:Int)≤500)=u:=by rw [←HU.o,iC];exact decide_eq_decide.2 (by omega)
  have fa:y.ty.size≤1000000:=by omega
  have dV:=AA fa;clear iC fa cF HY al tH;obtain⟨g,hg⟩:∃g,W9.heap.size=g:=⟨_,rfl⟩;rw [hg] at HG ⊢;generalize (W9.alloc (.cells (Cc y) 81))=W2 at *
  clear hg;go_upto_region 2 with fail;refine rg (fun W'=>Below W2.heap.size W2 W') (AC W2) fun aA=>?_;refine tp 0 9 ?_;refine t4 1 10 y.ty g 0 (fun W' aC=>G2 ((aC.block _ (Array.getElem?_eq_some_iff.1 HG.o).1).trans HG.o) _ (by intro i v hv;match i,hv with|0,hv=>exact hv|1,hv=>exact hv|2,hv=>exact hv|3,hv=>exact hv)) ?_;refine ta 5 14 a (w.heap.size+1) 0 (fun W' aC=>(ah.o.step aC).b.b1.range) ?_;refine tr 2 11 fun K hK=>?_;go_simp;refine tn hK (AQ aA _) ?_;clear aA hK K;intro aA;refine tr 3 12 fun K hK=>?_;go_simp;go_at_call 65;refine(NF ((Ev p9.o.ty 28).below (AC _)) dV.o).mono ?_;rintro e w3 ⟨rfl,hb⟩;try go_wp2_with fail
  refine tn hK (AK aA hb) ?_;clear aA hK K;intro aA;refine tp 4 13 ?_;refine tr 6 15 fun K hK=>?_;go_simp;cases u
  ·go_at_call 64;refine(Bd a 3 _).mono ?_;rintro e w9 ⟨rfl,hb⟩;exact⟨rfl,rfl,ah.o.below.trans ((AK aA hb).mono ah.o.below.size)⟩
  go_at_call 64;refine(BZ a 3 _).mono ?_;rintro e w9 ⟨rfl,hb⟩;try go_wp2_with fail
  refine tn hK (AK aA hb) ?_;clear aA hK K;intro aA;refine dn ?_;have aR:=AA (ah.o.step aA);have cy:=AA ((aA.block _ (Array.getElem?_eq_some_iff.1 HG.o).1).trans HG.o);have cT:=AA (p9.o.below aA);clear aA j8
  go_wp2_with (first
   |(refine lw cy.o underlying81 ?_)
   |(refine D9 rfl _ _ _ rfl aR.o (Cc y) (by rfl) (by rfl) (by kernel_rfl) rfl (by simp [Value.oneCell']) ?_))
  refine br (aR.o.heap _) underlying81 ?_;exact Mw aR.o HS.o cT.o dm.o
structure ES(w0 w:World)(S:Nat→Prop)(t:PA)(p q:Option Addr)(n c m mc:Nat)(env:List BV)(rhos:List Int):Prop where
 old:Below w0.heap.size w0 w
 lies:LA.lies w0 t
 small:BR t
 good:GL (PA.er t)
 envA:Dc w0 w S p n c env
 rhosA:AE Ab 1 w q m mc rhos
 genv:Im (DZ env)
 s0:∀b,b<w0.heap.size→S b
 new:∀b,w.heap.size≤b→S b
 hn:n+2 * t.size≤900000
 hm:m+50 * t.size≤900000
 hs:102 * t.size≤900000
def Of(w0:World)(t:PA):Prop:=∀(w:World) (S:Nat→Prop) (p q:Option Addr) (n c m mc:Nat) (env:List BV) (rhos:List Int),ES w0 w S t p q n c m mc env rhos →
 Calls prog 38 #[.agg #[.slice p n c,.slice q m mc],Aj t.head] w (Dd w S (chk (DZ env) rhos (PA.er t)))
def Sx(w:World)(S:Nat→Prop)(v:Value)(b:Nat):Prop:=(b<w.heap.size∧S b)∨(w.heap.size+3≤b∧v.ownBlock≠some b)
theorem Ix(t:PA):(PA.er t).size=t.size:=AG.size_map _ t
def SQ(l:List PA)(rs:List RV):Prop:=∀(j:Nat) (t:PA) (r:RV),l[j]?=some t→rs[j]?=some r→FT (102 * t.size) r.er∧r.er.1.size≤500
structure E8(w:World)(S:Nat→Prop)(a:AH)(l:List PA)(x y:Value)(env:List Fp)(rhos:List Int)(v:Value)(k:Nat)(rs:List RV)(wr:World):Prop where
 nd:Ka w a x y wr
 own:AJ Ck 5 wr (w.heap.size+3) 81 v k rs
 each:∀r∈rs,r.Ok wr (Sx w S v)
 chk:Fa env rhos a.plain 0 [] (l.map PA.er)=Fa env rhos a.plain k (Ak rs) ((l.drop k).map PA.er)
 acc:SQ l rs
theorem QY{w W:World}{S:Nat→Prop}{a:AH}{l:List PA}{x y:Value}{env:List Fp}{rhos:List Int}(h:Ka w a x y W):E8 w S a l x y env rhos (.slice none 0 0) 0 [] W:=⟨h,AJ.nil Ck W _ _ 5,fun r hr=>(by cases hr),by simp [Ak],fun j t r _ hr=>by simp at hr⟩
theorem Ka.grown{w W W':World}{a:AH}{x y:Value}{r:Option Nat}(h:Ka w a x y W)(hg:W.grownBy W' r)(hr:∀b,r=some b→w.heap.size+3≤b):Ka w a x y W':=by obtain⟨cs,h1,h2⟩:=h.res;have aU:=h.size;have aS:∀k,k<w.heap.size+3→W'.heap[k]?=W.heap[k]?:=fun k hk=>hg.block k (by omega) (fun e=>by have:=hr k e.symm;omega);exact⟨⟨(aS _ (by omega)).trans h.b.b0,⟨(aS _ (by omega)).trans h.b.b1.blk⟩,h.below.grown hg h.below.size (fun k e=>by have:=hr k e;omega)⟩,⟨cs,h1,(aS _ (by omega)).trans h2⟩,Nat.le_trans h.size hg.size⟩
theorem E8.row{w:World}{S:Nat→Prop}{a:AH}{l:List PA}{x y:Value}{env:List Fp}{rhos:List Int}{v:Value}{k:Nat}{rs:List RV}{wr:World}(h:E8 w S a l x y env rhos v k rs wr):∃p c,v=.slice p k c∧Jw wr (Sx w S v) p k c rs∧rs.length=k∧∀b,v.ownBlock=some b→w.heap.size+3≤b∧b<wr.heap.size:=by obtain⟨p,c,hv,aD⟩:=AJ.isRow Ge (by omega) h.own;exact⟨p,c,hv,⟨aD,h.each⟩,aD.len,fun b hb=>World.ownsRow.lt h.own b hb⟩
theorem E8.below{w:World}{S:Nat→Prop}{a:AH}{l:List PA}{x y:Value}{env:List Fp}{rhos:List Int}{v:Value}{k:Nat}{rs:List RV}{wr wr':World}(h:E8 w S a l x y env rhos v k rs wr)(hb:Below wr.heap.size wr wr'):E8 w S a l x y env rhos v k rs wr':=⟨h.nd.step hb,h.own.below hb,fun r hr=>(h.each r hr).below hb,h.chk,h.acc⟩
theorem Pc{w:World}{S:Nat→Prop}{v:Value}{W:World}(aU:w.heap.size+3≤W.heap.size)(hv:∀b,v.ownBlock=some b→b<W.heap.size):∀b,W.heap.size≤b→Sx w S v b:=fun b hb=>.inr ⟨by omega,fun e=>by have:=hv b e;omega⟩
theorem Uh{w0 w W:World}{S:Nat→Prop}{v:Value}{p:Option Addr}{n c:Nat}{env:List BV}(h:Dc w0 w S p n c env)(hb:Below w.heap.size w W):Dc w0 W (Sx w S v) p n c env:=⟨h.row.below hb,fun b cw=>((h.each b cw).below hb).weak (fun x hx=>.inl ⟨AN _ (h.each b cw).ty x hx,(h.each b cw).uses x hx⟩)⟩
theorem E8.push{w:World}{S:Nat→Prop}{a:AH}{l:List PA}{x y:Value}{env:List Fp}{rhos:List Int}{v v':Value}{k:Nat}{rs:List RV}{W w3:World}{t:PA}{z:RV}{r:TE}(h:E8 w S a l x y env rhos v k rs W)(ht:l[k]?=some t)(hz:z.Ok W (Sx w S v))(nN:z.er=r)(hc:Go.Proofs.YtkdjnegfnhldpaaGreatDoor.chk (Ac env a.plain k (Ak rs)) (Ad rhos a.plain k) (PA.er t)=.ok r)(au:FT (102 * t.size) r)(aB:AJ Ck 5 w3 (w.heap.size+3) 81 v' (k+1) (rs++[z]))(hg:W.grownBy w3 v.ownBlock)(hf:∀b,b<W.heap.size→v'.ownBlock=some b→v.ownBlock=some b):E8 w S a l x y env rhos v' (k+1) (rs++[z]) w3:=by
 obtain⟨_,_,_,_,aG,dg⟩:=h.row;refine⟨h.nd.grown hg (fun b e=>(dg b e).1),aB,fun u hu=>?_,?_,fun j u q hu hq=>?_⟩
 ·have h1:u.Ok W (Sx w S v):=by
   rcases List.mem_append.1 hu with hu|hu
   ·exact h.each u hu
   ·rw [List.mem_singleton] at hu;subst hu;exact hz
  have h2:u.Ok W (fun b=>Sx w S v b∧Sx w S v' b):=h1.weak (fun b hb hs=>⟨hs,by
   rcases hs with hs|⟨eQ,fa⟩
   ·exact .inl hs
   ·exact .inr ⟨eQ,fun e=>fa (hf b hb e)⟩⟩)
  refine(h2.grown hg (fun b e hs=>?_)).weak (fun b _ hs=>hs.2);rcases hs.1 with⟨hs,_⟩|⟨_,hs⟩
  ·have:=(dg b e).1;omega
  ·exact hs e
 ·have aF:=Bh ht;have hd:l.drop k=t::l.drop (k+1):=by rw [List.drop_eq_getElem_cons aF];congr 1;rw [List.getElem?_eq_getElem aF] at ht;exact Option.some.inj ht
  rw [h.chk,hd,List.map_cons,Fk,hc];show Fa _ _ _ _ (Ak rs++[r]) _=_;congr 1;simp [Ak,nN]
 ·rcases Nat.lt_or_ge j rs.length with hj|hj
  ·rw [List.getElem?_append_left hj] at hq;exact h.acc j u q hu hq
  ·rw [List.getElem?_append_right hj] at hq;have jW:j=k:=by have:=Bh hq;simp at this;omega
   subst jW;rw [aG] at hq;simp at hq;subst hq;rw [ht] at hu;cases hu;rw [nN];exact⟨au,J2 _ hc⟩
theorem E8.stop{w:World}{S:Nat→Prop}{a:AH}{l:List PA}{x y:Value}{env:List Fp}{rhos:List Int}{v:Value}{k:Nat}{rs:List RV}{W:World}{t:PA}{e:Int×Int}(h:E8 w S a l x y env rhos v k rs W)(ht:l[k]?=some t)(hc:Go.Proofs.YtkdjnegfnhldpaaGreatDoor.chk (Ac env a.plain k (Ak rs)) (Ad rhos a.plain k) (PA.er t)=.error e):Fa env rhos a.plain 0 [] (l.map PA.er)=.error e:=by
 have aF:=Bh ht;have hd:l.drop k=t::l.drop (k+1):=by rw [List.drop_eq_getElem_cons aF];congr 1;rw [List.getElem?_eq_getElem aF] at ht;exact Option.some.inj ht
 rw [h.chk,hd,List.map_cons,Fk,hc]
theorem E8.full{w:World}{S:Nat→Prop}{a:AH}{l:List PA}{x y:Value}{env:List Fp}{rhos:List Int}{v:Value}{rs:List RV}{W:World}(h:E8 w S a l x y env rhos v l.length rs W):Fa env rhos a.plain 0 [] (l.map PA.er)=.ok (Ak rs):=by rw [h.chk,List.drop_length];exact Jz _ _ _ _ _
theorem E8.sum{w:World}{S:Nat→Prop}{a:AH}{l:List PA}{x y:Value}{env:List Fp}{rhos:List Int}{v:Value}{rs:List RV}{W:World}(h:E8 w S a l x y env rhos v l.length rs W):(rs.map (·.en)).sum≤102 * (l.map AG.size).sum:=by
 have h1:(rs.map (·.en)).sum=Ed (Ak rs):=by unfold Ed Ak;rw [List.map_map];congr 1;exact List.map_congr_left (fun r hr=>((h.each r hr).eff.len).symm)
 have h2:(l.map AG.size)=((l.map PA.er).map AG.size):=by rw [List.map_map];exact List.map_congr_left (fun t _=>(Ix t).symm)
 obtain⟨_,_,_,_,aG,_⟩:=h.row;rw [h1,h2];refine Pb (by simp [Ak,aG]) (fun j t r ht hr=>?_);rw [List.getElem?_map] at ht;cases hl:l[j]? with
 |none=>rw [hl] at ht;cases ht
 |some u=>
  rw [hl] at ht;cases ht;unfold Ak at hr;rw [List.getElem?_map] at hr;cases hq:rs[j]? with
  |none=>rw [hq] at hr;cases hr
  |some q=>
   rw [hq] at hr;cases hr;rw [Ix];exact(h.acc j u q hl hq).1.len
theorem ES.kid{w0 w:World}{S:Nat→Prop}{a:AH}{l:List PA}{p q:Option Addr}{n c m mc:Nat}{env:List BV}{rhos:List Int}(h:ES w0 w S (.node a l) p q n c m mc env rhos){k:Nat}{t:PA}(ht:l[k]?=some t){x y:Value}{v:Value}{rs:List RV}{wr W2:World}(hk:E8 w S a l x y (DZ env) rhos v k rs wr)(bQ:Below wr.heap.size wr W2){p' q':Option Addr}{n' c' m' c'':Nat}{env':List BV}(hE:Dc w0 W2 (Sx w S v) p' n' c' env')(he:DZ env'=Ac (DZ env) a.plain k (Ak rs))(hq:AE Ab 1 W2 q' m' c'' (Ad rhos a.plain k))(hn:n'≤n+2)(hm:m'≤m+50):ES w0 W2 (Sx w S v) t p' q' n' c' m' c'' env' (Ad rhos a.plain k):=by
 have gD:=List.mem_of_getElem? ht;have hN:=DP h.lies;have aU:t.size+1≤(AG.node a l).size:=by rw [AG.size_node];have:=BN (List.mem_map_of_mem (f:=AG.size) gD);omega
 have hg:=h.good;rw [PA.er_node] at hg;have bR:=hk.nd.below.trans (bQ.mono hk.nd.below.size);have h1:=h.hn;have h2:=h.hm;have h3:=h.hs;obtain⟨_,_,_,_,aG,aB⟩:=hk.row;refine⟨h.old.trans (bR.mono h.old.size),hN.each t gD,fun x hx=>h.small x (by rw [AG.nodes_node,List.mem_cons,List.mem_flatten];exact .inr ⟨_,List.mem_map_of_mem gD,hx⟩),hg.kid _ (List.mem_map_of_mem gD),hE,hq,?_,fun b hb=>.inl ⟨Nat.lt_of_lt_of_le hb h.old.size,h.s0 b hb⟩,Pc (Nat.le_trans hk.nd.size bQ.size) (fun b e=>Nat.lt_of_lt_of_le (aB b e).2 bQ.size),by omega,by omega,by omega⟩;rw [he];refine JC hg.head h.genv (fun eL h1=>?_);subst h1;have aF:=Bh ht;have da:rs[0]?=some (rs[0]'(by omega)):=List.getElem?_eq_getElem _;have lA:=hk.acc 0 _ _ (List.getElem?_eq_getElem (by omega)) da;have e0:(Ak rs).getD 0 Dn=(rs[0]'(by omega)).er:=by rw [List.getD_eq_getElem?_getD];unfold Ak;rw [List.getElem?_map,da];rfl
 rw [e0];exact⟨lA.1.may,lA.1.effs,lA.2⟩
theorem Ux{w0 w:World}{S:Nat→Prop}{t:PA}{p q:Option Addr}{n c m mc:Nat}{env:List BV}{rhos:List Int}(h:ES w0 w S t p q n c m mc env rhos){r:TE}(hc:Go.Proofs.YtkdjnegfnhldpaaGreatDoor.chk (DZ env) rhos (PA.er t)=.ok r):FT (102 * t.size) r:=by have:=J0 (PA.er t) (DZ env) rhos r h.good (fun b hb=>(h.genv b hb).1) hc;rwa [Ix] at this
end Go.Proofs.YtkdjnegfnhldpaaGreatDoor
