/- Part 24. -/
import Derived.Recover
import Derived.Laws.Entries
import Derived.Tactics
import Derived.Test.YtkdjnegfnhldpaaGreatDoorK23
set_option linter.unusedVariables false
set_option maxRecDepth 100000
set_option linter.unusedSimpArgs false
set_option maxHeartbeats 40000000
namespace Go.Proofs.YtkdjnegfnhldpaaGreatDoor
open Go.Proofs.Tryz Go.RowKit
def Hs(r:Option Int)(e:Ending):Prop:=
 match r with
 |none=>e=.returned (.tuple #[.int .i64 0,.bool true])
 |some z=>e=.returned (.tuple #[.int .i64 z,.bool false])
theorem Py(W:World)(k:Nat)(hk:50 * k≤1000000):Pm (W.heap.size+1) (W.heap.size+2) W.heap.size k ([],0) (((W.alloc (.map #[] 0)).alloc (.cells #[.map (some W.heap.size)] 113)).alloc (.cells #[.int .i64 0] 3)):=by have e0:=World.ownsMap_made (H:=Unit) W prog 3 unitElem;have e1:=heap_alloc_new (W.alloc (.map #[] 0)) (.cells #[.map (some W.heap.size)] 113);have e2:=heap_alloc_new ((W.alloc (.map #[] 0)).alloc (.cells #[.map (some W.heap.size)] 113)) (.cells #[.int .i64 0] 3);simp only [World.size_alloc] at e1 e2;refine⟨?_,e2,⟨.map [],(e0.alloc _).alloc _,T0⟩,by simpa using hk,by omega,by omega,by omega⟩;rw [Below.heap_alloc _ _ _ (by simp)];exact e1
theorem Ms(t:PA):AG.nodes (PA.er t)=(AG.nodes t).map AH.plain:=by refine AG.ind (P:=fun(t:PA)=>AG.nodes (PA.er t)=(AG.nodes t).map AH.plain) (fun a l ih=>?_) t;rw [PA.er_node,AG.nodes_node,AG.nodes_node,List.map_cons,List.map_flatten,List.map_map,List.map_map];congr 2;exact List.map_congr_left (fun t ht=>ih t ht)
theorem Mt{w:World}{t:PA}(h:LA.lies w t):∀x∈AG.nodes t,AH.Own w x:=by
 revert h;refine AG.ind (P:=fun(t:PA)=>LA.lies w t→∀x∈AG.nodes t,AH.Own w x) (fun a l ih h x hx=>?_) t;have hn:=DP h;rw [AG.nodes_node,List.mem_cons,List.mem_flatten] at hx;rcases hx with rfl|⟨m,hm,hx⟩
 ·exact hn.own
 ·obtain⟨u,hu,rfl⟩:=List.mem_map.1 hm;exact ih u hu (hn.each u hu) x hx
theorem FL{w:World}{t:PA}(hl:LA.lies w t)(hs:BR t)(aU:t.size≤1000):Calls prog 36 #[Aj t.head] w fun e w'=>Hs (Dv (PA.er t)) e∧Below w.heap.size w w':=by
 obtain⟨a,l,rfl⟩:∃a l,t=AG.node a l:=⟨t.head,t.kids,AG.eta t⟩;have HL:=AA hl;have HS:=AA hs;have lC:=@run_makeMap prog;have aE:=AA (Aa w a);obtain⟨u,⟨mt,zt⟩,io⟩:∃u m,AU Bq (Ai [AG.node a l]) ([],0)=(u,m):=⟨_,_,rfl⟩;have cj:=AA io;have hN:Ai [AG.node a l]=AG.nodes (AG.node a l):=by simp [Ai]
 have fk:Hd (Hs (Dv (PA.er (AG.node a l))) (.returned (.tuple #[.int .i64 zt,.bool u]))):=by
  have h1:=Lb (Ai [AG.node a l]) [] 0;rw [io] at h1;have h2:Dv (PA.er (AG.node a l))=Ft ((Ai [AG.node a l]).map AH.plain) []:=by unfold Dv;rw [hN];congr 1;exact Ms _
  show Hs _ _;rw [h2,h1.1];cases u with
  |true=>have h3:=h1.2 rfl;have h4:zt=0:=h3;subst h4;rfl
  |false=>rfl
 have dD:(Ai [AG.node a l]).length≤1000:=by rw [hN,DH];exact aU
 have nz:=AA (Py (w.alloc (AO a)) (0+(Ai [AG.node a l]).length) (by omega));clear hl hs io hN;have nz:Hd (Pm (w.heap.size+1+1) (w.heap.size+1+1+1) (w.heap.size+1) (0+(Ai [AG.node a l]).length) ([],0) ((((w.alloc (AO a)).alloc (.map #[] 0)).alloc (.cells #[.map (some (w.heap.size+1))] 113)).alloc (.cells #[.int .i64 0] 3))):=by have h:=nz.o;simp only [World.size_alloc] at h;exact h
 have qq:∀x∈Ai [AG.node a l],AH.Own w x∧Bl x:=fun x hx=>by
  have fJ:x∈AG.nodes (AG.node a l):=by simpa [Ai] using hx
  exact⟨Mt HL.o x fJ,HS.o x fJ⟩
 have rq:=AA qq;clear qq;show Calls prog 36 #[Aj a] w _;go_enter func36,ntmps36;go_upto_region 3 with fail;have aV:Hd (Below w.heap.size w ((((w.alloc (AO a)).alloc (.map #[] 0)).alloc (.cells #[.map (some (w.heap.size+1))] 113)).alloc (.cells #[.int .i64 0] 3))):=(((((Below.refl w.heap.size w).alloc (Nat.le_refl _) _).alloc (by simp only [World.size_alloc];omega) _).alloc (by simp only [World.size_alloc];omega) _).alloc (by simp only [World.size_alloc];omega) _);have oG:Hd (Fq ((((w.alloc (AO a)).alloc (.map #[] 0)).alloc (.cells #[.map (some (w.heap.size+1))] 113)).alloc (.cells #[.int .i64 0] 3)) w.heap.size a):=aE.o.below ((bA.alloc (by simp only [World.size_alloc];omega) _).alloc (by simp only [World.size_alloc];omega) _);have pS:((((w.alloc (AO a)).alloc (.map #[] 0)).alloc (.cells #[.map (some (w.heap.size+1))] 113)).alloc (.cells #[.int .i64 0] 3)).heap.size=w.heap.size+4:=by simp
 generalize ((((w.alloc (AO a)).alloc (.map #[] 0)).alloc (.cells #[.map (some (w.heap.size+1))] 113)).alloc (.cells #[.int .i64 0] 3))=W3 at *
 have qH:Wi w (W3.alloc (AO a)) (OC (w.heap.size+1+1+1) (w.heap.size+1)) (some ⟨W3.heap.size,0,none⟩) 1 1 [AG.node a l]:=⟨Al SS (by omega) W3 31 [AG.node a l] 1 _ rfl rfl (by decide),fun _ ad hp hr=>by cases hp;rcases hr with hr|hr<;>(dsimp only at hr;omega),fun t ht=>by rw [List.mem_singleton] at ht;subst ht;exact HL.o⟩;have bT:=AA qH;clear qH aE pS
 go_wp2_with (first
  |(refine lw oG.o.blk underlying31 ?_))
 go_at_call 59;refine(Lf (TX (b4:=w.heap.size+1+1) (by omega) (by omega)) [AG.node a l] 0 _ 1 1 _ bT.o rq.o ([],0) (aV.o.alloc aV.o.size _) (nz.o.below bA)).mono ?_;rw [cj.o];rintro e w5 ⟨rfl,qa,jV⟩;have c5:w5.cell? ⟨w.heap.size+1+1+1,0,none⟩=some (.int .i64 zt):=by rw [Lib.cell_of_heap qa.c5];rfl
 have aw:=AA (Gr (aV.o.alloc aV.o.size (AO a)) jV (aV.o.alloc aV.o.size _).size (fun k h=>by rcases h with rfl|rfl<;>omega));clear qa jV;go_wp2_with fail;go_ret2;exact⟨fk.o,aw.o⟩
theorem UQ(h:CT)(n:Nat)(hb:Cl h n=true):0≤h.at_:=by
 unfold Cl at hb;split at hb
 ·simp only [Bool.and_eq_true,decide_eq_true_eq] at hb;exact hb.1.2
 ·split at hb
  ·simp only [Bool.and_eq_true,decide_eq_true_eq] at hb;exact hb.1.2
  ·unfold Be at hb;simp only [Bool.and_eq_true,Bool.not_eq_true',Bool.or_eq_false_iff,decide_eq_false_iff_not] at hb;have:=hb.1.1.1.2;omega
theorem To{a:AH}(h:C7 a=true):0≤a.at_:=by unfold C7 at h;simp only [Bool.and_eq_true,Bool.not_eq_true',Bool.or_eq_false_iff,Bool.not_eq_false'] at h;exact UQ a.hd a.kn h.1.1.1.1.1.1.1.1
theorem GN{w:World}(t:PA):LA.lies w t→BR t→Gx t=true→GL (PA.er t):=by
 refine AG.ind (P:=fun(t:PA)=>LA.lies w t→BR t→Gx t=true→GL (PA.er t)) (fun a l ih hl hs hm=>?_) t;have hn:=DP hl;unfold Gx at hm;rw [List.all_eq_true] at hm
 have ew:∀x∈AG.nodes (AG.node a l),x=a∨∃t∈l,x∈AG.nodes t:=fun x hx=>by
  rw [AG.nodes_node,List.mem_cons,List.mem_flatten] at hx;rcases hx with h|⟨m,hm,hx⟩
  ·exact .inl h
  ·obtain⟨u,hu,rfl⟩:=List.mem_map.1 hm;exact .inr ⟨u,hu,hx⟩
 have qp:∀t∈l,∀x∈AG.nodes t,x∈AG.nodes (AG.node a l):=fun t ht x hx=>by rw [AG.nodes_node,List.mem_cons,List.mem_flatten];exact .inr ⟨_,List.mem_map_of_mem ht,hx⟩
 have ha:a∈AG.nodes (AG.node a l):=by rw [AG.nodes_node];exact List.mem_cons_self
 have h0:=hm a ha;have hk:=WB h0 hn.own.rhos.len;have nr:=hs a ha;rw [PA.er_node];refine .node _ _ ⟨hk.k1,hk.k18,?_,hk.rho,hk.rhos,hk.eff,nr.eff,hk.ty,hk.res,nr.ty,nr.res,nr.exn,To h0⟩ (fun t ht=>?_)
 ·rw [List.length_map,hn.kids.len];exact hk.kids
 ·obtain⟨u,hu,rfl⟩:=List.mem_map.1 ht;exact ih u hu (hn.each u hu) (fun x hx=>hs x (qp u hu x hx)) (by unfold Gx;rw [List.all_eq_true];exact fun x hx=>hm x (qp u hu x hx))
structure RJ(w:World)(a:AH)(W:World):Prop where
 box:Fq W w.heap.size a
 o:∃cs:Array Value,cs.size=4∧W.heap[w.heap.size+1]?=some (.cells cs 28 (0,0))
 m:∃v,W.heap[w.heap.size+1+1]?=some (.cells #[v] 25 (0,0))
 at_:∃v,W.heap[w.heap.size+1+1+1]?=some (.cells #[v] 3 (0,0))
 e:∃v,W.heap[w.heap.size+1+1+1+1]?=some (.cells #[v] 34 (0,0))
 below:Below w.heap.size w W
 size:w.heap.size+5≤W.heap.size
theorem RJ.step{w W W':World}{a:AH}(h:RJ w a W)(hb:Below W.heap.size W W'):RJ w a W':=by obtain⟨cs,h1,h2⟩:=h.o;obtain⟨v2,h3⟩:=h.m;obtain⟨v3,h4⟩:=h.at_;obtain⟨v4,h5⟩:=h.e;exact⟨h.box.below hb,⟨cs,h1,(hb.block _ (AW h2)).trans h2⟩,⟨v2,(hb.block _ (AW h3)).trans h3⟩,⟨v3,(hb.block _ (AW h4)).trans h4⟩,⟨v4,(hb.block _ (AW h5)).trans h5⟩,h.below.trans (hb.mono h.below.size),Nat.le_trans h.size hb.size⟩
structure XY(w:World)(a:AH)(cs:Array Value)(v2 v3 v4:Value)(W:World):Prop where
 o:W.heap[w.heap.size+1]?=some (.cells cs 28 (0,0))
 m:W.heap[w.heap.size+1+1]?=some (.cells #[v2] 25 (0,0))
 at_:W.heap[w.heap.size+1+1+1]?=some (.cells #[v3] 3 (0,0))
 e:W.heap[w.heap.size+1+1+1+1]?=some (.cells #[v4] 34 (0,0))
 below:Below w.heap.size w W
theorem RJ.w1{w W:World}{a:AH}(h:RJ w a W){cs:Array Value}(hc:cs.size=4):RJ w a (W.setRow (w.heap.size+1) cs):=by obtain⟨cs',h1,h2⟩:=h.o;obtain⟨v2,h3⟩:=h.m;obtain⟨v3,h4⟩:=h.at_;obtain⟨v4,h5⟩:=h.e;exact⟨⟨(setRow_other _ _ _ _ (by omega)).trans h.box.blk⟩,⟨cs,hc,setRow_heap _ _ _ _ _ _ h2⟩,⟨v2,(setRow_other _ _ _ _ (by omega)).trans h3⟩,⟨v3,(setRow_other _ _ _ _ (by omega)).trans h4⟩,⟨v4,(setRow_other _ _ _ _ (by omega)).trans h5⟩,h.below.grown BB h.below.size (fun k e=>by cases e;omega),by have:=h.size;simpa using this⟩
theorem RJ.wset{w W:World}{a:AH}(h:RJ w a W){b:Nat}(hb:b=w.heap.size+1+1∨b=w.heap.size+1+1+1∨b=w.heap.size+1+1+1+1)(v:Value):RJ w a (W.setCell ⟨b,0,none⟩ v):=by
 obtain⟨cs,h1,h2⟩:=h.o;obtain⟨v2,h3⟩:=h.m;obtain⟨v3,h4⟩:=h.at_;obtain⟨v4,h5⟩:=h.e;have hg:=AL W b 0 v;have aU:=h.size;have ot:∀{k:Nat} {o:Obj},W.heap[k]?=some o→k≠b→(W.setCell ⟨b,0,none⟩ v).heap[k]?=some o:=fun {k o} hk aS=>(hg.block k (AW hk) (fun e=>aS (by injection e))).trans hk;refine⟨⟨ot h.box.blk (by omega)⟩,⟨cs,h1,ot h2 (by omega)⟩,?_,?_,?_,h.below.grown hg h.below.size (fun k e=>by cases e;omega),Nat.le_trans h.size hg.size⟩
 ·by_cases e:b=w.heap.size+1+1
  ·subst e;exact⟨v,AZ v h3⟩
  ·exact⟨v2,ot h3 (fun h=>e h.symm)⟩
 ·by_cases e:b=w.heap.size+1+1+1
  ·subst e;exact⟨v,AZ v h4⟩
  ·exact⟨v3,ot h4 (fun h=>e h.symm)⟩
 ·by_cases e:b=w.heap.size+1+1+1+1
  ·subst e;exact⟨v,AZ v h5⟩
  ·exact⟨v4,ot h5 (fun h=>e h.symm)⟩
theorem RJ.fill{w W:World}{a:AH}(h:RJ w a W){cs:Array Value}(hc:cs.size=4)(v2 v3 v4:Value):XY w a cs v2 v3 v4 ((((W.setRow (w.heap.size+1) cs).setCell ⟨w.heap.size+1+1,0,none⟩ v2).setCell ⟨w.heap.size+1+1+1,0,none⟩ v3).setCell ⟨w.heap.size+1+1+1+1,0,none⟩ v4):=by have pZ:=h.w1 hc;obtain⟨cs',h1,h2⟩:=h.o;have e1:(W.setRow (w.heap.size+1) cs).heap[w.heap.size+1]?=some (.cells cs 28 (0,0)):=setRow_heap _ _ _ _ _ _ h2;have ot:∀{W:World} {b k:Nat} {v:Value} {o:Obj},W.heap[k]?=some o→k≠b→(W.setCell ⟨b,0,none⟩ v).heap[k]?=some o:=fun {W b k v o} hk aS=>((AL W b 0 v).block k (AW hk) (fun e=>aS (by injection e))).trans hk;obtain⟨u2,f2⟩:=pZ.m;have qv:=pZ.wset (b:=w.heap.size+1+1) (.inl rfl) v2;have e2:=AZ (o:=0) v2 f2;obtain⟨u3,f3⟩:=qv.at_;have qw:=qv.wset (b:=w.heap.size+1+1+1) (.inr (.inl rfl)) v3;have e3:=AZ (o:=0) v3 f3;obtain⟨u4,f4⟩:=qw.e;have tM:=qw.wset (b:=w.heap.size+1+1+1+1) (.inr (.inr rfl)) v4;have e4:=AZ (o:=0) v4 f4;exact⟨ot (ot (ot e1 (by omega)) (by omega)) (by omega),ot (ot e2 (by omega)) (by omega),ot e3 (by omega),e4,tM.below⟩
theorem KX{P:Program}{ops:Array Oper}{o:Oper}{act:Act}{K:Act→World→Prop}{Q:Exit→Act→World→Prop}{E:Prop}(au:o.guard=none)(ty:TypeId)(x y:Operand)(ho:o.op=.store ty x y){W:World}{g:Nat}(h:∃cs:Array Value,cs.size=4∧W.heap[g]?=some (.cells cs 28 (0,0)))(cells:Array Value)(hx:act.eval x=.pointer (some ⟨g,0,none⟩))(hy:act.eval y=.agg cells)(h4:cells.size=4)(h1:cells.all (·.oneCell')=true)(hi:(P.info? ty).map (·.size)=some 4)(hK:K (act.put o.dst undef) (W.setRow g cells)):if Region.wanted o (yielded ops act.tmps)=true then Oper.wp P o act W K Q else E:=by obtain⟨cs,e1,e2⟩:=h;rw [if_pos (by simp [Region.wanted,au])];exact wp_store_row ty x y ho g cells hx hy 28 cs e2 (by rw [hi,h4]) (by omega) h1 hK
theorem Fv{W:World}{g:Nat}{v:Value}{t:TypeId}(h:W.heap[g]?=some (.cells #[v] t (0,0))):W.cell? ⟨g,0,none⟩=some v∧W.frozen? ⟨g,0,none⟩=false:=⟨by rw [Lib.cell_of_heap h];rfl,by simp only [World.frozen?,h];rfl⟩
structure UE(w:World)(a:AH)(g:Nat)(z no:Int)(W:World):Prop where
 ch:RJ w a W
 t:W.heap[g]?=some (.cells #[.int .i64 z,.int .i64 no] 79 (0,0))
 g5:w.heap.size+5≤g
theorem UE.drew{w W:World}{a:AH}{g:Nat}{z no:Int}(h:UE w a g z no W):UE w a g z no W.drew:=⟨h.ch.step (AC W),h.t,h.g5⟩
theorem UE.w1{w W:World}{a:AH}{g:Nat}{z no:Int}(h:UE w a g z no W){cs:Array Value}(hc:cs.size=4):UE w a g z no (W.setRow (w.heap.size+1) cs):=⟨h.ch.w1 hc,(setRow_other _ _ _ _ (by have:=h.g5;omega)).trans h.t,h.g5⟩
theorem UE.set{w W:World}{a:AH}{g:Nat}{z no:Int}(h:UE w a g z no W){b:Nat}(hb:b=w.heap.size+1+1∨b=w.heap.size+1+1+1∨b=w.heap.size+1+1+1+1)(v:Value):UE w a g z no (W.setCell ⟨b,0,none⟩ v):=⟨h.ch.wset hb v,((AL W b 0 v).block _ (AW h.t) (fun e=>by have:=h.g5;injection e with e;omega)).trans h.t,h.g5⟩
theorem Oo(z no:Int)(W:World):Sem.run prog (Instr.typeAssert (Jq z no) 20 79 true) W=.ok (.tuple #[.agg #[.int .i64 z,.int .i64 no],.bool true]) W:=by simp [Instr.typeAssert,run_underlying underlying79,typeInfo]
theorem Ow{w:World}{a:AH}{z no:Int}(older:List PanicEntry){W:World}(h:RJ w a W) :
 CallsD prog 37 #[.pointer (some ⟨w.heap.size+1,0,none⟩),.pointer (some ⟨w.heap.size+1+1,0,none⟩),.pointer (some ⟨w.heap.size+1+1+1,0,none⟩),.pointer (some ⟨w.heap.size+1+1+1+1,0,none⟩)] (.panicking ({ v:=Jq z no,recovered:=false }::older)) W fun e u' w'=>e=.returned (.tuple #[])∧u'=.panicking ({ v:=Jq z no,recovered:=true }::older)∧XY w a #[.int .u8 0,.int .i64 0,.slice none 0 0,.slice none 0 0] (.slice none 0 0) (.int .i64 z) (.int .i64 no) w':=by
 have tt:=Oo z no
 have HH:=AA h
 have cF:=AA (heap_alloc_new W (.cells #[.int .i64 0,.int .i64 0] 79))
 have HT:Hd (UE w a W.heap.size z no (W.alloc (.cells #[.int .i64 z,.int .i64 no] 79))):=⟨h.step bA,heap_alloc_new W _,h.size⟩
 clear h
 refine callsD_of_wpS func37 rfl fun c₀ cs hu=>?_
 apply wpS_seq
 apply wpS_region
 simp [wpOpsS,go_sem,recoverD,hu,ntmps37,Exit.thenS]
 refine wpS_of_wp ?_
 simp only [List.size_toArray,List.length_cons,List.length_nil,Nat.reduceAdd,Nat.reduceSub,Array.replicate_succ,Array.replicate_zero,List.push_toArray,List.append_toArray,List.nil_append,List.cons_append,zA,zB,zC]
 go_upto_region 7 with fail
 obtain⟨g,hg⟩:∃g,W.heap.size=g:=⟨_,rfl⟩
 rw [hg] at HT ⊢
 generalize (W.alloc (.cells #[.int .i64 z,.int .i64 no] 79))=W2 at *
 clear hg cF HH
 refine rg (fun W'=>UE w a g z no W') (HT.o.drew) fun aA=>?_
 refine tp 0 13 ?_
 refine tp 1 14 ?_
 refine tp 2 15 ?_ (hy:=fun w aC=>by(try dsimp only at aC);have q0:w.cell? ⟨g,0,none⟩=some (.int .i64 z):=(by rw [Lib.cell_of_heap aC.t];rfl);go_simp;try with_reducible rfl)
 refine tp 3 16 ?_
 refine tp 4 17 ?_ (hy:=fun w aC=>by(try dsimp only at aC);have q1:w.cell? ⟨g,1,none⟩=some (.int .i64 no):=(by rw [Lib.cell_of_heap aC.t];rfl);go_simp;try with_reducible rfl)
 refine DV 5 fun K hK=>?_
 refine KX (by rfl) _ _ _ (by rfl) aA.ch.o #[.int .u8 0,.int .i64 0,.slice none 0 0,.slice none 0 0] (by rfl) (by rfl) rfl (by simp [Value.oneCell']) (by kernel_rfl) ?_
 refine tn hK (aA.w1 rfl) ?_;clear aA hK K;intro aA
 refine DV 6 fun K hK=>?_
 obtain⟨v2,iu⟩:=aA.ch.m
 obtain⟨q2,f2⟩:=Fv iu
 clear iu
 go_simp
 clear q2 f2
 refine tn hK (aA.set (.inl rfl) _) ?_;clear aA hK K;intro aA
 refine DV 7 fun K hK=>?_
 obtain⟨v3,nH⟩:=aA.ch.at_
 obtain⟨q3,f3⟩:=Fv nH
 clear nH
 go_simp
 clear q3 f3
 refine tn hK (aA.set (.inr (.inl rfl)) _) ?_;clear aA hK K;intro aA
 refine DV 8 fun K hK=>?_
 obtain⟨v4,nI⟩:=aA.ch.e
 obtain⟨q4,f4⟩:=Fv nI
 clear nI
 go_simp
 clear q4 f4
 refine tn hK (aA.set (.inr (.inr rfl)) _) ?_;clear aA hK K;intro aA
 refine dn ?_
 clear aA
 simp only [Exit.inBlock]
 refine(show bodyPostS prog f37 c₀ _ _ Exit.normal _ _ _ from ?_)
 cases c₀
 simp [bodyPostS,results,results37]
 exact HT.o.drew.ch.fill rfl _ _ _
theorem QC(args:Array Value)(h4:∃a b c d,args=#[a,b,c,d])(W:World):CallsD prog 37 args .returning W fun e u' w'=>e=.returned (.tuple #[])∧u'=.returning∧w'=W:=by obtain⟨x1,x2,x3,x4,rfl⟩:=h4;refine callsD_of_wpS func37 rfl fun c₀ cs hu=>?_;apply wpS_seq;apply wpS_region;simp [wpOpsS,go_sem,recoverD,hu,ntmps37,Exit.thenS];refine wpS_of_wp ?_;simp only [List.size_toArray,List.length_cons,List.length_nil,Nat.reduceAdd,Nat.reduceSub,Array.replicate_succ,Array.replicate_zero,List.push_toArray,List.append_toArray,List.nil_append,List.cons_append,zA,zB,zC];go_wp2_with fail;cases c₀;simp_all [bodyPostS,results,results37]
theorem Uv{w0 w:World}{S:Nat→Prop}{a:AH}{p q r:Option Addr}{n c m mc rn rc:Nat}{env:List BV}{rhos:List Int}{acc:List RV}{i:Int}(hE:Dc w0 w S p n c env)(hq:AE Ab 1 w q m mc rhos)(ha:AH.Own w a)(cZ:AH.Own w0 a)(hS:∀b,w.heap.size≤b→S b)(cR:∀b∈A7 a.ty,S b)(hn:n≤900000)(hm:m≤900000)(hk:a.kind=11):Calls prog 98 #[.agg #[.slice p n c,.slice q m mc],Aj a,.int .i64 i,.slice r rn rc] w (MG w0 w S n m (Ac (DZ env) a.plain i.toNat (Ak acc)) (Ad rhos a.plain i.toNat)):=by
 have HX:=AA (Fb w a (.slice p n c) (.slice q m mc));have HE:=AA hE;have HQ:=AA hq;have HA:=AA ha;have dj:=AA cZ;have HS:=AA hS;have HT:=AA cR;have bZ:=HX.o.b.b1.c 0 _ rfl;have e11:(a.kind==11)=true:=by simp [hk]
 have dd:Hd (Ac (DZ env) a.plain i.toNat (Ak acc)=DZ env++[⟨a.arg,a.ty.er,none⟩]):=by show _=_;unfold Ac;simp [show a.plain.kind=11 from hk];try first|rfl|exact⟨rfl,rfl⟩
 have aa:Hd (Ad rhos a.plain i.toNat=rhos):=by show _=_;unfold Ad;simp [show a.plain.kind=11 from hk]
 rw [dd.o,aa.o];clear hE hq ha cZ hS cR hk;have nb:=HX.o.b.b1.c 5 _ rfl;go_enter func98,ntmps98;go_upto_region 2 with fail;generalize (((w.alloc (.cells #[.slice p n c,.slice q m mc] 84)).alloc (AO a)).alloc (.cells #[.slice none 0 0,.slice none 0 0] 84))=W1 at *
 go_wp2_with (first
  |(refine lw HX.o.b.b0 underlying84 ?_)
  |(refine l4 a.ty (Ax HX.o.b.b1 10 4 rfl) underlying28 ?_))
 refine(DA (HE.o.row.below (AQ HX.o.below _)) q m mc (Al Ej (by omega) W1 145 [⟨a.arg,a.ty,none⟩] 1 _ rfl rfl (by decide)) (by omega)).mono ?_;rintro e w2 ⟨p',c',rfl,aD,hb,cX⟩;have ah:=AA (HX.o.step (AK (AQ (Below.refl _ _) _) hb));have bv:=AA aD;have eq:=AA cX;clear aD cX;go_wp2_with (refine wpList_store_row rfl 84 _ _ rfl (w.heap.size+2) #[.slice p' (n+1) c',.slice q m mc] rfl rfl 84 _ ah.o.res.choose_spec.2 (by kernel_rfl) (by rw [ah.o.res.choose_spec.1];rfl) (by simp [Value.oneCell']) ?_);refine br (ah.o.heap _) underlying84 ?_;refine GV ah.o HS.o bv.o (fun _ ad hp=>?_) (fun z hz=>?_) (by simp [DZ,BV.er]) (HQ.o.below ah.o.below) (fun hl ad hp=>?_) (by omega) (by omega)
 ·rcases eq.o with⟨h1,_⟩|h1
  ·cases h1
  ·have h2:=h1 ad hp;have h3:=HX.o.size;simp at h2;omega
 ·rcases List.mem_append.1 hz with hz|hz
  ·have ho:=(HE.o.each z hz);refine⟨(ho.below ah.o.below).weak (fun x hx=>.inl ⟨AN _ ho.ty x hx,ho.uses x hx⟩),fun a' g e=>?_⟩;have:=(ho.fn a' g e).2.2;omega
  ·rw [List.mem_singleton] at hz;subst hz;exact⟨⟨LR.lies_below ah.o.below _ HA.o.ty,fun x hx=>.inl ⟨AN _ HA.o.ty x hx,HT.o x hx⟩,fun a' g e=>(nomatch e),HA.o.arg⟩,fun a' g e=>(nomatch e)⟩
 ·have:=Bf HQ.o.row hl hp;omega
theorem O5{w0 w:World}{S:Nat→Prop}{a:AH}{p q r:Option Addr}{n c m mc rn rc:Nat}{env:List BV}{rhos:List Int}{acc:List RV}{i:Int}(hE:Dc w0 w S p n c env)(hq:AE Ab 1 w q m mc rhos)(ha:AH.Own w a)(cZ:AH.Own w0 a)(hS:∀b,w.heap.size≤b→S b)(cR:∀b∈A7 a.ty,S b)(hn:n≤900000)(hm:m≤900000)(hk:a.kind=16)(hi:i=1):Calls prog 98 #[.agg #[.slice p n c,.slice q m mc],Aj a,.int .i64 i,.slice r rn rc] w (MG w0 w S n m (Ac (DZ env) a.plain i.toNat (Ak acc)) (Ad rhos a.plain i.toNat)):=by
 have HX:=AA (Fb w a (.slice p n c) (.slice q m mc));have HE:=AA hE;have HQ:=AA hq;have HA:=AA ha;have dj:=AA cZ;have HS:=AA hS;have HT:=AA cR;have bZ:=HX.o.b.b1.c 0 _ rfl;have e11:(a.kind==11)=false:=by simp [hk]
 have e12:(a.kind==12)=false:=by simp [hk]
 have e13:(a.kind==13)=false:=by simp [hk]
 have e16:(a.kind==16)=true:=by simp [hk]
 have dd:Hd (Ac (DZ env) a.plain i.toNat (Ak acc)=DZ env++[⟨a.arg,Ij,none⟩]):=by show _=_;unfold Ac;simp [show a.plain.kind=16 from hk,hi];try first|rfl|exact⟨rfl,rfl⟩
 have aa:Hd (Ad rhos a.plain i.toNat=rhos):=by show _=_;unfold Ad;simp [show a.plain.kind=16 from hk,hi]
 rw [dd.o,aa.o];clear hE hq ha cZ hS cR hk;subst hi;have nb:=HX.o.b.b1.c 5 _ rfl;go_enter func98,ntmps98;go_upto_region 10 with fail;generalize (((w.alloc (.cells #[.slice p n c,.slice q m mc] 84)).alloc (AO a)).alloc (.cells #[.slice none 0 0,.slice none 0 0] 84))=W1 at *
 go_wp2_with (first
  |(refine lw HX.o.b.b0 underlying84 ?_)
  |(refine l4 a.ty (Ax HX.o.b.b1 10 4 rfl) underlying28 ?_))
 refine(DA (HE.o.row.below (AQ HX.o.below _)) q m mc (Al Ej (by omega) W1 145 [⟨a.arg,(.node ⟨1,0,none,0,0,[],none,0,0⟩ []),none⟩] 1 _ rfl rfl (by decide)) (by omega)).mono ?_;rintro e w2 ⟨p',c',rfl,aD,hb,cX⟩;have ah:=AA (HX.o.step (AK (AQ (Below.refl _ _) _) hb));have bv:=AA aD;have eq:=AA cX;clear aD cX;go_wp2_with (refine wpList_store_row rfl 84 _ _ rfl (w.heap.size+2) #[.slice p' (n+1) c',.slice q m mc] rfl rfl 84 _ ah.o.res.choose_spec.2 (by kernel_rfl) (by rw [ah.o.res.choose_spec.1];rfl) (by simp [Value.oneCell']) ?_);refine br (ah.o.heap _) underlying84 ?_;refine GV ah.o HS.o bv.o (fun _ ad hp=>?_) (fun z hz=>?_) (by simp [DZ,BV.er];rfl) (HQ.o.below ah.o.below) (fun hl ad hp=>?_) (by omega) (by omega)
 ·rcases eq.o with⟨h1,_⟩|h1
  ·cases h1
  ·have h2:=h1 ad hp;have h3:=HX.o.size;simp at h2;omega
 ·rcases List.mem_append.1 hz with hz|hz
  ·have ho:=(HE.o.each z hz);refine⟨(ho.below ah.o.below).weak (fun x hx=>.inl ⟨AN _ ho.ty x hx,ho.uses x hx⟩),fun a' g e=>?_⟩;have:=(ho.fn a' g e).2.2;omega
  ·rw [List.mem_singleton] at hz;subst hz;exact⟨⟨(FZ w2 (Si w S)).1,(FZ w2 (Si w S)).2,fun a' g e=>(nomatch e),HA.o.arg⟩,fun a' g e=>(nomatch e)⟩
 ·have:=Bf HQ.o.row hl hp;omega
theorem O6{w0 w:World}{S:Nat→Prop}{a:AH}{p q r:Option Addr}{n c m mc rn rc:Nat}{env:List BV}{rhos:List Int}{acc:List RV}{i:Int}(hE:Dc w0 w S p n c env)(hq:AE Ab 1 w q m mc rhos)(ha:AH.Own w a)(cZ:AH.Own w0 a)(hS:∀b,w.heap.size≤b→S b)(cR:∀b∈A7 a.ty,S b)(hn:n≤900000)(hm:m≤900000)(hk:a.kind=13)(qZ:0≤i)(hi:i≠0):Calls prog 98 #[.agg #[.slice p n c,.slice q m mc],Aj a,.int .i64 i,.slice r rn rc] w (MG w0 w S n m (Ac (DZ env) a.plain i.toNat (Ak acc)) (Ad rhos a.plain i.toNat)):=by
 have HX:=AA (Fb w a (.slice p n c) (.slice q m mc));have HE:=AA hE;have HQ:=AA hq;have HA:=AA ha;have dj:=AA cZ;have HS:=AA hS;have HT:=AA cR;have bZ:=HX.o.b.b1.c 0 _ rfl;have e11:(a.kind==11)=false:=by simp [hk]
 have e12:(a.kind==12)=false:=by simp [hk]
 have e13:(a.kind==13)=true:=by simp [hk]
 have ei0:(i==0)=false:=by simp [hi]
 have ew:¬i.toNat=0:=by omega
 have dd:Hd (Ac (DZ env) a.plain i.toNat (Ak acc)=DZ env++[⟨a.name,Bu,some a.plain⟩]):=by show _=_;unfold Ac;simp [show a.plain.kind=13 from hk,ew];try first|rfl|exact⟨rfl,rfl⟩
 have aa:Hd (Ad rhos a.plain i.toNat=rhos):=by show _=_;unfold Ad;simp [show a.plain.kind=13 from hk,ew]
 rw [dd.o,aa.o];clear hE hq ha cZ hS cR hk;have nb:=HX.o.b.b1.c 4 _ rfl;go_enter func98,ntmps98;go_upto_region 8 with fail;generalize (((w.alloc (.cells #[.slice p n c,.slice q m mc] 84)).alloc (AO a)).alloc (.cells #[.slice none 0 0,.slice none 0 0] 84))=W1 at *
 go_wp2_with (first
  |(refine lw HX.o.b.b0 underlying84 ?_)
  |(refine l4 a.ty (Ax HX.o.b.b1 10 4 rfl) underlying28 ?_))
 refine(DA (HE.o.row.below (AQ HX.o.below _)) q m mc (Al Ej (by omega) W1 145 [⟨a.name,(.node ⟨0,0,none,0,0,[],none,0,0⟩ []),some (a,w.heap.size+1)⟩] 1 _ rfl rfl (by decide)) (by omega)).mono ?_;rintro e w2 ⟨p',c',rfl,aD,hb,cX⟩;have ah:=AA (HX.o.step (AK (AQ (Below.refl _ _) _) hb));have bv:=AA aD;have eq:=AA cX;clear aD cX;go_wp2_with (refine wpList_store_row rfl 84 _ _ rfl (w.heap.size+2) #[.slice p' (n+1) c',.slice q m mc] rfl rfl 84 _ ah.o.res.choose_spec.2 (by kernel_rfl) (by rw [ah.o.res.choose_spec.1];rfl) (by simp [Value.oneCell']) ?_);refine br (ah.o.heap _) underlying84 ?_;refine GV ah.o HS.o bv.o (fun _ ad hp=>?_) (fun z hz=>?_) (by simp [DZ,BV.er];rfl) (HQ.o.below ah.o.below) (fun hl ad hp=>?_) (by omega) (by omega)
 ·rcases eq.o with⟨h1,_⟩|h1
  ·cases h1
  ·have h2:=h1 ad hp;have h3:=HX.o.size;simp at h2;omega
 ·rcases List.mem_append.1 hz with hz|hz
  ·have ho:=(HE.o.each z hz);refine⟨(ho.below ah.o.below).weak (fun x hx=>.inl ⟨AN _ ho.ty x hx,ho.uses x hx⟩),fun a' g e=>?_⟩;have:=(ho.fn a' g e).2.2;omega
  ·rw [List.mem_singleton] at hz;subst hz;exact⟨⟨(FC w2 (Si w S)).1,(FC w2 (Si w S)).2,fun a' g e=>(by cases e;exact⟨⟨fun i v hv=>ah.o.b.b1.c (0+i) v (by simpa using hv)⟩,dj.o,by have:=ah.o.size;omega⟩),HA.o.name⟩,fun a' g e=>(by cases e;omega)⟩
 ·have:=Bf HQ.o.row hl hp;omega
theorem O7{w0 w:World}{S:Nat→Prop}{a:AH}{p q r:Option Addr}{n c m mc rn rc:Nat}{env:List BV}{rhos:List Int}{acc:List RV}{i:Int}(hE:Dc w0 w S p n c env)(hq:AE Ab 1 w q m mc rhos)(ha:AH.Own w a)(cZ:AH.Own w0 a)(hS:∀b,w.heap.size≤b→S b)(cR:∀b∈A7 a.ty,S b)(hn:n≤900000)(hm:m≤900000)(hk:a.kind=17):Calls prog 98 #[.agg #[.slice p n c,.slice q m mc],Aj a,.int .i64 i,.slice r rn rc] w (MG w0 w S n m (Ac (DZ env) a.plain i.toNat (Ak acc)) (Ad rhos a.plain i.toNat)):=by
 have HX:=AA (Fb w a (.slice p n c) (.slice q m mc));have HE:=AA hE;have HQ:=AA hq;have HA:=AA ha;have dj:=AA cZ;have HS:=AA hS;have HT:=AA cR;have bZ:=HX.o.b.b1.c 0 _ rfl;have e11:(a.kind==11)=false:=by simp [hk]
 have e12:(a.kind==12)=false:=by simp [hk]
 have e13:(a.kind==13)=false:=by simp [hk]
 have e16:(a.kind==16)=false:=by simp [hk]
 have e17:(a.kind==17)=true:=by simp [hk]
 have dd:Hd (Ac (DZ env) a.plain i.toNat (Ak acc)=DZ env):=by show _=_;unfold Ac;simp [show a.plain.kind=17 from hk]
 have aa:Hd (Ad rhos a.plain i.toNat=rhos++[a.rho]):=by show _=_;unfold Ad;simp [show a.plain.kind=17 from hk];try rfl
 rw [dd.o,aa.o];clear hE hq ha cZ hS cR hk;have qQ:=HX.o.b.b1.c 7 _ rfl;go_enter func98,ntmps98;go_upto_region 12 with fail;generalize (((w.alloc (.cells #[.slice p n c,.slice q m mc] 84)).alloc (AO a)).alloc (.cells #[.slice none 0 0,.slice none 0 0] 84))=W1 at *
 go_wp2_with (refine lw HX.o.b.b0 underlying84 ?_);refine(Eb (HQ.o.below (AQ HX.o.below _)) p n c (Al Ag (by omega) W1 3 [a.rho] 1 _ rfl rfl (by decide)) (by omega)).mono ?_;rintro e w2 ⟨p',c',rfl,aD,hb,cX⟩;have ah:=AA (HX.o.step (AK (AQ (Below.refl _ _) _) hb));have bv:=AA aD;have eq:=AA cX;clear aD cX;go_wp2_with (refine wpList_store_row rfl 84 _ _ rfl (w.heap.size+2) #[.slice p n c,.slice p' (m+1) c'] rfl rfl 84 _ ah.o.res.choose_spec.2 (by kernel_rfl) (by rw [ah.o.res.choose_spec.1];rfl) (by simp [Value.oneCell']) ?_);refine br (ah.o.heap _) underlying84 ?_;refine GV ah.o HS.o (HE.o.row.below ah.o.below) (fun hl ad hp=>?_) (fun z hz=>?_) rfl bv.o (fun _ ad hp=>?_) (by omega) (by omega)
 ·have:=Bf HE.o.row.row hl hp;omega
 ·have ho:=(HE.o.each z hz);refine⟨(ho.below ah.o.below).weak (fun x hx=>.inl ⟨AN _ ho.ty x hx,ho.uses x hx⟩),fun a' g e=>?_⟩;have:=(ho.fn a' g e).2.2;omega
 ·rcases eq.o with⟨h1,_⟩|h1
  ·cases h1
  ·have h2:=h1 ad hp;have h3:=HX.o.size;simp at h2;omega
theorem Rv{w0 w:World}{S:Nat→Prop}{a:AH}{p q r:Option Addr}{n c m mc rn rc:Nat}{env:List BV}{rhos:List Int}{acc:List RV}{i:Int}(hE:Dc w0 w S p n c env)(hq:AE Ab 1 w q m mc rhos)(ha:AH.Own w a)(cZ:AH.Own w0 a)(hS:∀b,w.heap.size≤b→S b)(cR:∀b∈A7 a.ty,S b)(hn:n≤900000)(hm:m≤900000)(hk:a.kind=12)(qZ:0≤i)(hi:i≠1):Calls prog 98 #[.agg #[.slice p n c,.slice q m mc],Aj a,.int .i64 i,.slice r rn rc] w (MG w0 w S n m (Ac (DZ env) a.plain i.toNat (Ak acc)) (Ad rhos a.plain i.toNat)):=by
 have HX:=AA (Fb w a (.slice p n c) (.slice q m mc));have HE:=AA hE;have HQ:=AA hq;have HA:=AA ha;have dj:=AA cZ;have HS:=AA hS;have HT:=AA cR;have bZ:=HX.o.b.b1.c 0 _ rfl;have e11:(a.kind==11)=false:=by simp [hk]
 have e12:(a.kind==12)=true:=by simp [hk]
 have e13:(a.kind==13)=false:=by simp [hk]
 have e16:(a.kind==16)=false:=by simp [hk]
 have e17:(a.kind==17)=false:=by simp [hk]
 have ei1:(i==1)=false:=by simp [hi]
 have ew:¬i.toNat=1:=by omega
 have dd:Hd (Ac (DZ env) a.plain i.toNat (Ak acc)=DZ env):=by show _=_;unfold Ac;simp [show a.plain.kind=a.kind from rfl,hk,ew]
 have aa:Hd (Ad rhos a.plain i.toNat=rhos):=by show _=_;unfold Ad;simp [show a.plain.kind=a.kind from rfl,hk,ew]
 rw [dd.o,aa.o];clear hE hq ha cZ hS cR hk ew;go_enter func98,ntmps98;go_upto_region 13 with fail;generalize (((w.alloc (.cells #[.slice p n c,.slice q m mc] 84)).alloc (AO a)).alloc (.cells #[.slice none 0 0,.slice none 0 0] 84))=W1 at *
 go_wp2_with (first
  |(refine lw HX.o.b.b0 underlying84 ?_)
  |(refine wpList_store_row rfl 84 _ _ rfl (w.heap.size+2) #[.slice p n c,.slice q m mc] rfl rfl 84 _ HX.o.res.choose_spec.2 (by kernel_rfl) (by rw [HX.o.res.choose_spec.1];rfl) (by simp [Value.oneCell']) ?_))
 refine br (HX.o.heap _) underlying84 ?_;refine GV HX.o HS.o (HE.o.row.below HX.o.below) (fun hl ad hp=>?_) (fun z hz=>?_) rfl (HQ.o.below HX.o.below) (fun hl ad hp=>?_) (by omega) (by omega)
 ·have:=Bf HE.o.row.row hl hp;omega
 ·have ho:=(HE.o.each z hz);refine⟨(ho.below HX.o.below).weak (fun x hx=>.inl ⟨AN _ ho.ty x hx,ho.uses x hx⟩),fun a' g e=>?_⟩;have:=(ho.fn a' g e).2.2;omega
 ·have:=Bf HQ.o.row hl hp;omega
theorem Nj{w0 w:World}{S:Nat→Prop}{a:AH}{p q r:Option Addr}{n c m mc rn rc:Nat}{env:List BV}{rhos:List Int}{acc:List RV}{i:Int}(hE:Dc w0 w S p n c env)(hq:AE Ab 1 w q m mc rhos)(ha:AH.Own w a)(cZ:AH.Own w0 a)(hS:∀b,w.heap.size≤b→S b)(cR:∀b∈A7 a.ty,S b)(hn:n≤900000)(hm:m≤900000)(hk:a.kind=16)(qZ:0≤i)(hi:i≠1):Calls prog 98 #[.agg #[.slice p n c,.slice q m mc],Aj a,.int .i64 i,.slice r rn rc] w (MG w0 w S n m (Ac (DZ env) a.plain i.toNat (Ak acc)) (Ad rhos a.plain i.toNat)):=by
 have HX:=AA (Fb w a (.slice p n c) (.slice q m mc));have HE:=AA hE;have HQ:=AA hq;have HA:=AA ha;have dj:=AA cZ;have HS:=AA hS;have HT:=AA cR;have bZ:=HX.o.b.b1.c 0 _ rfl;have e11:(a.kind==11)=false:=by simp [hk]
 have e12:(a.kind==12)=false:=by simp [hk]
 have e13:(a.kind==13)=false:=by simp [hk]
 have e16:(a.kind==16)=true:=by simp [hk]
 have e17:(a.kind==17)=false:=by simp [hk]
 have ei1:(i==1)=false:=by simp [hi]
 have ew:¬i.toNat=1:=by omega
 have dd:Hd (Ac (DZ env) a.plain i.toNat (Ak acc)=DZ env):=by show _=_;unfold Ac;simp [show a.plain.kind=a.kind from rfl,hk,ew]
 have aa:Hd (Ad rhos a.plain i.toNat=rhos):=by show _=_;unfold Ad;simp [show a.plain.kind=a.kind from rfl,hk,ew]
 rw [dd.o,aa.o];clear hE hq ha cZ hS cR hk ew;go_enter func98,ntmps98;go_upto_region 13 with fail;generalize (((w.alloc (.cells #[.slice p n c,.slice q m mc] 84)).alloc (AO a)).alloc (.cells #[.slice none 0 0,.slice none 0 0] 84))=W1 at *
 go_wp2_with (first
  |(refine lw HX.o.b.b0 underlying84 ?_)
  |(refine wpList_store_row rfl 84 _ _ rfl (w.heap.size+2) #[.slice p n c,.slice q m mc] rfl rfl 84 _ HX.o.res.choose_spec.2 (by kernel_rfl) (by rw [HX.o.res.choose_spec.1];rfl) (by simp [Value.oneCell']) ?_))
 refine br (HX.o.heap _) underlying84 ?_;refine GV HX.o HS.o (HE.o.row.below HX.o.below) (fun hl ad hp=>?_) (fun z hz=>?_) rfl (HQ.o.below HX.o.below) (fun hl ad hp=>?_) (by omega) (by omega)
 ·have:=Bf HE.o.row.row hl hp;omega
 ·have ho:=(HE.o.each z hz);refine⟨(ho.below HX.o.below).weak (fun x hx=>.inl ⟨AN _ ho.ty x hx,ho.uses x hx⟩),fun a' g e=>?_⟩;have:=(ho.fn a' g e).2.2;omega
 ·have:=Bf HQ.o.row hl hp;omega
theorem QW{w0 w:World}{S:Nat→Prop}{a:AH}{p q r:Option Addr}{n c m mc rn rc:Nat}{env:List BV}{rhos:List Int}{acc:List RV}{i:Int}(hE:Dc w0 w S p n c env)(hq:AE Ab 1 w q m mc rhos)(ha:AH.Own w a)(cZ:AH.Own w0 a)(hS:∀b,w.heap.size≤b→S b)(cR:∀b∈A7 a.ty,S b)(hn:n≤900000)(hm:m≤900000)(dp:a.kind≠11)(eL:a.kind≠12)(cI:a.kind≠13)(gy:a.kind≠16)(bp:a.kind≠17):Calls prog 98 #[.agg #[.slice p n c,.slice q m mc],Aj a,.int .i64 i,.slice r rn rc] w (MG w0 w S n m (Ac (DZ env) a.plain i.toNat (Ak acc)) (Ad rhos a.plain i.toNat)):=by
 have HX:=AA (Fb w a (.slice p n c) (.slice q m mc));have HE:=AA hE;have HQ:=AA hq;have HA:=AA ha;have dj:=AA cZ;have HS:=AA hS;have HT:=AA cR;have bZ:=HX.o.b.b1.c 0 _ rfl;have e11:(a.kind==11)=false:=by simp [dp]
 have e12:(a.kind==12)=false:=by simp [eL]
 have e13:(a.kind==13)=false:=by simp [cI]
 have e16:(a.kind==16)=false:=by simp [gy]
 have e17:(a.kind==17)=false:=by simp [bp]
 have dd:Hd (Ac (DZ env) a.plain i.toNat (Ak acc)=DZ env):=by show _=_;unfold Ac;simp [show a.plain.kind=a.kind from rfl,dp,eL,cI,gy,bp]
 have aa:Hd (Ad rhos a.plain i.toNat=rhos):=by show _=_;unfold Ad;simp [show a.plain.kind=a.kind from rfl,dp,eL,cI,gy,bp]
 rw [dd.o,aa.o];clear hE hq ha cZ hS cR dp eL cI gy bp;go_enter func98,ntmps98;go_upto_region 13 with fail;generalize (((w.alloc (.cells #[.slice p n c,.slice q m mc] 84)).alloc (AO a)).alloc (.cells #[.slice none 0 0,.slice none 0 0] 84))=W1 at *
 go_wp2_with (first
  |(refine lw HX.o.b.b0 underlying84 ?_)
  |(refine wpList_store_row rfl 84 _ _ rfl (w.heap.size+2) #[.slice p n c,.slice q m mc] rfl rfl 84 _ HX.o.res.choose_spec.2 (by kernel_rfl) (by rw [HX.o.res.choose_spec.1];rfl) (by simp [Value.oneCell']) ?_))
 refine br (HX.o.heap _) underlying84 ?_;refine GV HX.o HS.o (HE.o.row.below HX.o.below) (fun hl ad hp=>?_) (fun z hz=>?_) rfl (HQ.o.below HX.o.below) (fun hl ad hp=>?_) (by omega) (by omega)
 ·have:=Bf HE.o.row.row hl hp;omega
 ·have ho:=(HE.o.each z hz);refine⟨(ho.below HX.o.below).weak (fun x hx=>.inl ⟨AN _ ho.ty x hx,ho.uses x hx⟩),fun a' g e=>?_⟩;have:=(ho.fn a' g e).2.2;omega
 ·have:=Bf HQ.o.row hl hp;omega
theorem GH{P:Program}{ops:Array Oper}{o:Oper}{act:Act}{K:Act→World→Prop}{Q:Exit→Act→World→Prop}{E:Prop}(au:o.guard=none)(ty:TypeId)(x y:Operand)(ho:o.op=.store ty x y){w W:World}{a:AH}{u v:Value}(h:Na w a u v W)(cells:Array Value)(hx:act.eval x=.pointer (some ⟨w.heap.size+2,0,none⟩))(hy:act.eval y=.agg cells)(hi:(P.info? ty).map (·.size)=some cells.size)(h5:cells.size=2)(h1:cells.all (·.oneCell')=true)(hK:K (act.put o.dst undef) (W.setRow (w.heap.size+2) cells)):if Region.wanted o (yielded ops act.tmps)=true then Oper.wp P o act W K Q else E:=by obtain⟨cs,e1,e2⟩:=h.res;rw [if_pos (by simp [Region.wanted,au])];exact wp_store_row ty x y ho (w.heap.size+2) cells hx hy 84 cs e2 hi (by omega) h1 hK
theorem Rw{w0 w:World}{S:Nat→Prop}{a:AH}{p q:Option Addr}{n c m mc rc:Nat}{env:List BV}{rhos:List Int}(hE:Dc w0 w S p n c env)(hq:AE Ab 1 w q m mc rhos)(ha:AH.Own w a)(cZ:AH.Own w0 a)(hS:∀b,w.heap.size≤b→S b)(cR:∀b∈A7 a.ty,S b)(hn:n≤900000)(hm:m≤900000){b o:Nat}{x:RV}(cE:Jw w S (some ⟨b,o,none⟩) 1 rc [x])(hk:a.kind=12):Calls prog 98 #[.agg #[.slice p n c,.slice q m mc],Aj a,.int .i64 1,.slice (some ⟨b,o,none⟩) 1 rc] w (MG w0 w S n m (Ac (DZ env) a.plain 1 (Ak [x])) (Ad rhos a.plain 1)):=by
 have HX:=AA (Fb w a (.slice p n c) (.slice q m mc));have HE:=AA hE;have HQ:=AA hq;have HA:=AA ha;have dj:=AA cZ;have HS:=AA hS;have HT:=AA cR;have bZ:=HX.o.b.b1.c 0 _ rfl;have bT:=AA cE;have e11:(a.kind==11)=false:=by simp [hk]
 have e12:(a.kind==12)=true:=by simp [hk]
 have dd:Hd (Ac (DZ env) a.plain 1 (Ak [x])=DZ env++[⟨a.name,x.ty.er,none⟩]):=by show _=_;unfold Ac;simp [show a.plain.kind=12 from hk];try first|rfl|exact⟨rfl,rfl⟩
 have aa:Hd (Ad rhos a.plain 1=rhos):=by show _=_;unfold Ad;simp [show a.plain.kind=12 from hk]
 rw [dd.o,aa.o];clear hE hq ha cZ hS cR hk cE;go_enter func98,ntmps98;go_upto_region 4 with fail;clear bZ;generalize (((w.alloc (.cells #[.slice p n c,.slice q m mc] 84)).alloc (AO a)).alloc (.cells #[.slice none 0 0,.slice none 0 0] 84))=W1 at *
 refine rg (fun W'=>Na w a (.slice p n c) (.slice q m mc) W') (HX.o.drew) fun aA=>?_;refine tm 0 32 [.slice p n c,.slice q m mc] 84 w.heap.size 0 (fun W' aC=>aC.b.r0) underlying84 ?_;refine tp 1 33 ?_;refine tp 2 34 ?_;refine tp 3 35 ?_ (hy:=fun w aC=>by(try dsimp only at aC);have q4:=aC.b.b1.c 4 _ rfl;go_simp;try with_reducible rfl);refine tp 4 36 ?_;refine tp 5 37 ?_;refine tp 6 38 ?_;refine t4 7 39 x.ty b o (fun W' aC=>G7 (bT.o.row.below aC.below)) ?_;refine tp 8 40 ?_;refine tr 9 41 fun K hK=>?_;go_simp;refine tn hK (aA.alloc _) ?_;clear aA hK K;intro aA;refine tr 10 42 fun K hK=>?_;go_simp;have aU:=aA.size;go_at_call 139;refine(DA (HE.o.row.below aA.below) q m mc ((Al Ej (by omega) W1 145 [⟨a.name,x.ty,none⟩] 1 _ rfl rfl (by decide)).below (AC _)) (by omega)).mono ?_;rintro e w5 ⟨p',c',rfl,aD,hb,cX⟩;have bN:=AA aD;have aw:=AA hb
 have ca:Hd (∀ad,p'=some ad→w.heap.size+3≤ad.block):=fun ad hp=>by
  rcases cX with⟨h1,_⟩|h1
  ·cases h1
  ·exact Nat.le_trans aU (h1 ad hp)
 clear aD cX aU;try go_wp2_with fail
 refine tn hK (aA.step hb) ?_;clear aA hK K;intro aA;refine DV 11 fun K hK=>?_;have al:=AA aA;refine GH rfl _ _ _ (by rfl) aA #[.slice p' (n+1) c',.slice q m mc] (by rfl) (by rfl) (by kernel_rfl) rfl (by simp [Value.oneCell']) ?_;refine tn hK (aA.store rfl) ?_;clear aA hK K;intro aA;refine dn ?_;clear aA;go_wp2_with fail;refine br (al.o.heap _) underlying84 ?_;refine GV al.o HS.o bN.o (fun _ ad hp=>?_) (fun z hz=>?_) (by simp [DZ,BV.er]) (HQ.o.below al.o.below) (fun hl ad hp=>?_) (by omega) (by omega)
 ·have:=ca.o ad hp;omega
 ·rcases List.mem_append.1 hz with hz|hz
  ·have ho:=(HE.o.each z hz);refine⟨(ho.below al.o.below).weak (fun x hx=>.inl ⟨AN _ ho.ty x hx,ho.uses x hx⟩),fun a' g e=>?_⟩;have:=(ho.fn a' g e).2.2;omega
  ·rw [List.mem_singleton] at hz;subst hz;have hx:=bT.o.each x (by simp);exact⟨⟨LR.lies_below al.o.below _ hx.ty,fun z hz=>.inl ⟨AN _ hx.ty z hz,hx.uses z hz⟩,fun a' g e=>(nomatch e),HA.o.name⟩,fun a' g e=>(nomatch e)⟩
 ·have:=Bf HQ.o.row hl hp;omega
end Go.Proofs.YtkdjnegfnhldpaaGreatDoor
