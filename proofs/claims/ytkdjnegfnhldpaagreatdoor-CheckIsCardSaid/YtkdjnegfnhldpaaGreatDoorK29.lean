/- Part 29. -/
import Derived.Test.YtkdjnegfnhldpaaGreatDoorK28
set_option linter.unusedVariables false
set_option maxRecDepth 100000
set_option linter.unusedSimpArgs false
set_option maxHeartbeats 40000000
namespace Go.Proofs.YtkdjnegfnhldpaaGreatDoor
open Go.Proofs.Tryz Go.RowKit
theorem L6(w:World)(a:AH):RJ w a (((((w.alloc (AO a)).alloc (.cells #[.int .u8 0,.int .i64 0,.slice none 0 0,.slice none 0 0] 28)).alloc (.cells #[.slice none 0 0] 25)).alloc (.cells #[.int .i64 0] 3)).alloc (.cells #[.int .i64 0] 34)):=by
 have e1:=heap_alloc_new (w.alloc (AO a)) (.cells #[.int .u8 0,.int .i64 0,.slice none 0 0,.slice none 0 0] 28);have e2:=heap_alloc_new ((w.alloc (AO a)).alloc (.cells #[.int .u8 0,.int .i64 0,.slice none 0 0,.slice none 0 0] 28)) (.cells #[.slice none 0 0] 25);have e3:=heap_alloc_new (((w.alloc (AO a)).alloc (.cells #[.int .u8 0,.int .i64 0,.slice none 0 0,.slice none 0 0] 28)).alloc (.cells #[.slice none 0 0] 25)) (.cells #[.int .i64 0] 3);have e4:=heap_alloc_new ((((w.alloc (AO a)).alloc (.cells #[.int .u8 0,.int .i64 0,.slice none 0 0,.slice none 0 0] 28)).alloc (.cells #[.slice none 0 0] 25)).alloc (.cells #[.int .i64 0] 3)) (.cells #[.int .i64 0] 34);simp only [World.size_alloc] at e1 e2 e3 e4;have bz:Below w.heap.size w (w.alloc (AO a)):=bA;have bQ:∀{W:World} (o:Obj),Below W.heap.size W (W.alloc o):=fun o=>(Below.refl _ _).alloc (Nat.le_refl _) o;have dq:Below (w.alloc (AO a)).heap.size (w.alloc (AO a)) (((((w.alloc (AO a)).alloc (.cells #[.int .u8 0,.int .i64 0,.slice none 0 0,.slice none 0 0] 28)).alloc (.cells #[.slice none 0 0] 25)).alloc (.cells #[.int .i64 0] 3)).alloc (.cells #[.int .i64 0] 34)):=(((bQ _).trans ((bQ _).mono (by simp only [World.size_alloc];omega))).trans ((bQ _).mono (by simp only [World.size_alloc];omega))).trans ((bQ _).mono (by simp only [World.size_alloc];omega));refine⟨(Aa w a).below dq,⟨#[.int .u8 0,.int .i64 0,.slice none 0 0,.slice none 0 0],rfl,?_⟩,⟨.slice none 0 0,?_⟩,⟨.int .i64 0,?_⟩,⟨.int .i64 0,e4⟩,bz.trans (dq.mono (by simp only [World.size_alloc];omega)),by simp only [World.size_alloc];omega⟩
 ·rw [Below.heap_alloc _ _ _ (by simp),Below.heap_alloc _ _ _ (by simp),Below.heap_alloc _ _ _ (by simp)];exact e1
 ·rw [Below.heap_alloc _ _ _ (by simp),Below.heap_alloc _ _ _ (by simp)];exact e2
 ·rw [Below.heap_alloc _ _ _ (by simp)];exact e3
theorem J3(w:World)(a:AH):(((((w.alloc (AO a)).alloc (.cells #[.int .u8 0,.int .i64 0,.slice none 0 0,.slice none 0 0] 28)).alloc (.cells #[.slice none 0 0] 25)).alloc (.cells #[.int .i64 0] 3)).alloc (.cells #[.int .i64 0] 34)).heap[w.heap.size+1]?=some (.cells #[.int .u8 0,.int .i64 0,.slice none 0 0,.slice none 0 0] 28 (0,0)):=by have e1:=heap_alloc_new (w.alloc (AO a)) (.cells #[.int .u8 0,.int .i64 0,.slice none 0 0,.slice none 0 0] 28);simp only [World.size_alloc] at e1;rw [Below.heap_alloc _ _ _ (by simp),Below.heap_alloc _ _ _ (by simp),Below.heap_alloc _ _ _ (by simp)];exact e1
structure XL(w W:World):Prop where
 o:W.heap[w.heap.size+1]?=some (.cells #[.int .u8 0,.int .i64 0,.slice none 0 0,.slice none 0 0] 28 (0,0))
 m:W.heap[w.heap.size+1+1]?=some (.cells #[.slice none 0 0] 25 (0,0))
 at_:W.heap[w.heap.size+1+1+1]?=some (.cells #[.int .i64 0] 3 (0,0))
 e:W.heap[w.heap.size+1+1+1+1]?=some (.cells #[.int .i64 0] 34 (0,0))
theorem XL.step{w W W':World}(h:XL w W)(hb:Below W.heap.size W W'):XL w W':=⟨(hb.block _ (AW h.o)).trans h.o,(hb.block _ (AW h.m)).trans h.m,(hb.block _ (AW h.at_)).trans h.at_,(hb.block _ (AW h.e)).trans h.e⟩
theorem SY(w:World)(a:AH):XL w (((((w.alloc (AO a)).alloc (.cells #[.int .u8 0,.int .i64 0,.slice none 0 0,.slice none 0 0] 28)).alloc (.cells #[.slice none 0 0] 25)).alloc (.cells #[.int .i64 0] 3)).alloc (.cells #[.int .i64 0] 34)):=by
 have e1:=heap_alloc_new (w.alloc (AO a)) (.cells #[.int .u8 0,.int .i64 0,.slice none 0 0,.slice none 0 0] 28);have e2:=heap_alloc_new ((w.alloc (AO a)).alloc (.cells #[.int .u8 0,.int .i64 0,.slice none 0 0,.slice none 0 0] 28)) (.cells #[.slice none 0 0] 25);have e3:=heap_alloc_new (((w.alloc (AO a)).alloc (.cells #[.int .u8 0,.int .i64 0,.slice none 0 0,.slice none 0 0] 28)).alloc (.cells #[.slice none 0 0] 25)) (.cells #[.int .i64 0] 3);have e4:=heap_alloc_new ((((w.alloc (AO a)).alloc (.cells #[.int .u8 0,.int .i64 0,.slice none 0 0,.slice none 0 0] 28)).alloc (.cells #[.slice none 0 0] 25)).alloc (.cells #[.int .i64 0] 3)) (.cells #[.int .i64 0] 34);simp only [World.size_alloc] at e1 e2 e3 e4;refine⟨?_,?_,?_,e4⟩
 ·rw [Below.heap_alloc _ _ _ (by simp),Below.heap_alloc _ _ _ (by simp),Below.heap_alloc _ _ _ (by simp)];exact e1
 ·rw [Below.heap_alloc _ _ _ (by simp),Below.heap_alloc _ _ _ (by simp)];exact e2
 ·rw [Below.heap_alloc _ _ _ (by simp)];exact e3
theorem In{W:World}{p:Option Addr}{n c g:Nat}{l:List AD}{cs:Array Value}{t:TypeId}(h:AE AS 3 W p n c l)(hl:l≠[])(hg:W.heap[g]?=some (.cells cs t (0,0)))(ac:∀(i:Nat) (s:ByteArray),cs[i]?≠some (.string s)){ad:Addr}(hp:p=some ad):ad.block≠g:=by
 cases l with
 |nil=>exact absurd rfl hl
 |cons x l=>
  obtain⟨b,o,lE,_,hc⟩:=h.row.elem (j:=0) (x:=x) rfl;rw [lE] at hp;cases hp;intro e;have e':b=g:=e;subst e';have h2:=hc 2 (.string x.exn) rfl;rw [Lib.cell_of_heap hg] at h2;exact ac _ _ h2
theorem Vn{N B E:Nat}{w W:World}(hz:XL w W)(hB:w.heap.size+5≤B)(y:PT):LR.lies W y→Dt N B E y→∀b∈A7 y,b≠w.heap.size+1∧b≠w.heap.size+1+1∧b≠w.heap.size+1+1+1∧b≠w.heap.size+1+1+1+1:=by
 refine AG.ind (P:=fun(y:PT)=>LR.lies W y→Dt N B E y→∀b∈A7 y,b≠w.heap.size+1∧b≠w.heap.size+1+1∧b≠w.heap.size+1+1+1∧b≠w.heap.size+1+1+1+1) (fun a l ih hl hs b hb=>?_) y;have hn:=BD hl;have h0:=hs a (by rw [AG.nodes_node];simp)
 have n4:∀(i:Nat) (s:ByteArray),(#[.int .u8 0,.int .i64 0,.slice none 0 0,.slice none 0 0]:Array Value)[i]?≠some (.string s):=fun i s=>by
  match i with
  |0=>simp
  |1=>simp
  |2=>simp
  |3=>simp
  |i+4=>simp
 have n1:∀(v:Value),(∀s,v≠.string s)→∀(i:Nat) (s:ByteArray),(#[v]:Array Value)[i]?≠some (.string s):=fun v hv i s=>by
  match i with
  |0=>simpa using hv s
  |i+1=>simp
 rcases FJ hb with⟨_,ad,hp,rfl⟩|⟨he,ad,hp,rfl⟩|⟨u,hu,hb⟩
 ·have:=(h0.1 ad hp).1;omega
 ·exact⟨In hn.own.eff he hz.o n4 hp,In hn.own.eff he hz.m (n1 _ (fun s e=>(nomatch e))) hp,In hn.own.eff he hz.at_ (n1 _ (fun s e=>(nomatch e))) hp,In hn.own.eff he hz.e (n1 _ (fun s e=>(nomatch e))) hp⟩
 ·exact ih u hu (hn.each u hu) (fun x hx=>hs x (by rw [AG.nodes_node,List.mem_cons,List.mem_flatten];exact .inr ⟨u.nodes,List.mem_map_of_mem hu,hx⟩)) b hb
def Hu(r:E7)(e:Ending)(w':World):Prop:=
 match r with
 |.ok x=>∃(y:PT) (q:Option Addr) (m qc:Nat),e=.returned (.tuple #[Ci y.head,.slice q m qc,.int .i64 0,.int .i64 0])∧LR.lies w' y∧PT.er y=x.1∧AE AS 3 w' q m qc x.2
 |.error (z,no)=>e=.returned (.tuple #[.agg #[.int .u8 0,.int .i64 0,.slice none 0 0,.slice none 0 0],.slice none 0 0,.int .i64 z,.int .i64 no])
theorem XY.res{w W:World}{a:AH}{cs:Array Value}{v2 v3 v4:Value}(h:XY w a cs v2 v3 v4 W)(h4:cs.size=4):(∀i v,cs[i]?=some v→W.cell? ⟨w.heap.size+1,i,none⟩=some v)∧W.cell? ⟨w.heap.size+1+1,0,none⟩=some v2∧W.cell? ⟨w.heap.size+1+1+1,0,none⟩=some v3∧W.cell? ⟨w.heap.size+1+1+1+1,0,none⟩=some v4:=⟨fun i v hv=>by rw [Lib.cell_of_heap h.o];exact hv,(Fv h.m).1,(Fv h.at_).1,(Fv h.e).1⟩
theorem TF{w:World}{a:AH}{l:List PA}(hl:LA.lies w (.node a l))(hs:BR (.node a l))(hz:(AG.node a l).size≤1000)(hv:Vr w)(hm:Gx (.node a l)=false):Calls prog 12 #[Aj a] w fun e w'=>Hu (.error (0,1)) e w'∧Below w.heap.size w w':=by
 have HX:=AA (L6 w a);have HO:=AA (J3 w a);have HL:=AA hl;have HS:=AA hs;have HV:=AA hv;have HZ:=AA hz;have pM:∀(fn:Fn) (first cap:Array Value) (w:World),(Instr.makeFunc fn first cap).run prog w=.ok (.func fn first cap) w:=fun _ _ _ _=>rfl;clear hl hs hv hz;have HM:=AA hm;clear hm;go_enter_defers func12,ntmps12;go_upto_region 1 with fail;generalize (((((w.alloc (AO a)).alloc (.cells #[.int .u8 0,.int .i64 0,.slice none 0 0,.slice none 0 0] 28)).alloc (.cells #[.slice none 0 0] 25)).alloc (.cells #[.int .i64 0] 3)).alloc (.cells #[.int .i64 0] 34))=W1 at *
 go_upto_region 2 with(first
  |(refine lw HX.o.box.blk underlying31 ?_)
  |(go_at_call 35;refine(Ey (AG.node a l) (LA.lies_below HX.o.below _ HL.o) HS.o HZ.o (HV.o.below HX.o.below)).mono ?_;rw [HM.o];rintro e w2 ⟨rfl,hb⟩;have ah:=AA (HX.o.step hb);have az:=AA ((hb.block _ (AW HO.o)).trans HO.o);clear hb))
 have hA:=ah.o.w1 (cs:=#[.int .u8 0,.int .i64 0,.slice none 0 0,.slice none 0 0]) rfl;obtain⟨v2,h2⟩:=hA.m;obtain⟨q2,f2⟩:=Fv h2;have hB:=hA.wset (b:=w.heap.size+1+1) (.inl rfl) (.slice none 0 0);obtain⟨v3,h3⟩:=hB.at_;obtain⟨q3,f3⟩:=Fv h3;have hC:=hB.wset (b:=w.heap.size+1+1+1) (.inr (.inl rfl)) (.int .i64 0);obtain⟨v4,h4⟩:=hC.e;obtain⟨q4,f4⟩:=Fv h4;have HR:=AA (ah.o.fill (cs:=#[.int .u8 0,.int .i64 0,.slice none 0 0,.slice none 0 0]) rfl (.slice none 0 0) (.int .i64 0) (.int .i64 1));clear hA h2 hB h3 hC h4
 go_wp2_with (first
  |(refine lw az.o underlying28 ?_)
  |(refine sw #[.int .u8 0,.int .i64 0,.slice none 0 0,.slice none 0 0] az.o ?_))
 obtain⟨r1,r2,r3,r4⟩:=HR.o.res rfl;have r10:=r1 0 _ rfl;have r11:=r1 1 _ rfl;have r12:=r1 2 _ rfl;have r13:=r1 3 _ rfl;clear r1 q2 q3 q4 f2 f3 f4;have HB:=AA HR.o.below;unfold bodyPostD;simp [Leaves,settle,results,results12,go_sem,r10,r11,r12,r13,r2,r3,r4];exact⟨rfl,HB.o⟩
theorem QD{w:World}{a:AH}{l:List PA}(hl:LA.lies w (.node a l))(hs:BR (.node a l))(hz:(AG.node a l).size≤1000)(hv:Vr w)(hm:Gx (.node a l)=true){z:Int}(eM:Dv (PA.er (.node a l))=some z):Calls prog 12 #[Aj a] w fun e w'=>Hu (.error (z,6)) e w'∧Below w.heap.size w w':=by
 have HX:=AA (L6 w a);have HO:=AA (J3 w a);have HL:=AA hl;have HS:=AA hs;have HV:=AA hv;have HZ:=AA hz;have pM:∀(fn:Fn) (first cap:Array Value) (w:World),(Instr.makeFunc fn first cap).run prog w=.ok (.func fn first cap) w:=fun _ _ _ _=>rfl;clear hl hs hv hz;have HM:=AA hm;have fk:=AA eM;clear hm eM;go_enter_defers func12,ntmps12;go_upto_region 1 with fail;generalize (((((w.alloc (AO a)).alloc (.cells #[.int .u8 0,.int .i64 0,.slice none 0 0,.slice none 0 0] 28)).alloc (.cells #[.slice none 0 0] 25)).alloc (.cells #[.int .i64 0] 3)).alloc (.cells #[.int .i64 0] 34))=W1 at *
 go_upto_region 5 with(first
  |(refine lw HX.o.box.blk underlying31 ?_)
  |(refine lw ah.o.box.blk underlying31 ?_)
  |(go_at_call 35;refine(Ey (AG.node a l) (LA.lies_below HX.o.below _ HL.o) HS.o HZ.o (HV.o.below HX.o.below)).mono ?_;rw [HM.o];rintro e w2 ⟨rfl,hb⟩;have ah:=AA (HX.o.step hb);have az:=AA ((hb.block _ (AW HO.o)).trans HO.o);clear hb)
  |(go_at_call 36;refine(FL (t:=AG.node a l) (LA.lies_below ah.o.below _ HL.o) HS.o HZ.o).mono ?_;rw [fk.o];rintro e w3 ⟨he,hb⟩;obtain rfl:=he;have aR:=AA (ah.o.step hb);have gt:=AA ((hb.block _ (AW az.o)).trans az.o);clear hb))
 have hA:=aR.o.w1 (cs:=#[.int .u8 0,.int .i64 0,.slice none 0 0,.slice none 0 0]) rfl;obtain⟨v2,h2⟩:=hA.m;obtain⟨q2,f2⟩:=Fv h2;have hB:=hA.wset (b:=w.heap.size+1+1) (.inl rfl) (.slice none 0 0);obtain⟨v3,h3⟩:=hB.at_;obtain⟨q3,f3⟩:=Fv h3;have hC:=hB.wset (b:=w.heap.size+1+1+1) (.inr (.inl rfl)) (.int .i64 z);obtain⟨v4,h4⟩:=hC.e;obtain⟨q4,f4⟩:=Fv h4;have HR:=AA (aR.o.fill (cs:=#[.int .u8 0,.int .i64 0,.slice none 0 0,.slice none 0 0]) rfl (.slice none 0 0) (.int .i64 z) (.int .i64 6));clear hA h2 hB h3 hC h4
 go_wp2_with (first
  |(refine lw gt.o underlying28 ?_)
  |(refine sw #[.int .u8 0,.int .i64 0,.slice none 0 0,.slice none 0 0] gt.o ?_))
 obtain⟨r1,r2,r3,r4⟩:=HR.o.res rfl;have r10:=r1 0 _ rfl;have r11:=r1 1 _ rfl;have r12:=r1 2 _ rfl;have r13:=r1 3 _ rfl;clear r1 q2 q3 q4 f2 f3 f4;have HB:=AA HR.o.below;unfold bodyPostD;simp [Leaves,settle,results,results12,go_sem,r10,r11,r12,r13,r2,r3,r4];exact⟨rfl,HB.o⟩
structure UF(w:World)(a:AH)(g:Nat)(y:RV)(W:World):Prop where
 ch:RJ w a W
 t:W.heap[g]?=some (.cells (Cc y) 81 (0,0))
 g5:w.heap.size+5≤g
theorem UF.step{w W W':World}{a:AH}{g:Nat}{y:RV}(h:UF w a g y W)(hb:Below W.heap.size W W'):UF w a g y W':=⟨h.ch.step hb,(hb.block _ (AW h.t)).trans h.t,h.g5⟩
theorem UF.w1{w W:World}{a:AH}{g:Nat}{y:RV}(h:UF w a g y W){cs:Array Value}(hc:cs.size=4):UF w a g y (W.setRow (w.heap.size+1) cs):=⟨h.ch.w1 hc,(setRow_other _ _ _ _ (by have:=h.g5;omega)).trans h.t,h.g5⟩
theorem UF.set{w W:World}{a:AH}{g:Nat}{y:RV}(h:UF w a g y W){b:Nat}(hb:b=w.heap.size+1+1∨b=w.heap.size+1+1+1∨b=w.heap.size+1+1+1+1)(v:Value):UF w a g y (W.setCell ⟨b,0,none⟩ v):=⟨h.ch.wset hb v,((AL W b 0 v).block _ (AW h.t) (fun e=>by have:=h.g5;injection e with e;omega)).trans h.t,h.g5⟩
theorem TG{w:World}{a:AH}{l:List PA}(hl:LA.lies w (.node a l))(hs:BR (.node a l))(hz:(AG.node a l).size≤1000)(hv:Vr w)(hm:Gx (.node a l)=true)(eM:Dv (PA.er (.node a l))=none){z no:Int}(hr:chk [] [0] (PA.er (.node a l))=.error (z,no)):Calls prog 12 #[Aj a] w fun e w'=>Hu (.error (z,no)) e w'∧Below w.heap.size w w':=by
 have HX:=AA (L6 w a);have HO:=AA (J3 w a);have HL:=AA hl;have HS:=AA hs;have HV:=AA hv;have HZ:=AA hz;have pM:∀(fn:Fn) (first cap:Array Value) (w:World),(Instr.makeFunc fn first cap).run prog w=.ok (.func fn first cap) w:=fun _ _ _ _=>rfl;clear hl hs hv hz;have iS:=AA (SY w a);have HM:=AA hm;have fk:=AA eM;have HG:=AA (GN _ HL.o HS.o hm);have HR:=AA hr;clear hm eM hr;go_enter_defers func12,ntmps12;go_upto_region 1 with fail;generalize (((((w.alloc (AO a)).alloc (.cells #[.int .u8 0,.int .i64 0,.slice none 0 0,.slice none 0 0] 28)).alloc (.cells #[.slice none 0 0] 25)).alloc (.cells #[.int .i64 0] 3)).alloc (.cells #[.int .i64 0] 34))=W1 at *
 go_upto_region 7 with(first
  |(refine lw HX.o.box.blk underlying31 ?_)
  |(refine lw ah.o.box.blk underlying31 ?_)
  |(go_at_call 35;refine(Ey (AG.node a l) (LA.lies_below HX.o.below _ HL.o) HS.o HZ.o (HV.o.below HX.o.below)).mono ?_;rw [HM.o];rintro e w2 ⟨rfl,hb⟩;have ah:=AA (HX.o.step hb);have ge:=AA (iS.o.step hb);have az:=AA ((hb.block _ (AW HO.o)).trans HO.o);clear hb)
  |(go_at_call 36;refine(FL (t:=AG.node a l) (LA.lies_below ah.o.below _ HL.o) HS.o HZ.o).mono ?_;rw [fk.o];rintro e w3 ⟨he,hb⟩;obtain rfl:=he;have aR:=AA (ah.o.step hb);have qA:=AA (ge.o.step hb);have gt:=AA ((hb.block _ (AW az.o)).trans az.o);clear hb))
 have nR:Hd (ES w (w3.alloc (.cells #[.int .i64 0] 3)) (fun b=>b<w.heap.size∨w.heap.size+5≤b) (.node a l) none (some ⟨w3.heap.size,0,none⟩) 0 0 1 1 [] [0]):=by have hb:=aR.o.below.alloc aR.o.below.size (.cells #[.int .i64 0] 3);have aU:=aR.o.size;have hz:=HZ.o;exact⟨hb,HL.o,HS.o,HG.o,⟨AE.none _ _ _,fun b hb=>by cases hb⟩,Al Ag (by omega) w3 3 [0] 1 _ rfl rfl (by decide),LK,fun b hb=>.inl hb,fun b hb=>.inr (by simp only [World.size_alloc] at hb;omega),by omega,by omega,by omega⟩
 have kZ:=AA (aR.o.step ((Below.refl _ _).alloc (Nat.le_refl _) (.cells #[.int .i64 0] 3)));have ff:=AA (Mr (w0:=w) (.node a l) _ _ _ _ _ _ _ _ _ _ nR.o)
 go_wp2_with (first
  |(refine lw kZ.o.box.blk underlying31 ?_))
 go_at_call 38;refine ff.o.mono ?_;rw [show DZ []=[] from rfl,HR.o];rintro e w4 ⟨he,hb⟩;subst he;have dK:=AA ((aR.o.step ((Below.refl _ _).alloc (Nat.le_refl _) (.cells #[.int .i64 0] 3))).step hb);show bodyPostD prog f12 _ (Exit.panic _) _ _;unfold bodyPostD;refine leaves_cons (f:=37) (args:=#[.pointer (some ⟨w.heap.size+1,0,none⟩),.pointer (some ⟨w.heap.size+1+1,0,none⟩),.pointer (some ⟨w.heap.size+1+1+1,0,none⟩),.pointer (some ⟨w.heap.size+1+1+1+1,0,none⟩)]) (by simp) (by simp [go_sem]) ?_;refine(Ow [] dK.o).mono ?_;rintro e u' w5 ⟨rfl,rfl,hR⟩;obtain⟨r1,r2,r3,r4⟩:=hR.res rfl;have r10:=r1 0 _ rfl;have r11:=r1 1 _ rfl;have r12:=r1 2 _ rfl;have r13:=r1 3 _ rfl;clear r1;have HB:=AA hR.below;simp [Leaves,settle,results,results12,go_sem,r10,r11,r12,r13,r2,r3,r4];exact⟨rfl,HB.o⟩
theorem UW{w:World}{a:AH}{l:List PA}(hl:LA.lies w (.node a l))(hs:BR (.node a l))(hz:(AG.node a l).size≤1000)(hv:Vr w)(hm:Gx (.node a l)=true)(eM:Dv (PA.er (.node a l))=none){x:TE}(hr:chk [] [0] (PA.er (.node a l))=.ok x):Calls prog 12 #[Aj a] w fun e w'=>Hu (.ok x) e w'∧Below w.heap.size w w':=by
 have HX:=AA (L6 w a);have HO:=AA (J3 w a);have HL:=AA hl;have HS:=AA hs;have HV:=AA hv;have HZ:=AA hz;have pM:∀(fn:Fn) (first cap:Array Value) (w:World),(Instr.makeFunc fn first cap).run prog w=.ok (.func fn first cap) w:=fun _ _ _ _=>rfl;clear hl hs hv hz;have iS:=AA (SY w a);have HM:=AA hm;have fk:=AA eM;have HG:=AA (GN _ HL.o HS.o hm);have HR:=AA hr;clear hm eM hr;have qY:=J0 _ _ _ _ HG.o (fun b hb=>by cases hb) HR.o;have kA:=J2 _ HR.o;have pi:=AA qY;clear qY;go_enter_defers func12,ntmps12;go_upto_region 1 with fail;generalize (((((w.alloc (AO a)).alloc (.cells #[.int .u8 0,.int .i64 0,.slice none 0 0,.slice none 0 0] 28)).alloc (.cells #[.slice none 0 0] 25)).alloc (.cells #[.int .i64 0] 3)).alloc (.cells #[.int .i64 0] 34))=W1 at *
 go_upto_region 7 with(first
  |(refine lw HX.o.box.blk underlying31 ?_)
  |(refine lw ah.o.box.blk underlying31 ?_)
  |(go_at_call 35;refine(Ey (AG.node a l) (LA.lies_below HX.o.below _ HL.o) HS.o HZ.o (HV.o.below HX.o.below)).mono ?_;rw [HM.o];rintro e w2 ⟨rfl,hb⟩;have ah:=AA (HX.o.step hb);have ge:=AA (iS.o.step hb);have az:=AA ((hb.block _ (AW HO.o)).trans HO.o);clear hb)
  |(go_at_call 36;refine(FL (t:=AG.node a l) (LA.lies_below ah.o.below _ HL.o) HS.o HZ.o).mono ?_;rw [fk.o];rintro e w3 ⟨he,hb⟩;obtain rfl:=he;have aR:=AA (ah.o.step hb);have qA:=AA (ge.o.step hb);have gt:=AA ((hb.block _ (AW az.o)).trans az.o);clear hb))
 have nR:Hd (ES w (w3.alloc (.cells #[.int .i64 0] 3)) (fun b=>b<w.heap.size∨w.heap.size+5≤b) (.node a l) none (some ⟨w3.heap.size,0,none⟩) 0 0 1 1 [] [0]):=by have hb:=aR.o.below.alloc aR.o.below.size (.cells #[.int .i64 0] 3);have aU:=aR.o.size;have hz:=HZ.o;exact⟨hb,HL.o,HS.o,HG.o,⟨AE.none _ _ _,fun b hb=>by cases hb⟩,Al Ag (by omega) w3 3 [0] 1 _ rfl rfl (by decide),LK,fun b hb=>.inl hb,fun b hb=>.inr (by simp only [World.size_alloc] at hb;omega),by omega,by omega,by omega⟩
 have kZ:=AA (aR.o.step ((Below.refl _ _).alloc (Nat.le_refl _) (.cells #[.int .i64 0] 3)));have ff:=AA (Mr (w0:=w) (.node a l) _ _ _ _ _ _ _ _ _ _ nR.o)
 go_wp2_with (first
  |(refine lw kZ.o.box.blk underlying31 ?_)
  |(go_at_call 38;refine ff.o.mono ?_;rw [show DZ []=[] from rfl,HR.o];rintro e W9 ⟨he,hb⟩;obtain⟨y,rfl,cM,hy⟩:=he;have al:=AA ((aR.o.step ((Below.refl _ _).alloc (Nat.le_refl _) (.cells #[.int .i64 0] 3))).step hb);have qB:=AA ((qA.o.step ((Below.refl _ _).alloc (Nat.le_refl _) (.cells #[.int .i64 0] 3))).step hb);have HY:=AA hy;have dm:=AA cM;have cF:=AA (heap_alloc_new W9 (.cells #[.int .u8 0,.int .i64 0,.slice none 0 0,.slice none 0 0,.slice none 0 0] 81));clear hy cM hb)
  |(refine sw (Cc y) cF.o ?_;rw [World.setRow_alloc_new]))
 have eN:Below W9.heap.size W9 (W9.alloc (.cells (Cc y) 81)):=bA;have HT:Hd (UF w a W9.heap.size y (W9.alloc (.cells (Cc y) 81))):=⟨al.o.step eN,heap_alloc_new W9 _,al.o.size⟩;have oq:=AA (qB.o.step eN);have kf:=AA (HY.o.below eN);obtain⟨g,hg⟩:∃g,W9.heap.size=g:=⟨_,rfl⟩;rw [hg] at HT ⊢;generalize (W9.alloc (.cells (Cc y) 81))=W6 at *
 clear hg eN cF HY al qB ff nR;have nw:PT.er y.ty=x.1:=by rw [←dm.o];rfl
 have sG:=AA nw;have fF:Hd (∀W',Below W6.heap.size W6 W'→Hy W6.heap.size none 0 0 [] none 0 0 [] y.ty W'):=fun W' hb=>Jm ⟨AE.none _ _ _,AE.none _ _ _,by decide,by decide,fun z hz=>(nomatch hz)⟩ y.ty kf.o.ty (by rw [nw];exact pi.o.effs) (by have h1:=kA;rw [←nw,EW] at h1;omega) W' hb;clear nw kA;go_upto_region 8 with fail;refine wp_region_noPanic ?_;refine rg (fun W'=>UF w a g y W') (HT.o.step (AC W6)) fun aA=>?_;refine tp 0 27 ?_;refine t4 1 28 y.ty g 0 (fun W' aC=>G2 aC.t _ (by intro i v hv;match i,hv with|0,hv=>exact hv|1,hv=>exact hv|2,hv=>exact hv|3,hv=>exact hv)) ?_;refine tp 3 30 ?_;refine tp 4 31 ?_ (hy:=fun w aC=>by(try dsimp only at aC);have q4:w.cell? ⟨g,4,none⟩=some (.slice y.ep y.en y.ec):=(by rw [Lib.cell_of_heap aC.t];rfl);go_simp;try with_reducible rfl);refine tr 2 29 fun K hK=>?_;go_simp;have ir:=aA.ch.size;go_at_call 39;refine(fF.o _ (AC W6)).mono ?_;rintro e w5 ⟨⟨y2,rfl,jw,fa,nh⟩,hb⟩;have lP:Hd (∀b∈A7 y2,b≠w.heap.size+1∧b≠w.heap.size+1+1∧b≠w.heap.size+1+1+1∧b≠w.heap.size+1+1+1+1):=Vn (oq.o.step (AK (AC W6) hb)) ir y2 jw fa;have kO:=AA jw;have oI:=AA nh;have aw:=AA (AK (AC W6) hb);have ck:=AA (aA.ch.step hb);clear jw fa nh ir;try go_wp2_with fail
 refine tn hK (aA.step hb) ?_;clear aA hK K;intro aA;refine DV 5 fun K hK=>?_;refine KX (by rfl) _ _ _ (by rfl) aA.ch.o #[.int .u8 y2.head.kind,.int .i64 y2.head.rho,.slice y2.head.ep y2.head.en y2.head.ec,.slice y2.head.kp y2.head.kn y2.head.kc] (by rfl) (by rfl) rfl (by simp [Value.oneCell']) (by kernel_rfl) ?_;refine tn hK (aA.w1 rfl) ?_;clear aA hK K;intro aA;refine DV 6 fun K hK=>?_;obtain⟨v2,iu⟩:=aA.ch.m;obtain⟨q2,f2⟩:=Fv iu;clear iu;go_simp;clear q2 f2;refine tn hK (aA.set (.inl rfl) _) ?_;clear aA hK K;intro aA;refine DV 7 fun K hK=>?_;obtain⟨v3,nH⟩:=aA.ch.at_;obtain⟨q3,f3⟩:=Fv nH;clear nH;go_simp;clear q3 f3;refine tn hK (aA.set (.inr (.inl rfl)) _) ?_;clear aA hK K;intro aA;refine DV 8 fun K hK=>?_;obtain⟨v4,nI⟩:=aA.ch.e;obtain⟨q4,f4⟩:=Fv nI;clear nI;go_simp;clear q4 f4;refine tn hK (aA.set (.inr (.inr rfl)) _) ?_;clear aA hK K;intro aA;refine dn ?_;refine NoPanic.normal ?_;clear aA;go_wp2_with fail;have aa:=AA (ck.o.fill (cs:=#[.int .u8 y2.head.kind,.int .i64 y2.head.rho,.slice y2.head.ep y2.head.en y2.head.ec,.slice y2.head.kp y2.head.kn y2.head.kc]) rfl (.slice y.ep y.en y.ec) (.int .i64 0) (.int .i64 0));show bodyPostD prog f12 _ _ _ _;unfold bodyPostD;refine leaves_cons (f:=37) (args:=#[.pointer (some ⟨w.heap.size+1,0,none⟩),.pointer (some ⟨w.heap.size+1+1,0,none⟩),.pointer (some ⟨w.heap.size+1+1+1,0,none⟩),.pointer (some ⟨w.heap.size+1+1+1+1,0,none⟩)]) (by simp) (by simp [go_sem]) ?_;refine(QC _ ⟨_,_,_,_,rfl⟩ _).mono ?_;rintro e u' w6 ⟨rfl,rfl,rfl⟩;obtain⟨r1,r2,r3,r4⟩:=aa.o.res rfl;have r10:=r1 0 _ rfl;have r11:=r1 1 _ rfl;have r12:=r1 2 _ rfl;have r13:=r1 3 _ rfl;clear r1;have jx:=Cg (AL _ (w.heap.size+1+1+1+1) 0 (.int .i64 0)) y2 (fun b hb e=>by cases e;exact(lP.o _ hb).2.2.2 rfl) (Cg (AL _ (w.heap.size+1+1+1) 0 (.int .i64 0)) y2 (fun b hb e=>by cases e;exact(lP.o _ hb).2.2.1 rfl) (Cg (AL _ (w.heap.size+1+1) 0 (.slice y.ep y.en y.ec)) y2 (fun b hb e=>by cases e;exact(lP.o _ hb).2.1 rfl) (Cg (BB (W:=w5) (r:=w.heap.size+1) (cs:=#[.int .u8 y2.head.kind,.int .i64 y2.head.rho,.slice y2.head.ep y2.head.en y2.head.ec,.slice y2.head.kp y2.head.kn y2.head.kc])) y2 (fun b hb e=>by cases e;exact(lP.o _ hb).1 rfl) kO.o)));have aD:∀{W W':World} {r:Nat},(r=w.heap.size+1∨r=w.heap.size+1+1∨r=w.heap.size+1+1+1∨r=w.heap.size+1+1+1+1)→W.grownBy W' (some r)→AE AS 3 W y.ep y.en y.ec y.eff→AE AS 3 W' y.ep y.en y.ec y.eff:=fun hr hg h=>Fg h hg (fun aS ad hp=>by have h6:=kf.o.euse aS ad hp;have h7:ad.block<w.heap.size∨w.heap.size+5≤ad.block:=h6;omega);have dP:=aD (.inr (.inr (.inr rfl))) (AL _ _ 0 (.int .i64 0)) (aD (.inr (.inr (.inl rfl))) (AL _ _ 0 (.int .i64 0)) (aD (.inr (.inl rfl)) (AL _ _ 0 (.slice y.ep y.en y.ec)) (aD (.inl rfl) (BB (W:=w5) (cs:=#[.int .u8 y2.head.kind,.int .i64 y2.head.rho,.slice y2.head.ep y2.head.en y2.head.ec,.slice y2.head.kp y2.head.kn y2.head.kc])) (kf.o.eff.below aw.o))));have HB:=AA aa.o.below;have rY:=AA jx;have nW:=AA dP;clear jx aD dP;simp [Leaves,settle,results,results12,go_sem,r10,r11,r12,r13,r2,r3,r4];refine⟨⟨y2,_,_,_,rfl,rY.o,?_,?_⟩,HB.o⟩
 ·rw [oI.o,sG.o];exact T8 _ pi.o.may
 ·have h1:y.eff=x.2:=by rw [←dm.o];rfl
  rw [←h1];exact nW.o
def DF(t:PA):E7:=if Gx t then IE (PA.er t) else .error (0,1)
theorem D8{w:World}{t:PA}(hl:LA.lies w t)(hs:BR t)(hz:t.size≤1000)(hv:Vr w):Calls prog 12 #[Aj t.head] w fun e w'=>Hu (DF t) e w'∧Below w.heap.size w w':=by
 obtain⟨a,l,rfl⟩:∃a l,t=AG.node a l:=⟨t.head,t.kids,AG.eta t⟩;unfold DF IE;cases hm:Gx (AG.node a l) with
 |false=>rw [if_neg Bool.false_ne_true];exact TF hl hs hz hv hm
 |true=>
  rw [if_pos rfl];cases eM:Dv (PA.er (AG.node a l)) with
  |some z=>exact QD hl hs hz hv hm eM
  |none=>
   dsimp only;cases hr:chk [] [0] (PA.er (AG.node a l)) with
   |error e=>obtain⟨z,no⟩:=e;exact TG hl hs hz hv hm eM hr
   |ok x=>exact UW hl hs hz hv hm eM hr
theorem Np(t:PA){w:World}(hl:LA.lies w t)(hz:t.size≤1000):Calls prog 53 #[Aj t.head] w (RB w (.bool (Gx t))):=by
 have HB:=AA ((Below.refl w.heap.size w).alloc (Nat.le_refl _) (AO t.head));have aE:=AA (Aa w t.head);have iE:=AA (Kd t _ (LA.lies_below HB.o t hl) hz)
 have dc:=AA (fun(W:World) (hb:Below w.heap.size w W) (a:AH) (ha:a∈AG.nodes t)=>(show AH.Own W a∧a.kn≤1000000 by
  obtain⟨h1,h2⟩:=OS t hl a ha;exact⟨LA.below h1 hb,by omega⟩))
 have aG:=DH t;have et:=AA aG;have ni:decide ((t.size:Int) > 40000)=false:=by simp;omega
 clear hl aG;go_enter func53,ntmps53
 go_upto_region 4 with(first
  |(refine lw aE.o.blk underlying31 ?_)
  |(go_at_call 26;refine iE.o.mono ?_;rintro e w2 ⟨⟨p,c,rfl,aB⟩,hb⟩;obtain⟨p',c',pX,aD⟩:=aB.isRow Fl (by omega);have aL:=AA aD;have aK:=bt HB hb;cases pX;clear hb aD aB))
 go_wp2_with fail;go_loopw [4,12] (fun _ i wr=>∃k:Nat,k≤t.size∧i=.int .i64 k∧((AG.nodes t).take k).all C7=true∧Below w2.heap.size w2 wr) (fun _ i _=>t.size-(intOf i).toNat)
 case atStart=>exact⟨0,by omega,rfl,by simp,Below.refl _ _⟩
 case round=>
  obtain⟨k,hk,rfl,bR,hb⟩:=hrel;have cF:=AA bR;have jG:=AA hb;have ay:=bt aK hb;clear bR hb;by_cases aF:k<t.size
  ·obtain⟨a,hx⟩:=AM (l:=AG.nodes t) (j:=k) (by rw [et.o];exact aF);obtain⟨b,o,bF,aP,am⟩:=(aL.o.below jG.o).row.elem hx;have dC:=AA am;subst bF;obtain⟨aB,ao⟩:=dc.o wr ay.o a (List.mem_of_getElem? hx);have HC:=AA (M3 a wr aB (by omega));have py:Hd (((AG.nodes t).take (k+1)).all C7=C7 a):=by show _=_;rw [AI hx,List.all_append,cF.o];simp
   have an:Hd (C7 a=false→Gx t=false):=fun h=>by have h2:=List.mem_of_getElem? hx;unfold Gx;rw [List.all_eq_false];exact⟨a,h2,by rw [h];exact Bool.false_ne_true⟩
   clear hx aP am aB ao;cases hq:C7 a with
   |false=>
    have HQ:=AA hq;rw [hq] at HC;clear hq
    go_wp2_with (first
     |(refine lm (Bn a) dC.o underlying31 ?_)
     |(go_at_call 82;refine HC.o.mono ?_;rintro e w3 ⟨rfl,hb⟩;have aV:=bt ay hb;clear hb))
    go_ret;exact⟨AB (an.o HQ.o).symm,aV.o⟩
   |true=>
    rw [hq] at HC py;clear hq
    go_wp2_with (first
     |(refine lm (Bn a) dC.o underlying31 ?_)
     |(go_at_call 82;refine HC.o.mono ?_;rintro e w3 ⟨rfl,hb⟩;have aV:=bt jG hb;clear hb))
    go_roundw
    case rel=>exact⟨k+1,by omega,by go_num,py.o,aV.o⟩
    case measure=>simp [intOf];omega
  ·have ao:k=t.size:=by omega
   have cA:(AG.nodes t).take k=AG.nodes t:=AP (by rw [et.o,ao];exact Nat.le_refl _);rw [cA] at cF;go_wp2_with fail;go_ret;exact⟨AB cF.o.symm,ay.o⟩
def Xo:RH:=⟨0,0,none,0,0,[],none,0,0⟩
def Vq:PT:=.node Xo []
theorem RF(W:World):LR.lies W Vq:=BK.lies ⟨⟨AE.none _ _ _,(by intro x hx;cases hx),by decide,by decide,by decide,by decide,by decide,by decide,fun _=>rfl⟩,AE.none _ _ _,(by intro x hx;cases hx)⟩
abbrev V8(kind n rho:Int)(kp:Option Addr)(kn kc:Nat):AH:=⟨kind,0,0,n,⟨#[]⟩,⟨#[]⟩,⟨#[]⟩,rho,none,0,0,[],none,0,0,[],Vq,Vq,kp,kn,kc⟩
theorem V9(W:World){kind n rho:Int}{kp:Option Addr}{kn kc:Nat}(h0:0≤kind)(h1:kind≤255)(hn:O4 n)(hr:O4 rho)(hk:kn≤9223372036854775807)(hc:kn≤kc)(hp:kp=none→kc=0):AH.Own W (V8 kind n rho kp kn kc):=⟨h0,h1,(show (0:Int)≤0 by omega),(show (0:Int)≤255 by omega),⟨(show (-9223372036854775808:Int)≤0 by omega),(show (0:Int)≤9223372036854775807 by omega)⟩,hn,(show 0≤9223372036854775807 by omega),(show 0≤9223372036854775807 by omega),(show 0≤9223372036854775807 by omega),hr,AE.none _ _ _,(by intro x hx;cases hx),AE.none _ _ _,(by intro x hx;cases hx),RF W,RF W,hk,hc,hp⟩
theorem KD{W:World}{kind n rho:Int}{kp:Option Addr}{kn kc:Nat}{l:List PA}(h0:0≤kind)(h1:kind≤255)(hn:O4 n)(hr:O4 rho)(hR:Ds W kp kn kc l):LA.lies W (.node (V8 kind n rho kp kn kc) l):=Fr.lies ⟨V9 W h0 h1 hn hr hR.row.max hR.row.le hR.row.nil,hR.row,hR.each⟩
theorem Mq(W:World){kind n rho:Int}(h0:0≤kind)(h1:kind≤255)(hn:O4 n)(hr:O4 rho):LA.lies W (.node (V8 kind n rho none 0 0) []):=KD h0 h1 hn hr ⟨AE.none _ _ _,(by intro x hx;cases hx)⟩
theorem Iw(kind n rho:Int)(kp:Option Addr)(kn kc:Nat):Bl (V8 kind n rho kp kn kc):=⟨(show 0≤100 by omega),(show 0≤100 by omega),(show 0≤100 by omega),(show 0≤50 by omega),rfl,⟨(show Vq.er.size≤100 by decide),rfl⟩,⟨(show Vq.er.size≤100 by decide),rfl⟩⟩
theorem Tw{w:World}{x y:PA}(hx:LA.lies w x)(hy:LA.lies w y)(cs:Array Value)(am:cs=(LA.encT x++LA.encT y).toArray)(e:TypeId)(gs:Nat)(bn:w.heap.size=gs):Ds (w.alloc (.cells cs e)) (some ⟨gs,0,none⟩) 2 2 [x,y]:=by
 subst bn;refine⟨Al SS (by omega) w e [x,y] 2 _ (by simp [am]) rfl (by decide),fun z hz=>?_⟩;have hb:Below w.heap.size w (w.alloc (.cells cs e)):=(Below.refl _ w).alloc (Nat.le_refl _) _;rcases List.mem_cons.1 hz with rfl|hz
 ·exact LA.lies_below hb _ hx
 ·rw [List.mem_singleton.1 hz];exact LA.lies_below hb _ hy
theorem UD(W:World)(cs vals:Array Value)(e:TypeId)(g:Nat)(h:W.heap.size=g):(W.alloc (.cells cs e)).setRow g vals=W.alloc (.cells vals e):=by subst h;exact World.setRow_alloc_new ..
theorem Ap(W:World)(cs:Array Value)(e:TypeId)(g:Nat)(h:W.heap.size=g):(W.alloc (.cells cs e)).heap[g]?=some (.cells cs e (0,0)):=by subst h;exact heap_alloc_new W _
theorem Xg{W:World}(h:W.ShapedOpen prog):Vr W:=by obtain⟨m,h⟩:=U2.s1_3 W h;exact⟨m,h⟩
theorem Gi{b:Bool}{a:GT}{no z k:Int}{r:E7}(hn:no≠0)(hr:∀z k,r=.error (z,k)→k≠0)(h:A4 b a no r=.error (z,k)):k≠0:=by
 unfold A4 Lk at h;cases b with
 |true=>exact hr z k h
 |false=>simp at h;rw [←h.2];exact hn
theorem L8{a:GT}{no z k:Int}(hn:no≠0)(h:Lk a no=.error (z,k)):k≠0:=by unfold Lk at h;simp at h;rw [←h.2];exact hn
def Wg(r:E7):Prop:=∀z k,r=.error (z,k)→k≠0
theorem Ww(x:TE):Wg (.ok x):=fun z k h=>(nomatch h)
theorem WA{c:Prop} [Decidable c] {x y:E7} (hx:Wg x) (hy:Wg y):Wg (if c then x else y):=by
 split
 ·exact hx
 ·exact hy
theorem U5{b:Bool}{a:GT}{no:Int}{r:E7}(hn:no≠0)(hr:Wg r):Wg (A4 b a no r):=fun z k h=>Gi hn hr h
theorem WJ{a:GT}{l:List TE}{z k:Int}(h:AV a l=.error (z,k)):k≠0:=by
 have hN:Wg (AV a l):=by
  unfold AV CB;dsimp only
  repeat' first
   |exact Ww _
   |exact fun z k h=>L8 (by decide) h
   |refine WA ?_ ?_
   |refine U5 (by decide) ?_
 exact hN z k h
theorem Rb(t:AT):∀env rhos z k,chk env rhos t=.error (z,k)→k≠0:=by
 refine AG.ind (P:=fun(t:AT)=>∀env rhos z k,chk env rhos t=.error (z,k)→k≠0) (fun a l ih env rhos z k h=>?_) t
 have hL:∀(m:List AT) (i:Nat) (acc:List TE),(∀t∈m,t∈l)→∀e,Fa env rhos a i acc m=.error e→e.2≠0:=by
  intro m;induction m with
  |nil=>intro i acc _ e h;rw [Jz] at h;cases h
  |cons t m ihm=>
   intro i acc hm e h;rw [Fk] at h;cases hc:chk (Ac env a i acc) (Ad rhos a i) t with
   |error e'=>
    rw [hc] at h;simp only [Except.error.injEq] at h;subst h;exact ih t (hm t (by simp)) _ _ _ _ hc
   |ok r=>
    rw [hc] at h;exact ihm _ _ (fun u hu=>hm u (by simp [hu])) e h
 have bY:∀{x:TE} (z k:Int),(Except.ok x:E7)=.error (z,k)→k≠0:=fun z k h=>(nomatch h)
 have hf:∀z k,BE env rhos a l=.error (z,k)→k≠0:=by
  intro z k h;unfold BE at h;refine Gi (by decide) (fun z k h=>?_) h;split at h
  ·unfold Hf at h;split at h
   ·exact L8 (by decide) h
   ·exact Gi (by decide) bY h
  ·split at h
   ·unfold Cm at h;split at h
    ·exact L8 (by decide) h
    ·split at h
     ·exact L8 (by decide) h
     ·exact Gi (by decide) (fun z k h=>Gi (by decide) bY h) h
   ·split at h
    ·rename_i e he;simp only [Except.error.injEq] at h;subst h;exact hL l 0 [] (fun t h=>h) _ he
    ·exact WJ h
 rw [J1] at h;unfold Hp at h;split at h
 ·exact Gi (by decide) bY h
 ·rename_i e he;simp only [Except.error.injEq] at h;subst h;exact hf _ _ he
theorem UV{t:PA}{z k:Int}(h:DF t=.error (z,k)):k≠0:=by
 unfold DF IE at h;split at h
 ·split at h
  ·simp at h;omega
  ·exact Rb _ _ _ _ _ h
 ·simp at h;omega
structure CE(w:World)(t:PA):Prop where
 lies:LA.lies w t
 small:BR t
 size:t.size≤200
theorem CE.below{w w':World}{t:PA}(h:CE w t)(hb:Below w.heap.size w w'):CE w' t:=⟨LA.lies_below hb t h.lies,h.small,h.size⟩
theorem TZ{w:World}(t:PA)(hl:LA.lies w t):Calls prog 10 #[Aj t.head] w fun e w'=>(∃r,e=.returned (.bool r)∧(r=false→CE w t))∧Below w.heap.size w w':=by
 have HB:=AA ((Below.refl w.heap.size w).alloc (Nat.le_refl _) (AO t.head));have aE:=AA (Aa w t.head);have HG:=AA (Lq (LA.lies_below HB.o t hl));have HL:=AA hl;clear hl;go_enter func10,ntmps10
 go_wp2_with (first
  |(refine lw aE.o.blk underlying31 ?_)
  |(refine XH [.int .u8 t.head.kind,.int .u8 t.head.op,.int .i64 t.head.at_,.int .i64 t.head.n,.string t.head.name,.string t.head.arg,.string t.head.exn,.int .i64 t.head.rho,.slice t.head.rp t.head.rn t.head.rc,.slice t.head.ep t.head.en t.head.ec,.int .u8 t.head.ty.head.kind,.int .i64 t.head.ty.head.rho,.slice t.head.ty.head.ep t.head.ty.head.en t.head.ty.head.ec,.slice t.head.ty.head.kp t.head.ty.head.kn t.head.ty.head.kc,.int .u8 t.head.res.head.kind,.int .i64 t.head.res.head.rho,.slice t.head.res.head.ep t.head.res.head.en t.head.res.head.ec,.slice t.head.res.head.kp t.head.res.head.kn t.head.res.head.kc,.slice t.head.kp t.head.kn t.head.kc] aE.o.range underlying31 ?_)
  |(go_at_call 33;refine HG.o.mono ?_;rintro e w8 ⟨⟨r,rfl,eP⟩,hb⟩;have HB:=bt HB hb;have aE:=AA (aE.o.below hb);clear hb;have jg:=AA eP;clear eP;cases r;have fi:=AA (show t.size≤1000 from Nat.le_trans (jg.o rfl).1 (by omega)))
  |(go_at_call 26;refine(Kd t _ (LA.lies_below HB.o t HL.o) fi.o).mono ?_;rintro e w9 ⟨⟨p,c,rfl,aB⟩,hb⟩;clear aB;have HB:=bt HB hb;clear hb))
 ·go_ret;exact⟨⟨_,rfl,fun h=>⟨HL.o,(jg.o (by first|trivial|rfl)).2,by simp at h;omega⟩⟩,HB.o⟩
 ·go_ret;exact⟨⟨_,rfl,fun h=>by simp at h⟩,HB.o⟩
def Sj:PA:=.node (V8 1 1 0 none 0 0) []
def So(g:Nat)(r:Int):PA:=.node (V8 3 0 r (some ⟨g,0,none⟩) 2 2) [Sj,Sj]
theorem VD{w:World}(r:Int)(hr:O4 r):Calls prog 34 #[.int .i64 r] w fun e w'=>∃g:Nat,e=.returned (.agg #[.int .u8 3,.int .u8 0,.int .i64 0,.int .i64 0,.string ⟨#[]⟩,.string ⟨#[]⟩,.string ⟨#[]⟩,.int .i64 r,.slice none 0 0,.slice none 0 0,.int .u8 0,.int .i64 0,.slice none 0 0,.slice none 0 0,.int .u8 0,.int .i64 0,.slice none 0 0,.slice none 0 0,.slice (some ⟨g,0,none⟩) 2 2])∧LA.lies w' (So g r)∧Below w.heap.size w w':=by
 have nx:=Ap w #[.int .u8 0,.int .u8 0,.int .i64 0,.int .i64 0,.string ⟨#[]⟩,.string ⟨#[]⟩,.string ⟨#[]⟩,.int .i64 0,.slice none 0 0,.slice none 0 0,.int .u8 0,.int .i64 0,.slice none 0 0,.slice none 0 0,.int .u8 0,.int .i64 0,.slice none 0 0,.slice none 0 0,.slice none 0 0] 31 _ rfl;have qO:Below w.heap.size w (w.alloc (.cells #[.int .u8 0,.int .u8 0,.int .i64 0,.int .i64 0,.string ⟨#[]⟩,.string ⟨#[]⟩,.string ⟨#[]⟩,.int .i64 0,.slice none 0 0,.slice none 0 0,.int .u8 0,.int .i64 0,.slice none 0 0,.slice none 0 0,.int .u8 0,.int .i64 0,.slice none 0 0,.slice none 0 0,.slice none 0 0] 31)):=bA;have iS:=AA nx;have ek:=AA qO;have HR:=AA hr;clear nx qO hr;go_enter func34,ntmps34;go_upto_region 2 with(refine sn #[.int .u8 1,.int .u8 0,.int .i64 0,.int .i64 1,.string ⟨#[]⟩,.string ⟨#[]⟩,.string ⟨#[]⟩,.int .i64 0,.slice none 0 0,.slice none 0 0,.int .u8 0,.int .i64 0,.slice none 0 0,.slice none 0 0,.int .u8 0,.int .i64 0,.slice none 0 0,.slice none 0 0,.slice none 0 0] ?_)
 have kY:=AA (Ap (w.alloc (.cells #[.int .u8 0,.int .u8 0,.int .i64 0,.int .i64 0,.string ⟨#[]⟩,.string ⟨#[]⟩,.string ⟨#[]⟩,.int .i64 0,.slice none 0 0,.slice none 0 0,.int .u8 0,.int .i64 0,.slice none 0 0,.slice none 0 0,.int .u8 0,.int .i64 0,.slice none 0 0,.slice none 0 0,.slice none 0 0] 31)) #[.int .u8 1,.int .u8 0,.int .i64 0,.int .i64 1,.string ⟨#[]⟩,.string ⟨#[]⟩,.string ⟨#[]⟩,.int .i64 0,.slice none 0 0,.slice none 0 0,.int .u8 0,.int .i64 0,.slice none 0 0,.slice none 0 0,.int .u8 0,.int .i64 0,.slice none 0 0,.slice none 0 0,.slice none 0 0] 31 _ rfl);have bz:Below (w.alloc (.cells #[.int .u8 0,.int .u8 0,.int .i64 0,.int .i64 0,.string ⟨#[]⟩,.string ⟨#[]⟩,.string ⟨#[]⟩,.int .i64 0,.slice none 0 0,.slice none 0 0,.int .u8 0,.int .i64 0,.slice none 0 0,.slice none 0 0,.int .u8 0,.int .i64 0,.slice none 0 0,.slice none 0 0,.slice none 0 0] 31)).heap.size (w.alloc (.cells #[.int .u8 0,.int .u8 0,.int .i64 0,.int .i64 0,.string ⟨#[]⟩,.string ⟨#[]⟩,.string ⟨#[]⟩,.int .i64 0,.slice none 0 0,.slice none 0 0,.int .u8 0,.int .i64 0,.slice none 0 0,.slice none 0 0,.int .u8 0,.int .i64 0,.slice none 0 0,.slice none 0 0,.slice none 0 0] 31)) ((w.alloc (.cells #[.int .u8 0,.int .u8 0,.int .i64 0,.int .i64 0,.string ⟨#[]⟩,.string ⟨#[]⟩,.string ⟨#[]⟩,.int .i64 0,.slice none 0 0,.slice none 0 0,.int .u8 0,.int .i64 0,.slice none 0 0,.slice none 0 0,.int .u8 0,.int .i64 0,.slice none 0 0,.slice none 0 0,.slice none 0 0] 31)).alloc (.cells #[.int .u8 1,.int .u8 0,.int .i64 0,.int .i64 1,.string ⟨#[]⟩,.string ⟨#[]⟩,.string ⟨#[]⟩,.int .i64 0,.slice none 0 0,.slice none 0 0,.int .u8 0,.int .i64 0,.slice none 0 0,.slice none 0 0,.int .u8 0,.int .i64 0,.slice none 0 0,.slice none 0 0,.slice none 0 0] 31)):=bA;have mD:=AA ((bz.block _ (AW iS.o)).trans iS.o);have aJ:=bt ek bz;have eQ:(w.alloc (.cells #[.int .u8 0,.int .u8 0,.int .i64 0,.int .i64 0,.string ⟨#[]⟩,.string ⟨#[]⟩,.string ⟨#[]⟩,.int .i64 0,.slice none 0 0,.slice none 0 0,.int .u8 0,.int .i64 0,.slice none 0 0,.slice none 0 0,.int .u8 0,.int .i64 0,.slice none 0 0,.slice none 0 0,.slice none 0 0] 31)).heap.size=w.heap.size+1:=by simp
 rw [eQ] at kY;clear bz eQ iS ek;generalize ((w.alloc (.cells #[.int .u8 0,.int .u8 0,.int .i64 0,.int .i64 0,.string ⟨#[]⟩,.string ⟨#[]⟩,.string ⟨#[]⟩,.int .i64 0,.slice none 0 0,.slice none 0 0,.int .u8 0,.int .i64 0,.slice none 0 0,.slice none 0 0,.int .u8 0,.int .i64 0,.slice none 0 0,.slice none 0 0,.slice none 0 0] 31)).alloc (.cells #[.int .u8 1,.int .u8 0,.int .i64 0,.int .i64 1,.string ⟨#[]⟩,.string ⟨#[]⟩,.string ⟨#[]⟩,.int .i64 0,.slice none 0 0,.slice none 0 0,.int .u8 0,.int .i64 0,.slice none 0 0,.slice none 0 0,.int .u8 0,.int .i64 0,.slice none 0 0,.slice none 0 0,.slice none 0 0] 31))=W1 at *
 have bQ:Below W1.heap.size W1 (W1.alloc (.cells #[.int .u8 1,.int .u8 0,.int .i64 0,.int .i64 1,.string ⟨#[]⟩,.string ⟨#[]⟩,.string ⟨#[]⟩,.int .i64 0,.slice none 0 0,.slice none 0 0,.int .u8 0,.int .i64 0,.slice none 0 0,.slice none 0 0,.int .u8 0,.int .i64 0,.slice none 0 0,.slice none 0 0,.slice none 0 0,.int .u8 1,.int .u8 0,.int .i64 0,.int .i64 1,.string ⟨#[]⟩,.string ⟨#[]⟩,.string ⟨#[]⟩,.int .i64 0,.slice none 0 0,.slice none 0 0,.int .u8 0,.int .i64 0,.slice none 0 0,.slice none 0 0,.int .u8 0,.int .i64 0,.slice none 0 0,.slice none 0 0,.slice none 0 0] 31)):=bA;have ge:=AA ((bQ.block _ (AW mD.o)).trans mD.o);have bv:=AA (Tw (Mq W1 (kind:=1) (n:=1) (rho:=0) (by omega) (by omega) ⟨by omega,by omega⟩ ⟨by omega,by omega⟩) (Mq W1 (kind:=1) (n:=1) (rho:=0) (by omega) (by omega) ⟨by omega,by omega⟩ ⟨by omega,by omega⟩) #[.int .u8 1,.int .u8 0,.int .i64 0,.int .i64 1,.string ⟨#[]⟩,.string ⟨#[]⟩,.string ⟨#[]⟩,.int .i64 0,.slice none 0 0,.slice none 0 0,.int .u8 0,.int .i64 0,.slice none 0 0,.slice none 0 0,.int .u8 0,.int .i64 0,.slice none 0 0,.slice none 0 0,.slice none 0 0,.int .u8 1,.int .u8 0,.int .i64 0,.int .i64 1,.string ⟨#[]⟩,.string ⟨#[]⟩,.string ⟨#[]⟩,.int .i64 0,.slice none 0 0,.slice none 0 0,.int .u8 0,.int .i64 0,.slice none 0 0,.slice none 0 0,.int .u8 0,.int .i64 0,.slice none 0 0,.slice none 0 0,.slice none 0 0] rfl 31 _ rfl);have aK:=bt aJ bQ;clear bQ
 go_wp2_with (first
  |(refine lw kY.o underlying31 ?_)
  |(refine sw #[.int .u8 3,.int .u8 0,.int .i64 0,.int .i64 0,.string ⟨#[]⟩,.string ⟨#[]⟩,.string ⟨#[]⟩,.int .i64 r,.slice none 0 0,.slice none 0 0,.int .u8 0,.int .i64 0,.slice none 0 0,.slice none 0 0,.int .u8 0,.int .i64 0,.slice none 0 0,.slice none 0 0,.slice (some ⟨W1.heap.size,0,none⟩) 2 2] ge.o ?_))
 refine br (setRow_heap _ _ _ _ _ _ ge.o) underlying31 ?_;have eP:(W1.alloc (.cells #[.int .u8 1,.int .u8 0,.int .i64 0,.int .i64 1,.string ⟨#[]⟩,.string ⟨#[]⟩,.string ⟨#[]⟩,.int .i64 0,.slice none 0 0,.slice none 0 0,.int .u8 0,.int .i64 0,.slice none 0 0,.slice none 0 0,.int .u8 0,.int .i64 0,.slice none 0 0,.slice none 0 0,.slice none 0 0,.int .u8 1,.int .u8 0,.int .i64 0,.int .i64 1,.string ⟨#[]⟩,.string ⟨#[]⟩,.string ⟨#[]⟩,.int .i64 0,.slice none 0 0,.slice none 0 0,.int .u8 0,.int .i64 0,.slice none 0 0,.slice none 0 0,.int .u8 0,.int .i64 0,.slice none 0 0,.slice none 0 0,.slice none 0 0] 31)).grownBy ((W1.alloc (.cells #[.int .u8 1,.int .u8 0,.int .i64 0,.int .i64 1,.string ⟨#[]⟩,.string ⟨#[]⟩,.string ⟨#[]⟩,.int .i64 0,.slice none 0 0,.slice none 0 0,.int .u8 0,.int .i64 0,.slice none 0 0,.slice none 0 0,.int .u8 0,.int .i64 0,.slice none 0 0,.slice none 0 0,.slice none 0 0,.int .u8 1,.int .u8 0,.int .i64 0,.int .i64 1,.string ⟨#[]⟩,.string ⟨#[]⟩,.string ⟨#[]⟩,.int .i64 0,.slice none 0 0,.slice none 0 0,.int .u8 0,.int .i64 0,.slice none 0 0,.slice none 0 0,.int .u8 0,.int .i64 0,.slice none 0 0,.slice none 0 0,.slice none 0 0] 31)).setRow w.heap.size #[.int .u8 3,.int .u8 0,.int .i64 0,.int .i64 0,.string ⟨#[]⟩,.string ⟨#[]⟩,.string ⟨#[]⟩,.int .i64 r,.slice none 0 0,.slice none 0 0,.int .u8 0,.int .i64 0,.slice none 0 0,.slice none 0 0,.int .u8 0,.int .i64 0,.slice none 0 0,.slice none 0 0,.slice (some ⟨W1.heap.size,0,none⟩) 2 2]) (some w.heap.size):=BB;have aS:w.heap.size<W1.heap.size:=AW mD.o;refine⟨W1.heap.size,rfl,KD (by omega) (by omega) ⟨by omega,by omega⟩ HR.o ⟨Fg bv.o.row eP (fun _ ad hp=>by cases hp;dsimp only;omega),fun t ht=>?_⟩,aK.o.grown eP aK.o.size (fun k e=>by cases e;exact Nat.le_refl _)⟩;have pU:t=Sj:=by simpa using ht
 rw [pU];exact Mq _ (by omega) (by omega) ⟨by omega,by omega⟩ ⟨by omega,by omega⟩
theorem Qm(g:Nat)(r:Int):BR (So g r):=BR.node (Iw ..) (fun t ht=>by
 have pU:t=Sj:=by simpa using ht
 rw [pU];exact BR.node (Iw ..) (fun t ht=>by cases ht))
def TW(g1 g2:Nat):PA:=.node (V8 4 0 0 (some ⟨g2,0,none⟩) 1 1) [So g1 1]
def WI(g1 g2 g3:Nat):PA:=.node (V8 17 0 1 (some ⟨g3,0,none⟩) 1 1) [TW g1 g2]
theorem Mf(g1 g2:Nat):BR (TW g1 g2):=BR.node (Iw ..) (fun t ht=>by rw [List.mem_singleton.1 ht];exact Qm _ _)
theorem R7(g1 g2 g3:Nat):BR (WI g1 g2 g3):=BR.node (Iw ..) (fun t ht=>by rw [List.mem_singleton.1 ht];exact Mf _ _)
theorem R6(g1 g2 g3:Nat):DF (WI g1 g2 g3)=.ok (Ij,[]):=by kernel_rfl
theorem Rk(g1 g2:Nat):DF (TW g1 g2)=.error (0,4):=by kernel_rfl
end Go.Proofs.YtkdjnegfnhldpaaGreatDoor
