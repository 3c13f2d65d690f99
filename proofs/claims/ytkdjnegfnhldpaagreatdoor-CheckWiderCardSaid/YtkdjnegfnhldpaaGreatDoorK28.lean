/- Part 28. -/
import Derived.Test.YtkdjnegfnhldpaaGreatDoorK27
set_option linter.unusedVariables false
set_option maxRecDepth 100000
set_option linter.unusedSimpArgs false
set_option maxHeartbeats 40000000
namespace Go.Proofs.YtkdjnegfnhldpaaGreatDoor
open Go.Proofs.Tryz Go.RowKit
theorem J1(w:World)(a:AH):O6 w a (((((w.alloc (AO a)).alloc (.cells #[.int .u8 0,.int .i64 0,.slice none 0 0,.slice none 0 0] 28)).alloc (.cells #[.slice none 0 0] 25)).alloc (.cells #[.int .i64 0] 3)).alloc (.cells #[.int .i64 0] 34)):=by
 have e1:=heap_alloc_new (w.alloc (AO a)) (.cells #[.int .u8 0,.int .i64 0,.slice none 0 0,.slice none 0 0] 28);have e2:=heap_alloc_new ((w.alloc (AO a)).alloc (.cells #[.int .u8 0,.int .i64 0,.slice none 0 0,.slice none 0 0] 28)) (.cells #[.slice none 0 0] 25);have e3:=heap_alloc_new (((w.alloc (AO a)).alloc (.cells #[.int .u8 0,.int .i64 0,.slice none 0 0,.slice none 0 0] 28)).alloc (.cells #[.slice none 0 0] 25)) (.cells #[.int .i64 0] 3);have e4:=heap_alloc_new ((((w.alloc (AO a)).alloc (.cells #[.int .u8 0,.int .i64 0,.slice none 0 0,.slice none 0 0] 28)).alloc (.cells #[.slice none 0 0] 25)).alloc (.cells #[.int .i64 0] 3)) (.cells #[.int .i64 0] 34);simp only [World.size_alloc] at e1 e2 e3 e4;have bD:Below w.heap.size w (w.alloc (AO a)):=bA;have aj:∀{W:World} (o:Obj),Below W.heap.size W (W.alloc o):=fun o=>(Below.refl _ _).alloc (Nat.le_refl _) o;have dN:Below (w.alloc (AO a)).heap.size (w.alloc (AO a)) (((((w.alloc (AO a)).alloc (.cells #[.int .u8 0,.int .i64 0,.slice none 0 0,.slice none 0 0] 28)).alloc (.cells #[.slice none 0 0] 25)).alloc (.cells #[.int .i64 0] 3)).alloc (.cells #[.int .i64 0] 34)):=(((aj _).trans ((aj _).mono (by simp only [World.size_alloc];omega))).trans ((aj _).mono (by simp only [World.size_alloc];omega))).trans ((aj _).mono (by simp only [World.size_alloc];omega));refine⟨(Ah w a).below dN,⟨#[.int .u8 0,.int .i64 0,.slice none 0 0,.slice none 0 0],rfl,?_⟩,⟨.slice none 0 0,?_⟩,⟨.int .i64 0,?_⟩,⟨.int .i64 0,e4⟩,bD.trans (dN.mono (by simp only [World.size_alloc];omega)),by simp only [World.size_alloc];omega⟩
 ·rw [Below.heap_alloc _ _ _ (by simp),Below.heap_alloc _ _ _ (by simp),Below.heap_alloc _ _ _ (by simp)];exact e1
 ·rw [Below.heap_alloc _ _ _ (by simp),Below.heap_alloc _ _ _ (by simp)];exact e2
 ·rw [Below.heap_alloc _ _ _ (by simp)];exact e3
theorem IJ(w:World)(a:AH):(((((w.alloc (AO a)).alloc (.cells #[.int .u8 0,.int .i64 0,.slice none 0 0,.slice none 0 0] 28)).alloc (.cells #[.slice none 0 0] 25)).alloc (.cells #[.int .i64 0] 3)).alloc (.cells #[.int .i64 0] 34)).heap[w.heap.size+1]?=some (.cells #[.int .u8 0,.int .i64 0,.slice none 0 0,.slice none 0 0] 28 (0,0)):=by have e1:=heap_alloc_new (w.alloc (AO a)) (.cells #[.int .u8 0,.int .i64 0,.slice none 0 0,.slice none 0 0] 28);simp only [World.size_alloc] at e1;rw [Below.heap_alloc _ _ _ (by simp),Below.heap_alloc _ _ _ (by simp),Below.heap_alloc _ _ _ (by simp)];exact e1
structure Va(w W:World):Prop where
 o:W.heap[w.heap.size+1]?=some (.cells #[.int .u8 0,.int .i64 0,.slice none 0 0,.slice none 0 0] 28 (0,0))
 m:W.heap[w.heap.size+1+1]?=some (.cells #[.slice none 0 0] 25 (0,0))
 at_:W.heap[w.heap.size+1+1+1]?=some (.cells #[.int .i64 0] 3 (0,0))
 e:W.heap[w.heap.size+1+1+1+1]?=some (.cells #[.int .i64 0] 34 (0,0))
theorem Va.step{w W W':World}(h:Va w W)(hb:Below W.heap.size W W'):Va w W':=⟨(hb.block _ (AV h.o)).trans h.o,(hb.block _ (AV h.m)).trans h.m,(hb.block _ (AV h.at_)).trans h.at_,(hb.block _ (AV h.e)).trans h.e⟩
theorem Qa(w:World)(a:AH):Va w (((((w.alloc (AO a)).alloc (.cells #[.int .u8 0,.int .i64 0,.slice none 0 0,.slice none 0 0] 28)).alloc (.cells #[.slice none 0 0] 25)).alloc (.cells #[.int .i64 0] 3)).alloc (.cells #[.int .i64 0] 34)):=by
 have e1:=heap_alloc_new (w.alloc (AO a)) (.cells #[.int .u8 0,.int .i64 0,.slice none 0 0,.slice none 0 0] 28);have e2:=heap_alloc_new ((w.alloc (AO a)).alloc (.cells #[.int .u8 0,.int .i64 0,.slice none 0 0,.slice none 0 0] 28)) (.cells #[.slice none 0 0] 25);have e3:=heap_alloc_new (((w.alloc (AO a)).alloc (.cells #[.int .u8 0,.int .i64 0,.slice none 0 0,.slice none 0 0] 28)).alloc (.cells #[.slice none 0 0] 25)) (.cells #[.int .i64 0] 3);have e4:=heap_alloc_new ((((w.alloc (AO a)).alloc (.cells #[.int .u8 0,.int .i64 0,.slice none 0 0,.slice none 0 0] 28)).alloc (.cells #[.slice none 0 0] 25)).alloc (.cells #[.int .i64 0] 3)) (.cells #[.int .i64 0] 34);simp only [World.size_alloc] at e1 e2 e3 e4;refine⟨?_,?_,?_,e4⟩
 ·rw [Below.heap_alloc _ _ _ (by simp),Below.heap_alloc _ _ _ (by simp),Below.heap_alloc _ _ _ (by simp)];exact e1
 ·rw [Below.heap_alloc _ _ _ (by simp),Below.heap_alloc _ _ _ (by simp)];exact e2
 ·rw [Below.heap_alloc _ _ _ (by simp)];exact e3
theorem Gh{W:World}{p:Option Addr}{n c g:Nat}{l:List AB}{cs:Array Value}{t:TypeId}(h:AF AP 3 W p n c l)(hl:l≠[])(hg:W.heap[g]?=some (.cells cs t (0,0)))(aw:∀(i:Nat) (s:ByteArray),cs[i]?≠some (.string s)){ad:Addr}(hp:p=some ad):ad.block≠g:=by
 cases l with
 |nil=>exact absurd rfl hl
 |cons x l=>
  obtain⟨b,o,fg,_,hc⟩:=h.row.elem (j:=0) (x:=x) rfl;rw [fg] at hp;cases hp;intro e;have e':b=g:=e;subst e';have h2:=hc 2 (.string x.exn) rfl;rw [Lib.cell_of_heap hg] at h2;exact aw _ _ h2
theorem Ty{N B E:Nat}{w W:World}(hz:Va w W)(hB:w.heap.size+5≤B)(y:PT):LR.lies W y→Bz N B E y→∀b∈Ao y,b≠w.heap.size+1∧b≠w.heap.size+1+1∧b≠w.heap.size+1+1+1∧b≠w.heap.size+1+1+1+1:=by
 refine AD.ind (P:=fun(y:PT)=>LR.lies W y→Bz N B E y→∀b∈Ao y,b≠w.heap.size+1∧b≠w.heap.size+1+1∧b≠w.heap.size+1+1+1∧b≠w.heap.size+1+1+1+1) (fun a l ih hl hs b hb=>?_) y;have hn:=Bb hl;have h0:=hs a (by rw [AD.nodes_node];simp)
 have n4:∀(i:Nat) (s:ByteArray),(#[.int .u8 0,.int .i64 0,.slice none 0 0,.slice none 0 0]:Array Value)[i]?≠some (.string s):=fun i s=>by
  match i with
  |0=>simp
  |1=>simp
  |2=>simp
  |3=>simp
  |i+4=>simp
 have n1:∀(v:Value),(∀s,v≠.string s)→∀(i:Nat) (s:ByteArray),(#[v]:Array Value)[i]?≠some (.string s):=fun v hv i s=>by
  match i with
  |0=>simpa using hv s
  |i+1=>simp
 rcases D9 hb with⟨_,ad,hp,rfl⟩|⟨he,ad,hp,rfl⟩|⟨u,hu,hb⟩
 ·have:=(h0.1 ad hp).1;omega
 ·exact⟨Gh hn.own.eff he hz.o n4 hp,Gh hn.own.eff he hz.m (n1 _ (fun s e=>(nomatch e))) hp,Gh hn.own.eff he hz.at_ (n1 _ (fun s e=>(nomatch e))) hp,Gh hn.own.eff he hz.e (n1 _ (fun s e=>(nomatch e))) hp⟩
 ·exact ih u hu (hn.each u hu) (fun x hx=>hs x (by rw [AD.nodes_node,List.mem_cons,List.mem_flatten];exact .inr ⟨u.nodes,List.mem_map_of_mem hu,hx⟩)) b hb
def Fy(r:EY)(e:Ending)(w':World):Prop:=
 match r with
 |.ok x=>∃(y:PT) (q:Option Addr) (m qc:Nat),e=.returned (.tuple #[C9 y.head,.slice q m qc,.int .i64 0,.int .i64 0])∧LR.lies w' y∧PT.er y=x.1∧AF AP 3 w' q m qc x.2
 |.error (z,no)=>e=.returned (.tuple #[.agg #[.int .u8 0,.int .i64 0,.slice none 0 0,.slice none 0 0],.slice none 0 0,.int .i64 z,.int .i64 no])
theorem Vt.res{w W:World}{a:AH}{cs:Array Value}{v2 v3 v4:Value}(h:Vt w a cs v2 v3 v4 W)(h4:cs.size=4):(∀i v,cs[i]?=some v→W.cell? ⟨w.heap.size+1,i,none⟩=some v)∧W.cell? ⟨w.heap.size+1+1,0,none⟩=some v2∧W.cell? ⟨w.heap.size+1+1+1,0,none⟩=some v3∧W.cell? ⟨w.heap.size+1+1+1+1,0,none⟩=some v4:=⟨fun i v hv=>by rw [Lib.cell_of_heap h.o];exact hv,(Ea h.m).1,(Ea h.at_).1,(Ea h.e).1⟩
theorem Q6{w:World}{a:AH}{l:List PA}(hl:LA.lies w (.node a l))(hs:A5 (.node a l))(hz:(AD.node a l).size≤1000)(hv:Vr w)(hm:Ep (.node a l)=false):Calls prog 12 #[An a] w fun e w'=>Fy (.error (0,1)) e w'∧Below w.heap.size w w':=by
 have HX:=AA (J1 w a);have HO:=AA (IJ w a);have HL:=AA hl;have HS:=AA hs;have HV:=AA hv;have HZ:=AA hz;have l1:∀(fn:Fn) (first cap:Array Value) (w:World),(Instr.makeFunc fn first cap).run prog w=.ok (.func fn first cap) w:=fun _ _ _ _=>rfl;clear hl hs hv hz;have HM:=AA hm;clear hm;go_enter_defers func12,ntmps12;go_upto_region 1 with fail;generalize (((((w.alloc (AO a)).alloc (.cells #[.int .u8 0,.int .i64 0,.slice none 0 0,.slice none 0 0] 28)).alloc (.cells #[.slice none 0 0] 25)).alloc (.cells #[.int .i64 0] 3)).alloc (.cells #[.int .i64 0] 34))=W1 at *
 go_upto_region 2 with(first
  |(refine lw HX.o.box.blk underlying31 ?_)
  |(go_at_call 35;refine(Dx (AD.node a l) (LA.lies_below HX.o.below _ HL.o) HS.o HZ.o (HV.o.below HX.o.below)).mono ?_;rw [HM.o];rintro e w2 ⟨rfl,hb⟩;have aV:=AA (HX.o.step hb);have an:=AA ((hb.block _ (AV HO.o)).trans HO.o);clear hb))
 have hA:=aV.o.w1 (cs:=#[.int .u8 0,.int .i64 0,.slice none 0 0,.slice none 0 0]) rfl;obtain⟨v2,h2⟩:=hA.m;obtain⟨q2,f2⟩:=Ea h2;have hB:=hA.wset (b:=w.heap.size+1+1) (.inl rfl) (.slice none 0 0);obtain⟨v3,h3⟩:=hB.at_;obtain⟨q3,f3⟩:=Ea h3;have hC:=hB.wset (b:=w.heap.size+1+1+1) (.inr (.inl rfl)) (.int .i64 0);obtain⟨v4,h4⟩:=hC.e;obtain⟨q4,f4⟩:=Ea h4;have HR:=AA (aV.o.fill (cs:=#[.int .u8 0,.int .i64 0,.slice none 0 0,.slice none 0 0]) rfl (.slice none 0 0) (.int .i64 0) (.int .i64 1));clear hA h2 hB h3 hC h4
 go_wp2_with (first
  |(refine lw an.o underlying28 ?_)
  |(refine sw #[.int .u8 0,.int .i64 0,.slice none 0 0,.slice none 0 0] an.o ?_))
 obtain⟨r1,r2,r3,r4⟩:=HR.o.res rfl;have r10:=r1 0 _ rfl;have r11:=r1 1 _ rfl;have r12:=r1 2 _ rfl;have r13:=r1 3 _ rfl;clear r1 q2 q3 q4 f2 f3 f4;have HB:=AA HR.o.below;unfold bodyPostD;simp [Leaves,settle,results,results12,go_sem,r10,r11,r12,r13,r2,r3,r4];exact⟨rfl,HB.o⟩
theorem Ns{w:World}{a:AH}{l:List PA}(hl:LA.lies w (.node a l))(hs:A5 (.node a l))(hz:(AD.node a l).size≤1000)(hv:Vr w)(hm:Ep (.node a l)=true){z:Int}(eh:EC (PA.er (.node a l))=some z):Calls prog 12 #[An a] w fun e w'=>Fy (.error (z,6)) e w'∧Below w.heap.size w w':=by
 have HX:=AA (J1 w a);have HO:=AA (IJ w a);have HL:=AA hl;have HS:=AA hs;have HV:=AA hv;have HZ:=AA hz;have l1:∀(fn:Fn) (first cap:Array Value) (w:World),(Instr.makeFunc fn first cap).run prog w=.ok (.func fn first cap) w:=fun _ _ _ _=>rfl;clear hl hs hv hz;have HM:=AA hm;have gh:=AA eh;clear hm eh;go_enter_defers func12,ntmps12;go_upto_region 1 with fail;generalize (((((w.alloc (AO a)).alloc (.cells #[.int .u8 0,.int .i64 0,.slice none 0 0,.slice none 0 0] 28)).alloc (.cells #[.slice none 0 0] 25)).alloc (.cells #[.int .i64 0] 3)).alloc (.cells #[.int .i64 0] 34))=W1 at *
 go_upto_region 5 with(first
  |(refine lw HX.o.box.blk underlying31 ?_)
  |(refine lw aV.o.box.blk underlying31 ?_)
  |(go_at_call 35;refine(Dx (AD.node a l) (LA.lies_below HX.o.below _ HL.o) HS.o HZ.o (HV.o.below HX.o.below)).mono ?_;rw [HM.o];rintro e w2 ⟨rfl,hb⟩;have aV:=AA (HX.o.step hb);have an:=AA ((hb.block _ (AV HO.o)).trans HO.o);clear hb)
  |(go_at_call 36;refine(ED (t:=AD.node a l) (LA.lies_below aV.o.below _ HL.o) HS.o HZ.o).mono ?_;rw [gh.o];rintro e w3 ⟨he,hb⟩;obtain rfl:=he;have bH:=AA (aV.o.step hb);have ee:=AA ((hb.block _ (AV an.o)).trans an.o);clear hb))
 have hA:=bH.o.w1 (cs:=#[.int .u8 0,.int .i64 0,.slice none 0 0,.slice none 0 0]) rfl;obtain⟨v2,h2⟩:=hA.m;obtain⟨q2,f2⟩:=Ea h2;have hB:=hA.wset (b:=w.heap.size+1+1) (.inl rfl) (.slice none 0 0);obtain⟨v3,h3⟩:=hB.at_;obtain⟨q3,f3⟩:=Ea h3;have hC:=hB.wset (b:=w.heap.size+1+1+1) (.inr (.inl rfl)) (.int .i64 z);obtain⟨v4,h4⟩:=hC.e;obtain⟨q4,f4⟩:=Ea h4;have HR:=AA (bH.o.fill (cs:=#[.int .u8 0,.int .i64 0,.slice none 0 0,.slice none 0 0]) rfl (.slice none 0 0) (.int .i64 z) (.int .i64 6));clear hA h2 hB h3 hC h4
 go_wp2_with (first
  |(refine lw ee.o underlying28 ?_)
  |(refine sw #[.int .u8 0,.int .i64 0,.slice none 0 0,.slice none 0 0] ee.o ?_))
 obtain⟨r1,r2,r3,r4⟩:=HR.o.res rfl;have r10:=r1 0 _ rfl;have r11:=r1 1 _ rfl;have r12:=r1 2 _ rfl;have r13:=r1 3 _ rfl;clear r1 q2 q3 q4 f2 f3 f4;have HB:=AA HR.o.below;unfold bodyPostD;simp [Leaves,settle,results,results12,go_sem,r10,r11,r12,r13,r2,r3,r4];exact⟨rfl,HB.o⟩
structure SE(w:World)(a:AH)(g:Nat)(y:RV)(W:World):Prop where
 ch:O6 w a W
 t:W.heap[g]?=some (.cells (Bi y) 81 (0,0))
 g5:w.heap.size+5≤g
theorem SE.step{w W W':World}{a:AH}{g:Nat}{y:RV}(h:SE w a g y W)(hb:Below W.heap.size W W'):SE w a g y W':=⟨h.ch.step hb,(hb.block _ (AV h.t)).trans h.t,h.g5⟩
theorem SE.w1{w W:World}{a:AH}{g:Nat}{y:RV}(h:SE w a g y W){cs:Array Value}(hc:cs.size=4):SE w a g y (W.setRow (w.heap.size+1) cs):=⟨h.ch.w1 hc,(setRow_other _ _ _ _ (by have:=h.g5;omega)).trans h.t,h.g5⟩
theorem SE.set{w W:World}{a:AH}{g:Nat}{y:RV}(h:SE w a g y W){b:Nat}(hb:b=w.heap.size+1+1∨b=w.heap.size+1+1+1∨b=w.heap.size+1+1+1+1)(v:Value):SE w a g y (W.setCell ⟨b,0,none⟩ v):=⟨h.ch.wset hb v,((AG W b 0 v).block _ (AV h.t) (fun e=>by have:=h.g5;injection e with e;omega)).trans h.t,h.g5⟩
theorem Q7{w:World}{a:AH}{l:List PA}(hl:LA.lies w (.node a l))(hs:A5 (.node a l))(hz:(AD.node a l).size≤1000)(hv:Vr w)(hm:Ep (.node a l)=true)(eh:EC (PA.er (.node a l))=none){z no:Int}(hr:chk [] [0] (PA.er (.node a l))=.error (z,no)):Calls prog 12 #[An a] w fun e w'=>Fy (.error (z,no)) e w'∧Below w.heap.size w w':=by
 have HX:=AA (J1 w a);have HO:=AA (IJ w a);have HL:=AA hl;have HS:=AA hs;have HV:=AA hv;have HZ:=AA hz;have l1:∀(fn:Fn) (first cap:Array Value) (w:World),(Instr.makeFunc fn first cap).run prog w=.ok (.func fn first cap) w:=fun _ _ _ _=>rfl;clear hl hs hv hz;have hV:=AA (Qa w a);have HM:=AA hm;have gh:=AA eh;have HG:=AA (GL _ HL.o HS.o hm);have HR:=AA hr;clear hm eh hr;go_enter_defers func12,ntmps12;go_upto_region 1 with fail;generalize (((((w.alloc (AO a)).alloc (.cells #[.int .u8 0,.int .i64 0,.slice none 0 0,.slice none 0 0] 28)).alloc (.cells #[.slice none 0 0] 25)).alloc (.cells #[.int .i64 0] 3)).alloc (.cells #[.int .i64 0] 34))=W1 at *
 go_upto_region 7 with(first
  |(refine lw HX.o.box.blk underlying31 ?_)
  |(refine lw aV.o.box.blk underlying31 ?_)
  |(go_at_call 35;refine(Dx (AD.node a l) (LA.lies_below HX.o.below _ HL.o) HS.o HZ.o (HV.o.below HX.o.below)).mono ?_;rw [HM.o];rintro e w2 ⟨rfl,hb⟩;have aV:=AA (HX.o.step hb);have ib:=AA (hV.o.step hb);have an:=AA ((hb.block _ (AV HO.o)).trans HO.o);clear hb)
  |(go_at_call 36;refine(ED (t:=AD.node a l) (LA.lies_below aV.o.below _ HL.o) HS.o HZ.o).mono ?_;rw [gh.o];rintro e w3 ⟨he,hb⟩;obtain rfl:=he;have bH:=AA (aV.o.step hb);have mf:=AA (ib.o.step hb);have ee:=AA ((hb.block _ (AV an.o)).trans an.o);clear hb))
 have kN:Hd (DV w (w3.alloc (.cells #[.int .i64 0] 3)) (fun b=>b<w.heap.size∨w.heap.size+5≤b) (.node a l) none (some ⟨w3.heap.size,0,none⟩) 0 0 1 1 [] [0]):=by have hb:=bH.o.below.alloc bH.o.below.size (.cells #[.int .i64 0] 3);have aL:=bH.o.size;have hz:=HZ.o;exact⟨hb,HL.o,HS.o,HG.o,⟨AF.none _ _ _,fun b hb=>by cases hb⟩,AW Ap (by omega) w3 3 [0] 1 _ rfl rfl (by decide),JT,fun b hb=>.inl hb,fun b hb=>.inr (by simp only [World.size_alloc] at hb;omega),by omega,by omega,by omega⟩
 have hO:=AA (bH.o.step ((Below.refl _ _).alloc (Nat.le_refl _) (.cells #[.int .i64 0] 3)));have gM:=AA (Kj (w0:=w) (.node a l) _ _ _ _ _ _ _ _ _ _ kN.o)
 go_wp2_with (first
  |(refine lw hO.o.box.blk underlying31 ?_))
 go_at_call 38;refine gM.o.mono ?_;rw [show Ck []=[] from rfl,HR.o];rintro e w4 ⟨he,hb⟩;subst he;have b7:=AA ((bH.o.step ((Below.refl _ _).alloc (Nat.le_refl _) (.cells #[.int .i64 0] 3))).step hb);show bodyPostD prog f12 _ (Exit.panic _) _ _;unfold bodyPostD;refine leaves_cons (f:=37) (args:=#[.pointer (some ⟨w.heap.size+1,0,none⟩),.pointer (some ⟨w.heap.size+1+1,0,none⟩),.pointer (some ⟨w.heap.size+1+1+1,0,none⟩),.pointer (some ⟨w.heap.size+1+1+1+1,0,none⟩)]) (by simp) (by simp [go_sem]) ?_;refine(Md [] b7.o).mono ?_;rintro e u' w5 ⟨rfl,rfl,hR⟩;obtain⟨r1,r2,r3,r4⟩:=hR.res rfl;have r10:=r1 0 _ rfl;have r11:=r1 1 _ rfl;have r12:=r1 2 _ rfl;have r13:=r1 3 _ rfl;clear r1;have HB:=AA hR.below;simp [Leaves,settle,results,results12,go_sem,r10,r11,r12,r13,r2,r3,r4];exact⟨rfl,HB.o⟩
theorem Sc{w:World}{a:AH}{l:List PA}(hl:LA.lies w (.node a l))(hs:A5 (.node a l))(hz:(AD.node a l).size≤1000)(hv:Vr w)(hm:Ep (.node a l)=true)(eh:EC (PA.er (.node a l))=none){x:TE}(hr:chk [] [0] (PA.er (.node a l))=.ok x):Calls prog 12 #[An a] w fun e w'=>Fy (.ok x) e w'∧Below w.heap.size w w':=by
 have HX:=AA (J1 w a);have HO:=AA (IJ w a);have HL:=AA hl;have HS:=AA hs;have HV:=AA hv;have HZ:=AA hz;have l1:∀(fn:Fn) (first cap:Array Value) (w:World),(Instr.makeFunc fn first cap).run prog w=.ok (.func fn first cap) w:=fun _ _ _ _=>rfl;clear hl hs hv hz;have hV:=AA (Qa w a);have HM:=AA hm;have gh:=AA eh;have HG:=AA (GL _ HL.o HS.o hm);have HR:=AA hr;clear hm eh hr;have nE:=KJ _ _ _ _ HG.o (fun b hb=>by cases hb) HR.o;have gd:=KL _ HR.o;have mL:=AA nE;clear nE;go_enter_defers func12,ntmps12;go_upto_region 1 with fail;generalize (((((w.alloc (AO a)).alloc (.cells #[.int .u8 0,.int .i64 0,.slice none 0 0,.slice none 0 0] 28)).alloc (.cells #[.slice none 0 0] 25)).alloc (.cells #[.int .i64 0] 3)).alloc (.cells #[.int .i64 0] 34))=W1 at *
 go_upto_region 7 with(first
  |(refine lw HX.o.box.blk underlying31 ?_)
  |(refine lw aV.o.box.blk underlying31 ?_)
  |(go_at_call 35;refine(Dx (AD.node a l) (LA.lies_below HX.o.below _ HL.o) HS.o HZ.o (HV.o.below HX.o.below)).mono ?_;rw [HM.o];rintro e w2 ⟨rfl,hb⟩;have aV:=AA (HX.o.step hb);have ib:=AA (hV.o.step hb);have an:=AA ((hb.block _ (AV HO.o)).trans HO.o);clear hb)
  |(go_at_call 36;refine(ED (t:=AD.node a l) (LA.lies_below aV.o.below _ HL.o) HS.o HZ.o).mono ?_;rw [gh.o];rintro e w3 ⟨he,hb⟩;obtain rfl:=he;have bH:=AA (aV.o.step hb);have mf:=AA (ib.o.step hb);have ee:=AA ((hb.block _ (AV an.o)).trans an.o);clear hb))
 have kN:Hd (DV w (w3.alloc (.cells #[.int .i64 0] 3)) (fun b=>b<w.heap.size∨w.heap.size+5≤b) (.node a l) none (some ⟨w3.heap.size,0,none⟩) 0 0 1 1 [] [0]):=by have hb:=bH.o.below.alloc bH.o.below.size (.cells #[.int .i64 0] 3);have aL:=bH.o.size;have hz:=HZ.o;exact⟨hb,HL.o,HS.o,HG.o,⟨AF.none _ _ _,fun b hb=>by cases hb⟩,AW Ap (by omega) w3 3 [0] 1 _ rfl rfl (by decide),JT,fun b hb=>.inl hb,fun b hb=>.inr (by simp only [World.size_alloc] at hb;omega),by omega,by omega,by omega⟩
 have hO:=AA (bH.o.step ((Below.refl _ _).alloc (Nat.le_refl _) (.cells #[.int .i64 0] 3)));have gM:=AA (Kj (w0:=w) (.node a l) _ _ _ _ _ _ _ _ _ _ kN.o)
 go_wp2_with (first
  |(refine lw hO.o.box.blk underlying31 ?_)
  |(go_at_call 38;refine gM.o.mono ?_;rw [show Ck []=[] from rfl,HR.o];rintro e W9 ⟨he,hb⟩;obtain⟨y,rfl,dr,hy⟩:=he;have aW:=AA ((bH.o.step ((Below.refl _ _).alloc (Nat.le_refl _) (.cells #[.int .i64 0] 3))).step hb);have mg:=AA ((mf.o.step ((Below.refl _ _).alloc (Nat.le_refl _) (.cells #[.int .i64 0] 3))).step hb);have HY:=AA hy;have fG:=AA dr;have bd:=AA (heap_alloc_new W9 (.cells #[.int .u8 0,.int .i64 0,.slice none 0 0,.slice none 0 0,.slice none 0 0] 81));clear hy dr hb)
  |(refine sw (Bi y) bd.o ?_;rw [World.setRow_alloc_new]))
 have fw:Below W9.heap.size W9 (W9.alloc (.cells (Bi y) 81)):=bA;have HT:Hd (SE w a W9.heap.size y (W9.alloc (.cells (Bi y) 81))):=⟨aW.o.step fw,heap_alloc_new W9 _,aW.o.size⟩;have oq:=AA (mg.o.step fw);have hU:=AA (HY.o.below fw);obtain⟨g,hg⟩:∃g,W9.heap.size=g:=⟨_,rfl⟩;rw [hg] at HT ⊢;generalize (W9.alloc (.cells (Bi y) 81))=W6 at *
 clear hg fw bd HY aW mg gM kN;have kj:PT.er y.ty=x.1:=by rw [←fG.o];rfl
 have on:=AA kj;have dv:Hd (∀W',Below W6.heap.size W6 W'→F9 W6.heap.size none 0 0 [] none 0 0 [] y.ty W'):=fun W' hb=>H6 ⟨AF.none _ _ _,AF.none _ _ _,by decide,by decide,fun z hz=>(nomatch hz)⟩ y.ty hU.o.ty (by rw [kj];exact mL.o.effs) (by have h1:=gd;rw [←kj,Gk] at h1;omega) W' hb;clear kj gd;go_upto_region 8 with fail;refine wp_region_noPanic ?_;refine rg (fun W'=>SE w a g y W') (HT.o.step (AR W6)) fun aA=>?_;refine tp 0 27 ?_;refine t4 1 28 y.ty g 0 (fun W' aC=>Bd aC.t _ (by intro i v hv;match i,hv with|0,hv=>exact hv|1,hv=>exact hv|2,hv=>exact hv|3,hv=>exact hv)) ?_;refine tp 3 30 ?_;refine tp 4 31 ?_ (hy:=fun w aC=>by(try dsimp only at aC);have q4:w.cell? ⟨g,4,none⟩=some (.slice y.ep y.en y.ec):=(by rw [Lib.cell_of_heap aC.t];rfl);go_simp;try with_reducible rfl);refine tr 2 29 fun K hK=>?_;go_simp;have fV:=aA.ch.size;go_at_call 39;refine(dv.o _ (AR W6)).mono ?_;rintro e w5 ⟨⟨y2,rfl,iM,fi,lo⟩,hb⟩;have ia:Hd (∀b∈Ao y2,b≠w.heap.size+1∧b≠w.heap.size+1+1∧b≠w.heap.size+1+1+1∧b≠w.heap.size+1+1+1+1):=Ty (oq.o.step (AL (AR W6) hb)) fV y2 iM fi;have jB:=AA iM;have nv:=AA lo;have bJ:=AA (AL (AR W6) hb);have dH:=AA (aA.ch.step hb);clear iM fi lo fV;try go_wp2_with fail
 refine tn hK (aA.step hb) ?_;clear aA hK K;intro aA;refine DH 5 fun K hK=>?_;refine Ie (by rfl) _ _ _ (by rfl) aA.ch.o #[.int .u8 y2.head.kind,.int .i64 y2.head.rho,.slice y2.head.ep y2.head.en y2.head.ec,.slice y2.head.kp y2.head.kn y2.head.kc] (by rfl) (by rfl) rfl (by simp [Value.oneCell']) (by kernel_rfl) ?_;refine tn hK (aA.w1 rfl) ?_;clear aA hK K;intro aA;refine DH 6 fun K hK=>?_;obtain⟨v2,gD⟩:=aA.ch.m;obtain⟨q2,f2⟩:=Ea gD;clear gD;go_simp;clear q2 f2;refine tn hK (aA.set (.inl rfl) _) ?_;clear aA hK K;intro aA;refine DH 7 fun K hK=>?_;obtain⟨v3,kG⟩:=aA.ch.at_;obtain⟨q3,f3⟩:=Ea kG;clear kG;go_simp;clear q3 f3;refine tn hK (aA.set (.inr (.inl rfl)) _) ?_;clear aA hK K;intro aA;refine DH 8 fun K hK=>?_;obtain⟨v4,kH⟩:=aA.ch.e;obtain⟨q4,f4⟩:=Ea kH;clear kH;go_simp;clear q4 f4;refine tn hK (aA.set (.inr (.inr rfl)) _) ?_;clear aA hK K;intro aA;refine dn ?_;refine NoPanic.normal ?_;clear aA;go_wp2_with fail;have cI:=AA (dH.o.fill (cs:=#[.int .u8 y2.head.kind,.int .i64 y2.head.rho,.slice y2.head.ep y2.head.en y2.head.ec,.slice y2.head.kp y2.head.kn y2.head.kc]) rfl (.slice y.ep y.en y.ec) (.int .i64 0) (.int .i64 0));show bodyPostD prog f12 _ _ _ _;unfold bodyPostD;refine leaves_cons (f:=37) (args:=#[.pointer (some ⟨w.heap.size+1,0,none⟩),.pointer (some ⟨w.heap.size+1+1,0,none⟩),.pointer (some ⟨w.heap.size+1+1+1,0,none⟩),.pointer (some ⟨w.heap.size+1+1+1+1,0,none⟩)]) (by simp) (by simp [go_sem]) ?_;refine(Np _ ⟨_,_,_,_,rfl⟩ _).mono ?_;rintro e u' w6 ⟨rfl,rfl,rfl⟩;obtain⟨r1,r2,r3,r4⟩:=cI.o.res rfl;have r10:=r1 0 _ rfl;have r11:=r1 1 _ rfl;have r12:=r1 2 _ rfl;have r13:=r1 3 _ rfl;clear r1;have gX:=Bl (AG _ (w.heap.size+1+1+1+1) 0 (.int .i64 0)) y2 (fun b hb e=>by cases e;exact(ia.o _ hb).2.2.2 rfl) (Bl (AG _ (w.heap.size+1+1+1) 0 (.int .i64 0)) y2 (fun b hb e=>by cases e;exact(ia.o _ hb).2.2.1 rfl) (Bl (AG _ (w.heap.size+1+1) 0 (.slice y.ep y.en y.ec)) y2 (fun b hb e=>by cases e;exact(ia.o _ hb).2.1 rfl) (Bl (BP (W:=w5) (r:=w.heap.size+1) (cs:=#[.int .u8 y2.head.kind,.int .i64 y2.head.rho,.slice y2.head.ep y2.head.en y2.head.ec,.slice y2.head.kp y2.head.kn y2.head.kc])) y2 (fun b hb e=>by cases e;exact(ia.o _ hb).1 rfl) jB.o)));have aB:∀{W W':World} {r:Nat},(r=w.heap.size+1∨r=w.heap.size+1+1∨r=w.heap.size+1+1+1∨r=w.heap.size+1+1+1+1)→W.grownBy W' (some r)→AF AP 3 W y.ep y.en y.ec y.eff→AF AP 3 W' y.ep y.en y.ec y.eff:=fun hr hg h=>ER h hg (fun aR ad hp=>by have h6:=hU.o.euse aR ad hp;have h7:ad.block<w.heap.size∨w.heap.size+5≤ad.block:=h6;omega);have cF:=aB (.inr (.inr (.inr rfl))) (AG _ _ 0 (.int .i64 0)) (aB (.inr (.inr (.inl rfl))) (AG _ _ 0 (.int .i64 0)) (aB (.inr (.inl rfl)) (AG _ _ 0 (.slice y.ep y.en y.ec)) (aB (.inl rfl) (BP (W:=w5) (cs:=#[.int .u8 y2.head.kind,.int .i64 y2.head.rho,.slice y2.head.ep y2.head.en y2.head.ec,.slice y2.head.kp y2.head.kn y2.head.kc])) (hU.o.eff.below bJ.o))));have HB:=AA cI.o.below;have oP:=AA gX;have oY:=AA cF;clear gX aB cF;simp [Leaves,settle,results,results12,go_sem,r10,r11,r12,r13,r2,r3,r4];refine⟨⟨y2,_,_,_,rfl,oP.o,?_,?_⟩,HB.o⟩
 ·rw [nv.o,on.o];exact R3 _ mL.o.may
 ·have h1:y.eff=x.2:=by rw [←fG.o];rfl
  rw [←h1];exact oY.o
def DL(t:PA):EY:=if Ep t then GI (PA.er t) else .error (0,1)
theorem CX{w:World}{t:PA}(hl:LA.lies w t)(hs:A5 t)(hz:t.size≤1000)(hv:Vr w):Calls prog 12 #[An t.head] w fun e w'=>Fy (DL t) e w'∧Below w.heap.size w w':=by
 obtain⟨a,l,rfl⟩:∃a l,t=AD.node a l:=⟨t.head,t.kids,AD.eta t⟩;unfold DL GI;cases hm:Ep (AD.node a l) with
 |false=>rw [if_neg Bool.false_ne_true];exact Q6 hl hs hz hv hm
 |true=>
  rw [if_pos rfl];cases eh:EC (PA.er (AD.node a l)) with
  |some z=>exact Ns hl hs hz hv hm eh
  |none=>
   dsimp only;cases hr:chk [] [0] (PA.er (AD.node a l)) with
   |error e=>obtain⟨z,no⟩:=e;exact Q7 hl hs hz hv hm eh hr
   |ok x=>exact Sc hl hs hz hv hm eh hr
theorem Rg(a:AH)(l:List PA):Ep (.node a l)=(Cs a&&l.all Ep):=by unfold Ep;rw [AD.nodes_node,List.all_cons,List.all_flatten,List.all_map];rfl
def V8:RH:=⟨0,0,none,0,0,[],none,0,0⟩
def Vs:PT:=.node V8 []
theorem O4(W:World):LR.lies W Vs:=A4.lies ⟨⟨AF.none _ _ _,(by intro x hx;cases hx),by decide,by decide,by decide,by decide,by decide,by decide,fun _=>rfl⟩,AF.none _ _ _,(by intro x hx;cases hx)⟩
abbrev Uv(kind n rho:Int)(kp:Option Addr)(kn kc:Nat):AH:=⟨kind,0,0,n,⟨#[]⟩,⟨#[]⟩,⟨#[]⟩,rho,none,0,0,[],none,0,0,[],Vs,Vs,kp,kn,kc⟩
theorem UW(W:World){kind n rho:Int}{kp:Option Addr}{kn kc:Nat}(h0:0≤kind)(h1:kind≤255)(hn:Mn n)(hr:Mn rho)(hk:kn≤9223372036854775807)(hc:kn≤kc)(hp:kp=none→kc=0):AH.Own W (Uv kind n rho kp kn kc):=⟨h0,h1,(show (0:Int)≤0 by omega),(show (0:Int)≤255 by omega),⟨(show (-9223372036854775808:Int)≤0 by omega),(show (0:Int)≤9223372036854775807 by omega)⟩,hn,(show 0≤9223372036854775807 by omega),(show 0≤9223372036854775807 by omega),(show 0≤9223372036854775807 by omega),hr,AF.none _ _ _,(by intro x hx;cases hx),AF.none _ _ _,(by intro x hx;cases hx),O4 W,O4 W,hk,hc,hp⟩
theorem IV{W:World}{kind n rho:Int}{kp:Option Addr}{kn kc:Nat}{l:List PA}(h0:0≤kind)(h1:kind≤255)(hn:Mn n)(hr:Mn rho)(hR:C7 W kp kn kc l):LA.lies W (.node (Uv kind n rho kp kn kc) l):=Dl.lies ⟨UW W h0 h1 hn hr hR.row.max hR.row.le hR.row.nil,hR.row,hR.each⟩
theorem Ki(W:World){kind n rho:Int}(h0:0≤kind)(h1:kind≤255)(hn:Mn n)(hr:Mn rho):LA.lies W (.node (Uv kind n rho none 0 0) []):=IV h0 h1 hn hr ⟨AF.none _ _ _,(by intro x hx;cases hx)⟩
theorem Gs(kind n rho:Int)(kp:Option Addr)(kn kc:Nat):CB (Uv kind n rho kp kn kc):=⟨(show 0≤100 by omega),(show 0≤100 by omega),(show 0≤100 by omega),(show 0≤50 by omega),rfl,⟨(show Vs.er.size≤100 by decide),rfl⟩,⟨(show Vs.er.size≤100 by decide),rfl⟩⟩
theorem Rq{w:World}{x y:PA}(hx:LA.lies w x)(hy:LA.lies w y)(cs:Array Value)(ao:cs=(LA.encT x++LA.encT y).toArray)(e:TypeId)(gs:Nat)(bF:w.heap.size=gs):C7 (w.alloc (.cells cs e)) (some ⟨gs,0,none⟩) 2 2 [x,y]:=by
 subst bF;refine⟨AW Et (by omega) w e [x,y] 2 _ (by simp [ao]) rfl (by decide),fun z hz=>?_⟩;have hb:Below w.heap.size w (w.alloc (.cells cs e)):=(Below.refl _ w).alloc (Nat.le_refl _) _;rcases List.mem_cons.1 hz with rfl|hz
 ·exact LA.lies_below hb _ hx
 ·rw [List.mem_singleton.1 hz];exact LA.lies_below hb _ hy
theorem SC(W:World)(cs vals:Array Value)(e:TypeId)(g:Nat)(h:W.heap.size=g):(W.alloc (.cells cs e)).setRow g vals=W.alloc (.cells vals e):=by subst h;exact World.setRow_alloc_new ..
theorem CQ(W:World)(cs:Array Value)(e:TypeId)(g:Nat)(h:W.heap.size=g):(W.alloc (.cells cs e)).heap[g]?=some (.cells cs e (0,0)):=by subst h;exact heap_alloc_new W _
theorem V2{W:World}(h:W.ShapedOpen prog):Vr W:=by obtain⟨m,h⟩:=S5.s1_3 W h;exact⟨m,h⟩
theorem FM{b:Bool}{a:CL}{no z k:Int}{r:EY}(hn:no≠0)(hr:∀z k,r=.error (z,k)→k≠0)(h:A6 b a no r=.error (z,k)):k≠0:=by
 unfold A6 Jn at h;cases b with
 |true=>exact hr z k h
 |false=>simp at h;rw [←h.2];exact hn
theorem J2{a:CL}{no z k:Int}(hn:no≠0)(h:Jn a no=.error (z,k)):k≠0:=by unfold Jn at h;simp at h;rw [←h.2];exact hn
def U0(r:EY):Prop:=∀z k,r=.error (z,k)→k≠0
theorem VF(x:TE):U0 (.ok x):=fun z k h=>(nomatch h)
theorem UX{c:Prop} [Decidable c] {x y:EY} (hx:U0 x) (hy:U0 y):U0 (if c then x else y):=by
 split
 ·exact hx
 ·exact hy
theorem S9{b:Bool}{a:CL}{no:Int}{r:EY}(hn:no≠0)(hr:U0 r):U0 (A6 b a no r):=fun z k h=>FM hn hr h
theorem Ue{a:CL}{l:List TE}{z k:Int}(h:A3 a l=.error (z,k)):k≠0:=by
 have hN:U0 (A3 a l):=by
  unfold A3 Bv;dsimp only
  repeat' first
   |exact VF _
   |exact fun z k h=>J2 (by decide) h
   |refine UX ?_ ?_
   |refine S9 (by decide) ?_
 exact hN z k h
theorem U6(t:AT):∀env rhos z k,chk env rhos t=.error (z,k)→k≠0:=by
 refine AD.ind (P:=fun(t:AT)=>∀env rhos z k,chk env rhos t=.error (z,k)→k≠0) (fun a l ih env rhos z k h=>?_) t
 have hL:∀(m:List AT) (i:Nat) (acc:List TE),(∀t∈m,t∈l)→∀e,FE env rhos a i acc m=.error e→e.2≠0:=by
  intro m;induction m with
  |nil=>intro i acc _ e h;rw [GJ] at h;cases h
  |cons t m ihm=>
   intro i acc hm e h;rw [EW] at h;cases hc:chk (Ai env a i acc) (Aq rhos a i) t with
   |error e'=>
    rw [hc] at h;simp only [Except.error.injEq] at h;subst h;exact ih t (hm t (by simp)) _ _ _ _ hc
   |ok r=>
    rw [hc] at h;exact ihm _ _ (fun u hu=>hm u (by simp [hu])) e h
 have ax:∀{x:TE} (z k:Int),(Except.ok x:EY)=.error (z,k)→k≠0:=fun z k h=>(nomatch h)
 have hf:∀z k,Bw env rhos a l=.error (z,k)→k≠0:=by
  intro z k h;unfold Bw at h;refine FM (by decide) (fun z k h=>?_) h;split at h
  ·unfold Ii at h;split at h
   ·exact J2 (by decide) h
   ·exact FM (by decide) ax h
  ·split at h
   ·unfold C8 at h;split at h
    ·exact J2 (by decide) h
    ·split at h
     ·exact J2 (by decide) h
     ·exact FM (by decide) (fun z k h=>FM (by decide) ax h) h
   ·split at h
    ·rename_i e he;simp only [Except.error.injEq] at h;subst h;exact hL l 0 [] (fun t h=>h) _ he
    ·exact Ue h
 rw [KK] at h;unfold K2 at h;split at h
 ·exact FM (by decide) ax h
 ·rename_i e he;simp only [Except.error.injEq] at h;subst h;exact hf _ _ he
theorem Sb{t:PA}{z k:Int}(h:DL t=.error (z,k)):k≠0:=by
 unfold DL GI at h;split at h
 ·split at h
  ·simp at h;omega
  ·exact U6 _ _ _ _ _ h
 ·simp at h;omega
structure CE(w:World)(t:PA):Prop where
 lies:LA.lies w t
 small:A5 t
 size:t.size≤200
 ex:Ci t
theorem CE.below{w w':World}{t:PA}(h:CE w t)(hb:Below w.heap.size w w'):CE w' t:=⟨LA.lies_below hb t h.lies,h.small,h.size,h.ex⟩
theorem Gm{w:World}(t:PA)(hl:LA.lies w t):Calls prog 10 #[An t.head] w fun e w'=>(∃r,e=.returned (.bool r)∧(r=false→CE w t))∧Below w.heap.size w w':=by
 have HB:=AA ((Below.refl w.heap.size w).alloc (Nat.le_refl _) (AO t.head));have aM:=AA (Ah w t.head);have HG:=AA (Ko (LA.lies_below HB.o t hl));have HL:=AA hl;clear hl;go_enter func10,ntmps10
 go_wp2_with (first
  |(refine lw aM.o.blk underlying31 ?_)
  |(refine Pr [.int .u8 t.head.kind,.int .u8 t.head.op,.int .i64 t.head.at_,.int .i64 t.head.n,.string t.head.name,.string t.head.arg,.string t.head.exn,.int .i64 t.head.rho,.slice t.head.rp t.head.rn t.head.rc,.slice t.head.ep t.head.en t.head.ec,.int .u8 t.head.ty.head.kind,.int .i64 t.head.ty.head.rho,.slice t.head.ty.head.ep t.head.ty.head.en t.head.ty.head.ec,.slice t.head.ty.head.kp t.head.ty.head.kn t.head.ty.head.kc,.int .u8 t.head.res.head.kind,.int .i64 t.head.res.head.rho,.slice t.head.res.head.ep t.head.res.head.en t.head.res.head.ec,.slice t.head.res.head.kp t.head.res.head.kn t.head.res.head.kc,.slice t.head.kp t.head.kn t.head.kc] aM.o.range underlying31 ?_)
  |(go_at_call 33;refine HG.o.mono ?_;rintro e w8 ⟨⟨r,rfl,cV⟩,hb⟩;have HB:=bt HB hb;have aM:=AA (aM.o.below hb);clear hb;have du:=AA cV;clear cV;cases r;have bj:=AA (show t.size≤1000 from Nat.le_trans (du.o rfl).1 (by omega)))
  |(go_at_call 26;refine(Qy t _ (LA.lies_below HB.o t HL.o) bj.o).mono ?_;rintro e w9 ⟨⟨p,c,rfl,aD⟩,hb⟩;clear aD;have HB:=bt HB hb;clear hb))
 ·go_ret;exact⟨⟨_,rfl,fun h=>⟨HL.o,(du.o (by first|trivial|rfl)).2.small,by simp at h;omega,(du.o (by first|trivial|rfl)).2⟩⟩,HB.o⟩
 ·go_ret;exact⟨⟨_,rfl,fun h=>by simp at h⟩,HB.o⟩
def Ql:PA:=.node (Uv 1 1 0 none 0 0) []
def Qp(g:Nat)(r:Int):PA:=.node (Uv 3 0 r (some ⟨g,0,none⟩) 2 2) [Ql,Ql]
theorem TL{w:World}(r:Int)(hr:Mn r):Calls prog 34 #[.int .i64 r] w fun e w'=>∃g:Nat,e=.returned (.agg #[.int .u8 3,.int .u8 0,.int .i64 0,.int .i64 0,.string ⟨#[]⟩,.string ⟨#[]⟩,.string ⟨#[]⟩,.int .i64 r,.slice none 0 0,.slice none 0 0,.int .u8 0,.int .i64 0,.slice none 0 0,.slice none 0 0,.int .u8 0,.int .i64 0,.slice none 0 0,.slice none 0 0,.slice (some ⟨g,0,none⟩) 2 2])∧LA.lies w' (Qp g r)∧Below w.heap.size w w':=by
 have kl:=CQ w #[.int .u8 0,.int .u8 0,.int .i64 0,.int .i64 0,.string ⟨#[]⟩,.string ⟨#[]⟩,.string ⟨#[]⟩,.int .i64 0,.slice none 0 0,.slice none 0 0,.int .u8 0,.int .i64 0,.slice none 0 0,.slice none 0 0,.int .u8 0,.int .i64 0,.slice none 0 0,.slice none 0 0,.slice none 0 0] 31 _ rfl;have mu:Below w.heap.size w (w.alloc (.cells #[.int .u8 0,.int .u8 0,.int .i64 0,.int .i64 0,.string ⟨#[]⟩,.string ⟨#[]⟩,.string ⟨#[]⟩,.int .i64 0,.slice none 0 0,.slice none 0 0,.int .u8 0,.int .i64 0,.slice none 0 0,.slice none 0 0,.int .u8 0,.int .i64 0,.slice none 0 0,.slice none 0 0,.slice none 0 0] 31)):=bA;have hV:=AA kl;have mG:=AA mu;have HR:=AA hr;clear kl mu hr;go_enter func34,ntmps34;go_upto_region 2 with(refine sn #[.int .u8 1,.int .u8 0,.int .i64 0,.int .i64 1,.string ⟨#[]⟩,.string ⟨#[]⟩,.string ⟨#[]⟩,.int .i64 0,.slice none 0 0,.slice none 0 0,.int .u8 0,.int .i64 0,.slice none 0 0,.slice none 0 0,.int .u8 0,.int .i64 0,.slice none 0 0,.slice none 0 0,.slice none 0 0] ?_)
 have jM:=AA (CQ (w.alloc (.cells #[.int .u8 0,.int .u8 0,.int .i64 0,.int .i64 0,.string ⟨#[]⟩,.string ⟨#[]⟩,.string ⟨#[]⟩,.int .i64 0,.slice none 0 0,.slice none 0 0,.int .u8 0,.int .i64 0,.slice none 0 0,.slice none 0 0,.int .u8 0,.int .i64 0,.slice none 0 0,.slice none 0 0,.slice none 0 0] 31)) #[.int .u8 1,.int .u8 0,.int .i64 0,.int .i64 1,.string ⟨#[]⟩,.string ⟨#[]⟩,.string ⟨#[]⟩,.int .i64 0,.slice none 0 0,.slice none 0 0,.int .u8 0,.int .i64 0,.slice none 0 0,.slice none 0 0,.int .u8 0,.int .i64 0,.slice none 0 0,.slice none 0 0,.slice none 0 0] 31 _ rfl);have bD:Below (w.alloc (.cells #[.int .u8 0,.int .u8 0,.int .i64 0,.int .i64 0,.string ⟨#[]⟩,.string ⟨#[]⟩,.string ⟨#[]⟩,.int .i64 0,.slice none 0 0,.slice none 0 0,.int .u8 0,.int .i64 0,.slice none 0 0,.slice none 0 0,.int .u8 0,.int .i64 0,.slice none 0 0,.slice none 0 0,.slice none 0 0] 31)).heap.size (w.alloc (.cells #[.int .u8 0,.int .u8 0,.int .i64 0,.int .i64 0,.string ⟨#[]⟩,.string ⟨#[]⟩,.string ⟨#[]⟩,.int .i64 0,.slice none 0 0,.slice none 0 0,.int .u8 0,.int .i64 0,.slice none 0 0,.slice none 0 0,.int .u8 0,.int .i64 0,.slice none 0 0,.slice none 0 0,.slice none 0 0] 31)) ((w.alloc (.cells #[.int .u8 0,.int .u8 0,.int .i64 0,.int .i64 0,.string ⟨#[]⟩,.string ⟨#[]⟩,.string ⟨#[]⟩,.int .i64 0,.slice none 0 0,.slice none 0 0,.int .u8 0,.int .i64 0,.slice none 0 0,.slice none 0 0,.int .u8 0,.int .i64 0,.slice none 0 0,.slice none 0 0,.slice none 0 0] 31)).alloc (.cells #[.int .u8 1,.int .u8 0,.int .i64 0,.int .i64 1,.string ⟨#[]⟩,.string ⟨#[]⟩,.string ⟨#[]⟩,.int .i64 0,.slice none 0 0,.slice none 0 0,.int .u8 0,.int .i64 0,.slice none 0 0,.slice none 0 0,.int .u8 0,.int .i64 0,.slice none 0 0,.slice none 0 0,.slice none 0 0] 31)):=bA;have lZ:=AA ((bD.block _ (AV hV.o)).trans hV.o);have aO:=bt mG bD;have dM:(w.alloc (.cells #[.int .u8 0,.int .u8 0,.int .i64 0,.int .i64 0,.string ⟨#[]⟩,.string ⟨#[]⟩,.string ⟨#[]⟩,.int .i64 0,.slice none 0 0,.slice none 0 0,.int .u8 0,.int .i64 0,.slice none 0 0,.slice none 0 0,.int .u8 0,.int .i64 0,.slice none 0 0,.slice none 0 0,.slice none 0 0] 31)).heap.size=w.heap.size+1:=by simp
 rw [dM] at jM;clear bD dM hV mG;generalize ((w.alloc (.cells #[.int .u8 0,.int .u8 0,.int .i64 0,.int .i64 0,.string ⟨#[]⟩,.string ⟨#[]⟩,.string ⟨#[]⟩,.int .i64 0,.slice none 0 0,.slice none 0 0,.int .u8 0,.int .i64 0,.slice none 0 0,.slice none 0 0,.int .u8 0,.int .i64 0,.slice none 0 0,.slice none 0 0,.slice none 0 0] 31)).alloc (.cells #[.int .u8 1,.int .u8 0,.int .i64 0,.int .i64 1,.string ⟨#[]⟩,.string ⟨#[]⟩,.string ⟨#[]⟩,.int .i64 0,.slice none 0 0,.slice none 0 0,.int .u8 0,.int .i64 0,.slice none 0 0,.slice none 0 0,.int .u8 0,.int .i64 0,.slice none 0 0,.slice none 0 0,.slice none 0 0] 31))=W1 at *
 have aj:Below W1.heap.size W1 (W1.alloc (.cells #[.int .u8 1,.int .u8 0,.int .i64 0,.int .i64 1,.string ⟨#[]⟩,.string ⟨#[]⟩,.string ⟨#[]⟩,.int .i64 0,.slice none 0 0,.slice none 0 0,.int .u8 0,.int .i64 0,.slice none 0 0,.slice none 0 0,.int .u8 0,.int .i64 0,.slice none 0 0,.slice none 0 0,.slice none 0 0,.int .u8 1,.int .u8 0,.int .i64 0,.int .i64 1,.string ⟨#[]⟩,.string ⟨#[]⟩,.string ⟨#[]⟩,.int .i64 0,.slice none 0 0,.slice none 0 0,.int .u8 0,.int .i64 0,.slice none 0 0,.slice none 0 0,.int .u8 0,.int .i64 0,.slice none 0 0,.slice none 0 0,.slice none 0 0] 31)):=bA;have ib:=AA ((aj.block _ (AV lZ.o)).trans lZ.o);have bK:=AA (Rq (Ki W1 (kind:=1) (n:=1) (rho:=0) (by omega) (by omega) ⟨by omega,by omega⟩ ⟨by omega,by omega⟩) (Ki W1 (kind:=1) (n:=1) (rho:=0) (by omega) (by omega) ⟨by omega,by omega⟩ ⟨by omega,by omega⟩) #[.int .u8 1,.int .u8 0,.int .i64 0,.int .i64 1,.string ⟨#[]⟩,.string ⟨#[]⟩,.string ⟨#[]⟩,.int .i64 0,.slice none 0 0,.slice none 0 0,.int .u8 0,.int .i64 0,.slice none 0 0,.slice none 0 0,.int .u8 0,.int .i64 0,.slice none 0 0,.slice none 0 0,.slice none 0 0,.int .u8 1,.int .u8 0,.int .i64 0,.int .i64 1,.string ⟨#[]⟩,.string ⟨#[]⟩,.string ⟨#[]⟩,.int .i64 0,.slice none 0 0,.slice none 0 0,.int .u8 0,.int .i64 0,.slice none 0 0,.slice none 0 0,.int .u8 0,.int .i64 0,.slice none 0 0,.slice none 0 0,.slice none 0 0] rfl 31 _ rfl);have aI:=bt aO aj;clear aj
 go_wp2_with (first
  |(refine lw jM.o underlying31 ?_)
  |(refine sw #[.int .u8 3,.int .u8 0,.int .i64 0,.int .i64 0,.string ⟨#[]⟩,.string ⟨#[]⟩,.string ⟨#[]⟩,.int .i64 r,.slice none 0 0,.slice none 0 0,.int .u8 0,.int .i64 0,.slice none 0 0,.slice none 0 0,.int .u8 0,.int .i64 0,.slice none 0 0,.slice none 0 0,.slice (some ⟨W1.heap.size,0,none⟩) 2 2] ib.o ?_))
 refine br (setRow_heap _ _ _ _ _ _ ib.o) underlying31 ?_;have cV:(W1.alloc (.cells #[.int .u8 1,.int .u8 0,.int .i64 0,.int .i64 1,.string ⟨#[]⟩,.string ⟨#[]⟩,.string ⟨#[]⟩,.int .i64 0,.slice none 0 0,.slice none 0 0,.int .u8 0,.int .i64 0,.slice none 0 0,.slice none 0 0,.int .u8 0,.int .i64 0,.slice none 0 0,.slice none 0 0,.slice none 0 0,.int .u8 1,.int .u8 0,.int .i64 0,.int .i64 1,.string ⟨#[]⟩,.string ⟨#[]⟩,.string ⟨#[]⟩,.int .i64 0,.slice none 0 0,.slice none 0 0,.int .u8 0,.int .i64 0,.slice none 0 0,.slice none 0 0,.int .u8 0,.int .i64 0,.slice none 0 0,.slice none 0 0,.slice none 0 0] 31)).grownBy ((W1.alloc (.cells #[.int .u8 1,.int .u8 0,.int .i64 0,.int .i64 1,.string ⟨#[]⟩,.string ⟨#[]⟩,.string ⟨#[]⟩,.int .i64 0,.slice none 0 0,.slice none 0 0,.int .u8 0,.int .i64 0,.slice none 0 0,.slice none 0 0,.int .u8 0,.int .i64 0,.slice none 0 0,.slice none 0 0,.slice none 0 0,.int .u8 1,.int .u8 0,.int .i64 0,.int .i64 1,.string ⟨#[]⟩,.string ⟨#[]⟩,.string ⟨#[]⟩,.int .i64 0,.slice none 0 0,.slice none 0 0,.int .u8 0,.int .i64 0,.slice none 0 0,.slice none 0 0,.int .u8 0,.int .i64 0,.slice none 0 0,.slice none 0 0,.slice none 0 0] 31)).setRow w.heap.size #[.int .u8 3,.int .u8 0,.int .i64 0,.int .i64 0,.string ⟨#[]⟩,.string ⟨#[]⟩,.string ⟨#[]⟩,.int .i64 r,.slice none 0 0,.slice none 0 0,.int .u8 0,.int .i64 0,.slice none 0 0,.slice none 0 0,.int .u8 0,.int .i64 0,.slice none 0 0,.slice none 0 0,.slice (some ⟨W1.heap.size,0,none⟩) 2 2]) (some w.heap.size):=BP;have aR:w.heap.size<W1.heap.size:=AV lZ.o;refine⟨W1.heap.size,rfl,IV (by omega) (by omega) ⟨by omega,by omega⟩ HR.o ⟨ER bK.o.row cV (fun _ ad hp=>by cases hp;dsimp only;omega),fun t ht=>?_⟩,aI.o.grown cV aI.o.size (fun k e=>by cases e;exact Nat.le_refl _)⟩;have l7:t=Ql:=by simpa using ht
 rw [l7];exact Ki _ (by omega) (by omega) ⟨by omega,by omega⟩ ⟨by omega,by omega⟩
theorem OR(g:Nat)(r:Int):A5 (Qp g r):=A5.node (Gs ..) (fun t ht=>by
 have l7:t=Ql:=by simpa using ht
 rw [l7];exact A5.node (Gs ..) (fun t ht=>by cases ht))
def RR(g1 g2:Nat):PA:=.node (Uv 4 0 0 (some ⟨g2,0,none⟩) 1 1) [Qp g1 1]
def Ud(g1 g2 g3:Nat):PA:=.node (Uv 17 0 1 (some ⟨g3,0,none⟩) 1 1) [RR g1 g2]
theorem KY(g1 g2:Nat):A5 (RR g1 g2):=A5.node (Gs ..) (fun t ht=>by rw [List.mem_singleton.1 ht];exact OR _ _)
theorem P0(g1 g2 g3:Nat):A5 (Ud g1 g2 g3):=A5.node (Gs ..) (fun t ht=>by rw [List.mem_singleton.1 ht];exact KY _ _)
theorem Pz(g1 g2 g3:Nat):DL (Ud g1 g2 g3)=.ok (Fi,[]):=by kernel_rfl
theorem Pa(g1 g2:Nat):DL (RR g1 g2)=.error (0,4):=by kernel_rfl
end Go.Proofs.YtkdjnegfnhldpaaGreatDoor
