/- Part 18. -/
import Derived.Test.YtkdjnegfnhldpaaGreatDoorK17
set_option linter.unusedVariables false
set_option maxRecDepth 100000
set_option linter.unusedSimpArgs false
set_option maxHeartbeats 40000000
namespace Go.Proofs.YtkdjnegfnhldpaaGreatDoor
open Go.Proofs.Tryz Go.RowKit
structure EJ(w:World)(a:AH)(W:World):Prop where
 box:CW W w.heap.size a
 res:∃cs:Array Value,cs.size=5∧W.heap[w.heap.size+1]?=some (.cells cs 81 (0,0))
 below:Below w.heap.size w W
 size:w.heap.size+2≤W.heap.size
theorem B3(w:World)(a:AH):EJ w a ((w.alloc (AO a)).alloc (.cells #[.int .u8 0,.int .i64 0,.slice none 0 0,.slice none 0 0,.slice none 0 0] 81)):=by have e:=heap_alloc_new (w.alloc (AO a)) (.cells #[.int .u8 0,.int .i64 0,.slice none 0 0,.slice none 0 0,.slice none 0 0] 81);simp only [World.size_alloc] at e;exact⟨(Ah w a).below bA,⟨_,rfl,e⟩,((Below.refl w.heap.size w).alloc (Nat.le_refl _) _).alloc (by simp) _,by simp⟩
theorem EJ.step{w W W':World}{a:AH}(h:EJ w a W)(hb:Below W.heap.size W W'):EJ w a W':=by obtain⟨cs,h1,h2⟩:=h.res;exact⟨h.box.below hb,⟨cs,h1,(hb.block _ (Array.getElem?_eq_some_iff.1 h2).1).trans h2⟩,h.below.trans (hb.mono h.below.size),Nat.le_trans h.size hb.size⟩
theorem EJ.alloc{w W:World}{a:AH}(h:EJ w a W)(o:Obj):EJ w a (W.alloc o):=h.step bA
theorem EJ.drew{w W:World}{a:AH}(h:EJ w a W):EJ w a W.drew:=h.step (AR W)
theorem EJ.store{w W:World}{a:AH}(h:EJ w a W){cs:Array Value}(hc:cs.size=5):EJ w a (W.setRow (w.heap.size+1) cs):=by obtain⟨cs',h1,h2⟩:=h.res;exact⟨⟨(setRow_other _ _ _ _ (by omega)).trans h.box.blk⟩,⟨cs,hc,setRow_heap _ _ _ _ _ _ h2⟩,h.below.grown BP h.below.size (fun k e=>by cases e;omega),by have:=h.size;simpa using this⟩
theorem Dw{P:Program}{ops:Array Oper}{rest:List Oper}{o:Oper}{act:Act}{Q:Exit→Act→World→Prop}(bG:o.guard=none)(ty:TypeId)(x y:Operand)(ho:o.op=.store ty x y){w W:World}{a:AH}(h:EJ w a W)(cells:Array Value)(hx:act.eval x=.pointer (some ⟨w.heap.size+1,0,none⟩))(hy:act.eval y=.agg cells)(hi:(P.info? ty).map (·.size)=some cells.size)(h5:cells.size=5)(h1:cells.all (·.oneCell')=true)(hK:wpList P ops Q rest (act.put o.dst undef) (W.setRow (w.heap.size+1) cells)):wpList P ops Q (o::rest) act W:=by obtain⟨cs,e1,e2⟩:=h.res;exact wpList_store_row bG ty x y ho (w.heap.size+1) cells hx hy 81 cs e2 hi (by omega) h1 hK
theorem Al{P:Program}{ops:Array Oper}{o:Oper}{act:Act}{K:Act→World→Prop}{Q:Exit→Act→World→Prop}{E:Prop}(bG:o.guard=none)(ty:TypeId)(x y:Operand)(ho:o.op=.store ty x y){w W:World}{a:AH}(h:EJ w a W)(cells:Array Value)(hx:act.eval x=.pointer (some ⟨w.heap.size+1,0,none⟩))(hy:act.eval y=.agg cells)(hi:(P.info? ty).map (·.size)=some cells.size)(h5:cells.size=5)(h1:cells.all (·.oneCell')=true)(hK:K (act.put o.dst undef) (W.setRow (w.heap.size+1) cells)):if Region.wanted o (yielded ops act.tmps)=true then Oper.wp P o act W K Q else E:=by obtain⟨cs,e1,e2⟩:=h.res;rw [if_pos (by simp [Region.wanted,bG])];exact wp_store_row ty x y ho (w.heap.size+1) cells hx hy 81 cs e2 hi (by omega) h1 hK
theorem Td{w W:World}{a:AH}(h:EJ w a W){S:Nat→Prop}(hS:¬S (w.heap.size+1)){y:RV}(hy:y.Ok W S)(cs:Array Value):y.Ok (W.setRow (w.heap.size+1) cs) S:=hy.grown BP (fun b e=>by cases e;exact hS)
def Sn(w:World)(S:Nat→Prop)(b:Nat):Prop:=(b<w.heap.size∧S b)∨w.heap.size+2≤b
theorem EJ.heap{w W:World}{a:AH}(h:EJ w a W)(cs:Array Value):(W.setRow (w.heap.size+1) cs).heap[w.heap.size+1]?=some (.cells cs 81 (0,0)):=by obtain⟨cs',_,h2⟩:=h.res;exact setRow_heap _ _ _ _ _ _ h2
abbrev Bi(y:RV):Array Value:=#[.int .u8 y.ty.head.kind,.int .i64 y.ty.head.rho,.slice y.ty.head.ep y.ty.head.en y.ty.head.ec,.slice y.ty.head.kp y.ty.head.kn y.ty.head.kc,.slice y.ep y.en y.ec]
theorem DN{w W:World}{a:AH}{S:Nat→Prop}{y:RV}{x:TE}(h:EJ w a W)(hS:∀b,w.heap.size≤b→S b)(hy:y.Ok W (Sn w S))(hx:y.er=x):Co w S (.ok x) (.returned (JJ y)) (W.setRow (w.heap.size+1) (Bi y)):=by
 have hn:¬Sn w S (w.heap.size+1):=by rintro(⟨h1,_⟩|h1)<;>omega
 refine⟨⟨y,rfl,hx,(Td h hn hy _).weak (fun b _ hb=>?_)⟩,(h.store (cs:=Bi y) rfl).below⟩;rcases hb with⟨_,h2⟩|h2
 ·exact h2
 ·exact hS b (by omega)
theorem Du{w W:World}{S:Nat→Prop}{p:Option Addr}{n c:Nat}{l:List RV}(h:IG w S p n c l)(hb:Below w.heap.size w W):IG W (Sn w S) p n c l:=⟨h.row.below hb,fun r hr=>((h.each r hr).weak (fun b h1 h2=>.inl ⟨h1,h2⟩)).below hb⟩
theorem Cz{l:List RV}{more:List AB}(hl:∀r∈l,∀x∈r.eff,DD x)(hm:∀x∈more,DD x):∀x∈A1 (BM l) more,DD x:=fun x hx=>by
 rcases (Ne hx).1 with h|⟨y,hy,h⟩
 ·exact hm x h
 ·obtain⟨r,hr,rfl⟩:=List.mem_map.1 hy;exact hl r hr x h
structure Dm(w:World)(S:Nat→Prop)(a:AH)(p:Option Addr)(n c:Nat)(l:List RV):Prop where
 own:AH.Own w a
 small:CB a
 res:IG w S p n c l
 new:∀b,w.heap.size≤b→S b
 ty:∀b∈Ao a.ty,S b
 few:n≤1000
 sum:(l.map (·.en)).sum≤900000
 good:∀r∈l,Bj r.ty.er=true∧BL r.ty.er=true∧r.ty.size≤1000
theorem Pn{w W:World}{a:AH}{S:Nat→Prop}{q q3:Option Addr}{m qc k c3:Nat}{eff:List AB}(h:EJ w a W)(hS:∀b,w.heap.size≤b→S b)(aB:AF AP 3 W q m qc [])(ab:AF AP 3 W q3 k c3 eff)(bM:∀ad,q3=some ad→w.heap.size+2≤ad.block)(ax:∀x∈eff,DD x):Co w S (.ok (Fi,eff)) (.returned (.agg #[.int .u8 1,.int .i64 0,.slice q m qc,.slice none 0 0,.slice q3 k c3])) (W.setRow (w.heap.size+1) #[.int .u8 1,.int .i64 0,.slice q m qc,.slice none 0 0,.slice q3 k c3]):=by have hl:LR.lies W (.node ⟨1,0,q,m,qc,[],none,0,0⟩ []):=A4.lies ⟨⟨aB,(fun x hx=>(nomatch hx)),by dsimp only;decide,by dsimp only;decide,by dsimp only;decide,by dsimp only;decide,by dsimp only;decide,by dsimp only;decide,fun _=>rfl⟩,AF.none _ _ _,fun t ht=>by cases ht⟩;exact DN (y:=⟨.node ⟨1,0,q,m,qc,[],none,0,0⟩ [],q3,k,c3,eff⟩) h hS ⟨hl,fun b hb=>by simp [DP] at hb,ab,ax,fun _ ad hp=>.inr (bM ad hp)⟩ rfl
theorem Oc{W:World}{b o n c:Nat}{l:List RV}(h:AF Bt 5 W (some ⟨b,o,none⟩) n c l){j:Nat}{x:RV}(hx:l[j]?=some x):W.rangeAt b (o+j * 5) (Bt x):=fun i v hv=>by obtain⟨b',o',hp,_,hc⟩:=h.row.elem hx;cases hp;exact hc i v hv
theorem Hy{W:World}{b o:Nat}{cs:List Value}(h:W.rangeAt b o cs)(k:Nat):W.rangeAt b o (cs.take k):=fun i v hv=>by
 rw [List.getElem?_take] at hv;split at hv
 ·exact h i v hv
 ·cases hv
theorem Fe{W:World}{b o n c:Nat}{x:RV}{l:List RV}(h:AF Bt 5 W (some ⟨b,o,none⟩) n c (x::l)):W.rangeAt b o [.int .u8 x.ty.head.kind,.int .i64 x.ty.head.rho,.slice x.ty.head.ep x.ty.head.en x.ty.head.ec,.slice x.ty.head.kp x.ty.head.kn x.ty.head.kc]:=by have:=Hy (Oc h (j:=0) rfl) 4;simpa [Bt] using this
theorem Gb{W:World}{b o n c:Nat}{x y:RV}{l:List RV}(h:AF Bt 5 W (some ⟨b,o,none⟩) n c (x::y::l)):W.rangeAt b (o+5) [.int .u8 y.ty.head.kind,.int .i64 y.ty.head.rho,.slice y.ty.head.ep y.ty.head.en y.ty.head.ec,.slice y.ty.head.kp y.ty.head.kn y.ty.head.kc]:=by have:=Hy (Oc h (j:=1) rfl) 4;simpa [Bt] using this
theorem VK{W:World}{b o n c:Nat}{x y z:RV}{l:List RV}(h:AF Bt 5 W (some ⟨b,o,none⟩) n c (x::y::z::l)):W.rangeAt b (o+10) [.int .u8 z.ty.head.kind,.int .i64 z.ty.head.rho,.slice z.ty.head.ep z.ty.head.en z.ty.head.ec,.slice z.ty.head.kp z.ty.head.kn z.ty.head.kc]:=by have:=Hy (Oc h (j:=2) rfl) 4;simpa [Bt] using this
theorem D0{W:World}{b o n c:Nat}{x:RV}{l:List RV}(h:AF Bt 5 W (some ⟨b,o,none⟩) n c (x::l)):W.rangeAt b o (Bt x):=by simpa using Oc h (j:=0) rfl
theorem FN{r:Int}(h0:-9223372036854775808≤r)(h1:r≤9223372036854775807):DD (Bu r):=⟨by show (0:Int)≤2;decide,by show (2:Int)≤255;decide,h0,h1,by show (ByteArray.size ⟨#[]⟩)≤_;decide⟩
theorem GV{r:Int}(h0:-9223372036854775808≤r)(h1:r≤9223372036854775807):DD (CC r):=⟨by show (0:Int)≤1;decide,by show (1:Int)≤255;decide,h0,h1,by show (ByteArray.size ⟨#[]⟩)≤_;decide⟩
theorem Dy(w:World)(x:AB):AF AP 3 (w.alloc (.cells #[.int .u8 x.kind,.int .i64 x.rho,.string x.exn] 59)) (some ⟨w.heap.size,0,none⟩) 1 1 [x]:=AW AC (by omega) w 59 [x] 1 _ rfl rfl (by decide)
theorem I8{W:World}{k rho:Int}{q:Option Addr}{m qc g:Nat}{eff:List AB}{x y:PT}(hk:0≤k∧k≤255)(hr:Mn rho)(aB:AF AP 3 W q m qc eff)(ax:∀x∈eff,DD x)(ht:Cy W (some ⟨g,0,none⟩) 2 2 [x,y]):LR.lies W (.node ⟨k,rho,q,m,qc,eff,some ⟨g,0,none⟩,2,2⟩ [x,y]):=A4.lies ⟨⟨aB,ax,hk.1,hk.2,hr.1,hr.2,by dsimp only;decide,by dsimp only;decide,fun h=>(nomatch h)⟩,ht.row,ht.each⟩
theorem I9{T:Nat→Prop}{k rho:Int}{q:Option Addr}{m qc g:Nat}{eff:List AB}{x y:PT}(hx:∀b∈Ao x,T b)(hy:∀b∈Ao y,T b)(hg:T g)(hq:eff≠[]→∀ad,q=some ad→T ad.block):∀b∈Ao (.node ⟨k,rho,q,m,qc,eff,some ⟨g,0,none⟩,2,2⟩ [x,y]),T b:=fun b hb=>by
 rcases D9 hb with⟨_,ad,hp,rfl⟩|⟨he,ad,hp,rfl⟩|⟨t,ht,kW⟩
 ·cases hp;exact hg
 ·exact hq he ad hp
 ·simp only [List.mem_cons,List.not_mem_nil,or_false] at ht;rcases ht with rfl|rfl
  ·exact hx b kW
  ·exact hy b kW
theorem IN(t:PT):(PT.er t).head=t.head.plain:=by cases t;rw [PT.er_node];rfl
theorem UO(t:PT):(PT.er t).kids=t.kids.map PT.er:=by cases t;rw [PT.er_node];rfl
theorem Hu(k:Int)(r:RV):I0 k r.er=(r.ty.head.kind==k):=by unfold I0 RV.er;rw [IN];rfl
theorem SN(k:Int)(l:List RV):(BM l).all (I0 k)=l.all (fun r=>r.ty.head.kind==k):=by unfold BM;rw [List.all_map];congr 1;funext r;exact Hu k r
theorem TG{W:World}{k rho:Int}{q:Option Addr}{m qc g:Nat}{eff:List AB}{x:PT}(hk:0≤k∧k≤255)(hr:Mn rho)(aB:AF AP 3 W q m qc eff)(ax:∀x∈eff,DD x)(ht:Cy W (some ⟨g,0,none⟩) 1 1 [x]):LR.lies W (.node ⟨k,rho,q,m,qc,eff,some ⟨g,0,none⟩,1,1⟩ [x]):=A4.lies ⟨⟨aB,ax,hk.1,hk.2,hr.1,hr.2,by dsimp only;decide,by dsimp only;decide,fun h=>(nomatch h)⟩,ht.row,ht.each⟩
theorem TI{T:Nat→Prop}{k rho:Int}{q:Option Addr}{m qc g:Nat}{eff:List AB}{x:PT}(hx:∀b∈Ao x,T b)(hg:T g)(hq:eff≠[]→∀ad,q=some ad→T ad.block):∀b∈Ao (.node ⟨k,rho,q,m,qc,eff,some ⟨g,0,none⟩,1,1⟩ [x]),T b:=fun b hb=>by
 rcases D9 hb with⟨_,ad,hp,rfl⟩|⟨he,ad,hp,rfl⟩|⟨t,ht,kW⟩
 ·cases hp;exact hg
 ·exact hq he ad hp
 ·rw [List.mem_singleton] at ht;subst ht;exact hx b kW
theorem Ix(x:RV):(AD.head x.er.1).rho=x.ty.head.rho:=by unfold RV.er;rw [IN];rfl
theorem U9(x:RV):(AD.head x.er.1).eff=x.ty.head.eff:=by unfold RV.er;rw [IN];rfl
theorem Kx{W:World}{b o n c:Nat}{x:RV}{l:List RV}(h:AF Bt 5 W (some ⟨b,o,none⟩) n c (x::l))(i:Nat)(v:Value)(hv:(Bt x)[i]?=some v):W.cell? ⟨b,o+i,none⟩=some v:=D0 h i v hv
structure Uz(w:World)(b o b1 o1 n kc:Nat)(x:RV)(ts:List PT):Prop where
 kids:x.ty.kids=ts
 cell:∀W,Below w.heap.size w W→W.cell? ⟨b,o+3,none⟩=some (.slice (some ⟨b1,o1,none⟩) n kc)
 row:Cy w (some ⟨b1,o1,none⟩) n kc ts
theorem Uz.at{w:World}{b o b1 o1 n kc:Nat}{x:RV}{ts:List PT}(h:Uz w b o b1 o1 n kc x ts){j:Nat}{t:PT}(ht:ts[j]?=some t){W:World}(hb:Below w.heap.size w W):W.rangeAt b1 (o1+j * 4) [.int .u8 t.head.kind,.int .i64 t.head.rho,.slice t.head.ep t.head.en t.head.ec,.slice t.head.kp t.head.kn t.head.kc]:=fun i v hv=>by obtain⟨b',o',hp,_,hc⟩:=(h.row.below hb).row.row.elem ht;cases hp;exact hc i v hv
theorem IS{w:World}{S:Nat→Prop}{a:AH}{b o n c:Nat}{x:RV}{l:List RV}(h:Dm w S a (some ⟨b,o,none⟩) n c (x::l)){k:Int}(hk:x.ty.head.kind=k)(nM:k=2∨k=3∨k=4):∃b1 o1 kc ts,Uz w b o b1 o1 ts.length kc x ts∧ts.length=if k=3 then 1 else 2:=by
 have hx:=h.res.each x (by simp);have hm:=(h.good x (by simp)).1;have hn:A4 w x.ty.head x.ty.kids:=Bb (by rw [←AD.eta];exact hx.ty)
 have aJ:x.ty.kids.length=if k=3 then 1 else 2:=by
  rw [AD.eta x.ty,Mv,Bool.and_eq_true] at hm;have h1:=hm.1;unfold A0 at h1;have e:x.ty.head.plain.kind=k:=hk;rcases nM with rfl|rfl|rfl
  ·simp [e] at h1;simp [h1]
  ·simp [e] at h1;simp [h1]
  ·simp [e] at h1;simp [h1]
 have aR:x.ty.kids≠[]:=by intro e;rw [e] at aJ;simp at aJ;split at aJ<;>omega
 have bV:=hn.kids.len;rcases hn.kids.row with h0|⟨b1,o1,hp,_,_⟩
 ·exact absurd h0 aR
 ·refine⟨b1,o1,x.ty.head.kc,x.ty.kids,⟨rfl,fun W hb=>?_,?_⟩,aJ⟩
  ·rw [Kx (h.res.row.below hb) 3 _ rfl,hp,bV]
  ·rw [←hp,bV];exact hn.rowT
theorem IR{x:PT}{S:Nat→Prop}(h:∀b∈Ao x,S b){t:PT}(ht:t∈x.kids):∀b∈Ao t,S b:=fun b hb=>h b (by rw [AD.eta x];exact MG ht hb)
theorem I5{x:PT}{ts:List PT}(h:x.kids=ts)(j:Nat):(PT.er x).kids.getD j A8=((ts.map PT.er)[j]?).getD A8:=by rw [UO,h,List.getD_eq_getElem?_getD]
structure LG(w:World)(a:AH)(x y:Value)(W:World):Prop where
 b:O5 w W a x y
 res:∃cs:Array Value,cs.size=2∧W.heap[w.heap.size+2]?=some (.cells cs 84 (0,0))
 size:w.heap.size+3≤W.heap.size
theorem EO(w:World)(a:AH)(x y:Value):LG w a x y (((w.alloc (.cells #[x,y] 84)).alloc (AO a)).alloc (.cells #[.slice none 0 0,.slice none 0 0] 84)):=by have e:=heap_alloc_new ((w.alloc (.cells #[x,y] 84)).alloc (AO a)) (.cells #[.slice none 0 0,.slice none 0 0] 84);simp only [World.size_alloc] at e;exact⟨(M7 w a x y).step bA,⟨_,rfl,e⟩,by simp⟩
theorem LG.step{w W W':World}{a:AH}{x y:Value}(h:LG w a x y W)(hb:Below W.heap.size W W'):LG w a x y W':=by obtain⟨cs,h1,h2⟩:=h.res;exact⟨h.b.step hb,⟨cs,h1,(hb.block _ (Array.getElem?_eq_some_iff.1 h2).1).trans h2⟩,Nat.le_trans h.size hb.size⟩
theorem LG.alloc{w W:World}{a:AH}{x y:Value}(h:LG w a x y W)(o:Obj):LG w a x y (W.alloc o):=h.step bA
theorem LG.drew{w W:World}{a:AH}{x y:Value}(h:LG w a x y W):LG w a x y W.drew:=h.step (AR W)
theorem LG.below{w W:World}{a:AH}{x y:Value}(h:LG w a x y W):Below w.heap.size w W:=h.b.below
theorem LG.store{w W:World}{a:AH}{x y:Value}(h:LG w a x y W){cs:Array Value}(hc:cs.size=2):LG w a x y (W.setRow (w.heap.size+2) cs):=by obtain⟨cs',h1,h2⟩:=h.res;exact⟨⟨(setRow_other _ _ _ _ (by omega)).trans h.b.b0,⟨(setRow_other _ _ _ _ (by omega)).trans h.b.b1.blk⟩,h.below.grown BP h.below.size (fun k e=>by cases e;omega)⟩,⟨cs,hc,setRow_heap _ _ _ _ _ _ h2⟩,by have:=h.size;simpa using this⟩
theorem LG.heap{w W:World}{a:AH}{x y:Value}(h:LG w a x y W)(cs:Array Value):(W.setRow (w.heap.size+2) cs).heap[w.heap.size+2]?=some (.cells cs 84 (0,0)):=by obtain⟨cs',_,h2⟩:=h.res;exact setRow_heap _ _ _ _ _ _ h2
theorem PP{w w':World}{r g:Nat}(hg:w.grownBy w' (some r))(aG:g<w.heap.size)(hr:g≠r)(i:Nat):w'.cell? ⟨g,i,none⟩=w.cell? ⟨g,i,none⟩:=by have h:=hg.5 g aG (fun e=>hr (by cases e;rfl));simp only [World.cell?,h]
theorem BV.Ok.grown{w0 w w':World}{S:Nat→Prop}{b:BV}{r:Nat}(h:b.Ok w0 w S)(hg:w.grownBy w' (some r))(hr:¬S r)(hf:∀a g,b.fn=some (a,g)→g≠r)(aL:w.heap.size≤w'.heap.size):b.Ok w0 w' S:=⟨Bl hg _ (fun x hx e=>hr (by cases e;exact h.uses _ hx)) h.ty,h.uses,fun a g e=>⟨⟨fun i v hv=>(PP hg (h.fn a g e).2.2 (hf a g e) _).trans ((h.fn a g e).1.c i v hv)⟩,(h.fn a g e).2.1,Nat.lt_of_lt_of_le (h.fn a g e).2.2 aL⟩,h.name⟩
def KA(w0 w:World)(S:Nat→Prop)(n m:Nat)(eb:List EA)(rr:List Int)(e:Ending)(w':World):Prop:=∃p' n' c' env' q' m' c'',e=.returned (.agg #[.slice p' n' c',.slice q' m' c''])∧Cn w0 w' S p' n' c' env'∧Ck env'=eb∧AF Am 1 w' q' m' c'' rr∧n'≤n+2∧m'≤m+50∧Below w.heap.size w w'
theorem FC(W:World)(S:Nat→Prop):LR.lies W (.node ⟨0,0,none,0,0,[],none,0,0⟩ []:PT)∧∀x∈Ao (.node ⟨0,0,none,0,0,[],none,0,0⟩ []:PT),S x:=⟨A4.lies ⟨⟨AF.none AP 3 _,(fun x hx=>(nomatch hx)),by dsimp only;decide,by dsimp only;decide,by dsimp only;decide,by dsimp only;decide,by dsimp only;decide,by dsimp only;decide,fun _=>rfl⟩,AF.none _ _ _,fun t ht=>by cases ht⟩,fun b hb=>by simp [DP] at hb⟩
theorem QZ(W:World)(S:Nat→Prop):LR.lies W (.node ⟨1,0,none,0,0,[],none,0,0⟩ []:PT)∧∀x∈Ao (.node ⟨1,0,none,0,0,[],none,0,0⟩ []:PT),S x:=⟨A4.lies ⟨⟨AF.none AP 3 _,(fun x hx=>(nomatch hx)),by dsimp only;decide,by dsimp only;decide,by dsimp only;decide,by dsimp only;decide,by dsimp only;decide,by dsimp only;decide,fun _=>rfl⟩,AF.none _ _ _,fun t ht=>by cases ht⟩,fun b hb=>by simp [DP] at hb⟩
def Si(w:World)(S:Nat→Prop)(b:Nat):Prop:=(b<w.heap.size∧S b)∨w.heap.size+3≤b
theorem E5{w0 w W:World}{S:Nat→Prop}{a:AH}{x y:Value}{n m:Nat}{eb:List EA}{rr:List Int}(hI:LG w a x y W)(hS:∀b,w.heap.size≤b→S b){p':Option Addr}{n' c':Nat}{env':List BV}(aB:AF EK 6 W p' n' c' env')(bM:env'≠[]→∀ad,p'=some ad→ad.block≠w.heap.size+2)(ax:∀b∈env',b.Ok w0 W (Si w S)∧∀a g,b.fn=some (a,g)→g≠w.heap.size+2)(he:Ck env'=eb){q':Option Addr}{m' c'':Nat}(hq:AF Am 1 W q' m' c'' rr)(j4:rr≠[]→∀ad,q'=some ad→ad.block≠w.heap.size+2)(hn:n'≤n+2)(hm:m'≤m+50):KA w0 w S n m eb rr (.returned (.agg #[.slice p' n' c',.slice q' m' c''])) (W.setRow (w.heap.size+2) #[.slice p' n' c',.slice q' m' c'']):=by
 have pV:¬Si w S (w.heap.size+2):=by rintro(⟨h1,_⟩|h1)<;>omega
 refine⟨p',n',c',env',q',m',c'',rfl,⟨ER aB BP bM,fun b hb=>?_⟩,he,ER hq BP j4,hn,hm,(hI.store (cs:=#[.slice p' n' c',.slice q' m' c'']) rfl).below⟩;refine((ax b hb).1.grown BP pV (ax b hb).2 (by simp)).weak (fun z hz=>?_);rcases (ax b hb).1.uses z hz with⟨_,h2⟩|h2
 ·exact h2
 ·exact hS z (by omega)
structure Il(w:World)(a:AH)(x y:Value)(W:World):Prop where
 b:O5 w W a x y
 res:∃cs:Array Value,cs.size=5∧W.heap[w.heap.size+2]?=some (.cells cs 81 (0,0))
 size:w.heap.size+3≤W.heap.size
theorem Ey(w:World)(a:AH)(x y:Value):Il w a x y (((w.alloc (.cells #[x,y] 84)).alloc (AO a)).alloc (.cells #[.int .u8 0,.int .i64 0,.slice none 0 0,.slice none 0 0,.slice none 0 0] 81)):=by have e:=heap_alloc_new ((w.alloc (.cells #[x,y] 84)).alloc (AO a)) (.cells #[.int .u8 0,.int .i64 0,.slice none 0 0,.slice none 0 0,.slice none 0 0] 81);simp only [World.size_alloc] at e;exact⟨(M7 w a x y).step bA,⟨_,rfl,e⟩,by simp⟩
theorem Il.step{w W W':World}{a:AH}{x y:Value}(h:Il w a x y W)(hb:Below W.heap.size W W'):Il w a x y W':=by obtain⟨cs,h1,h2⟩:=h.res;exact⟨h.b.step hb,⟨cs,h1,(hb.block _ (Array.getElem?_eq_some_iff.1 h2).1).trans h2⟩,Nat.le_trans h.size hb.size⟩
theorem Il.alloc{w W:World}{a:AH}{x y:Value}(h:Il w a x y W)(o:Obj):Il w a x y (W.alloc o):=h.step bA
theorem Il.drew{w W:World}{a:AH}{x y:Value}(h:Il w a x y W):Il w a x y W.drew:=h.step (AR W)
theorem Il.below{w W:World}{a:AH}{x y:Value}(h:Il w a x y W):Below w.heap.size w W:=h.b.below
theorem Il.store{w W:World}{a:AH}{x y:Value}(h:Il w a x y W){cs:Array Value}(hc:cs.size=5):Il w a x y (W.setRow (w.heap.size+2) cs):=by obtain⟨cs',h1,h2⟩:=h.res;exact⟨⟨(setRow_other _ _ _ _ (by omega)).trans h.b.b0,⟨(setRow_other _ _ _ _ (by omega)).trans h.b.b1.blk⟩,h.below.grown BP h.below.size (fun k e=>by cases e;omega)⟩,⟨cs,hc,setRow_heap _ _ _ _ _ _ h2⟩,by have:=h.size;simpa using this⟩
theorem Il.heap{w W:World}{a:AH}{x y:Value}(h:Il w a x y W)(cs:Array Value):(W.setRow (w.heap.size+2) cs).heap[w.heap.size+2]?=some (.cells cs 81 (0,0)):=by obtain⟨cs',_,h2⟩:=h.res;exact setRow_heap _ _ _ _ _ _ h2
theorem DI{P:Program}{ops:Array Oper}{rest:List Oper}{o:Oper}{act:Act}{Q:Exit→Act→World→Prop}(bG:o.guard=none)(ty:TypeId)(x y:Operand)(ho:o.op=.store ty x y){w W:World}{a:AH}{u v:Value}(h:Il w a u v W)(cells:Array Value)(hx:act.eval x=.pointer (some ⟨w.heap.size+2,0,none⟩))(hy:act.eval y=.agg cells)(hi:(P.info? ty).map (·.size)=some cells.size)(h5:cells.size=5)(h1:cells.all (·.oneCell')=true)(hK:wpList P ops Q rest (act.put o.dst undef) (W.setRow (w.heap.size+2) cells)):wpList P ops Q (o::rest) act W:=by obtain⟨cs,e1,e2⟩:=h.res;exact wpList_store_row bG ty x y ho (w.heap.size+2) cells hx hy 81 cs e2 hi (by omega) h1 hK
theorem Li{P:Program}{ops:Array Oper}{o:Oper}{act:Act}{K:Act→World→Prop}{Q:Exit→Act→World→Prop}{E:Prop}(bG:o.guard=none)(ty:TypeId)(x y:Operand)(ho:o.op=.store ty x y){w W:World}{a:AH}{u v:Value}(h:Il w a u v W)(cells:Array Value)(hx:act.eval x=.pointer (some ⟨w.heap.size+2,0,none⟩))(hy:act.eval y=.agg cells)(hi:(P.info? ty).map (·.size)=some cells.size)(h5:cells.size=5)(h1:cells.all (·.oneCell')=true)(hK:K (act.put o.dst undef) (W.setRow (w.heap.size+2) cells)):if Region.wanted o (yielded ops act.tmps)=true then Oper.wp P o act W K Q else E:=by obtain⟨cs,e1,e2⟩:=h.res;rw [if_pos (by simp [Region.wanted,bG])];exact wp_store_row ty x y ho (w.heap.size+2) cells hx hy 81 cs e2 hi (by omega) h1 hK
theorem VG{w:World}{S:Nat→Prop}{k:Nat}(h0:w.heap.size≤k)(h1:k<w.heap.size+3):¬Si w S k:=by rintro(⟨h,_⟩|h)<;>omega
theorem Kk{w W:World}{a:AH}{u v:Value}{S:Nat→Prop}{y:RV}{x:TE}(h:Il w a u v W)(hS:∀b,w.heap.size≤b→S b)(hy:y.Ok W (Si w S))(hx:y.er=x):Co w S (.ok x) (.returned (JJ y)) (W.setRow (w.heap.size+2) (Bi y)):=by
 refine⟨⟨y,rfl,hx,(hy.grown BP (fun b e=>by cases e;exact VG (by omega) (by omega))).weak (fun b _ hb=>?_)⟩,(h.store (cs:=Bi y) rfl).below⟩;rcases hb with⟨_,h2⟩|h2
 ·exact h2
 ·exact hS b (by omega)
theorem U8{w0 w W:World}{S:Nat→Prop}{p:Option Addr}{n c:Nat}{env:List BV}(h:Cn w0 w S p n c env)(hb:Below w.heap.size w W):Cn w0 W (Si w S) p n c env:=⟨h.row.below hb,fun b cv=>((h.each b cv).below hb).weak (fun x hx=>.inl ⟨Aa _ (h.each b cv).ty x hx,(h.each b cv).uses x hx⟩)⟩
def ID(env:List EA):Prop:=∀b∈env,JH b∧b.ty.size≤500
theorem JT:ID []:=fun b hb=>by cases hb
theorem LN{env:List EA}{a:CL}{n i:Nat}{acc:List TE}(ha:D1 a n)(he:ID env)(de:a.kind=12→i=1→Bj (acc.getD 0 Bf).1=true∧BL (acc.getD 0 Bf).1=true∧(acc.getD 0 Bf).1.size≤500):ID (Ai env a i acc):=by
 intro b hb;refine⟨N1 ha (fun x hx=>(he x hx).1) (fun h1 h2=>⟨(de h1 h2).1,(de h1 h2).2.1⟩) b hb,?_⟩;have h0:A8.size≤500:=by decide
 have h1:Fi.size≤500:=by decide
 have ht:=ha.tys.size;unfold Ai at hb;split at hb
 ·rcases List.mem_append.1 hb with hb|hb
  ·exact(he b hb).2
  ·rw [List.mem_singleton] at hb;subst hb;show a.ty.size≤500;omega
 split at hb
 ·rename_i k;rcases List.mem_append.1 hb with hb|hb
  ·exact(he b hb).2
  ·rw [List.mem_singleton] at hb;subst hb;exact(de k.1 k.2).2.2
 split at hb
 ·rcases List.mem_append.1 hb with hb|hb
  ·exact(he b hb).2
  ·simp only [List.mem_cons,List.not_mem_nil,or_false] at hb;rcases hb with rfl|rfl
   ·exact h0
   ·show a.ty.size≤500;omega
 split at hb
 ·rcases List.mem_append.1 hb with hb|hb
  ·exact(he b hb).2
  ·rw [List.mem_singleton] at hb;subst hb;exact h0
 split at hb
 ·rcases List.mem_append.1 hb with hb|hb
  ·exact(he b hb).2
  ·rw [List.mem_singleton] at hb;subst hb;exact h1
 ·exact(he b hb).2
theorem S2{x:RT}(j:Nat):(x.kids.getD j A8).size≤x.size:=by
 cases x with
 |node a l=>
  rw [AD.size_node];simp only [AD.kids];rw [List.getD_eq_getElem?_getD];cases h:l[j]? with
  |none=>simp only [Option.getD_none];show 1≤_;omega
  |some t=>
   simp only [Option.getD_some];have:=Ay (List.mem_map_of_mem (f:=AD.size) (List.mem_of_getElem? h));omega
theorem Lz{l:List TE}(hl:∀y∈l,y.1.size≤500)(j:Nat):(l.getD j Bf).1.size≤500:=by
 rw [List.getD_eq_getElem?_getD];cases h:l[j]? with
 |none=>simp only [Option.getD_none];show 1≤_;omega
 |some t=>exact hl t (List.mem_of_getElem? h)
theorem Rt{a:CL}{n:Nat}{l:List TE}{x:TE}(ha:D1 a n)(hl:∀y∈l,y.1.size≤500)(h:B8 a l x):x.1.size≤1001:=by
 have h0:=Lz hl 0;have h1:=Lz hl 1;have ht:=ha.tys.size;have hk:=fun j=>S2 (x:=(l.getD 0 Bf).1) j;cases h with
 |pair k=>simp only [H8,AD.size_node,List.map_cons,List.map_nil,List.sum_cons,List.sum_nil];omega
 |proj k _=>have:=hk (a.kind-4).toNat;simp only;omega
 |ref k=>simp only [H8,AD.size_node,List.map_cons,List.map_nil,List.sum_cons,List.sum_nil];omega
 |get k _=>have:=hk 0;simp only;omega
 |set k _ _=>show 1≤_;omega
 |app k _ _=>have:=hk 1;simp only;omega
 |op k _=>show 1≤_;omega
 |ite k _ _=>simp only;omega
 |raise k _=>simp only;omega
 |num k=>show 1≤_;omega
 |fn k _=>simp only [H8,AD.size_node,List.map_cons,List.map_nil,List.sum_cons,List.sum_nil];omega
 |letrec k _ _=>simp only;omega
 |handle k _=>simp only;omega
 |region k _=>simp only;omega
 |other k=>simp only;omega
theorem KL(t:AT){env:List EA}{rhos:List Int}{x:TE}(h:chk env rhos t=.ok x):x.1.size≤500:=by
 cases t with
 |node a l=>exact(Ir.1 h).2
theorem PZ{env:List EA}{rhos:List Int}{a:CL}{l:List AT}{x:TE}(ha:D1 a l.length)(he:ID env)(h:Bw env rhos a l=.ok x):x.1.size≤1001:=by
 rw [FL] at h;rcases h.2 with⟨k,h⟩|⟨k,h⟩|⟨k2,k18,ks,jo,h⟩
 ·unfold Ii Jn at h;cases hf:EL env a.name with
  |none=>rw [hf] at h;cases h
  |some b=>
   rw [hf] at h;simp only [As] at h;obtain⟨hn,h⟩:=h;cases h;have:=(he b (Gl hf).1).2;simp only;omega
 ·unfold C8 Jn at h;cases hf:EL env a.name with
  |none=>rw [hf] at h;cases h
  |some b=>
   rw [hf] at h;simp only at h;cases hb:b.fn with
   |none=>rw [hb] at h;cases h
   |some f=>
    rw [hb] at h;simp only [As,decide_eq_true_eq] at h;obtain⟨aJ,_,h⟩:=h;cases h;obtain⟨n,dY,_,_⟩:=(he b (Gl hf).1).1.fn f hb;have h1:=dY.tys.size;have h2:=dY.ress.size;simp only [H8,AD.size_node,List.map_cons,List.map_nil,List.sum_cons,List.sum_nil,Ry];omega
 ·rw [Ib] at h;obtain⟨rs,j8,hl,hj⟩:=Me _ _ _ _ jo;rw [List.nil_append] at j8;subst j8;refine Rt ha (fun y hy=>?_) h;obtain⟨j,eC⟩:=List.getElem?_of_mem hy;have aG:j<l.length:=by rw [←hl];exact CD eC
  obtain⟨r,e1,e2⟩:=hj j _ (List.getElem?_eq_getElem aG);rw [eC] at e1;cases e1;exact KL _ e2
theorem Bd{W:World}{g:Nat}{cs:Array Value}{t:TypeId}(h:W.heap[g]?=some (.cells cs t (0,0)))(l:List Value)(hl:∀(i:Nat) (v:Value),l[i]?=some v→cs[i]?=some v):W.rangeAt g 0 l:=fun j v hj=>by rw [Nat.zero_add,Lib.cell_of_heap h];exact hl j v hj
theorem Kv{p:Option Addr}{c:Nat}{t:PT}{w:World}(hr:Cy w p 1 c [t])(hs:t.size≤1000000):Calls prog 65 #[.slice p 1 c] w (RB w (.int .i64 (t.size:Int))):=by
 have e:CS [t]=t.size:=by simp [CS]
 have:=Ku hr (by rw [e];exact hs);rwa [e] at this
theorem Lf{w:World}{S:Nat→Prop}{a:AH}{p q:Option Addr}{n c m mc:Nat}{R:EY}(hS:∀b,w.heap.size≤b→S b)(HF:∀W,Below w.heap.size w W→w.heap.size+3≤W.heap.size→Calls prog 63 #[.agg #[.slice p n c,.slice q m mc],An a] W (Co W (Si w S) R))(aL:∀x,R=.ok x→x.1.size≤1001):Calls prog 38 #[.agg #[.slice p n c,.slice q m mc],An a] w (Co w S (K2 a.plain R)):=by
 have HX:=AA (Ey w a (.slice p n c) (.slice q m mc));have HS:=AA hS;have mJ:=AA HF;clear HF hS;rcases R with⟨r1,r2⟩|x
 ·clear aL;go_enter func38,ntmps38;go_upto_region 1 with fail;generalize (((w.alloc (.cells #[.slice p n c,.slice q m mc] 84)).alloc (AO a)).alloc (.cells #[.int .u8 0,.int .i64 0,.slice none 0 0,.slice none 0 0,.slice none 0 0] 81))=W1 at *
  go_wp2_with (first
   |(refine lw HX.o.b.b0 underlying84 ?_)
   |(refine lw HX.o.b.b1.blk underlying31 ?_))
  go_at_call 63;refine(mJ.o _ HX.o.below HX.o.size).mono ?_;rintro e W9 ⟨hr,hb⟩;subst hr;exact⟨rfl,rfl,(HX.o.step hb).below⟩
 ·have gB:=aL x rfl;clear aL;obtain⟨u,hu⟩:∃u,decide (x.1.size≤500)=u:=⟨_,rfl⟩;have HR:Hd (K2 a.plain (.ok x)=A6 u a.plain 3 (.ok x)):=by show _=_;rw [←hu];rfl
  rw [HR.o];clear HR;have HU:=AA hu;clear hu;go_enter func38,ntmps38;go_upto_region 1 with fail;generalize (((w.alloc (.cells #[.slice p n c,.slice q m mc] 84)).alloc (AO a)).alloc (.cells #[.int .u8 0,.int .i64 0,.slice none 0 0,.slice none 0 0,.slice none 0 0] 81))=W1 at *
  go_wp2_with (first
   |(refine lw HX.o.b.b0 underlying84 ?_)
   |(refine lw HX.o.b.b1.blk underlying31 ?_)
   |(go_at_call 63;refine(mJ.o _ HX.o.below HX.o.size).mono ?_;rintro e W9 ⟨hr,hb⟩;obtain⟨y,rfl,dr,hy⟩:=hr;have aW:=AA (HX.o.step hb);have HY:=AA hy;have fG:=AA dr;have bd:=AA (heap_alloc_new W9 (.cells #[.int .u8 0,.int .i64 0,.slice none 0 0,.slice none 0 0,.slice none 0 0] 81));clear hy dr HX hb)
   |(refine sw (Bi y) bd.o ?_;rw [World.setRow_alloc_new]))
  have HG:=AA (heap_alloc_new W9 (.cells (Bi y) 81));have aV:=AA (aW.o.alloc (.cells (Bi y) 81));have mb:=AA (HY.o.below ((Below.refl W9.heap.size W9).alloc (Nat.le_refl _) (.cells (Bi y) 81)));have cx:y.ty.size=x.1.size:=by rw [←fG.o];exact(Gk y.ty).symm
  have iv:decide ((y.ty.size:Int)≤500)=u:=by rw [←HU.o,cx];exact decide_eq_decide.2 (by omega)
  have fi:y.ty.size≤1000000:=by omega
  have dW:=AA fi;clear cx fi bd HY aW gB;obtain⟨g,hg⟩:∃g,W9.heap.size=g:=⟨_,rfl⟩;rw [hg] at HG ⊢;generalize (W9.alloc (.cells (Bi y) 81))=W2 at *
  clear hg;go_upto_region 2 with fail;refine rg (fun W'=>Below W2.heap.size W2 W') (AR W2) fun aA=>?_;refine tp 0 9 ?_;refine t4 1 10 y.ty g 0 (fun W' aC=>Bd ((aC.block _ (Array.getElem?_eq_some_iff.1 HG.o).1).trans HG.o) _ (by intro i v hv;match i,hv with|0,hv=>exact hv|1,hv=>exact hv|2,hv=>exact hv|3,hv=>exact hv)) ?_;refine ta 5 14 a (w.heap.size+1) 0 (fun W' aC=>(aV.o.step aC).b.b1.range) ?_;refine tr 2 11 fun K hK=>?_;go_simp;refine tn hK (AQ aA _) ?_;clear aA hK K;intro aA;refine tr 3 12 fun K hK=>?_;go_simp;go_at_call 65;refine(Kv ((FO mb.o.ty 28).below (AR _)) dW.o).mono ?_;rintro e w3 ⟨rfl,hb⟩;try go_wp2_with fail
  refine tn hK (AL aA hb) ?_;clear aA hK K;intro aA;refine tp 4 13 ?_;refine tr 6 15 fun K hK=>?_;go_simp;cases u
  ·go_at_call 64;refine(BA a 3 _).mono ?_;rintro e w9 ⟨rfl,hb⟩;exact⟨rfl,rfl,aV.o.below.trans ((AL aA hb).mono aV.o.below.size)⟩
  go_at_call 64;refine(A7 a 3 _).mono ?_;rintro e w9 ⟨rfl,hb⟩;try go_wp2_with fail
  refine tn hK (AL aA hb) ?_;clear aA hK K;intro aA;refine dn ?_;have bH:=AA (aV.o.step aA);have eR:=AA ((aA.block _ (Array.getElem?_eq_some_iff.1 HG.o).1).trans HG.o);have om:=AA (mb.o.below aA);clear aA iv
  go_wp2_with (first
   |(refine lw eR.o underlying81 ?_)
   |(refine DI rfl _ _ _ rfl bH.o (Bi y) (by rfl) (by rfl) (by kernel_rfl) rfl (by simp [Value.oneCell']) ?_))
  refine br (bH.o.heap _) underlying81 ?_;exact Kk bH.o HS.o om.o fG.o
end Go.Proofs.YtkdjnegfnhldpaaGreatDoor
