/- Part 12. -/
import Derived.RangeFuncBox
import Derived.RangeFuncLeaves
import Derived.Shelf.Abstract
import Derived.OwnWalkIn
import Derived.TacticsInMore
import Derived.LoopNIn
import Derived.LoopIn
import Derived.Test.YtkdjnegfnhldpaaGreatDoorK11
set_option linter.unusedVariables false
set_option maxRecDepth 100000
set_option linter.unusedSimpArgs false
set_option maxHeartbeats 40000000
namespace Go.Proofs.YtkdjnegfnhldpaaGreatDoor
open Go.Proofs.Tryz Go.RowKit
def LM(_:Unit):List Value:=[.int .u8 1,.int .u8 0,.int .i64 0,.int .i64 0,.string ⟨#[]⟩,.string ⟨#[]⟩,.string ⟨#[]⟩,.slice none 0 0]
theorem IK:∀x,(LM x).length=8:=fun _=>rfl
theorem Sj:∀y,∀u∈LM y,u.oneCell'=true:=by intro y u hu;simp [LM] at hu;rcases hu with rfl|rfl|rfl|rfl|rfl|rfl<;>rfl
abbrev Ln:Obj:=.cells #[.int .u8 0,.int .u8 0,.int .i64 0,.int .i64 0,.string ⟨#[]⟩,.string ⟨#[]⟩,.string ⟨#[]⟩,.slice none 0 0] 53
structure SJ(w wr:World)(h:BY)(a:AH)(v:Value)(k:Nat):Prop where
 own:AI LM 8 wr (w.heap.size+3) 53 v k (List.replicate k ())
 box:FS wr (w.heap.size+2) h v
 res:wr.heap[w.heap.size+1]?=some Ln
 size:w.heap.size+3≤wr.heap.size
 below:Below w.heap.size w wr
theorem SJ.add{w wr w3:World}{h:BY}{a:AH}{v v3:Value}{k:Nat}(hi:SJ w wr h a v k)(aD:AI LM 8 w3 (w.heap.size+3) 53 v3 (k+1) (List.replicate k ()++[()]))(ek:wr.grownBy w3 v.ownBlock):SJ w (w3.setCell ⟨w.heap.size+2,7,none⟩ v3) h a v3 (k+1):=by
 have cw:∀b,v.ownBlock=some b→w.heap.size+3≤b:=fun b hb=>(World.ownsRow.lt hi.own b hb).1;have eB:∀b,v3.ownBlock=some b→w.heap.size+3≤b:=fun b hb=>(World.ownsRow.lt aD b hb).1;have bF:w3.grownBy (w3.setCell ⟨w.heap.size+2,7,none⟩ v3) (some (w.heap.size+2)):=AG _ _ _ _;have aG:=hi.size;refine⟨?_,(hi.box.grown ek (fun e=>by have:=cw _ e;omega)).set v3,?_,Nat.le_trans hi.size (Nat.le_trans ek.size bF.size),?_⟩
 ·refine⟨by rw [List.replicate_succ'];exact aD.1,?_⟩;rw [List.replicate_succ'];rcases aD.2 with h0|⟨g,cap,cur,rfl,h1,h2,rest⟩
  ·exact .inl h0
  ·refine .inr ⟨g,cap,cur,rfl,h1,?_,rest⟩;rw [bF.block g (Array.getElem?_eq_some_iff.1 h2).1 (fun e=>by injection e with e;omega)];exact h2
 ·have h1:=hi.res;rw [bF.block _ (by have:=ek.size;omega) (fun e=>by injection e with e;omega),ek.block _ (by omega) (fun e=>by have:=cw _ e.symm;omega)];exact h1
 ·exact(hi.below.grown ek (by omega) (fun b hb=>by have:=cw b hb;omega)).grown bF (by have:=ek.size;omega) (fun b hb=>by injection hb with hb;omega)
theorem GF(a:AH)(hk:a.kn≤1000)(w:World):Calls prog 121 #[An a] w fun e w'=>(∃p c,e=.returned (Nc a.hd p a.kn c)∧AF LM 8 w' p a.kn c (List.replicate a.kn ()))∧Below w.heap.size w w':=by
 have HA:=AA (Ah w a);have HB:=AA (((Below.refl w.heap.size w).alloc (Nat.le_refl _) (AO a)))
 have hz:SJ w (((w.alloc (AO a)).alloc Ln).alloc (.cells #[.int .u8 a.kind,.int .u8 a.op,.int .i64 a.at_,.int .i64 a.n,.string a.name,.string a.arg,.string a.exn,.slice none 0 0] 53)) a.hd a (.slice none 0 0) 0:=by
  have h1:=ST ((w.alloc (AO a)).alloc Ln) a.hd (.slice none 0 0);refine⟨AI.nil _ _ _ _ _,?_,?_,by simp,(HB.o.alloc (by simp) _).alloc (by simp;omega) _⟩
  ·rw [show ((w.alloc (AO a)).alloc Ln).heap.size=w.heap.size+2 by simp] at h1;exact h1
  ·rw [bA.block _ (by simp)];have:=heap_alloc_new (w.alloc (AO a)) Ln;simpa using this
 have hq:((w.alloc (AO a)).alloc Ln).cell? ⟨w.heap.size,18,none⟩=some (.slice a.kp a.kn a.kc)∧(((w.alloc (AO a)).alloc Ln).alloc (.cells #[.int .u8 a.kind,.int .u8 a.op,.int .i64 a.at_,.int .i64 a.n,.string a.name,.string a.arg,.string a.exn,.slice none 0 0] 53)).cell? ⟨w.heap.size,18,none⟩=some (.slice a.kp a.kn a.kc):=by
  have h0:=HA.o.c 18 _ rfl;have bD:Below (w.alloc (AO a)).heap.size (w.alloc (AO a)) ((w.alloc (AO a)).alloc Ln):=bA;constructor
  ·rw [bD.cell (by simp)];exact h0
  ·rw [(bD.alloc bD.size _).cell (by simp)];exact h0
 obtain⟨pX,dK⟩:=hq;have HZ:=AA hz;have cX:=AA dK;clear hz pX dK;go_enter func121,ntmps121;go_upto_region 2 with fail;rw [show w.heap.size+1+1=w.heap.size+2 from rfl];generalize (((w.alloc (AO a)).alloc Ln).alloc (.cells #[.int .u8 a.kind,.int .u8 a.op,.int .i64 a.at_,.int .i64 a.n,.string a.name,.string a.arg,.string a.exn,.slice none 0 0] 53))=W3 at *
 have q18:=cX.o;go_wp2_with fail;clear q18;go_loopw [10] (fun i wr=>∃(k:Nat) (v:Value),k≤a.kn∧i=.int .i64 k∧SJ w wr a.hd a v k) (fun i _=>a.kn-(intOf i).toNat)
 case atStart=>exact⟨0,_,by omega,rfl,HZ.o⟩
 case round=>
  obtain⟨k,v,cZ,rfl,hz⟩:=hrel;have fH:=AA hz;have bj:=AA hz.size;obtain⟨x0,x1,x2,x3,x4,x5,x6,x7,x8⟩:=hz.box.cells;have dQ:=hz.box.lt;clear hz;by_cases aG:k<a.kn
  ·go_wp2_with (at_builtin;refine Ae rfl _ _ 51 rfl (w.heap.size+3) 53 _ 8 96 underlying51 VD rfl (by decide) LM IK Sj () _ _ _ fH.o.own rfl rfl ?c1 ?c2 ?c3 ?_)
   case c1=>omega
   case c2=>omega
   case c3=>have:=bj.o;omega
   ·intro v3 w3 aE aP;obtain⟨p3,c3,rfl,ab⟩:=AI.isRow IK (by omega) aE;clear ab;have ds:=AA (fH.o.add aE aP);have ku:=AA (fH.o.box.grown aP (fun e=>by have:=(World.ownsRow.lt fH.o.own _ e).1;omega));clear x0 x1 x2 x3 x4 x5 x6 x7 x8 aE aP;obtain⟨x0,x1,x2,x3,x4,x5,x6,x7,x8⟩:=ku.o.cells;go_wp2_with fail;go_roundw
    case rel=>exact⟨k+1,_,by omega,by go_num,ds.o⟩
    case measure=>simp [intOf];omega
  ·obtain rfl:k=a.kn:=by omega
   clear aG cZ;obtain⟨p',c',rfl,aB⟩:=fH.o.own.isRow IK (by omega);have aa:=AA aB;clear aB
   go_wp2_with (first
    |(refine lw fH.o.box.blk underlying53 ?_)
    |(refine sw #[.int .u8 a.hd.kind,.int .u8 a.hd.op,.int .i64 a.hd.at_,.int .i64 a.hd.n,.string a.hd.name,.string a.hd.arg,.string a.hd.exn,.slice p' a.kn c'] fH.o.res ?_))
   have ay:=setRow_heap wr (w.heap.size+1) _ #[.int .u8 a.hd.kind,.int .u8 a.hd.op,.int .i64 a.hd.at_,.int .i64 a.hd.n,.string a.hd.name,.string a.hd.arg,.string a.hd.exn,.slice p' a.kn c'] _ _ fH.o.res;have l0:w.heap.size+1<wr.heap.size:=by have:=bj.o;omega
   (try simp only [Exit.inBlock,Exit.then]);refine br ay underlying53 ?_;have hg:wr.grownBy (wr.setRow (w.heap.size+1) #[.int .u8 a.hd.kind,.int .u8 a.hd.op,.int .i64 a.hd.at_,.int .i64 a.hd.n,.string a.hd.name,.string a.hd.arg,.string a.hd.exn,.slice p' a.kn c']) (some (w.heap.size+1)):=⟨rfl,rfl,rfl,by simp,fun i hi aR=>setRow_other _ _ _ _ (fun e=>aR (by rw [e]))⟩;obtain⟨p2,c2,gD,cr⟩:=(fH.o.own.other hg (fun b hb e=>by have:=(World.ownsRow.lt fH.o.own b hb).1;injection e with e;omega)).isRow IK (by omega);cases gD;refine⟨⟨p',c',rfl,cr⟩,fH.o.below.grown hg (by omega) (fun b hb=>by injection hb with hb;omega)⟩
structure EM where
 hd:BY
 kp:Option Addr
 kn:Nat
 kc:Nat
def D4(t:EM):List Value:=[.int .u8 t.hd.kind,.int .u8 t.hd.op,.int .i64 t.hd.at_,.int .i64 t.hd.n,.string t.hd.name,.string t.hd.arg,.string t.hd.exn,.slice t.kp t.kn t.kc]
theorem RJ(t:EM):(D4 t).length=8:=rfl
theorem Iw:∀t:EM,∀u∈D4 t,u.oneCell'=true:=by intro y u hu;simp [D4] at hu;rcases hu with rfl|rfl|rfl|rfl|rfl|rfl|rfl|rfl<;>rfl
abbrev U5(t:EM):Value:=Nc t.hd t.kp t.kn t.kc
def Bk(kids:EM→List EM)(l:List EM):List EM:=(l.map (fun t=>t::kids t)).flatten
theorem Mx(kids:EM→List EM)(l:List EM)(k:Nat):Bk kids l=Bk kids (l.take k)++Bk kids (l.drop k):=by unfold Bk;rw [←List.flatten_append,←List.map_append,List.take_append_drop]
theorem OP{kids:EM→List EM}{l:List EM}{k:Nat}{x:EM}(h:l[k]?=some x):Bk kids (l.take (k+1))=Bk kids (l.take k)++x::kids x:=by unfold Bk;rw [List.take_add_one,h];simp
theorem Te{σ:Type}{kids:EM→List EM}(st:EM→σ→Bool×σ)(s:σ){l:List EM}{k:Nat}{x:EM}(h:l[k]?=some x)(hb:(AN st (Bk kids (l.take k)) s).1=true):AN st (Bk kids (l.take (k+1))) s=if(st x (AN st (Bk kids (l.take k)) s).2).1 then AN st (kids x) (st x (AN st (Bk kids (l.take k)) s).2).2 else(false,(st x (AN st (Bk kids (l.take k)) s).2).2):=by rw [OP h,D7,if_pos hb];rfl
theorem Od{σ:Type}{kids:EM→List EM}(st:EM→σ→Bool×σ)(s:σ)(l:List EM)(k:Nat)(hb:(AN st (Bk kids (l.take k)) s).1=false):AN st (Bk kids l) s=AN st (Bk kids (l.take k)) s:=by rw [Mx kids l k,D7,if_neg (by rw [hb];exact Bool.false_ne_true)]
structure Vv(w0:World)(row:Option Nat)(g:Nat)(lb:Array Value){σ:Type}(Inv:σ→World→Prop)(ok:EM→Prop)(st:EM→σ→Bool×σ):Prop where
 eg:∀args w,(callFunc g args).run prog w=.ok (.enter g args) w
 hb:∀b,row=some b→w0.heap.size≤b
 lt:∀b,row=some b→∀s W,Inv s W→b<W.heap.size
 inv:∀s W W',Inv s W→Below W.heap.size W W'→Inv s W'
 call:∀a s W,ok a→Below w0.heap.size w0 W→Inv s W→Calls prog g (#[U5 a]++lb) W fun e w'=>e=.returned (.bool (st a s).1)∧Inv (st a s).2 w'∧W.grownBy w' row
def NU(w0:World)(row:Option Nat)(g:Nat)(lb:Array Value){σ:Type}(Inv:σ→World→Prop)(ok:EM→Prop)(st:EM→σ→Bool×σ)(p:Option Addr)(n c:Nat)(L:List EM):Prop:=(∀a∈L,ok a)→∀s W,Below w0.heap.size w0 W→Inv s W→Calls prog 168 #[.func (.func g) #[] lb,.slice p n c] W fun e w'=>e=.returned (.bool (AN st L s).1)∧Inv (AN st L s).2 w'∧W.grownBy w' row
theorem Kg{kids:EM→List EM}{l:List EM}{x:EM}(hx:x∈l){a:EM}(ha:a∈x::kids x):a∈Bk kids l:=List.mem_flatten.2 ⟨_,List.mem_map_of_mem hx,ha⟩
theorem Ls(w:World)(t:EM):FS (w.alloc (II t.hd t.kp t.kn t.kc)) w.heap.size t.hd (.slice t.kp t.kn t.kc):=⟨heap_alloc_new w _⟩
theorem Fj{w0:World}{row:Option Nat}{g:Nat}{lb:Array Value}{σ:Type}{Inv:σ→World→Prop}{ok:EM→Prop}{st:EM→σ→Bool×σ}(F:Vv w0 row g lb Inv ok st)(kids:EM→List EM){p:Option Addr}{n c:Nat}{l:List EM}(hR:AF D4 8 w0 p n c l)(ih:∀x∈l,NU w0 row g lb Inv ok st x.kp x.kn x.kc (kids x)):NU w0 row g lb Inv ok st p n c (Bk kids l):=by
 intro ax s W gR dj;have eg:=F.eg;have HF:=AA F;have HI:=AA ih;have HR:=AA hR;have cu:=AA ax;have cG:=AA gR;have HV:=AA dj;have iQ:n≤9223372036854775807:=hR.max;clear F ih hR ax gR dj;go_enter func168,ntmps168;go_wp2_with fail;go_loopw [9] (fun i wr=>∃(k:Nat) (S:Bool×σ),k≤n∧i=.int .i64 k∧Hd (AN st (Bk kids (l.take k)) s=S)∧S.1=true∧Inv S.2 wr∧W.grownBy wr row) (fun i _=>n-(intOf i).toNat)
 case atStart=>exact⟨0,(true,s),by omega,rfl,AA rfl,rfl,HV.o,World.grownBy.refl _ _⟩
 case round=>
  obtain⟨k,S,hk,rfl,HS,hs,gW,hg⟩:=hrel;have ed:=AA gW;have HG:=AA hg;have au:=AA hs;have HB:=AA (cG.o.grown hg cG.o.size HF.o.hb);clear gW hg hs;by_cases aG:k<n
  ·obtain⟨a,hx⟩:=Ac (l:=l) (j:=k) (by rw [HR.o.len];exact aG);obtain⟨b,o,b8,al,ao⟩:=(HR.o.below HB.o).row.elem hx;have dE:=AA ao;subst b8;have hE:=List.mem_of_getElem? hx;have eV:=AA (show NU w0 row g lb Inv ok st a.kp a.kn a.kc (kids a) from HI.o _ hE);have gK:=AA (show ∀a'∈kids a,ok a' from fun a' ha=>cu.o a' (Kg hE (List.mem_cons_of_mem _ ha)));have dl:ok a:=cu.o a (Kg hE List.mem_cons_self)
   have bf:=AA (show AN st (Bk kids (l.take (k+1))) s=if(st a S.2).1 then AN st (kids a) (st a S.2).2 else(false,(st a S.2).2) by
    have h:=Te (kids:=kids) st s hx (by rw [HS.o];exact au.o);rw [HS.o] at h;exact h)
   clear hx al ao hE;have aM:=AA (Ls wr a);have bD:Below wr.heap.size wr (wr.alloc (II a.hd a.kp a.kn a.kc)):=bA;have aO:=bt HB bD;have fB:=AA (HF.o.inv _ _ _ ed.o bD);have az:=AA (HF.o.call a S.2 _ dl aO.o fB.o);have ey:=AA (HG.o.trans ((World.grownBy_alloc wr (II a.hd a.kp a.kn a.kc) row)));clear bD dl;have gQ:(wr.alloc Ln).heap[wr.heap.size]?=some (.cells #[.int .u8 0,.int .u8 0,.int .i64 0,.int .i64 0,.string ⟨#[]⟩,.string ⟨#[]⟩,.string ⟨#[]⟩,.slice none 0 0] 53 (0,0)):=heap_alloc_new wr _;have bd:=AA gQ;clear gQ;cases hq:(st a S.2).1 with
   |false=>
    rw [hq] at az bf;have HQ:=AA hq;clear hq
    go_wp2_with (first
     |(refine lm (D4 a) dE.o underlying53 ?_)
     |(refine wpList_store_row rfl 53 _ _ rfl wr.heap.size (D4 a).toArray rfl rfl 53 _ bd.o (by kernel_rfl) rfl (all_oneCell_toArray (Iw a)) ?_;rw [World.setRow_alloc_new])
     |(refine lw aM.o.blk underlying53 ?_)
     |(go_at_fn g;refine az.o.mono ?_;rintro e w2 ⟨rfl,bU,ai⟩;have bi:=AA bU;have cz:=AA (ey.o.trans ai);clear bU ai))
    go_ret;have a6:AN st (Bk kids l) s=(false,(st a S.2).2):=by rw [Od st s l (k+1) (by rw [bf.o];rfl),bf.o];rfl
    exact⟨AE (by rw [a6]),by rw [a6];exact bi.o,cz.o⟩
   |true=>
    rw [hq] at az bf;have HQ:=AA hq;clear hq;have HM:=AA (HF.o.hb);have q18:∀w2,(wr.alloc (II a.hd a.kp a.kn a.kc)).grownBy w2 row→Inv (st a S.2).2 w2→w2.cell? ⟨wr.heap.size,7,none⟩=some (.slice a.kp a.kn a.kc)∧Below w0.heap.size w0 w2:=fun w2 ai bU=>⟨ai.cell (a:=⟨wr.heap.size,7,none⟩) (aM.o.cells.2.2.2.2.2.2.2.1) (fun e=>by have:=HF.o.lt _ e.symm _ _ ed.o;exact Nat.lt_irrefl _ this),aO.o.grown ai aO.o.size HM.o⟩;have db:=AA q18;clear q18;cases dK:(AN st (kids a) (st a S.2).2).1 with
    |false=>
     have cX:=AA dK;clear dK
     go_wp2_with (first
      |(refine lm (D4 a) dE.o underlying53 ?_)
      |(refine wpList_store_row rfl 53 _ _ rfl wr.heap.size (D4 a).toArray rfl rfl 53 _ bd.o (by kernel_rfl) rfl (all_oneCell_toArray (Iw a)) ?_;rw [World.setRow_alloc_new])
      |(refine lw aM.o.blk underlying53 ?_)
      |(first|(go_at_fn g;refine az.o.mono ?_;rintro e w2 ⟨rfl,bU,ai⟩;obtain⟨c18,aj⟩:=db.o _ ai bU;have bi:=AA bU;have cz:=AA (ey.o.trans ai);have aI:=AA aj;clear bU ai aj)|(go_at_call 168;refine(eV.o gK.o _ _ aI.o bi.o).mono ?_;rw [cX.o];rintro e w3 ⟨rfl,di,aP⟩;have bq:=AA di;have eR:=AA (cz.o.trans aP);clear di aP)))
     go_ret;have a6:AN st (Bk kids l) s=AN st (kids a) (st a S.2).2:=by rw [Od st s l (k+1) (by rw [bf.o];exact cX.o),bf.o];rfl
     exact⟨AE (by rw [a6,cX.o]),by rw [a6];exact bq.o,eR.o⟩
    |true=>
     have cX:=AA dK;clear dK
     go_wp2_with (first
      |(refine lm (D4 a) dE.o underlying53 ?_)
      |(refine wpList_store_row rfl 53 _ _ rfl wr.heap.size (D4 a).toArray rfl rfl 53 _ bd.o (by kernel_rfl) rfl (all_oneCell_toArray (Iw a)) ?_;rw [World.setRow_alloc_new])
      |(refine lw aM.o.blk underlying53 ?_)
      |(first|(go_at_fn g;refine az.o.mono ?_;rintro e w2 ⟨rfl,bU,ai⟩;obtain⟨c18,aj⟩:=db.o _ ai bU;have bi:=AA bU;have cz:=AA (ey.o.trans ai);have aI:=AA aj;clear bU ai aj)|(go_at_call 168;refine(eV.o gK.o _ _ aI.o bi.o).mono ?_;rw [cX.o];rintro e w3 ⟨rfl,di,aP⟩;have bq:=AA di;have eR:=AA (cz.o.trans aP);clear di aP)))
     go_roundw
     case rel=>exact⟨k+1,_,by omega,by go_num,bf,by show (AN st (kids a) (st a S.2).2).1=true;exact cX.o,bq.o,eR.o⟩
     case measure=>simp [intOf];omega
  ·have bV:k=n:=by omega
   have bc:l.take k=l:=AY (by rw [HR.o.len,bV];exact Nat.le_refl _);rw [bc] at HS;go_wp2_with fail;go_ret;exact⟨AE (by rw [HS.o,au.o]),by rw [HS.o];exact ed.o,HG.o⟩
def Ex:EM:=⟨⟨1,0,0,0,⟨#[]⟩,⟨#[]⟩,⟨#[]⟩⟩,none,0,0⟩
theorem Ge{w0:World}{row:Option Nat}{g:Nat}{lb:Array Value}{σ:Type}{Inv:σ→World→Prop}{ok:EM→Prop}{st:EM→σ→Bool×σ}(F:Vv w0 row g lb Inv ok st){t:EM}{p:Option Addr}{c:Nat}(hk:AF LM 8 w0 t.kp t.kn t.kc (List.replicate t.kn ()))(ht:AF D4 8 w0 p 1 c [t]):NU w0 row g lb Inv ok st p 1 c (t::List.replicate t.kn Ex):=by
 have h0:NU w0 row g lb Inv ok st none 0 0 []:=Fj F (fun _=>[]) (AF.none _ _ _) (fun x hx=>absurd hx (by simp))
 have h1:AF D4 8 w0 t.kp t.kn t.kc (List.replicate t.kn Ex):=by
  refine⟨by simp,hk.max,hk.le,hk.nil,?_⟩;rcases hk.row with h|⟨b,o,hp,hb,hc⟩
  ·left;have h2:t.kn=0:=by simpa using h
   simp [h2]
  ·refine .inr ⟨b,o,hp,hb,fun j x hx i v hv=>?_⟩;have hj:j<t.kn:=by have:=(List.getElem?_eq_some_iff.1 hx).1;simpa using this
   have pk:x=Ex:=(List.mem_replicate.1 (List.mem_of_getElem? hx)).2;subst pk;exact hc j () (by simp [hj]) i v hv
 have h2:=Fj F (fun _=>[]) h1 (fun x hx=>by
  rw [(List.mem_replicate.1 hx).2];exact h0)
 have e2:Bk (fun _=>[]) (List.replicate t.kn Ex)=List.replicate t.kn Ex:=by
  unfold Bk;generalize t.kn=m;induction m with
  |zero=>rfl
  |succ m ih=>rw [List.replicate_succ,List.map_cons,List.flatten_cons,ih];rfl
 rw [e2] at h2
 have h3:=Fj F (fun _=>List.replicate t.kn Ex) ht (fun x hx=>by
  rw [List.mem_singleton.1 hx];exact h2)
 simpa [Bk] using h3
theorem SA{P:Program}{ops:Array Oper}{rest:List Oper}{op:Oper}{a:Act}{w:World}{Q:Exit→Act→World→Prop}(hw:Region.wanted op (yielded ops a.tmps)=true)(ty:TypeId)(x:Operand)(ho:op.op=.load ty x)(b o:Nat)(hx:a.eval x=.pointer (some ⟨b,o,none⟩))(cs:List Value)(d:TypeDesc)(hc:w.rangeAt b o cs)(hu:P.underlying ty=some d)(hd:d.isRow=true)(hi:(P.info? ty).map (·.size)=some cs.length)(h:wpList P ops Q rest (a.put op.dst (.agg cs.toArray)) w):wpList P ops Q (op::rest) a w:=by rw [wpList,if_pos hw];exact .inl (wp_load_mid ty x ho b o hx cs d hc hu hd hi h)
theorem FS.range{w:World}{g:Nat}{h:BY}{p:Option Addr}{n c:Nat}(hb:FS w g h (.slice p n c)):w.rangeAt g 0 (D4 ⟨h,p,n,c⟩):=by have hb:=hb.blk;intro i u hu;have:i<8:=(List.getElem?_eq_some_iff.1 hu).1;rcases (by omega:i=0∨i=1∨i=2∨i=3∨i=4∨i=5∨i=6∨i=7) with rfl|rfl|rfl|rfl|rfl|rfl|rfl|rfl<;>(simp [D4] at hu;subst hu;simp [World.cell?,hb])
def B6(b:Nat)(z:Int)(W:World):Prop:=W.heap[b]?=some (.cells #[.int .i64 z] 3 (0,0))
theorem B6.cells{W:World}{b:Nat}{z:Int}(h:B6 b z W):W.cell? ⟨b,0,none⟩=some (.int .i64 z)∧W.frozen? ⟨b,0,none⟩=false:=by unfold B6 at h;simp [World.cell?,World.frozen?,h]
theorem B6.lt{W:World}{b:Nat}{z:Int}(h:B6 b z W):b<W.heap.size:=(Array.getElem?_eq_some_iff.1 h).1
theorem B6.below{W W':World}{b:Nat}{z:Int}(h:B6 b z W)(hb:Below W.heap.size W W'):B6 b z W':=by unfold B6;rw [hb.block b h.lt];exact h
theorem B6.set{W:World}{b:Nat}{z:Int}(h:B6 b z W)(y:Int):B6 b y (W.setCell ⟨b,0,none⟩ (.int .i64 y)):=by unfold B6 at h ⊢;simpa using AK (o:=0) (.int .i64 y) h
def Fr{α:Type}(_:α)(z:Int):Bool×Int:=(true,IntKind.i64.wrap (z+1))
theorem JA{α:Type}:∀(l:List α) (z:Int),0≤z→z+l.length≤1000000000→AN Fr l z=(true,z+l.length)
 |[],z,_,_=>by simp [AN]
 |a::l,z,h0,h=>by
  have hl:((a::l).length:Int)=(l.length:Int)+1:=by simp
  have e:IntKind.i64.wrap (z+1)=z+1:=IntWalk.i64_in _ (by omega);show (if true=true then AN Fr l (IntKind.i64.wrap (z+1)) else _)=_;rw [if_pos rfl,e,JA l (z+1) (by omega) (by omega),hl];congr 1;omega
theorem K5(t:EM)(b:Nat)(z:Int)(W:World)(h:B6 b z W):Calls prog 203 #[U5 t,.pointer (some ⟨b,0,none⟩)] W fun e w'=>e=.returned (.bool (Fr t z).1)∧B6 b (Fr t z).2 w'∧W.grownBy w' (some b):=by have HA:=AA (h.below ((Below.refl _ _).alloc (Nat.le_refl _) (II t.hd t.kp t.kn t.kc)));obtain⟨q0,qf⟩:=HA.o.cells;obtain⟨Z,hZ⟩:∃Z,IntKind.i64.wrap (z+1)=Z:=⟨_,rfl⟩;have HZ:Hd ((Fr t z).2=Z):=hZ;clear h;go_enter func203,ntmps203;go_wp2_with fail;go_ret;refine⟨rfl,?_⟩;rw [HZ.o];exact⟨HA.o.set Z,(World.grownBy_alloc W _ _).trans (AG _ _ _ _)⟩
theorem St{w0:World}{b:Nat}(hb:w0.heap.size≤b):Vv w0 (some b) 203 #[.pointer (some ⟨b,0,none⟩)] (B6 b) (fun _=>True) Fr where
 eg:=fun args w=>rfl
 hb:=fun b' h=>by injection h with h;omega
 lt:=fun b' h s W hi=>by injection h with h;rw [←h];exact hi.lt
 inv:=fun s W W' hi al=>hi.below al
 call:=fun a s W _ _ hi=>K5 a b s W hi
theorem K6{w:World}{t:EM}{p:Option Addr}{c:Nat}(hk:AF LM 8 w t.kp t.kn t.kc (List.replicate t.kn ()))(ht:AF D4 8 w p 1 c [t])(h3:t.kn≤1000):Calls prog 167 #[.slice p 1 c] w (RB w (.int .i64 (1+t.kn))):=by
 have HE:=AA (Ge (St (w0:=w) (b:=w.heap.size) (Nat.le_refl _)) hk ht);have HP:Hd (AN Fr (t::List.replicate t.kn Ex) 0=(true,1+(t.kn:Int))):=by show _=_;rw [JA (t::List.replicate t.kn Ex) 0 (by omega) (by simp;omega)];congr 1;simp;omega
 have HI:Hd (B6 w.heap.size 0 (w.alloc (.cells #[.int .i64 0] 3))):=heap_alloc_new w _;have HB:=AA ((Below.refl w.heap.size w).alloc (Nat.le_refl _) (.cells #[.int .i64 0] 3));have HG:=AA (World.grownBy_alloc w (.cells #[.int .i64 0] 3) (some w.heap.size));clear hk ht;go_enter func167,ntmps167;go_wp2_with (go_at_call 168;refine(HE.o (fun _ _=>trivial) 0 _ HB.o HI.o).mono ?_;rw [HP.o];rintro e w2 ⟨rfl,bU,ai⟩;obtain⟨q0,qf⟩:=bU.cells;have cz:=AA (HG.o.trans ai);clear bU ai);go_ret;exact⟨rfl,Ds cz.o (Nat.le_refl _) (fun b hb=>by injection hb with hb;omega)⟩
theorem Rf:Bp Ex.hd 0=true:=by decide
def OO(t:EM)(_:Unit):Bool×Unit:=(Bp t.hd t.kn,())
theorem Su{w0:World}(hv:Vr w0):Vv w0 none 169 #[] (fun(_:Unit) _=>True) (fun t=>0≤t.hd.kind∧t.hd.kind≤255∧t.kn≤1000000) OO where
 eg:=fun args w=>rfl
 hb:=fun b' h=>by cases h
 lt:=fun b' h=>by cases h
 inv:=fun _ _ _ _ _=>trivial
 call:=fun a s W ok hb _=>by refine(Lj a.hd ok.1 ok.2.1 a.kp a.kn a.kc ok.2.2 W (hv.below hb)).mono ?_;rintro e w' ⟨rfl,bB⟩;exact⟨rfl,trivial,bB.os,bB.tape,bB.output,bB.size,fun k hk _=>bB.block k hk⟩
theorem Id:∀n,AN OO (List.replicate n Ex) ()=(true,())
 |0=>rfl
 |n+1=>by rw [List.replicate_succ];show (if(Bp Ex.hd 0)=true then AN OO (List.replicate n Ex) () else _)=_;rw [Rf,if_pos rfl,Id n]
theorem ND(t:EM)(n:Nat):(AN OO (t::List.replicate n Ex) ()).1=Bp t.hd t.kn:=by show (if(Bp t.hd t.kn)=true then AN OO (List.replicate n Ex) () else(false,())).1=_;rw [Id];cases Bp t.hd t.kn<;>rfl
theorem He{w:World}(hv:Vr w){t:EM}(hk:AF LM 8 w t.kp t.kn t.kc (List.replicate t.kn ()))(h3:t.kn≤1000)(bC:0≤t.hd.kind)(cZ:t.hd.kind≤255):Calls prog 120 #[U5 t] w (RB w (.bool (Bp t.hd t.kn))):=by
 have HV:=AA hv;have HK:=AA hk;have aM:=AA (Ls w t);have HB:=AA ((Below.refl w.heap.size w).alloc (Nat.le_refl _) (II t.hd t.kp t.kn t.kc));have HS:=AA (ND t t.kn);have aB:∀(W:World) (ty:TypeId) (gs:Nat),W.heap.size=gs→AF D4 8 (W.alloc (.cells #[.int .u8 t.hd.kind,.int .u8 t.hd.op,.int .i64 t.hd.at_,.int .i64 t.hd.n,.string t.hd.name,.string t.hd.arg,.string t.hd.exn,.slice t.kp t.kn t.kc] ty)) (some ⟨gs,0,none⟩) 1 1 [t]:=fun W ty gs bF=>⟨rfl,by decide,by decide,(by intro h;cases h),At.newAt RJ W [t] _ (by simp [D4]) _ _ _ bF⟩;have aa:=AA aB;clear hv hk aB;go_enter func120,ntmps120;have dC:decide (1+(t.kn:Int)≤4000)=true:=by simp;omega
 have pQ:decide ((1:Int)+t.kn≤4000)=true:=dC
 go_wp2_with (first
  |(refine lw aM.o.blk underlying53 ?_)
  |(refine Pr [.int .u8 t.hd.kind,.int .u8 t.hd.op,.int .i64 t.hd.at_,.int .i64 t.hd.n,.string t.hd.name,.string t.hd.arg,.string t.hd.exn,.slice t.kp t.kn t.kc] aM.o.range underlying53 ?_)
  |(go_at_call 167;refine(K6 (HK.o.below (HB.o.alloc HB.o.size _)) (aa.o _ _ _ (by simp)) (by omega)).mono ?_;rintro e w2 ⟨rfl,hb⟩;have aI:=AA ((HB.o.alloc HB.o.size _).trans (hb.mono (HB.o.alloc HB.o.size _).size));have aM:=AA ((aM.o.below bA).below hb);clear hb)
  |(go_at_call 168;refine(Ge (Su (HV.o.below (aI.o.alloc aI.o.size _))) (HK.o.below (aI.o.alloc aI.o.size _)) (aa.o _ _ _ (by simp)) (by intro a ha;rcases List.mem_cons.1 ha with rfl|ha;exact⟨bC,cZ,by omega⟩;rw [(List.mem_replicate.1 ha).2];exact⟨by decide,by decide,by decide⟩) () _ (Below.refl _ _) trivial).mono ?_;rw [HS.o];rintro e w3 ⟨rfl,_,aP⟩;have aT:=AA (Ds aP (Nat.le_refl _) (fun b h=>by cases h));clear aP))
 go_ret;exact⟨rfl,aI.o.trans (((Below.refl _ w2).alloc (Nat.le_refl _) _ |>.trans (aT.o.mono (by simp))).mono aI.o.size)⟩
section
open Go.Shelf
attribute [local go_sem] Oper.semAt_some
def H9(f:Nat→Int)(k:Nat):List Int:=(List.range k).map f
theorem MF(f:Nat→Int)(k:Nat):H9 f (k+1)=H9 f k++[f k]:=by simp [H9,List.range_succ]
theorem Ot(f:Nat→Int)(k:Nat):(H9 f k).length=k:=by simp [H9]
theorem Tu(zs:List Int):H9 (fun j=>zs[j]?.getD 0) zs.length=zs:=by
 apply List.ext_getElem
 ·simp [H9]
 ·intro i h1 h2;simp [H9,h2]
theorem R5(zs:List Int){k:Nat}(hk:k≤zs.length):H9 (fun j=>zs[j]?.getD 0) k=zs.take k:=by
 apply List.ext_getElem
 ·simp [H9,hk]
 ·intro i h1 h2;have:i<zs.length:=by simp [H9] at h1;omega
  simp [H9,this]
theorem QL(F:Fence)(n:Nat)(h7:F.fn 173)(ca:F.round=none)(hn:1≤n)(l Bs n₀ b off len cap:Nat)(zs:List Int)(eG:len * 8≤140737488351232)(hb:b<n₀)(J Jx:List Int→World→Prop)
 (hY:∀pre x W,J pre W→pre.length<len→YieldAt F (n-1) prog l #[.int .i64 x] W fun e W'=>
  (e=.returned (.bool true)∧J (pre++[x]) W'∧Below n₀ W W')∨(e=.returned (.bool false)∧Jx (pre++[x]) W'))
 (W:World) (dd:W.cell? ⟨Bs,0,none⟩=some (.slice (some ⟨b,off,none⟩) len cap)) (hc:∀j,j<len→W.cell? ⟨b,off+j,none⟩=some (.int .i64 (zs[j]?.getD 0))) (h0:J [] W) :
 CallsIn F n prog 173 #[.func (.yield l) #[] #[],.pointer (some ⟨Bs,0,none⟩)] W fun e W'=>(∃v,e=.returned v) ∧
  ((∃ys,ys=H9 (fun j=>zs[j]?.getD 0) len∧J ys W')∨(∃pre,(∃k,k≤len∧pre=H9 (fun j=>zs[j]?.getD 0) k)∧Jx pre W')):=by
 refine callsIn_of_wp func173 rfl h7 ?_ ca
 simp only [ntmps173,List.size_toArray,List.length_cons,List.length_nil,Nat.reduceAdd,Nat.reduceSub,Array.replicate_succ,Array.replicate_zero,List.push_toArray,List.append_toArray,List.nil_append,List.cons_append]
 gi_wp2
 gi_loopw [7] (fun i wr=>∃k:Nat,k≤len∧i=.int .i64 k∧J (H9 (fun j=>zs[j]?.getD 0) k) wr∧Below n₀ W wr)
  (fun i _=>len-(intOf i).toNat)
 case atStart=>exact⟨0,Nat.zero_le _,rfl,h0,Below.refl _ _⟩
 case round=>
  obtain⟨k,hk,rfl,fu,ip⟩:=hrel;have pE:k<len→wr.cell? ⟨b,off+k,none⟩=some (.int .i64 (zs[k]?.getD 0)):=fun h=>(ip.cell (p:=⟨b,off+k,none⟩) hb).trans (hc k h);by_cases aG:k<len
  ·obtain⟨fn,tmps,assign,body,hy,hR⟩:=hY _ (zs[k]?.getD 0) wr fu (by rw [Ot];exact aG);have pF:=pE aG;gi_wp2;refine hR.mono ?_;rintro e W3 (⟨rfl,lg,fM⟩|⟨rfl,iC⟩)
   ·gi_wp2;go_roundw
    case rel=>exact⟨k+1,by omega,by simp,by rw [MF];exact lg,ip.trans fM⟩
    case measure=>simp [intOf];omega
   ·gi_wp2;refine bodyPost_ret (results_none rfl _ _ _) rfl ?_;exact⟨⟨_,rfl⟩,.inr ⟨_,⟨k+1,by omega,(MF _ _).symm⟩,iC⟩⟩
  ·obtain rfl:k=len:=by omega
   gi_wp2;go_end0;exact⟨⟨_,rfl⟩,.inl ⟨_,rfl,fu⟩⟩
def IE(n₀:Nat)(W:World)(sv:Value)(zs:List Int):Prop:=(∃p c,sv=.slice p 0 c∧zs=[])∨∃b off cap,sv=.slice (some ⟨b,off,none⟩) zs.length cap∧b<n₀∧∀j,j<zs.length→W.cell? ⟨b,off+j,none⟩=some (.int .i64 (zs[j]?.getD 0))
theorem IE.below{n₀:Nat}{A B:World}(h:Below n₀ A B){sv:Value}{zs:List Int}:IE n₀ A sv zs→IE n₀ B sv zs
 |.inl e=>.inl e
 |.inr ⟨b,off,cap,e,hb,hc⟩=>.inr ⟨b,off,cap,e,hb,fun j hj=>(h.cell (p:=⟨b,off+j,none⟩) hb).trans (hc j hj)⟩
theorem LD{p:Option Addr}{c:Nat}(F:Fence)(n:Nat)(h7:F.fn 173)(ca:F.round=none)(l Bs:Nat)(J:List Int→World→Prop)(W:World)(dd:W.cell? ⟨Bs,0,none⟩=some (.slice p 0 c))(h0:J [] W):CallsIn F n prog 173 #[.func (.yield l) #[] #[],.pointer (some ⟨Bs,0,none⟩)] W fun e W'=>(∃v,e=.returned v)∧J [] W':=by
 refine callsIn_of_wp func173 rfl h7 ?_ ca;simp only [ntmps173,List.size_toArray,List.length_cons,List.length_nil,Nat.reduceAdd,Nat.reduceSub,Array.replicate_succ,Array.replicate_zero,List.push_toArray,List.append_toArray,List.nil_append,List.cons_append];gi_wp2;gi_loopw [7] (fun i wr=>i=.int .i64 0∧J [] wr) (fun _ _=>0)
 case atStart=>exact⟨rfl,h0⟩
 case round=>obtain⟨rfl,fu⟩:=hrel;gi_wp2;go_end0;exact⟨⟨_,rfl⟩,fu⟩
theorem NI(F:Fence)(n:Nat)(h7:F.fn 173)(ca:F.round=none)(hn:1≤n)(Bs n₀:Nat)(sv:Value)(zs:List Int)(eG:zs.length * 8≤140737488351232)(w:World)(dd:Bs<w.heap.size)(hn₀:n₀≤w.heap.size)(hc:w.cell? ⟨Bs,0,none⟩=some sv)(hI:IE n₀ w sv zs):SeqStopsK F n prog 173 #[.pointer (some ⟨Bs,0,none⟩)] (fun x:Int=>#[Value.int .i64 x]) (Below n₀) (fun ys=>ys=zs) (fun pre=>pre <+: zs) zs.length w:=fun l J Jx W hW _ _ hY h0=>by
 have fK:=(hW.cell (p:=⟨Bs,0,none⟩) dd).trans hc;rcases hI.below (hW.mono hn₀) with⟨p,c,rfl,rfl⟩|⟨b,off,cap,rfl,hb,ao⟩
 ·exact(LD F n h7 ca l Bs J W fK h0).mono fun e W' ⟨he,hj⟩=>⟨he,.inl ⟨_,rfl,hj⟩⟩
 ·refine(QL F n h7 ca hn l Bs n₀ b off zs.length cap zs eG hb J Jx hY W fK ao h0).mono ?_;rintro e W' ⟨he,⟨ys,rfl,hj⟩|⟨pre,⟨k,hk,rfl⟩,hj⟩⟩
  ·exact⟨he,.inl ⟨_,Tu zs,hj⟩⟩
  ·exact⟨he,.inr ⟨_,by rw [R5 zs hk];exact List.take_prefix _ _,hj⟩⟩
theorem MV(F:Fence)(n:Nat)(h3:F.fn 208)(h5:F.fn 173)(ca:F.round=none)(hn:3≤n)(Bs:Nat)(sv:Value)(xs:List Int)(ac:xs.length * 8≤140737488351232)(w:World)(dd:Bs<w.heap.size)(ao:w.cell? ⟨Bs,0,none⟩=some sv)(hI:IE w.heap.size w sv xs):CallsIn F n prog 208 #[.slice none 0 0,.func (.func 173) #[] #[.pointer (some ⟨Bs,0,none⟩)]] w fun e W'=>∃v,e=.returned v∧W'.ownsRow w.heap.size 3 1 v xs.length (xs.map (Value.int .i64))∧Below w.heap.size w W':=by
 have h1:1≤n:=by omega
 obtain⟨i0,hi,kl,pm,pn⟩:=info_parts Kc;refine callsIn_of_wp_marks func208 rfl h3 ?_ ca;simp only [ntmps208,List.size_toArray,List.length_cons,List.length_nil,Nat.reduceAdd,Nat.reduceSub,Array.replicate_succ,Array.replicate_zero,List.push_toArray,List.append_toArray,List.nil_append,List.cons_append];gi_wp2;have bO:=Boxed.new w 24 (.slice none 0 0);have ld:Below w.heap.size w (w.alloc (.cells #[.slice none 0 0] 24)):=(Below.refl _ w).alloc (Nat.le_refl _) _
 refine wpIn_rangeFunc_ownG ca h1 (gf:=173) (lb:=#[.pointer (some ⟨Bs,0,none⟩)]) rfl h5 (enters_of func173 (by kernel_rfl) rfl)
  (NI F (n-1) h5 ca (by omega) Bs w.heap.size sv xs ac _ (by simp;omega) (by simp) ((ld.cell (p:=⟨Bs,0,none⟩) dd).trans ao) (hI.below ld)) belowK_t (belowK_b (by simp)) (Below.refl _ _) (fun _=>rfl)
  (fun pre W=>(∃v,Boxed W w.heap.size 24 v∧W.ownsRow w.heap.size 3 1 v pre.length (pre.map (Value.int .i64))∧(v=.slice none 0 0↔pre=[]))∧Below w.heap.size w W)
  (fun _ _ _=>False)
  (OwnFrom.and (Own.from (holdsRow_own w.heap.size w.heap.size 24 3 1 (fun pre=>pre.length) (fun pre=>pre.map (Value.int .i64)) (fun pre v=>v=.slice none 0 0↔pre=[])) _) (ownFrom_below (Nat.le_refl _) (by simp)))
  (fun _ _ _ _ _ hs _ _=>hs)
  ⟨⟨_,bO,World.ownsRow_nil _ _ _ _,by simp⟩,ld⟩
  (fun x=>{ tmps:=#[.slice none 0 0,.func (.func 173) #[] #[.pointer (some ⟨Bs,0,none⟩)],.pointer (some ⟨w.heap.size,0,none⟩),undef,.slice none 0 0,.int .i64 x,.func (.func 173) #[] #[.pointer (some ⟨Bs,0,none⟩)],.int .i64 x,undef,undef,undef,undef,undef],defers:=[] }) ?assign ?body ?done ?stop
 case assign=>intro l x W K hK;gi_wp2;exact hK
 case body=>rintro l pre x W ⟨⟨v,hv,aB,aY⟩,hB⟩ aG;have hc:=hv.cell;gi_wp2_with (gi_at_builtin;refine wpListIn_append_own _ rfl _ _ 24 rfl w.heap.size 3 i0 (.int .i64 0) 1 8 underlying24 hi kl pm pn rfl (by decide) _ _ _ rfl (aB.alloc _) ⟨W.heap.size,0,none⟩ 1 1 [.int .i64 x] rfl rfl (cell_one_new _ _ _) (by simp [Value.oneCell']) (by unfold maxLen;omega) (by omega) (by have:=hB.size;simp;omega) ?_;intro v' w1 aH ji _;obtain⟨g',cap',rfl⟩:=ownsRow_succ aH;obtain⟨ng,gD,dL,pN,aj⟩:=hv.appended (by decide) aB hB.size (Nat.le_refl _) aH ji;have ll:=ng.cell;have lp:=ng.frozen);exact⟨pN.from _,aj,⟨_,gD,by simpa using dL,by simp⟩,hB.trans aj⟩
 case done=>rintro D ys W hD rfl ⟨⟨v,hv,aB,aY⟩,hB⟩ hK;have hc:=hv.cell;gi_wp2;refine⟨by simp,.inl ⟨_,_,rfl,run_takeDeferred hK,?_⟩⟩;exact⟨_,results_tmp rfl _ _ _,v,rfl,ownsRow_putObj aB _ hK rfl,hB.trans (belowK_b (w:=w) (Nat.le_refl _) W D _ _ (by simp at hD;omega) hK rfl rfl)⟩
 case stop=>rintro D c pre W _ _ h _;exact h.elim
theorem LK(Bs:Nat)(sv:Value)(xs:List Int)(ac:xs.length * 8≤140737488351232)(w:World)(dd:Bs<w.heap.size)(ao:w.cell? ⟨Bs,0,none⟩=some sv)(hI:IE w.heap.size w sv xs):Calls prog 208 #[.slice none 0 0,.func (.func 173) #[] #[.pointer (some ⟨Bs,0,none⟩)]] w fun e W'=>∃v,e=.returned v∧W'.ownsRow w.heap.size 3 1 v xs.length (xs.map (Value.int .i64))∧Below w.heap.size w W':=(callsIn_wide (n:=6)).1 (MV Fence.wide 6 trivial trivial rfl (by omega) Bs sv xs ac w dd ao hI)
end
def Vi(k:Int):Value:=.agg #[.bool (Ee [3,6,11,13,17,18] k),.bool ((k==13)||(k==18)),.bool (Ee [11,13,18] k),.bool (Ee [11,13,15] k),.bool (k==13)]
theorem VH(k:Int)(w:World):Calls prog 89 #[.int .u8 k] w (RB w (Vi k)):=by
 by_cases h3:k=3
 ·subst h3;go_enter func89,ntmps89;go_wp2_with fail;refine br (heap_alloc_new w _) underlying137 ?_;exact⟨rfl,bA⟩
 have b3:(k==3)=false:=by simpa using h3
 by_cases h6:k=6
 ·subst h6;go_enter func89,ntmps89;go_wp2_with fail;refine br (heap_alloc_new w _) underlying137 ?_;exact⟨rfl,bA⟩
 have b6:(k==6)=false:=by simpa using h6
 by_cases bb:k=17
 ·subst bb;go_enter func89,ntmps89;go_wp2_with fail;refine br (heap_alloc_new w _) underlying137 ?_;exact⟨rfl,bA⟩
 have b17:(k==17)=false:=by simpa using bb
 by_cases cJ:k=11
 ·subst cJ;go_enter func89,ntmps89;go_wp2_with fail;refine br (heap_alloc_new w _) underlying137 ?_;exact⟨rfl,bA⟩
 have b11:(k==11)=false:=by simpa using cJ
 by_cases bn:k=13
 ·subst bn;go_enter func89,ntmps89;go_wp2_with fail;refine br (heap_alloc_new w _) underlying137 ?_;exact⟨rfl,bA⟩
 have b13:(k==13)=false:=by simpa using bn
 by_cases fc:k=15
 ·subst fc;go_enter func89,ntmps89;go_wp2_with fail;refine br (heap_alloc_new w _) underlying137 ?_;exact⟨rfl,bA⟩
 have b15:(k==15)=false:=by simpa using fc
 by_cases bL:k=18
 ·subst bL;go_enter func89,ntmps89;go_wp2_with fail;refine br (heap_alloc_new w _) underlying137 ?_;exact⟨rfl,bA⟩
 have b18:(k==18)=false:=by simpa using bL
 have hz:Hd (Vi k=.agg #[.bool false,.bool false,.bool false,.bool false,.bool false]):=by
  show _=_;have c3:((3:Int)==k)=false:=by rw [BEq.comm];exact b3
  have c6:((6:Int)==k)=false:=by rw [BEq.comm];exact b6
  have c17:((17:Int)==k)=false:=by rw [BEq.comm];exact b17
  have c11:((11:Int)==k)=false:=by rw [BEq.comm];exact b11
  have c13:((13:Int)==k)=false:=by rw [BEq.comm];exact b13
  have c15:((15:Int)==k)=false:=by rw [BEq.comm];exact b15
  have c18:((18:Int)==k)=false:=by rw [BEq.comm];exact b18
  simp only [Vi,Ee,List.any_cons,List.any_nil,c3,c6,c17,c11,c13,c15,c18,b13,b18,Bool.or_false]
 clear h3 h6 bb cJ bn fc bL;go_enter func89,ntmps89;go_wp2_with fail;refine br (heap_alloc_new w _) underlying137 ?_;exact⟨by rw [hz.out],bA⟩
def G2(there:Bool)(t:PT):Bool:=if there then Bj t.er else Ct t.head
theorem GE(there:Bool)(t:PT){w:World}(hl:LR.lies w t)(h1:t.head.en≤1000000)(h2:t.head.kn≤1000000):Calls prog 94 #[.bool there,C9 t.head] w (RB w (.bool (G2 there t))):=by
 have HB:=AA ((Below.refl w.heap.size w).alloc (Nat.le_refl _) (.cells #[.int .u8 t.head.kind,.int .i64 t.head.rho,.slice t.head.ep t.head.en t.head.ec,.slice t.head.kp t.head.kn t.head.kc] 28));have HL:=AA (LR.lies_below HB.o t hl);clear hl;cases there with
 |true=>
  go_enter func94,ntmps94;go_wp2_with (go_at_call 129;refine(La HL.o rfl _ (by simp)).mono ?_;rintro e w2 ⟨rfl,hb⟩;have aI:=AA hb;clear hb);go_ret;exact⟨rfl,HB.o.trans ((bA |>.trans (aI.o.mono (by simp))).mono HB.o.size)⟩
 |false=>
  have hw:IntKind.i64.wrap ((t.head.en:Int)+t.head.kn)=(t.head.en:Int)+t.head.kn:=IntWalk.i64_in _ (by omega);have HP:Hd (Ct t.head=((t.head.kind==0)&&(t.head.rho==0)&&((t.head.en:Int)+t.head.kn==0))):=by show _=_;unfold Ct;rw [Bool.and_assoc (_&&_)];congr 1;rw [Bool.eq_iff_iff];simp only [Bool.and_eq_true,beq_iff_eq];omega
  cases hk:(t.head.kind==0) with
  |false=>
   rw [hk] at HP;go_enter func94,ntmps94;go_wp2_with fail;go_ret;exact⟨AE (by show _=Ct _;rw [HP.o];rfl),HB.o⟩
  |true=>
   rw [hk] at HP;cases hr:(t.head.rho==0) with
   |false=>
    rw [hr] at HP;go_enter func94,ntmps94;go_wp2_with fail;go_ret;exact⟨AE (by show _=Ct _;rw [HP.o];rfl),HB.o⟩
   |true=>
    rw [hr] at HP;go_enter func94,ntmps94;go_wp2_with fail;go_ret;exact⟨AE (by show _=Ct _;rw [HP.o];simp),HB.o⟩
theorem CW.range{W:World}{b:Nat}{a:AH}(h:CW W b a):W.rangeAt b 0 (Bg a):=fun j v hj=>by rw [Nat.zero_add];exact h.c j v hj
theorem LO(a:AH)(bb:a.kind=17)(hk:a.kn≤1000000)(w:World):Calls prog 90 #[An a] w (RB w (.bool (Da a.hd a.kn))):=by
 have HB:=AA ((Below.refl w.heap.size w).alloc (Nat.le_refl _) (AO a));have HA:=AA (Ah w a);have e17:(a.kind==17)=true:=by simp [bb]
 have E17:=AA bb;clear bb;go_enter func90,ntmps90;go_upto_region 3 with fail;obtain⟨c0,c1,c2,c3,c4,c5,c6,c7,c8,c9,c10,c11,c12,c13,c14,c15,c16,c17,c18⟩:=HA.o.all;clear c7 c8 c9 c10 c11 c12 c13 c14 c15 c16 c17;generalize w.alloc (AO a)=W1 at *
 go_wp2_with fail
 all_goals (
  go_ret;refine⟨AE ?_,HB.o⟩;unfold Da;rw [if_pos (show a.hd.kind=17 from E17.out)];clear c0 c1 c2 c3 c4 c5 c6 c18;simp_all [Lr,AH.hd];try (intros;omega))
theorem ON(h:BY)(n:Nat)(hn:3<n):Bp h n=false:=by
 have hk:BI h.kind≤3:=by
  unfold BI;split
  ·omega
  ·split
   ·omega
   ·split
    ·omega
    ·split<;>omega
 have:((n:Int) != BI h.kind)=true:=by simp;omega
 unfold Bp;rw [this];simp
theorem N7{a:AH}(bb:a.kind≠17)(bL:a.kind≠18):Da a.hd a.kn=(decide ((a.kn:Int)≤3)&&Bp a.hd a.kn):=by
 unfold Da;rw [if_neg (show ¬a.hd.kind=17 from bb),if_neg (show ¬a.hd.kind=18 from bL)];by_cases h:a.kn≤3
 ·have e:decide ((a.kn:Int)≤3)=true:=by simp;omega
  rw [e,Nat.min_eq_left (by omega)];rfl
 ·have e:decide ((a.kn:Int)≤3)=false:=by simp;omega
  rw [e,ON _ _ (by omega)];rfl
theorem EU(s:ByteArray):s.toList.isEmpty=decide (s.size=0):=by
 rw [Lib.toList_data];obtain⟨⟨l⟩⟩:=s;cases l with
 |nil=>rfl
 |cons b l=>show false=decide (l.length+1=0);simp
theorem N6(op at_ z:Int)(name arg exn:ByteArray)(m:Nat):Da ⟨18,op,at_,z,name,arg,exn⟩ m=(decide ((m:Int)≤3)&&Bp ⟨2,op,at_,z,name,arg,exn⟩ m):=by
 show (Lr ⟨18,op,at_,z,name,arg,exn⟩&&Bo name&&decide (0≤at_)&&((m:Int)==0))=(decide ((m:Int)≤3)&&(!(decide ((0:Int)<0)||((m:Int) != 0)||decide (at_<0))&&!(false||true&&(op != 0))&&!(decide (z<0)||decide (2147483647<z)||true&&(z != 0))&&(Ec true name (Bo name)&&Ec false arg (Bo arg)&&Ec false exn (Cg exn))));show (((op==0)&&(z==0)&&arg.toList.isEmpty&&exn.toList.isEmpty)&&Bo name&&decide (0≤at_)&&((m:Int)==0))=_;unfold Ec;rw [EU,EU];rw [Bool.eq_iff_iff];simp only [Bool.and_eq_true,Bool.or_eq_true,Bool.not_eq_true',Bool.or_eq_false_iff,beq_iff_eq,bne_iff_ne,decide_eq_true_eq,decide_eq_false_iff_not,bne_eq_false_iff_eq,Bool.false_or,Bool.true_and,Bool.not_true,Bool.not_false,Bool.or_false,Bool.false_and];constructor
 ·rintro⟨⟨⟨⟨⟨⟨h1,h2⟩,h3⟩,h4⟩,h5⟩,h6⟩,h7⟩;exact⟨by omega,⟨⟨⟨by omega,by omega⟩,h1⟩,by omega,by omega⟩,⟨h5,h3⟩,h4⟩
 ·rintro⟨h1,⟨⟨⟨⟨_,h2⟩,h3⟩,h4⟩,h5,h6⟩,⟨h7,h8⟩,h9⟩;exact⟨⟨⟨⟨⟨⟨h4,h6⟩,h8⟩,h9⟩,h7⟩,by omega⟩,h2⟩
theorem Mk(a:AH)(bb:a.kind≠17)(bL:a.kind≠18)(bC:0≤a.kind)(cZ:a.kind≤255)(hk:a.kn≤1000000){w:World}(hv:Vr w):Calls prog 90 #[An a] w (RB w (.bool (Da a.hd a.kn))):=by
 have HB:=AA ((Below.refl w.heap.size w).alloc (Nat.le_refl _) (AO a));have HA:=AA (Ah w a);have HV:=AA hv;have HR:=AA (N7 bb bL);have e17:(a.kind==17)=false:=by simpa using bb
 have e18:(a.kind==18)=false:=by simpa using bL
 clear bb bL hv;by_cases h3:a.kn≤3
 ·have dC:decide ((a.kn:Int)≤3)=true:=by simp;omega
  rw [dC,Bool.true_and] at HR;go_enter func90,ntmps90;go_upto_region 2 with fail;obtain⟨c0,c1,c2,c3,c4,c5,c6,c7,c8,c9,c10,c11,c12,c13,c14,c15,c16,c17,c18⟩:=HA.o.all;clear c1 c2 c3 c4 c5 c6 c7 c8 c9 c10 c11 c12 c13 c14 c15 c16 c17
  go_wp2_with (first
   |(refine Pr [.int .u8 a.kind,.int .u8 a.op,.int .i64 a.at_,.int .i64 a.n,.string a.name,.string a.arg,.string a.exn,.int .i64 a.rho,.slice a.rp a.rn a.rc,.slice a.ep a.en a.ec,.int .u8 a.ty.head.kind,.int .i64 a.ty.head.rho,.slice a.ty.head.ep a.ty.head.en a.ty.head.ec,.slice a.ty.head.kp a.ty.head.kn a.ty.head.kc,.int .u8 a.res.head.kind,.int .i64 a.res.head.rho,.slice a.res.head.ep a.res.head.en a.res.head.ec,.slice a.res.head.kp a.res.head.kn a.res.head.kc,.slice a.kp a.kn a.kc] HA.o.range underlying31 ?_)
   |(go_at_call 121;refine(GF a (show a.kn≤1000 by omega) _).mono ?_;rintro e w2 ⟨⟨p2,c2',rfl,aB⟩,hb⟩;have aa:=AA aB;have aI:=bt HB hb;clear aB hb)
   |(go_at_call 120;refine(He (HV.o.below aI.o) (t:=⟨(a:AH).hd,p2,a.kn,c2'⟩) aa.o (show a.kn≤1000 by omega) bC cZ).mono ?_;rintro e w3 ⟨rfl,hb⟩;have aT:=bt aI hb;clear hb))
  go_ret;exact⟨AE HR.o.symm,aT.o⟩
 ·have dC:decide ((a.kn:Int)≤3)=false:=by simp;omega
  rw [dC,Bool.false_and] at HR;go_enter func90,ntmps90;go_upto_region 2 with fail;obtain⟨c0,c1,c2,c3,c4,c5,c6,c7,c8,c9,c10,c11,c12,c13,c14,c15,c16,c17,c18⟩:=HA.o.all;clear c1 c2 c3 c4 c5 c6 c7 c8 c9 c10 c11 c12 c13 c14 c15 c16 c17;go_wp2_with fail;go_ret;exact⟨AE HR.o.symm,HB.o⟩
theorem N8(a:AH)(bL:a.kind=18)(hk:a.kn≤1000000){w:World}(hv:Vr w):Calls prog 90 #[An a] w (RB w (.bool (Da a.hd a.kn))):=by
 have dU:=AA ((Below.refl w.heap.size w).alloc (Nat.le_refl _) (AO a));have HB:=AA ((Below.refl w.heap.size w).alloc (Nat.le_refl _) (AO {a with kind:=2}));have cR:=AA (Ah w a);have HA:=AA (Ah w {a with kind:=2});have HV:=AA hv;have HR:Hd (Da a.hd a.kn=(decide ((a.kn:Int)≤3)&&Bp ({a with kind:=2}:AH).hd a.kn)):=by show _=_;have:=N6 a.op a.at_ a.n a.name a.arg a.exn a.kn;rw [←bL] at this;exact this
 have e17:(a.kind==17)=false:=by simp;omega
 have e18:(a.kind==18)=true:=by simpa using bL
 clear bL hv;go_enter func90,ntmps90;have c18:=HA.o.c 18 _ rfl;by_cases h3:a.kn≤3
 ·have dC:decide ((a.kn:Int)≤3)=true:=by simp;omega
  rw [dC,Bool.true_and] at HR;go_upto_region 6 with fail
  go_wp2_with (first
   |(refine Pr [.int .u8 2,.int .u8 a.op,.int .i64 a.at_,.int .i64 a.n,.string a.name,.string a.arg,.string a.exn,.int .i64 a.rho,.slice a.rp a.rn a.rc,.slice a.ep a.en a.ec,.int .u8 a.ty.head.kind,.int .i64 a.ty.head.rho,.slice a.ty.head.ep a.ty.head.en a.ty.head.ec,.slice a.ty.head.kp a.ty.head.kn a.ty.head.kc,.int .u8 a.res.head.kind,.int .i64 a.res.head.rho,.slice a.res.head.ep a.res.head.en a.res.head.ec,.slice a.res.head.kp a.res.head.kn a.res.head.kc,.slice a.kp a.kn a.kc] HA.o.range underlying31 ?_)
   |(go_at_call 121;refine(GF {a with kind:=2} (show a.kn≤1000 by omega) _).mono ?_;rintro e w2 ⟨⟨p2,c2',rfl,aB⟩,hb⟩;have aa:=AA aB;have aI:=bt HB hb;clear aB hb)
   |(go_at_call 120;refine(He (HV.o.below aI.o) (t:=⟨({a with kind:=2}:AH).hd,p2,a.kn,c2'⟩) aa.o (show a.kn≤1000 by omega) (show (0:Int)≤2 by omega) (show (2:Int)≤255 by omega)).mono ?_;rintro e w3 ⟨rfl,hb⟩;have aT:=bt aI hb;clear hb))
  go_ret;exact⟨AE HR.o.symm,aT.o⟩
 ·have dC:decide ((a.kn:Int)≤3)=false:=by simp;omega
  rw [dC,Bool.false_and] at HR;go_upto_region 6 with fail;go_wp2_with fail;go_ret;exact⟨AE HR.o.symm,HB.o⟩
theorem Im(a:AH)(bC:0≤a.kind)(cZ:a.kind≤255)(hk:a.kn≤1000000){w:World}(hv:Vr w):Calls prog 90 #[An a] w (RB w (.bool (Da a.hd a.kn))):=by
 by_cases bb:a.kind=17
 ·exact LO a bb hk w
 ·by_cases bL:a.kind=18
  ·exact N8 a bL hk hv
  ·exact Mk a bb bL bC cZ hk hv
end Go.Proofs.YtkdjnegfnhldpaaGreatDoor
