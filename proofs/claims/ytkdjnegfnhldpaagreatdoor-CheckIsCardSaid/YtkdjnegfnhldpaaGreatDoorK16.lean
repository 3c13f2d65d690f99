/- Part 16. -/
import Derived.RangeFuncBox
import Derived.RangeFuncLeaves
import Derived.Shelf.Abstract
import Derived.OwnWalkIn
import Derived.TacticsInMore
import Derived.LoopNIn
import Derived.LoopIn
import Derived.Test.YtkdjnegfnhldpaaGreatDoorK15
set_option linter.unusedVariables false
set_option maxRecDepth 100000
set_option linter.unusedSimpArgs false
set_option maxHeartbeats 40000000
namespace Go.Proofs.YtkdjnegfnhldpaaGreatDoor
open Go.Proofs.Tryz Go.RowKit
structure FY where
 hd:CT
 kp:Option Addr
 kn:Nat
 kc:Nat
def FD(t:FY):List Value:=[.int .u8 t.hd.kind,.int .u8 t.hd.op,.int .i64 t.hd.at_,.int .i64 t.hd.n,.string t.hd.name,.string t.hd.arg,.string t.hd.exn,.slice t.kp t.kn t.kc]
theorem TR(t:FY):(FD t).length=8:=rfl
theorem Km:∀t:FY,∀u∈FD t,u.oneCell'=true:=by intro y u hu;simp [FD] at hu;rcases hu with rfl|rfl|rfl|rfl|rfl|rfl|rfl|rfl<;>rfl
abbrev Wk(t:FY):Value:=OE t.hd t.kp t.kn t.kc
def Cd(kids:FY→List FY)(l:List FY):List FY:=(l.map (fun t=>t::kids t)).flatten
theorem PG(kids:FY→List FY)(l:List FY)(k:Nat):Cd kids l=Cd kids (l.take k)++Cd kids (l.drop k):=by unfold Cd;rw [←List.flatten_append,←List.map_append,List.take_append_drop]
theorem Qj{kids:FY→List FY}{l:List FY}{k:Nat}{x:FY}(h:l[k]?=some x):Cd kids (l.take (k+1))=Cd kids (l.take k)++x::kids x:=by unfold Cd;rw [List.take_add_one,h];simp
theorem VU{σ:Type}{kids:FY→List FY}(st:FY→σ→Bool×σ)(s:σ){l:List FY}{k:Nat}{x:FY}(h:l[k]?=some x)(hb:(AU st (Cd kids (l.take k)) s).1=true):AU st (Cd kids (l.take (k+1))) s=if(st x (AU st (Cd kids (l.take k)) s).2).1 then AU st (kids x) (st x (AU st (Cd kids (l.take k)) s).2).2 else(false,(st x (AU st (Cd kids (l.take k)) s).2).2):=by rw [Qj h,FI,if_pos hb];rfl
theorem Qx{σ:Type}{kids:FY→List FY}(st:FY→σ→Bool×σ)(s:σ)(l:List FY)(k:Nat)(hb:(AU st (Cd kids (l.take k)) s).1=false):AU st (Cd kids l) s=AU st (Cd kids (l.take k)) s:=by rw [PG kids l k,FI,if_neg (by rw [hb];exact Bool.false_ne_true)]
structure Xa(w0:World)(row:Option Nat)(g:Nat)(lb:Array Value){σ:Type}(Inv:σ→World→Prop)(ok:FY→Prop)(st:FY→σ→Bool×σ):Prop where
 eg:∀args w,(callFunc g args).run prog w=.ok (.enter g args) w
 hb:∀b,row=some b→w0.heap.size≤b
 lt:∀b,row=some b→∀s W,Inv s W→b<W.heap.size
 inv:∀s W W',Inv s W→Below W.heap.size W W'→Inv s W'
 call:∀a s W,ok a→Below w0.heap.size w0 W→Inv s W→Calls prog g (#[Wk a]++lb) W fun e w'=>e=.returned (.bool (st a s).1)∧Inv (st a s).2 w'∧W.grownBy w' row
def Po(w0:World)(row:Option Nat)(g:Nat)(lb:Array Value){σ:Type}(Inv:σ→World→Prop)(ok:FY→Prop)(st:FY→σ→Bool×σ)(p:Option Addr)(n c:Nat)(L:List FY):Prop:=(∀a∈L,ok a)→∀s W,Below w0.heap.size w0 W→Inv s W→Calls prog 168 #[.func (.func g) #[] lb,.slice p n c] W fun e w'=>e=.returned (.bool (AU st L s).1)∧Inv (AU st L s).2 w'∧W.grownBy w' row
theorem Mn{kids:FY→List FY}{l:List FY}{x:FY}(hx:x∈l){a:FY}(ha:a∈x::kids x):a∈Cd kids l:=List.mem_flatten.2 ⟨_,List.mem_map_of_mem hx,ha⟩
theorem OF(w:World)(t:FY):Gp (w.alloc (I9 t.hd t.kp t.kn t.kc)) w.heap.size t.hd (.slice t.kp t.kn t.kc):=⟨heap_alloc_new w _⟩
theorem Ha{w0:World}{row:Option Nat}{g:Nat}{lb:Array Value}{σ:Type}{Inv:σ→World→Prop}{ok:FY→Prop}{st:FY→σ→Bool×σ}(F:Xa w0 row g lb Inv ok st)(kids:FY→List FY){p:Option Addr}{n c:Nat}{l:List FY}(hR:AE FD 8 w0 p n c l)(ih:∀x∈l,Po w0 row g lb Inv ok st x.kp x.kn x.kc (kids x)):Po w0 row g lb Inv ok st p n c (Cd kids l):=by
 intro bY s W jn fX;have eg:=F.eg;have HF:=AA F;have HI:=AA ih;have HR:=AA hR;have dc:=AA bY;have ay:=AA jn;have HV:=AA fX;have gl:n≤9223372036854775807:=hR.max;clear F ih hR bY jn fX;go_enter func168,ntmps168;go_wp2_with fail;go_loopw [9] (fun i wr=>∃(k:Nat) (S:Bool×σ),k≤n∧i=.int .i64 k∧Hd (AU st (Cd kids (l.take k)) s=S)∧S.1=true∧Inv S.2 wr∧W.grownBy wr row) (fun i _=>n-(intOf i).toNat)
 case atStart=>exact⟨0,(true,s),by omega,rfl,AA rfl,rfl,HV.o,World.grownBy.refl _ _⟩
 case round=>
  obtain⟨k,S,hk,rfl,HS,hs,ju,hg⟩:=hrel;have gq:=AA ju;have HG:=AA hg;have cj:=AA hs;have HB:=AA (ay.o.grown hg ay.o.size HF.o.hb);clear ju hg hs;by_cases aF:k<n
  ·obtain⟨a,hx⟩:=AM (l:=l) (j:=k) (by rw [HR.o.len];exact aF);obtain⟨b,o,bF,aP,am⟩:=(HR.o.below HB.o).row.elem hx;have dC:=AA am;subst bF;have hE:=List.mem_of_getElem? hx;have fG:=AA (show Po w0 row g lb Inv ok st a.kp a.kn a.kc (kids a) from HI.o _ hE);have jh:=AA (show ∀a'∈kids a,ok a' from fun a' ha=>dc.o a' (Mn hE (List.mem_cons_of_mem _ ha)));have fY:ok a:=dc.o a (Mn hE List.mem_cons_self)
   have bx:=AA (show AU st (Cd kids (l.take (k+1))) s=if(st a S.2).1 then AU st (kids a) (st a S.2).2 else(false,(st a S.2).2) by
    have h:=VU (kids:=kids) st s hx (by rw [HS.o];exact cj.o);rw [HS.o] at h;exact h)
   clear hx aP am hE;have aE:=AA (OF wr a);have bz:Below wr.heap.size wr (wr.alloc (I9 a.hd a.kp a.kn a.kc)):=bA;have aJ:=bt HB bz;have iK:=AA (HF.o.inv _ _ _ gq.o bz);have bb:=AA (HF.o.call a S.2 _ fY aJ.o iK.o);have iI:=AA (HG.o.trans ((World.grownBy_alloc wr (I9 a.hd a.kp a.kn a.kc) row)));clear bz fY;have jm:(wr.alloc OB).heap[wr.heap.size]?=some (.cells #[.int .u8 0,.int .u8 0,.int .i64 0,.int .i64 0,.string ⟨#[]⟩,.string ⟨#[]⟩,.string ⟨#[]⟩,.slice none 0 0] 53 (0,0)):=heap_alloc_new wr _;have cF:=AA jm;clear jm;cases hq:(st a S.2).1 with
   |false=>
    rw [hq] at bb bx;have HQ:=AA hq;clear hq
    go_wp2_with (first
     |(refine lm (FD a) dC.o underlying53 ?_)
     |(refine wpList_store_row rfl 53 _ _ rfl wr.heap.size (FD a).toArray rfl rfl 53 _ cF.o (by kernel_rfl) rfl (all_oneCell_toArray (Km a)) ?_;rw [World.setRow_alloc_new])
     |(refine lw aE.o.blk underlying53 ?_)
     |(go_at_fn g;refine bb.o.mono ?_;rintro e w2 ⟨rfl,cG,a8⟩;have bi:=AA cG;have eT:=AA (iI.o.trans a8);clear cG a8))
    go_ret;have bg:AU st (Cd kids l) s=(false,(st a S.2).2):=by rw [Qx st s l (k+1) (by rw [bx.o];rfl),bx.o];rfl
    exact⟨AB (by rw [bg]),by rw [bg];exact bi.o,eT.o⟩
   |true=>
    rw [hq] at bb bx;have HQ:=AA hq;clear hq;have HM:=AA (HF.o.hb);have q18:∀w2,(wr.alloc (I9 a.hd a.kp a.kn a.kc)).grownBy w2 row→Inv (st a S.2).2 w2→w2.cell? ⟨wr.heap.size,7,none⟩=some (.slice a.kp a.kn a.kc)∧Below w0.heap.size w0 w2:=fun w2 a8 cG=>⟨a8.cell (a:=⟨wr.heap.size,7,none⟩) (aE.o.cells.2.2.2.2.2.2.2.1) (fun e=>by have:=HF.o.lt _ e.symm _ _ gq.o;exact Nat.lt_irrefl _ this),aJ.o.grown a8 aJ.o.size HM.o⟩;have fR:=AA q18;clear q18;cases ee:(AU st (kids a) (st a S.2).2).1 with
    |false=>
     have du:=AA ee;clear ee
     go_wp2_with (first
      |(refine lm (FD a) dC.o underlying53 ?_)
      |(refine wpList_store_row rfl 53 _ _ rfl wr.heap.size (FD a).toArray rfl rfl 53 _ cF.o (by kernel_rfl) rfl (all_oneCell_toArray (Km a)) ?_;rw [World.setRow_alloc_new])
      |(refine lw aE.o.blk underlying53 ?_)
      |(first|(go_at_fn g;refine bb.o.mono ?_;rintro e w2 ⟨rfl,cG,a8⟩;obtain⟨c18,bQ⟩:=fR.o _ a8 cG;have bi:=AA cG;have eT:=AA (iI.o.trans a8);have aK:=AA bQ;clear cG a8 bQ)|(go_at_call 168;refine(fG.o jh.o _ _ aK.o bi.o).mono ?_;rw [du.o];rintro e w3 ⟨rfl,fW,bM⟩;have cb:=AA fW;have cy:=AA (eT.o.trans bM);clear fW bM)))
     go_ret;have bg:AU st (Cd kids l) s=AU st (kids a) (st a S.2).2:=by rw [Qx st s l (k+1) (by rw [bx.o];exact du.o),bx.o];rfl
     exact⟨AB (by rw [bg,du.o]),by rw [bg];exact cb.o,cy.o⟩
    |true=>
     have du:=AA ee;clear ee
     go_wp2_with (first
      |(refine lm (FD a) dC.o underlying53 ?_)
      |(refine wpList_store_row rfl 53 _ _ rfl wr.heap.size (FD a).toArray rfl rfl 53 _ cF.o (by kernel_rfl) rfl (all_oneCell_toArray (Km a)) ?_;rw [World.setRow_alloc_new])
      |(refine lw aE.o.blk underlying53 ?_)
      |(first|(go_at_fn g;refine bb.o.mono ?_;rintro e w2 ⟨rfl,cG,a8⟩;obtain⟨c18,bQ⟩:=fR.o _ a8 cG;have bi:=AA cG;have eT:=AA (iI.o.trans a8);have aK:=AA bQ;clear cG a8 bQ)|(go_at_call 168;refine(fG.o jh.o _ _ aK.o bi.o).mono ?_;rw [du.o];rintro e w3 ⟨rfl,fW,bM⟩;have cb:=AA fW;have cy:=AA (eT.o.trans bM);clear fW bM)))
     go_roundw
     case rel=>exact⟨k+1,_,by omega,by go_num,bx,by show (AU st (kids a) (st a S.2).2).1=true;exact du.o,cb.o,cy.o⟩
     case measure=>simp [intOf];omega
  ·have ao:k=n:=by omega
   have cA:l.take k=l:=AP (by rw [HR.o.len,ao];exact Nat.le_refl _);rw [cA] at HS;go_wp2_with fail;go_ret;exact⟨AB (by rw [HS.o,cj.o]),by rw [HS.o];exact gq.o,HG.o⟩
def GP:FY:=⟨⟨1,0,0,0,⟨#[]⟩,⟨#[]⟩,⟨#[]⟩⟩,none,0,0⟩
theorem Ik{w0:World}{row:Option Nat}{g:Nat}{lb:Array Value}{σ:Type}{Inv:σ→World→Prop}{ok:FY→Prop}{st:FY→σ→Bool×σ}(F:Xa w0 row g lb Inv ok st){t:FY}{p:Option Addr}{c:Nat}(hk:AE Ng 8 w0 t.kp t.kn t.kc (List.replicate t.kn ()))(ht:AE FD 8 w0 p 1 c [t]):Po w0 row g lb Inv ok st p 1 c (t::List.replicate t.kn GP):=by
 have h0:Po w0 row g lb Inv ok st none 0 0 []:=Ha F (fun _=>[]) (AE.none _ _ _) (fun x hx=>absurd hx (by simp))
 have h1:AE FD 8 w0 t.kp t.kn t.kc (List.replicate t.kn GP):=by
  refine⟨by simp,hk.max,hk.le,hk.nil,?_⟩;rcases hk.row with h|⟨b,o,hp,hb,hc⟩
  ·left;have h2:t.kn=0:=by simpa using h
   simp [h2]
  ·refine .inr ⟨b,o,hp,hb,fun j x hx i v hv=>?_⟩;have hj:j<t.kn:=by have:=(List.getElem?_eq_some_iff.1 hx).1;simpa using this
   have nt:x=GP:=(List.mem_replicate.1 (List.mem_of_getElem? hx)).2;subst nt;exact hc j () (by simp [hj]) i v hv
 have h2:=Ha F (fun _=>[]) h1 (fun x hx=>by
  rw [(List.mem_replicate.1 hx).2];exact h0)
 have e2:Cd (fun _=>[]) (List.replicate t.kn GP)=List.replicate t.kn GP:=by
  unfold Cd;generalize t.kn=m;induction m with
  |zero=>rfl
  |succ m ih=>rw [List.replicate_succ,List.map_cons,List.flatten_cons,ih];rfl
 rw [e2] at h2
 have h3:=Ha F (fun _=>List.replicate t.kn GP) ht (fun x hx=>by
  rw [List.mem_singleton.1 hx];exact h2)
 simpa [Cd] using h3
theorem UC{P:Program}{ops:Array Oper}{rest:List Oper}{op:Oper}{a:Act}{w:World}{Q:Exit→Act→World→Prop}(hw:Region.wanted op (yielded ops a.tmps)=true)(ty:TypeId)(x:Operand)(ho:op.op=.load ty x)(b o:Nat)(hx:a.eval x=.pointer (some ⟨b,o,none⟩))(cs:List Value)(d:TypeDesc)(hc:w.rangeAt b o cs)(hu:P.underlying ty=some d)(hd:d.isRow=true)(hi:(P.info? ty).map (·.size)=some cs.length)(h:wpList P ops Q rest (a.put op.dst (.agg cs.toArray)) w):wpList P ops Q (op::rest) a w:=by rw [wpList,if_pos hw];exact .inl (wp_load_mid ty x ho b o hx cs d hc hu hd hi h)
theorem Gp.range{w:World}{g:Nat}{h:CT}{p:Option Addr}{n c:Nat}(hb:Gp w g h (.slice p n c)):w.rangeAt g 0 (FD ⟨h,p,n,c⟩):=by have hb:=hb.blk;intro i u hu;have:i<8:=(List.getElem?_eq_some_iff.1 hu).1;rcases (by omega:i=0∨i=1∨i=2∨i=3∨i=4∨i=5∨i=6∨i=7) with rfl|rfl|rfl|rfl|rfl|rfl|rfl|rfl<;>(simp [FD] at hu;subst hu;simp [World.cell?,hb])
def Cw(b:Nat)(z:Int)(W:World):Prop:=W.heap[b]?=some (.cells #[.int .i64 z] 3 (0,0))
theorem Cw.cells{W:World}{b:Nat}{z:Int}(h:Cw b z W):W.cell? ⟨b,0,none⟩=some (.int .i64 z)∧W.frozen? ⟨b,0,none⟩=false:=by unfold Cw at h;simp [World.cell?,World.frozen?,h]
theorem Cw.lt{W:World}{b:Nat}{z:Int}(h:Cw b z W):b<W.heap.size:=(Array.getElem?_eq_some_iff.1 h).1
theorem Cw.below{W W':World}{b:Nat}{z:Int}(h:Cw b z W)(hb:Below W.heap.size W W'):Cw b z W':=by unfold Cw;rw [hb.block b h.lt];exact h
theorem Cw.set{W:World}{b:Nat}{z:Int}(h:Cw b z W)(y:Int):Cw b y (W.setCell ⟨b,0,none⟩ (.int .i64 y)):=by unfold Cw at h ⊢;simpa using AZ (o:=0) (.int .i64 y) h
def Hk{α:Type}(_:α)(z:Int):Bool×Int:=(true,IntKind.i64.wrap (z+1))
theorem Kr{α:Type}:∀(l:List α) (z:Int),0≤z→z+l.length≤1000000000→AU Hk l z=(true,z+l.length)
 |[],z,_,_=>by simp [AU]
 |a::l,z,h0,h=>by
  have hl:((a::l).length:Int)=(l.length:Int)+1:=by simp
  have e:IntKind.i64.wrap (z+1)=z+1:=IntWalk.i64_in _ (by omega);show (if true=true then AU Hk l (IntKind.i64.wrap (z+1)) else _)=_;rw [if_pos rfl,e,Kr l (z+1) (by omega) (by omega),hl];congr 1;omega
theorem NP(t:FY)(b:Nat)(z:Int)(W:World)(h:Cw b z W):Calls prog 203 #[Wk t,.pointer (some ⟨b,0,none⟩)] W fun e w'=>e=.returned (.bool (Hk t z).1)∧Cw b (Hk t z).2 w'∧W.grownBy w' (some b):=by have HA:=AA (h.below ((Below.refl _ _).alloc (Nat.le_refl _) (I9 t.hd t.kp t.kn t.kc)));obtain⟨q0,qf⟩:=HA.o.cells;obtain⟨Z,hZ⟩:∃Z,IntKind.i64.wrap (z+1)=Z:=⟨_,rfl⟩;have HZ:Hd ((Hk t z).2=Z):=hZ;clear h;go_enter func203,ntmps203;go_wp2_with fail;go_ret;refine⟨rfl,?_⟩;rw [HZ.o];exact⟨HA.o.set Z,(World.grownBy_alloc W _ _).trans (AL _ _ _ _)⟩
theorem Up{w0:World}{b:Nat}(hb:w0.heap.size≤b):Xa w0 (some b) 203 #[.pointer (some ⟨b,0,none⟩)] (Cw b) (fun _=>True) Hk where
 eg:=fun args w=>rfl
 hb:=fun b' h=>by injection h with h;omega
 lt:=fun b' h s W hi=>by injection h with h;rw [←h];exact hi.lt
 inv:=fun s W W' hi aP=>hi.below aP
 call:=fun a s W _ _ hi=>NP a b s W hi
theorem NQ{w:World}{t:FY}{p:Option Addr}{c:Nat}(hk:AE Ng 8 w t.kp t.kn t.kc (List.replicate t.kn ()))(ht:AE FD 8 w p 1 c [t])(h3:t.kn≤1000):Calls prog 167 #[.slice p 1 c] w (RB w (.int .i64 (1+t.kn))):=by
 have HE:=AA (Ik (Up (w0:=w) (b:=w.heap.size) (Nat.le_refl _)) hk ht);have HP:Hd (AU Hk (t::List.replicate t.kn GP) 0=(true,1+(t.kn:Int))):=by show _=_;rw [Kr (t::List.replicate t.kn GP) 0 (by omega) (by simp;omega)];congr 1;simp;omega
 have HI:Hd (Cw w.heap.size 0 (w.alloc (.cells #[.int .i64 0] 3))):=heap_alloc_new w _;have HB:=AA ((Below.refl w.heap.size w).alloc (Nat.le_refl _) (.cells #[.int .i64 0] 3));have HG:=AA (World.grownBy_alloc w (.cells #[.int .i64 0] 3) (some w.heap.size));clear hk ht;go_enter func167,ntmps167;go_wp2_with (go_at_call 168;refine(HE.o (fun _ _=>trivial) 0 _ HB.o HI.o).mono ?_;rw [HP.o];rintro e w2 ⟨rfl,cG,a8⟩;obtain⟨q0,qf⟩:=cG.cells;have eT:=AA (HG.o.trans a8);clear cG a8);go_ret;exact⟨rfl,En eT.o (Nat.le_refl _) (fun b hb=>by injection hb with hb;omega)⟩
theorem Tk:Be GP.hd 0=true:=by decide
def Qi(t:FY)(_:Unit):Bool×Unit:=(Be t.hd t.kn,())
theorem Uq{w0:World}(hv:Vr w0):Xa w0 none 169 #[] (fun(_:Unit) _=>True) (fun t=>0≤t.hd.kind∧t.hd.kind≤255∧t.kn≤1000000) Qi where
 eg:=fun args w=>rfl
 hb:=fun b' h=>by cases h
 lt:=fun b' h=>by cases h
 inv:=fun _ _ _ _ _=>trivial
 call:=fun a s W ok hb _=>by refine(N8 a.hd ok.1 ok.2.1 a.kp a.kn a.kc ok.2.2 W (hv.below hb)).mono ?_;rintro e w' ⟨rfl,aW⟩;exact⟨rfl,trivial,aW.os,aW.tape,aW.output,aW.size,fun k hk _=>aW.block k hk⟩
theorem KW:∀n,AU Qi (List.replicate n GP) ()=(true,())
 |0=>rfl
 |n+1=>by rw [List.replicate_succ];show (if(Be GP.hd 0)=true then AU Qi (List.replicate n GP) () else _)=_;rw [Tk,if_pos rfl,KW n]
theorem Pa(t:FY)(n:Nat):(AU Qi (t::List.replicate n GP) ()).1=Be t.hd t.kn:=by show (if(Be t.hd t.kn)=true then AU Qi (List.replicate n GP) () else(false,())).1=_;rw [KW];cases Be t.hd t.kn<;>rfl
theorem JP{w:World}(hv:Vr w){t:FY}(hk:AE Ng 8 w t.kp t.kn t.kc (List.replicate t.kn ()))(h3:t.kn≤1000)(ba:0≤t.hd.kind)(cQ:t.hd.kind≤255):Calls prog 120 #[Wk t] w (RB w (.bool (Be t.hd t.kn))):=by
 have HV:=AA hv;have HK:=AA hk;have aE:=AA (OF w t);have HB:=AA ((Below.refl w.heap.size w).alloc (Nat.le_refl _) (I9 t.hd t.kp t.kn t.kc));have HS:=AA (Pa t t.kn);have aD:∀(W:World) (ty:TypeId) (gs:Nat),W.heap.size=gs→AE FD 8 (W.alloc (.cells #[.int .u8 t.hd.kind,.int .u8 t.hd.op,.int .i64 t.hd.at_,.int .i64 t.hd.n,.string t.hd.name,.string t.hd.arg,.string t.hd.exn,.slice t.kp t.kn t.kc] ty)) (some ⟨gs,0,none⟩) 1 1 [t]:=fun W ty gs bn=>⟨rfl,by decide,by decide,(by intro h;cases h),Au.newAt TR W [t] _ (by simp [FD]) _ _ _ bn⟩;have aL:=AA aD;clear hv hk aD;go_enter func120,ntmps120;have cB:decide (1+(t.kn:Int)≤4000)=true:=by simp;omega
 have sq:decide ((1:Int)+t.kn≤4000)=true:=cB
 go_wp2_with (first
  |(refine lw aE.o.blk underlying53 ?_)
  |(refine XH [.int .u8 t.hd.kind,.int .u8 t.hd.op,.int .i64 t.hd.at_,.int .i64 t.hd.n,.string t.hd.name,.string t.hd.arg,.string t.hd.exn,.slice t.kp t.kn t.kc] aE.o.range underlying53 ?_)
  |(go_at_call 167;refine(NQ (HK.o.below (HB.o.alloc HB.o.size _)) (aL.o _ _ _ (by simp)) (by omega)).mono ?_;rintro e w2 ⟨rfl,hb⟩;have aK:=AA ((HB.o.alloc HB.o.size _).trans (hb.mono (HB.o.alloc HB.o.size _).size));have aE:=AA ((aE.o.below bA).below hb);clear hb)
  |(go_at_call 168;refine(Ik (Uq (HV.o.below (aK.o.alloc aK.o.size _))) (HK.o.below (aK.o.alloc aK.o.size _)) (aL.o _ _ _ (by simp)) (by intro a ha;rcases List.mem_cons.1 ha with rfl|ha;exact⟨ba,cQ,by omega⟩;rw [(List.mem_replicate.1 ha).2];exact⟨by decide,by decide,by decide⟩) () _ (Below.refl _ _) trivial).mono ?_;rw [HS.o];rintro e w3 ⟨rfl,_,bM⟩;have aV:=AA (En bM (Nat.le_refl _) (fun b h=>by cases h));clear bM))
 go_ret;exact⟨rfl,aK.o.trans (((Below.refl _ w2).alloc (Nat.le_refl _) _ |>.trans (aV.o.mono (by simp))).mono aK.o.size)⟩
section
open Go.Shelf
attribute [local go_sem] Oper.semAt_some
def Jo(f:Nat→Int)(k:Nat):List Int:=(List.range k).map f
theorem OZ(f:Nat→Int)(k:Nat):Jo f (k+1)=Jo f k++[f k]:=by simp [Jo,List.range_succ]
theorem Q8(f:Nat→Int)(k:Nat):(Jo f k).length=k:=by simp [Jo]
theorem Vk(zs:List Int):Jo (fun j=>zs[j]?.getD 0) zs.length=zs:=by
 apply List.ext_getElem
 ·simp [Jo]
 ·intro i h1 h2;simp [Jo,h2]
theorem UB(zs:List Int){k:Nat}(hk:k≤zs.length):Jo (fun j=>zs[j]?.getD 0) k=zs.take k:=by
 apply List.ext_getElem
 ·simp [Jo,hk]
 ·intro i h1 h2;have:i<zs.length:=by simp [Jo] at h1;omega
  simp [Jo,this]
theorem SN(F:Fence)(n:Nat)(h7:F.fn 173)(d9:F.round=none)(hn:1≤n)(l Bs n₀ b off len cap:Nat)(zs:List Int)(gC:len * 8≤140737488351232)(hb:b<n₀)(J Jx:List Int→World→Prop)
 (hY:∀pre x W,J pre W→pre.length<len→YieldAt F (n-1) prog l #[.int .i64 x] W fun e W'=>
  (e=.returned (.bool true)∧J (pre++[x]) W'∧Below n₀ W W')∨(e=.returned (.bool false)∧Jx (pre++[x]) W'))
 (W:World) (fS:W.cell? ⟨Bs,0,none⟩=some (.slice (some ⟨b,off,none⟩) len cap)) (hc:∀j,j<len→W.cell? ⟨b,off+j,none⟩=some (.int .i64 (zs[j]?.getD 0))) (h0:J [] W) :
 CallsIn F n prog 173 #[.func (.yield l) #[] #[],.pointer (some ⟨Bs,0,none⟩)] W fun e W'=>(∃v,e=.returned v) ∧
  ((∃ys,ys=Jo (fun j=>zs[j]?.getD 0) len∧J ys W')∨(∃pre,(∃k,k≤len∧pre=Jo (fun j=>zs[j]?.getD 0) k)∧Jx pre W')):=by
 refine callsIn_of_wp func173 rfl h7 ?_ d9
 simp only [ntmps173,List.size_toArray,List.length_cons,List.length_nil,Nat.reduceAdd,Nat.reduceSub,Array.replicate_succ,Array.replicate_zero,List.push_toArray,List.append_toArray,List.nil_append,List.cons_append]
 gi_wp2
 gi_loopw [7] (fun i wr=>∃k:Nat,k≤len∧i=.int .i64 k∧J (Jo (fun j=>zs[j]?.getD 0) k) wr∧Below n₀ W wr)
  (fun i _=>len-(intOf i).toNat)
 case atStart=>exact⟨0,Nat.zero_le _,rfl,h0,Below.refl _ _⟩
 case round=>
  obtain⟨k,hk,rfl,jT,lZ⟩:=hrel;have sW:k<len→wr.cell? ⟨b,off+k,none⟩=some (.int .i64 (zs[k]?.getD 0)):=fun h=>(lZ.cell (p:=⟨b,off+k,none⟩) hb).trans (hc k h);by_cases aF:k<len
  ·obtain⟨fn,tmps,assign,body,hy,hR⟩:=hY _ (zs[k]?.getD 0) wr jT (by rw [Q8];exact aF);have sX:=sW aF;gi_wp2;refine hR.mono ?_;rintro e W3 (⟨rfl,oy,gA⟩|⟨rfl,km⟩)
   ·gi_wp2;go_roundw
    case rel=>exact⟨k+1,by omega,by simp,by rw [OZ];exact oy,lZ.trans gA⟩
    case measure=>simp [intOf];omega
   ·gi_wp2;refine bodyPost_ret (results_none rfl _ _ _) rfl ?_;exact⟨⟨_,rfl⟩,.inr ⟨_,⟨k+1,by omega,(OZ _ _).symm⟩,km⟩⟩
  ·obtain rfl:k=len:=by omega
   gi_wp2;go_end0;exact⟨⟨_,rfl⟩,.inl ⟨_,rfl,jT⟩⟩
def Ju(n₀:Nat)(W:World)(sv:Value)(zs:List Int):Prop:=(∃p c,sv=.slice p 0 c∧zs=[])∨∃b off cap,sv=.slice (some ⟨b,off,none⟩) zs.length cap∧b<n₀∧∀j,j<zs.length→W.cell? ⟨b,off+j,none⟩=some (.int .i64 (zs[j]?.getD 0))
theorem Ju.below{n₀:Nat}{A B:World}(h:Below n₀ A B){sv:Value}{zs:List Int}:Ju n₀ A sv zs→Ju n₀ B sv zs
 |.inl e=>.inl e
 |.inr ⟨b,off,cap,e,hb,hc⟩=>.inr ⟨b,off,cap,e,hb,fun j hj=>(h.cell (p:=⟨b,off+j,none⟩) hb).trans (hc j hj)⟩
theorem NU{p:Option Addr}{c:Nat}(F:Fence)(n:Nat)(h7:F.fn 173)(d9:F.round=none)(l Bs:Nat)(J:List Int→World→Prop)(W:World)(fS:W.cell? ⟨Bs,0,none⟩=some (.slice p 0 c))(h0:J [] W):CallsIn F n prog 173 #[.func (.yield l) #[] #[],.pointer (some ⟨Bs,0,none⟩)] W fun e W'=>(∃v,e=.returned v)∧J [] W':=by
 refine callsIn_of_wp func173 rfl h7 ?_ d9;simp only [ntmps173,List.size_toArray,List.length_cons,List.length_nil,Nat.reduceAdd,Nat.reduceSub,Array.replicate_succ,Array.replicate_zero,List.push_toArray,List.append_toArray,List.nil_append,List.cons_append];gi_wp2;gi_loopw [7] (fun i wr=>i=.int .i64 0∧J [] wr) (fun _ _=>0)
 case atStart=>exact⟨rfl,h0⟩
 case round=>obtain⟨rfl,jT⟩:=hrel;gi_wp2;go_end0;exact⟨⟨_,rfl⟩,jT⟩
theorem Pg(F:Fence)(n:Nat)(h7:F.fn 173)(d9:F.round=none)(hn:1≤n)(Bs n₀:Nat)(sv:Value)(zs:List Int)(gC:zs.length * 8≤140737488351232)(w:World)(fS:Bs<w.heap.size)(hn₀:n₀≤w.heap.size)(hc:w.cell? ⟨Bs,0,none⟩=some sv)(hI:Ju n₀ w sv zs):SeqStopsK F n prog 173 #[.pointer (some ⟨Bs,0,none⟩)] (fun x:Int=>#[Value.int .i64 x]) (Below n₀) (fun ys=>ys=zs) (fun pre=>pre <+: zs) zs.length w:=fun l J Jx W hW _ _ hY h0=>by
 have jU:=(hW.cell (p:=⟨Bs,0,none⟩) fS).trans hc;rcases hI.below (hW.mono hn₀) with⟨p,c,rfl,rfl⟩|⟨b,off,cap,rfl,hb,am⟩
 ·exact(NU F n h7 d9 l Bs J W jU h0).mono fun e W' ⟨he,hj⟩=>⟨he,.inl ⟨_,rfl,hj⟩⟩
 ·refine(SN F n h7 d9 hn l Bs n₀ b off zs.length cap zs gC hb J Jx hY W jU am h0).mono ?_;rintro e W' ⟨he,⟨ys,rfl,hj⟩|⟨pre,⟨k,hk,rfl⟩,hj⟩⟩
  ·exact⟨he,.inl ⟨_,Vk zs,hj⟩⟩
  ·exact⟨he,.inr ⟨_,by rw [UB zs hk];exact List.take_prefix _ _,hj⟩⟩
theorem On(F:Fence)(n:Nat)(h3:F.fn 208)(h5:F.fn 173)(d9:F.round=none)(hn:3≤n)(Bs:Nat)(sv:Value)(xs:List Int)(aj:xs.length * 8≤140737488351232)(w:World)(fS:Bs<w.heap.size)(am:w.cell? ⟨Bs,0,none⟩=some sv)(hI:Ju w.heap.size w sv xs):CallsIn F n prog 208 #[.slice none 0 0,.func (.func 173) #[] #[.pointer (some ⟨Bs,0,none⟩)]] w fun e W'=>∃v,e=.returned v∧W'.ownsRow w.heap.size 3 1 v xs.length (xs.map (Value.int .i64))∧Below w.heap.size w W':=by
 have h1:1≤n:=by omega
 obtain⟨i0,hi,nx,tQ,tR⟩:=info_parts F9;refine callsIn_of_wp_marks func208 rfl h3 ?_ d9;simp only [ntmps208,List.size_toArray,List.length_cons,List.length_nil,Nat.reduceAdd,Nat.reduceSub,Array.replicate_succ,Array.replicate_zero,List.push_toArray,List.append_toArray,List.nil_append,List.cons_append];gi_wp2;have bO:=Boxed.new w 24 (.slice none 0 0);have ow:Below w.heap.size w (w.alloc (.cells #[.slice none 0 0] 24)):=(Below.refl _ w).alloc (Nat.le_refl _) _
 refine wpIn_rangeFunc_ownG d9 h1 (gf:=173) (lb:=#[.pointer (some ⟨Bs,0,none⟩)]) rfl h5 (enters_of func173 (by kernel_rfl) rfl)
  (Pg F (n-1) h5 d9 (by omega) Bs w.heap.size sv xs aj _ (by simp;omega) (by simp) ((ow.cell (p:=⟨Bs,0,none⟩) fS).trans am) (hI.below ow)) belowK_t (belowK_b (by simp)) (Below.refl _ _) (fun _=>rfl)
  (fun pre W=>(∃v,Boxed W w.heap.size 24 v∧W.ownsRow w.heap.size 3 1 v pre.length (pre.map (Value.int .i64))∧(v=.slice none 0 0↔pre=[]))∧Below w.heap.size w W)
  (fun _ _ _=>False)
  (OwnFrom.and (Own.from (holdsRow_own w.heap.size w.heap.size 24 3 1 (fun pre=>pre.length) (fun pre=>pre.map (Value.int .i64)) (fun pre v=>v=.slice none 0 0↔pre=[])) _) (ownFrom_below (Nat.le_refl _) (by simp)))
  (fun _ _ _ _ _ hs _ _=>hs)
  ⟨⟨_,bO,World.ownsRow_nil _ _ _ _,by simp⟩,ow⟩
  (fun x=>{ tmps:=#[.slice none 0 0,.func (.func 173) #[] #[.pointer (some ⟨Bs,0,none⟩)],.pointer (some ⟨w.heap.size,0,none⟩),undef,.slice none 0 0,.int .i64 x,.func (.func 173) #[] #[.pointer (some ⟨Bs,0,none⟩)],.int .i64 x,undef,undef,undef,undef,undef],defers:=[] }) ?assign ?body ?done ?stop
 case assign=>intro l x W K hK;gi_wp2;exact hK
 case body=>rintro l pre x W ⟨⟨v,hv,aD,ag⟩,hB⟩ aF;have hc:=hv.cell;gi_wp2_with (gi_at_builtin;refine wpListIn_append_own _ rfl _ _ 24 rfl w.heap.size 3 i0 (.int .i64 0) 1 8 underlying24 hi nx tQ tR rfl (by decide) _ _ _ rfl (aD.alloc _) ⟨W.heap.size,0,none⟩ 1 1 [.int .i64 x] rfl rfl (cell_one_new _ _ _) (by simp [Value.oneCell']) (by unfold maxLen;omega) (by omega) (by have:=hB.size;simp;omega) ?_;intro v' w1 aH ma _;obtain⟨g',cap',rfl⟩:=ownsRow_succ aH;obtain⟨qu,iu,eI,sg,bQ⟩:=hv.appended (by decide) aD hB.size (Nat.le_refl _) aH ma;have jo:=qu.cell;have lV:=qu.frozen);exact⟨sg.from _,bQ,⟨_,iu,by simpa using eI,by simp⟩,hB.trans bQ⟩
 case done=>rintro D ys W hD rfl ⟨⟨v,hv,aD,ag⟩,hB⟩ hK;have hc:=hv.cell;gi_wp2;refine⟨by simp,.inl ⟨_,_,rfl,run_takeDeferred hK,?_⟩⟩;exact⟨_,results_tmp rfl _ _ _,v,rfl,ownsRow_putObj aD _ hK rfl,hB.trans (belowK_b (w:=w) (Nat.le_refl _) W D _ _ (by simp at hD;omega) hK rfl rfl)⟩
 case stop=>rintro D c pre W _ _ h _;exact h.elim
theorem Nd(Bs:Nat)(sv:Value)(xs:List Int)(aj:xs.length * 8≤140737488351232)(w:World)(fS:Bs<w.heap.size)(am:w.cell? ⟨Bs,0,none⟩=some sv)(hI:Ju w.heap.size w sv xs):Calls prog 208 #[.slice none 0 0,.func (.func 173) #[] #[.pointer (some ⟨Bs,0,none⟩)]] w fun e W'=>∃v,e=.returned v∧W'.ownsRow w.heap.size 3 1 v xs.length (xs.map (Value.int .i64))∧Below w.heap.size w W':=(callsIn_wide (n:=6)).1 (On Fence.wide 6 trivial trivial rfl (by omega) Bs sv xs aj w fS am hI)
end
def XT(k:Int):Value:=.agg #[.bool (ED [3,6,11,13,17,18] k),.bool ((k==13)||(k==18)),.bool (ED [11,13,18] k),.bool (ED [11,13,15] k),.bool (k==13)]
theorem Wy(k:Int)(w:World):Calls prog 89 #[.int .u8 k] w (RB w (XT k)):=by
 by_cases h3:k=3
 ·subst h3;go_enter func89,ntmps89;go_wp2_with fail;refine br (heap_alloc_new w _) underlying137 ?_;exact⟨rfl,bA⟩
 have b3:(k==3)=false:=by simpa using h3
 by_cases h6:k=6
 ·subst h6;go_enter func89,ntmps89;go_wp2_with fail;refine br (heap_alloc_new w _) underlying137 ?_;exact⟨rfl,bA⟩
 have b6:(k==6)=false:=by simpa using h6
 by_cases bp:k=17
 ·subst bp;go_enter func89,ntmps89;go_wp2_with fail;refine br (heap_alloc_new w _) underlying137 ?_;exact⟨rfl,bA⟩
 have b17:(k==17)=false:=by simpa using bp
 by_cases dp:k=11
 ·subst dp;go_enter func89,ntmps89;go_wp2_with fail;refine br (heap_alloc_new w _) underlying137 ?_;exact⟨rfl,bA⟩
 have b11:(k==11)=false:=by simpa using dp
 by_cases cI:k=13
 ·subst cI;go_enter func89,ntmps89;go_wp2_with fail;refine br (heap_alloc_new w _) underlying137 ?_;exact⟨rfl,bA⟩
 have b13:(k==13)=false:=by simpa using cI
 by_cases ki:k=15
 ·subst ki;go_enter func89,ntmps89;go_wp2_with fail;refine br (heap_alloc_new w _) underlying137 ?_;exact⟨rfl,bA⟩
 have b15:(k==15)=false:=by simpa using ki
 by_cases bj:k=18
 ·subst bj;go_enter func89,ntmps89;go_wp2_with fail;refine br (heap_alloc_new w _) underlying137 ?_;exact⟨rfl,bA⟩
 have b18:(k==18)=false:=by simpa using bj
 have hz:Hd (XT k=.agg #[.bool false,.bool false,.bool false,.bool false,.bool false]):=by
  show _=_;have c3:((3:Int)==k)=false:=by rw [BEq.comm];exact b3
  have c6:((6:Int)==k)=false:=by rw [BEq.comm];exact b6
  have c17:((17:Int)==k)=false:=by rw [BEq.comm];exact b17
  have c11:((11:Int)==k)=false:=by rw [BEq.comm];exact b11
  have c13:((13:Int)==k)=false:=by rw [BEq.comm];exact b13
  have c15:((15:Int)==k)=false:=by rw [BEq.comm];exact b15
  have c18:((18:Int)==k)=false:=by rw [BEq.comm];exact b18
  simp only [XT,ED,List.any_cons,List.any_nil,c3,c6,c17,c11,c13,c15,c18,b13,b18,Bool.or_false]
 clear h3 h6 bp dp cI ki bj;go_enter func89,ntmps89;go_wp2_with fail;refine br (heap_alloc_new w _) underlying137 ?_;exact⟨by rw [hz.out],bA⟩
def JB(there:Bool)(t:PT):Bool:=if there then BF t.er else DI t.head
theorem H7(there:Bool)(t:PT){w:World}(hl:LR.lies w t)(h1:t.head.en≤1000000)(h2:t.head.kn≤1000000):Calls prog 94 #[.bool there,Ci t.head] w (RB w (.bool (JB there t))):=by
 have HB:=AA ((Below.refl w.heap.size w).alloc (Nat.le_refl _) (.cells #[.int .u8 t.head.kind,.int .i64 t.head.rho,.slice t.head.ep t.head.en t.head.ec,.slice t.head.kp t.head.kn t.head.kc] 28));have HL:=AA (LR.lies_below HB.o t hl);clear hl;cases there with
 |true=>
  go_enter func94,ntmps94;go_wp2_with (go_at_call 129;refine(Ny HL.o rfl _ (by simp)).mono ?_;rintro e w2 ⟨rfl,hb⟩;have aK:=AA hb;clear hb);go_ret;exact⟨rfl,HB.o.trans ((bA |>.trans (aK.o.mono (by simp))).mono HB.o.size)⟩
 |false=>
  have hw:IntKind.i64.wrap ((t.head.en:Int)+t.head.kn)=(t.head.en:Int)+t.head.kn:=IntWalk.i64_in _ (by omega);have HP:Hd (DI t.head=((t.head.kind==0)&&(t.head.rho==0)&&((t.head.en:Int)+t.head.kn==0))):=by show _=_;unfold DI;rw [Bool.and_assoc (_&&_)];congr 1;rw [Bool.eq_iff_iff];simp only [Bool.and_eq_true,beq_iff_eq];omega
  cases hk:(t.head.kind==0) with
  |false=>
   rw [hk] at HP;go_enter func94,ntmps94;go_wp2_with fail;go_ret;exact⟨AB (by show _=DI _;rw [HP.o];rfl),HB.o⟩
  |true=>
   rw [hk] at HP;cases hr:(t.head.rho==0) with
   |false=>
    rw [hr] at HP;go_enter func94,ntmps94;go_wp2_with fail;go_ret;exact⟨AB (by show _=DI _;rw [HP.o];rfl),HB.o⟩
   |true=>
    rw [hr] at HP;go_enter func94,ntmps94;go_wp2_with fail;go_ret;exact⟨AB (by show _=DI _;rw [HP.o];simp),HB.o⟩
theorem Fq.range{W:World}{b:Nat}{a:AH}(h:Fq W b a):W.rangeAt b 0 (Bn a):=fun j v hj=>by rw [Nat.zero_add];exact h.c j v hj
theorem Nh(a:AH)(bp:a.kind=17)(hk:a.kn≤1000000)(w:World):Calls prog 90 #[Aj a] w (RB w (.bool (Cl a.hd a.kn))):=by
 have HB:=AA ((Below.refl w.heap.size w).alloc (Nat.le_refl _) (AO a));have HA:=AA (Aa w a);have e17:(a.kind==17)=true:=by simp [bp]
 have E17:=AA bp;clear bp;go_enter func90,ntmps90;go_upto_region 3 with fail;obtain⟨c0,c1,c2,c3,c4,c5,c6,c7,c8,c9,c10,c11,c12,c13,c14,c15,c16,c17,c18⟩:=HA.o.all;clear c7 c8 c9 c10 c11 c12 c13 c14 c15 c16 c17;generalize w.alloc (AO a)=W1 at *
 go_wp2_with fail
 all_goals (
  go_ret;refine⟨AB ?_,HB.o⟩;unfold Cl;rw [if_pos (show a.hd.kind=17 from E17.out)];clear c0 c1 c2 c3 c4 c5 c6 c18;simp_all [IA,AH.hd];try (intros;omega))
theorem Qh(h:CT)(n:Nat)(hn:3<n):Be h n=false:=by
 have hk:Bb h.kind≤3:=by
  unfold Bb;split
  ·omega
  ·split
   ·omega
   ·split
    ·omega
    ·split<;>omega
 have:((n:Int) != Bb h.kind)=true:=by simp;omega
 unfold Be;rw [this];simp
theorem QU{a:AH}(bp:a.kind≠17)(bj:a.kind≠18):Cl a.hd a.kn=(decide ((a.kn:Int)≤3)&&Be a.hd a.kn):=by
 unfold Cl;rw [if_neg (show ¬a.hd.kind=17 from bp),if_neg (show ¬a.hd.kind=18 from bj)];by_cases h:a.kn≤3
 ·have e:decide ((a.kn:Int)≤3)=true:=by simp;omega
  rw [e,Nat.min_eq_left (by omega)];rfl
 ·have e:decide ((a.kn:Int)≤3)=false:=by simp;omega
  rw [e,Qh _ _ (by omega)];rfl
theorem Fj(s:ByteArray):s.toList.isEmpty=decide (s.size=0):=by
 rw [Lib.toList_data];obtain⟨⟨l⟩⟩:=s;cases l with
 |nil=>rfl
 |cons b l=>show false=decide (l.length+1=0);simp
theorem QT(op at_ z:Int)(name arg exn:ByteArray)(m:Nat):Cl ⟨18,op,at_,z,name,arg,exn⟩ m=(decide ((m:Int)≤3)&&Be ⟨2,op,at_,z,name,arg,exn⟩ m):=by
 show (IA ⟨18,op,at_,z,name,arg,exn⟩&&Ba name&&decide (0≤at_)&&((m:Int)==0))=(decide ((m:Int)≤3)&&(!(decide ((0:Int)<0)||((m:Int) != 0)||decide (at_<0))&&!(false||true&&(op != 0))&&!(decide (z<0)||decide (2147483647<z)||true&&(z != 0))&&(D0 true name (Ba name)&&D0 false arg (Ba arg)&&D0 false exn (DC exn))));show (((op==0)&&(z==0)&&arg.toList.isEmpty&&exn.toList.isEmpty)&&Ba name&&decide (0≤at_)&&((m:Int)==0))=_;unfold D0;rw [Fj,Fj];rw [Bool.eq_iff_iff];simp only [Bool.and_eq_true,Bool.or_eq_true,Bool.not_eq_true',Bool.or_eq_false_iff,beq_iff_eq,bne_iff_ne,decide_eq_true_eq,decide_eq_false_iff_not,bne_eq_false_iff_eq,Bool.false_or,Bool.true_and,Bool.not_true,Bool.not_false,Bool.or_false,Bool.false_and];constructor
 ·rintro⟨⟨⟨⟨⟨⟨h1,h2⟩,h3⟩,h4⟩,h5⟩,h6⟩,h7⟩;exact⟨by omega,⟨⟨⟨by omega,by omega⟩,h1⟩,by omega,by omega⟩,⟨h5,h3⟩,h4⟩
 ·rintro⟨h1,⟨⟨⟨⟨_,h2⟩,h3⟩,h4⟩,h5,h6⟩,⟨h7,h8⟩,h9⟩;exact⟨⟨⟨⟨⟨⟨h4,h6⟩,h8⟩,h9⟩,h7⟩,by omega⟩,h2⟩
theorem O1(a:AH)(bp:a.kind≠17)(bj:a.kind≠18)(ba:0≤a.kind)(cQ:a.kind≤255)(hk:a.kn≤1000000){w:World}(hv:Vr w):Calls prog 90 #[Aj a] w (RB w (.bool (Cl a.hd a.kn))):=by
 have HB:=AA ((Below.refl w.heap.size w).alloc (Nat.le_refl _) (AO a));have HA:=AA (Aa w a);have HV:=AA hv;have HR:=AA (QU bp bj);have e17:(a.kind==17)=false:=by simpa using bp
 have e18:(a.kind==18)=false:=by simpa using bj
 clear bp bj hv;by_cases h3:a.kn≤3
 ·have cB:decide ((a.kn:Int)≤3)=true:=by simp;omega
  rw [cB,Bool.true_and] at HR;go_enter func90,ntmps90;go_upto_region 2 with fail;obtain⟨c0,c1,c2,c3,c4,c5,c6,c7,c8,c9,c10,c11,c12,c13,c14,c15,c16,c17,c18⟩:=HA.o.all;clear c1 c2 c3 c4 c5 c6 c7 c8 c9 c10 c11 c12 c13 c14 c15 c16 c17
  go_wp2_with (first
   |(refine XH [.int .u8 a.kind,.int .u8 a.op,.int .i64 a.at_,.int .i64 a.n,.string a.name,.string a.arg,.string a.exn,.int .i64 a.rho,.slice a.rp a.rn a.rc,.slice a.ep a.en a.ec,.int .u8 a.ty.head.kind,.int .i64 a.ty.head.rho,.slice a.ty.head.ep a.ty.head.en a.ty.head.ec,.slice a.ty.head.kp a.ty.head.kn a.ty.head.kc,.int .u8 a.res.head.kind,.int .i64 a.res.head.rho,.slice a.res.head.ep a.res.head.en a.res.head.ec,.slice a.res.head.kp a.res.head.kn a.res.head.kc,.slice a.kp a.kn a.kc] HA.o.range underlying31 ?_)
   |(go_at_call 121;refine(H8 a (show a.kn≤1000 by omega) _).mono ?_;rintro e w2 ⟨⟨p2,c2',rfl,aD⟩,hb⟩;have aL:=AA aD;have aK:=bt HB hb;clear aD hb)
   |(go_at_call 120;refine(JP (HV.o.below aK.o) (t:=⟨(a:AH).hd,p2,a.kn,c2'⟩) aL.o (show a.kn≤1000 by omega) ba cQ).mono ?_;rintro e w3 ⟨rfl,hb⟩;have aV:=bt aK hb;clear hb))
  go_ret;exact⟨AB HR.o.symm,aV.o⟩
 ·have cB:decide ((a.kn:Int)≤3)=false:=by simp;omega
  rw [cB,Bool.false_and] at HR;go_enter func90,ntmps90;go_upto_region 2 with fail;obtain⟨c0,c1,c2,c3,c4,c5,c6,c7,c8,c9,c10,c11,c12,c13,c14,c15,c16,c17,c18⟩:=HA.o.all;clear c1 c2 c3 c4 c5 c6 c7 c8 c9 c10 c11 c12 c13 c14 c15 c16 c17;go_wp2_with fail;go_ret;exact⟨AB HR.o.symm,HB.o⟩
theorem QV(a:AH)(bj:a.kind=18)(hk:a.kn≤1000000){w:World}(hv:Vr w):Calls prog 90 #[Aj a] w (RB w (.bool (Cl a.hd a.kn))):=by
 have cx:=AA ((Below.refl w.heap.size w).alloc (Nat.le_refl _) (AO a));have HB:=AA ((Below.refl w.heap.size w).alloc (Nat.le_refl _) (AO {a with kind:=2}));have dj:=AA (Aa w a);have HA:=AA (Aa w {a with kind:=2});have HV:=AA hv;have HR:Hd (Cl a.hd a.kn=(decide ((a.kn:Int)≤3)&&Be ({a with kind:=2}:AH).hd a.kn)):=by show _=_;have:=QT a.op a.at_ a.n a.name a.arg a.exn a.kn;rw [←bj] at this;exact this
 have e17:(a.kind==17)=false:=by simp;omega
 have e18:(a.kind==18)=true:=by simpa using bj
 clear bj hv;go_enter func90,ntmps90;have c18:=HA.o.c 18 _ rfl;by_cases h3:a.kn≤3
 ·have cB:decide ((a.kn:Int)≤3)=true:=by simp;omega
  rw [cB,Bool.true_and] at HR;go_upto_region 6 with fail
  go_wp2_with (first
   |(refine XH [.int .u8 2,.int .u8 a.op,.int .i64 a.at_,.int .i64 a.n,.string a.name,.string a.arg,.string a.exn,.int .i64 a.rho,.slice a.rp a.rn a.rc,.slice a.ep a.en a.ec,.int .u8 a.ty.head.kind,.int .i64 a.ty.head.rho,.slice a.ty.head.ep a.ty.head.en a.ty.head.ec,.slice a.ty.head.kp a.ty.head.kn a.ty.head.kc,.int .u8 a.res.head.kind,.int .i64 a.res.head.rho,.slice a.res.head.ep a.res.head.en a.res.head.ec,.slice a.res.head.kp a.res.head.kn a.res.head.kc,.slice a.kp a.kn a.kc] HA.o.range underlying31 ?_)
   |(go_at_call 121;refine(H8 {a with kind:=2} (show a.kn≤1000 by omega) _).mono ?_;rintro e w2 ⟨⟨p2,c2',rfl,aD⟩,hb⟩;have aL:=AA aD;have aK:=bt HB hb;clear aD hb)
   |(go_at_call 120;refine(JP (HV.o.below aK.o) (t:=⟨({a with kind:=2}:AH).hd,p2,a.kn,c2'⟩) aL.o (show a.kn≤1000 by omega) (show (0:Int)≤2 by omega) (show (2:Int)≤255 by omega)).mono ?_;rintro e w3 ⟨rfl,hb⟩;have aV:=bt aK hb;clear hb))
  go_ret;exact⟨AB HR.o.symm,aV.o⟩
 ·have cB:decide ((a.kn:Int)≤3)=false:=by simp;omega
  rw [cB,Bool.false_and] at HR;go_upto_region 6 with fail;go_wp2_with fail;go_ret;exact⟨AB HR.o.symm,HB.o⟩
theorem Ke(a:AH)(ba:0≤a.kind)(cQ:a.kind≤255)(hk:a.kn≤1000000){w:World}(hv:Vr w):Calls prog 90 #[Aj a] w (RB w (.bool (Cl a.hd a.kn))):=by
 by_cases bp:a.kind=17
 ·exact Nh a bp hk w
 ·by_cases bj:a.kind=18
  ·exact QV a bj hk hv
  ·exact O1 a bp bj ba cQ hk hv
end Go.Proofs.YtkdjnegfnhldpaaGreatDoor
