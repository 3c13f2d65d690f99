/- Part 24. -/
import Derived.Test.YtkdjnegfnhldpaaGreatDoorK23
set_option linter.unusedVariables false
set_option maxRecDepth 100000
set_option linter.unusedSimpArgs false
set_option maxHeartbeats 40000000
namespace Go.Proofs.YtkdjnegfnhldpaaGreatDoor
open Go.Proofs.Tryz Go.RowKit
theorem Pk{w0 w:World}{S:Nat→Prop}{a:AH}{p q r:Option Addr}{n c m mc rn rc:Nat}{env:List BV}{rhos:List Int}{acc:List RV}{i:Int}(hE:Cn w0 w S p n c env)(hq:AF Am 1 w q m mc rhos)(ha:AH.Own w a)(bo:AH.Own w0 a)(hS:∀b,w.heap.size≤b→S b)(bY:∀b∈Ao a.ty,S b)(hn:n≤900000)(hm:m≤900000)(hk:a.kind=12)(nG:0≤i)(hi:i≠1):Calls prog 98 #[.agg #[.slice p n c,.slice q m mc],An a,.int .i64 i,.slice r rn rc] w (KA w0 w S n m (Ai (Ck env) a.plain i.toNat (BM acc)) (Aq rhos a.plain i.toNat)):=by
 have HX:=AA (EO w a (.slice p n c) (.slice q m mc));have HE:=AA hE;have HQ:=AA hq;have HA:=AA ha;have cR:=AA bo;have HS:=AA hS;have HT:=AA bY;have bE:=HX.o.b.b1.c 0 _ rfl;have e11:(a.kind==11)=false:=by simp [hk]
 have e12:(a.kind==12)=true:=by simp [hk]
 have e13:(a.kind==13)=false:=by simp [hk]
 have e16:(a.kind==16)=false:=by simp [hk]
 have e17:(a.kind==17)=false:=by simp [hk]
 have ei1:(i==1)=false:=by simp [hi]
 have ck:¬i.toNat=1:=by omega
 have aq:Hd (Ai (Ck env) a.plain i.toNat (BM acc)=Ck env):=by show _=_;unfold Ai;simp [show a.plain.kind=a.kind from rfl,hk,ck]
 have cI:Hd (Aq rhos a.plain i.toNat=rhos):=by show _=_;unfold Aq;simp [show a.plain.kind=a.kind from rfl,hk,ck]
 rw [aq.o,cI.o];clear hE hq ha bo hS bY hk ck;go_enter func98,ntmps98;go_upto_region 13 with fail;generalize (((w.alloc (.cells #[.slice p n c,.slice q m mc] 84)).alloc (AO a)).alloc (.cells #[.slice none 0 0,.slice none 0 0] 84))=W1 at *
 go_wp2_with (first
  |(refine lw HX.o.b.b0 underlying84 ?_)
  |(refine wpList_store_row rfl 84 _ _ rfl (w.heap.size+2) #[.slice p n c,.slice q m mc] rfl rfl 84 _ HX.o.res.choose_spec.2 (by kernel_rfl) (by rw [HX.o.res.choose_spec.1];rfl) (by simp [Value.oneCell']) ?_))
 refine br (HX.o.heap _) underlying84 ?_;refine E5 HX.o HS.o (HE.o.row.below HX.o.below) (fun hl ad hp=>?_) (fun z hz=>?_) rfl (HQ.o.below HX.o.below) (fun hl ad hp=>?_) (by omega) (by omega)
 ·have:=BD HE.o.row.row hl hp;omega
 ·have ho:=(HE.o.each z hz);refine⟨(ho.below HX.o.below).weak (fun x hx=>.inl ⟨Aa _ ho.ty x hx,ho.uses x hx⟩),fun a' g e=>?_⟩;have:=(ho.fn a' g e).2.2;omega
 ·have:=BD HQ.o.row hl hp;omega
theorem LQ{w0 w:World}{S:Nat→Prop}{a:AH}{p q r:Option Addr}{n c m mc rn rc:Nat}{env:List BV}{rhos:List Int}{acc:List RV}{i:Int}(hE:Cn w0 w S p n c env)(hq:AF Am 1 w q m mc rhos)(ha:AH.Own w a)(bo:AH.Own w0 a)(hS:∀b,w.heap.size≤b→S b)(bY:∀b∈Ao a.ty,S b)(hn:n≤900000)(hm:m≤900000)(hk:a.kind=16)(nG:0≤i)(hi:i≠1):Calls prog 98 #[.agg #[.slice p n c,.slice q m mc],An a,.int .i64 i,.slice r rn rc] w (KA w0 w S n m (Ai (Ck env) a.plain i.toNat (BM acc)) (Aq rhos a.plain i.toNat)):=by
 have HX:=AA (EO w a (.slice p n c) (.slice q m mc));have HE:=AA hE;have HQ:=AA hq;have HA:=AA ha;have cR:=AA bo;have HS:=AA hS;have HT:=AA bY;have bE:=HX.o.b.b1.c 0 _ rfl;have e11:(a.kind==11)=false:=by simp [hk]
 have e12:(a.kind==12)=false:=by simp [hk]
 have e13:(a.kind==13)=false:=by simp [hk]
 have e16:(a.kind==16)=true:=by simp [hk]
 have e17:(a.kind==17)=false:=by simp [hk]
 have ei1:(i==1)=false:=by simp [hi]
 have ck:¬i.toNat=1:=by omega
 have aq:Hd (Ai (Ck env) a.plain i.toNat (BM acc)=Ck env):=by show _=_;unfold Ai;simp [show a.plain.kind=a.kind from rfl,hk,ck]
 have cI:Hd (Aq rhos a.plain i.toNat=rhos):=by show _=_;unfold Aq;simp [show a.plain.kind=a.kind from rfl,hk,ck]
 rw [aq.o,cI.o];clear hE hq ha bo hS bY hk ck;go_enter func98,ntmps98;go_upto_region 13 with fail;generalize (((w.alloc (.cells #[.slice p n c,.slice q m mc] 84)).alloc (AO a)).alloc (.cells #[.slice none 0 0,.slice none 0 0] 84))=W1 at *
 go_wp2_with (first
  |(refine lw HX.o.b.b0 underlying84 ?_)
  |(refine wpList_store_row rfl 84 _ _ rfl (w.heap.size+2) #[.slice p n c,.slice q m mc] rfl rfl 84 _ HX.o.res.choose_spec.2 (by kernel_rfl) (by rw [HX.o.res.choose_spec.1];rfl) (by simp [Value.oneCell']) ?_))
 refine br (HX.o.heap _) underlying84 ?_;refine E5 HX.o HS.o (HE.o.row.below HX.o.below) (fun hl ad hp=>?_) (fun z hz=>?_) rfl (HQ.o.below HX.o.below) (fun hl ad hp=>?_) (by omega) (by omega)
 ·have:=BD HE.o.row.row hl hp;omega
 ·have ho:=(HE.o.each z hz);refine⟨(ho.below HX.o.below).weak (fun x hx=>.inl ⟨Aa _ ho.ty x hx,ho.uses x hx⟩),fun a' g e=>?_⟩;have:=(ho.fn a' g e).2.2;omega
 ·have:=BD HQ.o.row hl hp;omega
theorem N9{w0 w:World}{S:Nat→Prop}{a:AH}{p q r:Option Addr}{n c m mc rn rc:Nat}{env:List BV}{rhos:List Int}{acc:List RV}{i:Int}(hE:Cn w0 w S p n c env)(hq:AF Am 1 w q m mc rhos)(ha:AH.Own w a)(bo:AH.Own w0 a)(hS:∀b,w.heap.size≤b→S b)(bY:∀b∈Ao a.ty,S b)(hn:n≤900000)(hm:m≤900000)(cJ:a.kind≠11)(dc:a.kind≠12)(bn:a.kind≠13)(gP:a.kind≠16)(bb:a.kind≠17):Calls prog 98 #[.agg #[.slice p n c,.slice q m mc],An a,.int .i64 i,.slice r rn rc] w (KA w0 w S n m (Ai (Ck env) a.plain i.toNat (BM acc)) (Aq rhos a.plain i.toNat)):=by
 have HX:=AA (EO w a (.slice p n c) (.slice q m mc));have HE:=AA hE;have HQ:=AA hq;have HA:=AA ha;have cR:=AA bo;have HS:=AA hS;have HT:=AA bY;have bE:=HX.o.b.b1.c 0 _ rfl;have e11:(a.kind==11)=false:=by simp [cJ]
 have e12:(a.kind==12)=false:=by simp [dc]
 have e13:(a.kind==13)=false:=by simp [bn]
 have e16:(a.kind==16)=false:=by simp [gP]
 have e17:(a.kind==17)=false:=by simp [bb]
 have aq:Hd (Ai (Ck env) a.plain i.toNat (BM acc)=Ck env):=by show _=_;unfold Ai;simp [show a.plain.kind=a.kind from rfl,cJ,dc,bn,gP,bb]
 have cI:Hd (Aq rhos a.plain i.toNat=rhos):=by show _=_;unfold Aq;simp [show a.plain.kind=a.kind from rfl,cJ,dc,bn,gP,bb]
 rw [aq.o,cI.o];clear hE hq ha bo hS bY cJ dc bn gP bb;go_enter func98,ntmps98;go_upto_region 13 with fail;generalize (((w.alloc (.cells #[.slice p n c,.slice q m mc] 84)).alloc (AO a)).alloc (.cells #[.slice none 0 0,.slice none 0 0] 84))=W1 at *
 go_wp2_with (first
  |(refine lw HX.o.b.b0 underlying84 ?_)
  |(refine wpList_store_row rfl 84 _ _ rfl (w.heap.size+2) #[.slice p n c,.slice q m mc] rfl rfl 84 _ HX.o.res.choose_spec.2 (by kernel_rfl) (by rw [HX.o.res.choose_spec.1];rfl) (by simp [Value.oneCell']) ?_))
 refine br (HX.o.heap _) underlying84 ?_;refine E5 HX.o HS.o (HE.o.row.below HX.o.below) (fun hl ad hp=>?_) (fun z hz=>?_) rfl (HQ.o.below HX.o.below) (fun hl ad hp=>?_) (by omega) (by omega)
 ·have:=BD HE.o.row.row hl hp;omega
 ·have ho:=(HE.o.each z hz);refine⟨(ho.below HX.o.below).weak (fun x hx=>.inl ⟨Aa _ ho.ty x hx,ho.uses x hx⟩),fun a' g e=>?_⟩;have:=(ho.fn a' g e).2.2;omega
 ·have:=BD HQ.o.row hl hp;omega
theorem Em{P:Program}{ops:Array Oper}{o:Oper}{act:Act}{K:Act→World→Prop}{Q:Exit→Act→World→Prop}{E:Prop}(bG:o.guard=none)(ty:TypeId)(x y:Operand)(ho:o.op=.store ty x y){w W:World}{a:AH}{u v:Value}(h:LG w a u v W)(cells:Array Value)(hx:act.eval x=.pointer (some ⟨w.heap.size+2,0,none⟩))(hy:act.eval y=.agg cells)(hi:(P.info? ty).map (·.size)=some cells.size)(h5:cells.size=2)(h1:cells.all (·.oneCell')=true)(hK:K (act.put o.dst undef) (W.setRow (w.heap.size+2) cells)):if Region.wanted o (yielded ops act.tmps)=true then Oper.wp P o act W K Q else E:=by obtain⟨cs,e1,e2⟩:=h.res;rw [if_pos (by simp [Region.wanted,bG])];exact wp_store_row ty x y ho (w.heap.size+2) cells hx hy 84 cs e2 hi (by omega) h1 hK
theorem Pl{w0 w:World}{S:Nat→Prop}{a:AH}{p q:Option Addr}{n c m mc rc:Nat}{env:List BV}{rhos:List Int}(hE:Cn w0 w S p n c env)(hq:AF Am 1 w q m mc rhos)(ha:AH.Own w a)(bo:AH.Own w0 a)(hS:∀b,w.heap.size≤b→S b)(bY:∀b∈Ao a.ty,S b)(hn:n≤900000)(hm:m≤900000){b o:Nat}{x:RV}(ay:IG w S (some ⟨b,o,none⟩) 1 rc [x])(hk:a.kind=12):Calls prog 98 #[.agg #[.slice p n c,.slice q m mc],An a,.int .i64 1,.slice (some ⟨b,o,none⟩) 1 rc] w (KA w0 w S n m (Ai (Ck env) a.plain 1 (BM [x])) (Aq rhos a.plain 1)):=by
 have HX:=AA (EO w a (.slice p n c) (.slice q m mc));have HE:=AA hE;have HQ:=AA hq;have HA:=AA ha;have cR:=AA bo;have HS:=AA hS;have HT:=AA bY;have bE:=HX.o.b.b1.c 0 _ rfl;have fa:=AA ay;have e11:(a.kind==11)=false:=by simp [hk]
 have e12:(a.kind==12)=true:=by simp [hk]
 have aq:Hd (Ai (Ck env) a.plain 1 (BM [x])=Ck env++[⟨a.name,x.ty.er,none⟩]):=by show _=_;unfold Ai;simp [show a.plain.kind=12 from hk];try first|rfl|exact⟨rfl,rfl⟩
 have cI:Hd (Aq rhos a.plain 1=rhos):=by show _=_;unfold Aq;simp [show a.plain.kind=12 from hk]
 rw [aq.o,cI.o];clear hE hq ha bo hS bY hk ay;go_enter func98,ntmps98;go_upto_region 4 with fail;clear bE;generalize (((w.alloc (.cells #[.slice p n c,.slice q m mc] 84)).alloc (AO a)).alloc (.cells #[.slice none 0 0,.slice none 0 0] 84))=W1 at *
 refine rg (fun W'=>LG w a (.slice p n c) (.slice q m mc) W') (HX.o.drew) fun aA=>?_;refine tm 0 32 [.slice p n c,.slice q m mc] 84 w.heap.size 0 (fun W' aC=>aC.b.r0) underlying84 ?_;refine tp 1 33 ?_;refine tp 2 34 ?_;refine tp 3 35 ?_ (hy:=fun w aC=>by(try dsimp only at aC);have q4:=aC.b.b1.c 4 _ rfl;go_simp;try with_reducible rfl);refine tp 4 36 ?_;refine tp 5 37 ?_;refine tp 6 38 ?_;refine t4 7 39 x.ty b o (fun W' aC=>Fe (fa.o.row.below aC.below)) ?_;refine tp 8 40 ?_;refine tr 9 41 fun K hK=>?_;go_simp;refine tn hK (aA.alloc _) ?_;clear aA hK K;intro aA;refine tr 10 42 fun K hK=>?_;go_simp;have aL:=aA.size;go_at_call 139;refine(CG (HE.o.row.below aA.below) q m mc ((AW Do (by omega) W1 145 [⟨a.name,x.ty,none⟩] 1 _ rfl rfl (by decide)).below (AR _)) (by omega)).mono ?_;rintro e w5 ⟨p',c',rfl,aB,hb,bh⟩;have bR:=AA aB;have bJ:=AA hb
 have bp:Hd (∀ad,p'=some ad→w.heap.size+3≤ad.block):=fun ad hp=>by
  rcases bh with⟨h1,_⟩|h1
  ·cases h1
  ·exact Nat.le_trans aL (h1 ad hp)
 clear aB bh aL;try go_wp2_with fail
 refine tn hK (aA.step hb) ?_;clear aA hK K;intro aA;refine DH 11 fun K hK=>?_;have aW:=AA aA;refine Em rfl _ _ _ (by rfl) aA #[.slice p' (n+1) c',.slice q m mc] (by rfl) (by rfl) (by kernel_rfl) rfl (by simp [Value.oneCell']) ?_;refine tn hK (aA.store rfl) ?_;clear aA hK K;intro aA;refine dn ?_;clear aA;go_wp2_with fail;refine br (aW.o.heap _) underlying84 ?_;refine E5 aW.o HS.o bR.o (fun _ ad hp=>?_) (fun z hz=>?_) (by simp [Ck,BV.er]) (HQ.o.below aW.o.below) (fun hl ad hp=>?_) (by omega) (by omega)
 ·have:=bp.o ad hp;omega
 ·rcases List.mem_append.1 hz with hz|hz
  ·have ho:=(HE.o.each z hz);refine⟨(ho.below aW.o.below).weak (fun x hx=>.inl ⟨Aa _ ho.ty x hx,ho.uses x hx⟩),fun a' g e=>?_⟩;have:=(ho.fn a' g e).2.2;omega
  ·rw [List.mem_singleton] at hz;subst hz;have hx:=fa.o.each x (by simp);exact⟨⟨LR.lies_below aW.o.below _ hx.ty,fun z hz=>.inl ⟨Aa _ hx.ty z hz,hx.uses z hz⟩,fun a' g e=>(nomatch e),HA.o.name⟩,fun a' g e=>(nomatch e)⟩
 ·have:=BD HQ.o.row hl hp;omega
theorem LS{w0 w:World}{S:Nat→Prop}{a:AH}{p q r:Option Addr}{n c m mc rn rc:Nat}{env:List BV}{rhos:List Int}{acc:List RV}(hE:Cn w0 w S p n c env)(hq:AF Am 1 w q m mc rhos)(ha:AH.Own w a)(bo:AH.Own w0 a)(hS:∀b,w.heap.size≤b→S b)(bY:∀b∈Ao a.ty,S b)(hn:n≤900000)(hm:m≤900000)(it:a.rn≤50)(hk:a.kind=13):Calls prog 98 #[.agg #[.slice p n c,.slice q m mc],An a,.int .i64 0,.slice r rn rc] w (KA w0 w S n m (Ai (Ck env) a.plain 0 (BM acc)) (Aq rhos a.plain 0)):=by
 have HX:=AA (EO w a (.slice p n c) (.slice q m mc));have HE:=AA hE;have HQ:=AA hq;have HA:=AA ha;have cR:=AA bo;have HS:=AA hS;have HT:=AA bY;have bE:=HX.o.b.b1.c 0 _ rfl;have e11:(a.kind==11)=false:=by simp [hk]
 have e12:(a.kind==12)=false:=by simp [hk]
 have e13:(a.kind==13)=true:=by simp [hk]
 have aq:Hd (Ai (Ck env) a.plain 0 (BM acc)=Ck env++[⟨a.name,A8,some a.plain⟩,⟨a.arg,a.ty.er,none⟩]):=by show _=_;unfold Ai;simp [show a.plain.kind=13 from hk];try first|rfl|exact⟨rfl,rfl⟩|exact⟨rfl,rfl,rfl⟩
 have cI:Hd (Aq rhos a.plain 0=rhos++a.rhos):=by show _=_;unfold Aq;simp [show a.plain.kind=13 from hk];try rfl
 rw [aq.o,cI.o];clear hE hq ha bo hS bY hk;go_enter func98,ntmps98;go_upto_region 6 with fail;clear bE;generalize (((w.alloc (.cells #[.slice p n c,.slice q m mc] 84)).alloc (AO a)).alloc (.cells #[.slice none 0 0,.slice none 0 0] 84))=W1 at *
 refine rg (fun W'=>LG w a (.slice p n c) (.slice q m mc) W') (HX.o.drew) fun aA=>?_;refine tm 0 52 [.slice p n c,.slice q m mc] 84 w.heap.size 0 (fun W' aC=>aC.b.r0) underlying84 ?_;refine tp 1 53 ?_;refine tp 2 54 ?_ (hy:=fun w aC=>by(try dsimp only at aC);have q8:=aC.b.b1.c 8 _ rfl;go_simp;try with_reducible rfl);refine tp 4 56 ?_;refine tp 5 57 ?_;refine tp 6 58 ?_ (hy:=fun w aC=>by(try dsimp only at aC);have q4:=aC.b.b1.c 4 _ rfl;go_simp;try with_reducible rfl);refine tp 7 59 ?_;refine tp 8 60 ?_;refine tp 9 61 ?_;refine tp 10 62 ?_;refine tp 11 63 ?_ (hy:=fun w aC=>by(try dsimp only at aC);have q5:=aC.b.b1.c 5 _ rfl;go_simp;try with_reducible rfl);refine tp 12 64 ?_;refine t4 13 65 a.ty (w.heap.size+1) 10 (fun W' aC=>BO aC.b.b1 10 4 rfl) ?_;refine tp 14 66 ?_;refine wpAnyH_ready (rs:=[3,15]) (by kernel_rfl) (by simp) ?_;refine AllReadyH.cons (o:=⟨some 55,_,_,_,_,none⟩) rfl (fun K hK=>?_) (AllReadyH.cons (o:=⟨some 67,_,_,_,_,none⟩) rfl (fun K hK=>?_) AllReadyH.nil)
 ·skip;go_simp;have aL:=aA.size;go_at_call 131;refine(Dj (HQ.o.below aA.below) p n c (HA.o.rhos.below aA.below) (by omega)).mono ?_;rintro e w3 ⟨q',qc',rfl,aB,hb,bh⟩;have cC:=AA aB;have aT:=AA hb
  have fl:Hd ((a.rhos=[]∧q'=q)∨∀ad,q'=some ad→w.heap.size+3≤ad.block):=by
   rcases bh with h1|h1
   ·exact .inl h1
   ·exact .inr (fun ad hp=>Nat.le_trans aL (h1 ad hp))
  clear aB bh aL;try go_wp2_with fail
  refine tn hK (aA.step hb) ?_;clear aA hK K;intro aA;refine tr 15 67 fun K hK=>?_;go_simp;have kt:Hd (AF EK 6 (w3.alloc (.cells #[.string a.name,.int .u8 0,.int .i64 0,.slice none 0 0,.slice none 0 0,.pointer (some ⟨w.heap.size+1,0,none⟩),.string a.arg,.int .u8 a.ty.head.kind,.int .i64 a.ty.head.rho,.slice a.ty.head.ep a.ty.head.en a.ty.head.ec,.slice a.ty.head.kp a.ty.head.kn a.ty.head.kc,.pointer none] 145)) (some ⟨w3.heap.size,0,none⟩) 2 2 [⟨a.name,(.node ⟨0,0,none,0,0,[],none,0,0⟩ []),some (a,w.heap.size+1)⟩,⟨a.arg,a.ty,none⟩]):=AW Do (by omega) w3 145 [⟨a.name,(.node ⟨0,0,none,0,0,[],none,0,0⟩ []),some (a,w.heap.size+1)⟩,⟨a.arg,a.ty,none⟩] 2 _ rfl rfl (by decide);have lQ:Hd (Below w3.heap.size w3 (w3.alloc (.cells #[.string a.name,.int .u8 0,.int .i64 0,.slice none 0 0,.slice none 0 0,.pointer (some ⟨w.heap.size+1,0,none⟩),.string a.arg,.int .u8 a.ty.head.kind,.int .i64 a.ty.head.rho,.slice a.ty.head.ep a.ty.head.en a.ty.head.ec,.slice a.ty.head.kp a.ty.head.kn a.ty.head.kc,.pointer none] 145))):=AQ (Below.refl _ _) _;refine tn hK (aA.alloc _) ?_;clear aA hK K;intro aA;refine tr 16 68 fun K hK=>?_;go_simp;have aL:=aA.size;go_at_call 139;refine(CG (HE.o.row.below aA.below) q' (m+a.rn) qc' (kt.o) (by omega)).mono ?_;rintro e w5 ⟨p',c',rfl,aB,hb,bh⟩;have bR:=AA aB;have bJ:=AA hb
  have bp:Hd (∀ad,p'=some ad→w.heap.size+3≤ad.block):=fun ad hp=>by
   rcases bh with⟨h1,_⟩|h1
   ·cases h1
   ·exact Nat.le_trans aL (h1 ad hp)
  clear aB bh aL;try go_wp2_with fail
  refine tn hK (aA.step hb) ?_;clear aA hK K;intro aA;refine DH 17 fun K hK=>?_;have aW:=AA aA;refine Em rfl _ _ _ (by rfl) aA #[.slice p' (n+2) c',.slice q' (m+a.rn) qc'] (by rfl) (by rfl) (by kernel_rfl) rfl (by simp [Value.oneCell']) ?_;refine tn hK (aA.store rfl) ?_;clear aA hK K;intro aA;refine dn ?_;clear aA;go_wp2_with fail;refine br (aW.o.heap _) underlying84 ?_;refine E5 aW.o HS.o bR.o (fun _ ad hp=>?_) (fun z hz=>?_) (by simp [Ck,BV.er];rfl) ((cC.o.below lQ.o).below bJ.o) (fun hl ad hp=>?_) (by omega) (by omega)
  ·have:=bp.o ad hp;omega
  ·rcases List.mem_append.1 hz with hz|hz
   ·have ho:=(HE.o.each z hz);refine⟨(ho.below aW.o.below).weak (fun x hx=>.inl ⟨Aa _ ho.ty x hx,ho.uses x hx⟩),fun a' g e=>?_⟩;have:=(ho.fn a' g e).2.2;omega
   ·simp only [List.mem_cons,List.not_mem_nil,or_false] at hz;rcases hz with rfl|rfl
    ·exact⟨⟨(FC w5 (Si w S)).1,(FC w5 (Si w S)).2,fun a' g e=>(by cases e;exact⟨⟨fun i v hv=>aW.o.b.b1.c (0+i) v (by simpa using hv)⟩,cR.o,by have:=aW.o.size;omega⟩),HA.o.name⟩,fun a' g e=>(by cases e;omega)⟩
    ·exact⟨⟨LR.lies_below aW.o.below _ HA.o.ty,fun x hx=>.inl ⟨Aa _ HA.o.ty x hx,HT.o x hx⟩,fun a' g e=>(nomatch e),HA.o.arg⟩,fun a' g e=>(nomatch e)⟩
  ·rcases fl.o with⟨h0,h1⟩|h1
   ·have iM:rhos≠[]:=by intro h2;apply hl;rw [h2,h0];rfl
    have:=BD HQ.o.row iM (h1▸hp);omega
   ·have:=h1 ad hp;omega
 ·skip;go_simp;refine tn hK (aA.alloc _) ?_;clear aA hK K;intro aA;refine tr 3 55 fun K hK=>?_;go_simp;have aL:=aA.size;go_at_call 131;refine(Dj (HQ.o.below aA.below) p n c (HA.o.rhos.below aA.below) (by omega)).mono ?_;rintro e w3 ⟨q',qc',rfl,aB,hb,bh⟩;have cC:=AA aB;have aT:=AA hb
  have fl:Hd ((a.rhos=[]∧q'=q)∨∀ad,q'=some ad→w.heap.size+3≤ad.block):=by
   rcases bh with h1|h1
   ·exact .inl h1
   ·exact .inr (fun ad hp=>Nat.le_trans aL (h1 ad hp))
  have kt:=AA (((AW Do (by omega) W1 145 [⟨a.name,(.node ⟨0,0,none,0,0,[],none,0,0⟩ []),some (a,w.heap.size+1)⟩,⟨a.arg,a.ty,none⟩] 2 _ rfl rfl (by decide)).below (AR _)).below hb);have lQ:=AA (Below.refl w3.heap.size w3);clear aB bh aL;try go_wp2_with fail
  refine tn hK (aA.step hb) ?_;clear aA hK K;intro aA;refine tr 16 68 fun K hK=>?_;go_simp;have aL:=aA.size;go_at_call 139;refine(CG (HE.o.row.below aA.below) q' (m+a.rn) qc' (kt.o) (by omega)).mono ?_;rintro e w5 ⟨p',c',rfl,aB,hb,bh⟩;have bR:=AA aB;have bJ:=AA hb
  have bp:Hd (∀ad,p'=some ad→w.heap.size+3≤ad.block):=fun ad hp=>by
   rcases bh with⟨h1,_⟩|h1
   ·cases h1
   ·exact Nat.le_trans aL (h1 ad hp)
  clear aB bh aL;try go_wp2_with fail
  refine tn hK (aA.step hb) ?_;clear aA hK K;intro aA;refine DH 17 fun K hK=>?_;have aW:=AA aA;refine Em rfl _ _ _ (by rfl) aA #[.slice p' (n+2) c',.slice q' (m+a.rn) qc'] (by rfl) (by rfl) (by kernel_rfl) rfl (by simp [Value.oneCell']) ?_;refine tn hK (aA.store rfl) ?_;clear aA hK K;intro aA;refine dn ?_;clear aA;go_wp2_with fail;refine br (aW.o.heap _) underlying84 ?_;refine E5 aW.o HS.o bR.o (fun _ ad hp=>?_) (fun z hz=>?_) (by simp [Ck,BV.er];rfl) ((cC.o.below lQ.o).below bJ.o) (fun hl ad hp=>?_) (by omega) (by omega)
  ·have:=bp.o ad hp;omega
  ·rcases List.mem_append.1 hz with hz|hz
   ·have ho:=(HE.o.each z hz);refine⟨(ho.below aW.o.below).weak (fun x hx=>.inl ⟨Aa _ ho.ty x hx,ho.uses x hx⟩),fun a' g e=>?_⟩;have:=(ho.fn a' g e).2.2;omega
   ·simp only [List.mem_cons,List.not_mem_nil,or_false] at hz;rcases hz with rfl|rfl
    ·exact⟨⟨(FC w5 (Si w S)).1,(FC w5 (Si w S)).2,fun a' g e=>(by cases e;exact⟨⟨fun i v hv=>aW.o.b.b1.c (0+i) v (by simpa using hv)⟩,cR.o,by have:=aW.o.size;omega⟩),HA.o.name⟩,fun a' g e=>(by cases e;omega)⟩
    ·exact⟨⟨LR.lies_below aW.o.below _ HA.o.ty,fun x hx=>.inl ⟨Aa _ HA.o.ty x hx,HT.o x hx⟩,fun a' g e=>(nomatch e),HA.o.arg⟩,fun a' g e=>(nomatch e)⟩
  ·rcases fl.o with⟨h0,h1⟩|h1
   ·have iM:rhos≠[]:=by intro h2;apply hl;rw [h2,h0];rfl
    have:=BD HQ.o.row iM (h1▸hp);omega
   ·have:=h1 ad hp;omega
theorem L2{w0 w:World}{S:Nat→Prop}{a:AH}{p q r:Option Addr}{n c m mc rn rc:Nat}{env:List BV}{rhos:List Int}{acc:List RV}(i:Nat)(hE:Cn w0 w S p n c env)(hq:AF Am 1 w q m mc rhos)(ha:AH.Own w a)(bo:AH.Own w0 a)(hS:∀b,w.heap.size≤b→S b)(bY:∀b∈Ao a.ty,S b)(hn:n≤900000)(hm:m≤900000)(it:a.rn≤50)(ay:IG w S r rn rc acc)(de:a.kind=12→i=1→acc.length=1):Calls prog 98 #[.agg #[.slice p n c,.slice q m mc],An a,.int .i64 (i:Int),.slice r rn rc] w (KA w0 w S n m (Ai (Ck env) a.plain i (BM acc)) (Aq rhos a.plain i)):=by
 have e:((i:Int)).toNat=i:=Int.toNat_natCast i;have h0:(0:Int)≤(i:Int):=Int.natCast_nonneg i;by_cases k11:a.kind=11
 ·have:=Sz (r:=r) (rn:=rn) (rc:=rc) (acc:=acc) (i:=(i:Int)) hE hq ha bo hS bY hn hm k11;rwa [e] at this
 by_cases k12:a.kind=12
 ·by_cases hi:i=1
  ·subst hi;have hl:=de k12 rfl;match acc,ay,hl with
   |[x],ay,_=>
    obtain⟨b,o,hp,_⟩:=ay.row.row.elem (j:=0) (x:=x) rfl;subst hp;obtain rfl:rn=1:=ay.row.len.symm;exact Pl hE hq ha bo hS bY hn hm ay k12
  ·have:=Pk (r:=r) (rn:=rn) (rc:=rc) (acc:=acc) (i:=(i:Int)) hE hq ha bo hS bY hn hm k12 h0 (by omega);rwa [e] at this
 by_cases k13:a.kind=13
 ·by_cases hi:i=0
  ·subst hi;exact LS hE hq ha bo hS bY hn hm it k13
  ·have:=Mq (r:=r) (rn:=rn) (rc:=rc) (acc:=acc) (i:=(i:Int)) hE hq ha bo hS bY hn hm k13 h0 (by omega);rwa [e] at this
 by_cases k16:a.kind=16
 ·by_cases hi:i=1
  ·have:=Mp (r:=r) (rn:=rn) (rc:=rc) (acc:=acc) (i:=(i:Int)) hE hq ha bo hS bY hn hm k16 (by omega);rwa [e] at this
  ·have:=LQ (r:=r) (rn:=rn) (rc:=rc) (acc:=acc) (i:=(i:Int)) hE hq ha bo hS bY hn hm k16 h0 (by omega);rwa [e] at this
 by_cases k17:a.kind=17
 ·have:=Mr (r:=r) (rn:=rn) (rc:=rc) (acc:=acc) (i:=(i:Int)) hE hq ha bo hS bY hn hm k17;rwa [e] at this
 ·have:=N9 (r:=r) (rn:=rn) (rc:=rc) (acc:=acc) (i:=(i:Int)) hE hq ha bo hS bY hn hm k11 k12 k13 k16 k17;rwa [e] at this
theorem Rs{w:World}{S:Nat→Prop}{a:AH}{b o c:Nat}{x y:RV}(h:Dm w S a (some ⟨b,o,none⟩) 2 c [x,y])(hk:a.kind=3):Calls prog 99 #[An a,.slice (some ⟨b,o,none⟩) 2 c] w (Co w S (A3 a.plain (BM [x,y]))):=by
 have HX:=AA (B3 w a);have HH:=AA h;have bX:=h.sum;have e3:(a.kind==3)=true:=by simp [hk]
 have bE:=HX.o.box.c 0 _ rfl;have bZ:Hd (A3 a.plain (BM [x,y])=.ok (H8 2 a.rho [] [x.ty.er,y.ty.er],A1 (BM [x,y]) [Bu a.rho])):=by show _=_;unfold A3;simp [show a.plain.kind=3 from hk];try first|rfl|exact⟨rfl,rfl⟩
 rw [bZ.o];clear h hk;go_enter func99,ntmps99;go_upto_region 4 with fail;clear bE e3;generalize (w.alloc (AO a)).alloc (.cells #[.int .u8 0,.int .i64 0,.slice none 0 0,.slice none 0 0,.slice none 0 0] 81)=W1 at *
 refine rg (fun W'=>EJ w a W') (HX.o.drew) fun aA=>?_;refine tp 0 13 ?_;refine tp 1 14 ?_ (hy:=fun w aC=>by(try dsimp only at aC);have q7:=aC.box.c 7 _ rfl;go_simp;try with_reducible rfl);refine tp 2 15 ?_;refine tp 3 16 ?_;refine tp 4 17 ?_;refine t4 5 18 x.ty b o (fun W' aC=>Fe (HH.o.res.row.below aC.below)) ?_;refine tp 6 19 ?_;refine tp 7 20 ?_;refine tp 8 21 ?_;refine t4 9 22 y.ty b (o+5) (fun W' aC=>Gb (HH.o.res.row.below aC.below)) ?_;refine tp 12 25 ?_;refine tp 13 26 ?_;refine tp 14 27 ?_ (hy:=fun w aC=>by(try dsimp only at aC);have q7:=aC.box.c 7 _ rfl;go_simp;try with_reducible rfl);refine tr 10 23 fun K hK=>?_;go_simp;refine tn hK (aA.alloc _) ?_;clear aA hK K;intro aA;refine tr 11 24 fun K hK=>?_;go_simp;go_at_call 136;refine(CT 2 a.rho (AF.none AP 3 _) (by omega) (some ⟨W1.heap.size,0,none⟩) 2 2).mono ?_;rintro e w2 ⟨q,m,qc,rfl,aB,bM,hb⟩;have bK:Hd (AF AP 3 w2 q m qc []):=aB;have fb:Hd (Cy w2 (some ⟨W1.heap.size,0,none⟩) 2 2 [x.ty,y.ty]):=((IZ (LR.lies_below HX.o.below _ (HH.o.res.each x (by simp)).ty) (LR.lies_below HX.o.below _ (HH.o.res.each y (by simp)).ty) 28).below (AR _)).below hb;clear aB bM;try go_wp2_with fail
 refine tn hK (aA.step hb) ?_;clear aA hK K;intro aA;refine tr 15 28 fun K hK=>?_;go_simp;go_at_call 138;refine(Cc a.rho _).mono ?_;rintro e w3 ⟨rfl,hb⟩;have aT:=AA hb;try go_wp2_with fail
 refine tn hK (aA.step hb) ?_;clear aA hK K;intro aA;refine tr 16 29 fun K hK=>?_;go_simp;refine tn hK (aA.alloc _) ?_;clear aA hK K;intro aA;refine tr 17 30 fun K hK=>?_;go_simp;go_at_call 140;refine(Ax (HH.o.res.row.below aA.below) (fun r hr=>((HH.o.res.each r hr).below aA.below).eff) (Dy w3 (Bu a.rho)) (by decide) (by omega)).mono ?_;rintro e w5 ⟨v5,k5,rfl,aF,hb⟩;obtain⟨q5,c5,rfl,aK⟩:=AI.isRow AC (by omega) aF;have aN:=(fun ad hp=>by subst hp;exact AI.from aF ad.block rfl:∀ad,q5=some ad→(w3.alloc (.cells #[.int .u8 (Bu a.rho).kind,.int .i64 (Bu a.rho).rho,.string (Bu a.rho).exn] 59)).heap.size≤ad.block);have bR:=AA aK;have bp:=AA aN;have bJ:=AA hb;clear aF aK aN;try go_wp2_with fail
 refine tn hK (aA.step hb) ?_;clear aA hK K;intro aA;refine tp 18 31 ?_;refine DH 19 fun K hK=>?_;have aW:=AA aA;refine Al rfl _ _ _ (by rfl) aA #[.int .u8 2,.int .i64 a.rho,.slice q m qc,.slice (some ⟨W1.heap.size,0,none⟩) 2 2,.slice q5 k5 c5] (by rfl) (by rfl) (by kernel_rfl) rfl (by simp [Value.oneCell']) ?_;refine tn hK (aA.store rfl) ?_;clear aA hK K;intro aA;refine dn ?_;clear aA;go_wp2_with fail;refine br (aW.o.heap _) underlying81 ?_;have aD:=HH.o.own;have df:Below w2.heap.size w2 w5:=AL (AQ aT.o _) bJ.o;have dM:=HX.o.size;refine DN (y:=⟨.node ⟨2,a.rho,q,m,qc,[],some ⟨W1.heap.size,0,none⟩,2,2⟩ [x.ty,y.ty],q5,k5,c5,A1 (BM [x,y]) [Bu a.rho]⟩) aW.o HH.o.new ⟨I8 (by decide) aD.rho (bK.o.below df) (fun x hx=>(nomatch hx)) (fb.o.below df),?_,bR.o,Cz (fun r hr=>(HH.o.res.each r hr).eok) (fun z hz=>by rw [List.mem_singleton] at hz;subst hz;exact FN aD.rho.1 aD.rho.2),fun _ ad hp=>.inr ?_⟩ rfl
 ·have hr:=Du HH.o.res (Below.refl _ _);exact I9 (hr.each x (by simp)).uses (hr.each y (by simp)).uses (.inr dM) (fun h=>absurd rfl h)
 ·have h1:=bp.o ad hp;have h2:=aT.o.size;have h3:=fb.o;simp only [World.size_alloc] at h1;have h4:W1.heap.size≤w2.heap.size:=by obtain⟨b',o',e1,e2,_⟩:=fb.o.kid (j:=0) rfl;cases e1;omega
  omega
theorem TZ{w:World}{S:Nat→Prop}{a:AH}{b o c:Nat}{x:RV}(h:Dm w S a (some ⟨b,o,none⟩) 1 c [x])(hk:a.kind=6):Calls prog 99 #[An a,.slice (some ⟨b,o,none⟩) 1 c] w (Co w S (A3 a.plain (BM [x]))):=by
 have HX:=AA (B3 w a);have HH:=AA h;have bX:=h.sum;have e3:(a.kind==3)=false:=by simp [hk]
 have e4:(a.kind==4)=false:=by simp [hk]
 have e5:(a.kind==5)=false:=by simp [hk]
 have e6:(a.kind==6)=true:=by simp [hk]
 have bE:=HX.o.box.c 0 _ rfl;have bZ:Hd (A3 a.plain (BM [x])=.ok (H8 3 a.rho [] [x.ty.er],A1 (BM [x]) [Bu a.rho])):=by show _=_;unfold A3;simp [show a.plain.kind=6 from hk];try first|rfl|exact⟨rfl,rfl⟩
 rw [bZ.o];clear h hk;go_enter func99,ntmps99;go_upto_region 10 with fail;clear bE e3 e4 e5 e6;generalize (w.alloc (AO a)).alloc (.cells #[.int .u8 0,.int .i64 0,.slice none 0 0,.slice none 0 0,.slice none 0 0] 81)=W1 at *
 refine rg (fun W'=>EJ w a W') (HX.o.drew) fun aA=>?_;refine tp 0 64 ?_;refine tp 1 65 ?_ (hy:=fun w aC=>by(try dsimp only at aC);have q7:=aC.box.c 7 _ rfl;go_simp;try with_reducible rfl);refine tp 2 66 ?_;refine tp 3 67 ?_;refine tp 4 68 ?_;refine t4 5 69 x.ty b o (fun W' aC=>Fe (HH.o.res.row.below aC.below)) ?_;refine tp 8 72 ?_;refine tp 9 73 ?_;refine tp 10 74 ?_ (hy:=fun w aC=>by(try dsimp only at aC);have q7:=aC.box.c 7 _ rfl;go_simp;try with_reducible rfl);refine tr 6 70 fun K hK=>?_;go_simp;refine tn hK (aA.alloc _) ?_;clear aA hK K;intro aA;refine tr 7 71 fun K hK=>?_;go_simp;go_at_call 136;refine(CT 3 a.rho (AF.none AP 3 _) (by omega) (some ⟨W1.heap.size,0,none⟩) 1 1).mono ?_;rintro e w2 ⟨q,m,qc,rfl,aB,bM,hb⟩;have bK:Hd (AF AP 3 w2 q m qc []):=aB;have fb:Hd (Cy w2 (some ⟨W1.heap.size,0,none⟩) 1 1 [x.ty]):=((FO (LR.lies_below HX.o.below _ (HH.o.res.each x (by simp)).ty) 28).below (AR _)).below hb;clear aB bM;try go_wp2_with fail
 refine tn hK (aA.step hb) ?_;clear aA hK K;intro aA;refine tr 11 75 fun K hK=>?_;go_simp;go_at_call 138;refine(Cc a.rho _).mono ?_;rintro e w3 ⟨rfl,hb⟩;have aT:=AA hb;try go_wp2_with fail
 refine tn hK (aA.step hb) ?_;clear aA hK K;intro aA;refine tr 12 76 fun K hK=>?_;go_simp;refine tn hK (aA.alloc _) ?_;clear aA hK K;intro aA;refine tr 13 77 fun K hK=>?_;go_simp;go_at_call 140;refine(Ax (HH.o.res.row.below aA.below) (fun r hr=>((HH.o.res.each r hr).below aA.below).eff) (Dy w3 (Bu a.rho)) (by decide) (by omega)).mono ?_;rintro e w5 ⟨v5,k5,rfl,aF,hb⟩;obtain⟨q5,c5,rfl,aK⟩:=AI.isRow AC (by omega) aF;have aN:=(fun ad hp=>by subst hp;exact AI.from aF ad.block rfl:∀ad,q5=some ad→(w3.alloc (.cells #[.int .u8 (Bu a.rho).kind,.int .i64 (Bu a.rho).rho,.string (Bu a.rho).exn] 59)).heap.size≤ad.block);have bR:=AA aK;have bp:=AA aN;have bJ:=AA hb;clear aF aK aN;try go_wp2_with fail
 refine tn hK (aA.step hb) ?_;clear aA hK K;intro aA;refine tp 14 78 ?_;refine DH 15 fun K hK=>?_;have aW:=AA aA;refine Al rfl _ _ _ (by rfl) aA #[.int .u8 3,.int .i64 a.rho,.slice q m qc,.slice (some ⟨W1.heap.size,0,none⟩) 1 1,.slice q5 k5 c5] (by rfl) (by rfl) (by kernel_rfl) rfl (by simp [Value.oneCell']) ?_;refine tn hK (aA.store rfl) ?_;clear aA hK K;intro aA;refine dn ?_;clear aA;go_wp2_with fail;refine br (aW.o.heap _) underlying81 ?_;have aD:=HH.o.own;have df:Below w2.heap.size w2 w5:=AL (AQ aT.o _) bJ.o;have dM:=HX.o.size;refine DN (y:=⟨.node ⟨3,a.rho,q,m,qc,[],some ⟨W1.heap.size,0,none⟩,1,1⟩ [x.ty],q5,k5,c5,A1 (BM [x]) [Bu a.rho]⟩) aW.o HH.o.new ⟨TG (by decide) aD.rho (bK.o.below df) (fun x hx=>(nomatch hx)) (fb.o.below df),?_,bR.o,Cz (fun r hr=>(HH.o.res.each r hr).eok) (fun z hz=>by rw [List.mem_singleton] at hz;subst hz;exact FN aD.rho.1 aD.rho.2),fun _ ad hp=>.inr ?_⟩ rfl
 ·have hr:=Du HH.o.res (Below.refl _ _);exact TI (hr.each x (by simp)).uses (.inr dM) (fun h=>absurd rfl h)
 ·have h1:=bp.o ad hp;have h2:=aT.o.size;simp only [World.size_alloc] at h1;have h4:W1.heap.size≤w2.heap.size:=by obtain⟨b',o',e1,e2,_⟩:=fb.o.kid (j:=0) rfl;cases e1;omega
  omega
theorem J4{p:Option Addr}{n c:Nat}{l:List RV}{w:World}{u:Bool}(hu:l.all (fun r=>r.ty.head.kind==1)=u)(hr:AF Bt 5 w p n c l):Calls prog 143 #[.slice p n c] w (RB w (.bool u)):=by subst hu;exact KI hr
theorem TY{w:World}{S:Nat→Prop}{a:AH}{p:Option Addr}{n c:Nat}{l:List RV}(h:Dm w S a p n c l)(hk:a.kind=1):Calls prog 99 #[An a,.slice p n c] w (Co w S (A3 a.plain (BM l))):=by
 have HX:=AA (B3 w a);have HH:=AA h;have fL:=h.few;have bX:=h.sum;have e3:(a.kind==3)=false:=by simp [hk]
 have e4:(a.kind==4)=false:=by simp [hk]
 have e5:(a.kind==5)=false:=by simp [hk]
 have e6:(a.kind==6)=false:=by simp [hk]
 have e7:(a.kind==7)=false:=by simp [hk]
 have e8:(a.kind==8)=false:=by simp [hk]
 have e10:(a.kind==10)=false:=by simp [hk]
 have e9:(a.kind==9)=false:=by simp [hk]
 have e14:(a.kind==14)=false:=by simp [hk]
 have e15:(a.kind==15)=false:=by simp [hk]
 have e1:(a.kind==1)=true:=by simp [hk]
 have bE:=HX.o.box.c 0 _ rfl;have bZ:Hd (A3 a.plain (BM l)=.ok (Fi,A1 (BM l) [])):=by show _=_;unfold A3;simp [show a.plain.kind=1 from hk]
 rw [bZ.o];clear h hk;go_enter func99,ntmps99;go_upto_region 29 with fail;clear bE e3 e4 e5 e6 e7 e8 e10 e9 e14 e15 e1;generalize (w.alloc (AO a)).alloc (.cells #[.int .u8 0,.int .i64 0,.slice none 0 0,.slice none 0 0,.slice none 0 0] 81)=W1 at *
 go_wp2_with (first
  |(refine Dw rfl _ _ _ rfl bH.o #[.int .u8 1,.int .i64 0,.slice q m qc,.slice none 0 0,.slice q3 k3 c3] rfl rfl (by kernel_rfl) rfl (by simp [Value.oneCell']) ?_)
  |(go_at_call 136;refine(CT 1 0 (AF.none AP 3 _) (by omega) none 0 0).mono ?_;rintro e w2 ⟨q,m,qc,rfl,aB,bM,hb⟩;have bK:Hd (AF AP 3 w2 q m qc []):=aB;have aV:=AA (HX.o.step hb);clear aB bM hb)
  |(go_at_call 140;refine(Ax (HH.o.res.row.below aV.o.below) (fun r hr=>((HH.o.res.each r hr).below aV.o.below).eff) (AF.none AP 3 _) fL (by omega)).mono ?_;rintro e w3 ⟨v3,k3,rfl,aE,dN⟩;obtain⟨q3,c3,rfl,ab⟩:=AI.isRow AC (by omega) aE;have dg:=(fun ad hp=>by subst hp;exact AI.from aE ad.block rfl:∀ad,q3=some ad→w2.heap.size≤ad.block);have cC:=AA ab;have fl:=AA dg;have bH:=AA (aV.o.step dN);have aT:=AA dN;clear aE ab dg dN))
 refine br (bH.o.heap _) underlying81 ?_;exact Pn bH.o HH.o.new (bK.o.below aT.o) cC.o (fun ad hp=>by have h1:=fl.o ad hp;have h2:=aV.o.size;omega) (Cz (fun r hr=>(HH.o.res.each r hr).eok) (fun x hx=>(nomatch hx)))
theorem Uf{w:World}{S:Nat→Prop}{a:AH}{p:Option Addr}{n c:Nat}{l:List RV}(h:Dm w S a p n c l)(hk:a.kind=9):Calls prog 99 #[An a,.slice p n c] w (Co w S (A3 a.plain (BM l))):=by
 have HX:=AA (B3 w a);have HH:=AA h;have fL:=h.few;have bX:=h.sum;have e3:(a.kind==3)=false:=by simp [hk]
 have e4:(a.kind==4)=false:=by simp [hk]
 have e5:(a.kind==5)=false:=by simp [hk]
 have e6:(a.kind==6)=false:=by simp [hk]
 have e7:(a.kind==7)=false:=by simp [hk]
 have e8:(a.kind==8)=false:=by simp [hk]
 have e10:(a.kind==10)=false:=by simp [hk]
 have e9:(a.kind==9)=true:=by simp [hk]
 have bE:=HX.o.box.c 0 _ rfl;obtain⟨u,hu⟩:∃u,l.all (fun r=>r.ty.head.kind==1)=u:=⟨_,rfl⟩;have HU:=AA hu;have bZ:Hd (A3 a.plain (BM l)=A6 u a.plain 5 (.ok (Fi,A1 (BM l) []))):=by show _=_;unfold A3;rw [←hu,←SN];simp [show a.plain.kind=9 from hk];try rfl
 rw [bZ.o];clear h hk hu;go_enter func99,ntmps99;go_upto_region 21 with fail;clear bE;generalize (w.alloc (AO a)).alloc (.cells #[.int .u8 0,.int .i64 0,.slice none 0 0,.slice none 0 0,.slice none 0 0] 81)=W1 at *
 refine rg (fun W'=>EJ w a W') (HX.o.drew) fun aA=>?_;refine tp 0 185 ?_;refine ta 2 187 a w.heap.size 0 (fun W' aC=>aC.box.range) ?_;refine tr 1 186 fun K hK=>?_;go_simp;go_at_call 143;refine(J4 HU.o (HH.o.res.row.below aA.below)).mono ?_;rintro e w8 ⟨rfl,hb⟩;try go_wp2_with fail
 refine tn hK (aA.step hb) ?_;clear aA hK K;intro aA;refine tr 3 188 fun K hK=>?_;go_simp;cases u
 ·go_at_call 64;refine(BA a 5 _).mono ?_;rintro e w9 ⟨rfl,hb⟩;exact⟨rfl,rfl,(aA.step hb).below⟩
 go_at_call 64;refine(A7 a 5 _).mono ?_;rintro e w9 ⟨rfl,hb⟩;try go_wp2_with fail
 refine tn hK (aA.step hb) ?_;clear aA hK K;intro aA;refine dn ?_;clear HX;have HX:=AA aA;clear aA
 go_wp2_with (first
  |(refine Dw rfl _ _ _ rfl bH.o #[.int .u8 1,.int .i64 0,.slice q m qc,.slice none 0 0,.slice q3 k3 c3] rfl rfl (by kernel_rfl) rfl (by simp [Value.oneCell']) ?_)
  |(go_at_call 136;refine(CT 1 0 (AF.none AP 3 _) (by omega) none 0 0).mono ?_;rintro e w2 ⟨q,m,qc,rfl,aB,bM,hb⟩;have bK:Hd (AF AP 3 w2 q m qc []):=aB;have aV:=AA (HX.o.step hb);clear aB bM hb)
  |(go_at_call 140;refine(Ax (HH.o.res.row.below aV.o.below) (fun r hr=>((HH.o.res.each r hr).below aV.o.below).eff) (AF.none AP 3 _) fL (by omega)).mono ?_;rintro e w3 ⟨v3,k3,rfl,aE,dN⟩;obtain⟨q3,c3,rfl,ab⟩:=AI.isRow AC (by omega) aE;have dg:=(fun ad hp=>by subst hp;exact AI.from aE ad.block rfl:∀ad,q3=some ad→w2.heap.size≤ad.block);have cC:=AA ab;have fl:=AA dg;have bH:=AA (aV.o.step dN);have aT:=AA dN;clear aE ab dg dN))
 refine br (bH.o.heap _) underlying81 ?_;exact Pn bH.o HH.o.new (bK.o.below aT.o) cC.o (fun ad hp=>by have h1:=fl.o ad hp;have h2:=aV.o.size;omega) (Cz (fun r hr=>(HH.o.res.each r hr).eok) (fun x hx=>(nomatch hx)))
theorem P9{w:World}{S:Nat→Prop}{a:AH}{p:Option Addr}{n c:Nat}{l:List RV}(h:Dm w S a p n c l)(hk:a.kind=15):Calls prog 99 #[An a,.slice p n c] w (Co w S (A3 a.plain (BM l))):=by
 have HX:=AA (B3 w a);have HH:=AA h;have fL:=h.few;have bX:=h.sum;have e3:(a.kind==3)=false:=by simp [hk]
 have e4:(a.kind==4)=false:=by simp [hk]
 have e5:(a.kind==5)=false:=by simp [hk]
 have e6:(a.kind==6)=false:=by simp [hk]
 have e7:(a.kind==7)=false:=by simp [hk]
 have e8:(a.kind==8)=false:=by simp [hk]
 have e10:(a.kind==10)=false:=by simp [hk]
 have e9:(a.kind==9)=false:=by simp [hk]
 have e14:(a.kind==14)=false:=by simp [hk]
 have e15:(a.kind==15)=true:=by simp [hk]
 have bE:=HX.o.box.c 0 _ rfl;obtain⟨u,hu⟩:∃u,l.all (fun r=>r.ty.head.kind==1)=u:=⟨_,rfl⟩;have HU:=AA hu;have bZ:Hd (A3 a.plain (BM l)=A6 u a.plain 5 (.ok (a.ty.er,A1 (BM l) [E3 a.exn]))):=by show _=_;unfold A3;rw [←hu,←SN];simp [show a.plain.kind=15 from hk];try rfl
 rw [bZ.o];clear h hk hu;go_enter func99,ntmps99;go_upto_region 26 with fail;clear bE;generalize (w.alloc (AO a)).alloc (.cells #[.int .u8 0,.int .i64 0,.slice none 0 0,.slice none 0 0,.slice none 0 0] 81)=W1 at *
 refine rg (fun W'=>EJ w a W') (HX.o.drew) fun aA=>?_;refine tp 0 218 ?_;refine ta 2 220 a w.heap.size 0 (fun W' aC=>aC.box.range) ?_;refine tr 1 219 fun K hK=>?_;go_simp;go_at_call 143;refine(J4 HU.o (HH.o.res.row.below aA.below)).mono ?_;rintro e w8 ⟨rfl,hb⟩;try go_wp2_with fail
 refine tn hK (aA.step hb) ?_;clear aA hK K;intro aA;refine tr 3 221 fun K hK=>?_;go_simp;cases u
 ·go_at_call 64;refine(BA a 5 _).mono ?_;rintro e w9 ⟨rfl,hb⟩;exact⟨rfl,rfl,(aA.step hb).below⟩
 go_at_call 64;refine(A7 a 5 _).mono ?_;rintro e w9 ⟨rfl,hb⟩;try go_wp2_with fail
 refine tn hK (aA.step hb) ?_;clear aA hK K;intro aA;refine dn ?_;clear HX;have HX:=AA aA;clear aA;go_upto_region 27 with fail;refine rg (fun W'=>EJ w a W') (HX.o.drew) fun aA=>?_;refine tp 0 222 ?_;refine t4 1 223 a.ty w.heap.size 10 (fun W' aC=>BO aC.box 10 4 rfl) ?_;refine tp 2 224 ?_;refine tp 3 225 ?_;refine tp 4 226 ?_;refine tp 5 227 ?_ (hy:=fun w aC=>by(try dsimp only at aC);have q6:=aC.box.c 6 _ rfl;go_simp;try with_reducible rfl);refine tp 6 228 ?_;refine tr 7 229 fun K hK=>?_;go_simp;refine tn hK (aA.alloc _) ?_;clear aA hK K;intro aA;refine tr 8 230 fun K hK=>?_;go_simp;go_at_call 140;refine(Ax (HH.o.res.row.below aA.below) (fun r hr=>((HH.o.res.each r hr).below aA.below).eff) ((Dy w9 (E3 a.exn)).below (AR _)) fL (by omega)).mono ?_;rintro e w5 ⟨v5,k5,rfl,aF,hb⟩;obtain⟨q5,c5,rfl,aK⟩:=AI.isRow AC (by omega) aF;have aN:=(fun ad hp=>by subst hp;have:=AI.from aF ad.block rfl;simpa using this:∀ad,q5=some ad→w9.heap.size+1≤ad.block);have bR:=AA aK;have bp:=AA aN;clear aF aK aN;try go_wp2_with fail
 refine tn hK (aA.step hb) ?_;clear aA hK K;intro aA;refine tp 9 231 ?_;refine DH 10 fun K hK=>?_;have aW:=AA aA;refine Al rfl _ _ _ (by rfl) aA #[.int .u8 a.ty.head.kind,.int .i64 a.ty.head.rho,.slice a.ty.head.ep a.ty.head.en a.ty.head.ec,.slice a.ty.head.kp a.ty.head.kn a.ty.head.kc,.slice q5 k5 c5] (by rfl) (by rfl) (by kernel_rfl) rfl (by simp [Value.oneCell']) ?_;refine tn hK (aA.store rfl) ?_;clear aA hK K;intro aA;refine dn ?_;clear aA;go_wp2_with fail;refine br (aW.o.heap _) underlying81 ?_;have aD:=HH.o.own;have dM:=HX.o.size;refine DN (y:=⟨a.ty,q5,k5,c5,A1 (BM l) [E3 a.exn]⟩) aW.o HH.o.new ⟨LR.lies_below aW.o.below _ aD.ty,fun z hz=>.inl ⟨Aa _ aD.ty z hz,HH.o.ty z hz⟩,bR.o,Cz (fun r hr=>(HH.o.res.each r hr).eok) (fun z hz=>by rw [List.mem_singleton] at hz;subst hz;exact⟨by show (0:Int)≤3;decide,by show (3:Int)≤255;decide,by show _≤(0:Int);decide,by show (0:Int)≤_;decide,aD.exn⟩),fun _ ad hp=>.inr ?_⟩ rfl;have h1:=bp.o ad hp;omega
end Go.Proofs.YtkdjnegfnhldpaaGreatDoor
