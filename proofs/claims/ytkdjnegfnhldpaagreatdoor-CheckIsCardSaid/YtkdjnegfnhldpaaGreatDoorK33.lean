/- Part 33. -/
import Derived.Test.YtkdjnegfnhldpaaGreatDoorK32
set_option linter.unusedVariables false
set_option maxRecDepth 100000
set_option linter.unusedSimpArgs false
set_option maxHeartbeats 40000000
namespace Go.Proofs.YtkdjnegfnhldpaaGreatDoor
open Go.Proofs.Tryz Go.RowKit
theorem Wd{W:World}{b o n c:Nat}{l:List RV}(h:AE Bt 7 W (some ⟨b,o,none⟩) n c l){j:Nat}{x:RV}(hx:l[j]?=some x):W.rangeAt b (o+j * 7) (Bt x):=fun i v hv=>by obtain⟨b',o',hp,_,hc⟩:=h.row.elem hx;cases hp;exact hc i v hv
theorem CY{W:World}{b o n c:Nat}{l:List RV}(h:AE Bt 7 W (some ⟨b,o,none⟩) n c l){j:Nat}{x:RV}(hx:l[j]?=some x):W.rangeAt b (o+j * 7) [.int .u8 x.ty.head.kind,.int .i64 x.ty.head.rho,.slice x.ty.head.ep x.ty.head.en x.ty.head.ec,.slice x.ty.head.kp x.ty.head.kn x.ty.head.kc]:=by have:=G3 (Wd h hx) 4;simpa [Bt] using this
theorem Wz{W:World}{b o n c:Nat}{x:RV}{l:List RV}(h:AE Bt 7 W (some ⟨b,o,none⟩) n c (x::l)):W.rangeAt b o [.int .u8 x.ty.head.kind,.int .i64 x.ty.head.rho,.slice x.ty.head.ep x.ty.head.en x.ty.head.ec,.slice x.ty.head.kp x.ty.head.kn x.ty.head.kc]:=by simpa using CY h (j:=0) rfl
theorem FP{W:World}{b o n c:Nat}{l:List RV}(h:AE Bt 7 W (some ⟨b,o,none⟩) n c l){j:Nat}{x:RV}(hx:l[j]?=some x)(i:Nat)(v:Value)(hv:(Bt x)[i]?=some v):W.cell? ⟨b,o+j * 7+i,none⟩=some v:=Wd h hx i v hv
structure Hv(w0 w:World)(S:Nat→Prop)(a:AH)(p:Option Addr)(n c:Nat)(env:List BW)(q:Option Addr)(m mc:Nat)(rhos:List Int)(r:Option Addr)(rn rc:Nat)(acc:List RV)(i:Nat):Prop where
 env:I0 w0 w S p n c env
 rho:AE Ab 1 w q m mc rhos
 own:AH.Own w a
 own0:AH.Own w0 a
 use:∀b∈A7 a.ty,S b
 hn:n≤900000
 hm:m≤900000
 hr:a.rn≤50
 res:Sz w S r rn rc acc
 one:a.kind=12→i=1→acc.length=1
def Dx(w0 w:World)(S:Nat→Prop)(n m:Nat)(eb:List Fp)(rr:List Int)(e:Ending)(w':World):Prop:=(∃p' n' c' env' q' m' c'',e=.returned (.tuple #[.slice p' n' c',.slice q' m' c''])∧I0 w0 w' S p' n' c' env'∧Cv env'=eb∧AE Ab 1 w' q' m' c'' rr∧n'≤n+2∧m'≤m+50)∧Below w.heap.size w w'
theorem I0.push{w0 w w':World}{S:Nat→Prop}{p p':Option Addr}{n c n' c':Nat}{env:List BW}{b:BW}(h:I0 w0 w S p n c env)(hb:Below w.heap.size w w')(bY:b.Ok w0 w' S)(hr:AE Dz 25 w' p' n' c' (env++[b])):I0 w0 w' S p' n' c' (env++[b]):=
 ⟨hr,fun x hx=>by
  rcases List.mem_append.1 hx with hx|hx
  ·exact(h.each x hx).below hb
  ·rw [List.mem_singleton.1 hx];exact bY⟩
def A0:PT:=.node ⟨1,0,none,0,0,[],none,0,0⟩ []
theorem T9(w0 W:World)(S:Nat→Prop)(x:ByteArray):(⟨x,A0,none⟩:BW).Ok w0 W S:=⟨(FZ W S).1,(FZ W S).2,fun _ e=>by cases e⟩
theorem Ss{w0 W:World}{S:Nat→Prop}{x:ByteArray}{a:AH}(h:AH.Own w0 a):(⟨x,Vq,some a⟩:BW).Ok w0 W S:=⟨(FC W S).1,(FC W S).2,fun b e=>by cases e;exact h⟩
theorem Gf(env:List BW)(b:BW):Cv (env++[b])=Cv env++[b.er]:=by simp [Cv]
theorem M4{w0 w:World}{S:Nat→Prop}{a:AH}{p q r:Option Addr}{n c m mc rn rc:Nat}{env:List BW}{rhos:List Int}{acc:List RV}{i:Nat}(hI:Hv w0 w S a p n c env q m mc rhos r rn rc acc i)(hk:a.kind=11):Calls prog 116 #[.slice p n c,.slice q m mc,Aj a,.int .i64 (i:Int),.slice r rn rc] w (Dx w0 w S n m (Ac (Cv env) a.plain i (Ak acc)) (Ad rhos a.plain i)):=by
 have aY:Below w.heap.size w (w.alloc (AO a)):=bA;have HB:=AA aY;have aE:=AA (Aa w a);have HE:=AA (hI.env.below aY);have HQ:=AA (hI.rho.below aY);have ax:=AA (hI.own.rhos.below aY);have bH:=AA (LR.lies_below aY _ hI.own.ty);have bI:=AA (hI.res.below aY);have hn:=hI.hn;have hm:=hI.hm;have d8:=hI.hr;have c0:=aE.o.c 0 _ rfl;have c5:=aE.o.c 5 _ rfl;have e11:=kb hk 11;have e12:=kb hk 12;have e13:=kb hk 13;have e16:=kb hk 16;have e17:=kb hk 17;have fM:Hd (Ac (Cv env) a.plain i (Ak acc)=Cv (env++[⟨a.arg,a.ty,none⟩])):=by show _=_;unfold Ac;rw [if_pos (show a.plain.kind=11 from hk),Gf];rfl
 have fN:Hd (Ad rhos a.plain i=rhos):=by show _=_;unfold Ad;rw [if_neg (show ¬(a.plain.kind=13∧i=0) from fun h=>by have h1:a.kind=13:=h.1;omega),if_neg (show ¬a.plain.kind=17 from fun h=>by have h1:a.kind=17:=h;omega)]
 rw [fM.o,fN.o];have HI:=AA hI;clear aY hI hk;go_enter func116,ntmps116;go_upto_region 1 with fail;generalize w.alloc (AO a)=W1 at *
 go_wp2_with (first
  |(go_at_call 162;refine(C9 HE.o.row ⟨a.arg,a.ty,none⟩ (by omega)).mono ?_;rintro e w3 ⟨p3,n3,c3,rfl,dt,bE,hb⟩;have fD:=AA (HE.o.push hb ⟨LR.lies_below hb _ bH.o,HI.o.use,fun _ e=>by cases e⟩ bE);have HB:=bt HB hb;have aE:=AA (aE.o.below hb);have HQ:=AA (HQ.o.below hb);have ax:=AA (ax.o.below hb);have bH:=AA (LR.lies_below hb _ bH.o);have fE:=AA dt;clear hb bE dt)
  |(refine NY a.ty (Ax aE.o 10 4 rfl) underlying28 ?_))
 go_ret2;exact⟨⟨_,_,_,_,_,_,_,rfl,fD.o,rfl,HQ.o,(by have h3:=fE.o;omega),(by omega)⟩,HB.o⟩
theorem Kt{w0 w:World}{S:Nat→Prop}{a:AH}{p q r:Option Addr}{n c m mc rn rc:Nat}{env:List BW}{rhos:List Int}{acc:List RV}{i:Nat}(hI:Hv w0 w S a p n c env q m mc rhos r rn rc acc i)(hk:a.kind=12)(hi:i=1):Calls prog 116 #[.slice p n c,.slice q m mc,Aj a,.int .i64 (i:Int),.slice r rn rc] w (Dx w0 w S n m (Ac (Cv env) a.plain i (Ak acc)) (Ad rhos a.plain i)):=by
 subst hi
 obtain⟨x,rfl⟩:∃x,acc=[x]:=by
  have h:=hI.one hk rfl;match acc,h with
  |[x],_=>exact⟨x,rfl⟩
 have aY:Below w.heap.size w (w.alloc (AO a)):=bA;have HB:=AA aY;have aE:=AA (Aa w a);have HE:=AA (hI.env.below aY);have HQ:=AA (hI.rho.below aY);have ax:=AA (hI.own.rhos.below aY);have bH:=AA (LR.lies_below aY _ hI.own.ty);have bI:=AA (hI.res.below aY);have hn:=hI.hn;have hm:=hI.hm;have d8:=hI.hr;have c0:=aE.o.c 0 _ rfl;have c4:=aE.o.c 4 _ rfl;have e11:=kb hk 11;have e12:=kb hk 12;have e13:=kb hk 13;have e16:=kb hk 16;have e17:=kb hk 17;have fM:Hd (Ac (Cv env) a.plain 1 (Ak [x])=Cv (env++[⟨a.name,x.ty,none⟩])):=by show _=_;unfold Ac;rw [if_neg (show ¬a.plain.kind=11 from fun h=>by have h1:a.kind=11:=h;omega),if_pos ⟨(show a.plain.kind=12 from hk),rfl⟩,Gf];rfl
 have fN:Hd (Ad rhos a.plain 1=rhos):=by show _=_;unfold Ad;rw [if_neg (show ¬(a.plain.kind=13∧1=0) from fun h=>by have h1:a.kind=13:=h.1;omega),if_neg (show ¬a.plain.kind=17 from fun h=>by have h1:a.kind=17:=h;omega)]
 rw [fM.o,fN.o];have HI:=AA hI;obtain⟨b,o,hp,aP,am⟩:=bI.o.row.row.elem (show [x][0]?=some x from rfl);subst hp;have p8:=AA (bI.o.each x (by simp));have pP:rn=1:=bI.o.row.len.symm;subst pP;clear aY hI hk am;go_enter func116,ntmps116;go_upto_region 1 with fail;generalize w.alloc (AO a)=W1 at *
 go_upto_region 6 with fail;refine rg (fun W'=>Below W1.heap.size W1 W') (AC W1) fun aA=>?_;refine tp 0 30 ?_;refine tp 1 31 ?_;refine tp 2 32 ?_;refine tp 3 33 ?_ (hy:=fun w aC=>by(try dsimp only at aC);have q4:=(aE.o.below aC).c 4 _ rfl;go_simp;try with_reducible rfl);refine tp 4 34 ?_;refine tp 5 35 ?_;refine tp 6 36 ?_;refine t4 7 37 x.ty b o (fun W' aC=>Wz (bI.o.below aC).row) ?_;refine tp 8 38 ?_;refine tp 10 40 ?_;refine tr 9 39 fun K hK=>?_;go_simp;go_at_call 162;refine(C9 (HE.o.row.below (AC W1)) ⟨a.name,x.ty,none⟩ (by omega)).mono ?_;rintro e w3 ⟨p3,n3,c3,rfl,dt,bE,hb⟩;have fD:=AA ((HE.o.below (AC W1)).push hb ⟨LR.lies_below (AK (AC W1) hb) _ p8.o.ty,p8.o.uses,fun _ e=>by cases e⟩ bE);have aV:=AA (AK (AC W1) hb);have fE:=AA dt;clear bE dt;try go_wp2_with fail
 refine tn hK (AK aA hb) ?_;clear aA hK K;intro aA;refine tp 11 10 ?_;refine tp 12 11 ?_;refine dn ?_;clear aA;have HQ:=AA (HQ.o.below aV.o);have HB:=AA (HB.o.trans (aV.o.mono HB.o.size));go_wp2_with fail;go_ret2;exact⟨⟨_,_,_,_,_,_,_,rfl,fD.o,rfl,HQ.o,(by have h3:=fE.o;omega),(by omega)⟩,HB.o⟩
theorem Ks{w0 w:World}{S:Nat→Prop}{a:AH}{p q r:Option Addr}{n c m mc rn rc:Nat}{env:List BW}{rhos:List Int}{acc:List RV}{i:Nat}(hI:Hv w0 w S a p n c env q m mc rhos r rn rc acc i)(hk:a.kind=12)(hi:i≠1):Calls prog 116 #[.slice p n c,.slice q m mc,Aj a,.int .i64 (i:Int),.slice r rn rc] w (Dx w0 w S n m (Ac (Cv env) a.plain i (Ak acc)) (Ad rhos a.plain i)):=by
 have aY:Below w.heap.size w (w.alloc (AO a)):=bA;have HB:=AA aY;have aE:=AA (Aa w a);have HE:=AA (hI.env.below aY);have HQ:=AA (hI.rho.below aY);have ax:=AA (hI.own.rhos.below aY);have bH:=AA (LR.lies_below aY _ hI.own.ty);have bI:=AA (hI.res.below aY);have hn:=hI.hn;have hm:=hI.hm;have d8:=hI.hr;have c0:=aE.o.c 0 _ rfl;have e11:=kb hk 11;have e12:=kb hk 12;have e13:=kb hk 13;have e16:=kb hk 16;have e17:=kb hk 17;have i1:((i:Int)==1)=false:=by rw [beq_eq_false_iff_ne];omega
 have i2:decide ((i:Int)=1)=false:=by rw [decide_eq_false_iff_not];omega
 have fM:Hd (Ac (Cv env) a.plain i (Ak acc)=Cv (env)):=by show _=_;unfold Ac;rw [if_neg (show ¬a.plain.kind=11 from fun h=>by have h1:a.kind=11:=h;omega),if_neg (show ¬(a.plain.kind=12∧i=1) from fun h=>by have h1:a.kind=12:=h.1;have h2:=h.2;omega),if_neg (show ¬(a.plain.kind=13∧i=0) from fun h=>by have h1:a.kind=13:=h.1;omega),if_neg (show ¬a.plain.kind=13 from fun h=>by have h1:a.kind=13:=h;omega),if_neg (show ¬(a.plain.kind=16∧i=1) from fun h=>by have h1:a.kind=16:=h.1;have h2:=h.2;omega)]
 have fN:Hd (Ad rhos a.plain i=rhos):=by show _=_;unfold Ad;rw [if_neg (show ¬(a.plain.kind=13∧i=0) from fun h=>by have h1:a.kind=13:=h.1;omega),if_neg (show ¬a.plain.kind=17 from fun h=>by have h1:a.kind=17:=h;omega)]
 rw [fM.o,fN.o];clear aY hI hk;go_enter func116,ntmps116;go_upto_region 1 with fail;generalize w.alloc (AO a)=W1 at *
 go_wp2_with fail;go_ret2;exact⟨⟨_,_,_,_,_,_,_,rfl,HE.o,rfl,HQ.o,(by omega),(by omega)⟩,HB.o⟩
theorem Kw{w0 w:World}{S:Nat→Prop}{a:AH}{p q r:Option Addr}{n c m mc rn rc:Nat}{env:List BW}{rhos:List Int}{acc:List RV}{i:Nat}(hI:Hv w0 w S a p n c env q m mc rhos r rn rc acc i)(hk:a.kind=16)(hi:i≠1):Calls prog 116 #[.slice p n c,.slice q m mc,Aj a,.int .i64 (i:Int),.slice r rn rc] w (Dx w0 w S n m (Ac (Cv env) a.plain i (Ak acc)) (Ad rhos a.plain i)):=by
 have aY:Below w.heap.size w (w.alloc (AO a)):=bA;have HB:=AA aY;have aE:=AA (Aa w a);have HE:=AA (hI.env.below aY);have HQ:=AA (hI.rho.below aY);have ax:=AA (hI.own.rhos.below aY);have bH:=AA (LR.lies_below aY _ hI.own.ty);have bI:=AA (hI.res.below aY);have hn:=hI.hn;have hm:=hI.hm;have d8:=hI.hr;have c0:=aE.o.c 0 _ rfl;have e11:=kb hk 11;have e12:=kb hk 12;have e13:=kb hk 13;have e16:=kb hk 16;have e17:=kb hk 17;have i1:((i:Int)==1)=false:=by rw [beq_eq_false_iff_ne];omega
 have i2:decide ((i:Int)=1)=false:=by rw [decide_eq_false_iff_not];omega
 have fM:Hd (Ac (Cv env) a.plain i (Ak acc)=Cv (env)):=by show _=_;unfold Ac;rw [if_neg (show ¬a.plain.kind=11 from fun h=>by have h1:a.kind=11:=h;omega),if_neg (show ¬(a.plain.kind=12∧i=1) from fun h=>by have h1:a.kind=12:=h.1;have h2:=h.2;omega),if_neg (show ¬(a.plain.kind=13∧i=0) from fun h=>by have h1:a.kind=13:=h.1;omega),if_neg (show ¬a.plain.kind=13 from fun h=>by have h1:a.kind=13:=h;omega),if_neg (show ¬(a.plain.kind=16∧i=1) from fun h=>by have h1:a.kind=16:=h.1;have h2:=h.2;omega)]
 have fN:Hd (Ad rhos a.plain i=rhos):=by show _=_;unfold Ad;rw [if_neg (show ¬(a.plain.kind=13∧i=0) from fun h=>by have h1:a.kind=13:=h.1;omega),if_neg (show ¬a.plain.kind=17 from fun h=>by have h1:a.kind=17:=h;omega)]
 rw [fM.o,fN.o];clear aY hI hk;go_enter func116,ntmps116;go_upto_region 1 with fail;generalize w.alloc (AO a)=W1 at *
 go_wp2_with fail;go_ret2;exact⟨⟨_,_,_,_,_,_,_,rfl,HE.o,rfl,HQ.o,(by omega),(by omega)⟩,HB.o⟩
theorem KH{w0 w:World}{S:Nat→Prop}{a:AH}{p q r:Option Addr}{n c m mc rn rc:Nat}{env:List BW}{rhos:List Int}{acc:List RV}{i:Nat}(hI:Hv w0 w S a p n c env q m mc rhos r rn rc acc i)(k11:a.kind≠11)(k12:a.kind≠12)(k13:a.kind≠13)(k16:a.kind≠16)(k17:a.kind≠17):Calls prog 116 #[.slice p n c,.slice q m mc,Aj a,.int .i64 (i:Int),.slice r rn rc] w (Dx w0 w S n m (Ac (Cv env) a.plain i (Ak acc)) (Ad rhos a.plain i)):=by
 have aY:Below w.heap.size w (w.alloc (AO a)):=bA;have HB:=AA aY;have aE:=AA (Aa w a);have HE:=AA (hI.env.below aY);have HQ:=AA (hI.rho.below aY);have ax:=AA (hI.own.rhos.below aY);have bH:=AA (LR.lies_below aY _ hI.own.ty);have bI:=AA (hI.res.below aY);have hn:=hI.hn;have hm:=hI.hm;have d8:=hI.hr;have c0:=aE.o.c 0 _ rfl;have e11:(a.kind==11)=false:=by simp [k11]
 have e12:(a.kind==12)=false:=by simp [k12]
 have e13:(a.kind==13)=false:=by simp [k13]
 have e16:(a.kind==16)=false:=by simp [k16]
 have e17:(a.kind==17)=false:=by simp [k17]
 have fM:Hd (Ac (Cv env) a.plain i (Ak acc)=Cv (env)):=by show _=_;unfold Ac;rw [if_neg (show ¬a.plain.kind=11 from fun h=>by have h1:a.kind=11:=h;omega),if_neg (show ¬(a.plain.kind=12∧i=1) from fun h=>by have h1:a.kind=12:=h.1;have h2:=h.2;omega),if_neg (show ¬(a.plain.kind=13∧i=0) from fun h=>by have h1:a.kind=13:=h.1;omega),if_neg (show ¬a.plain.kind=13 from fun h=>by have h1:a.kind=13:=h;omega),if_neg (show ¬(a.plain.kind=16∧i=1) from fun h=>by have h1:a.kind=16:=h.1;have h2:=h.2;omega)]
 have fN:Hd (Ad rhos a.plain i=rhos):=by show _=_;unfold Ad;rw [if_neg (show ¬(a.plain.kind=13∧i=0) from fun h=>by have h1:a.kind=13:=h.1;omega),if_neg (show ¬a.plain.kind=17 from fun h=>by have h1:a.kind=17:=h;omega)]
 rw [fM.o,fN.o];clear aY hI k11 k12 k13 k16 k17;go_enter func116,ntmps116;go_upto_region 1 with fail;generalize w.alloc (AO a)=W1 at *
 go_wp2_with fail;go_ret2;exact⟨⟨_,_,_,_,_,_,_,rfl,HE.o,rfl,HQ.o,(by omega),(by omega)⟩,HB.o⟩
theorem Ku{w0 w:World}{S:Nat→Prop}{a:AH}{p q r:Option Addr}{n c m mc rn rc:Nat}{env:List BW}{rhos:List Int}{acc:List RV}{i:Nat}(hI:Hv w0 w S a p n c env q m mc rhos r rn rc acc i)(hk:a.kind=13)(hi:i=0):Calls prog 116 #[.slice p n c,.slice q m mc,Aj a,.int .i64 (i:Int),.slice r rn rc] w (Dx w0 w S n m (Ac (Cv env) a.plain i (Ak acc)) (Ad rhos a.plain i)):=by
 have aY:Below w.heap.size w (w.alloc (AO a)):=bA;have HB:=AA aY;have aE:=AA (Aa w a);have HE:=AA (hI.env.below aY);have HQ:=AA (hI.rho.below aY);have ax:=AA (hI.own.rhos.below aY);have bH:=AA (LR.lies_below aY _ hI.own.ty);have bI:=AA (hI.res.below aY);have hn:=hI.hn;have hm:=hI.hm;have d8:=hI.hr;have c0:=aE.o.c 0 _ rfl;have c4:=aE.o.c 4 _ rfl;have e11:=kb hk 11;have e12:=kb hk 12;have e13:=kb hk 13;have e16:=kb hk 16;have e17:=kb hk 17;have fM:Hd (Ac (Cv env) a.plain i (Ak acc)=Cv (env++[⟨a.name,Vq,some a⟩]++[⟨a.arg,a.ty,none⟩])):=by show _=_;unfold Ac;rw [if_neg (show ¬a.plain.kind=11 from fun h=>by have h1:a.kind=11:=h;omega),if_neg (show ¬(a.plain.kind=12∧i=1) from fun h=>by have h1:a.kind=12:=h.1;omega),if_pos ⟨(show a.plain.kind=13 from hk),hi⟩,Gf,Gf,List.append_assoc];rfl
 have fN:Hd (Ad rhos a.plain i=rhos++a.rhos):=by show _=_;unfold Ad;exact if_pos ⟨(show a.plain.kind=13 from hk),hi⟩
 rw [fM.o,fN.o];have i1:((i:Int)==0)=true:=by simp [hi]
 have i2:decide ((i:Int)=0)=true:=by simp [hi]
 have HI:=AA hI;clear aY hI hk hi;go_enter func116,ntmps116;go_upto_region 1 with fail;generalize w.alloc (AO a)=W1 at *
 go_upto_region 10 with(first
  |(go_at_call 162;refine(C9 HE.o.row ⟨a.name,Vq,some a⟩ (by omega)).mono ?_;rintro e w3 ⟨p3,n3,c3,rfl,dt,bE,hb⟩;have fD:=AA (HE.o.push hb (Ss HI.o.own0) bE);have HB:=bt HB hb;have aE:=AA (aE.o.below hb);have HQ:=AA (HQ.o.below hb);have ax:=AA (ax.o.below hb);have bH:=AA (LR.lies_below hb _ bH.o);have fE:=AA dt;clear hb bE dt)
  |(refine lw aE.o.blk underlying31 ?_))
 have HE:=fD;refine rg (fun W'=>Below w3.heap.size w3 W') (AC w3) fun aA=>?_;refine tp 0 52 ?_;refine tp 1 53 ?_;refine tp 2 54 ?_;refine tp 3 55 ?_ (hy:=fun w aC=>by(try dsimp only at aC);have q5:=(aE.o.below aC).c 5 _ rfl;go_simp;try with_reducible rfl);refine tp 4 56 ?_;refine t4 5 57 a.ty w.heap.size 10 (fun W' aC=>Ax (aE.o.below aC) 10 4 rfl) ?_;refine tp 6 58 ?_;refine tp 8 60 ?_;refine tp 9 61 ?_;refine tp 10 62 ?_ (hy:=fun w aC=>by(try dsimp only at aC);have q8:=(aE.o.below aC).c 8 _ rfl;go_simp;try with_reducible rfl);refine tr 7 59 fun K hK=>?_;go_simp;go_at_call 162;refine(C9 (HE.o.row.below (AC w3)) ⟨a.arg,a.ty,none⟩ (by have h3:=fE.o;omega)).mono ?_;rintro e w5 ⟨p5,n5,c5,rfl,nn,cK,hb⟩;have cv:=AA ((HE.o.below (AC w3)).push hb ⟨LR.lies_below (AK (AC w3) hb) _ bH.o,HI.o.use,fun _ e=>by cases e⟩ cK);have aw:=AA (AK (AC w3) hb);have rd:=AA nn;clear cK nn;try go_wp2_with fail
 refine tn hK (AK aA hb) ?_;clear aA hK K;intro aA;refine tr 11 63 fun K hK=>?_;go_simp;go_at_call 154;refine(C8 (HQ.o.below aw.o) (ax.o.below aw.o) (by omega) (by omega)).mono ?_;rintro e w6 ⟨q6,m6,c6,rfl,ic,gQ,hb⟩;have fu:=AA gQ;have db:=AA (cv.o.below hb);have fm:=AA (AK aw.o hb);have lx:=AA ic;clear gQ ic;try go_wp2_with fail
 refine tn hK (AK aA hb) ?_;clear aA hK K;intro aA;refine tp 12 10 ?_;refine tp 13 11 ?_;refine dn ?_;clear aA;have HB:=AA (HB.o.trans (fm.o.mono HB.o.size));go_wp2_with fail;go_ret2;exact⟨⟨_,_,_,_,_,_,_,rfl,db.o,rfl,fu.o,(by have h3:=fE.o;have h5:=rd.o;omega),(by have h6:=lx.o;omega)⟩,HB.o⟩
theorem Kv{w0 w:World}{S:Nat→Prop}{a:AH}{p q r:Option Addr}{n c m mc rn rc:Nat}{env:List BW}{rhos:List Int}{acc:List RV}{i:Nat}(hI:Hv w0 w S a p n c env q m mc rhos r rn rc acc i)(hk:a.kind=13)(hi:i≠0):Calls prog 116 #[.slice p n c,.slice q m mc,Aj a,.int .i64 (i:Int),.slice r rn rc] w (Dx w0 w S n m (Ac (Cv env) a.plain i (Ak acc)) (Ad rhos a.plain i)):=by
 have aY:Below w.heap.size w (w.alloc (AO a)):=bA;have HB:=AA aY;have aE:=AA (Aa w a);have HE:=AA (hI.env.below aY);have HQ:=AA (hI.rho.below aY);have ax:=AA (hI.own.rhos.below aY);have bH:=AA (LR.lies_below aY _ hI.own.ty);have bI:=AA (hI.res.below aY);have hn:=hI.hn;have hm:=hI.hm;have d8:=hI.hr;have c0:=aE.o.c 0 _ rfl;have c4:=aE.o.c 4 _ rfl;have e11:=kb hk 11;have e12:=kb hk 12;have e13:=kb hk 13;have e16:=kb hk 16;have e17:=kb hk 17;have fM:Hd (Ac (Cv env) a.plain i (Ak acc)=Cv (env++[⟨a.name,Vq,some a⟩])):=by show _=_;unfold Ac;rw [if_neg (show ¬a.plain.kind=11 from fun h=>by have h1:a.kind=11:=h;omega),if_neg (show ¬(a.plain.kind=12∧i=1) from fun h=>by have h1:a.kind=12:=h.1;omega),if_neg (show ¬(a.plain.kind=13∧i=0) from fun h=>by have h1:=h.2;omega),if_pos (show a.plain.kind=13 from hk),Gf];rfl
 have fN:Hd (Ad rhos a.plain i=rhos):=by show _=_;unfold Ad;rw [if_neg (show ¬(a.plain.kind=13∧i=0) from fun h=>by have h1:=h.2;omega),if_neg (show ¬a.plain.kind=17 from fun h=>by have h1:a.kind=17:=h;omega)]
 rw [fM.o,fN.o];have i1:((i:Int)==0)=false:=by rw [beq_eq_false_iff_ne];omega
 have i2:decide ((i:Int)=0)=false:=by rw [decide_eq_false_iff_not];omega
 have HI:=AA hI;clear aY hI hk hi;go_enter func116,ntmps116;go_upto_region 1 with fail;generalize w.alloc (AO a)=W1 at *
 go_wp2_with (first
  |(go_at_call 162;refine(C9 HE.o.row ⟨a.name,Vq,some a⟩ (by omega)).mono ?_;rintro e w3 ⟨p3,n3,c3,rfl,dt,bE,hb⟩;have fD:=AA (HE.o.push hb (Ss HI.o.own0) bE);have HB:=bt HB hb;have aE:=AA (aE.o.below hb);have HQ:=AA (HQ.o.below hb);have ax:=AA (ax.o.below hb);have bH:=AA (LR.lies_below hb _ bH.o);have fE:=AA dt;clear hb bE dt)
  |(refine lw aE.o.blk underlying31 ?_))
 go_ret2;exact⟨⟨_,_,_,_,_,_,_,rfl,fD.o,rfl,HQ.o,(by have h3:=fE.o;omega),(by omega)⟩,HB.o⟩
theorem Kx{w0 w:World}{S:Nat→Prop}{a:AH}{p q r:Option Addr}{n c m mc rn rc:Nat}{env:List BW}{rhos:List Int}{acc:List RV}{i:Nat}(hI:Hv w0 w S a p n c env q m mc rhos r rn rc acc i)(hk:a.kind=16)(hi:i=1):Calls prog 116 #[.slice p n c,.slice q m mc,Aj a,.int .i64 (i:Int),.slice r rn rc] w (Dx w0 w S n m (Ac (Cv env) a.plain i (Ak acc)) (Ad rhos a.plain i)):=by
 have aY:Below w.heap.size w (w.alloc (AO a)):=bA;have HB:=AA aY;have aE:=AA (Aa w a);have HE:=AA (hI.env.below aY);have HQ:=AA (hI.rho.below aY);have ax:=AA (hI.own.rhos.below aY);have bH:=AA (LR.lies_below aY _ hI.own.ty);have bI:=AA (hI.res.below aY);have hn:=hI.hn;have hm:=hI.hm;have d8:=hI.hr;have c0:=aE.o.c 0 _ rfl;have e11:=kb hk 11;have e12:=kb hk 12;have e13:=kb hk 13;have e16:=kb hk 16;have e17:=kb hk 17;have fM:Hd (Ac (Cv env) a.plain i (Ak acc)=Cv (env++[⟨a.arg,A0,none⟩])):=by show _=_;unfold Ac;rw [if_neg (show ¬a.plain.kind=11 from fun h=>by have h1:a.kind=11:=h;omega),if_neg (show ¬(a.plain.kind=12∧i=1) from fun h=>by have h1:a.kind=12:=h.1;omega),if_neg (show ¬(a.plain.kind=13∧i=0) from fun h=>by have h1:a.kind=13:=h.1;omega),if_neg (show ¬a.plain.kind=13 from fun h=>by have h1:a.kind=13:=h;omega),if_pos ⟨(show a.plain.kind=16 from hk),hi⟩,Gf];rfl
 have fN:Hd (Ad rhos a.plain i=rhos):=by show _=_;unfold Ad;rw [if_neg (show ¬(a.plain.kind=13∧i=0) from fun h=>by have h1:a.kind=13:=h.1;omega),if_neg (show ¬a.plain.kind=17 from fun h=>by have h1:a.kind=17:=h;omega)]
 rw [fM.o,fN.o];have i1:((i:Int)==1)=true:=by simp [hi]
 have i2:decide ((i:Int)=1)=true:=by simp [hi]
 have HI:=AA hI;clear aY hI hk hi;go_enter func116,ntmps116;go_upto_region 1 with fail;generalize w.alloc (AO a)=W1 at *
 go_upto_region 14 with fail;refine rg (fun W'=>Below W1.heap.size W1 W') (AC W1) fun aA=>?_;refine tp 0 70 ?_;refine tp 1 71 ?_;refine tp 2 72 ?_;refine tp 3 73 ?_ (hy:=fun w aC=>by(try dsimp only at aC);have q5:=(aE.o.below aC).c 5 _ rfl;go_simp;try with_reducible rfl);refine tp 7 77 ?_;refine tr 4 74 fun K hK=>?_;go_simp;go_at_call 163;refine(DU _).mono ?_;rintro e w2 ⟨rfl,hb⟩;have aK:=AA (AK (AC W1) hb);try go_wp2_with fail
 refine tn hK (AK aA hb) ?_;clear aA hK K;intro aA;refine tp 5 75 ?_;refine tr 6 76 fun K hK=>?_;go_simp;go_at_call 162;refine(C9 (HE.o.row.below aK.o) ⟨a.arg,A0,none⟩ (by omega)).mono ?_;rintro e w3 ⟨p3,n3,c3,rfl,dt,bE,hb⟩;have fD:=AA ((HE.o.below aK.o).push hb (T9 _ _ _ _) bE);have aV:=AA (AK aK.o hb);have fE:=AA dt;clear bE dt;try go_wp2_with fail
 refine tn hK (AK aA hb) ?_;clear aA hK K;intro aA;refine tp 8 10 ?_;refine tp 9 11 ?_;refine dn ?_;clear aA;have HQ:=AA (HQ.o.below aV.o);have HB:=AA (HB.o.trans (aV.o.mono HB.o.size));go_wp2_with fail;go_ret2;exact⟨⟨_,_,_,_,_,_,_,rfl,fD.o,rfl,HQ.o,(by have h3:=fE.o;omega),(by omega)⟩,HB.o⟩
theorem Jg{w0 w:World}{S:Nat→Prop}{a:AH}{p q r:Option Addr}{n c m mc rn rc:Nat}{env:List BW}{rhos:List Int}{acc:List RV}{i:Nat}(hI:Hv w0 w S a p n c env q m mc rhos r rn rc acc i)(hk:a.kind=17):Calls prog 116 #[.slice p n c,.slice q m mc,Aj a,.int .i64 (i:Int),.slice r rn rc] w (Dx w0 w S n m (Ac (Cv env) a.plain i (Ak acc)) (Ad rhos a.plain i)):=by
 have aY:Below w.heap.size w (w.alloc (AO a)):=bA;have HB:=AA aY;have aE:=AA (Aa w a);have HE:=AA (hI.env.below aY);have HQ:=AA (hI.rho.below aY);have ax:=AA (hI.own.rhos.below aY);have bH:=AA (LR.lies_below aY _ hI.own.ty);have bI:=AA (hI.res.below aY);have hn:=hI.hn;have hm:=hI.hm;have d8:=hI.hr;have c0:=aE.o.c 0 _ rfl;have c7:=aE.o.c 7 _ rfl;have e11:=kb hk 11;have e12:=kb hk 12;have e13:=kb hk 13;have e16:=kb hk 16;have e17:=kb hk 17;have fM:Hd (Ac (Cv env) a.plain i (Ak acc)=Cv (env)):=by show _=_;unfold Ac;rw [if_neg (show ¬a.plain.kind=11 from fun h=>by have h1:a.kind=11:=h;omega),if_neg (show ¬(a.plain.kind=12∧i=1) from fun h=>by have h1:a.kind=12:=h.1;have h2:=h.2;omega),if_neg (show ¬(a.plain.kind=13∧i=0) from fun h=>by have h1:a.kind=13:=h.1;omega),if_neg (show ¬a.plain.kind=13 from fun h=>by have h1:a.kind=13:=h;omega),if_neg (show ¬(a.plain.kind=16∧i=1) from fun h=>by have h1:a.kind=16:=h.1;have h2:=h.2;omega)]
 have fN:Hd (Ad rhos a.plain i=rhos++[a.rho]):=by show _=_;unfold Ad;rw [if_neg (show ¬(a.plain.kind=13∧i=0) from fun h=>by have h1:a.kind=13:=h.1;omega),if_pos (show a.plain.kind=17 from hk)];rfl
 rw [fM.o,fN.o];clear aY hI hk;go_enter func116,ntmps116;go_upto_region 1 with fail;generalize w.alloc (AO a)=W1 at *
 go_wp2_with (first
  |(go_at_call 154;refine(C8 (HQ.o.alloc _) (Al Ag (by omega) W1 3 [a.rho] 1 #[.int .i64 a.rho] rfl rfl (by decide)) (by omega) (by omega)).mono ?_;rintro e w6 ⟨q6,m6,c6,rfl,ic,gQ,hb⟩;have fu:=AA gQ;have lJ:Hd (Below W1.heap.size W1 (W1.alloc (.cells #[.int .i64 a.rho] 3))):=bA;have HE:=AA ((HE.o.below lJ.o).below hb);have HB:=AA ((AQ HB.o _).trans (hb.mono (AQ HB.o _).size));have lx:=AA ic;clear hb gQ ic))
 go_ret2;exact⟨⟨_,_,_,_,_,_,_,rfl,HE.o,rfl,fu.o,(by omega),(by have h6:=lx.o;omega)⟩,HB.o⟩
theorem Lr{w0 w:World}{S:Nat→Prop}{a:AH}{p q r:Option Addr}{n c m mc rn rc:Nat}{env:List BW}{rhos:List Int}{acc:List RV}{i:Nat}(hI:Hv w0 w S a p n c env q m mc rhos r rn rc acc i) :Calls prog 116 #[.slice p n c,.slice q m mc,Aj a,.int .i64 (i:Int),.slice r rn rc] w (Dx w0 w S n m (Ac (Cv env) a.plain i (Ak acc)) (Ad rhos a.plain i)):=by
 by_cases k11:a.kind=11
 ·exact M4 hI k11
 by_cases k12:a.kind=12
 ·by_cases hi:i=1
  ·exact Kt hI k12 hi
  ·exact Ks hI k12 hi
 by_cases k13:a.kind=13
 ·by_cases hi:i=0
  ·exact Ku hI k13 hi
  ·exact Kv hI k13 hi
 by_cases k16:a.kind=16
 ·by_cases hi:i=1
  ·exact Kx hI k16 hi
  ·exact Kw hI k16 hi
 by_cases k17:a.kind=17
 ·exact Jg hI k17
 exact KH hI k11 k12 k13 k16 k17
section
open Go.Sort Go.Lib
def Gq(N:Nat)(p1:Option Addr)(n1 c1:Nat)(f:List Int)(p2:Option Addr)(n2 c2:Nat)(t:List Int)(x:PT)(W:World):Prop:=Calls prog 158 #[Ci x.head,.slice p1 n1 c1,.slice p2 n2 c2] W (Oi N f t x W)
abbrev Ip(w:World)(a:RH)(z:Int):World:=((w.alloc (Fw a)).alloc Kh).alloc (.cells #[.int .u8 a.kind,.int .i64 z,.slice a.ep a.en a.ec,.slice a.kp a.kn a.kc] 28)
theorem Ne(w:World)(a:RH)(z:Int):Below w.heap.size w (Ip w a z):=(((Below.refl w.heap.size w).alloc (Nat.le_refl _) _).alloc (by simp) _).alloc (by simp;omega) _
theorem S7(w:World)(a:RH)(z:Int):Dk (Ip w a z) w.heap.size (.int .u8 a.kind) (.int .i64 a.rho) (.slice a.ep a.en a.ec) (.slice a.kp a.kn a.kc):=by refine Dk.below (w:=w.alloc (Fw a)) ?_ (bA.alloc (by simp) _);exact Gb w _ _ _ _
theorem S8(w:World)(a:RH)(z:Int):Dk (Ip w a z) (w.heap.size+1) (.int .u8 0) (.int .i64 0) (.slice none 0 0) (.slice none 0 0):=by refine Dk.below (w:=(w.alloc (Fw a)).alloc Kh) ?_ bA;have:=Gb (w.alloc (Fw a)) (.int .u8 0) (.int .i64 0) (.slice none 0 0) (.slice none 0 0);simpa using this
theorem S9(w:World)(a:RH)(z:Int):Dk (Ip w a z) (w.heap.size+1+1) (.int .u8 a.kind) (.int .i64 z) (.slice a.ep a.en a.ec) (.slice a.kp a.kn a.kc):=by have:=Gb ((w.alloc (Fw a)).alloc Kh) (.int .u8 a.kind) (.int .i64 z) (.slice a.ep a.en a.ec) (.slice a.kp a.kn a.kc);simpa using this
theorem No{N:Nat}{a:RH}{l:List PT}{w:World}{p1:Option Addr}{n1 c1:Nat}{f:List Int}{p2:Option Addr}{n2 c2:Nat}{t:List Int}(hN:BK w a l)(mF:N≤w.heap.size)(he:a.eff≠[]→∀ad,a.ep=some ad→ad.block<N)(lW:a.en≤1000)(h2:Vs w p1 n1 c1 f p2 n2 c2 t)(hl:a.kn≤1000)(hf:∀x∈l,∀W,Below w.heap.size w W→Gq N p1 n1 c1 f p2 n2 c2 t x W):Gq N p1 n1 c1 f p2 n2 c2 t (.node a l) w:=by
 have HN:=AA hN;have HF:=AA hf;have H2:=AA h2;have HE:=AA he;have bL:=AA mF;have dr:=hN.own.kmax;have hX:=h2.m1;have jC:=h2.m2;have aJ:=AA (Jy w a);have lQ:=AA (P9 w a);have kY:=AA (QA w a);have ah:=AA (QB w a);show Calls _ _ #[Ci a,.slice p1 n1 c1,.slice p2 n2 c2] w _;clear hN hf h2 he mF;go_enter func158,ntmps158;go_upto_if 12 with fail;go_cut [] from 9 to 24 (fun wx=>∃(z:Int) (ep:Option Addr) (en ec:Nat) (eff:List AD),S3 N w.heap.size w wx a f t z ep en ec eff∧Dk wx (w.heap.size+1+1) (.int .u8 a.kind) (.int .i64 z) (.slice ep en ec) (.slice a.kp a.kn a.kc))
 case first=>
  by_cases cQ:a.kind=1
  ·have kM:=AA cQ;have b1:(a.kind != 1)=false:=by simpa using cQ
   clear cQ;go_wp2_with fail;go_meet
   case rel=>exact⟨a.rho,a.ep,a.en,a.ec,a.eff,⟨lQ.o,kY.o,by simp,aJ.o,HN.o.own.eff.below aJ.o,fun he ad hp=>⟨.inl (HE.o he ad hp),by have:=HE.o he ad hp;have:=bL.o;simp;omega⟩,by unfold Q3;rw [if_pos (show a.plain.kind=1 from kM.o)];rfl⟩,ah.o⟩
  ·have kM:=AA cQ;have b1:(a.kind != 1)=true:=by simpa using cQ
   have jF:=AA (H2.o.below aJ.o);obtain⟨x0,x1,x2,x3,x4,x5,x6,x7⟩:=ah.o.cells;obtain⟨y0,y1,y2,y3,y4,y5,y6,y7⟩:=lQ.o.cells;have pS:(IB w a).heap.size=w.heap.size+3:=by simp
   have lB:w.heap.size+1+1<(IB w a).heap.size:=by omega
   clear cQ;go_wp2_with fail;refine(KQ a.rho p1 n1 c1 f p2 n2 c2 t (IB w a) jF.o.rf.len (by omega) jF.o.rf.row jF.o.rt.len (by omega) jF.o.rt.row).mono ?_;rintro e w1 ⟨rfl,rfl⟩;go_wp2_with fail;have iS:=AA (S7 w a (BS a.rho f t));have mD:=AA (S8 w a (BS a.rho f t));have ge:=AA (S9 w a (BS a.rho f t));have ek:=AA (Ne w a (BS a.rho f t));have aU:(Ip w a (BS a.rho f t)).heap.size=w.heap.size+3:=by simp
   clear x0 x1 x2 x3 x4 x5 x6 x7 y0 y1 y2 y3 y4 y5 y6 y7 pS lB;have aq:=AA (HN.o.own.eff.below ek.o);have nP:=AA (H2.o.below ek.o);obtain⟨y0,y1,y2,y3,y4,y5,y6,y7⟩:=iS.o.cells;refine(KO a.ep a.en a.ec a.eff p1 n1 c1 f p2 n2 c2 t (Ip w a (BS a.rho f t)) aq.o.len (by omega) aq.o.row nP.o.rf.len hX nP.o.rf.row nP.o.rt.len jC nP.o.rt.row).mono ?_;rintro e w2 ⟨⟨q,m,qc,rfl,aD⟩,hb⟩;have jS:Below w.heap.size w w2:=ek.o.trans (hb.mono ek.o.size);have aR:=AA (ge.o.below hb);have ds:=aR.o.lt;have bn:=AL w2 (w.heap.size+1+1) 2 (.slice q m qc);have jE:Kb f t a.eff≠[]→∀ad,q=some ad→w.heap.size+3≤ad.block∧ad.block<w2.heap.size:=fun he ad hp=>⟨by have:=aD.far ad hp;omega,Bf aD.row.row he hp⟩
   have cN:Hd (S3 N w.heap.size w (w2.setCell ⟨w.heap.size+1+1,2,none⟩ (.slice q m qc)) a f t (BS a.rho f t) q m qc (Kb f t a.eff)):=S3.grown
    ⟨iS.o.below hb,mD.o.below hb,by omega,jS,aD.row,fun he ad hp=>by have:=jE he ad hp;omega,by unfold Q3;rw [if_neg (show ¬a.plain.kind=1 from kM.o)];rfl⟩ bn (fun b hb=>by cases hb;omega) (fun he ad hp e=>by have:=jE he ad hp;injection e with e;omega)
   have dK:=AA (P7 aR.o (.slice q m qc));obtain⟨x0,x1,x2,x3,x4,x5,x6,x7⟩:=aR.o.cells;clear hb aD jS bn jE y0 y1 y2 y3 y4 y5 y6 y7;obtain⟨y0,y1,y2,y3,y4,y5,y6,y7⟩:=iS.o.cells;clear y0 y1 y2 y3 y4 y5 y6 y7;go_wp2_with fail;go_meet
   case rel=>exact⟨_,_,_,_,_,cN.o,dK.o⟩
 case rest=>
  obtain⟨z,ep,en,ec,eff,hr,bQ⟩:=hcut;have HR:=AA hr;have aK:=AA bQ;clear hr bQ;have aU:=HR.o.size;have bS:Below wc.heap.size wc (wc.alloc (.cells #[] 28)):=bA;have rx:=AA (HR.o.drop bS);have lJ:=AA (aK.o.below bS);have HO:=AA (AJ.lit LR.encT wc (w.heap.size+3) 28 4 aU);have bn:=AL (wc.alloc (.cells #[] 28)) (w.heap.size+1+1) 3 (.slice (some ⟨wc.heap.size,0,none⟩) 0 0);have nY:Hd (UL N w.heap.size w ((wc.alloc (.cells #[] 28)).setCell ⟨w.heap.size+1+1,3,none⟩ (.slice (some ⟨wc.heap.size,0,none⟩) 0 0)) a f t z ep en ec eff (.slice (some ⟨wc.heap.size,0,none⟩) 0 0) 0 []):=⟨HO.o.other bn (fun b hb e=>by have h1:=Option.some.inj hb;have h2:=Option.some.inj e;dsimp only at h1;omega),rx.o.grown bn (fun b hb=>by cases hb;omega) (fun he ad hp e=>by have h:=HR.o.span he ad hp;have:=bL.o;injection e with e;omega),JU lJ.o _,(fun he ad hp e=>by have h:=HR.o.span he ad hp;have h1:=Option.some.inj e;dsimp only at h1;omega),(fun y hy=>by cases hy)⟩;obtain⟨x0,x1,x2,x3,x4,x5,x6,x7⟩:=lJ.o.cells;have ds:=lJ.o.lt;clear bS bn;go_upto_region 6 with fail;clear x0 x1 x2 x3 x4 x5 x6 x7 ds;generalize (wc.alloc (.cells #[] 28)).setCell ⟨w.heap.size+1+1,3,none⟩ (.slice (some ⟨wc.heap.size,0,none⟩) 0 0)=W1 at *
  generalize Value.slice (some ⟨wc.heap.size,0,none⟩) 0 0=v0 at *
  obtain⟨y0,y1,y2,y3,y4,y5,y6,y7⟩:=nY.o.r.b0.cells;go_wp2_with fail;clear y0 y1 y2 y3 y4 y5 y6 y7;go_loopw [8,30] (fun _ i wr=>∃(k:Nat) (v:Value) (ys:List PT),k≤a.kn∧i=.int .i64 k∧UL N w.heap.size w wr a f t z ep en ec eff v k ys∧ys.map PT.er=(l.take k).map (fun x=>Bz f t (PT.er x))) (fun _ i _=>a.kn-(intOf i).toNat)
  case atStart=>exact⟨0,_,[],by omega,rfl,nY.o,by simp⟩
  case round=>
   obtain⟨k,v,ys,hk,rfl,nD,ky⟩:=hrel;have cN:=AA nD;have ll:=AA ky;clear nD ky;have HB:=AA cN.o.r.below;by_cases aF:k<a.kn
   ·obtain⟨x,hx⟩:=HN.o.rowT.at (j:=k) aF;have lL:=AA hx;obtain⟨g,o,bF,aP,d0,d1,d2,d3⟩:=(HN.o.rowT.below HB.o).kid hx;have oK:Hd (∀W,Below wr.heap.size wr W→Gq N p1 n1 c1 f p2 n2 c2 t x W):=fun W h=>HF.o x (List.mem_of_getElem? hx) W (cN.o.r.below.trans (h.mono HB.o.size));obtain⟨x0,x1,x2,x3,x4,x5,x6,x7⟩:=cN.o.b2.cells;obtain⟨y0,y1,y2,y3,y4,y5,y6,y7⟩:=cN.o.r.b0.cells;rw [bF] at y3;have i0:(0:Int)≤(k:Int):=by omega
    have i1:(k:Int)<(a.kn:Int):=by omega
    have l0:Hd (∀g,g<w.heap.size+3→v.ownBlock≠some g):=fun g hg h=>by have:=AJ.from cN.o.own g h;omega
    clear hx bF aP y0 y1 y2 y4 y5 y6 y7;go_wp2_with fail
    go_region_law (first
     |(
      refine BC (by rfl) _ _ 26 (by rfl) (w.heap.size+3) 28 _ 4 64 underlying26 WX rfl (by decide) LR.encT Hi WS [y] ys k v (A5 dV.o.own _) _ 1 _ (by rfl) (by rfl) rfl (by intro h;cases h) gG.o.row (by omega) (by omega) (by simp;have:=dV.o.r.size;omega) ?_;intro v3 w3 aX bM gO;obtain⟨p3,c3,rfl,bP⟩:=AJ.isRow Hi (by omega) aX;obtain⟨x0,x1,x2,x3,x4,x5,x6,x7⟩:=((dV.o.b2.below ((Below.refl _ w2).alloc (Nat.le_refl _) _)).grown bM (l0.o _ (by omega))).cells)
     |(
      go_simp;go_at_call 158;refine(oK.o _ (by first|exact⟨rfl,rfl,rfl,Nat.le_refl _,fun _ _=>rfl⟩)).mono ?_;rintro e w2 ⟨⟨y,rfl,gj,iC,gN⟩,bQ⟩;have iT:Below wr.heap.size wr w2:=AK (AC wr) bQ;have dV:=AA (cN.o.drop iT);have gG:=AA (Al Hi (by omega) w2 28 [y] 1 #[.int .u8 y.head.kind,.int .i64 y.head.rho,.slice y.head.ep y.head.en y.head.ec,.slice y.head.kp y.head.kn y.head.kc] rfl rfl (by decide));have ds:w.heap.size+1+1<w2.heap.size:=dV.o.b2.lt;obtain⟨x0,x1,x2,x3,x4,x5,x6,x7⟩:=dV.o.b2.cells;go_wp2_with fail))
    all_goals (
     have hA:=(Below.refl _ w2).alloc (Nat.le_refl _) (.cells #[.int .u8 y.head.kind,.int .i64 y.head.rho,.slice y.head.ep y.head.en y.head.ec,.slice y.head.kp y.head.kn y.head.kc] 28)
     have cj:=AA ((dV.o.drop hA).add (LR.lies_below hA y gj) (fun a ha=>⟨fun ad hp e=>by have h1:=((iC a ha).1 ad hp).1;have h5:=AJ.under cN.o.own _ e;simp at h1;omega,fun he ad hp e=>by
      have h1:=((iC a ha).2 he ad hp).1;have h5:=AJ.under cN.o.own _ e;have h6:=AJ.from cN.o.own _ e;have:=bL.o;simp at h1;omega⟩) (iC.mono (by have:=cN.o.r.size;simp;omega) (by simp)) aX bM gO bL.o)
     have kJ:Hd ((ys++[y]).map PT.er=(l.take (k+1)).map (fun x=>Bz f t (PT.er x))):=by show _=_;rw [AI lL.o,List.map_append,List.map_append,ll.o];simp [gN]
     clear hA aX bM gO bQ iT gj iC gN bP x0 x1 x2 x3 x4 x5 x6 x7)
    all_goals (
     go_wp2_with fail;go_roundw
     case rel=>exact⟨k+1,_,ys++[y],by omega,by go_num,cj.o,kJ.o⟩
     case measure=>simp [intOf];omega)
   ·obtain⟨p',c',rfl,aD⟩:=cN.o.own.isRow Hi (by omega);have ao:k=a.kn:=by omega
    have HS:=AA (P6 cN.o.r.b1 (.int .u8 a.kind) (.int .i64 z) (.slice ep en ec) (.slice p' k c'));have kI:=AA (Q4 (l:=l) cN.o bL.o (by rw [ao];exact HN.o.kids.len.symm) HN.o.own H2.o.ok (by omega) ll.o HS.o.2);obtain⟨x0,x1,x2,x3,x4,x5,x6,x7⟩:=cN.o.b2.cells;obtain⟨y0,y1,y2,y3,y4,y5,y6,y7⟩:=cN.o.r.b1.cells;clear aD ao;go_wp2_with fail;(try simp only [Exit.inBlock,Exit.then]);refine br HS.o.1.blk underlying28 ?_;exact kI.o
theorem LX{w0:World}{p1:Option Addr}{n1 c1:Nat}{f:List Int}{p2:Option Addr}{n2 c2:Nat}{t:List Int}(h2:Vs w0 p1 n1 c1 f p2 n2 c2 t)(x:PT):LR.lies w0 x→BG x.er=true→x.size≤1000→∀W,Below w0.heap.size w0 W→Gq w0.heap.size p1 n1 c1 f p2 n2 c2 t x W:=by
 refine AG.ind (P:=fun(x:PT)=>LR.lies w0 x→BG x.er=true→x.size≤1000→∀W,Below w0.heap.size w0 W→Gq w0.heap.size p1 n1 c1 f p2 n2 c2 t x W) (fun a l ih=>?_) x;intro hl he hs W hW;have HN:=BD hl;rw [PT.er_node,Bi,Bool.and_eq_true,List.all_map,List.all_eq_true] at he;have aU:C4 l+1=(AG.node a l).size:=GG (.node a l);have aG:=Dg (show BU a.eff=false by simpa [RH.plain] using he.1);refine No (HN.below hW) hW.size (fun aS ad hp=>?_) (by have:=HN.own.eff.len;omega) (h2.below hW) ?_ (fun x hx W' mJ=>ih x hx (HN.each x hx) (he.2 x hx) ?_ W' (hW.trans (mJ.mono hW.size)))
 ·rcases HN.own.eff.row with h|⟨b,o,lE,hb,_⟩
  ·exact absurd h aS
  ·rw [lE] at hp;cases hp;exact hb
 ·have h1:=Sd l;have h2:=HN.kids.len;omega
 ·have h2:x.size≤C4 l:=BN (List.mem_map_of_mem hx);omega
end
end Go.Proofs.YtkdjnegfnhldpaaGreatDoor
