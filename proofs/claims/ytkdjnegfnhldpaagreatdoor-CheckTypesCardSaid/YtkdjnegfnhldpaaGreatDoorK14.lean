/- Part 14. -/
import Derived.Test.YtkdjnegfnhldpaaGreatDoorK12
set_option linter.unusedVariables false
set_option maxRecDepth 100000
set_option linter.unusedSimpArgs false
set_option maxHeartbeats 40000000
set_option autoImplicit true
set_option relaxedAutoImplicit true
namespace Go.Proofs.YtkdjnegfnhldpaaGreatDoor
open Go.Proofs.Tryz Go.RowKit
theorem ZAP(hE:Gl w0 w S p n c env)(hq:Ax DE 1 w q m mc rhos)(ha:AH.Own w a)(cf:AH.Own w0 a)(hS:∀b,w.heap.size<=b->S b)(cU:∀b∈Dy a.ty,S b)(hn:n<=900000)(hm:m<=900000)(hk:a.kind=11):Calls prog 98 #[.agg #[.slice p n c,.slice q m mc],DP a,.int .i64 i,.slice r rn rc] w (Pz w0 w S n m (Ck (Gg env) a.plain i.toNat (Em acc)) (DM rhos a.plain i.toNat)):=by
 have HX:=AF (JO w a (.slice p n c) (.slice q m mc));have HE:=AF hE;have HQ:=AF hq;have HA:=AF ha;have dz:=AF cf;have HS:=AF hS;have HT:=AF cU;have bg:=HX.o.b.b1.c 0 _ rfl;have e11:(a.kind==11)=true:=by simp [hk]
 have eq:Hd (Ck (Gg env) a.plain i.toNat (Em acc)=Gg env++[⟨a.arg,a.ty.er,none⟩]):=by show _=_;unfold Ck;simp [show a.plain.kind=11 from hk];try first|rfl|exact⟨rfl,rfl⟩
 have co:Hd (DM rhos a.plain i.toNat=rhos):=by show _=_;unfold DM;simp [show a.plain.kind=11 from hk]
 rw [eq.o,co.o];clear hE hq ha cf hS cU hk;have nR:=HX.o.b.b1.c 5 _ rfl;go_enter func98,ntmps98;go_upto_region 2 with fail;generalize (((w.alloc (.cells #[.slice p n c,.slice q m mc] 84)).alloc (Bt a)).alloc (.cells #[.slice none 0 0,.slice none 0 0] 84))=W1 at *
 go_wp2_with (first
  |(refine lw HX.o.b.b0 underlying84 ?_)
  |(refine l4 a.ty (Fw HX.o.b.b1 10 4 rfl) underlying28 ?_))
 refine(GH (HE.o.row.below (Ay HX.o.below _)) q m mc (Bo Ig (by omega) W1 145 [⟨a.arg,a.ty,none⟩] 1 _ rfl rfl (by decide)) (by omega)).mono ?_;rintro e w2 ⟨p',c',rfl,aC,hb,cM⟩;have aQ:=AF (HX.o.step (An (Ay (AA _ _) _) hb));have bQ:=AF aC;have ea:=AF cM;clear aC cM;go_wp2_with (refine Ap rfl 84 _ _ rfl (w.heap.size+2) #[.slice p' (n+1) c',.slice q m mc] rfl rfl 84 _ aQ.o.res.choose_spec.2 (by kernel_rfl) (by rw [aQ.o.res.choose_spec.1];rfl) (by simp [Value.oneCell']) ?_);refine br (aQ.o.heap _) underlying84 ?_;refine KM aQ.o HS.o bQ.o (fun _ ad hp=>?_) (fun z hz=>?_) (by simp [Gg,BV.er]) (HQ.o.below aQ.o.below) (fun hl ad hp=>?_) (by omega) (by omega)
 ·rcases ea.o with⟨h1,_⟩|h1
  ·cases h1
  ·have h2:=h1 ad hp;have h3:=HX.o.size;simp at h2;omega
 ·rcases Ac.1 hz with hz|hz
  ·have ho:=(HE.o.each z hz);refine⟨(ho.below aQ.o.below).weak (fun x hx=>.inl ⟨CW _ ho.ty x hx,ho.uses x hx⟩),fun a' g e=>?_⟩;have:=(ho.fn a' g e).2.2;omega
  ·rw [AQ] at hz;subst hz;exact⟨⟨LR.lies_below aQ.o.below _ HA.o.ty,fun x hx=>.inl ⟨CW _ HA.o.ty x hx,HT.o x hx⟩,fun a' g e=>(nomatch e),HA.o.arg⟩,fun a' g e=>(nomatch e)⟩
 ·have:=FM HQ.o.row hl hp;omega
theorem TZ(hE:Gl w0 w S p n c env)(hq:Ax DE 1 w q m mc rhos)(ha:AH.Own w a)(cf:AH.Own w0 a)(hS:∀b,w.heap.size<=b->S b)(cU:∀b∈Dy a.ty,S b)(hn:n<=900000)(hm:m<=900000)(hk:a.kind=16)(hi:i=1):Calls prog 98 #[.agg #[.slice p n c,.slice q m mc],DP a,.int .i64 i,.slice r rn rc] w (Pz w0 w S n m (Ck (Gg env) a.plain i.toNat (Em acc)) (DM rhos a.plain i.toNat)):=by
 have HX:=AF (JO w a (.slice p n c) (.slice q m mc));have HE:=AF hE;have HQ:=AF hq;have HA:=AF ha;have dz:=AF cf;have HS:=AF hS;have HT:=AF cU;have bg:=HX.o.b.b1.c 0 _ rfl;have e11:(a.kind==11)=false:=by simp [hk]
 have e12:(a.kind==12)=false:=by simp [hk]
 have e13:(a.kind==13)=false:=by simp [hk]
 have e16:(a.kind==16)=true:=by simp [hk]
 have eq:Hd (Ck (Gg env) a.plain i.toNat (Em acc)=Gg env++[⟨a.arg,NN,none⟩]):=by show _=_;unfold Ck;simp [show a.plain.kind=16 from hk,hi];try first|rfl|exact⟨rfl,rfl⟩
 have co:Hd (DM rhos a.plain i.toNat=rhos):=by show _=_;unfold DM;simp [show a.plain.kind=16 from hk,hi]
 rw [eq.o,co.o];clear hE hq ha cf hS cU hk;subst hi;have nR:=HX.o.b.b1.c 5 _ rfl;go_enter func98,ntmps98;go_upto_region 10 with fail;generalize (((w.alloc (.cells #[.slice p n c,.slice q m mc] 84)).alloc (Bt a)).alloc (.cells #[.slice none 0 0,.slice none 0 0] 84))=W1 at *
 go_wp2_with (first
  |(refine lw HX.o.b.b0 underlying84 ?_)
  |(refine l4 a.ty (Fw HX.o.b.b1 10 4 rfl) underlying28 ?_))
 refine(GH (HE.o.row.below (Ay HX.o.below _)) q m mc (Bo Ig (by omega) W1 145 [⟨a.arg,(.node ⟨1,0,none,0,0,[],none,0,0⟩ []),none⟩] 1 _ rfl rfl (by decide)) (by omega)).mono ?_;rintro e w2 ⟨p',c',rfl,aC,hb,cM⟩;have aQ:=AF (HX.o.step (An (Ay (AA _ _) _) hb));have bQ:=AF aC;have ea:=AF cM;clear aC cM;go_wp2_with (refine Ap rfl 84 _ _ rfl (w.heap.size+2) #[.slice p' (n+1) c',.slice q m mc] rfl rfl 84 _ aQ.o.res.choose_spec.2 (by kernel_rfl) (by rw [aQ.o.res.choose_spec.1];rfl) (by simp [Value.oneCell']) ?_);refine br (aQ.o.heap _) underlying84 ?_;refine KM aQ.o HS.o bQ.o (fun _ ad hp=>?_) (fun z hz=>?_) (by simp [Gg,BV.er];rfl) (HQ.o.below aQ.o.below) (fun hl ad hp=>?_) (by omega) (by omega)
 ·rcases ea.o with⟨h1,_⟩|h1
  ·cases h1
  ·have h2:=h1 ad hp;have h3:=HX.o.size;simp at h2;omega
 ·rcases Ac.1 hz with hz|hz
  ·have ho:=(HE.o.each z hz);refine⟨(ho.below aQ.o.below).weak (fun x hx=>.inl ⟨CW _ ho.ty x hx,ho.uses x hx⟩),fun a' g e=>?_⟩;have:=(ho.fn a' g e).2.2;omega
  ·rw [AQ] at hz;subst hz;exact⟨⟨(Xe w2 (Si w S)).1,(Xe w2 (Si w S)).2,fun a' g e=>(nomatch e),HA.o.arg⟩,fun a' g e=>(nomatch e)⟩
 ·have:=FM HQ.o.row hl hp;omega
theorem Ta(hE:Gl w0 w S p n c env)(hq:Ax DE 1 w q m mc rhos)(ha:AH.Own w a)(cf:AH.Own w0 a)(hS:∀b,w.heap.size<=b->S b)(cU:∀b∈Dy a.ty,S b)(hn:n<=900000)(hm:m<=900000)(hk:a.kind=13)(ud:0<=i)(hi:i≠0):Calls prog 98 #[.agg #[.slice p n c,.slice q m mc],DP a,.int .i64 i,.slice r rn rc] w (Pz w0 w S n m (Ck (Gg env) a.plain i.toNat (Em acc)) (DM rhos a.plain i.toNat)):=by
 have HX:=AF (JO w a (.slice p n c) (.slice q m mc));have HE:=AF hE;have HQ:=AF hq;have HA:=AF ha;have dz:=AF cf;have HS:=AF hS;have HT:=AF cU;have bg:=HX.o.b.b1.c 0 _ rfl;have e11:(a.kind==11)=false:=by simp [hk]
 have e12:(a.kind==12)=false:=by simp [hk]
 have e13:(a.kind==13)=true:=by simp [hk]
 have ei0:(i==0)=false:=by simp [hi]
 have dG:¬i.toNat=0:=by omega
 have eq:Hd (Ck (Gg env) a.plain i.toNat (Em acc)=Gg env++[⟨a.name,EQ,some a.plain⟩]):=by show _=_;unfold Ck;simp [show a.plain.kind=13 from hk,dG];try first|rfl|exact⟨rfl,rfl⟩
 have co:Hd (DM rhos a.plain i.toNat=rhos):=by show _=_;unfold DM;simp [show a.plain.kind=13 from hk,dG]
 rw [eq.o,co.o];clear hE hq ha cf hS cU hk;have nR:=HX.o.b.b1.c 4 _ rfl;go_enter func98,ntmps98;go_upto_region 8 with fail;generalize (((w.alloc (.cells #[.slice p n c,.slice q m mc] 84)).alloc (Bt a)).alloc (.cells #[.slice none 0 0,.slice none 0 0] 84))=W1 at *
 go_wp2_with (first
  |(refine lw HX.o.b.b0 underlying84 ?_)
  |(refine l4 a.ty (Fw HX.o.b.b1 10 4 rfl) underlying28 ?_))
 refine(GH (HE.o.row.below (Ay HX.o.below _)) q m mc (Bo Ig (by omega) W1 145 [⟨a.name,(.node ⟨0,0,none,0,0,[],none,0,0⟩ []),some (a,w.heap.size+1)⟩] 1 _ rfl rfl (by decide)) (by omega)).mono ?_;rintro e w2 ⟨p',c',rfl,aC,hb,cM⟩;have aQ:=AF (HX.o.step (An (Ay (AA _ _) _) hb));have bQ:=AF aC;have ea:=AF cM;clear aC cM;go_wp2_with (refine Ap rfl 84 _ _ rfl (w.heap.size+2) #[.slice p' (n+1) c',.slice q m mc] rfl rfl 84 _ aQ.o.res.choose_spec.2 (by kernel_rfl) (by rw [aQ.o.res.choose_spec.1];rfl) (by simp [Value.oneCell']) ?_);refine br (aQ.o.heap _) underlying84 ?_;refine KM aQ.o HS.o bQ.o (fun _ ad hp=>?_) (fun z hz=>?_) (by simp [Gg,BV.er];rfl) (HQ.o.below aQ.o.below) (fun hl ad hp=>?_) (by omega) (by omega)
 ·rcases ea.o with⟨h1,_⟩|h1
  ·cases h1
  ·have h2:=h1 ad hp;have h3:=HX.o.size;simp at h2;omega
 ·rcases Ac.1 hz with hz|hz
  ·have ho:=(HE.o.each z hz);refine⟨(ho.below aQ.o.below).weak (fun x hx=>.inl ⟨CW _ ho.ty x hx,ho.uses x hx⟩),fun a' g e=>?_⟩;have:=(ho.fn a' g e).2.2;omega
  ·rw [AQ] at hz;subst hz;exact⟨⟨(Ka w2 (Si w S)).1,(Ka w2 (Si w S)).2,fun a' g e=>(by cases e;exact⟨⟨fun i v hv=>aQ.o.b.b1.c (0+i) v (by simpa using hv)⟩,dz.o,by have:=aQ.o.size;omega⟩),HA.o.name⟩,fun a' g e=>(by cases e;omega)⟩
 ·have:=FM HQ.o.row hl hp;omega
theorem Tb(hE:Gl w0 w S p n c env)(hq:Ax DE 1 w q m mc rhos)(ha:AH.Own w a)(cf:AH.Own w0 a)(hS:∀b,w.heap.size<=b->S b)(cU:∀b∈Dy a.ty,S b)(hn:n<=900000)(hm:m<=900000)(hk:a.kind=17):Calls prog 98 #[.agg #[.slice p n c,.slice q m mc],DP a,.int .i64 i,.slice r rn rc] w (Pz w0 w S n m (Ck (Gg env) a.plain i.toNat (Em acc)) (DM rhos a.plain i.toNat)):=by
 have HX:=AF (JO w a (.slice p n c) (.slice q m mc));have HE:=AF hE;have HQ:=AF hq;have HA:=AF ha;have dz:=AF cf;have HS:=AF hS;have HT:=AF cU;have bg:=HX.o.b.b1.c 0 _ rfl;have e11:(a.kind==11)=false:=by simp [hk]
 have e12:(a.kind==12)=false:=by simp [hk]
 have e13:(a.kind==13)=false:=by simp [hk]
 have e16:(a.kind==16)=false:=by simp [hk]
 have e17:(a.kind==17)=true:=by simp [hk]
 have eq:Hd (Ck (Gg env) a.plain i.toNat (Em acc)=Gg env):=by show _=_;unfold Ck;simp [show a.plain.kind=17 from hk]
 have co:Hd (DM rhos a.plain i.toNat=rhos++[a.rho]):=by show _=_;unfold DM;simp [show a.plain.kind=17 from hk];try rfl
 rw [eq.o,co.o];clear hE hq ha cf hS cU hk;have uM:=HX.o.b.b1.c 7 _ rfl;go_enter func98,ntmps98;go_upto_region 12 with fail;generalize (((w.alloc (.cells #[.slice p n c,.slice q m mc] 84)).alloc (Bt a)).alloc (.cells #[.slice none 0 0,.slice none 0 0] 84))=W1 at *
 go_wp2_with (refine lw HX.o.b.b0 underlying84 ?_);refine(IX (HQ.o.below (Ay HX.o.below _)) p n c (Bo DR (by omega) W1 3 [a.rho] 1 _ rfl rfl (by decide)) (by omega)).mono ?_;rintro e w2 ⟨p',c',rfl,aC,hb,cM⟩;have aQ:=AF (HX.o.step (An (Ay (AA _ _) _) hb));have bQ:=AF aC;have ea:=AF cM;clear aC cM;go_wp2_with (refine Ap rfl 84 _ _ rfl (w.heap.size+2) #[.slice p n c,.slice p' (m+1) c'] rfl rfl 84 _ aQ.o.res.choose_spec.2 (by kernel_rfl) (by rw [aQ.o.res.choose_spec.1];rfl) (by simp [Value.oneCell']) ?_);refine br (aQ.o.heap _) underlying84 ?_;refine KM aQ.o HS.o (HE.o.row.below aQ.o.below) (fun hl ad hp=>?_) (fun z hz=>?_) rfl bQ.o (fun _ ad hp=>?_) (by omega) (by omega)
 ·have:=FM HE.o.row.row hl hp;omega
 ·have ho:=(HE.o.each z hz);refine⟨(ho.below aQ.o.below).weak (fun x hx=>.inl ⟨CW _ ho.ty x hx,ho.uses x hx⟩),fun a' g e=>?_⟩;have:=(ho.fn a' g e).2.2;omega
 ·rcases ea.o with⟨h1,_⟩|h1
  ·cases h1
  ·have h2:=h1 ad hp;have h3:=HX.o.size;simp at h2;omega
theorem Wk(hE:Gl w0 w S p n c env)(hq:Ax DE 1 w q m mc rhos)(ha:AH.Own w a)(cf:AH.Own w0 a)(hS:∀b,w.heap.size<=b->S b)(cU:∀b∈Dy a.ty,S b)(hn:n<=900000)(hm:m<=900000)(hk:a.kind=12)(ud:0<=i)(hi:i≠1):Calls prog 98 #[.agg #[.slice p n c,.slice q m mc],DP a,.int .i64 i,.slice r rn rc] w (Pz w0 w S n m (Ck (Gg env) a.plain i.toNat (Em acc)) (DM rhos a.plain i.toNat)):=by
 have HX:=AF (JO w a (.slice p n c) (.slice q m mc));have HE:=AF hE;have HQ:=AF hq;have HA:=AF ha;have dz:=AF cf;have HS:=AF hS;have HT:=AF cU;have bg:=HX.o.b.b1.c 0 _ rfl;have e11:(a.kind==11)=false:=by simp [hk]
 have e12:(a.kind==12)=true:=by simp [hk]
 have e13:(a.kind==13)=false:=by simp [hk]
 have e16:(a.kind==16)=false:=by simp [hk]
 have e17:(a.kind==17)=false:=by simp [hk]
 have ei1:(i==1)=false:=by simp [hi]
 have dG:¬i.toNat=1:=by omega
 have eq:Hd (Ck (Gg env) a.plain i.toNat (Em acc)=Gg env):=by show _=_;unfold Ck;simp [show a.plain.kind=a.kind from rfl,hk,dG]
 have co:Hd (DM rhos a.plain i.toNat=rhos):=by show _=_;unfold DM;simp [show a.plain.kind=a.kind from rfl,hk,dG]
 rw [eq.o,co.o];clear hE hq ha cf hS cU hk dG;go_enter func98,ntmps98;go_upto_region 13 with fail;generalize (((w.alloc (.cells #[.slice p n c,.slice q m mc] 84)).alloc (Bt a)).alloc (.cells #[.slice none 0 0,.slice none 0 0] 84))=W1 at *
 go_wp2_with (first
  |(refine lw HX.o.b.b0 underlying84 ?_)
  |(refine Ap rfl 84 _ _ rfl (w.heap.size+2) #[.slice p n c,.slice q m mc] rfl rfl 84 _ HX.o.res.choose_spec.2 (by kernel_rfl) (by rw [HX.o.res.choose_spec.1];rfl) (by simp [Value.oneCell']) ?_))
 refine br (HX.o.heap _) underlying84 ?_;refine KM HX.o HS.o (HE.o.row.below HX.o.below) (fun hl ad hp=>?_) (fun z hz=>?_) rfl (HQ.o.below HX.o.below) (fun hl ad hp=>?_) (by omega) (by omega)
 ·have:=FM HE.o.row.row hl hp;omega
 ·have ho:=(HE.o.each z hz);refine⟨(ho.below HX.o.below).weak (fun x hx=>.inl ⟨CW _ ho.ty x hx,ho.uses x hx⟩),fun a' g e=>?_⟩;have:=(ho.fn a' g e).2.2;omega
 ·have:=FM HQ.o.row hl hp;omega
theorem Rl(hE:Gl w0 w S p n c env)(hq:Ax DE 1 w q m mc rhos)(ha:AH.Own w a)(cf:AH.Own w0 a)(hS:∀b,w.heap.size<=b->S b)(cU:∀b∈Dy a.ty,S b)(hn:n<=900000)(hm:m<=900000)(hk:a.kind=16)(ud:0<=i)(hi:i≠1):Calls prog 98 #[.agg #[.slice p n c,.slice q m mc],DP a,.int .i64 i,.slice r rn rc] w (Pz w0 w S n m (Ck (Gg env) a.plain i.toNat (Em acc)) (DM rhos a.plain i.toNat)):=by
 have HX:=AF (JO w a (.slice p n c) (.slice q m mc));have HE:=AF hE;have HQ:=AF hq;have HA:=AF ha;have dz:=AF cf;have HS:=AF hS;have HT:=AF cU;have bg:=HX.o.b.b1.c 0 _ rfl;have e11:(a.kind==11)=false:=by simp [hk]
 have e12:(a.kind==12)=false:=by simp [hk]
 have e13:(a.kind==13)=false:=by simp [hk]
 have e16:(a.kind==16)=true:=by simp [hk]
 have e17:(a.kind==17)=false:=by simp [hk]
 have ei1:(i==1)=false:=by simp [hi]
 have dG:¬i.toNat=1:=by omega
 have eq:Hd (Ck (Gg env) a.plain i.toNat (Em acc)=Gg env):=by show _=_;unfold Ck;simp [show a.plain.kind=a.kind from rfl,hk,dG]
 have co:Hd (DM rhos a.plain i.toNat=rhos):=by show _=_;unfold DM;simp [show a.plain.kind=a.kind from rfl,hk,dG]
 rw [eq.o,co.o];clear hE hq ha cf hS cU hk dG;go_enter func98,ntmps98;go_upto_region 13 with fail;generalize (((w.alloc (.cells #[.slice p n c,.slice q m mc] 84)).alloc (Bt a)).alloc (.cells #[.slice none 0 0,.slice none 0 0] 84))=W1 at *
 go_wp2_with (first
  |(refine lw HX.o.b.b0 underlying84 ?_)
  |(refine Ap rfl 84 _ _ rfl (w.heap.size+2) #[.slice p n c,.slice q m mc] rfl rfl 84 _ HX.o.res.choose_spec.2 (by kernel_rfl) (by rw [HX.o.res.choose_spec.1];rfl) (by simp [Value.oneCell']) ?_))
 refine br (HX.o.heap _) underlying84 ?_;refine KM HX.o HS.o (HE.o.row.below HX.o.below) (fun hl ad hp=>?_) (fun z hz=>?_) rfl (HQ.o.below HX.o.below) (fun hl ad hp=>?_) (by omega) (by omega)
 ·have:=FM HE.o.row.row hl hp;omega
 ·have ho:=(HE.o.each z hz);refine⟨(ho.below HX.o.below).weak (fun x hx=>.inl ⟨CW _ ho.ty x hx,ho.uses x hx⟩),fun a' g e=>?_⟩;have:=(ho.fn a' g e).2.2;omega
 ·have:=FM HQ.o.row hl hp;omega
theorem U3(hE:Gl w0 w S p n c env)(hq:Ax DE 1 w q m mc rhos)(ha:AH.Own w a)(cf:AH.Own w0 a)(hS:∀b,w.heap.size<=b->S b)(cU:∀b∈Dy a.ty,S b)(hn:n<=900000)(hm:m<=900000)(cR:a.kind≠11)(eH:a.kind≠12)(bf:a.kind≠13)(eS:a.kind≠16)(bK:a.kind≠17):Calls prog 98 #[.agg #[.slice p n c,.slice q m mc],DP a,.int .i64 i,.slice r rn rc] w (Pz w0 w S n m (Ck (Gg env) a.plain i.toNat (Em acc)) (DM rhos a.plain i.toNat)):=by
 have HX:=AF (JO w a (.slice p n c) (.slice q m mc));have HE:=AF hE;have HQ:=AF hq;have HA:=AF ha;have dz:=AF cf;have HS:=AF hS;have HT:=AF cU;have bg:=HX.o.b.b1.c 0 _ rfl;have e11:(a.kind==11)=false:=by simp [cR]
 have e12:(a.kind==12)=false:=by simp [eH]
 have e13:(a.kind==13)=false:=by simp [bf]
 have e16:(a.kind==16)=false:=by simp [eS]
 have e17:(a.kind==17)=false:=by simp [bK]
 have eq:Hd (Ck (Gg env) a.plain i.toNat (Em acc)=Gg env):=by show _=_;unfold Ck;simp [show a.plain.kind=a.kind from rfl,cR,eH,bf,eS,bK]
 have co:Hd (DM rhos a.plain i.toNat=rhos):=by show _=_;unfold DM;simp [show a.plain.kind=a.kind from rfl,cR,eH,bf,eS,bK]
 rw [eq.o,co.o];clear hE hq ha cf hS cU cR eH bf eS bK;go_enter func98,ntmps98;go_upto_region 13 with fail;generalize (((w.alloc (.cells #[.slice p n c,.slice q m mc] 84)).alloc (Bt a)).alloc (.cells #[.slice none 0 0,.slice none 0 0] 84))=W1 at *
 go_wp2_with (first
  |(refine lw HX.o.b.b0 underlying84 ?_)
  |(refine Ap rfl 84 _ _ rfl (w.heap.size+2) #[.slice p n c,.slice q m mc] rfl rfl 84 _ HX.o.res.choose_spec.2 (by kernel_rfl) (by rw [HX.o.res.choose_spec.1];rfl) (by simp [Value.oneCell']) ?_))
 refine br (HX.o.heap _) underlying84 ?_;refine KM HX.o HS.o (HE.o.row.below HX.o.below) (fun hl ad hp=>?_) (fun z hz=>?_) rfl (HQ.o.below HX.o.below) (fun hl ad hp=>?_) (by omega) (by omega)
 ·have:=FM HE.o.row.row hl hp;omega
 ·have ho:=(HE.o.each z hz);refine⟨(ho.below HX.o.below).weak (fun x hx=>.inl ⟨CW _ ho.ty x hx,ho.uses x hx⟩),fun a' g e=>?_⟩;have:=(ho.fn a' g e).2.2;omega
 ·have:=FM HQ.o.row hl hp;omega
theorem Jw(bM:o.guard=none)(ty:TypeId)(x y:Operand)(ho:o.op=.store ty x y)(h:Rb w a u v W)(cells:Array Value)(hx:act.eval x=.pointer (some ⟨w.heap.size+2,0,none⟩))(hy:act.eval y=.agg cells)(hi:(P.info? ty).map (·.size)=some cells.size)(h5:cells.size=2)(h1:cells.all (·.oneCell')=true)(hK:K (act.put o.dst undef) (W.setRow (w.heap.size+2) cells)):if Region.wanted o (yielded ops act.tmps)=true then Oper.wp P o act W K Q else E:=by obtain⟨cs,e1,e2⟩:=h.res;rw [AJ (by simp [Region.wanted,bM])];exact DV ty x y ho (w.heap.size+2) cells hx hy 84 cs e2 hi (by omega) h1 hK
theorem Wl(hE:Gl w0 w S p n c env)(hq:Ax DE 1 w q m mc rhos)(ha:AH.Own w a)(cf:AH.Own w0 a)(hS:∀b,w.heap.size<=b->S b)(cU:∀b∈Dy a.ty,S b)(hn:n<=900000)(hm:m<=900000)(cF:NZ w S (some ⟨b,o,none⟩) 1 rc [x])(hk:a.kind=12):Calls prog 98 #[.agg #[.slice p n c,.slice q m mc],DP a,.int .i64 1,.slice (some ⟨b,o,none⟩) 1 rc] w (Pz w0 w S n m (Ck (Gg env) a.plain 1 (Em [x])) (DM rhos a.plain 1)):=by
 have HX:=AF (JO w a (.slice p n c) (.slice q m mc));have HE:=AF hE;have HQ:=AF hq;have HA:=AF ha;have dz:=AF cf;have HS:=AF hS;have HT:=AF cU;have bg:=HX.o.b.b1.c 0 _ rfl;have jK:=AF cF;have e11:(a.kind==11)=false:=by simp [hk]
 have e12:(a.kind==12)=true:=by simp [hk]
 have eq:Hd (Ck (Gg env) a.plain 1 (Em [x])=Gg env++[⟨a.name,x.ty.er,none⟩]):=by show _=_;unfold Ck;simp [show a.plain.kind=12 from hk];try first|rfl|exact⟨rfl,rfl⟩
 have co:Hd (DM rhos a.plain 1=rhos):=by show _=_;unfold DM;simp [show a.plain.kind=12 from hk]
 rw [eq.o,co.o];clear hE hq ha cf hS cU hk cF;go_enter func98,ntmps98;go_upto_region 4 with fail;clear bg;generalize (((w.alloc (.cells #[.slice p n c,.slice q m mc] 84)).alloc (Bt a)).alloc (.cells #[.slice none 0 0,.slice none 0 0] 84))=W1 at *
 refine rg (fun W'=>Rb w a (.slice p n c) (.slice q m mc) W') (HX.o.drew) fun aA=>?_;refine tm 0 32 [.slice p n c,.slice q m mc] 84 w.heap.size 0 (fun W' aB=>aB.b.r0) underlying84 ?_;refine tp 1 33 ?_;refine tp 2 34 ?_;refine tp 3 35 ?_ (hy:=fun w aB=>by(try dsimp only at aB);have q4:=aB.b.b1.c 4 _ rfl;go_simp;try with_reducible rfl);refine tp 4 36 ?_;refine tp 5 37 ?_;refine tp 6 38 ?_;refine t4 7 39 x.ty b o (fun W' aB=>K3 (jK.o.row.below aB.below)) ?_;refine tp 8 40 ?_;refine tr 9 41 fun K hK=>?_;go_simp;refine tn hK (aA.alloc _) ?_;clear aA hK K;intro aA;refine tr 10 42 fun K hK=>?_;go_simp;have aI:=aA.size;go_at_call 139;refine(GH (HE.o.row.below aA.below) q m mc ((Bo Ig (by omega) W1 145 [⟨a.name,x.ty,none⟩] 1 _ rfl rfl (by decide)).below (At _)) (by omega)).mono ?_;rintro e w5 ⟨p',c',rfl,aC,hb,cM⟩;have bR:=AF aC;have aw:=AF hb
 have cC:Hd (∀ad,p'=some ad->w.heap.size+3<=ad.block):=fun ad hp=>by
  rcases cM with⟨h1,_⟩|h1
  ·cases h1
  ·exact AM aI (h1 ad hp)
 clear aC cM aI;try go_wp2_with fail
 refine tn hK (aA.step hb) ?_;clear aA hK K;intro aA;refine Fo 11 fun K hK=>?_;have aY:=AF aA;refine Jw rfl _ _ _ (by rfl) aA #[.slice p' (n+1) c',.slice q m mc] (by rfl) (by rfl) (by kernel_rfl) rfl (by simp [Value.oneCell']) ?_;refine tn hK (aA.store rfl) ?_;clear aA hK K;intro aA;refine dn ?_;clear aA;go_wp2_with fail;refine br (aY.o.heap _) underlying84 ?_;refine KM aY.o HS.o bR.o (fun _ ad hp=>?_) (fun z hz=>?_) (by simp [Gg,BV.er]) (HQ.o.below aY.o.below) (fun hl ad hp=>?_) (by omega) (by omega)
 ·have:=cC.o ad hp;omega
 ·rcases Ac.1 hz with hz|hz
  ·have ho:=(HE.o.each z hz);refine⟨(ho.below aY.o.below).weak (fun x hx=>.inl ⟨CW _ ho.ty x hx,ho.uses x hx⟩),fun a' g e=>?_⟩;have:=(ho.fn a' g e).2.2;omega
  ·rw [AQ] at hz;subst hz;have hx:=jK.o.each x (by simp);exact⟨⟨LR.lies_below aY.o.below _ hx.ty,fun z hz=>.inl ⟨CW _ hx.ty z hz,hx.uses z hz⟩,fun a' g e=>(nomatch e),HA.o.name⟩,fun a' g e=>(nomatch e)⟩
 ·have:=FM HQ.o.row hl hp;omega
theorem Rm(hE:Gl w0 w S p n c env)(hq:Ax DE 1 w q m mc rhos)(ha:AH.Own w a)(cf:AH.Own w0 a)(hS:∀b,w.heap.size<=b->S b)(cU:∀b∈Dy a.ty,S b)(hn:n<=900000)(hm:m<=900000)(na:a.rn<=50)(hk:a.kind=13):Calls prog 98 #[.agg #[.slice p n c,.slice q m mc],DP a,.int .i64 0,.slice r rn rc] w (Pz w0 w S n m (Ck (Gg env) a.plain 0 (Em acc)) (DM rhos a.plain 0)):=by
 have HX:=AF (JO w a (.slice p n c) (.slice q m mc));have HE:=AF hE;have HQ:=AF hq;have HA:=AF ha;have dz:=AF cf;have HS:=AF hS;have HT:=AF cU;have bg:=HX.o.b.b1.c 0 _ rfl;have e11:(a.kind==11)=false:=by simp [hk]
 have e12:(a.kind==12)=false:=by simp [hk]
 have e13:(a.kind==13)=true:=by simp [hk]
 have eq:Hd (Ck (Gg env) a.plain 0 (Em acc)=Gg env++[⟨a.name,EQ,some a.plain⟩,⟨a.arg,a.ty.er,none⟩]):=by show _=_;unfold Ck;simp [show a.plain.kind=13 from hk];try first|rfl|exact⟨rfl,rfl⟩|exact⟨rfl,rfl,rfl⟩
 have co:Hd (DM rhos a.plain 0=rhos++a.rhos):=by show _=_;unfold DM;simp [show a.plain.kind=13 from hk];try rfl
 rw [eq.o,co.o];clear hE hq ha cf hS cU hk;go_enter func98,ntmps98;go_upto_region 6 with fail;clear bg;generalize (((w.alloc (.cells #[.slice p n c,.slice q m mc] 84)).alloc (Bt a)).alloc (.cells #[.slice none 0 0,.slice none 0 0] 84))=W1 at *
 refine rg (fun W'=>Rb w a (.slice p n c) (.slice q m mc) W') (HX.o.drew) fun aA=>?_;refine tm 0 52 [.slice p n c,.slice q m mc] 84 w.heap.size 0 (fun W' aB=>aB.b.r0) underlying84 ?_;refine tp 1 53 ?_;refine tp 2 54 ?_ (hy:=fun w aB=>by(try dsimp only at aB);have q8:=aB.b.b1.c 8 _ rfl;go_simp;try with_reducible rfl);refine tp 4 56 ?_;refine tp 5 57 ?_;refine tp 6 58 ?_ (hy:=fun w aB=>by(try dsimp only at aB);have q4:=aB.b.b1.c 4 _ rfl;go_simp;try with_reducible rfl);refine tp 7 59 ?_;refine tp 8 60 ?_;refine tp 9 61 ?_;refine tp 10 62 ?_;refine tp 11 63 ?_ (hy:=fun w aB=>by(try dsimp only at aB);have q5:=aB.b.b1.c 5 _ rfl;go_simp;try with_reducible rfl);refine tp 12 64 ?_;refine t4 13 65 a.ty (w.heap.size+1) 10 (fun W' aB=>Fw aB.b.b1 10 4 rfl) ?_;refine tp 14 66 ?_;refine A2 (rs:=[3,15]) (by kernel_rfl) (by simp) ?_;refine AY (o:=⟨some 55,_,_,_,_,none⟩) rfl (fun K hK=>?_) (AY (o:=⟨some 67,_,_,_,_,none⟩) rfl (fun K hK=>?_) Az)
 ·skip;go_simp;have aI:=aA.size;go_at_call 131;refine(IX (HQ.o.below aA.below) p n c (HA.o.rhos.below aA.below) (by omega)).mono ?_;rintro e w3 ⟨q',qc',rfl,aC,hb,cM⟩;have iH:=AF aC;have aL:=AF hb
  have jA:Hd ((a.rhos=[]/\q'=q)\/∀ad,q'=some ad->w.heap.size+3<=ad.block):=by
   rcases cM with h1|h1
   ·exact .inl h1
   ·exact .inr (fun ad hp=>AM aI (h1 ad hp))
  clear aC cM aI;try go_wp2_with fail
  refine tn hK (aA.step hb) ?_;clear aA hK K;intro aA;refine tr 15 67 fun K hK=>?_;go_simp;have jo:Hd (Ax JN 6 (w3.alloc (.cells #[.string a.name,.int .u8 0,.int .i64 0,.slice none 0 0,.slice none 0 0,.pointer (some ⟨w.heap.size+1,0,none⟩),.string a.arg,.int .u8 a.ty.head.kind,.int .i64 a.ty.head.rho,.slice a.ty.head.ep a.ty.head.en a.ty.head.ec,.slice a.ty.head.kp a.ty.head.kn a.ty.head.kc,.pointer none] 145)) (some ⟨w3.heap.size,0,none⟩) 2 2 [⟨a.name,(.node ⟨0,0,none,0,0,[],none,0,0⟩ []),some (a,w.heap.size+1)⟩,⟨a.arg,a.ty,none⟩]):=Bo Ig (by omega) w3 145 [⟨a.name,(.node ⟨0,0,none,0,0,[],none,0,0⟩ []),some (a,w.heap.size+1)⟩,⟨a.arg,a.ty,none⟩] 2 _ rfl rfl (by decide);have io:Hd (Below w3.heap.size w3 (w3.alloc (.cells #[.string a.name,.int .u8 0,.int .i64 0,.slice none 0 0,.slice none 0 0,.pointer (some ⟨w.heap.size+1,0,none⟩),.string a.arg,.int .u8 a.ty.head.kind,.int .i64 a.ty.head.rho,.slice a.ty.head.ep a.ty.head.en a.ty.head.ec,.slice a.ty.head.kp a.ty.head.kn a.ty.head.kc,.pointer none] 145))):=Ay (AA _ _) _;refine tn hK (aA.alloc _) ?_;clear aA hK K;intro aA;refine tr 16 68 fun K hK=>?_;go_simp;have aI:=aA.size;go_at_call 139;refine(GH (HE.o.row.below aA.below) q' (m+a.rn) qc' (jo.o) (by omega)).mono ?_;rintro e w5 ⟨p',c',rfl,aC,hb,cM⟩;have bR:=AF aC;have aw:=AF hb
  have cC:Hd (∀ad,p'=some ad->w.heap.size+3<=ad.block):=fun ad hp=>by
   rcases cM with⟨h1,_⟩|h1
   ·cases h1
   ·exact AM aI (h1 ad hp)
  clear aC cM aI;try go_wp2_with fail
  refine tn hK (aA.step hb) ?_;clear aA hK K;intro aA;refine Fo 17 fun K hK=>?_;have aY:=AF aA;refine Jw rfl _ _ _ (by rfl) aA #[.slice p' (n+2) c',.slice q' (m+a.rn) qc'] (by rfl) (by rfl) (by kernel_rfl) rfl (by simp [Value.oneCell']) ?_;refine tn hK (aA.store rfl) ?_;clear aA hK K;intro aA;refine dn ?_;clear aA;go_wp2_with fail;refine br (aY.o.heap _) underlying84 ?_;refine KM aY.o HS.o bR.o (fun _ ad hp=>?_) (fun z hz=>?_) (by simp [Gg,BV.er];rfl) ((iH.o.below io.o).below aw.o) (fun hl ad hp=>?_) (by omega) (by omega)
  ·have:=cC.o ad hp;omega
  ·rcases Ac.1 hz with hz|hz
   ·have ho:=(HE.o.each z hz);refine⟨(ho.below aY.o.below).weak (fun x hx=>.inl ⟨CW _ ho.ty x hx,ho.uses x hx⟩),fun a' g e=>?_⟩;have:=(ho.fn a' g e).2.2;omega
   ·simp only [AS,Al,BN] at hz;rcases hz with rfl|rfl
    ·exact⟨⟨(Ka w5 (Si w S)).1,(Ka w5 (Si w S)).2,fun a' g e=>(by cases e;exact⟨⟨fun i v hv=>aY.o.b.b1.c (0+i) v (by simpa using hv)⟩,dz.o,by have:=aY.o.size;omega⟩),HA.o.name⟩,fun a' g e=>(by cases e;omega)⟩
    ·exact⟨⟨LR.lies_below aY.o.below _ HA.o.ty,fun x hx=>.inl ⟨CW _ HA.o.ty x hx,HT.o x hx⟩,fun a' g e=>(nomatch e),HA.o.arg⟩,fun a' g e=>(nomatch e)⟩
  ·rcases jA.o with⟨h0,h1⟩|h1
   ·have ia:rhos≠[]:=by intro h2;apply hl;rw [h2,h0];rfl
    have:=FM HQ.o.row ia (h1▸hp);omega
   ·have:=h1 ad hp;omega
 ·skip;go_simp;refine tn hK (aA.alloc _) ?_;clear aA hK K;intro aA;refine tr 3 55 fun K hK=>?_;go_simp;have aI:=aA.size;go_at_call 131;refine(IX (HQ.o.below aA.below) p n c (HA.o.rhos.below aA.below) (by omega)).mono ?_;rintro e w3 ⟨q',qc',rfl,aC,hb,cM⟩;have iH:=AF aC;have aL:=AF hb
  have jA:Hd ((a.rhos=[]/\q'=q)\/∀ad,q'=some ad->w.heap.size+3<=ad.block):=by
   rcases cM with h1|h1
   ·exact .inl h1
   ·exact .inr (fun ad hp=>AM aI (h1 ad hp))
  have jo:=AF (((Bo Ig (by omega) W1 145 [⟨a.name,(.node ⟨0,0,none,0,0,[],none,0,0⟩ []),some (a,w.heap.size+1)⟩,⟨a.arg,a.ty,none⟩] 2 _ rfl rfl (by decide)).below (At _)).below hb);have io:=AF (AA w3.heap.size w3);clear aC cM aI;try go_wp2_with fail
  refine tn hK (aA.step hb) ?_;clear aA hK K;intro aA;refine tr 16 68 fun K hK=>?_;go_simp;have aI:=aA.size;go_at_call 139;refine(GH (HE.o.row.below aA.below) q' (m+a.rn) qc' (jo.o) (by omega)).mono ?_;rintro e w5 ⟨p',c',rfl,aC,hb,cM⟩;have bR:=AF aC;have aw:=AF hb
  have cC:Hd (∀ad,p'=some ad->w.heap.size+3<=ad.block):=fun ad hp=>by
   rcases cM with⟨h1,_⟩|h1
   ·cases h1
   ·exact AM aI (h1 ad hp)
  clear aC cM aI;try go_wp2_with fail
  refine tn hK (aA.step hb) ?_;clear aA hK K;intro aA;refine Fo 17 fun K hK=>?_;have aY:=AF aA;refine Jw rfl _ _ _ (by rfl) aA #[.slice p' (n+2) c',.slice q' (m+a.rn) qc'] (by rfl) (by rfl) (by kernel_rfl) rfl (by simp [Value.oneCell']) ?_;refine tn hK (aA.store rfl) ?_;clear aA hK K;intro aA;refine dn ?_;clear aA;go_wp2_with fail;refine br (aY.o.heap _) underlying84 ?_;refine KM aY.o HS.o bR.o (fun _ ad hp=>?_) (fun z hz=>?_) (by simp [Gg,BV.er];rfl) ((iH.o.below io.o).below aw.o) (fun hl ad hp=>?_) (by omega) (by omega)
  ·have:=cC.o ad hp;omega
  ·rcases Ac.1 hz with hz|hz
   ·have ho:=(HE.o.each z hz);refine⟨(ho.below aY.o.below).weak (fun x hx=>.inl ⟨CW _ ho.ty x hx,ho.uses x hx⟩),fun a' g e=>?_⟩;have:=(ho.fn a' g e).2.2;omega
   ·simp only [AS,Al,BN] at hz;rcases hz with rfl|rfl
    ·exact⟨⟨(Ka w5 (Si w S)).1,(Ka w5 (Si w S)).2,fun a' g e=>(by cases e;exact⟨⟨fun i v hv=>aY.o.b.b1.c (0+i) v (by simpa using hv)⟩,dz.o,by have:=aY.o.size;omega⟩),HA.o.name⟩,fun a' g e=>(by cases e;omega)⟩
    ·exact⟨⟨LR.lies_below aY.o.below _ HA.o.ty,fun x hx=>.inl ⟨CW _ HA.o.ty x hx,HT.o x hx⟩,fun a' g e=>(nomatch e),HA.o.arg⟩,fun a' g e=>(nomatch e)⟩
  ·rcases jA.o with⟨h0,h1⟩|h1
   ·have ia:rhos≠[]:=by intro h2;apply hl;rw [h2,h0];rfl
    have:=FM HQ.o.row ia (h1▸hp);omega
   ·have:=h1 ad hp;omega
theorem SV(i:Nat)(hE:Gl w0 w S p n c env)(hq:Ax DE 1 w q m mc rhos)(ha:AH.Own w a)(cf:AH.Own w0 a)(hS:∀b,w.heap.size<=b->S b)(cU:∀b∈Dy a.ty,S b)(hn:n<=900000)(hm:m<=900000)(na:a.rn<=50)(cF:NZ w S r rn rc acc)(dh:a.kind=12->i=1->acc.length=1):Calls prog 98 #[.agg #[.slice p n c,.slice q m mc],DP a,.int .i64 (i:Int),.slice r rn rc] w (Pz w0 w S n m (Ck (Gg env) a.plain i (Em acc)) (DM rhos a.plain i)):=by
 have e:((i:Int)).toNat=i:=E9 i;have h0:(0:Int)<=(i:Int):=Int.natCast_nonneg i;by_cases k11:a.kind=11
 ·have:=ZAP (r:=r) (rn:=rn) (rc:=rc) (acc:=acc) (i:=(i:Int)) hE hq ha cf hS cU hn hm k11;rwa [e] at this
 by_cases k12:a.kind=12
 ·by_cases hi:i=1
  ·subst hi;have hl:=dh k12 rfl;match acc,cF,hl with
   |[x],cF,_=>
    obtain⟨b,o,hp,_⟩:=cF.row.row.elem (j:=0) (x:=x) rfl;subst hp;obtain rfl:rn=1:=cF.row.len.symm;exact Wl hE hq ha cf hS cU hn hm cF k12
  ·have:=Wk (r:=r) (rn:=rn) (rc:=rc) (acc:=acc) (i:=(i:Int)) hE hq ha cf hS cU hn hm k12 h0 (by omega);rwa [e] at this
 by_cases k13:a.kind=13
 ·by_cases hi:i=0
  ·subst hi;exact Rm hE hq ha cf hS cU hn hm na k13
  ·have:=Ta (r:=r) (rn:=rn) (rc:=rc) (acc:=acc) (i:=(i:Int)) hE hq ha cf hS cU hn hm k13 h0 (by omega);rwa [e] at this
 by_cases k16:a.kind=16
 ·by_cases hi:i=1
  ·have:=TZ (r:=r) (rn:=rn) (rc:=rc) (acc:=acc) (i:=(i:Int)) hE hq ha cf hS cU hn hm k16 (by omega);rwa [e] at this
  ·have:=Rl (r:=r) (rn:=rn) (rc:=rc) (acc:=acc) (i:=(i:Int)) hE hq ha cf hS cU hn hm k16 h0 (by omega);rwa [e] at this
 by_cases k17:a.kind=17
 ·have:=Tb (r:=r) (rn:=rn) (rc:=rc) (acc:=acc) (i:=(i:Int)) hE hq ha cf hS cU hn hm k17;rwa [e] at this
 ·have:=U3 (r:=r) (rn:=rn) (rc:=rc) (acc:=acc) (i:=(i:Int)) hE hq ha cf hS cU hn hm k11 k12 k13 k16 k17;rwa [e] at this
theorem ZA(h:Id w S a (some ⟨b,o,none⟩) 2 c [x,y])(hk:a.kind=3):Calls prog 99 #[DP a,.slice (some ⟨b,o,none⟩) 2 c] w (Gm w S (Dl a.plain (Em [x,y]))):=by
 have HX:=AF (Fx w a);have HH:=AF h;have bj:=h.sum;have e3:(a.kind==3)=true:=by simp [hk]
 have bg:=HX.o.box.c 0 _ rfl;have cI:Hd (Dl a.plain (Em [x,y])=.ok (N9 2 a.rho [] [x.ty.er,y.ty.er],Ee (Em [x,y]) [Fu a.rho])):=by show _=_;unfold Dl;simp [show a.plain.kind=3 from hk];try first|rfl|exact⟨rfl,rfl⟩
 rw [cI.o];clear h hk;go_enter func99,ntmps99;go_upto_region 4 with fail;clear bg e3;generalize (w.alloc (Bt a)).alloc (.cells #[.int .u8 0,.int .i64 0,.slice none 0 0,.slice none 0 0,.slice none 0 0] 81)=W1 at *
 refine rg (fun W'=>JM w a W') (HX.o.drew) fun aA=>?_;refine tp 0 13 ?_;refine tp 1 14 ?_ (hy:=fun w aB=>by(try dsimp only at aB);have q7:=aB.box.c 7 _ rfl;go_simp;try with_reducible rfl);refine tp 2 15 ?_;refine tp 3 16 ?_;refine tp 4 17 ?_;refine t4 5 18 x.ty b o (fun W' aB=>K3 (HH.o.res.row.below aB.below)) ?_;refine tp 6 19 ?_;refine tp 7 20 ?_;refine tp 8 21 ?_;refine t4 9 22 y.ty b (o+5) (fun W' aB=>ME (HH.o.res.row.below aB.below)) ?_;refine tp 12 25 ?_;refine tp 13 26 ?_;refine tp 14 27 ?_ (hy:=fun w aB=>by(try dsimp only at aB);have q7:=aB.box.c 7 _ rfl;go_simp;try with_reducible rfl);refine tr 10 23 fun K hK=>?_;go_simp;refine tn hK (aA.alloc _) ?_;clear aA hK K;intro aA;refine tr 11 24 fun K hK=>?_;go_simp;go_at_call 136;refine(GQ 2 a.rho (Ax.none Ce 3 _) (by omega) (some ⟨W1.heap.size,0,none⟩) 2 2).mono ?_;rintro e w2 ⟨q,m,qc,rfl,aC,cB,hb⟩;have bQ:Hd (Ax Ce 3 w2 q m qc []):=aC;have iq:Hd (G0 w2 (some ⟨W1.heap.size,0,none⟩) 2 2 [x.ty,y.ty]):=((Ny (LR.lies_below HX.o.below _ (HH.o.res.each x (by simp)).ty) (LR.lies_below HX.o.below _ (HH.o.res.each y (by simp)).ty) 28).below (At _)).below hb;clear aC cB;try go_wp2_with fail
 refine tn hK (aA.step hb) ?_;clear aA hK K;intro aA;refine tr 15 28 fun K hK=>?_;go_simp;go_at_call 138;refine(Gb a.rho _).mono ?_;rintro e w3 ⟨rfl,hb⟩;have aL:=AF hb;try go_wp2_with fail
 refine tn hK (aA.step hb) ?_;clear aA hK K;intro aA;refine tr 16 29 fun K hK=>?_;go_simp;refine tn hK (aA.alloc _) ?_;clear aA hK K;intro aA;refine tr 17 30 fun K hK=>?_;go_simp;go_at_call 140;refine(Dj (HH.o.res.row.below aA.below) (fun r hr=>((HH.o.res.each r hr).below aA.below).eff) (Iu w3 (Fu a.rho)) (by decide) (by omega)).mono ?_;rintro e w5 ⟨v5,k5,rfl,aE,hb⟩;obtain⟨q5,c5,rfl,aN⟩:=A1.isRow BF (by omega) aE;have aO:=(fun ad hp=>by subst hp;exact A1.from aE ad.block rfl:∀ad,q5=some ad->(w3.alloc (.cells #[.int .u8 (Fu a.rho).kind,.int .i64 (Fu a.rho).rho,.string (Fu a.rho).exn] 59)).heap.size<=ad.block);have bR:=AF aN;have cC:=AF aO;have aw:=AF hb;clear aE aN aO;try go_wp2_with fail
 refine tn hK (aA.step hb) ?_;clear aA hK K;intro aA;refine tp 18 31 ?_;refine Fo 19 fun K hK=>?_;have aY:=AF aA;refine DJ rfl _ _ _ (by rfl) aA #[.int .u8 2,.int .i64 a.rho,.slice q m qc,.slice (some ⟨W1.heap.size,0,none⟩) 2 2,.slice q5 k5 c5] (by rfl) (by rfl) (by kernel_rfl) rfl (by simp [Value.oneCell']) ?_;refine tn hK (aA.store rfl) ?_;clear aA hK K;intro aA;refine dn ?_;clear aA;go_wp2_with fail;refine br (aY.o.heap _) underlying81 ?_;have aD:=HH.o.own;have f7:Below w2.heap.size w2 w5:=An (Ay aL.o _) aw.o;have dy:=HX.o.size;refine Hy (y:=⟨.node ⟨2,a.rho,q,m,qc,[],some ⟨W1.heap.size,0,none⟩,2,2⟩ [x.ty,y.ty],q5,k5,c5,Ee (Em [x,y]) [Fu a.rho]⟩) aY.o HH.o.new ⟨Oa (by decide) aD.rho (bQ.o.below f7) (fun x hx=>(nomatch hx)) (iq.o.below f7),?_,bR.o,G1 (fun r hr=>(HH.o.res.each r hr).eok) (fun z hz=>by rw [AQ] at hz;subst hz;exact Kk aD.rho.1 aD.rho.2),fun _ ad hp=>.inr ?_⟩ rfl
 ·have hr:=Io HH.o.res (AA _ _);exact Ob (hr.each x (by simp)).uses (hr.each y (by simp)).uses (.inr dy) (fun h=>absurd rfl h)
 ·have h1:=cC.o ad hp;have h2:=aL.o.size;have h3:=iq.o;simp only [AN] at h1;have h4:W1.heap.size<=w2.heap.size:=by obtain⟨b',o',e1,e2,_⟩:=iq.o.kid (j:=0) rfl;cases e1;omega
  omega
theorem ZBC(h:Id w S a (some ⟨b,o,none⟩) 1 c [x])(hk:a.kind=6):Calls prog 99 #[DP a,.slice (some ⟨b,o,none⟩) 1 c] w (Gm w S (Dl a.plain (Em [x]))):=by
 have HX:=AF (Fx w a);have HH:=AF h;have bj:=h.sum;have e3:(a.kind==3)=false:=by simp [hk]
 have e4:(a.kind==4)=false:=by simp [hk]
 have e5:(a.kind==5)=false:=by simp [hk]
 have e6:(a.kind==6)=true:=by simp [hk]
 have bg:=HX.o.box.c 0 _ rfl;have cI:Hd (Dl a.plain (Em [x])=.ok (N9 3 a.rho [] [x.ty.er],Ee (Em [x]) [Fu a.rho])):=by show _=_;unfold Dl;simp [show a.plain.kind=6 from hk];try first|rfl|exact⟨rfl,rfl⟩
 rw [cI.o];clear h hk;go_enter func99,ntmps99;go_upto_region 10 with fail;clear bg e3 e4 e5 e6;generalize (w.alloc (Bt a)).alloc (.cells #[.int .u8 0,.int .i64 0,.slice none 0 0,.slice none 0 0,.slice none 0 0] 81)=W1 at *
 refine rg (fun W'=>JM w a W') (HX.o.drew) fun aA=>?_;refine tp 0 64 ?_;refine tp 1 65 ?_ (hy:=fun w aB=>by(try dsimp only at aB);have q7:=aB.box.c 7 _ rfl;go_simp;try with_reducible rfl);refine tp 2 66 ?_;refine tp 3 67 ?_;refine tp 4 68 ?_;refine t4 5 69 x.ty b o (fun W' aB=>K3 (HH.o.res.row.below aB.below)) ?_;refine tp 8 72 ?_;refine tp 9 73 ?_;refine tp 10 74 ?_ (hy:=fun w aB=>by(try dsimp only at aB);have q7:=aB.box.c 7 _ rfl;go_simp;try with_reducible rfl);refine tr 6 70 fun K hK=>?_;go_simp;refine tn hK (aA.alloc _) ?_;clear aA hK K;intro aA;refine tr 7 71 fun K hK=>?_;go_simp;go_at_call 136;refine(GQ 3 a.rho (Ax.none Ce 3 _) (by omega) (some ⟨W1.heap.size,0,none⟩) 1 1).mono ?_;rintro e w2 ⟨q,m,qc,rfl,aC,cB,hb⟩;have bQ:Hd (Ax Ce 3 w2 q m qc []):=aC;have iq:Hd (G0 w2 (some ⟨W1.heap.size,0,none⟩) 1 1 [x.ty]):=((Kl (LR.lies_below HX.o.below _ (HH.o.res.each x (by simp)).ty) 28).below (At _)).below hb;clear aC cB;try go_wp2_with fail
 refine tn hK (aA.step hb) ?_;clear aA hK K;intro aA;refine tr 11 75 fun K hK=>?_;go_simp;go_at_call 138;refine(Gb a.rho _).mono ?_;rintro e w3 ⟨rfl,hb⟩;have aL:=AF hb;try go_wp2_with fail
 refine tn hK (aA.step hb) ?_;clear aA hK K;intro aA;refine tr 12 76 fun K hK=>?_;go_simp;refine tn hK (aA.alloc _) ?_;clear aA hK K;intro aA;refine tr 13 77 fun K hK=>?_;go_simp;go_at_call 140;refine(Dj (HH.o.res.row.below aA.below) (fun r hr=>((HH.o.res.each r hr).below aA.below).eff) (Iu w3 (Fu a.rho)) (by decide) (by omega)).mono ?_;rintro e w5 ⟨v5,k5,rfl,aE,hb⟩;obtain⟨q5,c5,rfl,aN⟩:=A1.isRow BF (by omega) aE;have aO:=(fun ad hp=>by subst hp;exact A1.from aE ad.block rfl:∀ad,q5=some ad->(w3.alloc (.cells #[.int .u8 (Fu a.rho).kind,.int .i64 (Fu a.rho).rho,.string (Fu a.rho).exn] 59)).heap.size<=ad.block);have bR:=AF aN;have cC:=AF aO;have aw:=AF hb;clear aE aN aO;try go_wp2_with fail
 refine tn hK (aA.step hb) ?_;clear aA hK K;intro aA;refine tp 14 78 ?_;refine Fo 15 fun K hK=>?_;have aY:=AF aA;refine DJ rfl _ _ _ (by rfl) aA #[.int .u8 3,.int .i64 a.rho,.slice q m qc,.slice (some ⟨W1.heap.size,0,none⟩) 1 1,.slice q5 k5 c5] (by rfl) (by rfl) (by kernel_rfl) rfl (by simp [Value.oneCell']) ?_;refine tn hK (aA.store rfl) ?_;clear aA hK K;intro aA;refine dn ?_;clear aA;go_wp2_with fail;refine br (aY.o.heap _) underlying81 ?_;have aD:=HH.o.own;have f7:Below w2.heap.size w2 w5:=An (Ay aL.o _) aw.o;have dy:=HX.o.size;refine Hy (y:=⟨.node ⟨3,a.rho,q,m,qc,[],some ⟨W1.heap.size,0,none⟩,1,1⟩ [x.ty],q5,k5,c5,Ee (Em [x]) [Fu a.rho]⟩) aY.o HH.o.new ⟨ZAr (by decide) aD.rho (bQ.o.below f7) (fun x hx=>(nomatch hx)) (iq.o.below f7),?_,bR.o,G1 (fun r hr=>(HH.o.res.each r hr).eok) (fun z hz=>by rw [AQ] at hz;subst hz;exact Kk aD.rho.1 aD.rho.2),fun _ ad hp=>.inr ?_⟩ rfl
 ·have hr:=Io HH.o.res (AA _ _);exact ZAt (hr.each x (by simp)).uses (.inr dy) (fun h=>absurd rfl h)
 ·have h1:=cC.o ad hp;have h2:=aL.o.size;simp only [AN] at h1;have h4:W1.heap.size<=w2.heap.size:=by obtain⟨b',o',e1,e2,_⟩:=iq.o.kid (j:=0) rfl;cases e1;omega
  omega
theorem Po(hu:l.all (fun r=>r.ty.head.kind==1)=u)(hr:Ax Fm 5 w p n c l):Calls prog 143 #[.slice p n c] w (RB w (.bool u)):=by subst hu;exact QH hr
theorem ZBB(h:Id w S a p n c l)(hk:a.kind=1):Calls prog 99 #[DP a,.slice p n c] w (Gm w S (Dl a.plain (Em l))):=by
 have HX:=AF (Fx w a);have HH:=AF h;have ja:=h.few;have bj:=h.sum;have e3:(a.kind==3)=false:=by simp [hk]
 have e4:(a.kind==4)=false:=by simp [hk]
 have e5:(a.kind==5)=false:=by simp [hk]
 have e6:(a.kind==6)=false:=by simp [hk]
 have e7:(a.kind==7)=false:=by simp [hk]
 have e8:(a.kind==8)=false:=by simp [hk]
 have e10:(a.kind==10)=false:=by simp [hk]
 have e9:(a.kind==9)=false:=by simp [hk]
 have e14:(a.kind==14)=false:=by simp [hk]
 have e15:(a.kind==15)=false:=by simp [hk]
 have e1:(a.kind==1)=true:=by simp [hk]
 have bg:=HX.o.box.c 0 _ rfl;have cI:Hd (Dl a.plain (Em l)=.ok (NN,Ee (Em l) [])):=by show _=_;unfold Dl;simp [show a.plain.kind=1 from hk]
 rw [cI.o];clear h hk;go_enter func99,ntmps99;go_upto_region 29 with fail;clear bg e3 e4 e5 e6 e7 e8 e10 e9 e14 e15 e1;generalize (w.alloc (Bt a)).alloc (.cells #[.int .u8 0,.int .i64 0,.slice none 0 0,.slice none 0 0,.slice none 0 0] 81)=W1 at *
 go_wp2_with (first
  |(refine Ip rfl _ _ _ rfl bC.o #[.int .u8 1,.int .i64 0,.slice q m qc,.slice none 0 0,.slice q3 k3 c3] rfl rfl (by kernel_rfl) rfl (by simp [Value.oneCell']) ?_)
  |(go_at_call 136;refine(GQ 1 0 (Ax.none Ce 3 _) (by omega) none 0 0).mono ?_;rintro e w2 ⟨q,m,qc,rfl,aC,cB,hb⟩;have bQ:Hd (Ax Ce 3 w2 q m qc []):=aC;have aQ:=AF (HX.o.step hb);clear aC cB hb)
  |(go_at_call 140;refine(Dj (HH.o.res.row.below aQ.o.below) (fun r hr=>((HH.o.res.each r hr).below aQ.o.below).eff) (Ax.none Ce 3 _) ja (by omega)).mono ?_;rintro e w3 ⟨v3,k3,rfl,aR,bF⟩;obtain⟨q3,c3,rfl,bw⟩:=A1.isRow BF (by omega) aR;have gA:=(fun ad hp=>by subst hp;exact A1.from aR ad.block rfl:∀ad,q3=some ad->w2.heap.size<=ad.block);have iH:=AF bw;have jA:=AF gA;have bC:=AF (aQ.o.step bF);have aL:=AF bF;clear aR bw gA bF))
 refine br (bC.o.heap _) underlying81 ?_;exact Wm bC.o HH.o.new (bQ.o.below aL.o) iH.o (fun ad hp=>by have h1:=jA.o ad hp;have h2:=aQ.o.size;omega) (G1 (fun r hr=>(HH.o.res.each r hr).eok) (fun x hx=>(nomatch hx)))
theorem ZCW(h:Id w S a p n c l)(hk:a.kind=9):Calls prog 99 #[DP a,.slice p n c] w (Gm w S (Dl a.plain (Em l))):=by
 have HX:=AF (Fx w a);have HH:=AF h;have ja:=h.few;have bj:=h.sum;have e3:(a.kind==3)=false:=by simp [hk]
 have e4:(a.kind==4)=false:=by simp [hk]
 have e5:(a.kind==5)=false:=by simp [hk]
 have e6:(a.kind==6)=false:=by simp [hk]
 have e7:(a.kind==7)=false:=by simp [hk]
 have e8:(a.kind==8)=false:=by simp [hk]
 have e10:(a.kind==10)=false:=by simp [hk]
 have e9:(a.kind==9)=true:=by simp [hk]
 have bg:=HX.o.box.c 0 _ rfl;obtain⟨u,hu⟩:∃u,l.all (fun r=>r.ty.head.kind==1)=u:=⟨_,rfl⟩;have HU:=AF hu;have cI:Hd (Dl a.plain (Em l)=EB u a.plain 5 (.ok (NN,Ee (Em l) []))):=by show _=_;unfold Dl;rw [<-hu,<-Zp];simp [show a.plain.kind=9 from hk];try rfl
 rw [cI.o];clear h hk hu;go_enter func99,ntmps99;go_upto_region 21 with fail;clear bg;generalize (w.alloc (Bt a)).alloc (.cells #[.int .u8 0,.int .i64 0,.slice none 0 0,.slice none 0 0,.slice none 0 0] 81)=W1 at *
 refine rg (fun W'=>JM w a W') (HX.o.drew) fun aA=>?_;refine tp 0 185 ?_;refine ta 2 187 a w.heap.size 0 (fun W' aB=>aB.box.range) ?_;refine tr 1 186 fun K hK=>?_;go_simp;go_at_call 143;refine(Po HU.o (HH.o.res.row.below aA.below)).mono ?_;rintro e w8 ⟨rfl,hb⟩;try go_wp2_with fail
 refine tn hK (aA.step hb) ?_;clear aA hK K;intro aA;refine tr 3 188 fun K hK=>?_;go_simp;cases u
 ·go_at_call 64;refine(D3 a 5 _).mono ?_;rintro e w9 ⟨rfl,hb⟩;exact⟨rfl,rfl,(aA.step hb).below⟩
 go_at_call 64;refine(Dw a 5 _).mono ?_;rintro e w9 ⟨rfl,hb⟩;try go_wp2_with fail
 refine tn hK (aA.step hb) ?_;clear aA hK K;intro aA;refine dn ?_;clear HX;have HX:=AF aA;clear aA
 go_wp2_with (first
  |(refine Ip rfl _ _ _ rfl bC.o #[.int .u8 1,.int .i64 0,.slice q m qc,.slice none 0 0,.slice q3 k3 c3] rfl rfl (by kernel_rfl) rfl (by simp [Value.oneCell']) ?_)
  |(go_at_call 136;refine(GQ 1 0 (Ax.none Ce 3 _) (by omega) none 0 0).mono ?_;rintro e w2 ⟨q,m,qc,rfl,aC,cB,hb⟩;have bQ:Hd (Ax Ce 3 w2 q m qc []):=aC;have aQ:=AF (HX.o.step hb);clear aC cB hb)
  |(go_at_call 140;refine(Dj (HH.o.res.row.below aQ.o.below) (fun r hr=>((HH.o.res.each r hr).below aQ.o.below).eff) (Ax.none Ce 3 _) ja (by omega)).mono ?_;rintro e w3 ⟨v3,k3,rfl,aR,bF⟩;obtain⟨q3,c3,rfl,bw⟩:=A1.isRow BF (by omega) aR;have gA:=(fun ad hp=>by subst hp;exact A1.from aR ad.block rfl:∀ad,q3=some ad->w2.heap.size<=ad.block);have iH:=AF bw;have jA:=AF gA;have bC:=AF (aQ.o.step bF);have aL:=AF bF;clear aR bw gA bF))
 refine br (bC.o.heap _) underlying81 ?_;exact Wm bC.o HH.o.new (bQ.o.below aL.o) iH.o (fun ad hp=>by have h1:=jA.o ad hp;have h2:=aQ.o.size;omega) (G1 (fun r hr=>(HH.o.res.each r hr).eok) (fun x hx=>(nomatch hx)))
theorem XG(h:Id w S a p n c l)(hk:a.kind=15):Calls prog 99 #[DP a,.slice p n c] w (Gm w S (Dl a.plain (Em l))):=by
 have HX:=AF (Fx w a);have HH:=AF h;have ja:=h.few;have bj:=h.sum;have e3:(a.kind==3)=false:=by simp [hk]
 have e4:(a.kind==4)=false:=by simp [hk]
 have e5:(a.kind==5)=false:=by simp [hk]
 have e6:(a.kind==6)=false:=by simp [hk]
 have e7:(a.kind==7)=false:=by simp [hk]
 have e8:(a.kind==8)=false:=by simp [hk]
 have e10:(a.kind==10)=false:=by simp [hk]
 have e9:(a.kind==9)=false:=by simp [hk]
 have e14:(a.kind==14)=false:=by simp [hk]
 have e15:(a.kind==15)=true:=by simp [hk]
 have bg:=HX.o.box.c 0 _ rfl;obtain⟨u,hu⟩:∃u,l.all (fun r=>r.ty.head.kind==1)=u:=⟨_,rfl⟩;have HU:=AF hu;have cI:Hd (Dl a.plain (Em l)=EB u a.plain 5 (.ok (a.ty.er,Ee (Em l) [Zo a.exn]))):=by show _=_;unfold Dl;rw [<-hu,<-Zp];simp [show a.plain.kind=15 from hk];try rfl
 rw [cI.o];clear h hk hu;go_enter func99,ntmps99;go_upto_region 26 with fail;clear bg;generalize (w.alloc (Bt a)).alloc (.cells #[.int .u8 0,.int .i64 0,.slice none 0 0,.slice none 0 0,.slice none 0 0] 81)=W1 at *
 refine rg (fun W'=>JM w a W') (HX.o.drew) fun aA=>?_;refine tp 0 218 ?_;refine ta 2 220 a w.heap.size 0 (fun W' aB=>aB.box.range) ?_;refine tr 1 219 fun K hK=>?_;go_simp;go_at_call 143;refine(Po HU.o (HH.o.res.row.below aA.below)).mono ?_;rintro e w8 ⟨rfl,hb⟩;try go_wp2_with fail
 refine tn hK (aA.step hb) ?_;clear aA hK K;intro aA;refine tr 3 221 fun K hK=>?_;go_simp;cases u
 ·go_at_call 64;refine(D3 a 5 _).mono ?_;rintro e w9 ⟨rfl,hb⟩;exact⟨rfl,rfl,(aA.step hb).below⟩
 go_at_call 64;refine(Dw a 5 _).mono ?_;rintro e w9 ⟨rfl,hb⟩;try go_wp2_with fail
 refine tn hK (aA.step hb) ?_;clear aA hK K;intro aA;refine dn ?_;clear HX;have HX:=AF aA;clear aA;go_upto_region 27 with fail;refine rg (fun W'=>JM w a W') (HX.o.drew) fun aA=>?_;refine tp 0 222 ?_;refine t4 1 223 a.ty w.heap.size 10 (fun W' aB=>Fw aB.box 10 4 rfl) ?_;refine tp 2 224 ?_;refine tp 3 225 ?_;refine tp 4 226 ?_;refine tp 5 227 ?_ (hy:=fun w aB=>by(try dsimp only at aB);have q6:=aB.box.c 6 _ rfl;go_simp;try with_reducible rfl);refine tp 6 228 ?_;refine tr 7 229 fun K hK=>?_;go_simp;refine tn hK (aA.alloc _) ?_;clear aA hK K;intro aA;refine tr 8 230 fun K hK=>?_;go_simp;go_at_call 140;refine(Dj (HH.o.res.row.below aA.below) (fun r hr=>((HH.o.res.each r hr).below aA.below).eff) ((Iu w9 (Zo a.exn)).below (At _)) ja (by omega)).mono ?_;rintro e w5 ⟨v5,k5,rfl,aE,hb⟩;obtain⟨q5,c5,rfl,aN⟩:=A1.isRow BF (by omega) aE;have aO:=(fun ad hp=>by subst hp;have:=A1.from aE ad.block rfl;simpa using this:∀ad,q5=some ad->w9.heap.size+1<=ad.block);have bR:=AF aN;have cC:=AF aO;clear aE aN aO;try go_wp2_with fail
 refine tn hK (aA.step hb) ?_;clear aA hK K;intro aA;refine tp 9 231 ?_;refine Fo 10 fun K hK=>?_;have aY:=AF aA;refine DJ rfl _ _ _ (by rfl) aA #[.int .u8 a.ty.head.kind,.int .i64 a.ty.head.rho,.slice a.ty.head.ep a.ty.head.en a.ty.head.ec,.slice a.ty.head.kp a.ty.head.kn a.ty.head.kc,.slice q5 k5 c5] (by rfl) (by rfl) (by kernel_rfl) rfl (by simp [Value.oneCell']) ?_;refine tn hK (aA.store rfl) ?_;clear aA hK K;intro aA;refine dn ?_;clear aA;go_wp2_with fail;refine br (aY.o.heap _) underlying81 ?_;have aD:=HH.o.own;have dy:=HX.o.size;refine Hy (y:=⟨a.ty,q5,k5,c5,Ee (Em l) [Zo a.exn]⟩) aY.o HH.o.new ⟨LR.lies_below aY.o.below _ aD.ty,fun z hz=>.inl ⟨CW _ aD.ty z hz,HH.o.ty z hz⟩,bR.o,G1 (fun r hr=>(HH.o.res.each r hr).eok) (fun z hz=>by rw [AQ] at hz;subst hz;exact⟨by show (0:Int)<=3;decide,by show (3:Int)<=255;decide,by show _<=(0:Int);decide,by show (0:Int)<=_;decide,aD.exn⟩),fun _ ad hp=>.inr ?_⟩ rfl;have h1:=cC.o ad hp;omega
end Go.Proofs.YtkdjnegfnhldpaaGreatDoor
