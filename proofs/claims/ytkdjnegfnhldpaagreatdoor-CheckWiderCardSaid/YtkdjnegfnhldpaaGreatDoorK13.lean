/- Part 13. -/
import Derived.Test.YtkdjnegfnhldpaaGreatDoorK12
set_option linter.unusedVariables false
set_option maxRecDepth 100000
set_option linter.unusedSimpArgs false
set_option maxHeartbeats 40000000
namespace Go.Proofs.YtkdjnegfnhldpaaGreatDoor
open Go.Proofs.Tryz Go.RowKit
section
open Go.Shelf
theorem M4(x L:Int)(g:Nat){W:World}(hg:W.cell? ⟨g,0,none⟩=some (.int .i64 L)):Calls prog 123 #[.int .i64 x,.pointer (some ⟨g,0,none⟩)] W fun e w'=>e=.returned (.bool (decide (x<L)))∧w'=W:=by go_enter func123,ntmps123;go_wp2_with fail;go_ret;exact⟨rfl,rfl⟩
theorem Hl{W:World}{p:Option Addr}{n c:Nat}{l:List Int}(hr:AF Am 1 W p n c l){g:Nat}{L:Int}(hg:W.cell? ⟨g,0,none⟩=some (.int .i64 L)):Calls prog 122 #[.slice p n c,.func (.func 123) #[] #[.pointer (some ⟨g,0,none⟩)]] W fun e w'=>e=.returned (.bool (l.any (fun r=>decide (r<L))))∧Below W.heap.size W w':=by
 have cP:=hr.len;have pT:=hr.max;rcases hr.row with h|⟨b,o,hp,hb,hc⟩
 ·subst h;obtain rfl:n=0:=by simpa using cP.symm
  refine(CJ (α:=Int) p c _ W).mono ?_;rintro e w' ⟨rfl,rfl⟩;exact⟨rfl,Below.refl _ _⟩
 ·subst hp;have eA:∀j,j<l.length→W.cell? ⟨b,o+j,none⟩=some (Value.int .i64 (l[j]!)):=fun j hj=>by have:=hc j (l[j]!) (by rw [List.getElem?_eq_getElem hj,getElem!_pos l j hj]) 0 (.int .i64 (l[j]!)) rfl;simpa using this
  refine(DG (α:=Int) (Value.int .i64) (fun r:Int=>decide (r<L)) 123 #[.pointer (some ⟨g,0,none⟩)] (fun args w=>rfl) b o n c l W ?_ (by omega) (by omega) eA).mono ?_
  ·intro W' x bB;refine(M4 x L g (by rw [bB.cell (BC hg)];exact hg)).mono ?_;rintro e w' ⟨rfl,rfl⟩;exact⟨rfl,0,rfl⟩
  ·rintro e w' ⟨rfl,q,rfl⟩;rw [List.take_of_length_le (by omega)];exact⟨rfl,rfl,rfl,rfl,Nat.le_refl _,fun _ _=>rfl⟩
def Js(a:AH)(fr fh:Bool):Bool:=!((!fr&&(a.rho != 0))||(decide (a.rho<0)||(a.kind==17)&&decide (a.rho<1))||(!fh&&decide (0<a.rn)))&&!(a.rhos.any (fun r=>decide (r<if a.kind=13 then 1 else 0)))
theorem P4(a:AH)(fr fh fe ft fs:Bool){w:World}(hr:AF Am 1 w a.rp a.rn a.rc a.rhos)(bn:a.kind=13):Calls prog 91 #[An a,.agg #[.bool fr,.bool fh,.bool fe,.bool ft,.bool fs]] w (RB w (.bool (Js a fr fh))):=by
 have HR:=AA hr;have HQ:Hd (Js a fr fh=(!((!fr&&(a.rho != 0))||(decide (a.rho<0)||false&&decide (a.rho<1))||(!fh&&decide (0<a.rn)))&&!(a.rhos.any (fun r=>decide (r<1))))):=by show _=_;unfold Js;rw [if_pos bn];simp [bn]
 have e13:(a.kind==13)=true:=by simp [bn]
 have e17:(a.kind==17)=false:=by simp [bn]
 clear hr bn;have HB:=AA (((Below.refl w.heap.size w).alloc (Nat.le_refl _) (AO a)).alloc (by simp) (.cells #[.bool fr,.bool fh,.bool fe,.bool ft,.bool fs] 137));have aT:=AA (HB.o.alloc HB.o.size (.cells #[.int .i64 1] 3));have cR:=AA (((Ah w a).below ((Below.refl _ _).alloc (Nat.le_refl _) (.cells #[.bool fr,.bool fh,.bool fe,.bool ft,.bool fs] 137))).below ((Below.refl _ _).alloc (Nat.le_refl _) (.cells #[.int .i64 0] 3)));have ds:=AA (((Ah w a).below ((Below.refl _ _).alloc (Nat.le_refl _) (.cells #[.bool fr,.bool fh,.bool fe,.bool ft,.bool fs] 137))).below ((Below.refl _ _).alloc (Nat.le_refl _) (.cells #[.int .i64 1] 3)));have gI:=AA (Hl (HR.o.below aT.o) (g:=w.heap.size+2) (L:=1) (by rw [show w.heap.size+2=((w.alloc (AO a)).alloc (.cells #[.bool fr,.bool fh,.bool fe,.bool ft,.bool fs] 137)).heap.size by simp,AU];rfl));have f0:(((w.alloc (AO a)).alloc (.cells #[.bool fr,.bool fh,.bool fe,.bool ft,.bool fs] 137)).alloc (.cells #[.int .i64 1] 3)).cell? ⟨w.heap.size+1,0,none⟩=some (.bool fr):=by go_simp
 have f1:(((w.alloc (AO a)).alloc (.cells #[.bool fr,.bool fh,.bool fe,.bool ft,.bool fs] 137)).alloc (.cells #[.int .i64 1] 3)).cell? ⟨w.heap.size+1,1,none⟩=some (.bool fh):=by go_simp
 have d0:=cR.o.c 0 _ rfl;have c0:=ds.o.c 0 _ rfl;have c7:=ds.o.c 7 _ rfl;have c8:=ds.o.c 8 _ rfl;have mh:=HR.o.max;generalize a.rhos.any (fun r=>decide (r<1))=R at *
 go_enter func91,ntmps91;go_upto_region 4 with fail;generalize ((w.alloc (AO a)).alloc (.cells #[.bool fr,.bool fh,.bool fe,.bool ft,.bool fs] 137)).alloc (.cells #[.int .i64 1] 3)=W3 at *
 cases fr<;>cases fh
 all_goals (
  go_wp2_with (go_at_call 122;refine gI.o.mono ?_;rintro e w4 ⟨rfl,hb⟩;have bQ:=bt aT hb;clear hb)
  all_goals (
   go_ret;refine⟨AE ?_,by first|exact bQ.o|exact aT.o⟩;rw [HQ.o];clear c0 c7 c8 d0 f0 f1 cR ds gI HB;simp_all;try omega))
theorem P5(a:AH)(fr fh fe ft fs:Bool){w:World}(hr:AF Am 1 w a.rp a.rn a.rc a.rhos)(bn:a.kind≠13):Calls prog 91 #[An a,.agg #[.bool fr,.bool fh,.bool fe,.bool ft,.bool fs]] w (RB w (.bool (Js a fr fh))):=by
 have HR:=AA hr;have HQ:Hd (Js a fr fh=(!((!fr&&(a.rho != 0))||(decide (a.rho<0)||(a.kind==17)&&decide (a.rho<1))||(!fh&&decide (0<a.rn)))&&!(a.rhos.any (fun r=>decide (r<0))))):=by show _=_;unfold Js;rw [if_neg bn]
 have e13:(a.kind==13)=false:=by simp [bn]
 clear hr bn;cases e17:(a.kind==17)
 ·rw [e17] at HQ;have HB:=AA (((Below.refl w.heap.size w).alloc (Nat.le_refl _) (AO a)).alloc (by simp) (.cells #[.bool fr,.bool fh,.bool fe,.bool ft,.bool fs] 137));have aT:=AA (HB.o.alloc HB.o.size (.cells #[.int .i64 0] 3));have cR:=AA (((Ah w a).below ((Below.refl _ _).alloc (Nat.le_refl _) (.cells #[.bool fr,.bool fh,.bool fe,.bool ft,.bool fs] 137))).below ((Below.refl _ _).alloc (Nat.le_refl _) (.cells #[.int .i64 0] 3)));have ds:=AA (((Ah w a).below ((Below.refl _ _).alloc (Nat.le_refl _) (.cells #[.bool fr,.bool fh,.bool fe,.bool ft,.bool fs] 137))).below ((Below.refl _ _).alloc (Nat.le_refl _) (.cells #[.int .i64 0] 3)));have gI:=AA (Hl (HR.o.below aT.o) (g:=w.heap.size+2) (L:=0) (by rw [show w.heap.size+2=((w.alloc (AO a)).alloc (.cells #[.bool fr,.bool fh,.bool fe,.bool ft,.bool fs] 137)).heap.size by simp,AU];rfl));have f0:(((w.alloc (AO a)).alloc (.cells #[.bool fr,.bool fh,.bool fe,.bool ft,.bool fs] 137)).alloc (.cells #[.int .i64 0] 3)).cell? ⟨w.heap.size+1,0,none⟩=some (.bool fr):=by go_simp
  have f1:(((w.alloc (AO a)).alloc (.cells #[.bool fr,.bool fh,.bool fe,.bool ft,.bool fs] 137)).alloc (.cells #[.int .i64 0] 3)).cell? ⟨w.heap.size+1,1,none⟩=some (.bool fh):=by go_simp
  have d0:=cR.o.c 0 _ rfl;have c0:=ds.o.c 0 _ rfl;have c7:=ds.o.c 7 _ rfl;have c8:=ds.o.c 8 _ rfl;have mh:=HR.o.max;generalize a.rhos.any (fun r=>decide (r<0))=R at *
  go_enter func91,ntmps91;go_upto_region 4 with fail;generalize ((w.alloc (AO a)).alloc (.cells #[.bool fr,.bool fh,.bool fe,.bool ft,.bool fs] 137)).alloc (.cells #[.int .i64 0] 3)=W3 at *
  cases fr<;>cases fh
  all_goals (
   go_wp2_with (go_at_call 122;refine gI.o.mono ?_;rintro e w4 ⟨rfl,hb⟩;have bQ:=bt aT hb;clear hb)
   all_goals (
    go_ret;refine⟨AE ?_,by first|exact bQ.o|exact aT.o⟩;rw [HQ.o];clear c0 c7 c8 d0 f0 f1 cR ds gI HB;simp_all;try omega))
 ·rw [e17] at HQ;have HB:=AA (((Below.refl w.heap.size w).alloc (Nat.le_refl _) (AO a)).alloc (by simp) (.cells #[.bool fr,.bool fh,.bool fe,.bool ft,.bool fs] 137));have aT:=AA (HB.o.alloc HB.o.size (.cells #[.int .i64 0] 3));have cR:=AA (((Ah w a).below ((Below.refl _ _).alloc (Nat.le_refl _) (.cells #[.bool fr,.bool fh,.bool fe,.bool ft,.bool fs] 137))).below ((Below.refl _ _).alloc (Nat.le_refl _) (.cells #[.int .i64 0] 3)));have ds:=AA (((Ah w a).below ((Below.refl _ _).alloc (Nat.le_refl _) (.cells #[.bool fr,.bool fh,.bool fe,.bool ft,.bool fs] 137))).below ((Below.refl _ _).alloc (Nat.le_refl _) (.cells #[.int .i64 0] 3)));have gI:=AA (Hl (HR.o.below aT.o) (g:=w.heap.size+2) (L:=0) (by rw [show w.heap.size+2=((w.alloc (AO a)).alloc (.cells #[.bool fr,.bool fh,.bool fe,.bool ft,.bool fs] 137)).heap.size by simp,AU];rfl));have f0:(((w.alloc (AO a)).alloc (.cells #[.bool fr,.bool fh,.bool fe,.bool ft,.bool fs] 137)).alloc (.cells #[.int .i64 0] 3)).cell? ⟨w.heap.size+1,0,none⟩=some (.bool fr):=by go_simp
  have f1:(((w.alloc (AO a)).alloc (.cells #[.bool fr,.bool fh,.bool fe,.bool ft,.bool fs] 137)).alloc (.cells #[.int .i64 0] 3)).cell? ⟨w.heap.size+1,1,none⟩=some (.bool fh):=by go_simp
  have d0:=cR.o.c 0 _ rfl;have c0:=ds.o.c 0 _ rfl;have c7:=ds.o.c 7 _ rfl;have c8:=ds.o.c 8 _ rfl;have mh:=HR.o.max;generalize a.rhos.any (fun r=>decide (r<0))=R at *
  go_enter func91,ntmps91;go_upto_region 4 with fail;generalize ((w.alloc (AO a)).alloc (.cells #[.bool fr,.bool fh,.bool fe,.bool ft,.bool fs] 137)).alloc (.cells #[.int .i64 0] 3)=W3 at *
  cases fr<;>cases fh
  all_goals (
   go_wp2_with (go_at_call 122;refine gI.o.mono ?_;rintro e w4 ⟨rfl,hb⟩;have bQ:=bt aT hb;clear hb)
   all_goals (
    go_ret;refine⟨AE ?_,by first|exact bQ.o|exact aT.o⟩;rw [HQ.o];clear c0 c7 c8 d0 f0 f1 cR ds gI HB;simp_all;try omega))
theorem OW(a:AH)(fr fh fe ft fs:Bool){w:World}(hr:AF Am 1 w a.rp a.rn a.rc a.rhos):Calls prog 91 #[An a,.agg #[.bool fr,.bool fh,.bool fe,.bool ft,.bool fs]] w (RB w (.bool (Js a fr fh))):=by
 by_cases bn:a.kind=13
 ·exact P4 a fr fh fe ft fs hr bn
 ·exact P5 a fr fh fe ft fs hr bn
end
section
open Go.Lib
theorem QM(p:Option Addr)(n c:Nat)(w:World):Calls prog 125 #[.slice p n c] w fun e w'=>e=.returned (.func (.func 173) #[] #[.pointer (some ⟨w.heap.size,0,none⟩)])∧w'=w.alloc (.cells #[.slice p n c] 24):=by go_enter func125,ntmps125;go_wp2_with fail;go_ret;exact⟨rfl,rfl⟩
theorem Nu(Bs:Nat)(sv:Value)(xs:List Int)(ac:xs.length * 8≤140737488351232)(w:World)(dd:Bs<w.heap.size)(ao:w.cell? ⟨Bs,0,none⟩=some sv)(hI:IE w.heap.size w sv xs):Calls prog 171 #[.func (.func 173) #[] #[.pointer (some ⟨Bs,0,none⟩)]] w fun e W'=>∃v,e=.returned v∧AI Am 1 W' w.heap.size 3 v xs.length xs∧Below w.heap.size w W':=by have HC:=AA (LK Bs sv xs ac w dd ao hI);clear ao hI;go_enter func171,ntmps171;go_wp2_with (go_at_call 208;refine HC.o.mono ?_;rintro e w2 ⟨v,rfl,aD,hb⟩;have HO:=AA aD;have HB:=AA hb;clear aD hb);go_ret;refine⟨_,rfl,?_,HB.o⟩;show World.ownsRow _ _ _ _ _ _ _;rw [Qe];exact HO.o
theorem S0{w:World}{p:Option Addr}{n c:Nat}{l:List Int}(h:AF Am 1 w p n c l):IE w.heap.size w (.slice p n c) l:=by
 rcases h.row with h0|⟨b,o,hp,hb,hc⟩
 ·left;subst h0;have:n=0:=by simpa using h.len.symm
  subst this;exact⟨p,c,rfl,rfl⟩
 ·refine .inr ⟨b,o,c,by rw [hp,h.len],hb,fun j hj=>?_⟩;have:=hc j (l[j]) (List.getElem?_eq_getElem hj) 0 (.int .i64 l[j]) rfl;rw [List.getElem?_eq_getElem hj];simpa using this
theorem QG(Bs:Nat)(sv:Value)(xs:List Int)(hn:xs.length≤1000000)(w:World)(dd:Bs<w.heap.size)(ao:w.cell? ⟨Bs,0,none⟩=some sv)(hI:IE w.heap.size w sv xs):Calls prog 124 #[.func (.func 173) #[] #[.pointer (some ⟨Bs,0,none⟩)]] w fun e W'=>∃v,e=.returned v∧AI Am 1 W' w.heap.size 3 v xs.length (Dt xs)∧Below w.heap.size w W':=by
 have HC:=AA (Nu Bs sv xs (by omega) w dd ao hI);clear ao hI;go_enter func124,ntmps124;go_upto_region 2 with(go_at_call 171;refine HC.o.mono ?_;rintro e w2 ⟨v,rfl,aD,hb⟩;have HO:=AA aD;have HB:=AA hb;clear aD hb)
 rcases HO.o.2 with⟨hv,h0⟩|⟨g,cap,cur,hv,hb,hg,dR,hm,hs,ht⟩
 ·subst hv;have hx:xs=[]:=List.eq_nil_of_length_eq_zero h0;subst hx;go_wp2_with (go_at_call 172;refine(slices_Sort_int_none none 0 w2).mono ?_;rintro e w3 ⟨rfl,rfl⟩);go_ret;exact⟨_,rfl,by rw [show Dt []=[] by simp [Dt]];exact AI.nil _ _ _ _ _,HB.o⟩
 ·subst hv;clear hg hs ht;go_wp2_with (go_at_call 172;refine(JC g cap xs.length xs w.heap.size w2 HO.o (by omega)).mono ?_;rintro e w3 ⟨rfl,aE,aP⟩;have ee:=AA aE;have aT:=AA (HB.o.grown aP HB.o.size (fun b bB=>by injection bB with bB;omega));clear aE aP);go_ret;exact⟨_,rfl,ee.o,aT.o⟩
def GW(l:List Int):Bool:=decide (((BU l).length:Int)=l.length)
theorem TD{p:Option Addr}{n c:Nat}{l:List Int}{w:World}(h:AF Am 1 w p n c l)(hn:n≤1000000):Calls prog 92 #[.slice p n c] w (RB w (.bool (GW l))):=by
 have HI:=AA (S0 h);have cP:=h.len;have fp:=AA cP;have aO:=AA ((Below.refl w.heap.size w).alloc (Nat.le_refl _) (.cells #[.slice p n c] 24))
 have HS:=AA (QG w.heap.size (.slice p n c) l (by omega) (w.alloc (.cells #[.slice p n c] 24)) (by simp) (by rw [AU];rfl) (by
  rcases HI.o.below aO.o with h|⟨b,off,cap,h1,h2,h3⟩
  ·exact .inl h
  ·exact .inr ⟨b,off,cap,h1,by have:=aO.o.size;omega,h3⟩))
 have HM:Hd (compact (Dt l)=BU l):=Eb l;clear h cP;go_enter func92,ntmps92
 go_upto_region 2 with(first
  |(go_at_call 125;refine(QM p n c w).mono ?_;rintro e w1 ⟨rfl,rfl⟩)
  |(go_at_call 124;refine HS.o.mono ?_;rintro e w2 ⟨v,rfl,aD,hb⟩;have HO:=AA aD;have HB:=bt aO hb;clear aD hb))
 have ms:∀m:Nat,((m:Int)==(n:Int))=decide ((m:Int)=n):=fun m=>rfl;rcases HO.o.2 with⟨hv,h0⟩|⟨g,cap,cur,hv,hb,hg,dR,hm,hs,ht⟩
 ·subst hv;have hx:l=[]:=List.eq_nil_of_length_eq_zero h0;subst hx;have jv:n=0:=by simpa using fp.o.symm
  subst jv;go_wp2_with (go_at_call 126;refine(slices_Compact_int_empty none 0 w2).mono ?_;rintro e w3 ⟨rfl,rfl⟩);go_ret;exact⟨rfl,HB.o⟩
 ·subst hv;have ci:l.length≤cap:=dR;clear hg hs ht;have iP:l.length≤1000000000:=by have:=fp.o;omega
  have nr:=AA (FX g cap l.length (Dt l) (w.alloc (.cells #[.slice p n c] 24)).heap.size w2 HO.o ci iP);go_wp2_with (go_at_call 126;refine nr.o.mono ?_;rintro e w3 ⟨m,rfl,iN,aE,aP⟩;have ee:=AA aE;have aT:=AA (HB.o.grown aP HB.o.size (fun b bB=>by injection bB with bB;have:=aO.o.size;omega));clear aE aP);go_ret;refine⟨AE ?_,aT.o⟩;have h1:=ee.o.len Ap (by omega);rw [HM.o] at h1;unfold GW;rw [←h1,fp.o]
/-! The plain law: the document's regions. -/
theorem Fg(l:List Int):BU l=l.foldl (fun e a=>Hx a e) []:=by obtain⟨h1,h2⟩:=Us l [] (by simp [A9]);exact(KW h1 (fun x=>by rw [h2];simp)).symm
theorem K3(l:List Int)(x:Int):BU (l++[x])=Hx x (BU l):=by rw [Fg,List.foldl_append,←Fg];rfl
theorem Oj{α:Type}{P:List α→Prop}(h0:P [])(h1:∀l x,P l→P (l++[x]))(l:List α):P l:=by
 have:∀m:List α,P m.reverse:=by
  intro m;induction m with
  |nil=>exact h0
  |cons x m ih=>rw [List.reverse_cons];exact h1 _ x ih
 have h:=this l.reverse;rwa [List.reverse_reverse] at h
theorem Tl(l:List Int):(BU l).length≤l.length:=by refine Oj (P:=fun l=>(BU l).length≤l.length) (by simp [Fg]) (fun l x ih=>?_) l;rw [K3];have:=OT x (BU l);simp only [List.length_append,List.length_cons,List.length_nil];omega
theorem TF(l:List Int):GW l=true↔∀i x,l[i]?=some x→FA (l.take i) x=false:=by
 unfold GW;rw [decide_eq_true_iff];refine Oj (P:=fun l=>((BU l).length:Int)=l.length↔∀i x,l[i]?=some x→FA (l.take i) x=false) (by simp [Fg]) (fun l x ih=>?_) l
 ·rw [K3];have h1:=Tl l;by_cases hx:FA (BU l) x=true
  ·have h2:Hx x (BU l)=BU l:=by unfold Hx;rw [if_pos hx]
   rw [h2];constructor
   ·intro h;simp only [List.length_append,List.length_cons,List.length_nil] at h;omega
   ·intro h;have h3:=h l.length x (by simp)
    have h4:x∈l:=by
     have:x∈BU l:=by simpa [FA] using hx
     rwa [DT] at this
    simp [FA] at h3;exact absurd rfl (h3 x h4)
  ·have h2:Hx x (BU l)=Dg x (BU l):=by unfold Hx;rw [if_neg hx]
   rw [h2,Ei]
   have eH:x∉l:=by
    intro h;apply hx;have:x∈BU l:=by rw [DT];exact h
    simpa [FA] using this
   simp only [List.length_append,List.length_cons,List.length_nil];constructor
   ·intro h i y hi;by_cases lu:i<l.length
    ·rw [List.getElem?_append_left lu] at hi;rw [List.take_append_of_le_length (by omega)];exact ih.1 (by omega) i y hi
    ·have:i=l.length:=by have:=(List.getElem?_eq_some_iff.1 hi).1;simp at this;omega
     subst this;simp at hi;subst hi;simp [FA];exact fun y hy e=>eH (e▸hy)
   ·intro h
    have:=ih.2 (fun i y hi=>by
     have lu:i<l.length:=(List.getElem?_eq_some_iff.1 hi).1;have:=h i y (by rw [List.getElem?_append_left lu];exact hi);rwa [List.take_append_of_le_length (by omega)] at this)
    omega
end
def Uw(a:AH):Bool:=
 Da a.hd a.kn&&Js a (Ee [3,6,11,13,17,18] a.kind) ((a.kind==13)||(a.kind==18))&&(!(a.kind==13)||GW a.rhos)&&(!(Ee [11,13,18] a.kind)||DM a.eff)&&(Ee [11,13,18] a.kind||!decide (0<a.en)) &&
  (G2 (Ee [11,13,15] a.kind) a.ty&&G2 (a.kind==13) a.res)
theorem MA(k:Int)(l:List Int):Qq k l l.length=true↔(∀r∈l,¬r<0)∧(k=13→(∀r∈l,¬r<1)∧GW l=true):=by
 unfold Qq;rw [List.all_eq_true,TF];constructor
 ·intro h;have h':∀i x,l[i]?=some x→P6 k l i x=true:=by intro i x hx;have hi:=(List.getElem?_eq_some_iff.1 hx).1;have:=h i (List.mem_range.2 hi);rw [hx] at this;exact this
  refine⟨fun r hr=>?_,fun hk=>⟨fun r hr=>?_,fun i x hx=>?_⟩⟩
  ·obtain⟨i,hi⟩:=List.getElem?_of_mem hr;have:=h' i r hi;unfold P6 at this;simp at this;omega
  ·obtain⟨i,hi⟩:=List.getElem?_of_mem hr;have:=h' i r hi;unfold P6 at this;simp [hk] at this;omega
  ·have:=h' i x hx;unfold P6 at this;simp only [hk,beq_self_eq_true,Bool.true_and,Bool.not_eq_true',Bool.or_eq_false_iff] at this;exact this.2.2
 ·rintro⟨h1,h2⟩ i hi;have hi:=List.mem_range.1 hi;rw [List.getElem?_eq_getElem hi];have h3:=h1 _ (List.getElem_mem hi);show P6 k l i l[i]=true;unfold P6;have e1:decide (l[i]<0)=false:=by simpa using h3
  rw [e1];by_cases hk:k=13
  ·obtain⟨h4,h5⟩:=h2 hk;have h6:=h4 _ (List.getElem_mem hi);have e2:(l[i]==0)=false:=by simp;omega
   rw [e2,h5 i _ (List.getElem?_eq_getElem hi)];simp
  ·have e2:(k==13)=false:=by simpa using hk
   rw [e2];rfl
theorem TA(a:AH)(hr:a.rhos.length=a.rn)(he:a.eff.length=a.en):Uw a=Cs a:=by
 have jr:a.en=0→DM a.eff=true:=by intro h;have:a.eff=[]:=List.eq_nil_of_length_eq_zero (by omega);rw [this];decide
 have j7:Qq a.kind a.rhos a.rn=(!(a.rhos.any (fun r=>decide (r<if a.kind=13 then 1 else 0)))&&(!(a.kind==13)||GW a.rhos)):=by
  rw [←hr,Bool.eq_iff_iff,MA];by_cases hk:a.kind=13
  ·simp only [hk,if_true,forall_const,beq_self_eq_true,Bool.not_true,Bool.false_or,Bool.and_eq_true,Bool.not_eq_true',List.any_eq_false,decide_eq_true_eq];constructor
   ·rintro⟨_,h2,h3⟩;exact⟨h2,h3⟩
   ·rintro⟨h2,h3⟩;exact⟨fun r ah h=>h2 r ah (by omega),h2,h3⟩
  ·have e2:(a.kind==13)=false:=by simpa using hk
   simp only [hk,if_false,e2,Bool.not_false,Bool.true_or,Bool.and_true,Bool.not_eq_true',List.any_eq_false,decide_eq_true_eq,false_implies,and_true]
 unfold Uw Cs Js G2;rw [j7];generalize a.rhos.any (fun r=>decide (r<if a.kind=13 then 1 else 0))=R;generalize GW a.rhos=O;generalize Da a.hd a.kn=H;generalize Bj a.ty.er=T1;generalize Bj a.res.er=T2;generalize Ct a.ty.head=P1;generalize Ct a.res.head=P2;have e13:(a.kind != 13)=!(a.kind==13):=rfl;have e18:(a.kind != 18)=!(a.kind==18):=rfl;have e0:(a.rho != 0)=!(a.rho==0):=rfl;have e1:decide (a.rho<1)=(decide (a.rho<0)||(a.rho==0)):=by rw [Bool.eq_iff_iff];simp;omega
 have em:decide (0<a.en)=false→DM a.eff=true:=fun h=>jr (by simpa using h);rw [e13,e18,e0,e1];generalize (a.kind==13)=K13 at *
 generalize (a.kind==18)=K18 at *
 generalize (a.kind==17)=K17 at *
 generalize (a.rho==0)=Z at *
 generalize decide (a.rho<0)=N at *
 generalize decide (0<a.rn)=RN at *
 generalize decide (0<a.en)=EN at *
 generalize DM a.eff=M at *
 generalize Ee [3,6,11,13,17,18] a.kind=I1 at *
 generalize Ee [11,13,18] a.kind=I2 at *
 generalize Ee [11,13,15] a.kind=I3 at *
 clear hr he jr j7 e13 e18 e0 e1;clear a;grind
structure U1(a:AH):Prop where
 k1:1≤a.kind
 k18:a.kind≤18
 kids:BI (if a.kind=17 then 4 else if a.kind=18 then 1 else a.kind)=a.kn
 op:a.kind=9→1≤a.op∧a.op≤5
 op0:a.kind≠9→a.op=0
 n:0≤a.n
 n0:a.kind≠1→a.n=0
 name:(a.kind=2∨a.kind=12∨a.kind=13∨a.kind=18)→Bo a.name=true
 name0:¬(a.kind=2∨a.kind=12∨a.kind=13∨a.kind=18)→a.name.size=0
 arg:(a.kind=11∨a.kind=13∨a.kind=16)→Bo a.arg=true
 arg0:¬(a.kind=11∨a.kind=13∨a.kind=16)→a.arg.size=0
 exn:(a.kind=15∨a.kind=16)→Cg a.exn=true
 exn0:¬(a.kind=15∨a.kind=16)→a.exn.size=0
 rho:0≤a.rho
 rho0:Ee [3,6,11,13,17,18] a.kind=false→a.rho=0
 rhos:∀r∈a.rhos,0≤r
 rhos0:a.kind≠13→a.kind≠18→a.rn=0
 eff:DM a.eff=true
 eff0:Ee [11,13,18] a.kind=false→a.en=0
 ty:Ee [11,13,15] a.kind=true→Bj a.ty.er=true
 ty0:Ee [11,13,15] a.kind=false→Ct a.ty.head=true
 res:a.kind=13→Bj a.res.er=true
 res0:a.kind≠13→Ct a.res.head=true
theorem Hs{b:Bool}{s:ByteArray}{q:Bool}(h:Ec b s q=true):(b=true→q=true)∧(b=false→s.size=0):=by
 unfold Ec at h;cases b
 ·simpa using h
 ·simpa using h
theorem Rk{k op at_ n:Int}{name arg exn:ByteArray}{m:Nat}(h:Bp ⟨k,op,at_,n,name,arg,exn⟩ m=true) :
 0≤BI k∧(m:Int)=BI k∧(k=9→1≤op∧op≤5)∧(k≠9→op=0)∧0≤n∧(k≠1→n=0) ∧
  ((Jd k=true→Bo name=true)∧(Jd k=false→name.size=0))∧((Ow k=true→Bo arg=true)∧(Ow k=false→arg.size=0))∧((Oy k=true→Cg exn=true)∧(Oy k=false→exn.size=0)):=by
 unfold Bp at h
 simp only [Bool.and_eq_true,Bool.not_eq_true',Bool.or_eq_false_iff,decide_eq_false_iff_not,Bool.and_eq_false_imp,bne_eq_false_iff_eq] at h
 obtain⟨⟨⟨⟨⟨h1,h2⟩,h3⟩,h4,h5⟩,⟨h6,h7⟩,h8⟩,⟨h9,la⟩,cJ⟩:=h
 refine⟨by omega,h2,fun hk=>?_,fun hk=>?_,by omega,fun hk=>?_,Hs h9,Hs la,Hs cJ⟩
 ·have:=h4 (by simp [hk]);omega
 ·exact h5 (by simp [hk])
 ·exact h8 (by simp [hk])
theorem MH(k:Int):(Jd k=true↔k=2∨k=12∨k=13)∧(Jd k=false↔¬(k=2∨k=12∨k=13)):=by
 unfold Jd;constructor
 ·simp only [Bool.or_eq_true,beq_iff_eq];omega
 ·simp only [Bool.or_eq_false_iff,beq_eq_false_iff_ne];omega
theorem Ox(k:Int):(Ow k=true↔k=11∨k=13∨k=16)∧(Ow k=false↔¬(k=11∨k=13∨k=16)):=by
 unfold Ow;constructor
 ·simp only [Bool.or_eq_true,beq_iff_eq];omega
 ·simp only [Bool.or_eq_false_iff,beq_eq_false_iff_ne];omega
theorem Oz(k:Int):(Oy k=true↔k=15∨k=16)∧(Oy k=false↔¬(k=15∨k=16)):=by
 unfold Oy;constructor
 ·simp only [Bool.or_eq_true,beq_iff_eq]
 ·simp only [Bool.or_eq_false_iff,beq_eq_false_iff_ne];omega
theorem Re{k:Int}(h:0≤BI k):1≤k∧k≤16:=by
 by_cases h1:1≤k∧k≤16
 ·exact h1
 ·have:BI k=-1:=by unfold BI;rw [if_neg (by omega),if_neg (by omega),if_neg (by omega),if_neg (by omega)]
  omega
theorem OB(k:Int):BI k≤3:=by
 unfold BI;split
 ·omega
 ·split
  ·omega
  ·split
   ·omega
   ·split<;>omega
theorem Sw(k op at_ n:Int)(name arg exn:ByteArray)(m:Nat)(h:Da ⟨k,op,at_,n,name,arg,exn⟩ m=true) :
 1≤k∧k≤18∧BI (if k=17 then 4 else if k=18 then 1 else k)=m∧(k=9→1≤op∧op≤5)∧(k≠9→op=0)∧0≤n∧(k≠1→n=0) ∧
  ((k=2∨k=12∨k=13∨k=18)→Bo name=true)∧(¬(k=2∨k=12∨k=13∨k=18)→name.size=0) ∧
  ((k=11∨k=13∨k=16)→Bo arg=true)∧(¬(k=11∨k=13∨k=16)→arg.size=0)∧((k=15∨k=16)→Cg exn=true)∧(¬(k=15∨k=16)→exn.size=0):=by
 unfold Da at h
 split at h
 ·rename_i bb;have bb:k=17:=bb;subst bb;simp only [Lr,Bool.and_eq_true,beq_iff_eq,EU,decide_eq_true_eq] at h;obtain⟨⟨⟨⟨⟨⟨h1,h2⟩,h3⟩,h4⟩,h5⟩,h6⟩,h7⟩:=h;refine⟨by omega,by omega,?_,by omega,fun _=>h1,by omega,fun _=>h2,by omega,fun _=>h5,by omega,fun _=>h3,by omega,fun _=>h4⟩;rw [h7];rfl
 ·rename_i bb;have bb:¬k=17:=bb;split at h
  ·rename_i bL;have bL:k=18:=bL;subst bL;simp only [Lr,Bool.and_eq_true,beq_iff_eq,EU,decide_eq_true_eq] at h;obtain⟨⟨⟨⟨⟨⟨h1,h2⟩,h3⟩,h4⟩,h5⟩,h6⟩,h7⟩:=h;refine⟨by omega,by omega,?_,by omega,fun _=>h1,by omega,fun _=>h2,fun _=>h5,by omega,by omega,fun _=>h3,by omega,fun _=>h4⟩;rw [h7];rfl
  ·rename_i bL;have bL:¬k=18:=bL;obtain⟨h1,h2,h3,h4,h5,h6,⟨h7,oy⟩,⟨h8,oz⟩,⟨h9,o3⟩⟩:=Rk h;obtain⟨eN,dL⟩:=Re h1;have hm:(m:Int)=BI k:=by have:=OB k;rw [Nat.min_def] at h2;split at h2<;>omega
   refine⟨eN,by omega,by rw [if_neg bb,if_neg bL,hm],h3,h4,h5,h6,fun hk=>h7 ((MH k).1.2 (by omega)),fun hk=>oy ((MH k).2.2 (by omega)),fun hk=>h8 ((Ox k).1.2 hk),fun hk=>oz ((Ox k).2.2 hk),fun hk=>h9 ((Oz k).1.2 hk),fun hk=>o3 ((Oz k).2.2 hk)⟩
theorem UZ{a:AH}(h:Cs a=true)(hr:a.rhos.length=a.rn):U1 a:=by
 unfold Cs at h;simp only [Bool.and_eq_true,Bool.not_eq_true',Bool.or_eq_false_iff,Bool.and_eq_false_imp,Bool.or_eq_true,decide_eq_false_iff_not,Bool.not_eq_false',bne_iff_ne,beq_iff_eq,bne_eq_false_iff_eq,beq_eq_false_iff_ne] at h;obtain⟨⟨⟨⟨⟨⟨⟨⟨h1,h2⟩,h3⟩,h4⟩,h5⟩,h6⟩,⟨h7,h8⟩⟩,⟨h9,la⟩⟩,cJ⟩:=h;obtain⟨k1,k2,k3,k4,k5,k6,k7,k8,k9,k10,k11,k12,k13⟩:=Sw _ _ _ _ _ _ _ _ h1;rw [←hr,MA] at h6;refine⟨k1,k2,k3,k4,k5,k6,k7,k8,k9,k10,k11,k12,k13,by omega,fun h=>h4 h,fun r hr=>by have:=h6.1 r hr;omega,fun ha hb=>by have:=h5 ⟨ha,hb⟩;omega,h8,fun h=>by have:=h7 h;omega,h9,la,fun h=>?_,fun h=>?_⟩
 ·rcases cJ with⟨_,cJ⟩|⟨cJ,_⟩
  ·exact cJ
  ·exact absurd h cJ
 ·rcases cJ with⟨cJ,_⟩|⟨_,cJ⟩
  ·exact absurd cJ h
  ·exact cJ
structure CB(a:AH):Prop where
 name:a.name.size≤100
 arg:a.arg.size≤100
 exn:a.exn.size≤100
 rhos:a.rn≤50
 eff:BS a.eff=false
 ty:DX a.ty.er 100
 res:DX a.res.er 100
def A5(t:PA):Prop:=∀a∈AD.nodes t,CB a
theorem A5.node{a:AH}{l:List PA}(ha:CB a)(hl:∀t∈l,A5 t):A5 (.node a l):=by
 intro x hx;rw [AD.nodes_node,List.mem_cons] at hx;rcases hx with rfl|hx
 ·exact ha
 ·rw [List.mem_flatten] at hx;obtain⟨m,hm,hx⟩:=hx;obtain⟨t,ht,rfl⟩:=List.mem_map.1 hm;exact hl t ht x hx
structure MS(a:AH):Prop where
 n:CB a
 effx:CF a.eff=false
 tyx:Fq a.ty.er=true
 resx:Fq a.res.er=true
def Ci(t:PA):Prop:=∀a∈AD.nodes t,MS a
theorem Ci.small{t:PA}(h:Ci t):A5 t:=fun a ha=>(h a ha).n
theorem Ci.node{a:AH}{l:List PA}(ha:MS a)(hl:∀t∈l,Ci t):Ci (.node a l):=by
 intro x hx;rw [AD.nodes_node,List.mem_cons] at hx;rcases hx with rfl|hx
 ·exact ha
 ·rw [List.mem_flatten] at hx;obtain⟨m,hm,hx⟩:=hx;obtain⟨t,ht,rfl⟩:=List.mem_map.1 hm;exact hl t ht x hx
def Un(t:PA)(n r:Int):Prop:=-1≤r∧r≤n∧(0≤r→(t.size:Int)+r=n∧Ci t)
def Jz(l:List PA)(n r:Int):Prop:=-1≤r∧r≤n∧(0≤r→((l.map AD.size).sum:Int)+r=n∧∀t∈l,Ci t)
theorem Jz.step{l:List PA}{n r r':Int}{t:PA}(h:Jz l n r)(h0:0≤r)(h':Un t r r'):Jz (l++[t]) n r':=by
 refine⟨h'.1,by have:=h.2.1;have:=h'.2.1;omega,fun hr=>?_⟩;obtain⟨h1,h2⟩:=h.2.2 h0;obtain⟨h3,h4⟩:=h'.2.2 hr;refine⟨?_,fun x hx=>?_⟩
 ·simp only [List.map_append,List.map_cons,List.map_nil,List.sum_append,List.sum_cons,List.sum_nil];omega
 ·rcases List.mem_append.1 hx with hx|hx
  ·exact h2 x hx
  ·rw [List.mem_singleton] at hx;subst hx;exact h4
theorem G4{t:PT}{w:World}(hl:LR.lies w t):Calls prog 87 #[C9 t.head] w fun e w'=>(∃r,e=.returned (.bool r)∧(r=false→DX t.er 100∧Fq t.er=true))∧Below w.heap.size w w':=Kq hl
theorem JY{a:AH}{w:World}{r:Bool}(h:CF a.eff=r)(ho:AF AP 3 w a.ep a.en a.ec a.eff):Calls prog 86 #[.slice a.ep a.en a.ec] w fun e w'=>e=.returned (.bool r)∧w=w':=by subst h;exact G5 _ _ _ _ w ho.len ho.max ho.row
def MN(t:PA)(w:World):Prop:=∀n:Int,0≤n→n≤1000000→Calls prog 57 #[An t.head,.int .i64 n] w fun e w'=>(∃r:Int,e=.returned (.int .i64 r)∧Un t n r)∧Below w.heap.size w w'
theorem LW{a:AH}{l:List PA}{w:World}(hN:Dl w a l)(hf:∀x∈l,∀W,Below w.heap.size w W→MN x W):MN (.node a l) w:=by
 intro n h0 hn;have HN:=AA hN;have HF:=AA hf;have fd:=hN.own.kmax;have qE:=hN.own.rhos.max;have iQ:=hN.own.name;have pw:=hN.own.arg;have m8:=hN.own.exn;have HA:=AA (Ah w a);have aM:=AA ((Below.refl w.heap.size w).alloc (Nat.le_refl _) (AO a));show Calls _ _ #[An a,.int .i64 n] w _;clear hN hf;go_enter func57,ntmps57;go_upto_region 2 with fail;generalize w.alloc (AO a)=W0 at *
 go_cut [47] from 8 to 47 (fun s47 wx=>∃b,s47=.bool b∧(b=false→MS a)∧Below W0.heap.size W0 wx)
 case first=>
  obtain⟨_,_,_,_,q4,q5,q6,q7,q8,q9,q10,q11,q12,q13,q14,q15,q16,q17,_⟩:=HA.o.all;by_cases h1:100<a.name.size
  ·have e1:decide ((100:Int)<(a.name.size:Int))=true:=by simp;omega
   clear h1;go_wp2_with fail;go_meet
   case rel=>exact⟨true,rfl,(fun h=>by cases h),Below.refl _ _⟩
  have e1:decide ((100:Int)<(a.name.size:Int))=false:=by simp;omega
  by_cases h2:100<a.arg.size
  ·have e2:decide ((100:Int)<(a.arg.size:Int))=true:=by simp;omega
   clear h1 h2;go_wp2_with fail;go_meet
   case rel=>exact⟨true,rfl,(fun h=>by cases h),Below.refl _ _⟩
  have e2:decide ((100:Int)<(a.arg.size:Int))=false:=by simp;omega
  by_cases h3:100<a.exn.size
  ·have e3:decide ((100:Int)<(a.exn.size:Int))=true:=by simp;omega
   clear h1 h2 h3;go_wp2_with fail;go_meet
   case rel=>exact⟨true,rfl,(fun h=>by cases h),Below.refl _ _⟩
  have e3:decide ((100:Int)<(a.exn.size:Int))=false:=by simp;omega
  by_cases h4:50<a.rn
  ·have e4:decide ((50:Int)<(a.rn:Int))=true:=by simp;omega
   clear h1 h2 h3 h4;go_wp2_with fail;go_meet
   case rel=>exact⟨true,rfl,(fun h=>by cases h),Below.refl _ _⟩
  have e4:decide ((50:Int)<(a.rn:Int))=false:=by simp;omega
  have bj:Hd (a.name.size≤100∧a.arg.size≤100∧a.exn.size≤100∧a.rn≤50):=by show _∧_;omega
  have ev:=AA (HN.o.own.eff.below aM.o);clear h1 h2 h3 h4;cases hg:CF a.eff
  ·have HG:=AA hg;clear hg;go_wp2_with fail;refine(JY HG.o ev.o).mono ?_;rintro e w1 ⟨rfl,rfl⟩;go_wp2_with fail;refine(G4 (LR.lies_below aM.o _ HN.o.own.ty)).mono ?_;rintro e w2 ⟨⟨r,rfl,hr⟩,hb⟩;have HR:=AA hr;have aI:=AA hb;have kq:=AA (HA.o.below hb);clear hb hr q4 q5 q6 q7 q8 q9 q10 q11 q12 q13 q14 q15 q16 q17;cases r
   ·obtain⟨_,_,_,_,q4,q5,q6,q7,q8,q9,q10,q11,q12,q13,q14,q15,q16,q17,_⟩:=kq.o.all;go_wp2_with fail;refine(G4 (LR.lies_below (aM.o.trans (aI.o.mono aM.o.size)) _ HN.o.own.res)).mono ?_;rintro e w3 ⟨⟨r',rfl,hr⟩,hb⟩;have bK:=AA hr;have aT:=bt aI hb;clear hb hr q4 q5 q6 q7 q8 q9 q10 q11 q12 q13 q14 q15 q16 q17;go_wp2_with fail;go_meet
    case rel=>exact⟨r',rfl,fun h=>⟨⟨bj.o.1,bj.o.2.1,bj.o.2.2.1,bj.o.2.2.2,Iz HG.o,(HR.o (by first|rfl|trivial)).1,(bK.o h).1⟩,HG.o,(HR.o (by first|rfl|trivial)).2,(bK.o h).2⟩,aT.o⟩
   ·go_wp2_with fail;go_meet
    case rel=>exact⟨true,rfl,(fun h=>by cases h),aI.o⟩
  ·have HG:=AA hg;clear hg;go_wp2_with fail;refine(JY HG.o ev.o).mono ?_;rintro e w1 ⟨rfl,rfl⟩;go_wp2_with fail;go_meet
   case rel=>exact⟨true,rfl,(fun h=>by cases h),Below.refl _ _⟩
 case rest=>
  obtain⟨b,rfl,hs,hb⟩:=hcut;have dG:=AA hs;have HB:=bt aM hb;have mE:=AA (HA.o.below hb);clear hb hs;cases b
  ·have pR:w.heap.size<wc.heap.size:=(Array.getElem?_eq_some_iff.1 mE.o.blk).1;have bS:=AA (HN.o.below HB.o);go_upto_region 4 with fail;go_wp2_with fail;go_loopw [1,5] (fun u i wr=>∃(k:Nat) (r:Int),k≤a.kn∧i=.int .i64 k∧u=.int .i64 r∧Jz (l.take k) (n-1) r∧Below wc.heap.size wc wr) (fun _ i _=>a.kn-(intOf i).toNat)
   case atStart=>exact⟨0,n-1,by omega,rfl,by go_num,⟨by omega,by omega,fun _=>⟨by simp,fun t ht=>by simp at ht⟩⟩,Below.refl _ _⟩
   case round=>
    obtain⟨k,r,hk,rfl,rfl,gC,hb⟩:=hrel;have eN:=gC.1;have dL:=gC.2.1;have g7:=AA gC;have iT:=AA hb;clear gC hb;have q18:wr.cell? ⟨w.heap.size,18,none⟩=some (.slice a.kp a.kn a.kc):=(mE.o.below iT.o).c 18 _ rfl;by_cases aG:k<a.kn
    ·by_cases dy:0≤r
     ·obtain⟨x,hx⟩:=(bS.o.rowT).at (j:=k) aG;have HE:=AA hx;obtain⟨b,o,b8,al,ao⟩:=(bS.o.rowT.below iT.o).kid hx;have dE:=AA ao;rw [b8] at q18;clear hx al b8 ao;go_wp2_with (refine lm (Bg x.head) dE.o.c underlying31 ?_);refine Calls.mono (HF.o x (List.mem_of_getElem? HE.o) wr (HB.o.trans (iT.o.mono HB.o.size)) r dy (by omega)) ?_;rintro e w2 ⟨⟨r',rfl,ax⟩,hb⟩;have cu:=AA ax;have aI:=bt iT hb;clear ax hb q18;go_wp2_with fail;go_roundw
      case rel=>exact⟨k+1,r',by omega,by go_num,rfl,by rw [AJ HE.o];exact g7.o.step dy cu.o,aI.o⟩
      case measure=>simp [intOf];omega
     ·have hd:decide (0≤r)=false:=by simpa using dy
      go_wp2_with fail;go_ret;exact⟨⟨r,rfl,by have:=g7.o;refine⟨this.1,by omega,fun h=>absurd h (by omega)⟩⟩,HB.o.trans (iT.o.mono HB.o.size)⟩
    ·have bV:k=a.kn:=by omega
     have h:=g7.o;rw [AY (by rw [bS.o.kids.len];omega)] at h;have H:=AA h;clear bV h;go_wp2_with fail;go_ret;refine⟨⟨r,rfl,H.o.1,by omega,fun h0=>?_⟩,HB.o.trans (iT.o.mono HB.o.size)⟩;obtain⟨h1,h2⟩:=H.o.2.2 h0;refine⟨by rw [AD.size_node];omega,Ci.node (dG.o (by first|rfl|trivial)) h2⟩
  ·go_wp2_with fail;go_ret;exact⟨⟨-1,rfl,by omega,by omega,fun h=>absurd h (by omega)⟩,HB.o⟩
theorem Pp(t:PA):∀w,LA.lies w t→MN t w:=by refine AD.ind (P:=fun(t:PA)=>∀w,LA.lies w t→MN t w) (fun a l ih=>?_) t;intro w hl;have HN:=Cb hl;exact LW HN (fun x hx W hW=>ih x hx W (LA.lies_below hW x (HN.each x hx)))
theorem Ko{t:PA}{w:World}(hl:LA.lies w t):Calls prog 33 #[An t.head] w fun e w'=>(∃r,e=.returned (.bool r)∧(r=false→t.size≤400∧Ci t))∧Below w.heap.size w w':=by
 have aM:=AA ((Below.refl w.heap.size w).alloc (Nat.le_refl _) (AO t.head));have HL:=AA (Pp t _ (LA.lies_below ((Below.refl w.heap.size w).alloc (Nat.le_refl _) (AO t.head)) t hl) 400 (by omega) (by omega));have HA:=AA (Ah w t.head);obtain⟨a,l⟩:=t;show Calls _ _ #[An a] w _;clear hl;go_enter func33,ntmps33;go_wp2_with (refine lw (HA.o.blk) underlying31 ?_);refine Calls.mono HL.o ?_;rintro e w1 ⟨⟨r,rfl,ax⟩,hb⟩;have cu:=AA ax;have HB:=bt aM hb;clear ax hb;go_wp2_with fail;go_ret;refine⟨⟨_,rfl,fun h=>?_⟩,HB.o⟩;have h0:0≤r:=by simpa using h
 obtain⟨h1,h2⟩:=cu.o.2.2 h0;exact⟨by omega,h2⟩
end Go.Proofs.YtkdjnegfnhldpaaGreatDoor
