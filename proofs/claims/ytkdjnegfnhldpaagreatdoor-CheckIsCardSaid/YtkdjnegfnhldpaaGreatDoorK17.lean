/- Part 17. -/
import Derived.Test.YtkdjnegfnhldpaaGreatDoorK16
set_option linter.unusedVariables false
set_option maxRecDepth 100000
set_option linter.unusedSimpArgs false
set_option maxHeartbeats 40000000
namespace Go.Proofs.YtkdjnegfnhldpaaGreatDoor
open Go.Proofs.Tryz Go.RowKit
section
open Go.Shelf
theorem PQ(x L:Int)(g:Nat){W:World}(hg:W.cell? ⟨g,0,none⟩=some (.int .i64 L)):Calls prog 123 #[.int .i64 x,.pointer (some ⟨g,0,none⟩)] W fun e w'=>e=.returned (.bool (decide (x<L)))∧w'=W:=by go_enter func123,ntmps123;go_wp2_with fail;go_ret;exact⟨rfl,rfl⟩
theorem JX{W:World}{p:Option Addr}{n c:Nat}{l:List Int}(hr:AE Ab 1 W p n c l){g:Nat}{L:Int}(hg:W.cell? ⟨g,0,none⟩=some (.int .i64 L)):Calls prog 122 #[.slice p n c,.func (.func 123) #[] #[.pointer (some ⟨g,0,none⟩)]] W fun e w'=>e=.returned (.bool (l.any (fun r=>decide (r<L))))∧Below W.heap.size W w':=by
 have dM:=hr.len;have qo:=hr.max;rcases hr.row with h|⟨b,o,hp,hb,hc⟩
 ·subst h;obtain rfl:n=0:=by simpa using dM.symm
  refine(DB (α:=Int) p c _ W).mono ?_;rintro e w' ⟨rfl,rfl⟩;exact⟨rfl,Below.refl _ _⟩
 ·subst hp;have fz:∀j,j<l.length→W.cell? ⟨b,o+j,none⟩=some (Value.int .i64 (l[j]!)):=fun j hj=>by have:=hc j (l[j]!) (by rw [List.getElem?_eq_getElem hj,getElem!_pos l j hj]) 0 (.int .i64 (l[j]!)) rfl;simpa using this
  refine(D7 (α:=Int) (Value.int .i64) (fun r:Int=>decide (r<L)) 123 #[.pointer (some ⟨g,0,none⟩)] (fun args w=>rfl) b o n c l W ?_ (by omega) (by omega) fz).mono ?_
  ·intro W' x aW;refine(PQ x L g (by rw [aW.cell (An hg)];exact hg)).mono ?_;rintro e w' ⟨rfl,rfl⟩;exact⟨rfl,0,rfl⟩
  ·rintro e w' ⟨rfl,q,rfl⟩;rw [List.take_of_length_le (by omega)];exact⟨rfl,rfl,rfl,rfl,Nat.le_refl _,fun _ _=>rfl⟩
def Lx(a:AH)(fr fh:Bool):Bool:=!((!fr&&(a.rho != 0))||(decide (a.rho<0)||(a.kind==17)&&decide (a.rho<1))||(!fh&&decide (0<a.rn)))&&!(a.rhos.any (fun r=>decide (r<if a.kind=13 then 1 else 0)))
theorem R9(a:AH)(fr fh fe ft fs:Bool){w:World}(hr:AE Ab 1 w a.rp a.rn a.rc a.rhos)(cI:a.kind=13):Calls prog 91 #[Aj a,.agg #[.bool fr,.bool fh,.bool fe,.bool ft,.bool fs]] w (RB w (.bool (Lx a fr fh))):=by
 have HR:=AA hr;have HQ:Hd (Lx a fr fh=(!((!fr&&(a.rho != 0))||(decide (a.rho<0)||false&&decide (a.rho<1))||(!fh&&decide (0<a.rn)))&&!(a.rhos.any (fun r=>decide (r<1))))):=by show _=_;unfold Lx;rw [if_pos cI];simp [cI]
 have e13:(a.kind==13)=true:=by simp [cI]
 have e17:(a.kind==17)=false:=by simp [cI]
 clear hr cI;have HB:=AA (((Below.refl w.heap.size w).alloc (Nat.le_refl _) (AO a)).alloc (by simp) (.cells #[.bool fr,.bool fh,.bool fe,.bool ft,.bool fs] 137));have aV:=AA (HB.o.alloc HB.o.size (.cells #[.int .i64 1] 3));have dj:=AA (((Aa w a).below ((Below.refl _ _).alloc (Nat.le_refl _) (.cells #[.bool fr,.bool fh,.bool fe,.bool ft,.bool fs] 137))).below ((Below.refl _ _).alloc (Nat.le_refl _) (.cells #[.int .i64 0] 3)));have ei:=AA (((Aa w a).below ((Below.refl _ _).alloc (Nat.le_refl _) (.cells #[.bool fr,.bool fh,.bool fe,.bool ft,.bool fs] 137))).below ((Below.refl _ _).alloc (Nat.le_refl _) (.cells #[.int .i64 1] 3)));have iw:=AA (JX (HR.o.below aV.o) (g:=w.heap.size+2) (L:=1) (by rw [show w.heap.size+2=((w.alloc (AO a)).alloc (.cells #[.bool fr,.bool fh,.bool fe,.bool ft,.bool fs] 137)).heap.size by simp,AR];rfl));have f0:(((w.alloc (AO a)).alloc (.cells #[.bool fr,.bool fh,.bool fe,.bool ft,.bool fs] 137)).alloc (.cells #[.int .i64 1] 3)).cell? ⟨w.heap.size+1,0,none⟩=some (.bool fr):=by go_simp
 have f1:(((w.alloc (AO a)).alloc (.cells #[.bool fr,.bool fh,.bool fe,.bool ft,.bool fs] 137)).alloc (.cells #[.int .i64 1] 3)).cell? ⟨w.heap.size+1,1,none⟩=some (.bool fh):=by go_simp
 have d0:=dj.o.c 0 _ rfl;have c0:=ei.o.c 0 _ rfl;have c7:=ei.o.c 7 _ rfl;have c8:=ei.o.c 8 _ rfl;have qC:=HR.o.max;generalize a.rhos.any (fun r=>decide (r<1))=R at *
 go_enter func91,ntmps91;go_upto_region 4 with fail;generalize ((w.alloc (AO a)).alloc (.cells #[.bool fr,.bool fh,.bool fe,.bool ft,.bool fs] 137)).alloc (.cells #[.int .i64 1] 3)=W3 at *
 cases fr<;>cases fh
 all_goals (
  go_wp2_with (go_at_call 122;refine iw.o.mono ?_;rintro e w4 ⟨rfl,hb⟩;have av:=bt aV hb;clear hb)
  all_goals (
   go_ret;refine⟨AB ?_,by first|exact av.o|exact aV.o⟩;rw [HQ.o];clear c0 c7 c8 d0 f0 f1 dj ei iw HB;simp_all;try omega))
theorem SA(a:AH)(fr fh fe ft fs:Bool){w:World}(hr:AE Ab 1 w a.rp a.rn a.rc a.rhos)(cI:a.kind≠13):Calls prog 91 #[Aj a,.agg #[.bool fr,.bool fh,.bool fe,.bool ft,.bool fs]] w (RB w (.bool (Lx a fr fh))):=by
 have HR:=AA hr;have HQ:Hd (Lx a fr fh=(!((!fr&&(a.rho != 0))||(decide (a.rho<0)||(a.kind==17)&&decide (a.rho<1))||(!fh&&decide (0<a.rn)))&&!(a.rhos.any (fun r=>decide (r<0))))):=by show _=_;unfold Lx;rw [if_neg cI]
 have e13:(a.kind==13)=false:=by simp [cI]
 clear hr cI;cases e17:(a.kind==17)
 ·rw [e17] at HQ;have HB:=AA (((Below.refl w.heap.size w).alloc (Nat.le_refl _) (AO a)).alloc (by simp) (.cells #[.bool fr,.bool fh,.bool fe,.bool ft,.bool fs] 137));have aV:=AA (HB.o.alloc HB.o.size (.cells #[.int .i64 0] 3));have dj:=AA (((Aa w a).below ((Below.refl _ _).alloc (Nat.le_refl _) (.cells #[.bool fr,.bool fh,.bool fe,.bool ft,.bool fs] 137))).below ((Below.refl _ _).alloc (Nat.le_refl _) (.cells #[.int .i64 0] 3)));have ei:=AA (((Aa w a).below ((Below.refl _ _).alloc (Nat.le_refl _) (.cells #[.bool fr,.bool fh,.bool fe,.bool ft,.bool fs] 137))).below ((Below.refl _ _).alloc (Nat.le_refl _) (.cells #[.int .i64 0] 3)));have iw:=AA (JX (HR.o.below aV.o) (g:=w.heap.size+2) (L:=0) (by rw [show w.heap.size+2=((w.alloc (AO a)).alloc (.cells #[.bool fr,.bool fh,.bool fe,.bool ft,.bool fs] 137)).heap.size by simp,AR];rfl));have f0:(((w.alloc (AO a)).alloc (.cells #[.bool fr,.bool fh,.bool fe,.bool ft,.bool fs] 137)).alloc (.cells #[.int .i64 0] 3)).cell? ⟨w.heap.size+1,0,none⟩=some (.bool fr):=by go_simp
  have f1:(((w.alloc (AO a)).alloc (.cells #[.bool fr,.bool fh,.bool fe,.bool ft,.bool fs] 137)).alloc (.cells #[.int .i64 0] 3)).cell? ⟨w.heap.size+1,1,none⟩=some (.bool fh):=by go_simp
  have d0:=dj.o.c 0 _ rfl;have c0:=ei.o.c 0 _ rfl;have c7:=ei.o.c 7 _ rfl;have c8:=ei.o.c 8 _ rfl;have qC:=HR.o.max;generalize a.rhos.any (fun r=>decide (r<0))=R at *
  go_enter func91,ntmps91;go_upto_region 4 with fail;generalize ((w.alloc (AO a)).alloc (.cells #[.bool fr,.bool fh,.bool fe,.bool ft,.bool fs] 137)).alloc (.cells #[.int .i64 0] 3)=W3 at *
  cases fr<;>cases fh
  all_goals (
   go_wp2_with (go_at_call 122;refine iw.o.mono ?_;rintro e w4 ⟨rfl,hb⟩;have av:=bt aV hb;clear hb)
   all_goals (
    go_ret;refine⟨AB ?_,by first|exact av.o|exact aV.o⟩;rw [HQ.o];clear c0 c7 c8 d0 f0 f1 dj ei iw HB;simp_all;try omega))
 ·rw [e17] at HQ;have HB:=AA (((Below.refl w.heap.size w).alloc (Nat.le_refl _) (AO a)).alloc (by simp) (.cells #[.bool fr,.bool fh,.bool fe,.bool ft,.bool fs] 137));have aV:=AA (HB.o.alloc HB.o.size (.cells #[.int .i64 0] 3));have dj:=AA (((Aa w a).below ((Below.refl _ _).alloc (Nat.le_refl _) (.cells #[.bool fr,.bool fh,.bool fe,.bool ft,.bool fs] 137))).below ((Below.refl _ _).alloc (Nat.le_refl _) (.cells #[.int .i64 0] 3)));have ei:=AA (((Aa w a).below ((Below.refl _ _).alloc (Nat.le_refl _) (.cells #[.bool fr,.bool fh,.bool fe,.bool ft,.bool fs] 137))).below ((Below.refl _ _).alloc (Nat.le_refl _) (.cells #[.int .i64 0] 3)));have iw:=AA (JX (HR.o.below aV.o) (g:=w.heap.size+2) (L:=0) (by rw [show w.heap.size+2=((w.alloc (AO a)).alloc (.cells #[.bool fr,.bool fh,.bool fe,.bool ft,.bool fs] 137)).heap.size by simp,AR];rfl));have f0:(((w.alloc (AO a)).alloc (.cells #[.bool fr,.bool fh,.bool fe,.bool ft,.bool fs] 137)).alloc (.cells #[.int .i64 0] 3)).cell? ⟨w.heap.size+1,0,none⟩=some (.bool fr):=by go_simp
  have f1:(((w.alloc (AO a)).alloc (.cells #[.bool fr,.bool fh,.bool fe,.bool ft,.bool fs] 137)).alloc (.cells #[.int .i64 0] 3)).cell? ⟨w.heap.size+1,1,none⟩=some (.bool fh):=by go_simp
  have d0:=dj.o.c 0 _ rfl;have c0:=ei.o.c 0 _ rfl;have c7:=ei.o.c 7 _ rfl;have c8:=ei.o.c 8 _ rfl;have qC:=HR.o.max;generalize a.rhos.any (fun r=>decide (r<0))=R at *
  go_enter func91,ntmps91;go_upto_region 4 with fail;generalize ((w.alloc (AO a)).alloc (.cells #[.bool fr,.bool fh,.bool fe,.bool ft,.bool fs] 137)).alloc (.cells #[.int .i64 0] 3)=W3 at *
  cases fr<;>cases fh
  all_goals (
   go_wp2_with (go_at_call 122;refine iw.o.mono ?_;rintro e w4 ⟨rfl,hb⟩;have av:=bt aV hb;clear hb)
   all_goals (
    go_ret;refine⟨AB ?_,by first|exact av.o|exact aV.o⟩;rw [HQ.o];clear c0 c7 c8 d0 f0 f1 dj ei iw HB;simp_all;try omega))
theorem Qp(a:AH)(fr fh fe ft fs:Bool){w:World}(hr:AE Ab 1 w a.rp a.rn a.rc a.rhos):Calls prog 91 #[Aj a,.agg #[.bool fr,.bool fh,.bool fe,.bool ft,.bool fs]] w (RB w (.bool (Lx a fr fh))):=by
 by_cases cI:a.kind=13
 ·exact R9 a fr fh fe ft fs hr cI
 ·exact SA a fr fh fe ft fs hr cI
end
section
open Go.Lib
theorem SO(p:Option Addr)(n c:Nat)(w:World):Calls prog 125 #[.slice p n c] w fun e w'=>e=.returned (.func (.func 173) #[] #[.pointer (some ⟨w.heap.size,0,none⟩)])∧w'=w.alloc (.cells #[.slice p n c] 24):=by go_enter func125,ntmps125;go_wp2_with fail;go_ret;exact⟨rfl,rfl⟩
theorem QF(Bs:Nat)(sv:Value)(xs:List Int)(aj:xs.length * 8≤140737488351232)(w:World)(fS:Bs<w.heap.size)(am:w.cell? ⟨Bs,0,none⟩=some sv)(hI:Ju w.heap.size w sv xs):Calls prog 171 #[.func (.func 173) #[] #[.pointer (some ⟨Bs,0,none⟩)]] w fun e W'=>∃v,e=.returned v∧AJ Ab 1 W' w.heap.size 3 v xs.length xs∧Below w.heap.size w W':=by have HC:=AA (Nd Bs sv xs aj w fS am hI);clear am hI;go_enter func171,ntmps171;go_wp2_with (go_at_call 208;refine HC.o.mono ?_;rintro e w2 ⟨v,rfl,aB,hb⟩;have HO:=AA aB;have HB:=AA hb;clear aB hb);go_ret;refine⟨_,rfl,?_,HB.o⟩;show World.ownsRow _ _ _ _ _ _ _;rw [Sc];exact HO.o
theorem Uw{w:World}{p:Option Addr}{n c:Nat}{l:List Int}(h:AE Ab 1 w p n c l):Ju w.heap.size w (.slice p n c) l:=by
 rcases h.row with h0|⟨b,o,hp,hb,hc⟩
 ·left;subst h0;have:n=0:=by simpa using h.len.symm
  subst this;exact⟨p,c,rfl,rfl⟩
 ·refine .inr ⟨b,o,c,by rw [hp,h.len],hb,fun j hj=>?_⟩;have:=hc j (l[j]) (List.getElem?_eq_getElem hj) 0 (.int .i64 l[j]) rfl;rw [List.getElem?_eq_getElem hj];simpa using this
theorem SK(Bs:Nat)(sv:Value)(xs:List Int)(hn:xs.length≤1000000)(w:World)(fS:Bs<w.heap.size)(am:w.cell? ⟨Bs,0,none⟩=some sv)(hI:Ju w.heap.size w sv xs):Calls prog 124 #[.func (.func 173) #[] #[.pointer (some ⟨Bs,0,none⟩)]] w fun e W'=>∃v,e=.returned v∧AJ Ab 1 W' w.heap.size 3 v xs.length (Er xs)∧Below w.heap.size w W':=by
 have HC:=AA (QF Bs sv xs (by omega) w fS am hI);clear am hI;go_enter func124,ntmps124;go_upto_region 2 with(go_at_call 171;refine HC.o.mono ?_;rintro e w2 ⟨v,rfl,aB,hb⟩;have HO:=AA aB;have HB:=AA hb;clear aB hb)
 rcases HO.o.2 with⟨hv,h0⟩|⟨g,cap,cur,hv,hb,hg,ed,hm,hs,ht⟩
 ·subst hv;have hx:xs=[]:=List.eq_nil_of_length_eq_zero h0;subst hx;go_wp2_with (go_at_call 172;refine(slices_Sort_int_none none 0 w2).mono ?_;rintro e w3 ⟨rfl,rfl⟩);go_ret;exact⟨_,rfl,by rw [show Er []=[] by simp [Er]];exact AJ.nil _ _ _ _ _,HB.o⟩
 ·subst hv;clear hg hs ht;go_wp2_with (go_at_call 172;refine(K4 g cap xs.length xs w.heap.size w2 HO.o (by omega)).mono ?_;rintro e w3 ⟨rfl,aX,bM⟩;have gt:=AA aX;have aV:=AA (HB.o.grown bM HB.o.size (fun b aW=>by injection aW with aW;omega));clear aX bM);go_ret;exact⟨_,rfl,gt.o,aV.o⟩
def IV(l:List Int):Bool:=decide (((Bv l).length:Int)=l.length)
theorem U7{p:Option Addr}{n c:Nat}{l:List Int}{w:World}(h:AE Ab 1 w p n c l)(hn:n≤1000000):Calls prog 92 #[.slice p n c] w (RB w (.bool (IV l))):=by
 have HI:=AA (Uw h);have dM:=h.len;have gZ:=AA dM;have aJ:=AA ((Below.refl w.heap.size w).alloc (Nat.le_refl _) (.cells #[.slice p n c] 24))
 have HS:=AA (SK w.heap.size (.slice p n c) l (by omega) (w.alloc (.cells #[.slice p n c] 24)) (by simp) (by rw [AR];rfl) (by
  rcases HI.o.below aJ.o with h|⟨b,off,cap,h1,h2,h3⟩
  ·exact .inl h
  ·exact .inr ⟨b,off,cap,h1,by have:=aJ.o.size;omega,h3⟩))
 have HM:Hd (compact (Er l)=Bv l):=Fx l;clear h dM;go_enter func92,ntmps92
 go_upto_region 2 with(first
  |(go_at_call 125;refine(SO p n c w).mono ?_;rintro e w1 ⟨rfl,rfl⟩)
  |(go_at_call 124;refine HS.o.mono ?_;rintro e w2 ⟨v,rfl,aB,hb⟩;have HO:=AA aB;have HB:=bt aJ hb;clear aB hb))
 have qN:∀m:Nat,((m:Int)==(n:Int))=decide ((m:Int)=n):=fun m=>rfl;rcases HO.o.2 with⟨hv,h0⟩|⟨g,cap,cur,hv,hb,hg,ed,hm,hs,ht⟩
 ·subst hv;have hx:l=[]:=List.eq_nil_of_length_eq_zero h0;subst hx;have mq:n=0:=by simpa using gZ.o.symm
  subst mq;go_wp2_with (go_at_call 126;refine(slices_Compact_int_empty none 0 w2).mono ?_;rintro e w3 ⟨rfl,rfl⟩);go_ret;exact⟨rfl,HB.o⟩
 ·subst hv;have eH:l.length≤cap:=ed;clear hg hs ht;have jD:l.length≤1000000000:=by have:=gZ.o;omega
  have rD:=AA (Gs g cap l.length (Er l) (w.alloc (.cells #[.slice p n c] 24)).heap.size w2 HO.o eH jD);go_wp2_with (go_at_call 126;refine rD.o.mono ?_;rintro e w3 ⟨m,rfl,hX,aX,bM⟩;have gt:=AA aX;have aV:=AA (HB.o.grown bM HB.o.size (fun b aW=>by injection aW with aW;have:=aJ.o.size;omega));clear aX bM);go_ret;refine⟨AB ?_,aV.o⟩;have h1:=gt.o.len Ag (by omega);rw [HM.o] at h1;unfold IV;rw [←h1,gZ.o]
/-! The plain law: the document's regions. -/
theorem G8(l:List Int):Bv l=l.foldl (fun e a=>D4 a e) []:=by obtain⟨h1,h2⟩:=Ul l [] (by simp [BX]);exact(J6 h1 (fun x=>by rw [h2];simp)).symm
theorem NN(l:List Int)(x:Int):Bv (l++[x])=D4 x (Bv l):=by rw [G8,List.foldl_append,←G8];rfl
theorem Q0{α:Type}{P:List α→Prop}(h0:P [])(h1:∀l x,P l→P (l++[x]))(l:List α):P l:=by
 have:∀m:List α,P m.reverse:=by
  intro m;induction m with
  |nil=>exact h0
  |cons x m ih=>rw [List.reverse_cons];exact h1 _ x ih
 have h:=this l.reverse;rwa [List.reverse_reverse] at h
theorem Vb(l:List Int):(Bv l).length≤l.length:=by refine Q0 (P:=fun l=>(Bv l).length≤l.length) (by simp [G8]) (fun l x ih=>?_) l;rw [NN];have:=FG x (Bv l);simp only [List.length_append,List.length_cons,List.length_nil];omega
theorem U8(l:List Int):IV l=true↔∀i x,l[i]?=some x→Du (l.take i) x=false:=by
 unfold IV;rw [decide_eq_true_iff];refine Q0 (P:=fun l=>((Bv l).length:Int)=l.length↔∀i x,l[i]?=some x→Du (l.take i) x=false) (by simp [G8]) (fun l x ih=>?_) l
 ·rw [NN];have h1:=Vb l;by_cases hx:Du (Bv l) x=true
  ·have h2:D4 x (Bv l)=Bv l:=by unfold D4;rw [if_pos hx]
   rw [h2];constructor
   ·intro h;simp only [List.length_append,List.length_cons,List.length_nil] at h;omega
   ·intro h;have h3:=h l.length x (by simp)
    have h4:x∈l:=by
     have:x∈Bv l:=by simpa [Du] using hx
     rwa [Ep] at this
    simp [Du] at h3;exact absurd rfl (h3 x h4)
  ·have h2:D4 x (Bv l)=CK x (Bv l):=by unfold D4;rw [if_neg hx]
   rw [h2,GC]
   have fJ:x∉l:=by
    intro h;apply hx;have:x∈Bv l:=by rw [Ep];exact h
    simpa [Du] using this
   simp only [List.length_append,List.length_cons,List.length_nil];constructor
   ·intro h i y hi;by_cases pE:i<l.length
    ·rw [List.getElem?_append_left pE] at hi;rw [List.take_append_of_le_length (by omega)];exact ih.1 (by omega) i y hi
    ·have:i=l.length:=by have:=(List.getElem?_eq_some_iff.1 hi).1;simp at this;omega
     subst this;simp at hi;subst hi;simp [Du];exact fun y hy e=>fJ (e▸hy)
   ·intro h
    have:=ih.2 (fun i y hi=>by
     have pE:i<l.length:=(List.getElem?_eq_some_iff.1 hi).1;have:=h i y (by rw [List.getElem?_append_left pE];exact hi);rwa [List.take_append_of_le_length (by omega)] at this)
    omega
end
def Wc(a:AH):Bool:=
 Cl a.hd a.kn&&Lx a (ED [3,6,11,13,17,18] a.kind) ((a.kind==13)||(a.kind==18))&&(!(a.kind==13)||IV a.rhos)&&(!(ED [11,13,18] a.kind)||DD a.eff)&&(ED [11,13,18] a.kind||!decide (0<a.en)) &&
  (JB (ED [11,13,15] a.kind) a.ty&&JB (a.kind==13) a.res)
theorem OT(k:Int)(l:List Int):Ef k l l.length=true↔(∀r∈l,¬r<0)∧(k=13→(∀r∈l,¬r<1)∧IV l=true):=by
 unfold Ef;rw [List.all_eq_true,U8];constructor
 ·intro h;have h':∀i x,l[i]?=some x→K2 k l i x=true:=by intro i x hx;have hi:=(List.getElem?_eq_some_iff.1 hx).1;have:=h i (List.mem_range.2 hi);rw [hx] at this;exact this
  refine⟨fun r hr=>?_,fun hk=>⟨fun r hr=>?_,fun i x hx=>?_⟩⟩
  ·obtain⟨i,hi⟩:=List.getElem?_of_mem hr;have:=h' i r hi;unfold K2 at this;simp at this;omega
  ·obtain⟨i,hi⟩:=List.getElem?_of_mem hr;have:=h' i r hi;unfold K2 at this;simp [hk] at this;omega
  ·have:=h' i x hx;unfold K2 at this;simp only [hk,beq_self_eq_true,Bool.true_and,Bool.not_eq_true',Bool.or_eq_false_iff] at this;exact this.2.2
 ·rintro⟨h1,h2⟩ i hi;have hi:=List.mem_range.1 hi;rw [List.getElem?_eq_getElem hi];have h3:=h1 _ (List.getElem_mem hi);show K2 k l i l[i]=true;unfold K2;have e1:decide (l[i]<0)=false:=by simpa using h3
  rw [e1];by_cases hk:k=13
  ·obtain⟨h4,h5⟩:=h2 hk;have h6:=h4 _ (List.getElem_mem hi);have e2:(l[i]==0)=false:=by simp;omega
   rw [e2,h5 i _ (List.getElem?_eq_getElem hi)];simp
  ·have e2:(k==13)=false:=by simpa using hk
   rw [e2];rfl
theorem U6(a:AH)(hr:a.rhos.length=a.rn)(he:a.eff.length=a.en):Wc a=C7 a:=by
 have mm:a.en=0→DD a.eff=true:=by intro h;have:a.eff=[]:=List.eq_nil_of_length_eq_zero (by omega);rw [this];decide
 have nA:Ef a.kind a.rhos a.rn=(!(a.rhos.any (fun r=>decide (r<if a.kind=13 then 1 else 0)))&&(!(a.kind==13)||IV a.rhos)):=by
  rw [←hr,Bool.eq_iff_iff,OT];by_cases hk:a.kind=13
  ·simp only [hk,if_true,forall_const,beq_self_eq_true,Bool.not_true,Bool.false_or,Bool.and_eq_true,Bool.not_eq_true',List.any_eq_false,decide_eq_true_eq];constructor
   ·rintro⟨_,h2,h3⟩;exact⟨h2,h3⟩
   ·rintro⟨h2,h3⟩;exact⟨fun r aT h=>h2 r aT (by omega),h2,h3⟩
  ·have e2:(a.kind==13)=false:=by simpa using hk
   simp only [hk,if_false,e2,Bool.not_false,Bool.true_or,Bool.and_true,Bool.not_eq_true',List.any_eq_false,decide_eq_true_eq,false_implies,and_true]
 unfold Wc C7 Lx JB;rw [nA];generalize a.rhos.any (fun r=>decide (r<if a.kind=13 then 1 else 0))=R;generalize IV a.rhos=O;generalize Cl a.hd a.kn=H;generalize BF a.ty.er=T1;generalize BF a.res.er=T2;generalize DI a.ty.head=P1;generalize DI a.res.head=P2;have e13:(a.kind != 13)=!(a.kind==13):=rfl;have e18:(a.kind != 18)=!(a.kind==18):=rfl;have e0:(a.rho != 0)=!(a.rho==0):=rfl;have e1:decide (a.rho<1)=(decide (a.rho<0)||(a.rho==0)):=by rw [Bool.eq_iff_iff];simp;omega
 have em:decide (0<a.en)=false→DD a.eff=true:=fun h=>mm (by simpa using h);rw [e13,e18,e0,e1];generalize (a.kind==13)=K13 at *
 generalize (a.kind==18)=K18 at *
 generalize (a.kind==17)=K17 at *
 generalize (a.rho==0)=Z at *
 generalize decide (a.rho<0)=N at *
 generalize decide (0<a.rn)=RN at *
 generalize decide (0<a.en)=EN at *
 generalize DD a.eff=M at *
 generalize ED [3,6,11,13,17,18] a.kind=I1 at *
 generalize ED [11,13,18] a.kind=I2 at *
 generalize ED [11,13,15] a.kind=I3 at *
 clear hr he mm nA e13 e18 e0 e1;clear a;grind
structure Wh(a:AH):Prop where
 k1:1≤a.kind
 k18:a.kind≤18
 kids:Bb (if a.kind=17 then 4 else if a.kind=18 then 1 else a.kind)=a.kn
 op:a.kind=9→1≤a.op∧a.op≤5
 op0:a.kind≠9→a.op=0
 n:0≤a.n
 n0:a.kind≠1→a.n=0
 name:(a.kind=2∨a.kind=12∨a.kind=13∨a.kind=18)→Ba a.name=true
 name0:¬(a.kind=2∨a.kind=12∨a.kind=13∨a.kind=18)→a.name.size=0
 arg:(a.kind=11∨a.kind=13∨a.kind=16)→Ba a.arg=true
 arg0:¬(a.kind=11∨a.kind=13∨a.kind=16)→a.arg.size=0
 exn:(a.kind=15∨a.kind=16)→DC a.exn=true
 exn0:¬(a.kind=15∨a.kind=16)→a.exn.size=0
 rho:0≤a.rho
 rho0:ED [3,6,11,13,17,18] a.kind=false→a.rho=0
 rhos:∀r∈a.rhos,0≤r
 rhos0:a.kind≠13→a.kind≠18→a.rn=0
 eff:DD a.eff=true
 eff0:ED [11,13,18] a.kind=false→a.en=0
 ty:ED [11,13,15] a.kind=true→BF a.ty.er=true
 ty0:ED [11,13,15] a.kind=false→DI a.ty.head=true
 res:a.kind=13→BF a.res.er=true
 res0:a.kind≠13→DI a.res.head=true
theorem Jc{b:Bool}{s:ByteArray}{q:Bool}(h:D0 b s q=true):(b=true→q=true)∧(b=false→s.size=0):=by
 unfold D0 at h;cases b
 ·simpa using h
 ·simpa using h
theorem Tq{k op at_ n:Int}{name arg exn:ByteArray}{m:Nat}(h:Be ⟨k,op,at_,n,name,arg,exn⟩ m=true) :
 0≤Bb k∧(m:Int)=Bb k∧(k=9→1≤op∧op≤5)∧(k≠9→op=0)∧0≤n∧(k≠1→n=0) ∧
  ((Ec k=true→Ba name=true)∧(Ec k=false→name.size=0))∧((Hg k=true→Ba arg=true)∧(Hg k=false→arg.size=0))∧((Il k=true→DC exn=true)∧(Il k=false→exn.size=0)):=by
 unfold Be at h
 simp only [Bool.and_eq_true,Bool.not_eq_true',Bool.or_eq_false_iff,decide_eq_false_iff_not,Bool.and_eq_false_imp,bne_eq_false_iff_eq] at h
 obtain⟨⟨⟨⟨⟨h1,h2⟩,h3⟩,h4,h5⟩,⟨h6,h7⟩,h8⟩,⟨h9,kg⟩,dp⟩:=h
 refine⟨by omega,h2,fun hk=>?_,fun hk=>?_,by omega,fun hk=>?_,Jc h9,Jc kg,Jc dp⟩
 ·have:=h4 (by simp [hk]);omega
 ·exact h5 (by simp [hk])
 ·exact h8 (by simp [hk])
theorem Oa(k:Int):(Ec k=true↔k=2∨k=12∨k=13)∧(Ec k=false↔¬(k=2∨k=12∨k=13)):=by
 unfold Ec;constructor
 ·simp only [Bool.or_eq_true,beq_iff_eq];omega
 ·simp only [Bool.or_eq_false_iff,beq_eq_false_iff_ne];omega
theorem Q9(k:Int):(Hg k=true↔k=11∨k=13∨k=16)∧(Hg k=false↔¬(k=11∨k=13∨k=16)):=by
 unfold Hg;constructor
 ·simp only [Bool.or_eq_true,beq_iff_eq];omega
 ·simp only [Bool.or_eq_false_iff,beq_eq_false_iff_ne];omega
theorem RA(k:Int):(Il k=true↔k=15∨k=16)∧(Il k=false↔¬(k=15∨k=16)):=by
 unfold Il;constructor
 ·simp only [Bool.or_eq_true,beq_iff_eq]
 ·simp only [Bool.or_eq_false_iff,beq_eq_false_iff_ne];omega
theorem Ti{k:Int}(h:0≤Bb k):1≤k∧k≤16:=by
 by_cases h1:1≤k∧k≤16
 ·exact h1
 ·have:Bb k=-1:=by unfold Bb;rw [if_neg (by omega),if_neg (by omega),if_neg (by omega),if_neg (by omega)]
  omega
theorem QX(k:Int):Bb k≤3:=by
 unfold Bb;split
 ·omega
 ·split
  ·omega
  ·split
   ·omega
   ·split<;>omega
theorem Us(k op at_ n:Int)(name arg exn:ByteArray)(m:Nat)(h:Cl ⟨k,op,at_,n,name,arg,exn⟩ m=true) :
 1≤k∧k≤18∧Bb (if k=17 then 4 else if k=18 then 1 else k)=m∧(k=9→1≤op∧op≤5)∧(k≠9→op=0)∧0≤n∧(k≠1→n=0) ∧
  ((k=2∨k=12∨k=13∨k=18)→Ba name=true)∧(¬(k=2∨k=12∨k=13∨k=18)→name.size=0) ∧
  ((k=11∨k=13∨k=16)→Ba arg=true)∧(¬(k=11∨k=13∨k=16)→arg.size=0)∧((k=15∨k=16)→DC exn=true)∧(¬(k=15∨k=16)→exn.size=0):=by
 unfold Cl at h
 split at h
 ·rename_i bp;have bp:k=17:=bp;subst bp;simp only [IA,Bool.and_eq_true,beq_iff_eq,Fj,decide_eq_true_eq] at h;obtain⟨⟨⟨⟨⟨⟨h1,h2⟩,h3⟩,h4⟩,h5⟩,h6⟩,h7⟩:=h;refine⟨by omega,by omega,?_,by omega,fun _=>h1,by omega,fun _=>h2,by omega,fun _=>h5,by omega,fun _=>h3,by omega,fun _=>h4⟩;rw [h7];rfl
 ·rename_i bp;have bp:¬k=17:=bp;split at h
  ·rename_i bj;have bj:k=18:=bj;subst bj;simp only [IA,Bool.and_eq_true,beq_iff_eq,Fj,decide_eq_true_eq] at h;obtain⟨⟨⟨⟨⟨⟨h1,h2⟩,h3⟩,h4⟩,h5⟩,h6⟩,h7⟩:=h;refine⟨by omega,by omega,?_,by omega,fun _=>h1,by omega,fun _=>h2,fun _=>h5,by omega,by omega,fun _=>h3,by omega,fun _=>h4⟩;rw [h7];rfl
  ·rename_i bj;have bj:¬k=18:=bj;obtain⟨h1,h2,h3,h4,h5,h6,⟨h7,sL⟩,⟨h8,sM⟩,⟨h9,sN⟩⟩:=Tq h;obtain⟨d7,eI⟩:=Ti h1;have hm:(m:Int)=Bb k:=by have:=QX k;rw [Nat.min_def] at h2;split at h2<;>omega
   refine⟨d7,by omega,by rw [if_neg bp,if_neg bj,hm],h3,h4,h5,h6,fun hk=>h7 ((Oa k).1.2 (by omega)),fun hk=>sL ((Oa k).2.2 (by omega)),fun hk=>h8 ((Q9 k).1.2 hk),fun hk=>sM ((Q9 k).2.2 hk),fun hk=>h9 ((RA k).1.2 hk),fun hk=>sN ((RA k).2.2 hk)⟩
theorem WB{a:AH}(h:C7 a=true)(hr:a.rhos.length=a.rn):Wh a:=by
 unfold C7 at h;simp only [Bool.and_eq_true,Bool.not_eq_true',Bool.or_eq_false_iff,Bool.and_eq_false_imp,Bool.or_eq_true,decide_eq_false_iff_not,Bool.not_eq_false',bne_iff_ne,beq_iff_eq,bne_eq_false_iff_eq,beq_eq_false_iff_ne] at h;obtain⟨⟨⟨⟨⟨⟨⟨⟨h1,h2⟩,h3⟩,h4⟩,h5⟩,h6⟩,⟨h7,h8⟩⟩,⟨h9,kg⟩⟩,dp⟩:=h;obtain⟨k1,k2,k3,k4,k5,k6,k7,k8,k9,k10,k11,k12,k13⟩:=Us _ _ _ _ _ _ _ _ h1;rw [←hr,OT] at h6;refine⟨k1,k2,k3,k4,k5,k6,k7,k8,k9,k10,k11,k12,k13,by omega,fun h=>h4 h,fun r hr=>by have:=h6.1 r hr;omega,fun ha hb=>by have:=h5 ⟨ha,hb⟩;omega,h8,fun h=>by have:=h7 h;omega,h9,kg,fun h=>?_,fun h=>?_⟩
 ·rcases dp with⟨_,dp⟩|⟨dp,_⟩
  ·exact dp
  ·exact absurd h dp
 ·rcases dp with⟨dp,_⟩|⟨_,dp⟩
  ·exact absurd dp h
  ·exact dp
structure Bl(a:AH):Prop where
 name:a.name.size≤100
 arg:a.arg.size≤100
 exn:a.exn.size≤100
 rhos:a.rn≤50
 eff:BU a.eff=false
 ty:EU a.ty.er 100
 res:EU a.res.er 100
def BR(t:PA):Prop:=∀a∈AG.nodes t,Bl a
theorem BR.node{a:AH}{l:List PA}(ha:Bl a)(hl:∀t∈l,BR t):BR (.node a l):=by
 intro x hx;rw [AG.nodes_node,List.mem_cons] at hx;rcases hx with rfl|hx
 ·exact ha
 ·rw [List.mem_flatten] at hx;obtain⟨m,hm,hx⟩:=hx;obtain⟨t,ht,rfl⟩:=List.mem_map.1 hm;exact hl t ht x hx
def WT(t:PA)(n r:Int):Prop:=-1≤r∧r≤n∧(0≤r→(t.size:Int)+r=n∧BR t)
def L5(l:List PA)(n r:Int):Prop:=-1≤r∧r≤n∧(0≤r→((l.map AG.size).sum:Int)+r=n∧∀t∈l,BR t)
theorem L5.step{l:List PA}{n r r':Int}{t:PA}(h:L5 l n r)(h0:0≤r)(h':WT t r r'):L5 (l++[t]) n r':=by
 refine⟨h'.1,by have:=h.2.1;have:=h'.2.1;omega,fun hr=>?_⟩;obtain⟨h1,h2⟩:=h.2.2 h0;obtain⟨h3,h4⟩:=h'.2.2 hr;refine⟨?_,fun x hx=>?_⟩
 ·simp only [List.map_append,List.map_cons,List.map_nil,List.sum_append,List.sum_cons,List.sum_nil];omega
 ·rcases List.mem_append.1 hx with hx|hx
  ·exact h2 x hx
  ·rw [List.mem_singleton] at hx;subst hx;exact h4
theorem JF{t:PT}{w:World}(hl:LR.lies w t):Calls prog 87 #[Ci t.head] w fun e w'=>(∃r,e=.returned (.bool r)∧(r=false→EU t.er 100))∧Below w.heap.size w w':=Lt hl
theorem LU{a:AH}{w:World}{r:Bool}(h:BU a.eff=r)(ho:AE AS 3 w a.ep a.en a.ec a.eff):Calls prog 86 #[.slice a.ep a.en a.ec] w fun e w'=>e=.returned (.bool r)∧w=w':=by subst h;exact JG _ _ _ _ w ho.len ho.max ho.row
def Od(t:PA)(w:World):Prop:=∀n:Int,0≤n→n≤1000000→Calls prog 57 #[Aj t.head,.int .i64 n] w fun e w'=>(∃r:Int,e=.returned (.int .i64 r)∧WT t n r)∧Below w.heap.size w w'
theorem Nr{a:AH}{l:List PA}{w:World}(hN:Fr w a l)(hf:∀x∈l,∀W,Below w.heap.size w W→Od x W):Od (.node a l) w:=by
 intro n h0 hn;have HN:=AA hN;have HF:=AA hf;have dr:=hN.own.kmax;have tE:=hN.own.rhos.max;have gl:=hN.own.name;have tb:=hN.own.arg;have mS:=hN.own.exn;have HA:=AA (Aa w a);have aE:=AA ((Below.refl w.heap.size w).alloc (Nat.le_refl _) (AO a));show Calls _ _ #[Aj a,.int .i64 n] w _;clear hN hf;go_enter func57,ntmps57;go_upto_region 2 with fail;generalize w.alloc (AO a)=W0 at *
 go_cut [47] from 8 to 47 (fun s47 wx=>∃b,s47=.bool b∧(b=false→Bl a)∧Below W0.heap.size W0 wx)
 case first=>
  obtain⟨_,_,_,_,q4,q5,q6,q7,q8,q9,q10,q11,q12,q13,q14,q15,q16,q17,_⟩:=HA.o.all;by_cases h1:100<a.name.size
  ·have e1:decide ((100:Int)<(a.name.size:Int))=true:=by simp;omega
   clear h1;go_wp2_with fail;go_meet
   case rel=>exact⟨true,rfl,(fun h=>by cases h),Below.refl _ _⟩
  have e1:decide ((100:Int)<(a.name.size:Int))=false:=by simp;omega
  by_cases h2:100<a.arg.size
  ·have e2:decide ((100:Int)<(a.arg.size:Int))=true:=by simp;omega
   clear h1 h2;go_wp2_with fail;go_meet
   case rel=>exact⟨true,rfl,(fun h=>by cases h),Below.refl _ _⟩
  have e2:decide ((100:Int)<(a.arg.size:Int))=false:=by simp;omega
  by_cases h3:100<a.exn.size
  ·have e3:decide ((100:Int)<(a.exn.size:Int))=true:=by simp;omega
   clear h1 h2 h3;go_wp2_with fail;go_meet
   case rel=>exact⟨true,rfl,(fun h=>by cases h),Below.refl _ _⟩
  have e3:decide ((100:Int)<(a.exn.size:Int))=false:=by simp;omega
  by_cases h4:50<a.rn
  ·have e4:decide ((50:Int)<(a.rn:Int))=true:=by simp;omega
   clear h1 h2 h3 h4;go_wp2_with fail;go_meet
   case rel=>exact⟨true,rfl,(fun h=>by cases h),Below.refl _ _⟩
  have e4:decide ((50:Int)<(a.rn:Int))=false:=by simp;omega
  have fi:Hd (a.name.size≤100∧a.arg.size≤100∧a.exn.size≤100∧a.rn≤50):=by show _∧_;omega
  have aq:=AA (HN.o.own.eff.below aE.o);clear h1 h2 h3 h4;cases hg:BU a.eff
  ·have HG:=AA hg;clear hg;go_wp2_with fail;refine(LU HG.o aq.o).mono ?_;rintro e w1 ⟨rfl,rfl⟩;go_wp2_with fail;refine(JF (LR.lies_below aE.o _ HN.o.own.ty)).mono ?_;rintro e w2 ⟨⟨r,rfl,hr⟩,hb⟩;have HR:=AA hr;have aK:=AA hb;have lI:=AA (HA.o.below hb);clear hb hr q4 q5 q6 q7 q8 q9 q10 q11 q12 q13 q14 q15 q16 q17;cases r
   ·obtain⟨_,_,_,_,q4,q5,q6,q7,q8,q9,q10,q11,q12,q13,q14,q15,q16,q17,_⟩:=lI.o.all;go_wp2_with fail;refine(JF (LR.lies_below (aE.o.trans (aK.o.mono aE.o.size)) _ HN.o.own.res)).mono ?_;rintro e w3 ⟨⟨r',rfl,hr⟩,hb⟩;have bv:=AA hr;have aV:=bt aK hb;clear hb hr q4 q5 q6 q7 q8 q9 q10 q11 q12 q13 q14 q15 q16 q17;go_wp2_with fail;go_meet
    case rel=>exact⟨r',rfl,fun h=>⟨fi.o.1,fi.o.2.1,fi.o.2.2.1,fi.o.2.2.2,HG.o,HR.o (by first|rfl|trivial),bv.o h⟩,aV.o⟩
   ·go_wp2_with fail;go_meet
    case rel=>exact⟨true,rfl,(fun h=>by cases h),aK.o⟩
  ·have HG:=AA hg;clear hg;go_wp2_with fail;refine(LU HG.o aq.o).mono ?_;rintro e w1 ⟨rfl,rfl⟩;go_wp2_with fail;go_meet
   case rel=>exact⟨true,rfl,(fun h=>by cases h),Below.refl _ _⟩
 case rest=>
  obtain⟨b,rfl,hs,hb⟩:=hcut;have cS:=AA hs;have HB:=bt aE hb;have kB:=AA (HA.o.below hb);clear hb hs;cases b
  ·have su:w.heap.size<wc.heap.size:=(Array.getElem?_eq_some_iff.1 kB.o.blk).1;have bL:=AA (HN.o.below HB.o);go_upto_region 4 with fail;go_wp2_with fail;go_loopw [1,5] (fun u i wr=>∃(k:Nat) (r:Int),k≤a.kn∧i=.int .i64 k∧u=.int .i64 r∧L5 (l.take k) (n-1) r∧Below wc.heap.size wc wr) (fun _ i _=>a.kn-(intOf i).toNat)
   case atStart=>exact⟨0,n-1,by omega,rfl,by go_num,⟨by omega,by omega,fun _=>⟨by simp,fun t ht=>by simp at ht⟩⟩,Below.refl _ _⟩
   case round=>
    obtain⟨k,r,hk,rfl,rfl,jb,hb⟩:=hrel;have d7:=jb.1;have eI:=jb.2.1;have kV:=AA jb;have jG:=AA hb;clear jb hb;have q18:wr.cell? ⟨w.heap.size,18,none⟩=some (.slice a.kp a.kn a.kc):=(kB.o.below jG.o).c 18 _ rfl;by_cases aF:k<a.kn
    ·by_cases da:0≤r
     ·obtain⟨x,hx⟩:=(bL.o.rowT).at (j:=k) aF;have HE:=AA hx;obtain⟨b,o,bF,aP,am⟩:=(bL.o.rowT.below jG.o).kid hx;have dC:=AA am;rw [bF] at q18;clear hx aP bF am;go_wp2_with (refine lm (Bn x.head) dC.o.c underlying31 ?_);refine Calls.mono (HF.o x (List.mem_of_getElem? HE.o) wr (HB.o.trans (jG.o.mono HB.o.size)) r da (by omega)) ?_;rintro e w2 ⟨⟨r',rfl,bY⟩,hb⟩;have dc:=AA bY;have aK:=bt jG hb;clear bY hb q18;go_wp2_with fail;go_roundw
      case rel=>exact⟨k+1,r',by omega,by go_num,rfl,by rw [AI HE.o];exact kV.o.step da dc.o,aK.o⟩
      case measure=>simp [intOf];omega
     ·have hd:decide (0≤r)=false:=by simpa using da
      go_wp2_with fail;go_ret;exact⟨⟨r,rfl,by have:=kV.o;refine⟨this.1,by omega,fun h=>absurd h (by omega)⟩⟩,HB.o.trans (jG.o.mono HB.o.size)⟩
    ·have ao:k=a.kn:=by omega
     have h:=kV.o;rw [AP (by rw [bL.o.kids.len];omega)] at h;have H:=AA h;clear ao h;go_wp2_with fail;go_ret;refine⟨⟨r,rfl,H.o.1,by omega,fun h0=>?_⟩,HB.o.trans (jG.o.mono HB.o.size)⟩;obtain⟨h1,h2⟩:=H.o.2.2 h0;refine⟨by rw [AG.size_node];omega,BR.node (cS.o (by first|rfl|trivial)) h2⟩
  ·go_wp2_with fail;go_ret;exact⟨⟨-1,rfl,by omega,by omega,fun h=>absurd h (by omega)⟩,HB.o⟩
theorem Rz(t:PA):∀w,LA.lies w t→Od t w:=by refine AG.ind (P:=fun(t:PA)=>∀w,LA.lies w t→Od t w) (fun a l ih=>?_) t;intro w hl;have HN:=DP hl;exact Nr HN (fun x hx W hW=>ih x hx W (LA.lies_below hW x (HN.each x hx)))
theorem Lq{t:PA}{w:World}(hl:LA.lies w t):Calls prog 33 #[Aj t.head] w fun e w'=>(∃r,e=.returned (.bool r)∧(r=false→t.size≤400∧BR t))∧Below w.heap.size w w':=by
 have aE:=AA ((Below.refl w.heap.size w).alloc (Nat.le_refl _) (AO t.head));have HL:=AA (Rz t _ (LA.lies_below ((Below.refl w.heap.size w).alloc (Nat.le_refl _) (AO t.head)) t hl) 400 (by omega) (by omega));have HA:=AA (Aa w t.head);obtain⟨a,l⟩:=t;show Calls _ _ #[Aj a] w _;clear hl;go_enter func33,ntmps33;go_wp2_with (refine lw (HA.o.blk) underlying31 ?_);refine Calls.mono HL.o ?_;rintro e w1 ⟨⟨r,rfl,bY⟩,hb⟩;have dc:=AA bY;have HB:=bt aE hb;clear bY hb;go_wp2_with fail;go_ret;refine⟨⟨_,rfl,fun h=>?_⟩,HB.o⟩;have h0:0≤r:=by simpa using h
 obtain⟨h1,h2⟩:=dc.o.2.2 h0;exact⟨by omega,h2⟩
end Go.Proofs.YtkdjnegfnhldpaaGreatDoor
