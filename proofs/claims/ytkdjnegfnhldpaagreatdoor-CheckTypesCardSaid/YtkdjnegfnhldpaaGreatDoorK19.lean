/- Part 19. -/
import Derived.Test.YtkdjnegfnhldpaaGreatDoorK18
set_option linter.unusedVariables false
set_option maxRecDepth 100000
set_option linter.unusedSimpArgs false
set_option maxHeartbeats 40000000
set_option autoImplicit true
set_option relaxedAutoImplicit true
namespace Go.Proofs.YtkdjnegfnhldpaaGreatDoor
open Go.Proofs.Tryz Go.RowKit
structure LI(U:Nat->Prop)(w:World)(a:OC)(l:List PY):Prop where
 ok:a.Ok
 kids:Gk LY.encT 3 U w a.kp a.kn a.kc l
 each:∀t∈l,LY.lies U w t
theorem ZAm(h:LY.lies U w (.node a l)):LI U w a l:=by rw [FY.lies_node] at h;exact⟨h.1,h.2.1,h.2.2⟩
theorem LI.lies(h:LI U w a l):LY.lies U w (.node a l):=by rw [FY.lies_node];exact⟨h.ok,h.kids,h.each⟩
theorem LI.keep(h:LI U w a l)(hk:BD U w w'):LI U w' a l:=⟨h.ok,h.kids.keep hk,fun t ht=>LY.lies_keep hk t (h.each t ht)⟩
theorem LI.alloc(h:LI U w a l)(o:Obj):LI U (w.alloc o) a l:=h.keep (BD.of bA)
theorem Td(h:Gk LY.encT 3 U w p n c l)(hx:l[j]?=some t) :
 ∃b o,p=some ⟨b,o,none⟩/\b<w.heap.size/\w.cell? ⟨b,o+j * 3,none⟩=some (.int .u8 t.head.kind)/\w.cell? ⟨b,o+j * 3+1,none⟩=some (.int .i64 t.head.var) /\
  w.cell? ⟨b,o+j * 3+2,none⟩=some (.slice t.head.kp t.head.kn t.head.kc):=by
 obtain⟨b,o,hp,hb,hc⟩:=h.elem hx
 exact⟨b,o,hp,hb,by simpa using hc 0 _ rfl,hc 1 _ rfl,hc 2 _ rfl⟩
theorem Eb(a:OC)(l:List PY):FT (PY.er (.node a l))=((decide (a.kind=1)||decide (a.kind=2)||decide (a.kind=3)||decide (a.kind=4)||decide (a.kind=5))&&decide (l.length=UA a.kind)&&decide (0<=a.var)&&(decide (a.var<=0)||decide (a.kind=5))&&l.all (fun t=>FT (PY.er t))):=by rw [PY.er_node,OZ,Ba,CD];rfl
theorem Jy(n:Nat)(a:OC)(l:List PY):EC n (PY.er (.node a l))=(!(decide (a.kind=5)&&decide ((n:Int)<=a.var))&&l.all (fun t=>EC n (PY.er t))):=by rw [PY.er_node,LF,CD];rfl
theorem Mj(t:PY):∀w,LY.lies U w t->Calls prog 150 #[GL t.head] w (RB w (.bool (FT t.er))):=by
 refine Ad.ind (P:=fun(t:PY)=>∀w,LY.lies U w t->Calls prog 150 #[GL t.head] w fun e w'=>e=.returned (.bool (FT t.er))/\Below w.heap.size w w') (fun a l ih=>?_) t;intro w hl;have HN:=AF (ZAm hl);have IH:=AF ih;have fL:=HN.o.kids.is.max;have aK:=AF ((AA w.heap.size w).alloc (AB _) (.cells #[.int .u8 a.kind,.int .i64 a.var,.slice a.kp a.kn a.kc] 45));show Calls _ _ #[GL a] w _;clear hl ih;obtain⟨kd,vr,kp,kn,kc⟩:=a;simp only at fL;have fV:l.length=kn:=HN.o.kids.is.len;by_cases h1:kd=1
 ·subst h1;by_cases hk:kn=0
  ·subst hk;by_cases hv:vr<0
   ·have HF:Hd (FT (PY.er (.node ⟨1,vr,kp,0,kc⟩ l))=false):=by show _=_;rw [Eb];have h9:¬0<=vr:=(by omega);simp [h9]
    go_enter func150,ntmps150;go_wp2_with fail;go_ret;exact⟨Af HF.o.symm,aK.o⟩
   ·by_cases fX:0<vr
    ·have HF:Hd (FT (PY.er (.node ⟨1,vr,kp,0,kc⟩ l))=false):=by show _=_;rw [Eb];have h9:¬vr<=0:=(by omega);simp [h9]
     go_enter func150,ntmps150;go_wp2_with fail;go_ret;exact⟨Af HF.o.symm,aK.o⟩
    ·have gO:vr=0:=by omega
     subst gO;have bo:Hd (((decide ((1:Int)=1)||decide ((1:Int)=2)||decide ((1:Int)=3)||decide ((1:Int)=4)||decide ((1:Int)=5))&&decide (l.length=UA 1)&&decide ((0:Int)<=0)&&(decide ((0:Int)<=0)||decide ((1:Int)=5)))=true):=by show _=_;rw [fV];rfl
     clear hv fX fV;go_enter func150,ntmps150;go_wp2_with fail;have cL:=AF (HN.o.alloc (.cells #[.int .u8 1,.int .i64 0,.slice kp 0 kc] 45));generalize hW:w.alloc (.cells #[.int .u8 1,.int .i64 0,.slice kp 0 kc] 45)=W at *
     have dZ:Hd (∀wr,Below W.heap.size W wr->wr.cell? ⟨w.heap.size,2,none⟩=some (.slice kp 0 kc)):=by show ∀wr,_;intro wr hb;rw [<-hW] at hb;rw [hb.cell (by simp),Bq];rfl
     clear hW;go_loopw [4,38] (fun _ i wr=>∃(k:Nat),k<=0/\i=.int .i64 k/\(l.take k).all (fun t=>FT (PY.er t))=true/\Below W.heap.size W wr) (fun _ i _=>0-(intOf i).toNat)
     case atStart=>exact⟨0,by omega,rfl,by simp,AA _ _⟩
     case round=>
      obtain⟨k,hk,rfl,an,hb⟩:=hrel;have ax:=AF an;have HB:=AF hb;clear an hb;have fJ:=dZ.o wr HB.o;by_cases aG:k<0
      ·omega
      ·have ai:k=0:=by omega
       have HT:Hd (FT (PY.er (.node ⟨1,0,kp,0,kc⟩ l))=true):=by show _=_;have h:=ax.o;rw [Bb (by have:=cL.o.kids.is.len;simp only at this;omega)] at h;rw [Eb,h,Cy];exact bo.o
       go_wp2_with fail;go_ret;exact⟨Af HT.o.symm,aK.o.trans (HB.o.mono aK.o.size)⟩
  ·have hb:((kn:Int) != 0)=true:=by rw [DD];omega
   have HF:Hd (FT (PY.er (.node ⟨1,vr,kp,kn,kc⟩ l))=false):=by
    show _=_;rw [Eb];have:¬l.length=UA 1:=by rw [fV];exact hk
    simp [this]
   go_enter func150,ntmps150;go_wp2_with fail;go_ret;exact⟨Af HF.o.symm,aK.o⟩
 by_cases h2:kd=2
 ·subst h2;by_cases hk:kn=2
  ·subst hk;by_cases hv:vr<0
   ·have HF:Hd (FT (PY.er (.node ⟨2,vr,kp,2,kc⟩ l))=false):=by show _=_;rw [Eb];have h9:¬0<=vr:=(by omega);simp [h9]
    go_enter func150,ntmps150;go_wp2_with fail;go_ret;exact⟨Af HF.o.symm,aK.o⟩
   ·by_cases fX:0<vr
    ·have HF:Hd (FT (PY.er (.node ⟨2,vr,kp,2,kc⟩ l))=false):=by show _=_;rw [Eb];have h9:¬vr<=0:=(by omega);simp [h9]
     go_enter func150,ntmps150;go_wp2_with fail;go_ret;exact⟨Af HF.o.symm,aK.o⟩
    ·have gO:vr=0:=by omega
     subst gO;have bo:Hd (((decide ((2:Int)=1)||decide ((2:Int)=2)||decide ((2:Int)=3)||decide ((2:Int)=4)||decide ((2:Int)=5))&&decide (l.length=UA 2)&&decide ((0:Int)<=0)&&(decide ((0:Int)<=0)||decide ((2:Int)=5)))=true):=by show _=_;rw [fV];rfl
     clear hv fX fV;go_enter func150,ntmps150;go_wp2_with fail;have cL:=AF (HN.o.alloc (.cells #[.int .u8 2,.int .i64 0,.slice kp 2 kc] 45));generalize hW:w.alloc (.cells #[.int .u8 2,.int .i64 0,.slice kp 2 kc] 45)=W at *
     have dZ:Hd (∀wr,Below W.heap.size W wr->wr.cell? ⟨w.heap.size,2,none⟩=some (.slice kp 2 kc)):=by show ∀wr,_;intro wr hb;rw [<-hW] at hb;rw [hb.cell (by simp),Bq];rfl
     clear hW;go_loopw [4,38] (fun _ i wr=>∃(k:Nat),k<=2/\i=.int .i64 k/\(l.take k).all (fun t=>FT (PY.er t))=true/\Below W.heap.size W wr) (fun _ i _=>2-(intOf i).toNat)
     case atStart=>exact⟨0,by omega,rfl,by simp,AA _ _⟩
     case round=>
      obtain⟨k,hk,rfl,an,hb⟩:=hrel;have ax:=AF an;have HB:=AF hb;clear an hb;have fJ:=dZ.o wr HB.o;by_cases aG:k<2
      ·obtain⟨x,hx⟩:=cL.o.kids.at (j:=k) aG;have HE:=AF hx;have eh:=cL.o.keep (BD.of HB.o);obtain⟨b,o,bV,bB,d0,d1,d2⟩:=Td eh.kids hx;have HX:=AF (eh.each x (AE hx));simp only at bV;subst bV;clear hx bB eh;cases hq:FT (PY.er x)
       ·have HQ:=AF hq;have HF:Hd (FT (PY.er (.node ⟨2,0,some ⟨b,o,none⟩,2,kc⟩ l))=false):=by show _=_;rw [Eb,J4 HE.o hq,ED]
        clear hq;go_wp2_with fail;refine(IH.out x (AE HE.o) wr HX.o).mono ?_;rintro e w2 ⟨rfl,hb⟩;have aF:=AF (aK.o.trans ((HB.o.trans (hb.mono HB.o.size)).mono aK.o.size));rw [HQ.o];clear hb d0 d1 d2 fJ;go_wp2_with fail;go_ret;exact⟨Af HF.o.symm,aF.o⟩
       ·have HQ:=AF hq;clear hq;go_wp2_with fail;refine(IH.out x (AE HE.o) wr HX.o).mono ?_;rintro e w2 ⟨rfl,hb⟩;have aF:=bt HB hb;rw [HQ.o];clear hb d0 d1 d2 fJ;go_wp2_with fail;go_roundw
        case rel=>exact⟨k+1,by omega,by go_num,by rw [FU HE.o,ax.o,HQ.o];rfl,aF.o⟩
        case measure=>simp [intOf];omega
      ·have ai:k=2:=by omega
       have HT:Hd (FT (PY.er (.node ⟨2,0,kp,2,kc⟩ l))=true):=by show _=_;have h:=ax.o;rw [Bb (by have:=cL.o.kids.is.len;simp only at this;omega)] at h;rw [Eb,h,Cy];exact bo.o
       go_wp2_with fail;go_ret;exact⟨Af HT.o.symm,aK.o.trans (HB.o.mono aK.o.size)⟩
  ·have hb:((kn:Int) != 2)=true:=by rw [DD];omega
   have HF:Hd (FT (PY.er (.node ⟨2,vr,kp,kn,kc⟩ l))=false):=by
    show _=_;rw [Eb];have:¬l.length=UA 2:=by rw [fV];exact hk
    simp [this]
   go_enter func150,ntmps150;go_wp2_with fail;go_ret;exact⟨Af HF.o.symm,aK.o⟩
 by_cases h3:kd=3
 ·subst h3;by_cases hk:kn=1
  ·subst hk;by_cases hv:vr<0
   ·have HF:Hd (FT (PY.er (.node ⟨3,vr,kp,1,kc⟩ l))=false):=by show _=_;rw [Eb];have h9:¬0<=vr:=(by omega);simp [h9]
    go_enter func150,ntmps150;go_wp2_with fail;go_ret;exact⟨Af HF.o.symm,aK.o⟩
   ·by_cases fX:0<vr
    ·have HF:Hd (FT (PY.er (.node ⟨3,vr,kp,1,kc⟩ l))=false):=by show _=_;rw [Eb];have h9:¬vr<=0:=(by omega);simp [h9]
     go_enter func150,ntmps150;go_wp2_with fail;go_ret;exact⟨Af HF.o.symm,aK.o⟩
    ·have gO:vr=0:=by omega
     subst gO;have bo:Hd (((decide ((3:Int)=1)||decide ((3:Int)=2)||decide ((3:Int)=3)||decide ((3:Int)=4)||decide ((3:Int)=5))&&decide (l.length=UA 3)&&decide ((0:Int)<=0)&&(decide ((0:Int)<=0)||decide ((3:Int)=5)))=true):=by show _=_;rw [fV];rfl
     clear hv fX fV;go_enter func150,ntmps150;go_wp2_with fail;have cL:=AF (HN.o.alloc (.cells #[.int .u8 3,.int .i64 0,.slice kp 1 kc] 45));generalize hW:w.alloc (.cells #[.int .u8 3,.int .i64 0,.slice kp 1 kc] 45)=W at *
     have dZ:Hd (∀wr,Below W.heap.size W wr->wr.cell? ⟨w.heap.size,2,none⟩=some (.slice kp 1 kc)):=by show ∀wr,_;intro wr hb;rw [<-hW] at hb;rw [hb.cell (by simp),Bq];rfl
     clear hW;go_loopw [4,38] (fun _ i wr=>∃(k:Nat),k<=1/\i=.int .i64 k/\(l.take k).all (fun t=>FT (PY.er t))=true/\Below W.heap.size W wr) (fun _ i _=>1-(intOf i).toNat)
     case atStart=>exact⟨0,by omega,rfl,by simp,AA _ _⟩
     case round=>
      obtain⟨k,hk,rfl,an,hb⟩:=hrel;have ax:=AF an;have HB:=AF hb;clear an hb;have fJ:=dZ.o wr HB.o;by_cases aG:k<1
      ·obtain⟨x,hx⟩:=cL.o.kids.at (j:=k) aG;have HE:=AF hx;have eh:=cL.o.keep (BD.of HB.o);obtain⟨b,o,bV,bB,d0,d1,d2⟩:=Td eh.kids hx;have HX:=AF (eh.each x (AE hx));simp only at bV;subst bV;clear hx bB eh;cases hq:FT (PY.er x)
       ·have HQ:=AF hq;have HF:Hd (FT (PY.er (.node ⟨3,0,some ⟨b,o,none⟩,1,kc⟩ l))=false):=by show _=_;rw [Eb,J4 HE.o hq,ED]
        clear hq;go_wp2_with fail;refine(IH.out x (AE HE.o) wr HX.o).mono ?_;rintro e w2 ⟨rfl,hb⟩;have aF:=AF (aK.o.trans ((HB.o.trans (hb.mono HB.o.size)).mono aK.o.size));rw [HQ.o];clear hb d0 d1 d2 fJ;go_wp2_with fail;go_ret;exact⟨Af HF.o.symm,aF.o⟩
       ·have HQ:=AF hq;clear hq;go_wp2_with fail;refine(IH.out x (AE HE.o) wr HX.o).mono ?_;rintro e w2 ⟨rfl,hb⟩;have aF:=bt HB hb;rw [HQ.o];clear hb d0 d1 d2 fJ;go_wp2_with fail;go_roundw
        case rel=>exact⟨k+1,by omega,by go_num,by rw [FU HE.o,ax.o,HQ.o];rfl,aF.o⟩
        case measure=>simp [intOf];omega
      ·have ai:k=1:=by omega
       have HT:Hd (FT (PY.er (.node ⟨3,0,kp,1,kc⟩ l))=true):=by show _=_;have h:=ax.o;rw [Bb (by have:=cL.o.kids.is.len;simp only at this;omega)] at h;rw [Eb,h,Cy];exact bo.o
       go_wp2_with fail;go_ret;exact⟨Af HT.o.symm,aK.o.trans (HB.o.mono aK.o.size)⟩
  ·have hb:((kn:Int) != 1)=true:=by rw [DD];omega
   have HF:Hd (FT (PY.er (.node ⟨3,vr,kp,kn,kc⟩ l))=false):=by
    show _=_;rw [Eb];have:¬l.length=UA 3:=by rw [fV];exact hk
    simp [this]
   go_enter func150,ntmps150;go_wp2_with fail;go_ret;exact⟨Af HF.o.symm,aK.o⟩
 by_cases h4:kd=4
 ·subst h4;by_cases hk:kn=2
  ·subst hk;by_cases hv:vr<0
   ·have HF:Hd (FT (PY.er (.node ⟨4,vr,kp,2,kc⟩ l))=false):=by show _=_;rw [Eb];have h9:¬0<=vr:=(by omega);simp [h9]
    go_enter func150,ntmps150;go_wp2_with fail;go_ret;exact⟨Af HF.o.symm,aK.o⟩
   ·by_cases fX:0<vr
    ·have HF:Hd (FT (PY.er (.node ⟨4,vr,kp,2,kc⟩ l))=false):=by show _=_;rw [Eb];have h9:¬vr<=0:=(by omega);simp [h9]
     go_enter func150,ntmps150;go_wp2_with fail;go_ret;exact⟨Af HF.o.symm,aK.o⟩
    ·have gO:vr=0:=by omega
     subst gO;have bo:Hd (((decide ((4:Int)=1)||decide ((4:Int)=2)||decide ((4:Int)=3)||decide ((4:Int)=4)||decide ((4:Int)=5))&&decide (l.length=UA 4)&&decide ((0:Int)<=0)&&(decide ((0:Int)<=0)||decide ((4:Int)=5)))=true):=by show _=_;rw [fV];rfl
     clear hv fX fV;go_enter func150,ntmps150;go_wp2_with fail;have cL:=AF (HN.o.alloc (.cells #[.int .u8 4,.int .i64 0,.slice kp 2 kc] 45));generalize hW:w.alloc (.cells #[.int .u8 4,.int .i64 0,.slice kp 2 kc] 45)=W at *
     have dZ:Hd (∀wr,Below W.heap.size W wr->wr.cell? ⟨w.heap.size,2,none⟩=some (.slice kp 2 kc)):=by show ∀wr,_;intro wr hb;rw [<-hW] at hb;rw [hb.cell (by simp),Bq];rfl
     clear hW;go_loopw [4,38] (fun _ i wr=>∃(k:Nat),k<=2/\i=.int .i64 k/\(l.take k).all (fun t=>FT (PY.er t))=true/\Below W.heap.size W wr) (fun _ i _=>2-(intOf i).toNat)
     case atStart=>exact⟨0,by omega,rfl,by simp,AA _ _⟩
     case round=>
      obtain⟨k,hk,rfl,an,hb⟩:=hrel;have ax:=AF an;have HB:=AF hb;clear an hb;have fJ:=dZ.o wr HB.o;by_cases aG:k<2
      ·obtain⟨x,hx⟩:=cL.o.kids.at (j:=k) aG;have HE:=AF hx;have eh:=cL.o.keep (BD.of HB.o);obtain⟨b,o,bV,bB,d0,d1,d2⟩:=Td eh.kids hx;have HX:=AF (eh.each x (AE hx));simp only at bV;subst bV;clear hx bB eh;cases hq:FT (PY.er x)
       ·have HQ:=AF hq;have HF:Hd (FT (PY.er (.node ⟨4,0,some ⟨b,o,none⟩,2,kc⟩ l))=false):=by show _=_;rw [Eb,J4 HE.o hq,ED]
        clear hq;go_wp2_with fail;refine(IH.out x (AE HE.o) wr HX.o).mono ?_;rintro e w2 ⟨rfl,hb⟩;have aF:=AF (aK.o.trans ((HB.o.trans (hb.mono HB.o.size)).mono aK.o.size));rw [HQ.o];clear hb d0 d1 d2 fJ;go_wp2_with fail;go_ret;exact⟨Af HF.o.symm,aF.o⟩
       ·have HQ:=AF hq;clear hq;go_wp2_with fail;refine(IH.out x (AE HE.o) wr HX.o).mono ?_;rintro e w2 ⟨rfl,hb⟩;have aF:=bt HB hb;rw [HQ.o];clear hb d0 d1 d2 fJ;go_wp2_with fail;go_roundw
        case rel=>exact⟨k+1,by omega,by go_num,by rw [FU HE.o,ax.o,HQ.o];rfl,aF.o⟩
        case measure=>simp [intOf];omega
      ·have ai:k=2:=by omega
       have HT:Hd (FT (PY.er (.node ⟨4,0,kp,2,kc⟩ l))=true):=by show _=_;have h:=ax.o;rw [Bb (by have:=cL.o.kids.is.len;simp only at this;omega)] at h;rw [Eb,h,Cy];exact bo.o
       go_wp2_with fail;go_ret;exact⟨Af HT.o.symm,aK.o.trans (HB.o.mono aK.o.size)⟩
  ·have hb:((kn:Int) != 2)=true:=by rw [DD];omega
   have HF:Hd (FT (PY.er (.node ⟨4,vr,kp,kn,kc⟩ l))=false):=by
    show _=_;rw [Eb];have:¬l.length=UA 4:=by rw [fV];exact hk
    simp [this]
   go_enter func150,ntmps150;go_wp2_with fail;go_ret;exact⟨Af HF.o.symm,aK.o⟩
 by_cases h5:kd=5
 ·subst h5;by_cases hk:kn=0
  ·subst hk;by_cases hv:vr<0
   ·have HF:Hd (FT (PY.er (.node ⟨5,vr,kp,0,kc⟩ l))=false):=by show _=_;rw [Eb];have h9:¬0<=vr:=(by omega);simp [h9]
    go_enter func150,ntmps150;go_wp2_with fail;go_ret;exact⟨Af HF.o.symm,aK.o⟩
   ·have bo:Hd (((decide ((5:Int)=1)||decide ((5:Int)=2)||decide ((5:Int)=3)||decide ((5:Int)=4)||decide ((5:Int)=5))&&decide (l.length=UA 5)&&decide (0<=vr)&&(decide (vr<=0)||decide ((5:Int)=5)))=true):=by
     show _=_;have:0<=vr:=by omega
     rw [fV];simp [this,UA]
    clear fV;by_cases fX:0<vr
    ·go_enter func150,ntmps150;go_wp2_with fail;have cL:=AF (HN.o.alloc (.cells #[.int .u8 5,.int .i64 vr,.slice kp 0 kc] 45));generalize hW:w.alloc (.cells #[.int .u8 5,.int .i64 vr,.slice kp 0 kc] 45)=W at *
     have dZ:Hd (∀wr,Below W.heap.size W wr->wr.cell? ⟨w.heap.size,2,none⟩=some (.slice kp 0 kc)):=by show ∀wr,_;intro wr hb;rw [<-hW] at hb;rw [hb.cell (by simp),Bq];rfl
     clear hW;go_loopw [4,38] (fun _ i wr=>∃(k:Nat),k<=0/\i=.int .i64 k/\(l.take k).all (fun t=>FT (PY.er t))=true/\Below W.heap.size W wr) (fun _ i _=>0-(intOf i).toNat)
     case atStart=>exact⟨0,by omega,rfl,by simp,AA _ _⟩
     case round=>
      obtain⟨k,hk,rfl,an,hb⟩:=hrel;have ax:=AF an;have HB:=AF hb;clear an hb;have fJ:=dZ.o wr HB.o;by_cases aG:k<0
      ·omega
      ·have ai:k=0:=by omega
       have HT:Hd (FT (PY.er (.node ⟨5,vr,kp,0,kc⟩ l))=true):=by show _=_;have h:=ax.o;rw [Bb (by have:=cL.o.kids.is.len;simp only at this;omega)] at h;rw [Eb,h,Cy];exact bo.o
       go_wp2_with fail;go_ret;exact⟨Af HT.o.symm,aK.o.trans (HB.o.mono aK.o.size)⟩
    ·go_enter func150,ntmps150;go_wp2_with fail;have cL:=AF (HN.o.alloc (.cells #[.int .u8 5,.int .i64 vr,.slice kp 0 kc] 45));generalize hW:w.alloc (.cells #[.int .u8 5,.int .i64 vr,.slice kp 0 kc] 45)=W at *
     have dZ:Hd (∀wr,Below W.heap.size W wr->wr.cell? ⟨w.heap.size,2,none⟩=some (.slice kp 0 kc)):=by show ∀wr,_;intro wr hb;rw [<-hW] at hb;rw [hb.cell (by simp),Bq];rfl
     clear hW;go_loopw [4,38] (fun _ i wr=>∃(k:Nat),k<=0/\i=.int .i64 k/\(l.take k).all (fun t=>FT (PY.er t))=true/\Below W.heap.size W wr) (fun _ i _=>0-(intOf i).toNat)
     case atStart=>exact⟨0,by omega,rfl,by simp,AA _ _⟩
     case round=>
      obtain⟨k,hk,rfl,an,hb⟩:=hrel;have ax:=AF an;have HB:=AF hb;clear an hb;have fJ:=dZ.o wr HB.o;by_cases aG:k<0
      ·omega
      ·have ai:k=0:=by omega
       have HT:Hd (FT (PY.er (.node ⟨5,vr,kp,0,kc⟩ l))=true):=by show _=_;have h:=ax.o;rw [Bb (by have:=cL.o.kids.is.len;simp only at this;omega)] at h;rw [Eb,h,Cy];exact bo.o
       go_wp2_with fail;go_ret;exact⟨Af HT.o.symm,aK.o.trans (HB.o.mono aK.o.size)⟩
  ·have hb:((kn:Int) != 0)=true:=by rw [DD];omega
   have HF:Hd (FT (PY.er (.node ⟨5,vr,kp,kn,kc⟩ l))=false):=by
    show _=_;rw [Eb];have:¬l.length=UA 5:=by rw [fV];exact hk
    simp [this]
   go_enter func150,ntmps150;go_wp2_with fail;go_ret;exact⟨Af HF.o.symm,aK.o⟩
 ·have b1:(kd==1)=false:=by rw [AW];exact h1
  have b2:(kd==2)=false:=by rw [AW];exact h2
  have b3:(kd==3)=false:=by rw [AW];exact h3
  have b4:(kd==4)=false:=by rw [AW];exact h4
  have b5:(kd==5)=false:=by rw [AW];exact h5
  have hb:((kn:Int) != -1)=true:=by rw [DD];omega
  have HF:Hd (FT (PY.er (.node ⟨kd,vr,kp,kn,kc⟩ l))=false):=by show _=_;rw [Eb];simp [h1,h2,h3,h4,h5]
  clear h1 h2 h3 h4 h5;go_enter func150,ntmps150;go_wp2_with fail;go_ret;exact⟨Af HF.o.symm,aK.o⟩
theorem Oe{U:Nat->Prop}{n:Nat}(t:PY):∀w,LY.lies U w t->Calls prog 151 #[GL t.head,.int .i64 n] w (RB w (.bool (EC n t.er))):=by
 refine Ad.ind (P:=fun(t:PY)=>∀w,LY.lies U w t->Calls prog 151 #[GL t.head,.int .i64 n] w fun e w'=>e=.returned (.bool (EC n t.er))/\Below w.heap.size w w') (fun a l ih=>?_) t;intro w hl;have HN:=AF (ZAm hl);have IH:=AF ih;have fL:=HN.o.kids.is.max;have aK:=AF ((AA w.heap.size w).alloc (AB _) (.cells #[.int .u8 a.kind,.int .i64 a.var,.slice a.kp a.kn a.kc] 45));show Calls _ _ #[GL a,_] w _;clear hl ih;by_cases bu:a.kind=5/\(n:Int)<=a.var
 ·obtain⟨kd,vr,kp,kn,kc⟩:=a;simp only at bu;obtain⟨rfl,hv⟩:=bu;have HF:Hd (EC n (PY.er (.node ⟨5,vr,kp,kn,kc⟩ l))=false):=by show _=_;rw [Jy];simp [hv]
  have ms:decide ((n:Int)<=vr)=true:=by simpa using hv
  clear hv;go_enter func151,ntmps151;go_wp2_with fail;go_ret;exact⟨Af HF.o.symm,aK.o⟩
 ·have bo:Hd ((!(decide (a.kind=5)&&decide ((n:Int)<=a.var)))=true):=by
   show _=_;by_cases h5:a.kind=5
   ·have:¬(n:Int)<=a.var:=fun h=>bu ⟨h5,h⟩;simp [this]
   ·simp [h5]
  obtain⟨kd,vr,kp,kn,kc⟩:=a;simp only at fL bu;have qk:=AF bu;clear bu;go_enter func151,ntmps151;go_upto_region 1 with fail;have cL:=AF (HN.o.alloc (.cells #[.int .u8 kd,.int .i64 vr,.slice kp kn kc] 45));have HC:Hd (∀(W:World) wr,W=w.alloc (.cells #[.int .u8 kd,.int .i64 vr,.slice kp kn kc] 45)->Below W.heap.size W wr->wr.cell? ⟨w.heap.size,0,none⟩=some (.int .u8 kd)/\wr.cell? ⟨w.heap.size,1,none⟩=some (.int .i64 vr)/\wr.cell? ⟨w.heap.size,2,none⟩=some (.slice kp kn kc)):=by show ∀(W:World) wr,_;intro W wr e hb;subst e;refine⟨?_,?_,?_⟩<;>(rw [hb.cell (by simp),Bq];rfl)
  have dZ:Hd (∀wr,Below (w.alloc (.cells #[.int .u8 kd,.int .i64 vr,.slice kp kn kc] 45)).heap.size (w.alloc (.cells #[.int .u8 kd,.int .i64 vr,.slice kp kn kc] 45)) wr->wr.cell? ⟨w.heap.size,2,none⟩=some (.slice kp kn kc)):=by show ∀wr,_;intro wr hb;exact(HC.o _ wr rfl hb).2.2
  obtain⟨c0,c1,c2⟩:=HC.o _ _ rfl (AA _ _);clear HC;generalize w.alloc (.cells #[.int .u8 kd,.int .i64 vr,.slice kp kn kc] 45)=W at *
  by_cases h5:kd=5
  ·have hv:¬(n:Int)<=vr:=fun h=>qk.o ⟨h5,h⟩;have ms:decide ((n:Int)<=vr)=false:=by simpa using hv
   have fg:(kd==5)=true:=by simpa using h5
   clear hv h5;go_upto_region 3 with fail;clear ms fg c0 c1;go_wp2_with fail;clear c2;go_loopw [5,18] (fun _ i wr=>∃(k:Nat),k<=kn/\i=.int .i64 k/\(l.take k).all (fun t=>EC n (PY.er t))=true/\Below W.heap.size W wr) (fun _ i _=>kn-(intOf i).toNat)
   case atStart=>exact⟨0,by omega,rfl,by simp,AA _ _⟩
   case round=>
    obtain⟨k,hk,rfl,an,hb⟩:=hrel;have ax:=AF an;have HB:=AF hb;clear an hb;have fJ:=dZ.o wr HB.o;by_cases aG:k<kn
    ·obtain⟨x,hx⟩:=cL.o.kids.at (j:=k) aG;have HE:=AF hx;have eh:=cL.o.keep (BD.of HB.o);obtain⟨b,o,bV,bB,d0,d1,d2⟩:=Td eh.kids hx;have HX:=AF (eh.each x (AE hx));simp only at bV;subst bV;clear hx bB eh;cases hq:EC n (PY.er x)
     ·have HQ:=AF hq;have HF:Hd (EC n (PY.er (.node ⟨kd,vr,some ⟨b,o,none⟩,kn,kc⟩ l))=false):=by show _=_;rw [Jy,J4 HE.o hq,ED]
      clear hq;go_wp2_with fail;refine(IH.out x (AE HE.o) wr HX.o).mono ?_;rintro e w2 ⟨rfl,hb⟩;have aF:=AF (aK.o.trans ((HB.o.trans (hb.mono HB.o.size)).mono aK.o.size));rw [HQ.o];clear hb d0 d1 d2 fJ;go_wp2_with fail;go_ret;exact⟨Af HF.o.symm,aF.o⟩
     ·have HQ:=AF hq;clear hq;go_wp2_with fail;refine(IH.out x (AE HE.o) wr HX.o).mono ?_;rintro e w2 ⟨rfl,hb⟩;have aF:=bt HB hb;rw [HQ.o];clear hb d0 d1 d2 fJ;go_wp2_with fail;go_roundw
      case rel=>exact⟨k+1,by omega,by go_num,by rw [FU HE.o,ax.o,HQ.o];rfl,aF.o⟩
      case measure=>simp [intOf];omega
    ·have ai:k=kn:=by omega
     have HT:Hd (EC n (PY.er (.node ⟨kd,vr,kp,kn,kc⟩ l))=true):=by show _=_;have h:=ax.o;rw [Bb (by have:=cL.o.kids.is.len;simp only at this;omega)] at h;rw [Jy,h,Cy];exact bo.o
     go_wp2_with fail;go_ret;exact⟨Af HT.o.symm,aK.o.trans (HB.o.mono aK.o.size)⟩
  ·have fg:(kd==5)=false:=by simpa using h5
   clear h5;go_upto_region 3 with fail;clear fg c0 c1;go_wp2_with fail;clear c2;go_loopw [5,18] (fun _ i wr=>∃(k:Nat),k<=kn/\i=.int .i64 k/\(l.take k).all (fun t=>EC n (PY.er t))=true/\Below W.heap.size W wr) (fun _ i _=>kn-(intOf i).toNat)
   case atStart=>exact⟨0,by omega,rfl,by simp,AA _ _⟩
   case round=>
    obtain⟨k,hk,rfl,an,hb⟩:=hrel;have ax:=AF an;have HB:=AF hb;clear an hb;have fJ:=dZ.o wr HB.o;by_cases aG:k<kn
    ·obtain⟨x,hx⟩:=cL.o.kids.at (j:=k) aG;have HE:=AF hx;have eh:=cL.o.keep (BD.of HB.o);obtain⟨b,o,bV,bB,d0,d1,d2⟩:=Td eh.kids hx;have HX:=AF (eh.each x (AE hx));simp only at bV;subst bV;clear hx bB eh;cases hq:EC n (PY.er x)
     ·have HQ:=AF hq;have HF:Hd (EC n (PY.er (.node ⟨kd,vr,some ⟨b,o,none⟩,kn,kc⟩ l))=false):=by show _=_;rw [Jy,J4 HE.o hq,ED]
      clear hq;go_wp2_with fail;refine(IH.out x (AE HE.o) wr HX.o).mono ?_;rintro e w2 ⟨rfl,hb⟩;have aF:=AF (aK.o.trans ((HB.o.trans (hb.mono HB.o.size)).mono aK.o.size));rw [HQ.o];clear hb d0 d1 d2 fJ;go_wp2_with fail;go_ret;exact⟨Af HF.o.symm,aF.o⟩
     ·have HQ:=AF hq;clear hq;go_wp2_with fail;refine(IH.out x (AE HE.o) wr HX.o).mono ?_;rintro e w2 ⟨rfl,hb⟩;have aF:=bt HB hb;rw [HQ.o];clear hb d0 d1 d2 fJ;go_wp2_with fail;go_roundw
      case rel=>exact⟨k+1,by omega,by go_num,by rw [FU HE.o,ax.o,HQ.o];rfl,aF.o⟩
      case measure=>simp [intOf];omega
    ·have ai:k=kn:=by omega
     have HT:Hd (EC n (PY.er (.node ⟨kd,vr,kp,kn,kc⟩ l))=true):=by show _=_;have h:=ax.o;rw [Bb (by have:=cL.o.kids.is.len;simp only at this;omega)] at h;rw [Jy,h,Cy];exact bo.o
     go_wp2_with fail;go_ret;exact⟨Af HT.o.symm,aK.o.trans (HB.o.mono aK.o.size)⟩
theorem Et(w:World)(a b:Array Value)(t t':TypeId):((w.alloc (.cells a t)).alloc (.cells b t')).heap[w.heap.size]?=some (.cells a t (0,0))/\((w.alloc (.cells a t)).alloc (.cells b t')).heap[w.heap.size+1]?=some (.cells b t' (0,0)):=by
 refine⟨?_,?_⟩
 ·rw [AP _ _ _ (by simp)];exact AG w _
 ·have h:=AG (w.alloc (.cells a t)) (.cells b t');rw [AN] at h;exact h
theorem JJ{U:Nat->Prop}{b:EJ}{t:PY}{w:World}(hb:b.Lies U w)(ht:LY.lies U w t):Calls prog 107 #[GA b,GL t.head] w (RB w (.bool (b.er.knows t.er))):=by
 have iy:b.vn=b.vars.length:=hb.vars.is.len.symm;have sx:=hb.vars.is.max;obtain⟨lp,ln,lc,cs,vp,vn,vc,vars⟩:=b;simp only at iy sx;subst iy;have ap:Below w.heap.size w ((w.alloc (.cells #[.slice lp ln lc,.slice vp vars.length vc] 94)).alloc (.cells (cYa t) 45)):=((AA w.heap.size w).alloc (AB _) _).alloc (by simp) _;have HT:=AF (LY.lies_keep (BD.of ap) _ ht);have aH:=AF ap;clear hb ht ap;obtain⟨a,l⟩:=t;obtain⟨kd,vr,kp,kn,kc⟩:=a;generalize hL:vars.length=n at *
 cases hm:FT (PY.er (.node ⟨kd,vr,kp,kn,kc⟩ l))
 ·have HM:=AF hm;have HF:Hd (Bk.knows (EJ.er ⟨lp,ln,lc,cs,vp,n,vc,vars⟩) (PY.er (.node ⟨kd,vr,kp,kn,kc⟩ l))=false):=by show _=_;unfold Bk.knows;rw [hm];rfl
  clear hm hL;go_enter func107,ntmps107;go_wp2_with (go_at_call 150;refine(Mj _ _ HT.o).mono ?_;rintro e w3 ⟨rfl,hb⟩;rw [HM.o];have aL:=bt aH hb;clear hb);go_ret;exact⟨Af HF.o.symm,aL.o⟩
 ·have HM:=AF hm;have HF:Hd (Bk.knows (EJ.er ⟨lp,ln,lc,cs,vp,n,vc,vars⟩) (PY.er (.node ⟨kd,vr,kp,kn,kc⟩ l))=EC n (PY.er (.node ⟨kd,vr,kp,kn,kc⟩ l))):=by show _=_;unfold Bk.knows;rw [hm,Bz];unfold EJ.er;simp only [hL]
  clear hm hL;go_enter func107,ntmps107;go_upto_region 1 with fail
  have HC:Hd (∀wr,Below ((w.alloc (.cells #[.slice lp ln lc,.slice vp n vc] 94)).alloc (.cells #[.int .u8 kd,.int .i64 vr,.slice kp kn kc] 45)).heap.size ((w.alloc (.cells #[.slice lp ln lc,.slice vp n vc] 94)).alloc (.cells #[.int .u8 kd,.int .i64 vr,.slice kp kn kc] 45)) wr ->
   wr.cell? ⟨w.heap.size,1,none⟩=some (.slice vp n vc)/\wr.cell? ⟨w.heap.size+1,0,none⟩=some (.int .u8 kd)/\wr.cell? ⟨w.heap.size+1,1,none⟩=some (.int .i64 vr)/\wr.cell? ⟨w.heap.size+1,2,none⟩=some (.slice kp kn kc)):=by
   show ∀wr,_
   intro wr hb
   obtain⟨g1,g2⟩:=Et w #[.slice lp ln lc,.slice vp n vc] #[.int .u8 kd,.int .i64 vr,.slice kp kn kc] 94 45
   have q1:=(hb.block _ (AO.1 g1).1).trans g1
   have q2:=(hb.block _ (AO.1 g2).1).trans g2
   exact⟨by rw [AD q1];rfl,by rw [AD q2];rfl,by rw [AD q2];rfl,by rw [AD q2];rfl⟩
  go_wp2_with (first
   |(go_at_call 150;refine(Mj _ _ HT.o).mono ?_;rintro e w3 ⟨rfl,hb⟩;rw [HM.o];have aL:=bt aH hb;have mN:=AF (LY.lies_keep (BD.of hb) _ HT.o);obtain⟨c1,c2,c3,c4⟩:=HC.o _ hb;clear hb)
   |(go_at_call 151;refine(Oe _ _ mN.o).mono ?_;rintro e w4 ⟨rfl,hb⟩;have bJ:=bt aL hb;clear hb))
  go_ret;exact⟨Af HF.o.symm,bJ.o⟩
theorem Kw:(prog.info? 199).map (fun i=>(i.zero,i.size,i.bytes))=some (some (.agg #[.int .i64 0,.int .u8 0,.slice none 0 0,.int .i64 0]),4,48):=by kernel_rfl
theorem Nk:(prog.info? 3).map (fun i=>(i.zero,i.size,i.bytes))=some (some (.int .i64 0),1,8):=by kernel_rfl
theorem QG(h:Gk GW 4 U w p n c l)(hx:l[j]?=some x) :
 ∃b o,p=some ⟨b,o,none⟩/\b<w.heap.size/\w.cell? ⟨b,o+j * 4,none⟩=some (.int .i64 (RZ x.c.led))/\w.cell? ⟨b,o+j * 4+1,none⟩=some (.int .u8 x.c.kind) /\
  w.cell? ⟨b,o+j * 4+2,none⟩=some (.slice x.kp x.kn x.kc)/\w.cell? ⟨b,o+j * 4+3,none⟩=some (.int .i64 x.c.var):=by
 obtain⟨b,o,hp,hb,hc⟩:=h.elem hx
 exact⟨b,o,hp,hb,by simpa using hc 0 _ rfl,hc 1 _ rfl,hc 2 _ rfl,hc 3 _ rfl⟩
theorem MK{b:EJ}{j:Nat}{x:PC}(hx:b.cs[j]?=some x):EW b.er.cs j=x.c:=by unfold EW EJ.er;rw [AX];show ((b.cs.map PC.c)[j]?).getD _=_;rw [A7,hx];rfl
theorem WQ(b:EJ):b.er.cs.length=b.cs.length:=by unfold EJ.er;simp
noncomputable def farC (cs:List Cl) (i:Nat):Nat:=by classical exact if h:∃n y,Ft cs i n y then Classical.choose h else 0
theorem Xj(h:Ft cs i n y):farC cs i=n:=by unfold farC;have hx:∃n y,Ft cs i n y:=⟨n,y,h⟩;rw [dif_pos hx];obtain⟨z,hz⟩:=Classical.choose_spec hx;exact(hz.uniq h).1
theorem IU{U:Nat->Prop}{b:EJ}{w:World}(hb:b.Lies U w)(aW:Dh b.er){i:Nat}(hi:i<b.cs.length):Calls prog 152 #[GA b,.int .i64 i] w (RB w (.int .i64 (Dk b.er.cs i:Nat))):=by
 have ap:Below w.heap.size w (w.alloc (.cells (cBa b) 94)):=bA;have HL:=AF (hb.keep (BD.of ap));have HB:=AF ap;have aJ:=hb.cs.is.len;have pR:=hb.cs.is.max;obtain⟨m0,bg,_⟩:=aW.find (by rw [WQ];exact hi);have nr:=AF bg;generalize hY:Dk b.er.cs i=Y at *
 clear hb ap bg hY;show Calls _ _ #[.agg (cBa b),.int .i64 i] w _;have dG:i<b.ln:=by omega
 obtain⟨lp,n,lc,cs,vp,vn,vc,vars⟩:=b;have iM:cs.length=n:=aJ;have d7:=AF iM;simp only at hi dG pR;clear aJ iM aW;go_enter func152,ntmps152;go_upto_region 1 with fail;have nC:=AG w (.cells #[.slice lp n lc,.slice vp vn vc] 94);have c0:(w.alloc (.cells #[.slice lp n lc,.slice vp vn vc] 94)).cell? ⟨w.heap.size,0,none⟩=some (.slice lp n lc):=by rw [AD nC];rfl
 clear nC hi;generalize w.alloc (.cells #[.slice lp n lc,.slice vp vn vc] 94)=W at *
 go_loop [1] (fun i=>∃k m:Nat,k<n/\i=.int .i64 k/\Ft (EJ.er ⟨lp,n,lc,cs,vp,vn,vc,vars⟩).cs k m Y) (fun i=>farC (EJ.er ⟨lp,n,lc,cs,vp,vn,vc,vars⟩).cs (intOf i).toNat)
 case atStart=>exact⟨i,m0,dG,rfl,nr.o⟩
 case round=>
  obtain⟨k,m,hk,rfl,lA⟩:=hrel;obtain⟨x,hx⟩:=HL.o.cs.at (j:=k) hk;have dw:=MK (b:=⟨lp,n,lc,cs,vp,vn,vc,vars⟩) hx;obtain⟨g,o,hp,_,d0,_⟩:=QG HL.o.cs hx;simp only at hp;subst hp;have iE:=AF lA;have ns:=AF dw;have kC:=AF d0;clear lA dw hx d0;cases gM:x.c.led with
  |none=>
   have HY:Hd (k=Y):=by
    show k=Y;have h:=iE.o;cases h with
    |nil=>rfl
    |cons _ h2 _=>rw [ns.o,gM] at h2;cases h2
   have d0:W.cell? ⟨g,o+k * 4,none⟩=some (.int .i64 (-1)):=by rw [kC.o,gM];rfl
   clear gM;clear kC;go_wp2_with fail;refine Ag (results_tmp (fn:=f152) (t:=4) rfl _ _ _) rfl ?_;exact⟨by first|rfl|(rw [HY.o];rfl)|(rw [<-HY.o];rfl),HB.o⟩
  |some j=>
   have pW:∃m',Ft (EJ.er ⟨some ⟨g,o,none⟩,n,lc,cs,vp,vn,vc,vars⟩).cs j m' Y/\m=m'+1:=by
    have h:=iE.o;cases h with
    |nil _ h2=>rw [ns.o,gM] at h2;cases h2
    |cons _ h2 h3=>rw [ns.o,gM] at h2;cases h2;exact⟨_,h3,rfl⟩
   obtain⟨m',mi,eJ⟩:=pW;have qW:j<n:=by have h:=mi.lt;rw [WQ] at h;rw [<-d7.o];exact h
   have HN:=AF mi;have HM:=AF eJ;have d0:W.cell? ⟨g,o+k * 4,none⟩=some (.int .i64 (j:Int)):=by rw [kC.o,gM];rfl
   have xz:decide ((0:Int)<=(j:Int))=true:=by simp
   clear gM mi eJ kC;go_wp2_with fail;go_round
   case rel=>exact⟨j,m',qW,rfl,HN.o⟩
   case measure=>have e1:=Xj HN.o;have e2:=Xj iE.o;have e3:=HM.o;simp only [intOf,E9];show farC _ j<farC _ k;rw [e1,e2];omega
theorem AU(w:World)(g:Nat)(cs:Array Value):w.grownBy (w.setRow g cs) (some g):=⟨rfl,rfl,rfl,by rw [B4];exact AB _,fun k _ aM=>AR w g k cs (fun e=>aM (by rw [e]))⟩
theorem Jr(h:A1 enc k w base e v n l)(hn:0<n):∃g c cur,v=.slice (some ⟨g,0,none⟩) n c/\base<=g/\w.heap[g]?=some (.cells cur e (0,0))/\n<=c/\c<=maxLen/\cur.size=c * k:=by
 rcases h.2 with⟨_,h0⟩|⟨g,cap,cur,hv,hb,hg,lS,kT,aI,_⟩
 ·omega
 ·exact⟨g,cap,cur,hv,hb,hg,lS,kT,aI⟩
theorem ZAy(hk:∀x,(enc x).length=k)(h:DK enc k w (some ⟨g,0,none⟩) l)(hg:w.heap[g]?=some (.cells cur e (0,0)))(hx:l[j]?=some x)(ho:o<k)(hy:enc y=(enc x).set o u):DK enc k (w.setCell ⟨g,j * k+o,none⟩ u) (some ⟨g,0,none⟩) (l.set j y):=by
 have aG:g<w.heap.size:=(AO.1 hg).1;have j0:=DI hx;rcases h with rfl|⟨b,o',hb,_,hc⟩
 ·simp at hx
 cases hb
 refine .inr ⟨g,0,rfl,by simpa using aG,fun i z hz r v hv=>?_⟩;have yE:r<k:=by rw [<-hk z];exact DI hv
 rw [Ey] at hz;by_cases lG:j=i
 ·subst lG;rw [AJ rfl,AJ j0] at hz;cases hz;rw [hy,Ey] at hv;by_cases u6:o=r
  ·subst u6;rw [AJ rfl,AJ (by rw [hk];exact ho)] at hv;cases hv;obtain⟨v0,gO⟩:=Bh (l:=enc x) (j:=o) (by rw [hk];exact ho);have:=hc j x hx o v0 gO;rw [BP] at this ⊢;exact World.cell?_setCell_same _ _ _ this
  ·rw [AC u6] at hv;refine(World.cell?_setCell_other _ _ _ _ (fun e=>?_)).trans (hc j x hx r v hv);injection e with _ e _;omega
 ·rw [AC lG] at hz;refine(World.cell?_setCell_other _ _ _ _ (fun e=>?_)).trans (hc i z hz r v hv);injection e with _ e _;rcases Nat.lt_or_gt_of_ne lG with h1|h1
  ·have:(j+1) * k<=i * k:=Cw k h1;rw [E7] at this;omega
  ·have:(i+1) * k<=j * k:=Cw k h1;rw [E7] at this;omega
theorem Gv{U:Nat->Prop}{b:EJ}{w:World}(hb:b.Lies U w){i j:Nat}{x:PC}(hx:b.cs[i]?=some x)(hn:b.ln<=1000000):Calls prog 200 #[GA b,.int .i64 i,.int .i64 j] w fun e w'=>∃b':EJ,e=.returned (GA b')/\b'.Lies (Ge U w) w'/\b'.er=⟨EZ b.er.cs i j,b.er.vars⟩/\b'.ln=b.ln/\Below w.heap.size w w':=by
 have lM:EZ b.er.cs i j=(b.cs.set i { x with c:={ x.c with led:=some j } }).map PC.c:=by unfold EZ;rw [MK hx,List.map_set];rfl
 have oC:=AF lM;obtain⟨lp,n,lc,cs,vp,vn,vc,vars⟩:=b;simp only at hn hx;have aJ:cs.length=n:=hb.cs.is.len;have dG:i<n:=by have:=DI hx;omega
 have HX:=AF hx;have aU:Below w.heap.size w ((w.alloc (.cells #[.slice lp n lc,.slice vp vn vc] 94)).alloc (.cells #[.slice none 0 0,.slice none 0 0] 94)):=bA.alloc (by simp) _;have HL:=AF (hb.keep (BD.of aU));have dB:=AF hb;have aF:=AF aU;obtain⟨g1,g2⟩:=Et w #[.slice lp n lc,.slice vp vn vc] #[.slice none 0 0,.slice none 0 0] 94 94;clear hb hx aU lM;go_enter func200,ntmps200;go_upto_region 1 with fail;have fc:=AF g1;have dD:=AF g2;have cT:((w.alloc (.cells #[.slice lp n lc,.slice vp vn vc] 94)).alloc (.cells #[.slice none 0 0,.slice none 0 0] 94)).heap.size=w.heap.size+2:=by simp
 have bc:=AF cT;clear g1 g2 cT;generalize (w.alloc (.cells #[.slice lp n lc,.slice vp vn vc] 94)).alloc (.cells #[.slice none 0 0,.slice none 0 0] 94)=W at *
 have c0:W.cell? ⟨w.heap.size,0,none⟩=some (.slice lp n lc):=by rw [AD fc.o];rfl
 have bF:Below W.heap.size W (W.alloc (.cells #[] 199)):=bA;have aL:=AF bF;have HO:=AF (A1.lit GW W W.heap.size 199 4 (AB _));have HR:=AF (HL.o.cs.is.below bF);have c1:(W.alloc (.cells #[] 199)).cell? ⟨w.heap.size,0,none⟩=some (.slice lp n lc):=by rw [bF.cell (show w.heap.size<W.heap.size by have:=bc.o;omega)];exact c0
 clear bF c0;go_upto_region 2 with(first|(at_builtin;refine DS rfl _ _ 92 rfl W.heap.size 199 _ 4 48 underlying92 Kw rfl (by decide) GW EX G5 cs [] 0 _ HO.o _ n _ rfl rfl aJ HR.o.nil HR.o.row (by omega) (by omega) aL.o.size ?_;intro v5 w5 aE cO eW;have fE:=AF aE;have aw:=AF (Below.own aL.o cO aL.o.size HO.o);clear aE cO eW))
 obtain⟨g,c5,cur,jl,eC,cO,lS,kT,aI⟩:=Jr fE.o (by omega);subst jl;obtain⟨p6,c6,jm,eY⟩:=A1.isRow EX (by omega) fE.o;cases jm;rw [A6] at eY;have gX:=AF eY;have gR:=AF cO;obtain⟨b',o',ek,_,ga⟩:=eY.row.elem HX.o;cases ek;have d0:=ga 0 _ rfl;rw [Bd,BP] at d0;have dP:w5.frozen? ⟨g,i * 4,none⟩=false:=by simp [World.frozen?,cO]
 have ke:=ZAy (o:=0) (y:={ x with c:={ x.c with led:=some j } }) (u:=.int .i64 (j:Int)) EX gX.o.row gR.o HX.o (by omega) rfl;rw [Bd] at ke;have ag:w5.grownBy (w5.setCell ⟨g,i * 4,none⟩ (.int .i64 (j:Int))) (some g):=Ar _ _ _ _;have xK:w.heap.size+2<=w5.heap.size:=by have:=bc.o;have:=aw.o.size;omega
 have q1:(w5.setCell ⟨g,i * 4,none⟩ (.int .i64 (j:Int))).heap[w.heap.size]?=some (.cells #[.slice lp n lc,.slice vp vn vc] 94 (0,0)):=by rw [ag.block _ (by omega) (fun e=>by injection e with e;have:=bc.o;omega),aw.o.block _ (by have:=bc.o;omega)];exact fc.o
 have q2:(w5.setCell ⟨g,i * 4,none⟩ (.int .i64 (j:Int))).heap[w.heap.size+1]?=some (.cells #[.slice none 0 0,.slice none 0 0] 94 (0,0)):=by rw [ag.block _ (by omega) (fun e=>by injection e with e;have:=bc.o;omega),aw.o.block _ (by have:=bc.o;omega)];exact dD.o
 have dM:Below w.heap.size w (w5.setCell ⟨g,i * 4,none⟩ (.int .i64 (j:Int))):=(aF.o.trans (aw.o.mono aF.o.size)).grown ag (by omega) (fun b e=>by injection e with e;have:=bc.o;omega);have jK:=AF ke;have ck:=AF q1;have cE:=AF q2;have dW:=AF dM;have bq:Hd (w.heap.size+2<=g):=by show _<=_;have:=bc.o;omega
 have oG:Hd (n<=c5/\c5<=maxLen):=⟨by omega,kT⟩;clear ke ag q1 q2 dM eY ga lS kT eC aI cO;go_upto_region 3 with fail;clear d0 dP;generalize w5.setCell ⟨g,i * 4,none⟩ (.int .i64 (j:Int))=W6 at *
 have c0:W6.cell? ⟨w.heap.size,0,none⟩=some (.slice lp n lc):=by rw [AD ck.o];rfl
 have dP:W6.frozen? ⟨w.heap.size,0,none⟩=false:=by have:=ck.o;simp [World.frozen?,this]
 have ag:W6.grownBy (W6.setCell ⟨w.heap.size,0,none⟩ (.slice (some ⟨g,0,none⟩) n c5)) (some w.heap.size):=Ar _ _ _ _;have q1:(W6.setCell ⟨w.heap.size,0,none⟩ (.slice (some ⟨g,0,none⟩) n c5)).heap[w.heap.size]?=some (.cells #[.slice (some ⟨g,0,none⟩) n c5,.slice vp vn vc] 94 (0,0)):=Aw (o:=0) _ ck.o;have q2:(W6.setCell ⟨w.heap.size,0,none⟩ (.slice (some ⟨g,0,none⟩) n c5)).heap[w.heap.size+1]?=some (.cells #[.slice none 0 0,.slice none 0 0] 94 (0,0)):=by rw [ag.block _ (Ab cE.o) (fun e=>by injection e with e;omega)];exact cE.o
 have ee:Below w.heap.size w (W6.setCell ⟨w.heap.size,0,none⟩ (.slice (some ⟨g,0,none⟩) n c5)):=dW.o.grown ag dW.o.size (fun b e=>by injection e with e;omega);have iA:DK GW 4 (W6.setCell ⟨w.heap.size,0,none⟩ (.slice (some ⟨g,0,none⟩) n c5)) (some ⟨g,0,none⟩) (cs.set i { x with c:={ x.c with led:=some j } }):=Gw ag (fun ad hp e=>by cases hp;injection e with e;have h:=bq.o;have e':w.heap.size=g:=e;omega) jK.o;have ck:=AF q1;have cE:=AF q2;have az:=AF ee;have kK:=AF iA;clear q1 q2 ee iA ag jK dW;go_upto_region 4 with fail;clear c0 dP;generalize W6.setCell ⟨w.heap.size,0,none⟩ (.slice (some ⟨g,0,none⟩) n c5)=W7 at *
 go_wp2_with (first
  |(refine lw ck.o underlying94 ?_)
  |(refine sw #[.slice (some ⟨g,0,none⟩) n c5,.slice vp vn vc] cE.o ?_))
 have cA:W7.grownBy (W7.setRow (w.heap.size+1) #[.slice (some ⟨g,0,none⟩) n c5,.slice vp vn vc]) (some (w.heap.size+1)):=AU _ _ _;have hq:(W7.setRow (w.heap.size+1) #[.slice (some ⟨g,0,none⟩) n c5,.slice vp vn vc]).heap[w.heap.size+1]?=some (.cells #[.slice (some ⟨g,0,none⟩) n c5,.slice vp vn vc] 94 (0,0)):=AL _ _ _ _ _ _ cE.o;refine br hq underlying94 ?_;have fi:=az.o.grown cA az.o.size (fun b e=>by injection e with e;omega);have uk:BD U w (W7.setRow (w.heap.size+1) #[.slice (some ⟨g,0,none⟩) n c5,.slice vp vn vc]):=BD.of fi;refine⟨⟨some ⟨g,0,none⟩,n,c5,cs.set i { x with c:={ x.c with led:=some j } },vp,vn,vc,vars⟩,rfl,⟨⟨⟨by rw [CQ];exact aJ,by show n<=_;omega,oG.o.1,(by intro h;cases h),?_⟩,fun _ a e=>?_⟩,fun y hy=>?_,?_⟩,?_,rfl,fi⟩
 ·exact Gw cA (fun ad hp e=>by cases hp;injection e with e;have h:=bq.o;have e':w.heap.size+1=g:=e;omega) kK.o
 ·cases e;exact Ge.new (by have:=bq.o;show w.heap.size<=g;omega)
 ·have dp:∃z∈cs,z.kp=y.kp/\z.kn=y.kn/\z.kc=y.kc/\z.c.kids=y.c.kids:=by
   rcases List.mem_or_eq_of_mem_set hy with h|rfl
   ·exact⟨y,h,rfl,rfl,rfl,rfl⟩
   ·exact⟨x,AE HX.o,rfl,rfl,rfl,rfl⟩
  obtain⟨z,hz,e1,e2,e3,e4⟩:=dp;have h:=((dB.o.each z hz).keep uk).mono (fun b _=>Ge.of (w:=w) b);rw [e1,e2,e3,e4] at h;exact h
 ·exact(dB.o.vars.keep uk).mono (fun b _=>Ge.of (w:=w) b)
 ·show (⟨(cs.set i _).map PC.c,vars⟩:Bk)=_;rw [oC.o];rfl
section
variable {P:Program} {ops:Array Oper} {Q:Exit->Act->World->Prop} {md:Region.Mode} {S:World->Prop} {z:Nat}
def FJ(P:Program)(md:Region.Mode)(ops:Array Oper)(Q:Exit->Act->World->Prop)(S:World->Prop)(z:Nat):Nat->Array Bool->Act->World->Prop
 |0,listed,a,w=>Region.ready md ops listed=[]/\Q .normal a w
 |fuel+1,listed,a,w=>
  (Region.ready md ops listed=[]->Q .normal a w) /\
  ∀i∈Region.ready md ops listed,wpOp P ops Q i (fun a' w'=>(i=z\/S w')/\FJ P md ops Q S z fuel (listed.setIfInBounds i true) a' w') a w
theorem RW:∀(fuel:Nat) (listed:Array Bool) (a:Act) (w:World),FJ P md ops Q S z fuel listed a w->wpAny P md ops Q fuel listed a w
 |0,_,_,_,h=>h
 |fuel+1,_,_,_,h=>⟨h.1,fun i hi=>wpOp_mono (fun a' w' h'=>RW fuel _ a' w' h'.2) (h.2 i hi)⟩
def RQ(md:Region.Mode)(ops:Array Oper)(z i:Nat):Bool:=
 match ops[z]? with
 |none=>true
 |some o=>o.after.any (fun e=>Region.binds md e&&e.on==i)
theorem LG(hi:ops[i]?=some oi)(ph:∀(j:Nat) (o:Oper) cs b,ops[j]?=some o->o.op≠.select cs b)(hQ:∀c a w,Q (.panic c) (a.put oi.dst v) w->Q (.panic c) a w)(qV:RQ md ops z i=true)(aM:i≠z) :
 ∀(fuel:Nat) (listed:Array Bool) (a:Act) (w:World),
  (∀j oj,ops[j]?=some oj->j≠i->listed.getD j true=false->(∀e∈oj.after,Region.binds md e=true->e.on≠i)->oi.apart ops oj=true) ->
  i∈Region.ready md ops listed->YieldsIf P ops S oi v a->S w ->
  FJ P md ops Q S z fuel (listed.setIfInBounds i true) (a.put oi.dst v) w->FJ P md ops Q S z (fuel+1) listed a w:=by
 intro fuel
 have vV:∀listed:Array Bool,i∈Region.ready md ops listed->∀j∈Region.ready md ops listed,∀oj,ops[j]?=some oj->∀e∈oj.after,Region.binds md e=true->e.on≠i:=by
  intro listed hr j hj oj' sc e he hb xD;obtain⟨_,oj,my,bh⟩:=mem_ready.1 hj;rw [sc] at my;cases my;have h1:=bh e he hb;have h0:=(mem_ready.1 hr).1;rw [xD] at h1;rcases FR i listed.size with h'|h'
  ·simp [h'] at h0 h1;rw [h0] at h1;cases h1
  ·simp [E6 h'] at h1
 have xc:∀listed:Array Bool,i∈Region.ready md ops listed->z∉Region.ready md ops listed:=by intro listed hr hz;obtain⟨_,oz,pa,_⟩:=mem_ready.1 hz;unfold RQ at qV;rw [pa] at qV;simp only [Array.any_eq_true',AK,A3] at qV;obtain⟨e,he,hb,xN⟩:=qV;exact vV listed hr z hz oz pa e he hb xN
 induction fuel with
 |zero=>
  intro listed a w _ hr hy hS H;refine⟨fun h=>(by rw [h] at hr;cases hr),fun j hj=>?_⟩;by_cases jz:j=i
  ·subst jz;exact hy.wpOp hi hS ⟨.inr hS,H⟩
  ·have:=ready_mono hj jz;rw [H.1] at this;cases this
 |succ fuel ih=>
  intro listed a w gB hr hy hS H;refine⟨fun h=>(by rw [h] at hr;cases hr),fun j hj=>?_⟩;by_cases jz:j=i
  ·subst jz;exact hy.wpOp hi hS ⟨.inr hS,H⟩
  ·have uj:j≠z:=fun e=>xc listed hr (e▸hj);have h1:=H.2 j (ready_mono hj jz);obtain⟨pH,oj,my,bh⟩:=mem_ready.1 hj;have sb:=vV listed hr j hj oj my;have h2:=wpOp_putIf my (gB j oj my jz pH sb) (fun cs b=>ph i oi cs b hi) (fun cs b=>ph j oj cs b my) hQ hy h1
   have mq:∀k ok,ops[k]?=some ok->k≠i->(listed.setIfInBounds j true).getD k true=false ->
    (∀e∈ok.after,Region.binds md e=true->e.on≠i)->oi.apart ops ok=true:=fun k ok hk pL vO an=>by
    refine gB k ok hk pL ?_ an
    by_cases lI:j=k
    ·subst lI;exact pH
    ·rw [getD_set_ne true lI] at vO;exact vO
   refine wpOp_mono (fun a' w' h3=>⟨.inr (h3.2.1.resolve_left uj),ih (listed.setIfInBounds j true) a' w' mq (ready_mono hr (Ne.symm jz)) h3.1 (h3.2.1.resolve_left uj) ?_⟩) h2;rw [Array.setIfInBounds_comm _ _ jz];exact h3.2.2
theorem tkF{i:Nat}{oi:Oper}{v:Value}{fuel:Nat}{listed:Array Bool}{a:Act}{w:World}(hi:ops[i]?=some oi)(hy:YieldsIf P ops S oi v a)(h:FJ P md ops Q S z fuel (listed.setIfInBounds i true) (a.put oi.dst v) w)(hs:Region.noSelect ops=true:=by kernel_rfl)(hf:Region.free md ops listed i=true:=by kernel_rfl)(hr:(Region.ready md ops listed).contains i=true:=by kernel_rfl)(hQ:∀c a w,Q (.panic c) (a.put oi.dst v) w->Q (.panic c) a w:=by exact fun _ _ _ h=>h)(hz:RQ md ops z i=true:=by kernel_rfl)(aM:i≠z:=by decide)(hS:S w:=by assumption):FJ P md ops Q S z (fuel+1) listed a w:=LG hi (Ev hs) hQ hz aM fuel listed a w (Region.free_spec hi hf) (by simpa using hr) hy hS h
def DQ(P:Program)(md:Region.Mode)(ops:Array Oper)(Q:Exit->Act->World->Prop)(S:World->Prop)(z:Nat)(fuel:Nat)(listed:Array Bool)(a:Act)(w:World)(rs:List Nat):Prop:=∀i∈rs,wpOp P ops Q i (fun a' w'=>(i=z\/S w')/\FJ P md ops Q S z fuel (listed.setIfInBounds i true) a' w') a w
theorem DQ.nil{fuel:Nat}{listed:Array Bool}{a:Act}{w:World}:DQ P md ops Q S z fuel listed a w []:=fun _ h=>by cases h
theorem DQ.cons{fuel:Nat}{listed:Array Bool}{a:Act}{w:World}{i:Nat}{o:Oper}{rs:List Nat}(ho:ops[i]?=some o)(h:∀K':Act->World->Prop,Shut (∀a w,S w->(S w->FJ P md ops Q S z fuel (listed.setIfInBounds i true) a w)->K' a w)->if Region.wanted o (yielded ops a.tmps)=true then Oper.wp P o a w K' Q else K' (a.put o.dst undef) w)(hs:DQ P md ops Q S z fuel listed a w rs):DQ P md ops Q S z fuel listed a w (i::rs):=fun j hj=>by
 rcases AS.1 hj with rfl|hj
 ·exact wpOp_step ho (fun K' hK=>h K' (fun a w hS hW=>hK a w ⟨.inr hS,hW hS⟩))
 ·exact hs j hj
theorem DQ.last(ho:ops[z]?=some o)(h:∀K':Act->World->Prop,Shut (∀a w,FJ P md ops Q S z fuel (listed.setIfInBounds z true) a w->K' a w)->if Region.wanted o (yielded ops a.tmps)=true then Oper.wp P o a w K' Q else K' (a.put o.dst undef) w):DQ P md ops Q S z fuel listed a w [z]:=fun j hj=>by
 rcases AS.1 hj with rfl|hj
 ·exact wpOp_step ho (fun K' hK=>h K' (fun a w hW=>hK a w ⟨.inl rfl,hW⟩))
 ·cases hj
theorem Hb(hr:Region.ready md ops listed=rs)(aM:rs≠[])(h:DQ P md ops Q S z fuel listed a w rs):FJ P md ops Q S z (fuel+1) listed a w:=⟨fun h0=>absurd (hr▸h0) aM,hr▸h⟩
theorem Vo(hr:Region.ready md ops listed=[])(h:Q .normal a w):∀fuel,FJ P md ops Q S z fuel listed a w
 |0=>⟨hr,h⟩
 |_+1=>⟨fun _=>h,by rw [hr];simp⟩
theorem Vp{id:Nat}{a:Act}{w:World}(z:Nat)(hm:P.follows .mixedOrders=true)(hS:S w.drew)(h:S w.drew->FJ P .any ops Q S z ops.size (Array.replicate ops.size false) a w.drew):(Code.region id ops true).wp P Q a w:=wp_region_any hm (RW _ _ _ _ (h hS))
end
theorem BZ(h:fn.results=#[.cell p ty,.tmp u])(tmps:Array Value)(P:Program)(w:World)(g:Nat)(cs:Array Value)(hp:tmps.getD p undef=.pointer (some ⟨g,0,none⟩))(hl:(loadVar ty ⟨g,0,none⟩).run P w=.ok (.agg cs) w):(results fn tmps).run P w=.ok (.tuple #[.agg cs,tmps.getD u undef]) w:=by
 have ek:tmps[p]?.getD undef=.pointer (some ⟨g,0,none⟩):=by simpa using hp
 simp [results,h,ek,asAddr,hl,Do,Result.andThen]
theorem Hs(h:fn.results=#[.cell p ty,.cell q ty'])(tmps:Array Value)(P:Program)(w:World)(g:Nat)(cs:Array Value)(g':Nat)(cs':Array Value)(hp:tmps.getD p undef=.pointer (some ⟨g,0,none⟩))(hl:(loadVar ty ⟨g,0,none⟩).run P w=.ok (.agg cs) w)(hq:tmps.getD q undef=.pointer (some ⟨g',0,none⟩))(bE:(loadVar ty' ⟨g',0,none⟩).run P w=.ok (.agg cs') w):(results fn tmps).run P w=.ok (.tuple #[.agg cs,.agg cs']) w:=by
 have ek:tmps[p]?.getD undef=.pointer (some ⟨g,0,none⟩):=by simpa using hp
 have m6:tmps[q]?.getD undef=.pointer (some ⟨g',0,none⟩):=by simpa using hq
 simp [results,h,ek,m6,asAddr,hl,bE,Do,Result.andThen]
section
variable {P:Program} {ops:Array Oper} {Q:Exit->Act->World->Prop} {md:Region.Mode} {S:World->Prop} {v:Value} {n fuel:Nat} {listed:Array Bool} {a a':Act} {w:World} {o:Op} {x:TypeId} {z:String} {u:Array Edge}
theorem up(i d:Nat)(hh:FJ P md ops Q S n fuel (listed.setIfInBounds i true) a' w)(hi:ops[i]?=some ⟨some d,o,x,z,u,none⟩:=by exact rfl)(hw:Region.wanted ⟨some d,o,x,z,u,none⟩ (yielded ops a.tmps)=true:=by rfl)(hy:∀w,S w->(execOp a.eval ⟨some d,o,x,z,u,none⟩).run P w=.ok (.value v) w:=by intro w h;go_simp;try with_reducible rfl)(he:a.put (some d) v=a':=by simp only [Act.put,zA,zB,zC];rfl)(hs:Region.noSelect ops=true:=by kernel_rfl)(hf:Region.free md ops listed i=true:=by kernel_rfl)(hr:(Region.ready md ops listed).contains i=true:=by kernel_rfl)(hQ:∀c b w,Q (.panic c) (b.put (some d) v) w->Q (.panic c) b w:=by exact fun _ _ _ h=>h)(hz:RQ md ops n i=true:=by kernel_rfl)(aM:i≠n:=by decide)(hS:S w:=by assumption):FJ P md ops Q S n (fuel+1) listed a w:=by subst he;exact LG hi (Ev hs) hQ hz aM fuel listed a w (Region.free_spec hi hf) (by simpa using hr) (.inl ⟨hw,hy⟩) hS hh
theorem KW{cs:List Value}{T:TypeId}{b k:Nat}{D:TypeDesc}(i d:Nat)(hc:∀w,S w->w.rangeAt b k cs)(hu:P.underlying T=some D)(hh:FJ P md ops Q S n fuel (listed.setIfInBounds i true) a' w)(hi:ops[i]?=some ⟨some d,o,x,z,u,none⟩:=by exact rfl)(hw:Region.wanted ⟨some d,o,x,z,u,none⟩ (yielded ops a.tmps)=true:=by rfl){X:Operand}(ho:(⟨some d,o,x,z,u,none⟩:Oper).op=.load T X:=by exact rfl)(hx:a.eval X=.pointer (some ⟨b,k,none⟩):=by exact rfl)(hd:D.isRow=true:=by rfl)(hl:(P.info? T).map (·.size)=some cs.length:=by kernel_rfl)(he:a.put (some d) (.agg cs.toArray)=a':=by simp only [Act.put,zA,zB,zC];rfl)(hs:Region.noSelect ops=true:=by kernel_rfl)(hf:Region.free md ops listed i=true:=by kernel_rfl)(hr:(Region.ready md ops listed).contains i=true:=by kernel_rfl)(hQ:∀c b w,Q (.panic c) (b.put (some d) (.agg cs.toArray)) w->Q (.panic c) b w:=by exact fun _ _ _ h=>h)(hz:RQ md ops n i=true:=by kernel_rfl)(aM:i≠n:=by decide)(hS:S w:=by assumption):FJ P md ops Q S n (fuel+1) listed a w:=by subst he;exact LG hi (Ev hs) hQ hz aM fuel listed a w (Region.free_spec hi hf) (by simpa using hr) (Ct hw T X ho b k hx cs D hc hu hd hl) hS hh
theorem uR{id:Nat}(S:World->Prop)(n:Nat)(hS:S w.drew)(h:S w.drew->FJ P .any ops Q S n ops.size (Array.replicate ops.size false) a w.drew)(hm:P.follows .mixedOrders=true:=by kernel_rfl):(Code.region id ops true).wp P Q a w:=Vp n hm hS h
theorem uD(h:Q .normal a w)(hr:Region.ready md ops listed=[]:=by kernel_rfl):FJ P md ops Q S n fuel listed a w:=Vo hr h fuel
theorem ur(i:Nat){q:Oper}(h:∀K:Act->World->Prop,Shut (∀a w,S w->(S w->FJ P md ops Q S n fuel (listed.setIfInBounds i true) a w)->K a w)->if Region.wanted q (yielded ops a.tmps)=true then Oper.wp P q a w K Q else K (a.put q.dst undef) w)(hi:ops[i]?=some q:=by exact rfl)(hr:Region.ready md ops listed=[i]:=by kernel_rfl):FJ P md ops Q S n (fuel+1) listed a w:=Hb hr (by simp) (DQ.cons hi h DQ.nil)
theorem ul{q:Oper}(h:∀K:Act->World->Prop,Shut (∀a w,FJ P md ops Q S n fuel (listed.setIfInBounds n true) a w->K a w)->if Region.wanted q (yielded ops a.tmps)=true then Oper.wp P q a w K Q else K (a.put q.dst undef) w)(hi:ops[n]?=some q:=by exact rfl)(hr:Region.ready md ops listed=[n]:=by kernel_rfl):FJ P md ops Q S n (fuel+1) listed a w:=Hb hr (by simp) (DQ.last hi h)
theorem un{K:Act->World->Prop}{l:Array Bool}(hK:Shut (∀a w,S w->(S w->FJ P md ops Q S n fuel l a w)->K a w))(hS:S w)(h:S w->FJ P md ops Q S n fuel l a' w)(he:a=a':=by first|(simp only [Act.put,zA,zB,zC];rfl)|rfl):K a w:=by subst he;exact hK.out _ _ hS h
theorem uz{K:Act->World->Prop}{l:Array Bool}(hK:Shut (∀a w,FJ P md ops Q S n fuel l a w->K a w))(h:FJ P md ops Q S n fuel l a' w)(he:a=a':=by first|(simp only [Act.put,zA,zB,zC];rfl)|rfl):K a w:=by subst he;exact hK.out _ _ h
end
end Go.Proofs.YtkdjnegfnhldpaaGreatDoor
