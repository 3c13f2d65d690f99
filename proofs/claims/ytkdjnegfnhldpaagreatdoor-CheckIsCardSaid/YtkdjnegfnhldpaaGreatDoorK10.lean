/- Part 10. -/
import Derived.Deep.RegionLaw
import Derived.Test.YtkdjnegfnhldpaaGreatDoorK09
set_option linter.unusedVariables false
set_option maxRecDepth 100000
set_option linter.unusedSimpArgs false
set_option maxHeartbeats 40000000
namespace Go.Proofs.YtkdjnegfnhldpaaGreatDoor
open Go.Proofs.Tryz Go.RowKit
section
open Go.Sort Go.Lib
def GF(a b:LH):Bool:=decide (a.kind=b.kind)&&decide (a.rho=b.rho)&&(A1 a.eff b.eff&&A1 b.eff a.eff)
def Bk(x y:PT):Bool:=AG.same GF x.er y.er
def Gl(l m:List PT):Bool:=AG.sameL GF (l.map PT.er) (m.map PT.er)
theorem Jk(a b:RH)(l m:List PT):Bk (.node a l) (.node b m)=(GF a.plain b.plain&&Gl l m):=by unfold Bk;rw [PT.er_node,PT.er_node,AG.same_node];rfl
theorem Jj{l m:List PT}(hl:l.length=m.length)(h:∀(j:Nat) (x y:PT),l[j]?=some x→m[j]?=some y→Bk x y=true):Gl l m=true:=by unfold Gl;rw [AG.sameL_get];refine⟨by simp [hl],fun j t u ht hu=>?_⟩;rw [List.getElem?_map] at ht hu;obtain⟨x,hx,rfl⟩:=Option.map_eq_some_iff.1 ht;obtain⟨y,hy,rfl⟩:=Option.map_eq_some_iff.1 hu;exact h j x y hx hy
theorem OU{l m:List PT}(hl:l.length≠m.length):Gl l m=false:=by rw [Bool.eq_false_iff];intro h;exact hl (by simpa using AG.sameL_length _ _ _ h)
theorem LY{l m:List PT}{j:Nat}{x y:PT}(hx:l[j]?=some x)(hy:m[j]?=some y)(h:Bk x y=false):Gl l m=false:=by rw [Bool.eq_false_iff];intro hs;unfold Gl at hs;rw [AG.sameL_get] at hs;have:=hs.2 j x.er y.er (by rw [List.getElem?_map,hx];rfl) (by rw [List.getElem?_map,hy];rfl);unfold Bk at h;rw [h] at this;cases this
theorem SH(a:LH):GF a a=true:=by simp [GF,Ph]
theorem SI(x:PT):Bk x x=true:=by refine AG.ind (P:=fun(x:PT)=>Bk x x=true) (fun a l ih=>?_) x;rw [Jk,SH,Bool.true_and];refine Jj rfl (fun j x y hx hy=>?_);rw [hx] at hy;cases hy;exact ih x (List.mem_of_getElem? hx)
def Oh(x y:PT)(W:World):Prop:=Calls prog 142 #[Ci x.head,Ci y.head] W fun e w'=>e=.returned (.bool (Bk x y))∧Below W.heap.size W w'
def UJ(fid:FuncId)(w:World)(l m:List PT):Prop:=∀x∈l,∀y∈m,∀r,Bk x y=r→∀W,Below w.heap.size w W→Calls prog fid #[Ci x.head,Ci y.head] W fun e w'=>e=.returned (.bool r)∧Below W.heap.size W w'
theorem Lz(fid:FuncId)(a7:EA fid){p:Option Addr}{n cap:Nat}{l:List PT}{q:Option Addr}{m mc:Nat}{l':List PT}{w:World}(hr:Da w p n cap l)(aT:Da w q m mc l')(hf:UJ fid w l l'):Calls prog 192 #[.slice p n cap,.slice q m mc,.func (.func fid) #[] #[]] w (RB w (.bool (Gl l l'))):=by
 unfold EA at a7;have hm:=hr.row.max;have HR:=AA hr;have cD:=AA aT;have HF:=AA hf;clear hr aT hf;by_cases gl:n=m
 ·subst gl;go_enter func192,ntmps192;go_wp2_with fail;go_loopw [7,8,9,17] (fun _ _ _ i wr=>∃k:Nat,k≤n∧i=.int .i64 k∧(∀(j:Nat) (x y:PT),j<k→l[j]?=some x→l'[j]?=some y→Bk x y=true)∧Below w.heap.size w wr) (fun _ _ _ i _=>n-(intOf i).toNat)
  case atStart=>exact⟨0,by omega,rfl,fun j x y hj=>by omega,Below.refl _ _⟩
  case round=>
   obtain⟨k,hk,rfl,ac,hb⟩:=hrel;have an:=AA ac;have HB:=AA hb;clear ac hb;by_cases aF:k<n
   ·obtain⟨x,hx⟩:=HR.o.at (j:=k) aF;obtain⟨y,hy⟩:=cD.out.at (j:=k) aF;have HX:=AA hx;have HY:=AA hy;obtain⟨b,o,rfl,aP,d0,d1,d2,d3⟩:=(HR.o.below HB.o).kid hx;obtain⟨b',o',rfl,gg,e0,e1,e2,e3⟩:=(cD.out.below HB.o).kid hy;have jS:=(HB.o.alloc HB.o.size (.cells #[.int .u8 x.head.kind,.int .i64 x.head.rho,.slice x.head.ep x.head.en x.head.ec,.slice x.head.kp x.head.kn x.head.kc] 28));have aK:=AA (jS.alloc jS.size (.cells #[.int .u8 y.head.kind,.int .i64 y.head.rho,.slice y.head.ep y.head.en y.head.ec,.slice y.head.kp y.head.kn y.head.kc] 28));clear hx hy jS;cases hq:Bk x y
    ·have HQ:=AA hq;clear hq;go_wp2_with fail;refine(HF.o x (List.mem_of_getElem? HX.o) y (List.mem_of_getElem? HY.o) _ HQ.o _ aK.o).mono ?_;rintro e w1 ⟨rfl,hb⟩;have aV:=bt aK hb;clear hb d0 d1 d2 d3 e0 e1 e2 e3;go_wp2_with fail;go_ret;exact⟨AB (LY HX.o HY.o HQ.o).symm,aV.o⟩
    ·have HQ:=AA hq;clear hq;go_wp2_with fail;refine(HF.o x (List.mem_of_getElem? HX.o) y (List.mem_of_getElem? HY.o) _ HQ.o _ aK.o).mono ?_;rintro e w1 ⟨rfl,hb⟩;have aV:=bt aK hb;clear hb d0 d1 d2 d3 e0 e1 e2 e3;go_wp2_with fail;go_roundw
     case rel=>
      refine⟨k+1,by omega,by go_num,fun j x' y' hj fJ eh=>?_,aV.o⟩;by_cases jW:j=k
      ·subst jW;have h1:=HX.o;have h2:=HY.o;rw [fJ] at h1;rw [eh] at h2;cases h1;cases h2;exact HQ.o
      ·exact an.o j x' y' (by omega) fJ eh
     case measure=>simp [intOf];omega
   ·have ao:k=n:=by omega
    go_wp2_with fail;go_ret;have hs:Gl l l'=true:=Jj (by rw [HR.o.row.len,cD.out.row.len]) (fun j x y hx hy=>an.o j x y (by have h1:=(List.getElem?_eq_some_iff.1 hx).1;have h2:=HR.o.row.len;omega) hx hy);exact⟨AB hs.symm,HB.o⟩
 ·have aS:Hd (Gl l l'=false):=OU (by rw [HR.o.row.len,cD.out.row.len];exact gl);have hb:((n:Int) != (m:Int))=true:=by rw [bne_iff_ne];omega
  clear gl;go_enter func192,ntmps192;go_wp2_with fail;go_ret;exact⟨AB aS.out.symm,Below.refl _ _⟩
theorem IG{p:Option Addr}{n cap:Nat}{l:List AD}{q:Option Addr}{m mc:Nat}{l':List AD}{w:World}{r:Bool}(h:(A1 l l'&&A1 l' l)=r)(hr:AE AS 3 w p n cap l)(aT:AE AS 3 w q m mc l'):Calls prog 191 #[.slice p n cap,.slice q m mc] w (RB w (.bool r)):=by subst h;exact Lh p n cap l q m mc l' w hr.len hr.max hr.row aT.len aT.max aT.row
theorem Ch{p:Option Addr}{n cap:Nat}{l:List AD}{q:Option Addr}{m mc:Nat}{l':List AD}{w:World}{r:Bool}(h:A1 l l'=r)(hr:AE AS 3 w p n cap l)(aT:AE AS 3 w q m mc l'):Calls prog 25 #[.slice p n cap,.slice q m mc] w (RB w (.bool r)):=by subst h;exact NA p n cap l q m mc l' w hr.len hr.max hr.row aT.len aT.max aT.row
theorem FB{w w1:World}{a b:RH}(hb:Below (w.heap.size+2) ((w.alloc (.cells #[.int .u8 a.kind,.int .i64 a.rho,.slice a.ep a.en a.ec,.slice a.kp a.kn a.kc] 28)).alloc (.cells #[.int .u8 b.kind,.int .i64 b.rho,.slice b.ep b.en b.ec,.slice b.kp b.kn b.kc] 28)) w1):(w1.cell? ⟨w.heap.size,0,none⟩=some (.int .u8 a.kind)∧w1.cell? ⟨w.heap.size,1,none⟩=some (.int .i64 a.rho)∧w1.cell? ⟨w.heap.size,2,none⟩=some (.slice a.ep a.en a.ec)∧w1.cell? ⟨w.heap.size,3,none⟩=some (.slice a.kp a.kn a.kc))∧(w1.cell? ⟨w.heap.size+1,0,none⟩=some (.int .u8 b.kind)∧w1.cell? ⟨w.heap.size+1,1,none⟩=some (.int .i64 b.rho)∧w1.cell? ⟨w.heap.size+1,2,none⟩=some (.slice b.ep b.en b.ec)∧w1.cell? ⟨w.heap.size+1,3,none⟩=some (.slice b.kp b.kn b.kc)):=by refine⟨⟨?_,?_,?_,?_⟩,?_,?_,?_,?_⟩<;>(rw [hb.cell (by simp)];go_simp)
abbrev SX(w:World)(a b:RH):World:=(w.alloc (.cells #[.int .u8 a.kind,.int .i64 a.rho,.slice a.ep a.en a.ec,.slice a.kp a.kn a.kc] 28)).alloc (.cells #[.int .u8 b.kind,.int .i64 b.rho,.slice b.ep b.en b.ec,.slice b.kp b.kn b.kc] 28)
theorem LE(w:World)(a b:RH):Below w.heap.size w (SX w a b):=((Below.refl w.heap.size w).alloc (Nat.le_refl _) _).alloc (by simp) _
theorem Nz{a b:RH}{l m:List PT}{w:World}(ha:BK w a l)(hb:BK w b m)(hf:UJ 142 w l m):Oh (.node a l) (.node b m) w:=by
 have aE:=AA (LE w a b);have ff:=AA ha;have eB:=AA hb;have HF:=AA hf;have HP:=AA (Jk a b l m);show Calls _ _ #[Ci a,Ci b] w _;clear ha hb hf;by_cases h1:a.kind=b.kind
 ·have b1:(a.kind==b.kind)=true:=by simpa using h1
  by_cases h2:a.rho=b.rho
  ·have b2:(a.rho==b.rho)=true:=by simpa using h2
   cases h3:(A1 a.eff b.eff&&A1 b.eff a.eff)
   ·have HS:Hd (Bk (.node a l) (.node b m)=false):=by show _=_;rw [HP.o];simp only [GF,RH.plain,h3,Bool.and_false,Bool.false_and]
    have H3:=AA h3;clear h1 h2 h3;go_enter func142,ntmps142;go_wp2_with fail;refine(IG H3.o (ff.o.below aE.o).own.eff (eB.o.below aE.o).own.eff).mono ?_;rintro e w1 ⟨rfl,hb⟩;have aJ:=bt aE hb;clear hb;go_wp2_with fail;go_ret;exact⟨AB HS.o.symm,aJ.o⟩
   ·have HS:Hd (Bk (.node a l) (.node b m)=Gl l m):=by show _=_;rw [HP.o];simp only [GF,RH.plain,h1,h2,h3,decide_true,Bool.true_and]
    have H3:=AA h3;clear h1 h2 h3;generalize hk:Gl l m=K at HS;have HK:=AA hk;clear hk;go_enter func142,ntmps142;go_wp2_with fail;refine(IG H3.o (ff.o.below aE.o).own.eff (eB.o.below aE.o).own.eff).mono ?_;rintro e w1 ⟨rfl,hb⟩;have aJ:=bt aE hb;have HC:Hd (Below (w.heap.size+2) (SX w a b) w1):=by show Below _ _ _;simpa using hb
    clear hb;obtain⟨⟨d0,d1,d2,d3⟩,e0,e1,e2,e3⟩:=FB HC.o;go_wp2_with fail;refine(Lz 142 (fun a w=>call142 a w) (ff.o.below aJ.o).rowT (eB.o.below aJ.o).rowT (fun x hx y hy r hq W hW=>HF.o x hx y hy r hq W (aJ.o.trans (hW.mono aJ.o.size)))).mono ?_;rintro e w2 ⟨rfl,hb⟩;have aK:=bt aJ hb;rw [HK.o];clear hb d0 d1 d2 d3 e0 e1 e2 e3;go_wp2_with fail;go_ret;exact⟨AB HS.o.symm,aK.o⟩
  ·have b2:(a.rho==b.rho)=false:=by rw [beq_eq_false_iff_ne];exact h2
   have HS:Hd (Bk (.node a l) (.node b m)=false):=by show _=_;rw [HP.o];simp [GF,RH.plain,h2]
   clear h1 h2;go_enter func142,ntmps142;go_wp2_with fail;go_ret;exact⟨AB HS.o.symm,aE.o⟩
 ·have b1:(a.kind==b.kind)=false:=by rw [beq_eq_false_iff_ne];exact h1
  have HS:Hd (Bk (.node a l) (.node b m)=false):=by show _=_;rw [HP.o];simp [GF,RH.plain,h1]
  clear h1;go_enter func142,ntmps142;go_wp2_with fail;go_ret;exact⟨AB HS.o.symm,aE.o⟩
theorem SG(x:PT):∀y w,LR.lies w x→LR.lies w y→Oh x y w:=by refine AG.ind (P:=fun(x:PT)=>∀y w,LR.lies w x→LR.lies w y→Oh x y w) (fun a l ih=>?_) x;intro y w hx hy;obtain⟨b,m⟩:=y;have HX:=BD hx;have HY:=BD hy;refine Nz HX HY (fun x hx y hy r hq W hW=>?_);have:=ih x hx y W (LR.lies_below hW x (HX.each x hx)) (LR.lies_below hW y (HY.each y hy));unfold Oh at this;rw [hq] at this;exact this
def Og(x y:PT)(W:World):Prop:=∀r,Bk x y=r→Calls prog 13 #[Ci x.head,Ci y.head] W fun e w'=>e=.returned (.bool r)∧Below W.heap.size W w'
theorem Nv{a b:RH}{l m:List PT}{w:World}(ha:BK w a l)(hb:BK w b m)(hf:∀x∈l,∀y∈m,∀W,Below w.heap.size w W→Og x y W){r:Bool}(nC:Bk (.node a l) (.node b m)=r):Calls prog 13 #[Ci a,Ci b] w (RB w (.bool r)):=by
 have aE:=AA (LE w a b);have ff:=AA ha;have eB:=AA hb;have HF:=AA hf;have HP:=AA (Jk a b l m);have aa:=AA nC;have mh:=ha.kids.len;have tg:=hb.kids.len;have th:=ha.own.kmax;have ti:=hb.own.kmax;clear ha hb hf nC;by_cases h1:a.kind=b.kind
 ·have b1:(a.kind != b.kind)=false:=by simpa using h1
  by_cases h2:a.rho=b.rho
  ·have b2:(a.rho != b.rho)=false:=by simpa using h2
   by_cases hn:a.kn=b.kn
   ·have b3:((a.kn:Int) != (b.kn:Int))=false:=by rw [hn];simp
    have pp:=AA hn;clear hn;cases h3:A1 a.eff b.eff
    ·have HS:Hd (r=false):=by show _=_;rw [←aa.o,HP.o];simp [GF,RH.plain,h3]
     have H3:=AA h3;clear h1 h2 h3;go_enter func13,ntmps13;go_wp2_with fail;refine(Ch H3.o (ff.o.below aE.o).own.eff (eB.o.below aE.o).own.eff).mono ?_;rintro e w1 ⟨rfl,hb⟩;have aJ:=bt aE hb;clear hb;go_wp2_with fail;go_ret;exact⟨AB HS.o.symm,aJ.o⟩
    ·have H3:=AA h3;cases h4:A1 b.eff a.eff
     ·have HS:Hd (r=false):=by show _=_;rw [←aa.o,HP.o];simp [GF,RH.plain,h4]
      have H4:=AA h4;clear h1 h2 h3 h4;go_enter func13,ntmps13;go_wp2_with fail;refine(Ch H3.o (ff.o.below aE.o).own.eff (eB.o.below aE.o).own.eff).mono ?_;rintro e w1 ⟨rfl,hb⟩;have aJ:=bt aE hb;have HC:Hd (Below (w.heap.size+2) (SX w a b) w1):=by show Below _ _ _;simpa using hb
      clear hb;obtain⟨⟨d0,d1,d2,d3⟩,e0,e1,e2,e3⟩:=FB HC.o;go_wp2_with fail;refine(Ch H4.o (eB.o.below aJ.o).own.eff (ff.o.below aJ.o).own.eff).mono ?_;rintro e w2 ⟨rfl,hb⟩;have aK:=bt aJ hb;clear hb d0 d1 d2 d3 e0 e1 e2 e3;go_wp2_with fail;go_ret;exact⟨AB HS.o.symm,aK.o⟩
     ·have HS:Hd (r=Gl l m):=by show _=_;rw [←aa.o,HP.o];simp only [GF,RH.plain,h1,h2,h3,h4,decide_true,Bool.true_and]
      have H4:=AA h4;clear h1 h2 h3 h4;go_enter func13,ntmps13;go_wp2_with fail;refine(Ch H3.o (ff.o.below aE.o).own.eff (eB.o.below aE.o).own.eff).mono ?_;rintro e w1 ⟨rfl,hb⟩;have aJ:=bt aE hb;have HC:Hd (Below (w.heap.size+2) (SX w a b) w1):=by show Below _ _ _;simpa using hb
      clear hb;obtain⟨⟨d0,d1,d2,d3⟩,e0,e1,e2,e3⟩:=FB HC.o;go_wp2_with fail;refine(Ch H4.o (eB.o.below aJ.o).own.eff (ff.o.below aJ.o).own.eff).mono ?_;rintro e w2 ⟨rfl,hb⟩;have aK:=bt aJ hb;have fc:=AA (HC.o.trans (hb.mono (by have:=HC.o.size;simpa using this)));clear hb d0 d1 d2 d3 e0 e1 e2 e3;obtain⟨⟨d0,d1,d2,d3⟩,e0,e1,e2,e3⟩:=FB fc.o;go_wp2_with fail;clear d0 d1 d2 d3 e0 e1 e2 e3;go_loopw [5,46] (fun _ i wr=>∃k:Nat,k≤a.kn∧i=.int .i64 k∧(∀(j:Nat) (x y:PT),j<k→l[j]?=some x→m[j]?=some y→Bk x y=true)∧Below w2.heap.size w2 wr) (fun _ i _=>a.kn-(intOf i).toNat)
      case atStart=>exact⟨0,by omega,rfl,fun j x y hj=>by omega,Below.refl _ _⟩
      case round=>
       obtain⟨k,hk,rfl,ac,hb⟩:=hrel;have an:=AA ac;have HB:=AA hb;clear ac hb;have ay:=AA (aK.o.trans (HB.o.mono aK.o.size));have rE:=AA (fc.o.trans (HB.o.mono (by have:=fc.o.size;simpa using this)));by_cases aF:k<a.kn
       ·obtain⟨x,hx⟩:=ff.o.rowT.at (j:=k) aF;have lB:k<b.kn:=by have:=pp.o;omega
        obtain⟨y,hy⟩:=eB.o.rowT.at (j:=k) lB;have HX:=AA hx;have HY:=AA hy;obtain⟨g,o,bF,aP,d0,d1,d2,d3⟩:=(ff.o.rowT.below ay.o).kid hx;obtain⟨g',o',iV,gg,e0,e1,e2,e3⟩:=(eB.o.rowT.below ay.o).kid hy;obtain⟨⟨_,_,_,c3⟩,_,_,_,c3'⟩:=FB rE.o;rw [bF] at c3;rw [iV] at c3';have i0:(0:Int)≤(k:Int):=by omega
        have i1:(k:Int)<(a.kn:Int):=by omega
        have i2:(k:Int)<(b.kn:Int):=by omega
        have bx:Hd (∀W,Below wr.heap.size wr W→W.cell? ⟨w.heap.size,3,none⟩=some (.slice (some ⟨g,o,none⟩) a.kn a.kc)∧W.cell? ⟨w.heap.size+1,3,none⟩=some (.slice (some ⟨g',o',none⟩) b.kn b.kc)∧W.cell? ⟨g,o+k * 4,none⟩=some (.int .u8 x.head.kind)∧W.cell? ⟨g,o+k * 4+1,none⟩=some (.int .i64 x.head.rho)∧W.cell? ⟨g,o+k * 4+2,none⟩=some (.slice x.head.ep x.head.en x.head.ec)∧W.cell? ⟨g,o+k * 4+3,none⟩=some (.slice x.head.kp x.head.kn x.head.kc) ∧
         W.cell? ⟨g',o'+k * 4,none⟩=some (.int .u8 y.head.kind)∧W.cell? ⟨g',o'+k * 4+1,none⟩=some (.int .i64 y.head.rho)∧W.cell? ⟨g',o'+k * 4+2,none⟩=some (.slice y.head.ep y.head.en y.head.ec)∧W.cell? ⟨g',o'+k * 4+3,none⟩=some (.slice y.head.kp y.head.kn y.head.kc)∧Below wr.heap.size wr W):=fun W h=>
         ⟨by rw [h.cell (An c3)];exact c3,by rw [h.cell (An c3')];exact c3',by rw [h.cell aP];exact d0,by rw [h.cell aP];exact d1,by rw [h.cell aP];exact d2,by rw [h.cell aP];exact d3,by rw [h.cell gg];exact e0,by rw [h.cell gg];exact e1,by rw [h.cell gg];exact e2,by rw [h.cell gg];exact e3,h⟩
        clear hx hy bF iV aP gg c3 c3' d0 d1 d2 d3 e0 e1 e2 e3;cases hq:Bk x y
        ·have HQ:=AA hq;clear hq;go_wp2_with fail
         go_region_held3 (fun W=>W.cell? ⟨w.heap.size,3,none⟩=some (.slice (some ⟨g,o,none⟩) a.kn a.kc)∧W.cell? ⟨w.heap.size+1,3,none⟩=some (.slice (some ⟨g',o',none⟩) b.kn b.kc)∧W.cell? ⟨g,o+k * 4,none⟩=some (.int .u8 x.head.kind)∧W.cell? ⟨g,o+k * 4+1,none⟩=some (.int .i64 x.head.rho)∧W.cell? ⟨g,o+k * 4+2,none⟩=some (.slice x.head.ep x.head.en x.head.ec)∧W.cell? ⟨g,o+k * 4+3,none⟩=some (.slice x.head.kp x.head.kn x.head.kc) ∧
          W.cell? ⟨g',o'+k * 4,none⟩=some (.int .u8 y.head.kind)∧W.cell? ⟨g',o'+k * 4+1,none⟩=some (.int .i64 y.head.rho)∧W.cell? ⟨g',o'+k * 4+2,none⟩=some (.slice y.head.ep y.head.en y.head.ec)∧W.cell? ⟨g',o'+k * 4+3,none⟩=some (.slice y.head.kp y.head.kn y.head.kc)∧Below wr.heap.size wr W)
          (first
           |exact bx.o _ (AC _)
           |exact bx.o _ hZ)
          ((go_at_call 13;refine(HF.o x (List.mem_of_getElem? HX.o) y (List.mem_of_getElem? HY.o) _ (ay.o.trans (Below.mono (by go_split_ands;assumption) ay.o.size)) _ HQ.o).mono ?_;rintro e w8 ⟨rfl,gK⟩;have hZ:=AK (w0:=wr) (by go_split_ands;assumption) gK))
         rename_i hH;clear hH gK;have gK:=hZ;clear hZ;have aV:=bt ay gK;go_wp2_with fail;go_ret;exact⟨AB (by rw [HS.o];exact(LY HX.o HY.o HQ.o).symm),aV.o⟩
        ·have HQ:=AA hq;clear hq;go_wp2_with fail
         go_region_held3 (fun W=>W.cell? ⟨w.heap.size,3,none⟩=some (.slice (some ⟨g,o,none⟩) a.kn a.kc)∧W.cell? ⟨w.heap.size+1,3,none⟩=some (.slice (some ⟨g',o',none⟩) b.kn b.kc)∧W.cell? ⟨g,o+k * 4,none⟩=some (.int .u8 x.head.kind)∧W.cell? ⟨g,o+k * 4+1,none⟩=some (.int .i64 x.head.rho)∧W.cell? ⟨g,o+k * 4+2,none⟩=some (.slice x.head.ep x.head.en x.head.ec)∧W.cell? ⟨g,o+k * 4+3,none⟩=some (.slice x.head.kp x.head.kn x.head.kc) ∧
          W.cell? ⟨g',o'+k * 4,none⟩=some (.int .u8 y.head.kind)∧W.cell? ⟨g',o'+k * 4+1,none⟩=some (.int .i64 y.head.rho)∧W.cell? ⟨g',o'+k * 4+2,none⟩=some (.slice y.head.ep y.head.en y.head.ec)∧W.cell? ⟨g',o'+k * 4+3,none⟩=some (.slice y.head.kp y.head.kn y.head.kc)∧Below wr.heap.size wr W)
          (first
           |exact bx.o _ (AC _)
           |exact bx.o _ hZ)
          ((go_at_call 13;refine(HF.o x (List.mem_of_getElem? HX.o) y (List.mem_of_getElem? HY.o) _ (ay.o.trans (Below.mono (by go_split_ands;assumption) ay.o.size)) _ HQ.o).mono ?_;rintro e w8 ⟨rfl,gK⟩;have hZ:=AK (w0:=wr) (by go_split_ands;assumption) gK))
         rename_i hH;clear hH gK;have gK:=hZ;clear hZ;have aV:=bt ay gK;go_wp2_with fail;go_roundw
         case rel=>
          refine⟨k+1,by omega,by go_num,fun j x' y' hj fJ eh=>?_,HB.o.trans (gK.mono HB.o.size)⟩;by_cases jW:j=k
          ·subst jW;have h1:=HX.o;have h2:=HY.o;rw [fJ] at h1;rw [eh] at h2;cases h1;cases h2;exact HQ.o
          ·exact an.o j x' y' (by omega) fJ eh
         case measure=>simp [intOf];omega
       ·have ao:k=a.kn:=by omega
        have hs:Hd (Gl l m=true):=Jj (by have:=pp.o;omega) (fun j x y hx hy=>an.o j x y (by have h1:=(List.getElem?_eq_some_iff.1 hx).1;omega) hx hy);clear ao;go_wp2_with fail;go_ret;exact⟨AB (by rw [HS.o,hs.out]),ay.o⟩
   ·have b3:((a.kn:Int) != (b.kn:Int))=true:=by rw [bne_iff_ne];omega
    have HS:Hd (r=false):=by show _=_;rw [←aa.o,HP.o,OU (by omega)];simp
    clear h1 h2 hn;go_enter func13,ntmps13;go_wp2_with fail;go_ret;exact⟨AB HS.o.symm,aE.o⟩
  ·have b2:(a.rho != b.rho)=true:=by simpa using h2
   have HS:Hd (r=false):=by show _=_;rw [←aa.o,HP.o];simp [GF,RH.plain,h2]
   clear h1 h2;go_enter func13,ntmps13;go_wp2_with fail;go_ret;exact⟨AB HS.o.symm,aE.o⟩
 ·have b1:(a.kind != b.kind)=true:=by simpa using h1
  have HS:Hd (r=false):=by show _=_;rw [←aa.o,HP.o];simp [GF,RH.plain,h1]
  clear h1;go_enter func13,ntmps13;go_wp2_with fail;go_ret;exact⟨AB HS.o.symm,aE.o⟩
theorem ER(x:PT):∀y w,LR.lies w x→LR.lies w y→Og x y w:=by refine AG.ind (P:=fun(x:PT)=>∀y w,LR.lies w x→LR.lies w y→Og x y w) (fun a l ih=>?_) x;intro y w hx hy r hr;obtain⟨b,m⟩:=y;have HX:=BD hx;have HY:=BD hy;exact Nv HX HY (fun x hx y _ W hW=>ih x hx y W (LR.lies_below hW x (HX.each x hx)) (LR.lies_below hW y (HY.each y (by assumption)))) hr
theorem D6{x y:PT}{w:World}{r:Bool}(h:Bk x y=r)(hx:LR.lies w x)(hy:LR.lies w y):Calls prog 142 #[Ci x.head,Ci y.head] w (RB w (.bool r)):=by subst h;exact SG x y w hx hy
end
section
open Go.Sort Go.Lib
theorem RX{w w1:World}{t:PT}(hb:Below (w.heap.size+1) (w.alloc (.cells #[.int .u8 t.head.kind,.int .i64 t.head.rho,.slice t.head.ep t.head.en t.head.ec,.slice t.head.kp t.head.kn t.head.kc] 28)) w1):w1.cell? ⟨w.heap.size,0,none⟩=some (.int .u8 t.head.kind)∧w1.cell? ⟨w.heap.size,1,none⟩=some (.int .i64 t.head.rho)∧w1.cell? ⟨w.heap.size,2,none⟩=some (.slice t.head.ep t.head.en t.head.ec)∧w1.cell? ⟨w.heap.size,3,none⟩=some (.slice t.head.kp t.head.kn t.head.kc):=by refine⟨?_,?_,?_,?_⟩<;>(rw [hb.cell (by simp),AR];rfl)
end
section
open Go.Sort Go.Lib
structure Xh where
 kind:Int
 var:Int
structure BH where
 kind:Int
 var:Int
 kp:Option Addr
 kn:Nat
 kc:Nat
abbrev PB:=AG BH
abbrev BT:=AG Xh
def BH.plain(a:BH):Xh:=⟨a.kind,a.var⟩
def PB.er(t:PB):BT:=AG.map BH.plain t
theorem PB.er_node(a:BH)(l:List PB):PB.er (.node a l)=.node a.plain (l.map PB.er):=AG.map_node _ a l
def XQ(a:BH):List Value:=[.int .u8 a.kind,.int .i64 a.var,.slice a.kp a.kn a.kc]
structure BH.Own(a:BH):Prop where
 kmax:a.kn≤9223372036854775807
 kle:a.kn≤a.kc
 knil:a.kp=none→a.kc=0
def LB:Hw BH where
 enc:=XQ
 k:=3
 own:=fun _=>BH.Own
 kp:=BH.kp
 kn:=BH.kn
 len:=fun _=>rfl
 below:=fun h _=>h
def S2(B E:Nat)(t:PB):Prop:=∀a∈t.nodes,∀ad,a.kp=some ad→B≤ad.block∧ad.block<E
theorem S2.mono{B E B' E':Nat}{t:PB}(h:S2 B E t)(hB:B'≤B)(hE:E≤E'):S2 B' E' t:=fun a ha ad hp=>by have:=h a ha ad hp;omega
theorem S2.node{B E:Nat}{a:BH}{l:List PB}(ha:∀ad,a.kp=some ad→B≤ad.block∧ad.block<E)(hl:∀t∈l,S2 B E t):S2 B E (.node a l):=by
 intro x hx;rw [AG.nodes_node,List.mem_cons] at hx;rcases hx with rfl|hx
 ·exact ha
 ·rw [List.mem_flatten] at hx;obtain⟨m,hm,hx⟩:=hx;obtain⟨t,ht,rfl⟩:=List.mem_map.1 hm;exact hl t ht x hx
theorem SD{α:Type}{enc:α→List Value}{k:Nat}{w w':World}{r:Option Nat}{p:Option Addr}{l:List α}(hg:w.grownBy w' r)(aS:∀ad,p=some ad→r≠some ad.block)(h:Au enc k w p l):Au enc k w' p l:=by
 rcases h with h|⟨b,o,rfl,hb,hc⟩
 ·exact .inl h
 ·refine .inr ⟨b,o,rfl,Nat.lt_of_lt_of_le hb hg.size,fun j x hx i u hi=>Em hg (by exact aS ⟨b,o,none⟩ rfl) (hc j x hx i u hi)⟩
structure NZ(w:World)(g:Nat)(x y z:Value):Prop where
 blk:w.heap[g]?=some (.cells #[x,y,z] 45 (0,0))
theorem NZ.cells{w:World}{g:Nat}{x y z:Value}(h:NZ w g x y z):w.cell? ⟨g,0,none⟩=some x∧w.cell? ⟨g,1,none⟩=some y∧w.cell? ⟨g,2,none⟩=some z∧w.frozen? ⟨g,0,none⟩=false∧w.frozen? ⟨g,1,none⟩=false∧w.frozen? ⟨g,2,none⟩=false:=by have hb:=h.blk;refine⟨?_,?_,?_,?_,?_,?_⟩<;>simp [World.cell?,World.frozen?,hb]
theorem NZ.lt{w:World}{g:Nat}{x y z:Value}(h:NZ w g x y z):g<w.heap.size:=(Array.getElem?_eq_some_iff.1 h.blk).1
theorem NZ.grown{w w':World}{g:Nat}{x y z:Value}{r:Option Nat}(h:NZ w g x y z)(hg:w.grownBy w' r)(hr:r≠some g):NZ w' g x y z:=⟨by rw [hg.block g h.lt hr.symm];exact h.blk⟩
theorem NZ.below{w w':World}{g:Nat}{x y z:Value}(h:NZ w g x y z)(hb:Below w.heap.size w w'):NZ w' g x y z:=⟨by rw [hb.block g h.lt];exact h.blk⟩
theorem AJ.other{α:Type}{enc:α→List Value}{k:Nat}{w w':World}{base e n:Nat}{v:Value}{l:List α}{r:Option Nat}(h:AJ enc k w base e v n l)(hg:w.grownBy w' r)(hr:∀b,v.ownBlock=some b→r≠some b):AJ enc k w' base e v n l:=by
 refine⟨h.1,?_⟩;rcases h.2 with hn|⟨g,cap,cur,rfl,aW,qX,rest⟩
 ·exact .inl hn
 ·refine .inr ⟨g,cap,cur,rfl,aW,?_,rest⟩;rw [hg.block g (Array.getElem?_eq_some_iff.1 qX).1 (hr g rfl).symm];exact qX
end
section
open Go.Sort Go.Lib
end
section
open Go.Sort Go.Lib
theorem Sd(l:List PT):l.length≤C4 l:=by
 unfold C4;induction l with
 |nil=>simp
 |cons x l ih=>have:=AG.size_pos x;simp only [List.length_cons,List.map_cons,List.sum_cons];omega
structure Pq(w:World)(a:BH)(l:List PB):Prop where
 own:BH.Own a
 len:l.length=a.kn
 row:Au LB.encT 3 w a.kp l
 each:∀t∈l,LB.lies w t
theorem Pq.below{w w':World}{a:BH}{l:List PB}(h:Pq w a l)(hb:Below w.heap.size w w'):Pq w' a l:=⟨h.own,h.len,h.row.below hb,fun t ht=>LB.lies_below hb t (h.each t ht)⟩
theorem Pq.kid{w:World}{a:BH}{l:List PB}(h:Pq w a l){j:Nat}{t:PB}(hx:l[j]?=some t):∃b o,a.kp=some ⟨b,o,none⟩∧b<w.heap.size∧w.cell? ⟨b,o+j * 3,none⟩=some (.int .u8 t.head.kind)∧w.cell? ⟨b,o+j * 3+1,none⟩=some (.int .i64 t.head.var)∧w.cell? ⟨b,o+j * 3+2,none⟩=some (.slice t.head.kp t.head.kn t.head.kc):=by obtain⟨b,o,hp,hb,hc⟩:=h.row.elem hx;exact⟨b,o,hp,hb,by simpa using hc 0 _ rfl,hc 1 _ rfl,hc 2 _ rfl⟩
end
end Go.Proofs.YtkdjnegfnhldpaaGreatDoor
