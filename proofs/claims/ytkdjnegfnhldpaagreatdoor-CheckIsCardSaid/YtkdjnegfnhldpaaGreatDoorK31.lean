/- Part 31. -/
import Derived.Test.YtkdjnegfnhldpaaGreatDoorK30
set_option linter.unusedVariables false
set_option maxRecDepth 100000
set_option linter.unusedSimpArgs false
set_option maxHeartbeats 40000000
namespace Go.Proofs.YtkdjnegfnhldpaaGreatDoor
open Go.Proofs.Tryz Go.RowKit
def Cb(lo l:List Int):List Int:=l.foldl (fun o z=>D4 z o) lo
theorem EZ(lo l m:List Int):Cb lo (l++m)=Cb (Cb lo l) m:=List.foldl_append ..
theorem My(lo:List Int)(z:Int)(m:List Int):Cb lo (z::m)=Cb (D4 z lo) m:=rfl
theorem Fo:∀(l lo:List Int),(Cb lo l).length≤lo.length+l.length
 |[],lo=>by simp [Cb]
 |z::l,lo=>by have h1:=Fo l (D4 z lo);have h2:=FG z lo;rw [My];simp only [List.length_cons];omega
theorem Kq{z:Int}:∀{l lo:List Int},z∈Cb lo l↔z∈lo∨z∈l
 |[],lo=>by simp [Cb]
 |y::l,lo=>by
  rw [My,Kq,Qg,List.mem_cons];constructor
  ·rintro((h|h)|h)
   ·exact .inr (.inl h)
   ·exact .inl h
   ·exact .inr (.inr h)
  ·rintro(h|h|h)
   ·exact .inl (.inr h)
   ·exact .inl (.inl h)
   ·exact .inr h
theorem El{l:List PT}{k:Nat}{x:PT}(h:l[k]?=some x):AY (l.take (k+1))=AY (l.take k)++By x.er:=by unfold AY;rw [AI h,List.flatMap_append];simp
theorem GU(l:List PT)(k:Nat):(AY (l.take k)).length≤(AY l).length:=by
 have h:AY l=AY (l.take k)++AY (l.drop k):=by unfold AY;rw [←List.flatMap_append,List.take_append_drop]
 rw [h,List.length_append];omega
theorem IY(t:PT):∀w p n cap lo,LR.lies w t→AE Ab 1 w p n cap lo→lo.length+(By t.er).length≤9000000→BG t.er=true→Calls prog 40 #[.slice p n cap,Ci t.head] w fun e w'=>∃v p' n' c',e=.returned v∧v=.slice p' n' c'∧AE Ab 1 w' p' n' c' (Cb lo (By t.er))∧Below w.heap.size w w':=by
 refine AG.ind (P:=fun(t:PT)=>∀w p n cap lo,LR.lies w t→AE Ab 1 w p n cap lo→lo.length+(By t.er).length≤9000000→BG t.er=true →
  Calls prog 40 #[.slice p n cap,Ci t.head] w fun e w'=>∃v p' n' c',e=.returned v∧v=.slice p' n' c'∧AE Ab 1 w' p' n' c' (Cb lo (By t.er))∧Below w.heap.size w w') (fun a l ih=>?_) t
 intro w p n cap lo hl hr hz he;have HN:=AA (BD hl);have IH:=AA ih;have ni:By (PT.er (.node a l))=IW a.plain++AY l:=Jd (.node a l);rw [ni,List.length_append] at hz;rw [ni];clear ni;have jp:=he;rw [PT.er_node,Bi,Bool.and_eq_true] at jp;have eS:Hd (∀x∈l,BG (PT.er x)=true):=fun x hx=>List.all_eq_true.1 jp.2 _ (List.mem_map_of_mem hx);have eP:BU a.eff=false:=by have h:=jp.1;rw [Bool.not_eq_true'] at h;exact h
 have cB:a.eff.length≤100:=((Gw _).1 eP).1;have dr:=HN.o.own.kmax;have kw:=HN.o.own.eff.len;have dy:a.en≤100:=by omega
 have bZ:(w.alloc (.cells #[.int .u8 a.kind,.int .i64 a.rho,.slice a.ep a.en a.ec,.slice a.kp a.kn a.kc] 28)).cell? ⟨w.heap.size,0,none⟩=some (.int .u8 a.kind):=by rw [AR];rfl
 have jo:(w.alloc (.cells #[.int .u8 a.kind,.int .i64 a.rho,.slice a.ep a.en a.ec,.slice a.kp a.kn a.kc] 28)).cell? ⟨w.heap.size,1,none⟩=some (.int .i64 a.rho):=by rw [AR];rfl
 have gM:(w.alloc (.cells #[.int .u8 a.kind,.int .i64 a.rho,.slice a.ep a.en a.ec,.slice a.kp a.kn a.kc] 28)).cell? ⟨w.heap.size,2,none⟩=some (.slice a.ep a.en a.ec):=by rw [AR];rfl
 have bh:(w.alloc (.cells #[.int .u8 a.kind,.int .i64 a.rho,.slice a.ep a.en a.ec,.slice a.kp a.kn a.kc] 28)).cell? ⟨w.heap.size,3,none⟩=some (.slice a.kp a.kn a.kc):=by rw [AR];rfl
 have aE:=AA ((Below.refl w.heap.size w).alloc (Nat.le_refl _) (.cells #[.int .u8 a.kind,.int .i64 a.rho,.slice a.ep a.en a.ec,.slice a.kp a.kn a.kc] 28));have bL:=AA (HN.o.alloc (.cells #[.int .u8 a.kind,.int .i64 a.rho,.slice a.ep a.en a.ec,.slice a.kp a.kn a.kc] 28));have HO:=AA (hr.alloc (.cells #[.int .u8 a.kind,.int .i64 a.rho,.slice a.ep a.en a.ec,.slice a.kp a.kn a.kc] 28));have HZ:=AA hz;show Calls _ _ #[_,Ci a] w _;clear hl ih he jp hr hz eP cB kw;obtain⟨kd,rr,ep,en,ec,eff,kp,kn,kc⟩:=a;simp only at dr dy bZ jo gM bh aE bL HO;by_cases h1:kd=1
 ·have e1:(kd != 1)=false:=by simp [h1]
  have cg:Hd (IW (RH.plain ⟨kd,rr,ep,en,ec,eff,kp,kn,kc⟩)=[]):=by unfold IW RH.plain;exact if_pos h1
  rw [cg.o];have kP:Hd (lo.length+(AY l).length≤9000000):=by have h:=HZ.o;rw [cg.o] at h;show _≤_;simpa using h
  obtain⟨LO,kq⟩:∃LO,lo=LO:=⟨_,rfl⟩;rw [kq] at HO kP ⊢;have kK:Hd (Cb LO ([]++AY l)=Cb LO (AY l)):=rfl;clear h1 cg HZ kq;go_enter func40,ntmps40;go_wp2_with fail;generalize w.alloc (.cells #[.int .u8 kd,.int .i64 rr,.slice ep en ec,.slice kp kn kc] 28)=W at *
  have eo:Hd (∀wr,Below W.heap.size W wr→wr.cell? ⟨w.heap.size,3,none⟩=some (.slice kp kn kc)):=fun wr hb=>by rw [hb.cell (An bh)];exact bh
  clear bZ jo gM bh;have HB:=AA (Below.refl W.heap.size W);go_loopw [0,7,33] (fun u _ i wr=>∃(k:Nat) (q:Option Addr) (m mc:Nat),k≤kn∧i=.int .i64 k∧u=.slice q m mc∧AE Ab 1 wr q m mc (Cb LO (AY (l.take k)))∧Below W.heap.size W wr) (fun _ _ i _=>kn-(intOf i).toNat)
  case atStart=>exact⟨0,_,_,_,by omega,rfl,rfl,HO.o,HB.o⟩
  case round=>
   obtain⟨k,q,m,mc,hk,rfl,rfl,aD,hb⟩:=hrel;have aL:=AA aD;have eY:=AA hb;clear aD hb;have bh:=eo.o wr eY.o;by_cases aF:k<kn
   ·obtain⟨x,hx⟩:=bL.o.rowT.at (j:=k) aF;have HE:=AA hx;obtain⟨b,o,bF,aP,d0,d1,d2,d3⟩:=(bL.o.rowT.below eY.o).kid hx;simp only at bF;subst bF;have HX:=AA ((bL.o.rowT.below eY.o).lies hx);have dY:=List.mem_of_getElem? hx;have dl:=AA (eS.o x dY);have lS:Hd ((Cb LO (AY (l.take k))).length+(By x.er).length≤9000000):=by have h1:=Fo (AY (l.take k)) LO;have h2:=GU l (k+1);have h3:=kP.o;rw [El hx,List.length_append] at h2;show _≤_;omega
    clear hx aP dY;go_wp2_with fail;refine(IH.out x (List.mem_of_getElem? HE.o) wr q m mc _ HX.o aL.o lS.o dl.o).mono ?_;rintro e w1 ⟨v,q',m',c',rfl,rfl,aT,hb⟩;have aJ:=bt eY hb;have dQ:=AA aT;clear hb aT d0 d1 d2 d3 bh;go_wp2_with fail;go_roundw
    case rel=>exact⟨k+1,q',m',c',by omega,by go_num,rfl,(by rw [El HE.o,EZ];exact dQ.o),aJ.o⟩
    case measure=>simp [intOf];omega
   ·have ao:k=kn:=by omega
    subst ao;go_wp2_with fail;go_ret;refine⟨_,q,m,mc,rfl,rfl,?_,aE.o.trans (eY.o.mono aE.o.size)⟩;have h:=aL.o;rw [List.take_of_length_le (by rw [bL.o.kids.len];exact Nat.le_refl _),←kK.o] at h;exact h
 ·have e1:(kd != 1)=true:=by simp [h1]
  have cg:Hd (IW (RH.plain ⟨kd,rr,ep,en,ec,eff,kp,kn,kc⟩)=rr::BQ eff):=by unfold IW RH.plain;exact if_neg h1
  rw [cg.o];have ge:Hd (lo.length+(1+(BQ eff).length+(AY l).length)≤9000000):=by have h:=HZ.o;rw [cg.o,List.length_cons] at h;show _≤_;omega
  clear h1 cg HZ;have s6:=HO.o.len;have hn:n≤10000000:=by have h:=ge.o;omega
  clear s6;have kH:=AA bL.o.own.eff;go_enter func40,ntmps40;go_upto_region 2 with fail;generalize w.alloc (.cells #[.int .u8 kd,.int .i64 rr,.slice ep en ec,.slice kp kn kc] 28)=W at *
  have fc:Hd (∀wr,Below W.heap.size W wr→wr.cell? ⟨w.heap.size,2,none⟩=some (.slice ep en ec)):=fun wr hb=>by rw [hb.cell (An gM)];exact gM
  have eo:Hd (∀wr,Below W.heap.size W wr→wr.cell? ⟨w.heap.size,3,none⟩=some (.slice kp kn kc)):=fun wr hb=>by rw [hb.cell (An bh)];exact bh
  clear bZ gM bh;go_wp2_with fail;refine(GD HO.o hn rr).mono ?_;rintro e w1 ⟨v,q1,m1,c1,rfl,rfl,aT,hb⟩;have HO:=AA aT;have HB:=AA hb;have gM:=fc.o w1 hb;have kH:=AA (kH.o.below hb);clear hb aT jo;go_wp2_with fail;refine(Cf kH.o (by omega)).mono ?_;rintro e w2 ⟨⟨q2,m2,c2,rfl,aT⟩,hb⟩;have HO:=AA (HO.o.below hb);have HB:=bt HB hb;have dd:=AA aT;have jC:=aT.max;clear hb aT gM;obtain⟨le,cB⟩:∃le,BQ eff=le:=⟨_,rfl⟩;have rX:=AA cB;rw [cB] at dd ge;clear cB;go_wp2_with fail;go_loopw [0,6,20] (fun u _ i wr=>∃(k:Nat) (q:Option Addr) (m mc:Nat),k≤m2∧i=.int .i64 k∧u=.slice q m mc∧AE Ab 1 wr q m mc (Cb (D4 rr lo) (le.take k))∧Below w2.heap.size w2 wr) (fun _ _ i _=>m2-(intOf i).toNat)
  case atStart=>exact⟨0,_,_,_,by omega,rfl,rfl,HO.o,Below.refl _ _⟩
  case round=>
   obtain⟨k,q,m,mc,hk,rfl,rfl,aD,hb⟩:=hrel;have aL:=AA aD;have eY:=AA hb;clear aD hb
   have hm:m≤10000000:=by
    have h1:=aL.o.len;have h2:=Fo (le.take k) (D4 rr lo);have h3:=FG rr lo;have h4:(le.take k).length≤le.length:=by rw [List.length_take];omega
    have h5:=ge.o;omega
   by_cases aF:k<m2
   ·obtain⟨x,hx⟩:=AM (l:=le) (j:=k) (by rw [dd.o.len];exact aF);obtain⟨b,o,rfl,d0⟩:=(dd.o.below eY.o).row.num hx;have HX:=AA hx;clear hx;go_wp2_with fail;refine(GD aL.o hm x).mono ?_;rintro e w3 ⟨v,q',m',c',rfl,rfl,aT,hb⟩;have aJ:=bt eY hb;have dQ:=AA aT;clear hb aT d0;go_wp2_with fail;go_roundw
    case rel=>exact⟨k+1,q',m',c',by omega,by go_num,rfl,(by rw [AI HX.o,EZ];exact dQ.o),aJ.o⟩
    case measure=>simp [intOf];omega
   ·have ao:k=m2:=by omega
    subst ao;have HB:=AA (HB.o.trans (eY.o.mono HB.o.size));have bh:=eo.o wr HB.o;have ja:le.take k=le:=List.take_of_length_le (by rw [dd.o.len];exact Nat.le_refl _);rw [ja] at aL;obtain⟨LO,kq⟩:∃LO,Cb (D4 rr lo) le=LO:=⟨_,rfl⟩;have kK:Hd (Cb lo (rr::BQ eff++AY l)=Cb LO (AY l)):=by show _=_;rw [rX.o,←kq,←EZ];rfl
    have kP:Hd (LO.length+(AY l).length≤9000000):=by have h1:=Fo le (D4 rr lo);have h2:=FG rr lo;have h3:=ge.o;rw [kq] at h1;show _≤_;omega
    rw [kq] at aL;have HO:=AA aL.o;clear aL aF hm ja kq;go_wp2_with fail;clear bh;go_loopw [0,7,33] (fun u _ i wr=>∃(k:Nat) (q:Option Addr) (m mc:Nat),k≤kn∧i=.int .i64 k∧u=.slice q m mc∧AE Ab 1 wr q m mc (Cb LO (AY (l.take k)))∧Below W.heap.size W wr) (fun _ _ i _=>kn-(intOf i).toNat)
    case atStart=>exact⟨0,_,_,_,by omega,rfl,rfl,HO.o,HB.o⟩
    case round=>
     obtain⟨k,q,m,mc,hk,rfl,rfl,aD,hb⟩:=hrel;have aL:=AA aD;have eY:=AA hb;clear aD hb;have bh:=eo.o wr eY.o;by_cases aF:k<kn
     ·obtain⟨x,hx⟩:=bL.o.rowT.at (j:=k) aF;have HE:=AA hx;obtain⟨b,o,bF,aP,d0,d1,d2,d3⟩:=(bL.o.rowT.below eY.o).kid hx;simp only at bF;subst bF;have HX:=AA ((bL.o.rowT.below eY.o).lies hx);have dY:=List.mem_of_getElem? hx;have dl:=AA (eS.o x dY);have lS:Hd ((Cb LO (AY (l.take k))).length+(By x.er).length≤9000000):=by have h1:=Fo (AY (l.take k)) LO;have h2:=GU l (k+1);have h3:=kP.o;rw [El hx,List.length_append] at h2;show _≤_;omega
      clear hx aP dY;go_wp2_with fail;refine(IH.out x (List.mem_of_getElem? HE.o) wr q m mc _ HX.o aL.o lS.o dl.o).mono ?_;rintro e w1 ⟨v,q',m',c',rfl,rfl,aT,hb⟩;have aJ:=bt eY hb;have dQ:=AA aT;clear hb aT d0 d1 d2 d3 bh;go_wp2_with fail;go_roundw
      case rel=>exact⟨k+1,q',m',c',by omega,by go_num,rfl,(by rw [El HE.o,EZ];exact dQ.o),aJ.o⟩
      case measure=>simp [intOf];omega
     ·have ao:k=kn:=by omega
      subst ao;go_wp2_with fail;go_ret;refine⟨_,q,m,mc,rfl,rfl,?_,aE.o.trans (eY.o.mono aE.o.size)⟩;have h:=aL.o;rw [List.take_of_length_le (by rw [bL.o.kids.len];exact Nat.le_refl _),←kK.o] at h;exact h
theorem M2{w:World}(t:PT)(hl:LR.lies w t)(hz:(By t.er).length≤9000000)(he:BG t.er=true):Calls prog 15 #[Ci t.head] w fun e w'=>∃p' n' c',e=.returned (.slice p' n' c')∧AE Ab 1 w' p' n' c' (Cb [] (By t.er))∧Below w.heap.size w w':=by
 obtain⟨a,l,rfl⟩:∃a l,t=AG.node a l:=⟨t.head,t.kids,AG.eta t⟩;have HB:=AA ((Below.refl w.heap.size w).alloc (Nat.le_refl _) (.cells #[.int .u8 a.kind,.int .i64 a.rho,.slice a.ep a.en a.ec,.slice a.kp a.kn a.kc] 28));have HL:=AA (LR.lies_below HB.o _ hl);have HZ:Hd (([]:List Int).length+(By (PT.er (.node a l))).length≤9000000):=by show _≤_;simpa using hz
 have HE:=AA he;have eO:=Ap w #[.int .u8 a.kind,.int .i64 a.rho,.slice a.ep a.en a.ec,.slice a.kp a.kn a.kc] 28 _ rfl;have HC:Hd _:=eO;show Calls _ _ #[Ci a] w _;clear hl hz he eO;go_enter func15,ntmps15;go_upto_region 1 with fail;generalize w.alloc (.cells #[.int .u8 a.kind,.int .i64 a.rho,.slice a.ep a.en a.ec,.slice a.kp a.kn a.kc] 28)=W at *
 go_wp2_with (first
  |(refine lw (((((Below.refl W.heap.size W).alloc (Nat.le_refl _) (.cells #[] 3)).block _ (AW HC.o)).trans HC.o)) underlying28 ?_)
  |(go_at_call 40;refine(IY (.node a l) _ _ _ _ [] (LR.lies_below bA _ HL.o) (DT _ _ _ _) HZ.o HE.o).mono ?_;rintro e w1 ⟨v,q,m,c,rfl,rfl,hr,hb⟩;have HR:=AA hr;have HB:=AA (HB.o.trans ((bA.trans (hb.mono (by simp))).mono HB.o.size));clear hr hb))
 go_ret;exact⟨q,m,c,rfl,HR.o,HB.o⟩
structure BW where
 name:ByteArray
 ty:PT
 fn:Option AH
def BW.fh(b:BW):AH:=b.fn.getD (V8 0 0 0 none 0 0)
def BW.er(b:BW):Fp:=⟨b.name,b.ty.er,b.fn.map AH.plain⟩
def Dz(b:BW):List Value:=[.string b.name,.int .u8 b.ty.head.kind,.int .i64 b.ty.head.rho,.slice b.ty.head.ep b.ty.head.en b.ty.head.ec,.slice b.ty.head.kp b.ty.head.kn b.ty.head.kc,.bool b.fn.isSome,.int .u8 b.fh.kind,.int .u8 b.fh.op,.int .i64 b.fh.at_,.int .i64 b.fh.n,.string b.fh.name,.string b.fh.arg,.string b.fh.exn,.int .i64 b.fh.rho,.slice b.fh.rp b.fh.rn b.fh.rc,.slice b.fh.ep b.fh.en b.fh.ec,.int .u8 b.fh.ty.head.kind,.int .i64 b.fh.ty.head.rho,.slice b.fh.ty.head.ep b.fh.ty.head.en b.fh.ty.head.ec,.slice b.fh.ty.head.kp b.fh.ty.head.kn b.fh.ty.head.kc,.int .u8 b.fh.res.head.kind,.int .i64 b.fh.res.head.rho,.slice b.fh.res.head.ep b.fh.res.head.en b.fh.res.head.ec,.slice b.fh.res.head.kp b.fh.res.head.kn b.fh.res.head.kc,.slice b.fh.kp b.fh.kn b.fh.kc]
theorem Cn(b:BW):(Dz b).length=25:=rfl
theorem Fm:∀b:BW,∀u∈Dz b,u.oneCell'=true:=by intro b u hu;simp [Dz] at hu;rcases hu with rfl|rfl|rfl|rfl|rfl|rfl|rfl|rfl|rfl|rfl|rfl|rfl|rfl|rfl|rfl|rfl|rfl|rfl|rfl|rfl|rfl|rfl|rfl|rfl|rfl<;>rfl
abbrev XO(b:BW):Value:=.agg #[.string b.name,.int .u8 b.ty.head.kind,.int .i64 b.ty.head.rho,.slice b.ty.head.ep b.ty.head.en b.ty.head.ec,.slice b.ty.head.kp b.ty.head.kn b.ty.head.kc,.bool b.fn.isSome,.int .u8 b.fh.kind,.int .u8 b.fh.op,.int .i64 b.fh.at_,.int .i64 b.fh.n,.string b.fh.name,.string b.fh.arg,.string b.fh.exn,.int .i64 b.fh.rho,.slice b.fh.rp b.fh.rn b.fh.rc,.slice b.fh.ep b.fh.en b.fh.ec,.int .u8 b.fh.ty.head.kind,.int .i64 b.fh.ty.head.rho,.slice b.fh.ty.head.ep b.fh.ty.head.en b.fh.ty.head.ec,.slice b.fh.ty.head.kp b.fh.ty.head.kn b.fh.ty.head.kc,.int .u8 b.fh.res.head.kind,.int .i64 b.fh.res.head.rho,.slice b.fh.res.head.ep b.fh.res.head.en b.fh.res.head.ec,.slice b.fh.res.head.kp b.fh.res.head.kn b.fh.res.head.kc,.slice b.fh.kp b.fh.kn b.fh.kc]
structure BW.Ok(w0 w:World)(S:Nat→Prop)(b:BW):Prop where
 ty:LR.lies w b.ty
 uses:∀x∈A7 b.ty,S x
 fn:∀a,b.fn=some a→AH.Own w0 a
theorem BW.Ok.below{w0 w w':World}{S:Nat→Prop}{b:BW}(h:b.Ok w0 w S)(hb:Below w.heap.size w w'):b.Ok w0 w' S:=⟨LR.lies_below hb _ h.ty,h.uses,h.fn⟩
theorem BW.Ok.weak{w0 w:World}{S S':Nat→Prop}{b:BW}(h:b.Ok w0 w S)(hs:∀x∈A7 b.ty,S' x):b.Ok w0 w S':=⟨h.ty,hs,h.fn⟩
structure I0(w0 w:World)(S:Nat→Prop)(p:Option Addr)(n c:Nat)(env:List BW):Prop where
 row:AE Dz 25 w p n c env
 each:∀b∈env,b.Ok w0 w S
theorem I0.below{w0 w w':World}{S:Nat→Prop}{p:Option Addr}{n c:Nat}{env:List BW}(h:I0 w0 w S p n c env)(hb:Below w.heap.size w w'):I0 w0 w' S p n c env:=⟨h.row.below hb,fun b cw=>(h.each b cw).below hb⟩
theorem I0.weak{w0 w:World}{S S':Nat→Prop}{p:Option Addr}{n c:Nat}{env:List BW}(h:I0 w0 w S p n c env)(hs:∀x,x<w.heap.size→S x→S' x):I0 w0 w S' p n c env:=⟨h.row,fun b hb=>(h.each b hb).weak (fun x hx=>hs x (AN _ (h.each b hb).ty x hx) ((h.each b hb).uses x hx))⟩
def Cv(env:List BW):List Fp:=env.map BW.er
def Bt(r:RV):List Value:=[.int .u8 r.ty.head.kind,.int .i64 r.ty.head.rho,.slice r.ty.head.ep r.ty.head.en r.ty.head.ec,.slice r.ty.head.kp r.ty.head.kn r.ty.head.kc,.slice r.ep r.en r.ec,.int .i64 0,.int .i64 0]
theorem Kl(r:RV):(Bt r).length=7:=rfl
theorem TO:∀r:RV,∀u∈Bt r,u.oneCell'=true:=by intro r u hu;simp [Bt] at hu;rcases hu with rfl|rfl|rfl|rfl|rfl|rfl<;>rfl
abbrev XN(r:RV):Value:=.agg #[.int .u8 r.ty.head.kind,.int .i64 r.ty.head.rho,.slice r.ty.head.ep r.ty.head.en r.ty.head.ec,.slice r.ty.head.kp r.ty.head.kn r.ty.head.kc,.slice r.ep r.en r.ec,.int .i64 0,.int .i64 0]
abbrev Wp(z no:Int):Value:=.agg #[.int .u8 0,.int .i64 0,.slice none 0 0,.slice none 0 0,.slice none 0 0,.int .i64 z,.int .i64 no]
structure Sz(w:World)(S:Nat→Prop)(p:Option Addr)(n c:Nat)(l:List RV):Prop where
 row:AE Bt 7 w p n c l
 each:∀r∈l,r.Ok w S
theorem Sz.below{w w':World}{S:Nat→Prop}{p:Option Addr}{n c:Nat}{l:List RV}(h:Sz w S p n c l)(hb:Below w.heap.size w w'):Sz w' S p n c l:=⟨h.row.below hb,fun r hr=>(h.each r hr).below hb⟩
def GJ(W:World)(S:Nat→Prop)(r:E7)(e:Ending)(w':World):Prop:=
 (match r with
  |.ok x=>∃y:RV,e=.returned (XN y)∧y.er=x∧y.Ok w' S
  |.error (a,n)=>e=.returned (Wp a n))∧Below W.heap.size W w'
theorem Kn:(prog.info? 208).map (fun i=>(i.zero,i.size,i.bytes))=some (some (.agg #[.string .empty,.int .u8 0,.int .i64 0,.slice none 0 0,.slice none 0 0,.bool false,.int .u8 0,.int .u8 0,.int .i64 0,.int .i64 0,.string .empty,.string .empty,.string .empty,.int .i64 0,.slice none 0 0,.slice none 0 0,.int .u8 0,.int .i64 0,.slice none 0 0,.slice none 0 0,.int .u8 0,.int .i64 0,.slice none 0 0,.slice none 0 0,.slice none 0 0]),25,368):=by kernel_rfl
theorem Ws:(prog.info? 69).map (fun i=>(i.zero,i.size,i.bytes))=some (some (.agg #[.int .u8 0,.int .i64 0,.slice none 0 0,.slice none 0 0,.slice none 0 0,.int .i64 0,.int .i64 0]),7,104):=by kernel_rfl
theorem D5(r:Int)(w:World):Calls prog 160 #[.int .i64 r] w (RB w (MJ (Bm r))):=by go_enter func160,ntmps160;go_wp2_with fail;refine br (heap_alloc_new w _) underlying59 ?_;exact⟨rfl,(Below.refl w.heap.size w).alloc (Nat.le_refl _) _⟩
theorem CL(r:Int)(w:World):Calls prog 161 #[.int .i64 r] w (RB w (MJ (A3 r))):=by go_enter func161,ntmps161;go_wp2_with fail;refine br (heap_alloc_new w _) underlying59 ?_;exact⟨rfl,(Below.refl w.heap.size w).alloc (Nat.le_refl _) _⟩
theorem DU(w:World):Calls prog 163 #[] w (RB w (.agg #[.int .u8 1,.int .i64 0,.slice none 0 0,.slice none 0 0])):=by go_enter func163,ntmps163;go_wp2_with fail;refine br (heap_alloc_new w _) underlying28 ?_;exact⟨rfl,(Below.refl w.heap.size w).alloc (Nat.le_refl _) _⟩
theorem Dp(k rho:Int)(p:Option Addr)(n c:Nat)(kp:Option Addr)(kn kc:Nat)(w:World):Calls prog 159 #[.int .u8 k,.int .i64 rho,.slice p n c,.slice kp kn kc] w (RB w (.agg #[.int .u8 k,.int .i64 rho,.slice p n c,.slice kp kn kc])):=by go_enter func159,ntmps159;go_wp2_with fail;refine br (heap_alloc_new w _) underlying28 ?_;exact⟨rfl,(Below.refl w.heap.size w).alloc (Nat.le_refl _) _⟩
theorem Af{w:World}(a:AH)(no:Int):Calls prog 84 #[Aj a,.int .i64 no] w (RB w (Wp a.at_ no)):=by have HB:=AA (((Below.refl w.heap.size w).alloc (Nat.le_refl _) (AO a)).alloc (by simp) (.cells #[.int .u8 0,.int .i64 0,.slice none 0 0,.slice none 0 0,.slice none 0 0,.int .i64 a.at_,.int .i64 no] 69));have c2:=((Aa w a).below ((Below.refl _ _).alloc (Nat.le_refl _) (.cells #[.int .u8 0,.int .i64 0,.slice none 0 0,.slice none 0 0,.slice none 0 0,.int .i64 0,.int .i64 0] 69))).c 2 _ rfl;go_enter func84,ntmps84;go_wp2_with (refine sn #[.int .u8 0,.int .i64 0,.slice none 0 0,.slice none 0 0,.slice none 0 0,.int .i64 a.at_,.int .i64 no] ?_);refine bodyPost_ret (results_cell_row rfl _ _ _ _ _ _ _ rfl (Ap _ _ _ _ (by simp)) underlying69 rfl (by kernel_rfl)) rfl ?_;exact⟨rfl,HB.o⟩
theorem Ah{p:Option Addr}{n c:Nat}{l:List Int}{q:Option Addr}{m mc:Nat}{rhos:List Int}{w:World}{r:Bool}(hq:At rhos l=r)(hr:AE Ab 1 w p n c l)(aT:AE Ab 1 w q m mc rhos):Calls prog 153 #[.slice p n c,.slice q m mc] w fun e w'=>e=.returned (.bool r)∧w=w':=by
 have bu:=hr.max;have HR:=AA hr;have HQ:=AA aT;have HS:=AA hq;clear hr aT hq;go_enter func153,ntmps153;go_wp2_with fail;go_loop [5,8] (fun _ i=>∃k:Nat,k≤n∧i=.int .i64 k∧(l.take k).all (Du rhos)=true) (fun _ i=>n-(intOf i).toNat)
 case atStart=>exact⟨0,by omega,rfl,by simp⟩
 case round=>
  obtain⟨k,hk,rfl,bR⟩:=hrel;have HA:=AA bR;clear bR;by_cases aF:k<n
  ·obtain⟨x,hx⟩:=AM (l:=l) (j:=k) (by rw [HR.o.len];exact aF);obtain⟨b,o,rfl,d0⟩:=HR.o.row.num hx;have HX:=AA hx;clear hx;cases hi:Du rhos x
   ·have HI:=AA hi;clear hi;go_wp2_with fail;refine(Cs HI.o HQ.o).mono ?_;rintro e w1 ⟨rfl,rfl⟩;go_wp2_with fail;go_ret;refine⟨AB ?_,rfl⟩;rw [←HS.o];unfold At;rw [eq_comm,List.all_eq_false];exact⟨x,List.mem_of_getElem? HX.o,by rw [HI.o];simp⟩
   ·have HI:=AA hi;clear hi;go_wp2_with fail;refine(Cs HI.o HQ.o).mono ?_;rintro e w1 ⟨rfl,rfl⟩;go_wp2_with fail;go_round
    case rel=>exact⟨k+1,by omega,by go_num,by rw [AI HX.o,List.all_append,HA.o];simp [HI.o]⟩
    case measure=>simp [intOf];omega
  ·have ao:k=n:=by omega
   subst ao;go_wp2_with fail;go_ret;refine⟨AB ?_,rfl⟩;rw [←HS.o];have h:=HA.o;rw [AP (by rw [HR.o.len];omega)] at h;exact h.symm
theorem Mc{env:List BW}{x:ByteArray}(h:∀b∈env,b.name≠x):Df (Cv env) x=none:=by unfold Df;rw [List.find?_eq_none];intro b hb;rw [List.mem_reverse] at hb;obtain⟨c,hc,rfl⟩:=List.mem_map.1 hb;exact fun hq=>h c hc (of_decide_eq_true hq)
theorem Uk{env:List BW}{x:ByteArray}{j:Nat}{b:BW}(hj:env[j]?=some b)(hb:b.name=x)(h:∀b'∈env.drop (j+1),b'.name≠x):Df (Cv env) x=some b.er:=by
 have aF:=Bh hj;have he:env=env.take j++b::env.drop (j+1):=by rw [List.getElem?_eq_getElem aF] at hj;rw [←Option.some.inj hj,←List.drop_eq_getElem_cons aF,List.take_append_drop]
 have h1:Df (Cv (env.drop (j+1))) x=none:=Mc h;unfold Df at h1 ⊢
 have e2:(Cv env).reverse=(Cv (env.drop (j+1))).reverse++(b.er::(Cv (env.take j)).reverse):=by
  conv=>lhs;rw [he]
  unfold Cv;rw [List.map_append,List.map_cons,List.reverse_append,List.reverse_cons,List.append_assoc];rfl
 rw [e2,List.find?_append,h1,Option.none_or,List.find?_cons];have e3:decide (b.er.name=x)=true:=decide_eq_true (show b.er.name=x from hb);rw [e3]
def UG(env:List BW)(x:ByteArray)(e:Ending):Prop:=(e=.returned (.int .i64 (-1))∧Df (Cv env) x=none)∨∃(j:Nat) (b:BW),e=.returned (.int .i64 j)∧env[j]?=some b∧Df (Cv env) x=some b.er
theorem Ib{p:Option Addr}{n c:Nat}{env:List BW}{x:ByteArray}{w:World}(hr:AE Dz 25 w p n c env)(hn:n≤1000000):Calls prog 156 #[.slice p n c,.string x] w fun e w'=>UG env x e∧w=w':=by
 have pY:IntKind.i64.wrap ((n:Int)-1)=(n:Int)-1:=IntWalk.i64_in _ (by omega);have HR:=AA hr;clear hr;go_enter func156,ntmps156;go_wp2_with fail;go_loop [5] (fun i=>∃k:Nat,k≤n∧i=.int .i64 ((k:Int)-1)∧∀b∈env.drop k,b.name≠x) (fun i=>(intOf i+1).toNat)
 case atStart=>exact⟨n,Nat.le_refl _,rfl,fun b hb=>by rw [List.drop_of_length_le (by rw [HR.o.len];exact Nat.le_refl _)] at hb;cases hb⟩
 case round=>
  obtain⟨k,hk,rfl,bR⟩:=hrel;have HA:=AA bR;clear bR pY;cases k with
  |zero=>
   have ez:((0:Nat):Int)-1=-1:=rfl;rw [ez];go_wp2_with fail;go_ret;exact⟨.inl ⟨rfl,Mc (by simpa using HA.o)⟩,rfl⟩
  |succ j=>
   have ej:((j+1:Nat):Int)-1=(j:Int):=by omega
   rw [ej];clear ej;have pZ:IntKind.i64.wrap ((j:Int)-1)=(j:Int)-1:=IntWalk.i64_in _ (by omega);obtain⟨b,hb⟩:=AM (l:=env) (j:=j) (by rw [HR.o.len];omega);obtain⟨g,o,rfl,aF,am⟩:=HR.o.row.elem hb;have d0:w.cell? ⟨g,o+j * 25,none⟩=some (.string b.name):=by simpa using am 0 _ rfl
   have HX:=AA hb;have ex:j<n:=by omega
   clear hb am aF;by_cases hq:b.name=x
   ·have hb:(b.name.toList==x.toList)=true:=by rw [Dm];simpa using hq
    go_wp2_with fail;go_ret;exact⟨.inr ⟨j,b,rfl,HX.o,Uk HX.o hq HA.o⟩,rfl⟩
   ·have hb:(b.name.toList==x.toList)=false:=by rw [Dm];simpa using hq
    have HQ:=AA hq;clear hq;go_wp2_with fail;go_round
    case rel=>
     refine⟨j,by omega,rfl,fun b' aW=>?_⟩;rw [List.drop_eq_getElem_cons (Bh HX.o)] at aW;rcases List.mem_cons.1 aW with h|h
     ·have e:=HX.o;rw [List.getElem?_eq_getElem (Bh HX.o)] at e;rw [h,Option.some.inj e];exact HQ.o
     ·exact HA.o b' h
    case measure=>(simp [intOf];try omega)
theorem C8{p:Option Addr}{n c:Nat}{l:List Int}{q:Option Addr}{m mc:Nat}{l':List Int}{w:World}(hr:AE Ab 1 w p n c l)(aT:AE Ab 1 w q m mc l')(hn:n≤1000000)(hm:m≤1000000):Calls prog 154 #[.slice p n c,.slice q m mc] w fun e w'=>∃p' k c',e=.returned (.slice p' k c')∧k=n+m∧AE Ab 1 w' p' k c' (l++l')∧Below w.heap.size w w':=by
 have av:=AA ((Below.refl w.heap.size w).alloc (Nat.le_refl _) (.cells #[] 3));have gu:=AA (AJ.lit Ab w w.heap.size 3 1 (Nat.le_refl _));have bN:=AA (hr.below av.o);have HQ:=AA aT;have nn:=hr.len;have np:=aT.len;clear hr aT;go_enter func154,ntmps154
 go_wp2_with (first
  |(at_builtin;refine Am rfl _ _ 24 rfl w.heap.size 3 _ 1 8 underlying24 F9 rfl (by decide) Ab Ag Co l' ([]++l) (0+n) _ fQ.o _ m _ rfl rfl np fg.o.nil fg.o.row (by omega) (by omega) fm.o.size ?_;intro v8 w8 cq df i8;have rj:=AA cq;have dB:=AA (Below.own fm.o df fm.o.size fQ.o);clear cq df i8)
  |(at_builtin;refine Am rfl _ _ 24 rfl w.heap.size 3 _ 1 8 underlying24 F9 rfl (by decide) Ab Ag Co l [] 0 _ gu.o _ n _ rfl rfl nn bN.o.nil bN.o.row (by omega) (by omega) av.o.size ?_;intro v6 w6 aM bV cJ;have fQ:=AA aM;have fm:=AA (Below.own av.o bV av.o.size gu.o);have fg:=AA (HQ.o.below fm.o);clear aM bV cJ))
 obtain⟨q9,c9,tL,j6⟩:=AJ.isRow Ag (by omega) rj.o;subst tL;have jO:=AA j6;clear j6;go_ret;exact⟨q9,_,c9,rfl,by omega,jO.o,dB.o⟩
theorem Tv{W:World}{g:Nat}{l:List Value}{t:TypeId}(h:W.heap[g]?=some (.cells l.toArray t (0,0))):W.rangeAt g 0 l:=G2 h l (fun i v hv=>by rw [List.getElem?_toArray];exact hv)
theorem C9{p:Option Addr}{n c:Nat}{env:List BW}{w:World}(hr:AE Dz 25 w p n c env)(b:BW)(hn:n≤1000000):Calls prog 162 #[.slice p n c,XO b] w fun e w'=>∃p' k c',e=.returned (.slice p' k c')∧k=n+1∧AE Dz 25 w' p' k c' (env++[b])∧Below w.heap.size w w':=by
 have cx:=AA ((Below.refl w.heap.size w).alloc (Nat.le_refl _) (.cells #[.string b.name,.int .u8 b.ty.head.kind,.int .i64 b.ty.head.rho,.slice b.ty.head.ep b.ty.head.en b.ty.head.ec,.slice b.ty.head.kp b.ty.head.kn b.ty.head.kc,.bool b.fn.isSome,.int .u8 b.fh.kind,.int .u8 b.fh.op,.int .i64 b.fh.at_,.int .i64 b.fh.n,.string b.fh.name,.string b.fh.arg,.string b.fh.exn,.int .i64 b.fh.rho,.slice b.fh.rp b.fh.rn b.fh.rc,.slice b.fh.ep b.fh.en b.fh.ec,.int .u8 b.fh.ty.head.kind,.int .i64 b.fh.ty.head.rho,.slice b.fh.ty.head.ep b.fh.ty.head.en b.fh.ty.head.ec,.slice b.fh.ty.head.kp b.fh.ty.head.kn b.fh.ty.head.kc,.int .u8 b.fh.res.head.kind,.int .i64 b.fh.res.head.rho,.slice b.fh.res.head.ep b.fh.res.head.en b.fh.res.head.ec,.slice b.fh.res.head.kp b.fh.res.head.kn b.fh.res.head.kc,.slice b.fh.kp b.fh.kn b.fh.kc] 208));have HX:Hd ((w.alloc (.cells #[.string b.name,.int .u8 b.ty.head.kind,.int .i64 b.ty.head.rho,.slice b.ty.head.ep b.ty.head.en b.ty.head.ec,.slice b.ty.head.kp b.ty.head.kn b.ty.head.kc,.bool b.fn.isSome,.int .u8 b.fh.kind,.int .u8 b.fh.op,.int .i64 b.fh.at_,.int .i64 b.fh.n,.string b.fh.name,.string b.fh.arg,.string b.fh.exn,.int .i64 b.fh.rho,.slice b.fh.rp b.fh.rn b.fh.rc,.slice b.fh.ep b.fh.en b.fh.ec,.int .u8 b.fh.ty.head.kind,.int .i64 b.fh.ty.head.rho,.slice b.fh.ty.head.ep b.fh.ty.head.en b.fh.ty.head.ec,.slice b.fh.ty.head.kp b.fh.ty.head.kn b.fh.ty.head.kc,.int .u8 b.fh.res.head.kind,.int .i64 b.fh.res.head.rho,.slice b.fh.res.head.ep b.fh.res.head.en b.fh.res.head.ec,.slice b.fh.res.head.kp b.fh.res.head.kn b.fh.res.head.kc,.slice b.fh.kp b.fh.kn b.fh.kc] 208)).heap[w.heap.size]?=some (.cells (Dz b).toArray 208 (0,0))):=Ap _ _ _ _ rfl;have HR:=AA (hr.below cx.o);clear hr;go_enter func162,ntmps162;go_upto_region 1 with fail;generalize w.alloc (.cells #[.string b.name,.int .u8 b.ty.head.kind,.int .i64 b.ty.head.rho,.slice b.ty.head.ep b.ty.head.en b.ty.head.ec,.slice b.ty.head.kp b.ty.head.kn b.ty.head.kc,.bool b.fn.isSome,.int .u8 b.fh.kind,.int .u8 b.fh.op,.int .i64 b.fh.at_,.int .i64 b.fh.n,.string b.fh.name,.string b.fh.arg,.string b.fh.exn,.int .i64 b.fh.rho,.slice b.fh.rp b.fh.rn b.fh.rc,.slice b.fh.ep b.fh.en b.fh.ec,.int .u8 b.fh.ty.head.kind,.int .i64 b.fh.ty.head.rho,.slice b.fh.ty.head.ep b.fh.ty.head.en b.fh.ty.head.ec,.slice b.fh.ty.head.kp b.fh.ty.head.kn b.fh.ty.head.kc,.int .u8 b.fh.res.head.kind,.int .i64 b.fh.res.head.rho,.slice b.fh.res.head.ep b.fh.res.head.en b.fh.res.head.ec,.slice b.fh.res.head.kp b.fh.res.head.kn b.fh.res.head.kc,.slice b.fh.kp b.fh.kn b.fh.kc] 208)=W1 at *
 refine rg (fun W'=>Below W1.heap.size W1 W') (AC W1) fun aA=>?_;refine tp 1 6 ?_;refine tm 3 8 [.string b.name,.int .u8 b.ty.head.kind,.int .i64 b.ty.head.rho,.slice b.ty.head.ep b.ty.head.en b.ty.head.ec,.slice b.ty.head.kp b.ty.head.kn b.ty.head.kc,.bool b.fn.isSome,.int .u8 b.fh.kind,.int .u8 b.fh.op,.int .i64 b.fh.at_,.int .i64 b.fh.n,.string b.fh.name,.string b.fh.arg,.string b.fh.exn,.int .i64 b.fh.rho,.slice b.fh.rp b.fh.rn b.fh.rc,.slice b.fh.ep b.fh.en b.fh.ec,.int .u8 b.fh.ty.head.kind,.int .i64 b.fh.ty.head.rho,.slice b.fh.ty.head.ep b.fh.ty.head.en b.fh.ty.head.ec,.slice b.fh.ty.head.kp b.fh.ty.head.kn b.fh.ty.head.kc,.int .u8 b.fh.res.head.kind,.int .i64 b.fh.res.head.rho,.slice b.fh.res.head.ep b.fh.res.head.en b.fh.res.head.ec,.slice b.fh.res.head.kp b.fh.res.head.kn b.fh.res.head.kc,.slice b.fh.kp b.fh.kn b.fh.kc] 208 w.heap.size 0 (fun W' aC=>Tv (l:=Dz b) ((aC.block _ (AW HX.o)).trans HX.o)) underlying208 ?_;refine wpAnyH_ready (rs:=[0,4]) (by kernel_rfl) (by simp) ?_;refine AllReadyH.cons (o:=⟨some 5,_,_,_,_,none⟩) rfl (fun K hK=>?_) (AllReadyH.cons (o:=⟨some 9,_,_,_,_,none⟩) rfl (fun K hK=>?_) AllReadyH.nil)
 ·skip;go_simp;have la:=AJ.lit Dz W1.drew W1.heap.size 208 25 (by simp);have fq:=AA la;clear la;refine tn hK (AQ aA _) ?_;clear aA hK K;intro aA;refine wpAnyH_ready (rs:=[2,4]) (by kernel_rfl) (by simp) ?_;refine AllReadyH.cons (o:=⟨some 7,_,_,_,_,none⟩) rfl (fun K hK=>?_) (AllReadyH.cons (o:=⟨some 9,_,_,_,_,none⟩) rfl (fun K hK=>?_) AllReadyH.nil)
  ·skip;have aU:=aA.size;refine BC (by rfl) _ _ 108 (by rfl) W1.heap.size 208 _ 25 368 underlying108 Kn rfl (by decide) Dz Cn Fm env [] 0 _ fq.o _ n _ (by rfl) (by rfl) HR.o.len HR.o.nil (HR.o.below aA).row (by omega) (by omega) aU ?_;intro v2 w2 cC a8 jq;have az:=AA cC;clear aU cC jq;refine tn hK (Below.own aA a8 aA.size fq.o) ?_;clear aA hK K;intro aA;refine tr 4 9 fun K hK=>?_;go_simp;have eX:=Al Cn (by omega) w2 208 [b] 1 #[.string b.name,.int .u8 b.ty.head.kind,.int .i64 b.ty.head.rho,.slice b.ty.head.ep b.ty.head.en b.ty.head.ec,.slice b.ty.head.kp b.ty.head.kn b.ty.head.kc,.bool b.fn.isSome,.int .u8 b.fh.kind,.int .u8 b.fh.op,.int .i64 b.fh.at_,.int .i64 b.fh.n,.string b.fh.name,.string b.fh.arg,.string b.fh.exn,.int .i64 b.fh.rho,.slice b.fh.rp b.fh.rn b.fh.rc,.slice b.fh.ep b.fh.en b.fh.ec,.int .u8 b.fh.ty.head.kind,.int .i64 b.fh.ty.head.rho,.slice b.fh.ty.head.ep b.fh.ty.head.en b.fh.ty.head.ec,.slice b.fh.ty.head.kp b.fh.ty.head.kn b.fh.ty.head.kc,.int .u8 b.fh.res.head.kind,.int .i64 b.fh.res.head.rho,.slice b.fh.res.head.ep b.fh.res.head.en b.fh.res.head.ec,.slice b.fh.res.head.kp b.fh.res.head.kn b.fh.res.head.kc,.slice b.fh.kp b.fh.kn b.fh.kc] rfl rfl (by decide);have dv:=AA eX;clear eX;have az:=AA (A5 az.o (.cells #[.string b.name,.int .u8 b.ty.head.kind,.int .i64 b.ty.head.rho,.slice b.ty.head.ep b.ty.head.en b.ty.head.ec,.slice b.ty.head.kp b.ty.head.kn b.ty.head.kc,.bool b.fn.isSome,.int .u8 b.fh.kind,.int .u8 b.fh.op,.int .i64 b.fh.at_,.int .i64 b.fh.n,.string b.fh.name,.string b.fh.arg,.string b.fh.exn,.int .i64 b.fh.rho,.slice b.fh.rp b.fh.rn b.fh.rc,.slice b.fh.ep b.fh.en b.fh.ec,.int .u8 b.fh.ty.head.kind,.int .i64 b.fh.ty.head.rho,.slice b.fh.ty.head.ep b.fh.ty.head.en b.fh.ty.head.ec,.slice b.fh.ty.head.kp b.fh.ty.head.kn b.fh.ty.head.kc,.int .u8 b.fh.res.head.kind,.int .i64 b.fh.res.head.rho,.slice b.fh.res.head.ep b.fh.res.head.en b.fh.res.head.ec,.slice b.fh.res.head.kp b.fh.res.head.kn b.fh.res.head.kc,.slice b.fh.kp b.fh.kn b.fh.kc] 208));refine tn hK (AQ aA _) ?_;clear aA hK K;intro aA;refine tr 5 10 fun K hK=>?_;have aU:=aA.size;refine BC (by rfl) _ _ 108 (by rfl) W1.heap.size 208 _ 25 368 underlying108 Kn rfl (by decide) Dz Cn Fm [b] ([]++env) (0+n) _ az.o _ 1 _ (by rfl) (by rfl) rfl (by intro h;cases h) dv.o.row (by omega) (by omega) aU ?_;intro v5 w5 aI jV mW;have jN:=AA aI;have aw:=AA (Below.own aA jV aA.size az.o);clear aU aI mW;refine tn hK (aw.o) ?_;clear aA hK K;intro aA;refine tp 6 4 ?_;refine dn ?_;clear aA;obtain⟨q6,c6,jc,gQ⟩:=AJ.isRow Cn (by omega) jN.o;subst jc;have fu:=AA gQ;clear gQ;go_wp2_with fail;go_ret;exact⟨q6,_,c6,rfl,by omega,fu.o,cx.o.trans (aw.o.mono cx.o.size)⟩
  ·skip;go_simp;have eX:=Al Cn (by omega) (W1.drew.alloc (.cells #[] 208)) 208 [b] 1 #[.string b.name,.int .u8 b.ty.head.kind,.int .i64 b.ty.head.rho,.slice b.ty.head.ep b.ty.head.en b.ty.head.ec,.slice b.ty.head.kp b.ty.head.kn b.ty.head.kc,.bool b.fn.isSome,.int .u8 b.fh.kind,.int .u8 b.fh.op,.int .i64 b.fh.at_,.int .i64 b.fh.n,.string b.fh.name,.string b.fh.arg,.string b.fh.exn,.int .i64 b.fh.rho,.slice b.fh.rp b.fh.rn b.fh.rc,.slice b.fh.ep b.fh.en b.fh.ec,.int .u8 b.fh.ty.head.kind,.int .i64 b.fh.ty.head.rho,.slice b.fh.ty.head.ep b.fh.ty.head.en b.fh.ty.head.ec,.slice b.fh.ty.head.kp b.fh.ty.head.kn b.fh.ty.head.kc,.int .u8 b.fh.res.head.kind,.int .i64 b.fh.res.head.rho,.slice b.fh.res.head.ep b.fh.res.head.en b.fh.res.head.ec,.slice b.fh.res.head.kp b.fh.res.head.kn b.fh.res.head.kc,.slice b.fh.kp b.fh.kn b.fh.kc] rfl rfl (by decide);rw [World.size_alloc] at eX;have dv:=AA eX;clear eX;have fq:=AA (A5 fq.o (.cells #[.string b.name,.int .u8 b.ty.head.kind,.int .i64 b.ty.head.rho,.slice b.ty.head.ep b.ty.head.en b.ty.head.ec,.slice b.ty.head.kp b.ty.head.kn b.ty.head.kc,.bool b.fn.isSome,.int .u8 b.fh.kind,.int .u8 b.fh.op,.int .i64 b.fh.at_,.int .i64 b.fh.n,.string b.fh.name,.string b.fh.arg,.string b.fh.exn,.int .i64 b.fh.rho,.slice b.fh.rp b.fh.rn b.fh.rc,.slice b.fh.ep b.fh.en b.fh.ec,.int .u8 b.fh.ty.head.kind,.int .i64 b.fh.ty.head.rho,.slice b.fh.ty.head.ep b.fh.ty.head.en b.fh.ty.head.ec,.slice b.fh.ty.head.kp b.fh.ty.head.kn b.fh.ty.head.kc,.int .u8 b.fh.res.head.kind,.int .i64 b.fh.res.head.rho,.slice b.fh.res.head.ep b.fh.res.head.en b.fh.res.head.ec,.slice b.fh.res.head.kp b.fh.res.head.kn b.fh.res.head.kc,.slice b.fh.kp b.fh.kn b.fh.kc] 208));refine tn hK (AQ aA _) ?_;clear aA hK K;intro aA;refine tr 2 7 fun K hK=>?_;have aU:=aA.size;refine BC (by rfl) _ _ 108 (by rfl) W1.heap.size 208 _ 25 368 underlying108 Kn rfl (by decide) Dz Cn Fm env [] 0 _ fq.o _ n _ (by rfl) (by rfl) HR.o.len HR.o.nil (HR.o.below aA).row (by omega) (by omega) aU ?_;intro v2 w2 cC a8 jq;have az:=AA cC;have dv:=AA (BY a8 (fun _ ad hp e=>by cases hp;have e':=Option.some.inj e;simp at e') dv.o);clear aU cC jq;refine tn hK (Below.own aA a8 aA.size fq.o) ?_;clear aA hK K;intro aA;refine tr 5 10 fun K hK=>?_;have aU:=aA.size;refine BC (by rfl) _ _ 108 (by rfl) W1.heap.size 208 _ 25 368 underlying108 Kn rfl (by decide) Dz Cn Fm [b] ([]++env) (0+n) _ az.o _ 1 _ (by rfl) (by rfl) rfl (by intro h;cases h) dv.o.row (by omega) (by omega) aU ?_;intro v5 w5 aI jV mW;have jN:=AA aI;have aw:=AA (Below.own aA jV aA.size az.o);clear aU aI mW;refine tn hK (aw.o) ?_;clear aA hK K;intro aA;refine tp 6 4 ?_;refine dn ?_;clear aA;obtain⟨q6,c6,jc,gQ⟩:=AJ.isRow Cn (by omega) jN.o;subst jc;have fu:=AA gQ;clear gQ;go_wp2_with fail;go_ret;exact⟨q6,_,c6,rfl,by omega,fu.o,cx.o.trans (aw.o.mono cx.o.size)⟩
 ·skip;go_simp;have eX:=Al Cn (by omega) W1.drew 208 [b] 1 #[.string b.name,.int .u8 b.ty.head.kind,.int .i64 b.ty.head.rho,.slice b.ty.head.ep b.ty.head.en b.ty.head.ec,.slice b.ty.head.kp b.ty.head.kn b.ty.head.kc,.bool b.fn.isSome,.int .u8 b.fh.kind,.int .u8 b.fh.op,.int .i64 b.fh.at_,.int .i64 b.fh.n,.string b.fh.name,.string b.fh.arg,.string b.fh.exn,.int .i64 b.fh.rho,.slice b.fh.rp b.fh.rn b.fh.rc,.slice b.fh.ep b.fh.en b.fh.ec,.int .u8 b.fh.ty.head.kind,.int .i64 b.fh.ty.head.rho,.slice b.fh.ty.head.ep b.fh.ty.head.en b.fh.ty.head.ec,.slice b.fh.ty.head.kp b.fh.ty.head.kn b.fh.ty.head.kc,.int .u8 b.fh.res.head.kind,.int .i64 b.fh.res.head.rho,.slice b.fh.res.head.ep b.fh.res.head.en b.fh.res.head.ec,.slice b.fh.res.head.kp b.fh.res.head.kn b.fh.res.head.kc,.slice b.fh.kp b.fh.kn b.fh.kc] rfl rfl (by decide);have dv:=AA eX;clear eX;refine tn hK (AQ aA _) ?_;clear aA hK K;intro aA;refine tr 0 5 fun K hK=>?_;go_simp;have la:=AJ.lit Dz (W1.drew.alloc (.cells #[.string b.name,.int .u8 b.ty.head.kind,.int .i64 b.ty.head.rho,.slice b.ty.head.ep b.ty.head.en b.ty.head.ec,.slice b.ty.head.kp b.ty.head.kn b.ty.head.kc,.bool b.fn.isSome,.int .u8 b.fh.kind,.int .u8 b.fh.op,.int .i64 b.fh.at_,.int .i64 b.fh.n,.string b.fh.name,.string b.fh.arg,.string b.fh.exn,.int .i64 b.fh.rho,.slice b.fh.rp b.fh.rn b.fh.rc,.slice b.fh.ep b.fh.en b.fh.ec,.int .u8 b.fh.ty.head.kind,.int .i64 b.fh.ty.head.rho,.slice b.fh.ty.head.ep b.fh.ty.head.en b.fh.ty.head.ec,.slice b.fh.ty.head.kp b.fh.ty.head.kn b.fh.ty.head.kc,.int .u8 b.fh.res.head.kind,.int .i64 b.fh.res.head.rho,.slice b.fh.res.head.ep b.fh.res.head.en b.fh.res.head.ec,.slice b.fh.res.head.kp b.fh.res.head.kn b.fh.res.head.kc,.slice b.fh.kp b.fh.kn b.fh.kc] 208)) W1.heap.size 208 25 (by simp);rw [World.size_alloc] at la;have fq:=AA la;clear la;have dv:=AA (dv.o.alloc (.cells #[] 208));refine tn hK (AQ aA _) ?_;clear aA hK K;intro aA;refine tr 2 7 fun K hK=>?_;have aU:=aA.size;refine BC (by rfl) _ _ 108 (by rfl) W1.heap.size 208 _ 25 368 underlying108 Kn rfl (by decide) Dz Cn Fm env [] 0 _ fq.o _ n _ (by rfl) (by rfl) HR.o.len HR.o.nil (HR.o.below aA).row (by omega) (by omega) aU ?_;intro v2 w2 cC a8 jq;have az:=AA cC;have dv:=AA (BY a8 (fun _ ad hp e=>by cases hp;have e':=Option.some.inj e;simp at e') dv.o);clear aU cC jq;refine tn hK (Below.own aA a8 aA.size fq.o) ?_;clear aA hK K;intro aA;refine tr 5 10 fun K hK=>?_;have aU:=aA.size;refine BC (by rfl) _ _ 108 (by rfl) W1.heap.size 208 _ 25 368 underlying108 Kn rfl (by decide) Dz Cn Fm [b] ([]++env) (0+n) _ az.o _ 1 _ (by rfl) (by rfl) rfl (by intro h;cases h) dv.o.row (by omega) (by omega) aU ?_;intro v5 w5 aI jV mW;have jN:=AA aI;have aw:=AA (Below.own aA jV aA.size az.o);clear aU aI mW;refine tn hK (aw.o) ?_;clear aA hK K;intro aA;refine tp 6 4 ?_;refine dn ?_;clear aA;obtain⟨q6,c6,jc,gQ⟩:=AJ.isRow Cn (by omega) jN.o;subst jc;have fu:=AA gQ;clear gQ;go_wp2_with fail;go_ret;exact⟨q6,_,c6,rfl,by omega,fu.o,cx.o.trans (aw.o.mono cx.o.size)⟩
end Go.Proofs.YtkdjnegfnhldpaaGreatDoor
