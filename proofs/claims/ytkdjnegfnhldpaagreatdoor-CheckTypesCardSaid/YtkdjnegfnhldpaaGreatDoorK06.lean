/- Part 06. -/
import Derived.Deep.CutRange
import Derived.Test.YtkdjnegfnhldpaaGreatDoorK05
set_option linter.unusedVariables false
set_option maxRecDepth 100000
set_option linter.unusedSimpArgs false
set_option maxHeartbeats 40000000
set_option autoImplicit true
set_option relaxedAutoImplicit true
namespace Go.Proofs.YtkdjnegfnhldpaaGreatDoor
open Go.Proofs.Tryz Go.RowKit
section
open Go.Sort Go.Lib
theorem PM(p:Option Addr)(n cap:Nat)(l:List BB)(p1:Option Addr)(n1 c1:Nat)(f:List Int)(p2:Option Addr)(n2 c2:Nat)(t:List Int)(w:World)(hn:l.length=n)(hm:n<=1000000)(hr:Ia w p l)(fC:f.length=n1)(kW:n1<=1000000)(iN:DK DE 1 w p1 f)(j5:t.length=n2)(lO:n2<=1000000)(dx:DK DE 1 w p2 t):Calls prog 66 #[.slice p n cap,.slice p1 n1 c1,.slice p2 n2 c2] w fun e w'=>∃v m,e=.returned v/\m<=n/\A1 Ce 3 w' w.heap.size 59 v m (RY f t l)/\Below w.heap.size w w':=by
 have HR:=AF hr;have HN:=AF hn;have kJ:=AF iN;have dE:=AF fC;have bQ:=AF dx;have gU:=AF j5;clear hr hn iN fC dx j5;go_enter func66,ntmps66;go_wp2_with fail;refine(FB p n cap l _ HN.o hm HR.o).mono ?_;rintro e w1 ⟨v,m,rfl,ic,aD,hb⟩;obtain⟨q,mc,rfl,oa,pS,aC,_⟩:=aD.row BF (by omega);have a6:=AF aC;have iV:=AF oa;have aH:=AF hb;generalize hS:IA (l.filter DF)=S at a6 iV;have HS:=AF hS;clear aD hb aC oa hS;go_wp2_with fail;go_loopw [7,10,14] (fun u _ i wr=>∃k:Nat,k<=m/\i=.int .i64 k/\A1 Ce 3 wr w1.heap.size 59 u k ((S.take k).map (MV f t))/\Below w1.heap.size w1 wr) (fun _ _ i _=>m-(intOf i).toNat)
 case atStart=>exact⟨0,by omega,rfl,A1.nil _ _ _ _ _,AA _ _⟩
 case round=>
  obtain⟨k,hk,rfl,aD,hb⟩:=hrel;have aZ:=AF aD;have HB:=AF hb;clear aD hb;by_cases aG:k<m
  ·obtain⟨x,hx⟩:=Bh (l:=S) (j:=k) (by rw [iV.o];exact aG);have HE:=AF hx;obtain⟨b,o,rfl,bB,d0,d1,d2⟩:=Ia.atom (a6.o.below HB.o) hx;clear hx bB;obtain⟨kd,rr,ss⟩:=x;simp only at d0 d1 d2;have HW:=AF (aH.o.trans (HB.o.mono aH.o.size));by_cases jb:kd=3
   ·subst jb;have af:=AF (aZ.o.below ((AA _ wr).alloc (AB _) (.cells #[.int .u8 3,.int .i64 rr,.string ss] 59)));have aF:Hd (Below w1.heap.size w1 (wr.alloc (.cells #[.int .u8 3,.int .i64 rr,.string ss] 59))):=HB.o.alloc HB.o.size _;go_wp2_with fail;refine(Gu rr p1 n1 c1 f _ _ rfl dE.o (by omega) ((kJ.o.below HW.o).alloc _)).mono ?_;rintro e w2 ⟨rfl,rfl⟩;generalize Lib.idxOf f rr=c;go_wp2_with (at_builtin;refine Dx rfl _ _ 25 rfl w1.heap.size 59 _ 3 32 underlying25 Lu rfl (by decide) Ce BF Gp (⟨3,rr,ss⟩:BB) _ _ _ af.o rfl (by refine EL (b:=Value.slice (some ⟨wr.heap.size+1,0,none⟩) 1 1) rfl ?_;simp) ?c1 ?c2 ?c3 ?_)
    case c1=>omega
    case c2=>omega
    case c3=>exact aF.o.size
    ·intro v' w4 aP hg;have HO:=AF aP;have bJ:=AF (Below.own aF.o hg aF.o.size af.o);clear aP hg;go_wp2_with fail;go_roundw
     case rel=>exact⟨k+1,by omega,by go_num,by
      have e1:(S.take (k+1)).map (MV f t)=(S.take k).map (MV f t)++[(⟨3,rr,ss⟩:BB)]:=by rw [BG HE.o,Ah];simp only [AV,Am];rw [Km (.inl rfl)]
      rw [e1,CT];exact HO.o,bJ.o⟩
     case measure=>simp [intOf];omega
   ·have ko:=AF jb;have bH:decide (kd=3)=false:=by simp [jb]
    rcases Ni rr f t with⟨hi,ht⟩|⟨j,hj,hi,ht⟩
    ·have HI:=AF hi;have HT:=AF ht;clear hi ht;have af:=AF (aZ.o.below ((AA _ wr).alloc (AB _) (.cells #[.int .u8 kd,.int .i64 rr,.string ss] 59)));have aF:Hd (Below w1.heap.size w1 (wr.alloc (.cells #[.int .u8 kd,.int .i64 rr,.string ss] 59))):=HB.o.alloc HB.o.size _;go_wp2_with fail;refine(Gu rr p1 n1 c1 f _ (-1) HI.o dE.o (by omega) ((kJ.o.below HW.o).alloc _)).mono ?_;rintro e w2 ⟨rfl,rfl⟩;go_wp2_with (at_builtin;refine Dx rfl _ _ 25 rfl w1.heap.size 59 _ 3 32 underlying25 Lu rfl (by decide) Ce BF Gp (⟨kd,rr,ss⟩:BB) _ _ _ af.o rfl (by refine EL (b:=Value.slice (some ⟨wr.heap.size+1,0,none⟩) 1 1) rfl ?_;simp) ?c1 ?c2 ?c3 ?_)
     case c1=>omega
     case c2=>omega
     case c3=>exact aF.o.size
     ·intro v' w4 aP hg;have HO:=AF aP;have bJ:=AF (Below.own aF.o hg aF.o.size af.o);clear aP hg;go_wp2_with fail;go_roundw
      case rel=>exact⟨k+1,by omega,by go_num,by
       have e1:(S.take (k+1)).map (MV f t)=(S.take k).map (MV f t)++[(⟨kd,rr,ss⟩:BB)]:=by rw [BG HE.o,Ah];simp only [AV,Am];rw [Km (.inr HT.o)]
       rw [e1,CT];exact HO.o,bJ.o⟩
      case measure=>simp [intOf];omega
    ·have HI:=AF hi;have HT:=AF ht;clear hi ht;have uf:j<n1:=by have:=dE.o;omega
     by_cases pG:j<n2
     ·obtain⟨z,hz⟩:=Bh (l:=t) (j:=j) (by rw [gU.o];exact pG);have oP:Hd (GJ rr f t=z):=by show GJ rr f t=z;rw [HT.o,hz];rfl
      obtain⟨b',o',rfl,e0⟩:=(((bQ.o.below HW.o).alloc (.cells #[.int .u8 kd,.int .i64 rr,.string ss] 59))).num hz;clear hz;have af:=AF (aZ.o.below ((AA _ wr).alloc (AB _) (.cells #[.int .u8 kd,.int .i64 z,.string ss] 59)));have aF:Hd (Below w1.heap.size w1 (wr.alloc (.cells #[.int .u8 kd,.int .i64 z,.string ss] 59))):=HB.o.alloc HB.o.size _;go_wp2_with fail;refine(Gu rr p1 n1 c1 f _ (j:Int) HI.o dE.o (by omega) ((kJ.o.below HW.o).alloc _)).mono ?_;rintro e w2 ⟨rfl,rfl⟩;go_wp2_with (at_builtin;refine Dx rfl _ _ 25 rfl w1.heap.size 59 _ 3 32 underlying25 Lu rfl (by decide) Ce BF Gp (⟨kd,z,ss⟩:BB) _ _ _ af.o rfl (by refine EL (b:=Value.slice (some ⟨wr.heap.size+1,0,none⟩) 1 1) rfl ?_;simp) ?c1 ?c2 ?c3 ?_)
      case c1=>omega
      case c2=>omega
      case c3=>exact aF.o.size
      ·intro v' w4 aP hg;have HO:=AF aP;have bJ:=AF (Below.own aF.o hg aF.o.size af.o);clear aP hg;go_wp2_with fail;go_roundw
       case rel=>exact⟨k+1,by omega,by go_num,by
        have e1:(S.take (k+1)).map (MV f t)=(S.take k).map (MV f t)++[(⟨kd,z,ss⟩:BB)]:=by rw [BG HE.o,Ah];simp only [AV,Am];rw [ZBY ko.o oP.o]
        rw [e1,CT];exact HO.o,bJ.o⟩
       case measure=>simp [intOf];omega
     ·have HZ:Hd (GJ rr f t=rr):=by show GJ rr f t=rr;rw [HT.o,Bm (by rw [gU.o];omega)];rfl
      have af:=AF (aZ.o.below ((AA _ wr).alloc (AB _) (.cells #[.int .u8 kd,.int .i64 rr,.string ss] 59)));have aF:Hd (Below w1.heap.size w1 (wr.alloc (.cells #[.int .u8 kd,.int .i64 rr,.string ss] 59))):=HB.o.alloc HB.o.size _;go_wp2_with fail;refine(Gu rr p1 n1 c1 f _ (j:Int) HI.o dE.o (by omega) ((kJ.o.below HW.o).alloc _)).mono ?_;rintro e w2 ⟨rfl,rfl⟩;go_wp2_with (at_builtin;refine Dx rfl _ _ 25 rfl w1.heap.size 59 _ 3 32 underlying25 Lu rfl (by decide) Ce BF Gp (⟨kd,rr,ss⟩:BB) _ _ _ af.o rfl (by refine EL (b:=Value.slice (some ⟨wr.heap.size+1,0,none⟩) 1 1) rfl ?_;simp) ?c1 ?c2 ?c3 ?_)
      case c1=>omega
      case c2=>omega
      case c3=>exact aF.o.size
      ·intro v' w4 aP hg;have HO:=AF aP;have bJ:=AF (Below.own aF.o hg aF.o.size af.o);clear aP hg;go_wp2_with fail;go_roundw
       case rel=>exact⟨k+1,by omega,by go_num,by
        have e1:(S.take (k+1)).map (MV f t)=(S.take k).map (MV f t)++[(⟨kd,rr,ss⟩:BB)]:=by rw [BG HE.o,Ah];simp only [AV,Am];rw [Km (.inr HZ.o)]
        rw [e1,CT];exact HO.o,bJ.o⟩
       case measure=>simp [intOf];omega
  ·obtain rfl:k=m:=by omega
   have aD:=aZ.o;have HE:Hd (IA ((S.map (MV f t)).filter DF)=RY f t l):=by show _=RY f t l;unfold RY;rw [HS.o]
   rw [Bb (by rw [iV.o];exact AB _)] at aD;obtain⟨q',c',rfl,bE,ga,bW,_⟩:=aD.row BF (by omega);have rJ:=AF bE;have gW:=AF bW;clear aD bE bW;go_wp2_with fail;refine(FB q' k c' (S.map (MV f t)) wr rJ.out (by omega) gW.out).mono ?_;rintro e w3 ⟨v,m',rfl,lO,aD,hb⟩;rw [HE.o] at aD;have HO:=AF (aD.lower (aH.o.trans (HB.o.mono aH.o.size)).size);have aL:=AF ((aH.o.trans (HB.o.mono aH.o.size)).trans (hb.mono (aH.o.trans (HB.o.mono aH.o.size)).size));clear aD hb;go_wp2_with fail;go_ret;exact⟨_,_,rfl,by omega,HO.o,aL.o⟩
def UD(f t:List Int)(a:LH):LH:=if a.kind=1 then a else⟨a.kind,GJ a.rho f t,RY f t a.eff⟩
def Fi(f t:List Int):RT->RT:=Ad.map (UD f t)
theorem ZBZ(f t:List Int)(a:RH)(l:List PT):Fi f t (PT.er (.node a l))=.node (UD f t a.plain) (l.map (fun x=>Fi f t (PT.er x))):=by rw [PT.er_node];unfold Fi;rw [Ad.map_node,CS];rfl
theorem Vg(r:Int)(f t:List Int):GJ r f t=r\/GJ r f t∈t:=by
 rcases Ni r f t with⟨_,h⟩|⟨k,_,_,h⟩
 ·exact .inl h
 ·cases hk:t[k]? with
  |none=>left;rw [h,hk];rfl
  |some z=>right;rw [h,hk];exact AE hk
def okI(z:Int):Prop:=-9223372036854775808<=z/\z<=9223372036854775807
theorem Vh(hr:okI r)(ht:∀z∈t,okI z):okI (GJ r f t):=by
 rcases Vg r f t with h|h
 ·rw [h];exact hr
 ·exact ht _ h
theorem ZDO(hl:∀x∈l,LT x)(ht:∀z∈t,okI z):∀x∈RY f t l,LT x:=by
 intro x hx;unfold RY at hx;rw [Ha,Bg,BI] at hx;obtain⟨⟨y,hy,rfl⟩,_⟩:=hx;rw [Ha,Bg] at hy;have h:=hl y hy.1;unfold MV;split
 ·exact h
 ·have:=Vh (f:=f) ⟨h.r0,h.r1⟩ ht;exact⟨h.k0,h.k1,this.1,this.2,h.s1⟩
theorem ZDN(hr:okI a.rho)(ha:∀x∈a.eff,LT x)(ht:∀z∈t,okI z):okI (UD f t a).rho/\∀x∈(UD f t a).eff,LT x:=by
 unfold UD;split
 ·exact⟨hr,ha⟩
 ·exact⟨Vh hr ht,ZDO ha ht⟩
def He(N B E:Nat)(t:PT):Prop:=∀a∈t.nodes,(∀ad,a.kp=some ad->B<=ad.block/\ad.block<E)/\(a.eff≠[]->∀ad,a.ep=some ad->(ad.block<N\/B<=ad.block)/\ad.block<E)
theorem He.mono(h:He N B E t)(hB:B'<=B)(hE:E<=E'):He N B' E' t:=fun a ha=>⟨fun ad hp=>by have:=(h a ha).1 ad hp;omega,fun he ad hp=>by have:=(h a ha).2 he ad hp;omega⟩
theorem He.node(ha:∀ad,a.kp=some ad->B<=ad.block/\ad.block<E)(he:a.eff≠[]->∀ad,a.ep=some ad->(ad.block<N\/B<=ad.block)/\ad.block<E)(hl:∀t∈l,He N B E t):He N B E (.node a l):=by
 intro x hx;rw [Ad.nodes_node,AS] at hx;rcases hx with rfl|hx
 ·exact⟨ha,he⟩
 ·rw [BS] at hx;obtain⟨m,hm,hx⟩:=hx;obtain⟨t,ht,rfl⟩:=BI.1 hm;exact hl t ht x hx
def YA(r:Option Nat)(t:PT):Prop:=∀a∈t.nodes,(∀ad,a.kp=some ad->r≠some ad.block)/\(a.eff≠[]->∀ad,a.ep=some ad->r≠some ad.block)
theorem Ca(hg:w.grownBy w' r)(aM:l≠[]->∀ad,p=some ad->r≠some ad.block)(h:Ax enc k w p n c l):Ax enc k w' p n c l:=by
 refine⟨h.len,h.max,h.le,h.nil,?_⟩;by_cases hl:l=[]
 ·exact .inl hl
 ·exact Gw hg (aM hl) h.row
theorem Ly(hg:w.grownBy w' r)(t:PT):YA r t->LR.lies w t->LR.lies w' t:=by refine Ad.ind (P:=fun(t:PT)=>YA r t->LR.lies w t->LR.lies w' t) (fun a l ih ho h=>?_) t;have hn:=Fs h;have h0:=ho a (by rw [Ad.nodes_node];simp);refine Dz.lies ⟨⟨Ca hg h0.2 hn.own.eff,hn.own.ok,hn.own.k0,hn.own.k1,hn.own.r0,hn.own.r1,hn.own.kmax,hn.own.kle,hn.own.knil⟩,Ca hg (fun _=>h0.1) hn.kids,fun t ht=>ih t ht (fun x hx=>ho x ?_) (hn.each t ht)⟩;rw [Ad.nodes_node,AS,BS];exact .inr ⟨t.nodes,Au ht,hx⟩
theorem He.off(h:He N B E t)(hr:N<=r/\r<B\/E<=r)(xq:N<=E):YA (some r) t:=fun a ha=>⟨fun ad hp e=>by have:=(h a ha).1 ad hp;injection e with e;omega,fun he ad hp e=>by have:=(h a ha).2 he ad hp;injection e with e;omega⟩
def Xb(N:Nat)(f t:List Int)(x:PT)(W:World)(e:Ending)(w':World):Prop:=(∃y:PT,e=.returned (IJ y.head)/\LR.lies w' y/\He N W.heap.size w'.heap.size y/\PT.er y=Fi f t (PT.er x))/\Below W.heap.size W w'
structure Two(w:World)(p1:Option Addr)(n1 c1:Nat)(f:List Int)(p2:Option Addr)(n2 c2:Nat)(t:List Int):Prop where
 rf:Ax DE 1 w p1 n1 c1 f
 rt:Ax DE 1 w p2 n2 c2 t
 m1:n1<=1000000
 m2:n2<=1000000
 ok:∀z∈t,okI z
theorem Two.below(h:Two w p1 n1 c1 f p2 n2 c2 t)(hb:Below w.heap.size w w'):Two w' p1 n1 c1 f p2 n2 c2 t:=⟨h.rf.below hb,h.rt.below hb,h.m1,h.m2,h.ok⟩
theorem ZDY:(prog.info? 28).map (fun i=>(i.zero,i.size,i.bytes))=some (some (.agg #[.int .u8 0,.int .i64 0,.slice none 0 0,.slice none 0 0]),4,64):=by kernel_rfl
theorem ZDT:∀t:PT,∀u∈LR.encT t,u.oneCell'=true:=by intro t u hu;have:u∈QT t.head:=hu;simp [QT] at this;rcases this with rfl|rfl|rfl|rfl<;>rfl
structure IZ(w:World)(g:Nat)(x y z u:Value):Prop where
 blk:w.heap[g]?=some (.cells #[x,y,z,u] 28 (0,0))
theorem IZ.cells(h:IZ w g x y z u):w.cell? ⟨g,0,none⟩=some x/\w.cell? ⟨g,1,none⟩=some y/\w.cell? ⟨g,2,none⟩=some z/\w.cell? ⟨g,3,none⟩=some u/\w.frozen? ⟨g,0,none⟩=false/\w.frozen? ⟨g,1,none⟩=false/\w.frozen? ⟨g,2,none⟩=false/\w.frozen? ⟨g,3,none⟩=false:=by have hb:=h.blk;refine⟨?_,?_,?_,?_,?_,?_,?_,?_⟩<;>simp [World.cell?,World.frozen?,hb]
theorem IZ.lt(h:IZ w g x y z u):g<w.heap.size:=(AO.1 h.blk).1
theorem IZ.grown(h:IZ w g x y z u)(hg:w.grownBy w' r)(hr:r≠some g):IZ w' g x y z u:=⟨by rw [hg.block g h.lt hr.symm];exact h.blk⟩
theorem IZ.below(h:IZ w g x y z u)(hb:Below w.heap.size w w'):IZ w' g x y z u:=⟨by rw [hb.block g h.lt];exact h.blk⟩
theorem QD(w:World)(x y z u:Value):IZ (w.alloc (.cells #[x,y,z,u] 28)) w.heap.size x y z u:=⟨AG w _⟩
theorem Zw(h:IZ w g x y z u)(x' y' z' u':Value):IZ ((((w.setCell ⟨g,0,none⟩ x').setCell ⟨g,1,none⟩ y').setCell ⟨g,2,none⟩ z').setCell ⟨g,3,none⟩ u') g x' y' z' u'/\w.grownBy ((((w.setCell ⟨g,0,none⟩ x').setCell ⟨g,1,none⟩ y').setCell ⟨g,2,none⟩ z').setCell ⟨g,3,none⟩ u') (some g):=by have h1:=Aw (o:=3) u' (Aw (o:=2) z' (Aw (o:=1) y' (Aw (o:=0) x' h.blk)));refine⟨⟨by simpa using h1⟩,?_⟩;exact Hj (Hj (Hj (Ar w g 0 x') (Ar _ g 1 y') (fun b _ h=>h)) (Ar _ g 2 z') (fun b _ h=>h)) (Ar _ g 3 u') (fun b _ h=>h)
theorem Zv(h:IZ w g x y z u)(v:Value):IZ (w.setCell ⟨g,1,none⟩ v) g x v z u:=⟨by simpa using Aw (o:=1) v h.blk⟩
theorem Zx(h:IZ w g x y z u)(v:Value):IZ (w.setCell ⟨g,2,none⟩ v) g x y v u:=⟨by simpa using Aw (o:=2) v h.blk⟩
theorem QE(h:IZ w g x y z u)(v:Value):IZ (w.setCell ⟨g,3,none⟩ v) g x y z v:=⟨by simpa using Aw (o:=3) v h.blk⟩
structure SwR(N B:Nat)(w wx:World)(a:RH)(f t:List Int)(z:Int)(ep:Option Addr)(en ec:Nat)(eff:List BB):Prop where
 b0:IZ wx B (.int .u8 a.kind) (.int .i64 a.rho) (.slice a.ep a.en a.ec) (.slice a.kp a.kn a.kc)
 b1:IZ wx (B+1) (.int .u8 0) (.int .i64 0) (.slice none 0 0) (.slice none 0 0)
 size:B+3<=wx.heap.size
 below:Below B w wx
 row:Ax Ce 3 wx ep en ec eff
 span:eff≠[]->∀ad,ep=some ad->(ad.block<N\/B+3<=ad.block)/\ad.block<wx.heap.size
 is:(⟨a.kind,z,eff⟩:LH)=UD f t a.plain
theorem SwR.grown(h:SwR N B w wx a f t z ep en ec eff)(hg:wx.grownBy w' r)(hr:∀b,r=some b->B+1+1<=b)(sL:eff≠[]->∀ad,ep=some ad->r≠some ad.block):SwR N B w w' a f t z ep en ec eff:=⟨h.b0.grown hg (fun e=>by have:=hr _ e;omega),h.b1.grown hg (fun e=>by have:=hr _ e;omega),AM h.size hg.size,h.below.grown hg (by have:=h.size;omega) (fun j hj=>by have:=hr _ hj;omega),Ca hg sL h.row,fun he ad hp=>by have:=h.span he ad hp;have:=hg.size;omega,h.is⟩
theorem SwR.drop(h:SwR N B w wx a f t z ep en ec eff)(hb:Below wx.heap.size wx w'):SwR N B w w' a f t z ep en ec eff:=⟨h.b0.below hb,h.b1.below hb,AM h.size hb.size,h.below.trans (hb.mono (by have:=h.size;omega)),h.row.below hb,fun he ad hp=>by have:=h.span he ad hp;have:=hb.size;omega,h.is⟩
structure SwI(N B:Nat)(w wx:World)(a:RH)(f t:List Int)(z:Int)(ep:Option Addr)(en ec:Nat)(eff:List BB)(v:Value)(k:Nat)(ys:List PT):Prop where
 own:A1 LR.encT 4 wx (B+3) 28 v k ys
 r:SwR N B w wx a f t z ep en ec eff
 b2:IZ wx (B+1+1) (.int .u8 a.kind) (.int .i64 z) (.slice ep en ec) v
 eoff:eff≠[]->∀ad,ep=some ad->v.ownBlock≠some ad.block
 ys:∀y∈ys,LR.lies wx y/\YA v.ownBlock y/\He N (B+3) wx.heap.size y
section
variable {N B:Nat} {w wx w' w3:World} {a:RH} {f t:List Int} {z:Int} {ep:Option Addr} {en ec:Nat} {eff:List BB} {v:Value} {k:Nat} {ys:List PT}
theorem SwI.drop(h:SwI N B w wx a f t z ep en ec eff v k ys)(hb:Below wx.heap.size wx w'):SwI N B w w' a f t z ep en ec eff v k ys:=⟨h.own.below hb,h.r.drop hb,h.b2.below hb,h.eoff,fun y hy=>⟨LR.lies_below hb y (h.ys y hy).1,(h.ys y hy).2.1,(h.ys y hy).2.2.mono (AB _) hb.size⟩⟩
theorem SwI.add(h:SwI N B w wx a f t z ep en ec eff v k ys)(hl:LR.lies wx y)(ho:YA v.ownBlock y)(hs:He N (B+3) wx.heap.size y)(aR:A1 LR.encT 4 w3 (B+3) 28 (.slice p3 (k+1) c3) (k+1) (ys++[y]))(bT:wx.grownBy w3 v.ownBlock)(jY:∀b,b<wx.heap.size->(Value.slice p3 (k+1) c3).ownBlock=some b->v.ownBlock=some b)(hN:N<=B):SwI N B w (w3.setCell ⟨B+1+1,3,none⟩ (.slice p3 (k+1) c3)) a f t z ep en ec eff (.slice p3 (k+1) c3) (k+1) (ys++[y]):=by
 have ag:w3.grownBy (w3.setCell ⟨B+1+1,3,none⟩ (.slice p3 (k+1) c3)) (some (B+1+1)):=Ar _ _ _ _;have eB:∀b,v.ownBlock=some b->B+3<=b:=fun b hb=>A1.from h.own b hb;have mp:∀b,(Value.slice p3 (k+1) c3).ownBlock=some b->B+3<=b:=fun b hb=>A1.from aR b hb
 have bh:∀y'∈ys++[y],LR.lies wx y'/\YA v.ownBlock y'/\He N (B+3) wx.heap.size y':=fun y' dp=>by
  rcases Ac.1 dp with dp|dp
  ·exact h.ys y' dp
  ·rw [AQ] at dp;subst dp;exact⟨hl,ho,hs⟩
 refine⟨aR.other ag (fun b hb e=>by have:=mp b hb;cases e;omega),(h.r.grown bT (fun b hb=>by have:=eB b hb;omega) h.eoff).grown ag (fun b hb=>by cases hb;omega) (fun he ad hp e=>?_),QE (h.b2.grown bT (fun e=>by have:=eB _ e;omega)) _,fun he ad hp e=>?_,fun y' dp=>?_⟩
 ·have:=h.r.span he ad hp;injection e with e;omega
 ·exact h.eoff he ad hp (jY _ (h.r.span he ad hp).2 e)
 ·obtain⟨h1,h2,h3⟩:=bh y' dp;have aI:=AM bT.size ag.size;have hB:=h.r.size;refine⟨Ly ag y' (He.off h3 (by omega) (by omega)) (Ly bT y' h2 h1),fun a' ha=>⟨fun ad hp e=>?_,fun he ad hp e=>?_⟩,h3.mono (AB _) aI⟩
  ·exact(h2 a' ha).1 ad hp (jY _ ((h3 a' ha).1 ad hp).2 e)
  ·exact(h2 a' ha).2 he ad hp (jY _ ((h3 a' ha).2 he ad hp).2 e)
theorem ZBa(hI:SwI N w.heap.size w wx a f t z ep en ec eff (.slice p k c) k ys)(hN:N<=w.heap.size)(hk:k=l.length)(ha:RH.Own w a)(ht:∀z∈t,okI z)(hm:k<=1000)(qS:ys.map PT.er=(l.take k).map (fun x=>Fi f t (PT.er x)))(hg:wx.grownBy W (some (w.heap.size+1))):Xb N f t (.node a l) w (.returned (IJ ⟨a.kind,z,ep,en,ec,eff,p,k,c⟩)) W:=by
 obtain⟨q,c',hq,aC⟩:=hI.own.isRow Oq (by omega);cases hq;have nh:∀ad,p=some ad->w.heap.size+3<=ad.block/\ad.block<wx.heap.size:=fun ad hp=>by subst hp;exact Aa hI.own ad.block rfl
 have hB:=hI.r.size;have nW:=hI.r.is;obtain⟨hz,aW⟩:=ZDN (f:=f) (a:=a.plain) ⟨ha.r0,ha.r1⟩ ha.ok ht;rw [<-nW] at hz aW;refine⟨⟨.node ⟨a.kind,z,ep,en,ec,eff,p,k,c⟩ ys,rfl,?_,He.node (fun ad hp=>by have:=nh ad hp;have:=hg.size;omega) (fun he ad hp=>by have:=hI.r.span he ad hp;have:=hg.size;omega) (fun y hy=>(hI.ys y hy).2.2.mono (by omega) hg.size),?_⟩,?_⟩
 ·refine Dz.lies ⟨⟨Ca hg (fun he ad hp e=>by have:=hI.r.span he ad hp;injection e with e;omega) hI.r.row,aW,ha.k0,ha.k1,hz.1,hz.2,by show k<=_;omega,aC.le,aC.nil⟩,Ca hg (fun _ ad hp e=>by have:=nh ad hp;injection e with e;omega) aC,fun y hy=>?_⟩;exact Ly hg y (He.off (hI.ys y hy).2.2 (by omega) (by omega)) (hI.ys y hy).1
 ·rw [PT.er_node,ZBZ,qS,Bb (by omega)];show Ad.node (⟨a.kind,z,eff⟩:LH) _=_;rw [nW]
 ·exact hI.r.below.grown hg (by omega) (fun j hj=>by injection hj with hj;omega)
end
abbrev OH(a:RH):Obj:=.cells #[.int .u8 a.kind,.int .i64 a.rho,.slice a.ep a.en a.ec,.slice a.kp a.kn a.kc] 28
abbrev WK:Obj:=.cells #[.int .u8 0,.int .i64 0,.slice none 0 0,.slice none 0 0] 28
abbrev QF(w:World)(a:RH):World:=((w.alloc (OH a)).alloc WK).alloc (OH a)
theorem TL(w:World)(a:RH):Below w.heap.size w (QF w a):=(((AA w.heap.size w).alloc (AB _) _).alloc (by simp) _).alloc (by simp;omega) _
theorem Z0(w:World)(a:RH):IZ (QF w a) w.heap.size (.int .u8 a.kind) (.int .i64 a.rho) (.slice a.ep a.en a.ec) (.slice a.kp a.kn a.kc):=by refine IZ.below (w:=w.alloc (OH a)) ?_ (bA.alloc (by simp) _);exact QD w _ _ _ _
theorem Z1(w:World)(a:RH):IZ (QF w a) (w.heap.size+1) (.int .u8 0) (.int .i64 0) (.slice none 0 0) (.slice none 0 0):=by refine IZ.below (w:=(w.alloc (OH a)).alloc WK) ?_ bA;have:=QD (w.alloc (OH a)) (.int .u8 0) (.int .i64 0) (.slice none 0 0) (.slice none 0 0);simpa using this
theorem Z2(w:World)(a:RH):IZ (QF w a) (w.heap.size+1+1) (.int .u8 a.kind) (.int .i64 a.rho) (.slice a.ep a.en a.ec) (.slice a.kp a.kn a.kc):=by have:=QD ((w.alloc (OH a)).alloc WK) (.int .u8 a.kind) (.int .i64 a.rho) (.slice a.ep a.en a.ec) (.slice a.kp a.kn a.kc);simpa using this
def Lf(N:Nat)(p1:Option Addr)(n1 c1:Nat)(f:List Int)(p2:Option Addr)(n2 c2:Nat)(t:List Int)(x:PT)(W:World):Prop:=Calls prog 39 #[IJ x.head,.slice p1 n1 c1,.slice p2 n2 c2] W (Xb N f t x W)
theorem Rz(hN:Dz w a l)(tz:N<=w.heap.size)(he:a.eff≠[]->∀ad,a.ep=some ad->ad.block<N)(ms:a.en<=1000)(h2:Two w p1 n1 c1 f p2 n2 c2 t)(hl:a.kn<=1000)(hf:∀x∈l,∀W,Below w.heap.size w W->Lf N p1 n1 c1 f p2 n2 c2 t x W):Lf N p1 n1 c1 f p2 n2 c2 t (.node a l) w:=by
 have HN:=AF hN;have HF:=AF hf;have H2:=AF h2;have HE:=AF he;have cL:=AF tz;have fL:=hN.own.kmax;have kW:=h2.m1;have lO:=h2.m2;have aH:=AF (TL w a);have mP:=AF (Z0 w a);have cQ:=AF (Z1 w a);have aQ:=AF (Z2 w a);show Calls _ _ #[IJ a,.slice p1 n1 c1,.slice p2 n2 c2] w _;clear hN hf h2 he tz;go_enter func39,ntmps39;go_upto_if 14 with fail;go_cut [] from 8 to 37 (fun wx=>∃(z:Int) (ep:Option Addr) (en ec:Nat) (eff:List BB),SwR N w.heap.size w wx a f t z ep en ec eff/\IZ wx (w.heap.size+1+1) (.int .u8 a.kind) (.int .i64 z) (.slice ep en ec) (.slice a.kp a.kn a.kc))
 case first=>
  by_cases dS:a.kind=1
  ·have cV:=AF dS;have b1:(a.kind != 1)=false:=by simpa using dS
   clear dS;go_wp2_with fail;go_meet
   case rel=>exact⟨a.rho,a.ep,a.en,a.ec,a.eff,⟨mP.o,cQ.o,by simp,aH.o,HN.o.own.eff.below aH.o,fun he ad hp=>⟨.inl (HE.o he ad hp),by have:=HE.o he ad hp;have:=cL.o;simp;omega⟩,by unfold UD;rw [AJ (show a.plain.kind=1 from cV.o)];rfl⟩,aQ.o⟩
  ·have cV:=AF dS;have b1:(a.kind != 1)=true:=by simpa using dS
   have jp:=AF (HN.o.own.eff.below aH.o);have px:=AF (H2.o.below aH.o);clear dS;go_wp2_with fail;refine(PM a.ep a.en a.ec a.eff p1 n1 c1 f p2 n2 c2 t (QF w a) jp.o.len (by omega) jp.o.row px.o.rf.len kW px.o.rf.row px.o.rt.len lO px.o.rt.row).mono ?_;rintro e w2 ⟨v,m,rfl,hm,aD,hb⟩;obtain⟨q,qc,rfl,aC⟩:=aD.isRow BF (by omega);have nO:Below w.heap.size w w2:=aH.o.trans (hb.mono aH.o.size);have bC:=AF (aQ.o.below hb);have gv:=bC.o.lt;have ag:=Ar w2 (w.heap.size+1+1) 2 (.slice q m qc);have nh:∀ad,q=some ad->w.heap.size+3<=ad.block/\ad.block<w2.heap.size:=fun ad hp=>by subst hp;have:=Aa aD ad.block rfl;simpa using this
   have fG:Hd (SwR N w.heap.size w (w2.setCell ⟨w.heap.size+1+1,2,none⟩ (.slice q m qc)) a f t (GJ a.rho f t) q m qc (RY f t a.eff)):=SwR.grown
    ⟨mP.o.below hb,cQ.o.below hb,by omega,nO,aC,fun _ ad hp=>by have:=nh ad hp;omega,by unfold UD;rw [AC (show ¬a.plain.kind=1 from cV.o)];rfl⟩ ag (fun b hb=>by cases hb;omega) (fun _ ad hp e=>by have:=nh ad hp;injection e with e;omega)
   have cy:=AF (Zx bC.o (.slice q m qc));obtain⟨x0,x1,x2,x3,x4,x5,x6,x7⟩:=bC.o.cells;obtain⟨y0,y1,y2,y3,y4,y5,y6,y7⟩:=(mP.o.below hb).cells;clear hb aD aC nO ag nh;go_wp2_with fail;clear x0 x1 x2 x3 x4 x5 x6 x7 y0 y1 y2 y3 y4 y5 y6 y7;generalize w2.setCell ⟨w.heap.size+1+1,2,none⟩ (.slice q m qc)=W3 at *
   have jn:=AF (H2.o.below fG.o.below);obtain⟨x0,x1,x2,x3,x4,x5,x6,x7⟩:=cy.o.cells;obtain⟨y0,y1,y2,y3,y4,y5,y6,y7⟩:=fG.o.b0.cells;have sW:=cy.o.lt;rcases Ni a.rho f t with⟨hi,ht⟩|⟨j,hj,hi,ht⟩
   ·have HI:=AF hi;have HT:=AF ht;clear hi ht;refine(Gu a.rho p1 n1 c1 f _ (-1) HI.o jn.o.rf.len (by omega) jn.o.rf.row).mono ?_;rintro e w3 ⟨rfl,rfl⟩;go_wp2_with fail;go_meet
    case rel=>exact⟨_,_,_,_,_,fG.o,by rw [HT.o];exact cy.o⟩
   ·have HI:=AF hi;have HT:=AF ht;clear hi ht;have uf:j<n1:=by have:=jn.o.rf.len;omega
    by_cases pG:j<n2
    ·obtain⟨z,hz⟩:=Bh (l:=t) (j:=j) (by rw [jn.o.rt.len];exact pG);have oP:Hd (GJ a.rho f t=z):=by show GJ a.rho f t=z;rw [HT.o,hz];rfl
     obtain⟨b',o',rfl,e0⟩:=jn.o.rt.row.num hz;clear hz;refine(Gu a.rho p1 n1 c1 f _ (j:Int) HI.o jn.o.rf.len (by omega) jn.o.rf.row).mono ?_;rintro e w3 ⟨rfl,rfl⟩;go_wp2_with fail;go_meet
     case rel=>exact⟨z,_,_,_,_,by have:=fG.o;rw [oP.o] at this;exact this.grown (Ar _ _ _ _) (fun b hb=>by cases hb;omega) (fun he ad hp e=>by have h:=fG.o.span he ad hp;have:=cL.o;injection e with e;omega),Zv cy.o _⟩
    ·have wS:Hd (GJ a.rho f t=a.rho):=by show GJ a.rho f t=a.rho;rw [HT.o,Bm (by rw [jn.o.rt.len];omega)];rfl
     refine(Gu a.rho p1 n1 c1 f _ (j:Int) HI.o jn.o.rf.len (by omega) jn.o.rf.row).mono ?_;rintro e w3 ⟨rfl,rfl⟩;go_wp2_with fail;go_meet
     case rel=>exact⟨_,_,_,_,_,fG.o,by rw [wS.o];exact cy.o⟩
 case rest=>
  obtain⟨z,ep,en,ec,eff,hr,aU⟩:=hcut;have HR:=AF hr;have aF:=AF aU;clear hr aU;obtain⟨x0,x1,x2,x3,x4,x5,x6,x7⟩:=aF.o.cells;obtain⟨y0,y1,y2,y3,y4,y5,y6,y7⟩:=HR.o.b0.cells;have gv:=aF.o.lt;go_wp2_with fail;have wO:Hd (SwI N w.heap.size w (wc.setCell ⟨w.heap.size+1+1,3,none⟩ (.slice none 0 0)) a f t z ep en ec eff (.slice none 0 0) 0 []):=⟨A1.nil _ _ _ _ _,HR.o.grown (Ar _ _ _ _) (fun b hb=>by cases hb;omega) (fun he ad hp e=>by have h:=HR.o.span he ad hp;have:=cL.o;injection e with e;omega),QE aF.o _,(fun _ _ _ e=>by cases e),(fun y hy=>by cases hy)⟩;clear x0 x1 x2 x3 x4 x5 x6 x7 y0 y1 y2 y3 y4 y5 y6 y7 gv;generalize wc.setCell ⟨w.heap.size+1+1,3,none⟩ (.slice none 0 0)=W1 at *
  go_loopw [10,42] (fun _ i wr=>∃(k:Nat) (v:Value) (ys:List PT),k<=a.kn/\i=.int .i64 k/\SwI N w.heap.size w wr a f t z ep en ec eff v k ys/\ys.map PT.er=(l.take k).map (fun x=>Fi f t (PT.er x))) (fun _ i _=>a.kn-(intOf i).toNat)
  case atStart=>exact⟨0,_,[],by omega,rfl,wO.o,by simp⟩
  case round=>
   obtain⟨k,v,ys,hk,rfl,vJ,qS⟩:=hrel;have fG:=AF vJ;have qF:=AF qS;clear vJ qS;have HB:=AF fG.o.r.below;by_cases aG:k<a.kn
   ·obtain⟨x,hx⟩:=HN.o.rowT.at (j:=k) aG;have vi:=AF hx;obtain⟨g,o,bV,bB,d0,d1,d2,d3⟩:=(HN.o.rowT.below HB.o).kid hx;have tq:Below wr.heap.size wr (wr.alloc (.cells #[.int .u8 x.head.kind,.int .i64 x.head.rho,.slice x.head.ep x.head.en x.head.ec,.slice x.head.kp x.head.kn x.head.kc] 28)):=(AA _ wr).alloc (AB _) _;have gY:=AF (fG.o.drop tq);have vm:Hd (∀W,Below (wr.heap.size+1) (wr.alloc (.cells #[.int .u8 x.head.kind,.int .i64 x.head.rho,.slice x.head.ep x.head.en x.head.ec,.slice x.head.kp x.head.kn x.head.kc] 28)) W->Lf N p1 n1 c1 f p2 n2 c2 t x W):=fun W h=>HF.o x (AE hx) W (gY.o.r.below.trans (h.mono (by have:=HB.o.size;omega)));have yG:(wr.alloc (.cells #[.int .u8 x.head.kind,.int .i64 x.head.rho,.slice x.head.ep x.head.en x.head.ec,.slice x.head.kp x.head.kn x.head.kc] 28)).heap.size=wr.heap.size+1:=by simp
    obtain⟨e0,e1,e2,e3⟩:=WG (w:=wr) (t:=x) (AA _ _);rw [bV];clear hx;go_wp2_with fail;clear d0 d1 d2 d3 bV tq;obtain⟨x0,x1,x2,x3,x4,x5,x6,x7⟩:=gY.o.b2.cells;generalize wr.alloc (.cells #[.int .u8 x.head.kind,.int .i64 x.head.rho,.slice x.head.ep x.head.en x.head.ec,.slice x.head.kp x.head.kn x.head.kc] 28)=W0 at *
    have rO:Hd (∀g,g<w.heap.size+3->v.ownBlock≠some g):=fun g hg h=>by have:=A1.from gY.o.own g h;omega
    go_region_law (first
     |(
      refine CB (by rfl) _ _ 26 (by rfl) (w.heap.size+3) 28 _ 4 64 underlying26 ZDY rfl (by decide) LR.encT Oq ZDT [y] ys k v (Cm bc.o.own _) _ 1 _ (by rfl) (by rfl) rfl (by intro h;cases h) oM.o.row (by omega) (by omega) (by simp;have:=bc.o.r.size;omega) ?_;intro v3 w3 aR bT jY;obtain⟨p3,c3,rfl,bw⟩:=A1.isRow Oq (by omega) aR;obtain⟨x0,x1,x2,x3,x4,x5,x6,x7⟩:=((bc.o.b2.below ((AA _ w2).alloc (AB _) _)).grown bT (rO.o _ (by omega))).cells)
     |(
      go_simp;go_at_call 39;refine(vm.o _ (by first|exact⟨rfl,rfl,rfl,AB _,fun _ _=>rfl⟩)).mono ?_;rintro e w2 ⟨⟨y,rfl,j3,m8,jX⟩,aU⟩;have og:Below W0.heap.size W0 w2:=An (At W0) aU;have bc:=AF (gY.o.drop og);have oM:=AF (Bo Oq (by omega) w2 28 [y] 1 #[.int .u8 y.head.kind,.int .i64 y.head.rho,.slice y.head.ep y.head.en y.head.ec,.slice y.head.kp y.head.kn y.head.kc] rfl rfl (by decide));have gv:w.heap.size+1+1<w2.heap.size:=bc.o.b2.lt;obtain⟨x0,x1,x2,x3,x4,x5,x6,x7⟩:=bc.o.b2.cells;go_wp2_with fail))
    all_goals (
     have hA:=(AA _ w2).alloc (AB _) (.cells #[.int .u8 y.head.kind,.int .i64 y.head.rho,.slice y.head.ep y.head.en y.head.ec,.slice y.head.kp y.head.kn y.head.kc] 28)
     have cx:=AF ((bc.o.drop hA).add (LR.lies_below hA y j3) (fun a ha=>⟨fun ad hp e=>by have h1:=((m8 a ha).1 ad hp).1;have h5:=A1.under fG.o.own _ e;simp at h1;omega,fun he ad hp e=>by
      have h1:=((m8 a ha).2 he ad hp).1;have h5:=A1.under fG.o.own _ e;have h6:=A1.from fG.o.own _ e;have:=cL.o;simp at h1;omega⟩) (m8.mono (by have:=fG.o.r.size;simp;omega) (by simp)) aR bT jY cL.o)
     have qx:Hd ((ys++[y]).map PT.er=(l.take (k+1)).map (fun x=>Fi f t (PT.er x))):=by show _=_;rw [BG vi.o,Ah,Ah,qF.o];simp [jX]
     clear hA aR bT jY aU og j3 m8 jX bw x0 x1 x2 x3 x4 x5 x6 x7)
    all_goals (
     go_wp2_with fail;go_roundw
     case rel=>exact⟨k+1,_,ys++[y],by omega,by go_num,cx.o,qx.o⟩
     case measure=>simp [intOf];omega)
   ·obtain⟨p',c',rfl,aC⟩:=fG.o.own.isRow Oq (by omega);have ai:k=a.kn:=by omega
    have HS:=AF (Zw fG.o.r.b1 (.int .u8 a.kind) (.int .i64 z) (.slice ep en ec) (.slice p' k c'));have qw:=AF (ZBa (l:=l) fG.o cL.o (by rw [ai];exact HN.o.kids.len.symm) HN.o.own H2.o.ok (by omega) qF.o HS.o.2);obtain⟨x0,x1,x2,x3,x4,x5,x6,x7⟩:=fG.o.b2.cells;obtain⟨y0,y1,y2,y3,y4,y5,y6,y7⟩:=fG.o.r.b1.cells;clear aC ai;go_wp2_with fail;(try simp only [Exit.inBlock,Exit.then]);refine br HS.o.1.blk underlying28 ?_;exact qw.o
theorem NM(h2:Two w0 p1 n1 c1 f p2 n2 c2 t)(x:PT):LR.lies w0 x->FG x.er=true->x.size<=1000->∀W,Below w0.heap.size w0 W->Lf w0.heap.size p1 n1 c1 f p2 n2 c2 t x W:=by
 refine Ad.ind (P:=fun(x:PT)=>LR.lies w0 x->FG x.er=true->x.size<=1000->∀W,Below w0.heap.size w0 W->Lf w0.heap.size p1 n1 c1 f p2 n2 c2 t x W) (fun a l ih=>?_) x;intro hl he hs W hW;have HN:=Fs hl;rw [PT.er_node,FI,AK,CD,Aj] at he;have aI:Gj l+1=(Ad.node a l).size:=NK (.node a l);have aJ:=I4 (show Fg a.eff=false by simpa [RH.plain] using he.1);refine Rz (HN.below hW) hW.size (fun aM ad hp=>?_) (by have:=HN.own.eff.len;omega) (h2.below hW) ?_ (fun x hx W' r6=>ih x hx (HN.each x hx) (he.2 x hx) ?_ W' (hW.trans (r6.mono hW.size)))
 ·rcases HN.own.eff.row with h|⟨b,o,ek,hb,_⟩
  ·exact absurd h aM
  ·rw [ek] at hp;cases hp;exact hb
 ·have h1:=ZB4 l;have h2:=HN.kids.len;omega
 ·have h2:x.size<=Gj l:=EG (Au hx);omega
end
def RX(z:Int):Prop:=-9223372036854775808<=z/\z<=9223372036854775807
structure MZ where
 kind:Int
 op:Int
 at_:Int
 n:Int
 name:ByteArray
 arg:ByteArray
 exn:ByteArray
 rho:Int
 rhos:List Int
 eff:List BB
 ty:RT
 res:RT
structure AH where
 kind:Int
 op:Int
 at_:Int
 n:Int
 name:ByteArray
 arg:ByteArray
 exn:ByteArray
 rho:Int
 rp:Option Addr
 rn:Nat
 rc:Nat
 rhos:List Int
 ep:Option Addr
 en:Nat
 ec:Nat
 eff:List BB
 ty:PT
 res:PT
 kp:Option Addr
 kn:Nat
 kc:Nat
abbrev PA:=Ad AH
abbrev AT:=Ad MZ
def AH.plain(a:AH):MZ:=⟨a.kind,a.op,a.at_,a.n,a.name,a.arg,a.exn,a.rho,a.rhos,a.eff,a.ty.er,a.res.er⟩
def PA.er(t:PA):AT:=Ad.map AH.plain t
theorem PA.er_node(a:AH)(l:List PA):PA.er (.node a l)=.node a.plain (l.map PA.er):=Ad.map_node _ a l
def FS(a:AH):List Value:=[.int .u8 a.kind,.int .u8 a.op,.int .i64 a.at_,.int .i64 a.n,.string a.name,.string a.arg,.string a.exn,.int .i64 a.rho,.slice a.rp a.rn a.rc,.slice a.ep a.en a.ec,
 .int .u8 a.ty.head.kind,.int .i64 a.ty.head.rho,.slice a.ty.head.ep a.ty.head.en a.ty.head.ec,.slice a.ty.head.kp a.ty.head.kn a.ty.head.kc,
 .int .u8 a.res.head.kind,.int .i64 a.res.head.rho,.slice a.res.head.ep a.res.head.en a.res.head.ec,.slice a.res.head.kp a.res.head.kn a.res.head.kc,.slice a.kp a.kn a.kc]
structure AH.Own(w:World)(a:AH):Prop where
 k0:0<=a.kind
 k1:a.kind<=255
 o0:0<=a.op
 o1:a.op<=255
 at_:RX a.at_
 n:RX a.n
 name:a.name.size<=9223372036854775807
 arg:a.arg.size<=9223372036854775807
 exn:a.exn.size<=9223372036854775807
 rho:RX a.rho
 rhos:Ax DE 1 w a.rp a.rn a.rc a.rhos
 rok:∀z∈a.rhos,RX z
 eff:Ax Ce 3 w a.ep a.en a.ec a.eff
 eok:∀x∈a.eff,LT x
 ty:LR.lies w a.ty
 res:LR.lies w a.res
 kmax:a.kn<=9223372036854775807
 kle:a.kn<=a.kc
 knil:a.kp=none->a.kc=0
def LA:LS AH where
 enc:=FS
 k:=19
 own:=AH.Own
 kp:=AH.kp
 kn:=AH.kn
 len:=fun _=>rfl
 below:=fun h hb=>⟨h.k0,h.k1,h.o0,h.o1,h.at_,h.n,h.name,h.arg,h.exn,h.rho,h.rhos.below hb,h.rok,h.eff.below hb,h.eok,LR.lies_below hb _ h.ty,LR.lies_below hb _ h.res,h.kmax,h.kle,h.knil⟩
theorem XX:∀t:PA,(LA.encT t).length=19:=fun _=>rfl
abbrev DP(a:AH):Value:=.agg #[.int .u8 a.kind,.int .u8 a.op,.int .i64 a.at_,.int .i64 a.n,.string a.name,.string a.arg,.string a.exn,.int .i64 a.rho,.slice a.rp a.rn a.rc,.slice a.ep a.en a.ec,
 .int .u8 a.ty.head.kind,.int .i64 a.ty.head.rho,.slice a.ty.head.ep a.ty.head.en a.ty.head.ec,.slice a.ty.head.kp a.ty.head.kn a.ty.head.kc,
 .int .u8 a.res.head.kind,.int .i64 a.res.head.rho,.slice a.res.head.ep a.res.head.en a.res.head.ec,.slice a.res.head.kp a.res.head.kn a.res.head.kc,.slice a.kp a.kn a.kc]
abbrev Bt(a:AH):Obj:=.cells #[.int .u8 a.kind,.int .u8 a.op,.int .i64 a.at_,.int .i64 a.n,.string a.name,.string a.arg,.string a.exn,.int .i64 a.rho,.slice a.rp a.rn a.rc,.slice a.ep a.en a.ec,
 .int .u8 a.ty.head.kind,.int .i64 a.ty.head.rho,.slice a.ty.head.ep a.ty.head.en a.ty.head.ec,.slice a.ty.head.kp a.ty.head.kn a.ty.head.kc,
 .int .u8 a.res.head.kind,.int .i64 a.res.head.rho,.slice a.res.head.ep a.res.head.en a.res.head.ec,.slice a.res.head.kp a.res.head.kn a.res.head.kc,.slice a.kp a.kn a.kc] 31
structure La(w:World)(b o:Nat)(a:AH):Prop where
 c:∀i u,(FS a)[i]?=some u->w.cell? ⟨b,o+i,none⟩=some u
theorem La.below(h:La w b o a)(hb:Below w.heap.size w w')(aG:b<w.heap.size):La w' b o a:=⟨fun i u hu=>by rw [hb.cell aG];exact h.c i u hu⟩
structure JZ(w:World)(a:AH)(l:List PA):Prop where
 own:AH.Own w a
 kids:Ax LA.encT 19 w a.kp a.kn a.kc l
 each:∀t∈l,LA.lies w t
theorem Gh(h:LA.lies w (.node a l)):JZ w a l:=by rw [LS.lies_node] at h;exact⟨h.1,⟨h.2.1,h.1.kmax,h.1.kle,h.1.knil,h.2.2.1⟩,h.2.2.2⟩
theorem JZ.lies(h:JZ w a l):LA.lies w (.node a l):=by rw [LS.lies_node];exact⟨h.own,h.kids.len,h.kids.row,h.each⟩
theorem JZ.below(h:JZ w a l)(hb:Below w.heap.size w w'):JZ w' a l:=Gh (LA.lies_below hb _ h.lies)
theorem JZ.alloc(h:JZ w a l)(o:Obj):JZ (w.alloc o) a l:=h.below bA
structure Hc(w:World)(p:Option Addr)(n cap:Nat)(l:List PA):Prop where
 row:Ax LA.encT 19 w p n cap l
 each:∀t∈l,LA.lies w t
theorem JZ.rowT(h:JZ w a l):Hc w a.kp a.kn a.kc l:=⟨h.kids,h.each⟩
theorem Hc.below(h:Hc w p n cap l)(hb:Below w.heap.size w w'):Hc w' p n cap l:=⟨h.row.below hb,fun t ht=>LA.lies_below hb t (h.each t ht)⟩
theorem Hc.kid(h:Hc w p n cap l)(hx:l[j]?=some t):∃b o,p=some ⟨b,o,none⟩/\b<w.heap.size/\La w b (o+j * 19) t.head:=by obtain⟨b,o,hp,hb,hc⟩:=h.row.row.elem hx;exact⟨b,o,hp,hb,⟨fun i u hu=>hc i u hu⟩⟩
theorem Hc.at(h:Hc w p n cap l)(hj:j<n):∃t,l[j]?=some t:=Bh (by rw [h.row.len];exact hj)
theorem Hc.lies{w:World}{p:Option Addr}{n cap:Nat}{l:List PA}(h:Hc w p n cap l){j:Nat}{t:PA}(hx:l[j]?=some t):LA.lies w t:=h.each t (AE hx)
section
variable {ops:Array Oper} {Q:Exit->Act->World->Prop} {md:Region.Mode} {S:World->Prop} {v:Value} {fuel:Nat} {listed:Array Bool} {a a':Act} {w:World} {o:Op} {x:TypeId} {z:String} {u:Array Edge}
theorem t4(i d:Nat)(y:PT)(b k:Nat)(hc:∀w,S w->w.rangeAt b k [.int .u8 y.head.kind,.int .i64 y.head.rho,.slice y.head.ep y.head.en y.head.ec,.slice y.head.kp y.head.kn y.head.kc])(hh:wpAnyH prog md ops Q S fuel (listed.setIfInBounds i true) a' w)(hi:ops[i]?=some ⟨some d,o,x,z,u,none⟩:=by exact rfl)(hw:Region.wanted ⟨some d,o,x,z,u,none⟩ (yielded ops a.tmps)=true:=by rfl){X:Operand}(ho:(⟨some d,o,x,z,u,none⟩:Oper).op=.load 28 X:=by exact rfl)(hx:a.eval X=.pointer (some ⟨b,k,none⟩):=by exact rfl)(he:a.put (some d) (.agg #[.int .u8 y.head.kind,.int .i64 y.head.rho,.slice y.head.ep y.head.en y.head.ec,.slice y.head.kp y.head.kn y.head.kc])=a':=by simp only [Act.put,zA,zB,zC];rfl)(hs:Region.noSelect ops=true:=by kernel_rfl)(hf:Region.free md ops listed i=true:=by kernel_rfl)(hr:(Region.ready md ops listed).contains i=true:=by kernel_rfl)(hQ:∀c b w,Q (.panic c) (b.put (some d) (.agg #[.int .u8 y.head.kind,.int .i64 y.head.rho,.slice y.head.ep y.head.en y.head.ec,.slice y.head.kp y.head.kn y.head.kc])) w->Q (.panic c) b w:=by exact fun _ _ _ h=>h)(hS:S w:=by assumption):wpAnyH prog md ops Q S (fuel+1) listed a w:=by subst he;exact Cn hi hs hf hr hQ (Ct hw 28 X ho b k hx [.int .u8 y.head.kind,.int .i64 y.head.rho,.slice y.head.ep y.head.en y.head.ec,.slice y.head.kp y.head.kn y.head.kc] _ hc underlying28 rfl (by kernel_rfl)) hS hh
theorem t4H(i d p:Nat)(t:Bool)(y:PT)(b k:Nat)(hc:∀w,S w->w.rangeAt b k [.int .u8 y.head.kind,.int .i64 y.head.rho,.slice y.head.ep y.head.en y.head.ec,.slice y.head.kp y.head.kn y.head.kc])(hh:wpAnyH prog md ops Q S fuel (listed.setIfInBounds i true) a' w)(hi:ops[i]?=some ⟨some d,o,x,z,u,some (p,t)⟩:=by exact rfl)(hw:Region.wanted ⟨some d,o,x,z,u,some (p,t)⟩ (yielded ops a.tmps)=true:=by rfl){X:Operand}(ho:(⟨some d,o,x,z,u,some (p,t)⟩:Oper).op=.load 28 X:=by exact rfl)(hx:a.eval X=.pointer (some ⟨b,k,none⟩):=by exact rfl)(he:a.put (some d) (.agg #[.int .u8 y.head.kind,.int .i64 y.head.rho,.slice y.head.ep y.head.en y.head.ec,.slice y.head.kp y.head.kn y.head.kc])=a':=by simp only [Act.put,zA,zB,zC];rfl)(hs:Region.noSelect ops=true:=by kernel_rfl)(hf:Region.free md ops listed i=true:=by kernel_rfl)(hr:(Region.ready md ops listed).contains i=true:=by kernel_rfl)(hQ:∀c b w,Q (.panic c) (b.put (some d) (.agg #[.int .u8 y.head.kind,.int .i64 y.head.rho,.slice y.head.ep y.head.en y.head.ec,.slice y.head.kp y.head.kn y.head.kc])) w->Q (.panic c) b w:=by exact fun _ _ _ h=>h)(hS:S w:=by assumption):wpAnyH prog md ops Q S (fuel+1) listed a w:=by subst he;exact Cn hi hs hf hr hQ (Ct hw 28 X ho b k hx [.int .u8 y.head.kind,.int .i64 y.head.rho,.slice y.head.ep y.head.en y.head.ec,.slice y.head.kp y.head.kn y.head.kc] _ hc underlying28 rfl (by kernel_rfl)) hS hh
theorem ta(i d:Nat)(h:AH)(b k:Nat)(hc:∀w,S w->w.rangeAt b k [.int .u8 h.kind,.int .u8 h.op,.int .i64 h.at_,.int .i64 h.n,.string h.name,.string h.arg,.string h.exn,.int .i64 h.rho,.slice h.rp h.rn h.rc,.slice h.ep h.en h.ec,.int .u8 h.ty.head.kind,.int .i64 h.ty.head.rho,.slice h.ty.head.ep h.ty.head.en h.ty.head.ec,.slice h.ty.head.kp h.ty.head.kn h.ty.head.kc,.int .u8 h.res.head.kind,.int .i64 h.res.head.rho,.slice h.res.head.ep h.res.head.en h.res.head.ec,.slice h.res.head.kp h.res.head.kn h.res.head.kc,.slice h.kp h.kn h.kc])(hh:wpAnyH prog md ops Q S fuel (listed.setIfInBounds i true) a' w)(hi:ops[i]?=some ⟨some d,o,x,z,u,none⟩:=by exact rfl)(hw:Region.wanted ⟨some d,o,x,z,u,none⟩ (yielded ops a.tmps)=true:=by rfl){X:Operand}(ho:(⟨some d,o,x,z,u,none⟩:Oper).op=.load 31 X:=by exact rfl)(hx:a.eval X=.pointer (some ⟨b,k,none⟩):=by exact rfl)(he:a.put (some d) (.agg #[.int .u8 h.kind,.int .u8 h.op,.int .i64 h.at_,.int .i64 h.n,.string h.name,.string h.arg,.string h.exn,.int .i64 h.rho,.slice h.rp h.rn h.rc,.slice h.ep h.en h.ec,.int .u8 h.ty.head.kind,.int .i64 h.ty.head.rho,.slice h.ty.head.ep h.ty.head.en h.ty.head.ec,.slice h.ty.head.kp h.ty.head.kn h.ty.head.kc,.int .u8 h.res.head.kind,.int .i64 h.res.head.rho,.slice h.res.head.ep h.res.head.en h.res.head.ec,.slice h.res.head.kp h.res.head.kn h.res.head.kc,.slice h.kp h.kn h.kc])=a':=by simp only [Act.put,zA,zB,zC];rfl)(hs:Region.noSelect ops=true:=by kernel_rfl)(hf:Region.free md ops listed i=true:=by kernel_rfl)(hr:(Region.ready md ops listed).contains i=true:=by kernel_rfl)(hQ:∀c b w,Q (.panic c) (b.put (some d) (.agg #[.int .u8 h.kind,.int .u8 h.op,.int .i64 h.at_,.int .i64 h.n,.string h.name,.string h.arg,.string h.exn,.int .i64 h.rho,.slice h.rp h.rn h.rc,.slice h.ep h.en h.ec,.int .u8 h.ty.head.kind,.int .i64 h.ty.head.rho,.slice h.ty.head.ep h.ty.head.en h.ty.head.ec,.slice h.ty.head.kp h.ty.head.kn h.ty.head.kc,.int .u8 h.res.head.kind,.int .i64 h.res.head.rho,.slice h.res.head.ep h.res.head.en h.res.head.ec,.slice h.res.head.kp h.res.head.kn h.res.head.kc,.slice h.kp h.kn h.kc])) w->Q (.panic c) b w:=by exact fun _ _ _ h=>h)(hS:S w:=by assumption):wpAnyH prog md ops Q S (fuel+1) listed a w:=by subst he;exact Cn hi hs hf hr hQ (Ct hw 31 X ho b k hx [.int .u8 h.kind,.int .u8 h.op,.int .i64 h.at_,.int .i64 h.n,.string h.name,.string h.arg,.string h.exn,.int .i64 h.rho,.slice h.rp h.rn h.rc,.slice h.ep h.en h.ec,.int .u8 h.ty.head.kind,.int .i64 h.ty.head.rho,.slice h.ty.head.ep h.ty.head.en h.ty.head.ec,.slice h.ty.head.kp h.ty.head.kn h.ty.head.kc,.int .u8 h.res.head.kind,.int .i64 h.res.head.rho,.slice h.res.head.ep h.res.head.en h.res.head.ec,.slice h.res.head.kp h.res.head.kn h.res.head.kc,.slice h.kp h.kn h.kc] _ hc underlying31 rfl (by kernel_rfl)) hS hh
end
section
variable {P:Program} {ops:Array Oper} {rest:List Oper} {o:Oper} {a:Act} {w W:World} {Q:Exit->Act->World->Prop} {g b k:Nat} {ty t:TypeId} {x y:Operand} {cs old:Array Value} {fr:Nat×Nat} {d:TypeDesc}
theorem l4(y:PT)(hc:w.rangeAt b k [.int .u8 y.head.kind,.int .i64 y.head.rho,.slice y.head.ep y.head.en y.head.ec,.slice y.head.kp y.head.kn y.head.kc])(hu:P.underlying ty=some d)(h:wpList P ops Q rest (a.put o.dst (.agg #[.int .u8 y.head.kind,.int .i64 y.head.rho,.slice y.head.ep y.head.en y.head.ec,.slice y.head.kp y.head.kn y.head.kc])) w)(bM:o.guard=none:=by rfl)(ho:o.op=.load ty x:=by exact rfl)(hx:a.eval x=.pointer (some ⟨b,k,none⟩):=by exact rfl)(hd:d.isRow=true:=by rfl)(hi:(P.info? ty).map (·.size)=some 4:=by kernel_rfl):wpList P ops Q (o::rest) a w:=lm _ hc hu h bM ho hx hd hi
theorem s4(v:PT)(hg:w.heap[g]?=some (.cells old t (0,0)))(h:wpList P ops Q rest (a.put o.dst undef) (w.setRow g #[.int .u8 v.head.kind,.int .i64 v.head.rho,.slice v.head.ep v.head.en v.head.ec,.slice v.head.kp v.head.kn v.head.kc]))(bM:o.guard=none:=by rfl)(ho:o.op=.store ty x y:=by exact rfl)(hx:a.eval x=.pointer (some ⟨g,0,none⟩):=by exact rfl)(hy:a.eval y=.agg #[.int .u8 v.head.kind,.int .i64 v.head.rho,.slice v.head.ep v.head.en v.head.ec,.slice v.head.kp v.head.kn v.head.kc]:=by exact rfl)(hi:(P.info? ty).map (·.size)=some 4:=by kernel_rfl)(hold:old.size=4:=by exact rfl):wpList P ops Q (o::rest) a w:=sw _ hg h bM ho hx hy hi hold (by simp [Value.oneCell'])
theorem n4(v:PT)(h:wpList P ops Q rest (a.put o.dst undef) (W.alloc (.cells #[.int .u8 v.head.kind,.int .i64 v.head.rho,.slice v.head.ep v.head.en v.head.ec,.slice v.head.kp v.head.kn v.head.kc] t)))(bM:o.guard=none:=by rfl)(ho:o.op=.store ty x y:=by exact rfl)(hx:a.eval x=.pointer (some ⟨g,0,none⟩):=by exact rfl)(hy:a.eval y=.agg #[.int .u8 v.head.kind,.int .i64 v.head.rho,.slice v.head.ep v.head.en v.head.ec,.slice v.head.kp v.head.kn v.head.kc]:=by exact rfl)(hg:W.heap.size=g:=by simp)(hi:(P.info? ty).map (·.size)=some 4:=by kernel_rfl)(hold:old.size=4:=by exact rfl):wpList P ops Q (o::rest) a (W.alloc (.cells old t)):=sn _ h bM ho hx hy hg hi hold (by simp [Value.oneCell'])
end
section
open Go.ChangeShapes Go.WideShapes Go.ChangeAt Go.RowKit Go.Deep
section
variable {H:Type} {enc:TypeId×Value->H} {W:World} {base:Nat} {t e:TypeId} {v:Value} {d:DataW H} {ps:List MemPlace}
theorem Xh(n:Nat):X6 enc W 28 n LR.encT (LR.lies W):=by
 induction n using Nat.strongRecOn with
 |_ n ih=>
 intro cs' x h aJ;have he:prog.underlying 28=some (.struct (prog.fieldsOf 28)):=by kernel_rfl
 have ce:prog.cellsOf 28=4:=by kernel_rfl
 have F0:((prog.fieldsOf 28)[0]?).map (fun f=>(f.type,f.offset))=some (5,0):=by kernel_rfl
 have F1:((prog.fieldsOf 28)[1]?).map (fun f=>(f.type,f.offset))=some (3,1):=by kernel_rfl
 have F2:((prog.fieldsOf 28)[2]?).map (fun f=>(f.type,f.offset))=some (25,2):=by kernel_rfl
 have F3:((prog.fieldsOf 28)[3]?).map (fun f=>(f.type,f.offset))=some (26,3):=by kernel_rfl
 have C0:prog.cellsOf 5=1:=by kernel_rfl
 have C1:prog.cellsOf 3=1:=by kernel_rfl
 have C2:prog.cellsOf 25=1:=by kernel_rfl
 have C3:prog.cellsOf 26=1:=by kernel_rfl
 have CA:prog.cellsOf 59=3:=by kernel_rfl
 rw [ce] at aJ;obtain⟨xs,k,hk,kg,_,tA,eI⟩:=EO he h;obtain⟨f0,e0,p0⟩:=Ao.1 F0;obtain⟨f1,e1,p1⟩:=Ao.1 F1;obtain⟨f2,e2,p2⟩:=Ao.1 F2;obtain⟨f3,e3,p3⟩:=Ao.1 F3;simp only [EE] at p0 p1 p2 p3;have g0:=eI 0 f0 e0;have g1:=eI 1 f1 e1;have g2:=eI 2 f2 e2;have g3:=eI 3 f3 e3;rw [p0.1,p0.2,C0] at g0;rw [p1.1,p1.2,C1] at g1;rw [p2.1,p2.2,C2] at g2;rw [p3.1,p3.2,C3] at g3;have b3:=(AO.1 e3).1;match cs',aJ with
 |[v0,v1,v2,v3],_=>
  rw [AI (show 0<xs.length by omega)] at g0;rw [AI (show 1<xs.length by omega)] at g1;rw [AI (show 2<xs.length by omega)] at g2;rw [AI (show 3<xs.length by omega)] at g3;obtain⟨z0,q0,_,b0'⟩:=CF underlying5 g0;obtain⟨z1,q1,_,b1'⟩:=CF underlying3 g1;obtain⟨ep,en,ec,eff,q2,re,oke⟩:=I6 Ce LT underlying25 CA (by omega) BF g2 (fun n _=>SK n);obtain⟨kp,kn,kc,l,q3,rk,okk⟩:=I6 LR.encT (LR.lies W) underlying26 ce (by omega) Oq g3 (fun m hm=>ih m (by omega));simp at q0 q1 q2 q3;have h0:0<=z0/\z0<=255:=by simpa [Lit.wf,IntKind.min,IntKind.max,IntKind.signed,IntKind.bits] using b0'
  have h1:-9223372036854775808<=z1/\z1<=9223372036854775807:=by simpa [Lit.wf,IntKind.min,IntKind.max,IntKind.signed,IntKind.bits] using b1'
  refine⟨.node ⟨z0,z1,ep,en,ec,eff,kp,kn,kc⟩ l,by rw [q0,q1,q2,q3];rfl,Dz.lies ⟨⟨re,oke,h0.1,h0.2,h1.1,h1.2,rk.max,rk.le,rk.nil⟩,rk,okk⟩⟩
end
end
section
open Go.ChangeShapes Go.WideShapes Go.ChangeAt Go.RowKit Go.Deep
section
variable {H:Type} {enc:TypeId×Value->H} {W:World} {base:Nat} {t e:TypeId} {v:Value} {d:DataW H} {ps:List MemPlace}
structure By where
 kind:Int
 op:Int
 at_:Int
 n:Int
 name:ByteArray
 arg:ByteArray
 exn:ByteArray
def ZCm(h:By):List Value:=[.int .u8 h.kind,.int .u8 h.op,.int .i64 h.at_,.int .i64 h.n,.string h.name,.string h.arg,.string h.exn]
structure By.Ok(h:By):Prop where
 k0:0<=h.kind
 k1:h.kind<=255
 o0:0<=h.op
 o1:h.op<=255
 at_:RX h.at_
 n:RX h.n
 name:h.name.size<=9223372036854775807
 arg:h.arg.size<=9223372036854775807
 exn:h.exn.size<=9223372036854775807
theorem YU(n:Nat):X6 enc W 23 n ZCm By.Ok:=by
 intro cs' x h aJ;have he:prog.underlying 23=some (.struct (prog.fieldsOf 23)):=by kernel_rfl
 have ce:prog.cellsOf 23=7:=by kernel_rfl
 have F0:((prog.fieldsOf 23)[0]?).map (fun f=>(f.type,f.offset))=some (5,0):=by kernel_rfl
 have F1:((prog.fieldsOf 23)[1]?).map (fun f=>(f.type,f.offset))=some (5,1):=by kernel_rfl
 have F2:((prog.fieldsOf 23)[2]?).map (fun f=>(f.type,f.offset))=some (3,2):=by kernel_rfl
 have F3:((prog.fieldsOf 23)[3]?).map (fun f=>(f.type,f.offset))=some (2,3):=by kernel_rfl
 have F4:((prog.fieldsOf 23)[4]?).map (fun f=>(f.type,f.offset))=some (9,4):=by kernel_rfl
 have F5:((prog.fieldsOf 23)[5]?).map (fun f=>(f.type,f.offset))=some (9,5):=by kernel_rfl
 have F6:((prog.fieldsOf 23)[6]?).map (fun f=>(f.type,f.offset))=some (9,6):=by kernel_rfl
 have C_uint8:prog.cellsOf 5=1:=by kernel_rfl
 have C_int:prog.cellsOf 3=1:=by kernel_rfl
 have C_int64:prog.cellsOf 2=1:=by kernel_rfl
 have C_string:prog.cellsOf 9=1:=by kernel_rfl
 rw [ce] at aJ;obtain⟨xs,k,hk,kg,_,tA,eI⟩:=EO he h;obtain⟨f0,e0,p0⟩:=Ao.1 F0;obtain⟨f1,e1,p1⟩:=Ao.1 F1;obtain⟨f2,e2,p2⟩:=Ao.1 F2;obtain⟨f3,e3,p3⟩:=Ao.1 F3;obtain⟨f4,e4,p4⟩:=Ao.1 F4;obtain⟨f5,e5,p5⟩:=Ao.1 F5;obtain⟨f6,e6,p6⟩:=Ao.1 F6;simp only [EE] at p0 p1 p2 p3 p4 p5 p6;have g0:=eI 0 f0 e0;have g1:=eI 1 f1 e1;have g2:=eI 2 f2 e2;have g3:=eI 3 f3 e3;have g4:=eI 4 f4 e4;have g5:=eI 5 f5 e5;have g6:=eI 6 f6 e6;rw [p0.1,p0.2,C_uint8] at g0;rw [p1.1,p1.2,C_uint8] at g1;rw [p2.1,p2.2,C_int] at g2;rw [p3.1,p3.2,C_int64] at g3;rw [p4.1,p4.2,C_string] at g4;rw [p5.1,p5.2,C_string] at g5;rw [p6.1,p6.2,C_string] at g6;have bl:=(AO.1 e6).1;match cs',aJ with
 |[v0,v1,v2,v3,v4,v5,v6],_=>
  rw [AI (show 0<xs.length by omega)] at g0;rw [AI (show 1<xs.length by omega)] at g1;rw [AI (show 2<xs.length by omega)] at g2;rw [AI (show 3<xs.length by omega)] at g3;rw [AI (show 4<xs.length by omega)] at g4;rw [AI (show 5<xs.length by omega)] at g5;rw [AI (show 6<xs.length by omega)] at g6;obtain⟨z0,q0,_,b0⟩:=CF underlying5 g0;obtain⟨z1,q1,_,b1⟩:=CF underlying5 g1;obtain⟨z2,q2,_,b2⟩:=CF underlying3 g2;obtain⟨z3,q3,_,b3⟩:=CF underlying2 g3;obtain⟨z4,q4,_,b4⟩:=EM underlying9 g4;obtain⟨z5,q5,_,b5⟩:=EM underlying9 g5;obtain⟨z6,q6,_,b6⟩:=EM underlying9 g6;simp at q0 q1 q2 q3 q4 q5 q6;have h0:0<=z0/\z0<=255:=by simpa [Lit.wf,IntKind.min,IntKind.max,IntKind.signed,IntKind.bits] using b0
  have h1:0<=z1/\z1<=255:=by simpa [Lit.wf,IntKind.min,IntKind.max,IntKind.signed,IntKind.bits] using b1
  have h2:-9223372036854775808<=z2/\z2<=9223372036854775807:=by simpa [Lit.wf,IntKind.min,IntKind.max,IntKind.signed,IntKind.bits] using b2
  have h3:-9223372036854775808<=z3/\z3<=9223372036854775807:=by simpa [Lit.wf,IntKind.min,IntKind.max,IntKind.signed,IntKind.bits] using b3
  unfold maxLen at b4 b5 b6;exact⟨⟨z0,z1,z2,z3,z4,z5,z6⟩,by rw [q0,q1,q2,q3,q4,q5,q6];rfl,h0.1,h0.2,h1.1,h1.2,h2,h3,by show z4.size<=_;omega,by show z5.size<=_;omega,by show z6.size<=_;omega⟩
theorem ZBt(n:Nat):X6 enc W 31 n LA.encT (LA.lies W):=by
 induction n using Nat.strongRecOn with
 |_ n ih=>
 intro cs' x h aJ;have he:prog.underlying 31=some (.struct (prog.fieldsOf 31)):=by kernel_rfl
 have ce:prog.cellsOf 31=19:=by kernel_rfl
 have CAt:prog.cellsOf 59=3:=by kernel_rfl
 have CI:prog.cellsOf 3=1:=by kernel_rfl
 have F0:((prog.fieldsOf 31)[0]?).map (fun f=>(f.type,f.offset))=some (23,0):=by kernel_rfl
 have F1:((prog.fieldsOf 31)[1]?).map (fun f=>(f.type,f.offset))=some (3,7):=by kernel_rfl
 have F2:((prog.fieldsOf 31)[2]?).map (fun f=>(f.type,f.offset))=some (24,8):=by kernel_rfl
 have F3:((prog.fieldsOf 31)[3]?).map (fun f=>(f.type,f.offset))=some (25,9):=by kernel_rfl
 have F4:((prog.fieldsOf 31)[4]?).map (fun f=>(f.type,f.offset))=some (28,10):=by kernel_rfl
 have F5:((prog.fieldsOf 31)[5]?).map (fun f=>(f.type,f.offset))=some (28,14):=by kernel_rfl
 have F6:((prog.fieldsOf 31)[6]?).map (fun f=>(f.type,f.offset))=some (29,18):=by kernel_rfl
 have C_apiHead:prog.cellsOf 23=7:=by kernel_rfl
 have C_int:prog.cellsOf 3=1:=by kernel_rfl
 have C_sint:prog.cellsOf 24=1:=by kernel_rfl
 have C_sapiAtom:prog.cellsOf 25=1:=by kernel_rfl
 have C_apiRType:prog.cellsOf 28=4:=by kernel_rfl
 have C_sapiATerm:prog.cellsOf 29=1:=by kernel_rfl
 rw [ce] at aJ;obtain⟨xs,k,hk,kg,_,tA,eI⟩:=EO he h;obtain⟨f0,e0,p0⟩:=Ao.1 F0;obtain⟨f1,e1,p1⟩:=Ao.1 F1;obtain⟨f2,e2,p2⟩:=Ao.1 F2;obtain⟨f3,e3,p3⟩:=Ao.1 F3;obtain⟨f4,e4,p4⟩:=Ao.1 F4;obtain⟨f5,e5,p5⟩:=Ao.1 F5;obtain⟨f6,e6,p6⟩:=Ao.1 F6;simp only [EE] at p0 p1 p2 p3 p4 p5 p6;have g0:=eI 0 f0 e0;have g1:=eI 1 f1 e1;have g2:=eI 2 f2 e2;have g3:=eI 3 f3 e3;have g4:=eI 4 f4 e4;have g5:=eI 5 f5 e5;have g6:=eI 6 f6 e6;rw [p0.1,p0.2,C_apiHead] at g0;rw [p1.1,p1.2,C_int] at g1;rw [p2.1,p2.2,C_sint] at g2;rw [p3.1,p3.2,C_sapiAtom] at g3;rw [p4.1,p4.2,C_apiRType] at g4;rw [p5.1,p5.2,C_apiRType] at g5;rw [p6.1,p6.2,C_sapiATerm] at g6;have bl:=(AO.1 e6).1;match cs',aJ with
 |[v0,v1,v2,v3,v4,v5,v6,v7,v8,v9,v10,v11,v12,v13,v14,v15,v16,v17,v18],_=>
  rw [AI (show 0<xs.length by omega)] at g0;rw [AI (show 1<xs.length by omega)] at g1;rw [AI (show 2<xs.length by omega)] at g2;rw [AI (show 3<xs.length by omega)] at g3;rw [AI (show 4<xs.length by omega)] at g4;rw [AI (show 5<xs.length by omega)] at g5;rw [AI (show 6<xs.length by omega)] at g6;obtain⟨hd,q0,hh⟩:=YU _ _ _ g0 (by simp [C_apiHead]);obtain⟨z1,q1,_,b1⟩:=CF underlying3 g1;obtain⟨rp,rn,rc,rhos,q2,rr,rok⟩:=I6 DE RX underlying24 CI (by omega) DR g2 (fun n _=>Z8 n);obtain⟨ep,en,ec,eff,q3,re,eok⟩:=I6 Ce LT underlying25 CAt (by omega) BF g3 (fun n _=>SK n);obtain⟨ty,q4,cU⟩:=Xh _ _ _ g4 (by simp [C_apiRType]);obtain⟨res,q5,cF⟩:=Xh _ _ _ g5 (by simp [C_apiRType]);obtain⟨kp,kn,kc,l,q6,rk,okk⟩:=I6 LA.encT (LA.lies W) underlying29 ce (by omega) XX g6 (fun m hm=>ih m (by omega));simp [ZCm,Xi,QT] at q0 q1 q2 q3 q4 q5 q6;have h1:-9223372036854775808<=z1/\z1<=9223372036854775807:=by simpa [Lit.wf,IntKind.min,IntKind.max,IntKind.signed,IntKind.bits] using b1
  obtain⟨rfl,rfl,rfl,rfl,rfl,rfl,rfl⟩:=q0;obtain⟨rfl,rfl,rfl,rfl⟩:=q4;obtain⟨rfl,rfl,rfl,rfl⟩:=q5;subst q1 q2 q3 q6
  exact⟨.node ⟨hd.kind,hd.op,hd.at_,hd.n,hd.name,hd.arg,hd.exn,z1,rp,rn,rc,rhos,ep,en,ec,eff,ty,res,kp,kn,kc⟩ l,rfl,
   JZ.lies ⟨⟨hh.k0,hh.k1,hh.o0,hh.o1,hh.at_,hh.n,hh.name,hh.arg,hh.exn,h1,rr,rok,re,eok,cU,cF,rk.max,rk.le,rk.nil⟩,rk,okk⟩⟩
theorem ZDg(hv:Value.okWide prog W .any base 31 v)(h:DataW.Trod enc prog W 0 (fun _=>true) true 31 v d ps):∃x:PA,v=DP x.head/\LA.lies W x:=by
 have he:prog.underlying 31=some (.struct (prog.fieldsOf 31)):=by kernel_rfl
 have ce:prog.cellsOf 31=19:=by kernel_rfl
 simp only [Value.okWide,he] at hv;obtain⟨cs,rfl,hs,_⟩:=hv;obtain⟨fuel,hf⟩:=h;obtain⟨y,hy,hl⟩:=ZBt fuel cs.toList _ hf (by simpa using hs);refine⟨y,?_,hl⟩;obtain⟨a⟩:=cs;have e:LA.encT y=FS y.head:=rfl;simp only [e,FS] at hy;rw [hy]
end
end
end Go.Proofs.YtkdjnegfnhldpaaGreatDoor
