/- Part 09. -/
import Derived.RangeFuncBox
import Derived.RangeFuncLeaves
import Derived.Shelf.Abstract
import Derived.OwnWalkIn
import Derived.TacticsInMore
import Derived.LoopNIn
import Derived.LoopIn
import Derived.Test.YtkdjnegfnhldpaaGreatDoorK08
set_option linter.unusedVariables false
set_option maxRecDepth 100000
set_option linter.unusedSimpArgs false
set_option maxHeartbeats 40000000
set_option autoImplicit true
set_option relaxedAutoImplicit true
namespace Go.Proofs.YtkdjnegfnhldpaaGreatDoor
open Go.Proofs.Tryz Go.RowKit
section
open Go.Shelf
attribute [local go_sem] Oper.semAt_some
def NP(f:Nat->Int)(k:Nat):List Int:=(List.range k).map f
theorem Sr(f:Nat->Int)(k:Nat):NP f (k+1)=NP f k++[f k]:=by simp [NP,Ek]
theorem Vk(f:Nat->Int)(k:Nat):(NP f k).length=k:=by simp [NP]
theorem ZBf(zs:List Int):NP (fun j=>zs[j]?.getD 0) zs.length=zs:=by
 apply List.ext_getElem
 ·simp [NP]
 ·intro i h1 h2;simp [NP,h2]
theorem ZN(zs:List Int)(hk:k<=zs.length):NP (fun j=>zs[j]?.getD 0) k=zs.take k:=by
 apply List.ext_getElem
 ·simp [NP,hk]
 ·intro i h1 h2;have:i<zs.length:=by simp [NP] at h1;omega
  simp [NP,this]
theorem XS(F:Fence)(n:Nat)(h7:F.fn 173)(eN:F.round=none)(hn:1<=n)(l Bs n₀ b off len cap:Nat)(zs:List Int)(iB:len * 8<=140737488351232)(hb:b<n₀)(J Jx:List Int->World->Prop)
 (hY:∀pre x W,J pre W->pre.length<len->YieldAt F (n-1) prog l #[.int .i64 x] W fun e W'=>
  (e=.returned (.bool true)/\J (pre++[x]) W'/\Below n₀ W W')\/(e=.returned (.bool false)/\Jx (pre++[x]) W'))
 (W:World) (fz:W.cell? ⟨Bs,0,none⟩=some (.slice (some ⟨b,off,none⟩) len cap)) (hc:∀j,j<len->W.cell? ⟨b,off+j,none⟩=some (.int .i64 (zs[j]?.getD 0))) (h0:J [] W) :
 CallsIn F n prog 173 #[.func (.yield l) #[] #[],.pointer (some ⟨Bs,0,none⟩)] W fun e W'=>(∃v,e=.returned v) /\
  ((∃ys,ys=NP (fun j=>zs[j]?.getD 0) len/\J ys W')\/(∃pre,(∃k,k<=len/\pre=NP (fun j=>zs[j]?.getD 0) k)/\Jx pre W')):=by
 refine ES func173 rfl h7 ?_ eN
 simp only [ntmps173,CL,Aq,Bc,Nat.reduceAdd,Nat.reduceSub,CG,CJ,Cg,CP,A6,BK]
 gi_wp2
 gi_loopw [7] (fun i wr=>∃k:Nat,k<=len/\i=.int .i64 k/\J (NP (fun j=>zs[j]?.getD 0) k) wr/\Below n₀ W wr)
  (fun i _=>len-(intOf i).toNat)
 case atStart=>exact⟨0,BM _,rfl,h0,AA _ _⟩
 case round=>
  obtain⟨k,hk,rfl,kS,nZ⟩:=hrel;have jx:k<len->wr.cell? ⟨b,off+k,none⟩=some (.int .i64 (zs[k]?.getD 0)):=fun h=>(nZ.cell (p:=⟨b,off+k,none⟩) hb).trans (hc k h);by_cases aG:k<len
  ·obtain⟨fn,tmps,assign,body,hy,hR⟩:=hY _ (zs[k]?.getD 0) wr kS (by rw [Vk];exact aG);have wz:=jx aG;gi_wp2;refine hR.mono ?_;rintro e W3 (⟨rfl,ru,jb⟩|⟨rfl,ma⟩)
   ·gi_wp2;go_roundw
    case rel=>exact⟨k+1,by omega,by simp,by rw [Sr];exact ru,nZ.trans jb⟩
    case measure=>simp [intOf];omega
   ·gi_wp2;refine Ag (results_none rfl _ _ _) rfl ?_;exact⟨⟨_,rfl⟩,.inr ⟨_,⟨k+1,by omega,(Sr _ _).symm⟩,ma⟩⟩
  ·obtain rfl:k=len:=by omega
   gi_wp2;go_end0;exact⟨⟨_,rfl⟩,.inl ⟨_,rfl,kS⟩⟩
def NV(n₀:Nat)(W:World)(sv:Value)(zs:List Int):Prop:=(∃p c,sv=.slice p 0 c/\zs=[])\/∃b off cap,sv=.slice (some ⟨b,off,none⟩) zs.length cap/\b<n₀/\∀j,j<zs.length->W.cell? ⟨b,off+j,none⟩=some (.int .i64 (zs[j]?.getD 0))
theorem NV.below(h:Below n₀ A B):NV n₀ A sv zs->NV n₀ B sv zs
 |.inl e=>.inl e
 |.inr ⟨b,off,cap,e,hb,hc⟩=>.inr ⟨b,off,cap,e,hb,fun j hj=>(h.cell (p:=⟨b,off+j,none⟩) hb).trans (hc j hj)⟩
theorem RP(F:Fence)(n:Nat)(h7:F.fn 173)(eN:F.round=none)(l Bs:Nat)(J:List Int->World->Prop)(W:World)(fz:W.cell? ⟨Bs,0,none⟩=some (.slice p 0 c))(h0:J [] W):CallsIn F n prog 173 #[.func (.yield l) #[] #[],.pointer (some ⟨Bs,0,none⟩)] W fun e W'=>(∃v,e=.returned v)/\J [] W':=by
 refine ES func173 rfl h7 ?_ eN;simp only [ntmps173,CL,Aq,Bc,Nat.reduceAdd,Nat.reduceSub,CG,CJ,Cg,CP,A6,BK];gi_wp2;gi_loopw [7] (fun i wr=>i=.int .i64 0/\J [] wr) (fun _ _=>0)
 case atStart=>exact⟨rfl,h0⟩
 case round=>obtain⟨rfl,kS⟩:=hrel;gi_wp2;go_end0;exact⟨⟨_,rfl⟩,kS⟩
theorem T6(F:Fence)(n:Nat)(h7:F.fn 173)(eN:F.round=none)(hn:1<=n)(Bs n₀:Nat)(sv:Value)(zs:List Int)(iB:zs.length * 8<=140737488351232)(w:World)(fz:Bs<w.heap.size)(hn₀:n₀<=w.heap.size)(hc:w.cell? ⟨Bs,0,none⟩=some sv)(hI:NV n₀ w sv zs):SeqStopsK F n prog 173 #[.pointer (some ⟨Bs,0,none⟩)] (fun x:Int=>#[Value.int .i64 x]) (Below n₀) (fun ys=>ys=zs) (fun pre=>pre <+: zs) zs.length w:=fun l J Jx W hW _ _ hY h0=>by
 have ga:=(hW.cell (p:=⟨Bs,0,none⟩) fz).trans hc;rcases hI.below (hW.mono hn₀) with⟨p,c,rfl,rfl⟩|⟨b,off,cap,rfl,hb,am⟩
 ·exact(RP F n h7 eN l Bs J W ga h0).mono fun e W' ⟨he,hj⟩=>⟨he,.inl ⟨_,rfl,hj⟩⟩
 ·refine(XS F n h7 eN hn l Bs n₀ b off zs.length cap zs iB hb J Jx hY W ga am h0).mono ?_;rintro e W' ⟨he,⟨ys,rfl,hj⟩|⟨pre,⟨k,hk,rfl⟩,hj⟩⟩
  ·exact⟨he,.inl ⟨_,ZBf zs,hj⟩⟩
  ·exact⟨he,.inr ⟨_,by rw [ZN zs hk];exact List.take_prefix _ _,hj⟩⟩
theorem TF(F:Fence)(n:Nat)(h3:F.fn 208)(h5:F.fn 173)(eN:F.round=none)(hn:3<=n)(Bs:Nat)(sv:Value)(xs:List Int)(av:xs.length * 8<=140737488351232)(w:World)(fz:Bs<w.heap.size)(am:w.cell? ⟨Bs,0,none⟩=some sv)(hI:NV w.heap.size w sv xs):CallsIn F n prog 208 #[.slice none 0 0,.func (.func 173) #[] #[.pointer (some ⟨Bs,0,none⟩)]] w fun e W'=>∃v,e=.returned v/\W'.ownsRow w.heap.size 3 1 v xs.length (xs.map (Value.int .i64))/\Below w.heap.size w W':=by
 have h1:1<=n:=by omega
 obtain⟨i0,hi,qi,nC,xa⟩:=ET Qf;refine callsIn_of_wp_marks func208 rfl h3 ?_ eN;simp only [ntmps208,CL,Aq,Bc,Nat.reduceAdd,Nat.reduceSub,CG,CJ,Cg,CP,A6,BK];gi_wp2;have bO:=Boxed.new w 24 (.slice none 0 0);have rj:Below w.heap.size w (w.alloc (.cells #[.slice none 0 0] 24)):=(AA _ w).alloc (AB _) _
 refine wpIn_rangeFunc_ownG eN h1 (gf:=173) (lb:=#[.pointer (some ⟨Bs,0,none⟩)]) rfl h5 (enters_of func173 (by kernel_rfl) rfl)
  (T6 F (n-1) h5 eN (by omega) Bs w.heap.size sv xs av _ (by simp;omega) (by simp) ((rj.cell (p:=⟨Bs,0,none⟩) fz).trans am) (hI.below rj)) belowK_t (belowK_b (by simp)) (AA _ _) (fun _=>rfl)
  (fun pre W=>(∃v,Boxed W w.heap.size 24 v/\W.ownsRow w.heap.size 3 1 v pre.length (pre.map (Value.int .i64))/\(v=.slice none 0 0↔pre=[]))/\Below w.heap.size w W)
  (fun _ _ _=>False)
  (OwnFrom.and (Own.from (holdsRow_own w.heap.size w.heap.size 24 3 1 (fun pre=>pre.length) (fun pre=>pre.map (Value.int .i64)) (fun pre v=>v=.slice none 0 0↔pre=[])) _) (ownFrom_below (AB _) (by simp)))
  (fun _ _ _ _ _ hs _ _=>hs)
  ⟨⟨_,bO,World.ownsRow_nil _ _ _ _,by simp⟩,rj⟩
  (fun x=>{ tmps:=#[.slice none 0 0,.func (.func 173) #[] #[.pointer (some ⟨Bs,0,none⟩)],.pointer (some ⟨w.heap.size,0,none⟩),undef,.slice none 0 0,.int .i64 x,.func (.func 173) #[] #[.pointer (some ⟨Bs,0,none⟩)],.int .i64 x,undef,undef,undef,undef,undef],defers:=[] }) ?assign ?body ?done ?stop
 case assign=>intro l x W K hK;gi_wp2;exact hK
 case body=>rintro l pre x W ⟨⟨v,hv,aC,aj⟩,hB⟩ aG;have hc:=hv.cell;gi_wp2_with (gi_at_builtin;refine wpListIn_append_own _ rfl _ _ 24 rfl w.heap.size 3 i0 (.int .i64 0) 1 8 underlying24 hi qi nC xa rfl (by decide) _ _ _ rfl (aC.alloc _) ⟨W.heap.size,0,none⟩ 1 1 [.int .i64 x] rfl rfl (cell_one_new _ _ _) (by simp [Value.oneCell']) (by unfold maxLen;omega) (by omega) (by have:=hB.size;simp;omega) ?_;intro v' w1 aP pF _;obtain⟨g',cap',rfl⟩:=ownsRow_succ aP;obtain⟨sq,fX,dx,gG,aU⟩:=hv.appended (by decide) aC hB.size (AB _) aP pF;have sD:=sq.cell;have kU:=sq.frozen);exact⟨gG.from _,aU,⟨_,fX,by simpa using dx,by simp⟩,hB.trans aU⟩
 case done=>rintro D ys W hD rfl ⟨⟨v,hv,aC,aj⟩,hB⟩ hK;have hc:=hv.cell;gi_wp2;refine⟨by simp,.inl ⟨_,_,rfl,run_takeDeferred hK,?_⟩⟩;exact⟨_,results_tmp rfl _ _ _,v,rfl,ownsRow_putObj aC _ hK rfl,hB.trans (belowK_b (w:=w) (AB _) W D _ _ (by simp at hD;omega) hK rfl rfl)⟩
 case stop=>rintro D c pre W _ _ h _;exact h.elim
theorem Rf(Bs:Nat)(sv:Value)(xs:List Int)(av:xs.length * 8<=140737488351232)(w:World)(fz:Bs<w.heap.size)(am:w.cell? ⟨Bs,0,none⟩=some sv)(hI:NV w.heap.size w sv xs):Calls prog 208 #[.slice none 0 0,.func (.func 173) #[] #[.pointer (some ⟨Bs,0,none⟩)]] w fun e W'=>∃v,e=.returned v/\W'.ownsRow w.heap.size 3 1 v xs.length (xs.map (Value.int .i64))/\Below w.heap.size w W':=(callsIn_wide (n:=6)).1 (TF Fence.wide 6 trivial trivial rfl (by omega) Bs sv xs av w fz am hI)
end
def ofB(k:Int):Value:=.agg #[.bool (KL [3,6,11,13,17,18] k),.bool ((k==13)||(k==18)),.bool (KL [11,13,18] k),.bool (KL [11,13,15] k),.bool (k==13)]
theorem ZDK(k:Int)(w:World):Calls prog 89 #[.int .u8 k] w (RB w (ofB k)):=by
 by_cases h3:k=3
 ·subst h3;go_enter func89,ntmps89;go_wp2_with fail;refine br (AG w _) underlying137 ?_;exact⟨rfl,bA⟩
 have b3:(k==3)=false:=by simpa using h3
 by_cases h6:k=6
 ·subst h6;go_enter func89,ntmps89;go_wp2_with fail;refine br (AG w _) underlying137 ?_;exact⟨rfl,bA⟩
 have b6:(k==6)=false:=by simpa using h6
 by_cases bK:k=17
 ·subst bK;go_enter func89,ntmps89;go_wp2_with fail;refine br (AG w _) underlying137 ?_;exact⟨rfl,bA⟩
 have b17:(k==17)=false:=by simpa using bK
 by_cases cR:k=11
 ·subst cR;go_enter func89,ntmps89;go_wp2_with fail;refine br (AG w _) underlying137 ?_;exact⟨rfl,bA⟩
 have b11:(k==11)=false:=by simpa using cR
 by_cases bf:k=13
 ·subst bf;go_enter func89,ntmps89;go_wp2_with fail;refine br (AG w _) underlying137 ?_;exact⟨rfl,bA⟩
 have b13:(k==13)=false:=by simpa using bf
 by_cases mW:k=15
 ·subst mW;go_enter func89,ntmps89;go_wp2_with fail;refine br (AG w _) underlying137 ?_;exact⟨rfl,bA⟩
 have b15:(k==15)=false:=by simpa using mW
 by_cases a7:k=18
 ·subst a7;go_enter func89,ntmps89;go_wp2_with fail;refine br (AG w _) underlying137 ?_;exact⟨rfl,bA⟩
 have b18:(k==18)=false:=by simpa using a7
 have hz:Hd (ofB k=.agg #[.bool false,.bool false,.bool false,.bool false,.bool false]):=by
  show _=_;have c3:((3:Int)==k)=false:=by rw [Db];exact b3
  have c6:((6:Int)==k)=false:=by rw [Db];exact b6
  have c17:((17:Int)==k)=false:=by rw [Db];exact b17
  have c11:((11:Int)==k)=false:=by rw [Db];exact b11
  have c13:((13:Int)==k)=false:=by rw [Db];exact b13
  have c15:((15:Int)==k)=false:=by rw [Db];exact b15
  have c18:((18:Int)==k)=false:=by rw [Db];exact b18
  simp only [ofB,KL,List.any_cons,List.any_nil,c3,c6,c17,c11,c13,c15,c18,b13,b18,Fv]
 clear h3 h6 bK cR bf mW a7;go_enter func89,ntmps89;go_wp2_with fail;refine br (AG w _) underlying137 ?_;exact⟨by rw [hz.out],bA⟩
def Mh(there:Bool)(t:PT):Bool:=if there then FK t.er else JI t.head
theorem Lk(there:Bool)(t:PT)(hl:LR.lies w t)(h1:t.head.en<=1000000)(h2:t.head.kn<=1000000):Calls prog 94 #[.bool there,IJ t.head] w (RB w (.bool (Mh there t))):=by
 have HB:=AF ((AA w.heap.size w).alloc (AB _) (.cells #[.int .u8 t.head.kind,.int .i64 t.head.rho,.slice t.head.ep t.head.en t.head.ec,.slice t.head.kp t.head.kn t.head.kc] 28));have HL:=AF (LR.lies_below HB.o t hl);clear hl;cases there with
 |true=>
  go_enter func94,ntmps94;go_wp2_with (go_at_call 129;refine(Rx HL.o rfl _ (by simp)).mono ?_;rintro e w2 ⟨rfl,hb⟩;have aF:=AF hb;clear hb);go_ret;exact⟨rfl,HB.o.trans ((bA |>.trans (aF.o.mono (by simp))).mono HB.o.size)⟩
 |false=>
  have hw:IntKind.i64.wrap ((t.head.en:Int)+t.head.kn)=(t.head.en:Int)+t.head.kn:=Bi _ (by omega);have HP:Hd (JI t.head=((t.head.kind==0)&&(t.head.rho==0)&&((t.head.en:Int)+t.head.kn==0))):=by show _=_;unfold JI;rw [Bool.and_assoc (_&&_)];congr 1;rw [Bu];simp only [AK,A3];omega
  cases hk:(t.head.kind==0) with
  |false=>
   rw [hk] at HP;go_enter func94,ntmps94;go_wp2_with fail;go_ret;exact⟨Af (by show _=JI _;rw [HP.o];rfl),HB.o⟩
  |true=>
   rw [hk] at HP;cases hr:(t.head.rho==0) with
   |false=>
    rw [hr] at HP;go_enter func94,ntmps94;go_wp2_with fail;go_ret;exact⟨Af (by show _=JI _;rw [HP.o];rfl),HB.o⟩
   |true=>
    rw [hr] at HP;go_enter func94,ntmps94;go_wp2_with fail;go_ret;exact⟨Af (by show _=JI _;rw [HP.o];simp),HB.o⟩
theorem JB.range(h:JB W b a):W.rangeAt b 0 (FS a):=fun j v hj=>by rw [BP];exact h.c j v hj
theorem Rj(a:AH)(bK:a.kind=17)(hk:a.kn<=1000000)(w:World):Calls prog 90 #[DP a] w (RB w (.bool (GD a.hd a.kn))):=by
 have HB:=AF ((AA w.heap.size w).alloc (AB _) (Bt a));have HA:=AF (C8 w a);have e17:(a.kind==17)=true:=by simp [bK]
 have E17:=AF bK;clear bK;go_enter func90,ntmps90;go_upto_region 3 with fail;obtain⟨c0,c1,c2,c3,c4,c5,c6,c7,c8,c9,c10,c11,c12,c13,c14,c15,c16,c17,c18⟩:=HA.o.all;clear c7 c8 c9 c10 c11 c12 c13 c14 c15 c16 c17;generalize w.alloc (Bt a)=W1 at *
 go_wp2_with fail
 all_goals (
  go_ret;refine⟨Af ?_,HB.o⟩;unfold GD;rw [AJ (show a.hd.kind=17 from E17.out)];clear c0 c1 c2 c3 c4 c5 c6 c18;simp_all [P9,AH.hd];try (intros;omega))
theorem O3(h:By)(n:Nat)(hn:3<n):DN h n=false:=by
 have hk:DU h.kind<=3:=by
  unfold DU;split
  ·omega
  ·split
   ·omega
   ·split
    ·omega
    ·split<;>omega
 have:((n:Int) != DU h.kind)=true:=by simp;omega
 unfold DN;rw [this];simp
theorem U0{a:AH}(bK:a.kind≠17)(a7:a.kind≠18):GD a.hd a.kn=(decide ((a.kn:Int)<=3)&&DN a.hd a.kn):=by
 unfold GD;rw [AC (show ¬a.hd.kind=17 from bK),AC (show ¬a.hd.kind=18 from a7)];by_cases h:a.kn<=3
 ·have e:decide ((a.kn:Int)<=3)=true:=by simp;omega
  rw [e,Nat.min_eq_left (by omega)];rfl
 ·have e:decide ((a.kn:Int)<=3)=false:=by simp;omega
  rw [e,O3 _ _ (by omega)];rfl
theorem JU(s:ByteArray):s.toList.isEmpty=decide (s.size=0):=by
 rw [CN];obtain⟨⟨l⟩⟩:=s;cases l with
 |nil=>rfl
 |cons b l=>show false=decide (l.length+1=0);simp
theorem Uz(op at_ z:Int)(name arg exn:ByteArray)(m:Nat):GD ⟨18,op,at_,z,name,arg,exn⟩ m=(decide ((m:Int)<=3)&&DN ⟨2,op,at_,z,name,arg,exn⟩ m):=by
 show (P9 ⟨18,op,at_,z,name,arg,exn⟩&&D5 name&&decide (0<=at_)&&((m:Int)==0))=(decide ((m:Int)<=3)&&(!(decide ((0:Int)<0)||((m:Int) != 0)||decide (at_<0))&&!(false||true&&(op != 0))&&!(decide (z<0)||decide (2147483647<z)||true&&(z != 0))&&(Hf true name (D5 name)&&Hf false arg (D5 arg)&&Hf false exn (GR exn))));show (((op==0)&&(z==0)&&arg.toList.isEmpty&&exn.toList.isEmpty)&&D5 name&&decide (0<=at_)&&((m:Int)==0))=_;unfold Hf;rw [JU,JU];rw [Bu];simp only [AK,Cs,BO,A5,A3,DD,Ai,BE,DC,ER,Bz,Bool.not_true,Bool.not_false,Fv,Fk];constructor
 ·rintro⟨⟨⟨⟨⟨⟨h1,h2⟩,h3⟩,h4⟩,h5⟩,h6⟩,h7⟩;exact⟨by omega,⟨⟨⟨by omega,by omega⟩,h1⟩,by omega,by omega⟩,⟨h5,h3⟩,h4⟩
 ·rintro⟨h1,⟨⟨⟨⟨_,h2⟩,h3⟩,h4⟩,h5,h6⟩,⟨h7,h8⟩,h9⟩;exact⟨⟨⟨⟨⟨⟨h4,h6⟩,h8⟩,h9⟩,h7⟩,by omega⟩,h2⟩
theorem TU(a:AH)(bK:a.kind≠17)(a7:a.kind≠18)(ao:0<=a.kind)(dS:a.kind<=255)(hk:a.kn<=1000000)(hv:Vr w):Calls prog 90 #[DP a] w (RB w (.bool (GD a.hd a.kn))):=by
 have HB:=AF ((AA w.heap.size w).alloc (AB _) (Bt a));have HA:=AF (C8 w a);have HV:=AF hv;have HR:=AF (U0 bK a7);have e17:(a.kind==17)=false:=by simpa using bK
 have e18:(a.kind==18)=false:=by simpa using a7
 clear bK a7 hv;by_cases h3:a.kn<=3
 ·have di:decide ((a.kn:Int)<=3)=true:=by simp;omega
  rw [di,Bz] at HR;go_enter func90,ntmps90;go_upto_region 2 with fail;obtain⟨c0,c1,c2,c3,c4,c5,c6,c7,c8,c9,c10,c11,c12,c13,c14,c15,c16,c17,c18⟩:=HA.o.all;clear c1 c2 c3 c4 c5 c6 c7 c8 c9 c10 c11 c12 c13 c14 c15 c16 c17
  go_wp2_with (first
   |(refine VD HA.o.range underlying31 ?_)
   |(go_at_call 121;refine(Ll a (show a.kn<=1000 by omega) _).mono ?_;rintro e w2 ⟨⟨p2,c2',rfl,aC⟩,hb⟩;have a6:=AF aC;have aF:=bt HB hb;clear aC hb)
   |(go_at_call 120;refine(Ms (HV.o.below aF.o) (t:=⟨(a:AH).hd,p2,a.kn,c2'⟩) a6.o (show a.kn<=1000 by omega) ao dS).mono ?_;rintro e w3 ⟨rfl,hb⟩;have aL:=bt aF hb;clear hb))
  go_ret;exact⟨Af HR.o.symm,aL.o⟩
 ·have di:decide ((a.kn:Int)<=3)=false:=by simp;omega
  rw [di,Fk] at HR;go_enter func90,ntmps90;go_upto_region 2 with fail;obtain⟨c0,c1,c2,c3,c4,c5,c6,c7,c8,c9,c10,c11,c12,c13,c14,c15,c16,c17,c18⟩:=HA.o.all;clear c1 c2 c3 c4 c5 c6 c7 c8 c9 c10 c11 c12 c13 c14 c15 c16 c17;go_wp2_with fail;go_ret;exact⟨Af HR.o.symm,HB.o⟩
theorem U1(a:AH)(a7:a.kind=18)(hk:a.kn<=1000000)(hv:Vr w):Calls prog 90 #[DP a] w (RB w (.bool (GD a.hd a.kn))):=by
 have cg:=AF ((AA w.heap.size w).alloc (AB _) (Bt a));have HB:=AF ((AA w.heap.size w).alloc (AB _) (Bt {a with kind:=2}));have dz:=AF (C8 w a);have HA:=AF (C8 w {a with kind:=2});have HV:=AF hv;have HR:Hd (GD a.hd a.kn=(decide ((a.kn:Int)<=3)&&DN ({a with kind:=2}:AH).hd a.kn)):=by show _=_;have:=Uz a.op a.at_ a.n a.name a.arg a.exn a.kn;rw [<-a7] at this;exact this
 have e17:(a.kind==17)=false:=by simp;omega
 have e18:(a.kind==18)=true:=by simpa using a7
 clear a7 hv;go_enter func90,ntmps90;have c18:=HA.o.c 18 _ rfl;by_cases h3:a.kn<=3
 ·have di:decide ((a.kn:Int)<=3)=true:=by simp;omega
  rw [di,Bz] at HR;go_upto_region 6 with fail
  go_wp2_with (first
   |(refine lmg [.int .u8 2,.int .u8 a.op,.int .i64 a.at_,.int .i64 a.n,.string a.name,.string a.arg,.string a.exn,.int .i64 a.rho,.slice a.rp a.rn a.rc,.slice a.ep a.en a.ec,.int .u8 a.ty.head.kind,.int .i64 a.ty.head.rho,.slice a.ty.head.ep a.ty.head.en a.ty.head.ec,.slice a.ty.head.kp a.ty.head.kn a.ty.head.kc,.int .u8 a.res.head.kind,.int .i64 a.res.head.rho,.slice a.res.head.ep a.res.head.en a.res.head.ec,.slice a.res.head.kp a.res.head.kn a.res.head.kc,.slice a.kp a.kn a.kc] HA.o.range underlying31 ?_)
   |(go_at_call 121;refine(Ll {a with kind:=2} (show a.kn<=1000 by omega) _).mono ?_;rintro e w2 ⟨⟨p2,c2',rfl,aC⟩,hb⟩;have a6:=AF aC;have aF:=bt HB hb;clear aC hb)
   |(go_at_call 120;refine(Ms (HV.o.below aF.o) (t:=⟨({a with kind:=2}:AH).hd,p2,a.kn,c2'⟩) a6.o (show a.kn<=1000 by omega) (show (0:Int)<=2 by omega) (show (2:Int)<=255 by omega)).mono ?_;rintro e w3 ⟨rfl,hb⟩;have aL:=bt aF hb;clear hb))
  go_ret;exact⟨Af HR.o.symm,aL.o⟩
 ·have di:decide ((a.kn:Int)<=3)=false:=by simp;omega
  rw [di,Fk] at HR;go_upto_region 6 with fail;go_wp2_with fail;go_ret;exact⟨Af HR.o.symm,HB.o⟩
theorem OE(a:AH)(ao:0<=a.kind)(dS:a.kind<=255)(hk:a.kn<=1000000)(hv:Vr w):Calls prog 90 #[DP a] w (RB w (.bool (GD a.hd a.kn))):=by
 by_cases bK:a.kind=17
 ·exact Rj a bK hk w
 ·by_cases a7:a.kind=18
  ·exact U1 a a7 hk hv
  ·exact TU a bK a7 ao dS hk hv
section
open Go.Shelf
theorem Tr(x L:Int)(g:Nat)(hg:W.cell? ⟨g,0,none⟩=some (.int .i64 L)):Calls prog 123 #[.int .i64 x,.pointer (some ⟨g,0,none⟩)] W fun e w'=>e=.returned (.bool (decide (x<L)))/\w'=W:=by go_enter func123,ntmps123;go_wp2_with fail;go_ret;exact⟨rfl,rfl⟩
theorem M1(hr:Ax DE 1 W p n c l)(hg:W.cell? ⟨g,0,none⟩=some (.int .i64 L)):Calls prog 122 #[.slice p n c,.func (.func 123) #[] #[.pointer (some ⟨g,0,none⟩)]] W fun e w'=>e=.returned (.bool (l.any (fun r=>decide (r<L))))/\Below W.heap.size W w':=by
 have cu:=hr.len;have uy:=hr.max;rcases hr.row with h|⟨b,o,hp,hb,hc⟩
 ·subst h;obtain rfl:n=0:=by simpa using cu.symm
  refine(GI (α:=Int) p c _ W).mono ?_;rintro e w' ⟨rfl,rfl⟩;exact⟨rfl,AA _ _⟩
 ·subst hp;have f9:∀j,j<l.length->W.cell? ⟨b,o+j,none⟩=some (Value.int .i64 (l[j]!)):=fun j hj=>by have:=hc j (l[j]!) (by rw [AI hj,Bw l j hj]) 0 (.int .i64 (l[j]!)) rfl;simpa using this
  refine(Hm (α:=Int) (Value.int .i64) (fun r:Int=>decide (r<L)) 123 #[.pointer (some ⟨g,0,none⟩)] (fun args w=>rfl) b o n c l W ?_ (by omega) (by omega) f9).mono ?_
  ·intro W' x ab;refine(Tr x L g (by rw [ab.cell (D9 hg)];exact hg)).mono ?_;rintro e w' ⟨rfl,rfl⟩;exact⟨rfl,0,rfl⟩
  ·rintro e w' ⟨rfl,q,rfl⟩;rw [BU (by omega)];exact⟨rfl,rfl,rfl,rfl,AB _,fun _ _=>rfl⟩
def Pd(a:AH)(fr fh:Bool):Bool:=!((!fr&&(a.rho != 0))||(decide (a.rho<0)||(a.kind==17)&&decide (a.rho<1))||(!fh&&decide (0<a.rn)))&&!(a.rhos.any (fun r=>decide (r<if a.kind=13 then 1 else 0)))
theorem XB(a:AH)(fr fh fe ft fs:Bool)(hr:Ax DE 1 w a.rp a.rn a.rc a.rhos)(bf:a.kind=13):Calls prog 91 #[DP a,.agg #[.bool fr,.bool fh,.bool fe,.bool ft,.bool fs]] w (RB w (.bool (Pd a fr fh))):=by
 have HR:=AF hr;have HQ:Hd (Pd a fr fh=(!((!fr&&(a.rho != 0))||(decide (a.rho<0)||false&&decide (a.rho<1))||(!fh&&decide (0<a.rn)))&&!(a.rhos.any (fun r=>decide (r<1))))):=by show _=_;unfold Pd;rw [AJ bf];simp [bf]
 have e13:(a.kind==13)=true:=by simp [bf]
 have e17:(a.kind==17)=false:=by simp [bf]
 clear hr bf;have HB:=AF (((AA w.heap.size w).alloc (AB _) (Bt a)).alloc (by simp) (.cells #[.bool fr,.bool fh,.bool fe,.bool ft,.bool fs] 137));have aL:=AF (HB.o.alloc HB.o.size (.cells #[.int .i64 1] 3));have dz:=AF (((C8 w a).below ((AA _ _).alloc (AB _) (.cells #[.bool fr,.bool fh,.bool fe,.bool ft,.bool fs] 137))).below ((AA _ _).alloc (AB _) (.cells #[.int .i64 0] 3)));have gQ:=AF (((C8 w a).below ((AA _ _).alloc (AB _) (.cells #[.bool fr,.bool fh,.bool fe,.bool ft,.bool fs] 137))).below ((AA _ _).alloc (AB _) (.cells #[.int .i64 1] 3)));have kj:=AF (M1 (HR.o.below aL.o) (g:=w.heap.size+2) (L:=1) (by rw [show w.heap.size+2=((w.alloc (Bt a)).alloc (.cells #[.bool fr,.bool fh,.bool fe,.bool ft,.bool fs] 137)).heap.size by simp,Bq];rfl));have f0:(((w.alloc (Bt a)).alloc (.cells #[.bool fr,.bool fh,.bool fe,.bool ft,.bool fs] 137)).alloc (.cells #[.int .i64 1] 3)).cell? ⟨w.heap.size+1,0,none⟩=some (.bool fr):=by go_simp
 have f1:(((w.alloc (Bt a)).alloc (.cells #[.bool fr,.bool fh,.bool fe,.bool ft,.bool fs] 137)).alloc (.cells #[.int .i64 1] 3)).cell? ⟨w.heap.size+1,1,none⟩=some (.bool fh):=by go_simp
 have d0:=dz.o.c 0 _ rfl;have c0:=gQ.o.c 0 _ rfl;have c7:=gQ.o.c 7 _ rfl;have c8:=gQ.o.c 8 _ rfl;have th:=HR.o.max;generalize a.rhos.any (fun r=>decide (r<1))=R at *
 go_enter func91,ntmps91;go_upto_region 4 with fail;generalize ((w.alloc (Bt a)).alloc (.cells #[.bool fr,.bool fh,.bool fe,.bool ft,.bool fs] 137)).alloc (.cells #[.int .i64 1] 3)=W3 at *
 cases fr<;>cases fh
 all_goals (
  go_wp2_with (go_at_call 122;refine kj.o.mono ?_;rintro e w4 ⟨rfl,hb⟩;have bJ:=bt aL hb;clear hb)
  all_goals (
   go_ret;refine⟨Af ?_,by first|exact bJ.o|exact aL.o⟩;rw [HQ.o];clear c0 c7 c8 d0 f0 f1 dz gQ kj HB;simp_all;try omega))
theorem XC(a:AH)(fr fh fe ft fs:Bool)(hr:Ax DE 1 w a.rp a.rn a.rc a.rhos)(bf:a.kind≠13):Calls prog 91 #[DP a,.agg #[.bool fr,.bool fh,.bool fe,.bool ft,.bool fs]] w (RB w (.bool (Pd a fr fh))):=by
 have HR:=AF hr;have HQ:Hd (Pd a fr fh=(!((!fr&&(a.rho != 0))||(decide (a.rho<0)||(a.kind==17)&&decide (a.rho<1))||(!fh&&decide (0<a.rn)))&&!(a.rhos.any (fun r=>decide (r<0))))):=by show _=_;unfold Pd;rw [AC bf]
 have e13:(a.kind==13)=false:=by simp [bf]
 clear hr bf;cases e17:(a.kind==17)
 ·rw [e17] at HQ;have HB:=AF (((AA w.heap.size w).alloc (AB _) (Bt a)).alloc (by simp) (.cells #[.bool fr,.bool fh,.bool fe,.bool ft,.bool fs] 137));have aL:=AF (HB.o.alloc HB.o.size (.cells #[.int .i64 0] 3));have dz:=AF (((C8 w a).below ((AA _ _).alloc (AB _) (.cells #[.bool fr,.bool fh,.bool fe,.bool ft,.bool fs] 137))).below ((AA _ _).alloc (AB _) (.cells #[.int .i64 0] 3)));have gQ:=AF (((C8 w a).below ((AA _ _).alloc (AB _) (.cells #[.bool fr,.bool fh,.bool fe,.bool ft,.bool fs] 137))).below ((AA _ _).alloc (AB _) (.cells #[.int .i64 0] 3)));have kj:=AF (M1 (HR.o.below aL.o) (g:=w.heap.size+2) (L:=0) (by rw [show w.heap.size+2=((w.alloc (Bt a)).alloc (.cells #[.bool fr,.bool fh,.bool fe,.bool ft,.bool fs] 137)).heap.size by simp,Bq];rfl));have f0:(((w.alloc (Bt a)).alloc (.cells #[.bool fr,.bool fh,.bool fe,.bool ft,.bool fs] 137)).alloc (.cells #[.int .i64 0] 3)).cell? ⟨w.heap.size+1,0,none⟩=some (.bool fr):=by go_simp
  have f1:(((w.alloc (Bt a)).alloc (.cells #[.bool fr,.bool fh,.bool fe,.bool ft,.bool fs] 137)).alloc (.cells #[.int .i64 0] 3)).cell? ⟨w.heap.size+1,1,none⟩=some (.bool fh):=by go_simp
  have d0:=dz.o.c 0 _ rfl;have c0:=gQ.o.c 0 _ rfl;have c7:=gQ.o.c 7 _ rfl;have c8:=gQ.o.c 8 _ rfl;have th:=HR.o.max;generalize a.rhos.any (fun r=>decide (r<0))=R at *
  go_enter func91,ntmps91;go_upto_region 4 with fail;generalize ((w.alloc (Bt a)).alloc (.cells #[.bool fr,.bool fh,.bool fe,.bool ft,.bool fs] 137)).alloc (.cells #[.int .i64 0] 3)=W3 at *
  cases fr<;>cases fh
  all_goals (
   go_wp2_with (go_at_call 122;refine kj.o.mono ?_;rintro e w4 ⟨rfl,hb⟩;have bJ:=bt aL hb;clear hb)
   all_goals (
    go_ret;refine⟨Af ?_,by first|exact bJ.o|exact aL.o⟩;rw [HQ.o];clear c0 c7 c8 d0 f0 f1 dz gQ kj HB;simp_all;try omega))
 ·rw [e17] at HQ;have HB:=AF (((AA w.heap.size w).alloc (AB _) (Bt a)).alloc (by simp) (.cells #[.bool fr,.bool fh,.bool fe,.bool ft,.bool fs] 137));have aL:=AF (HB.o.alloc HB.o.size (.cells #[.int .i64 0] 3));have dz:=AF (((C8 w a).below ((AA _ _).alloc (AB _) (.cells #[.bool fr,.bool fh,.bool fe,.bool ft,.bool fs] 137))).below ((AA _ _).alloc (AB _) (.cells #[.int .i64 0] 3)));have gQ:=AF (((C8 w a).below ((AA _ _).alloc (AB _) (.cells #[.bool fr,.bool fh,.bool fe,.bool ft,.bool fs] 137))).below ((AA _ _).alloc (AB _) (.cells #[.int .i64 0] 3)));have kj:=AF (M1 (HR.o.below aL.o) (g:=w.heap.size+2) (L:=0) (by rw [show w.heap.size+2=((w.alloc (Bt a)).alloc (.cells #[.bool fr,.bool fh,.bool fe,.bool ft,.bool fs] 137)).heap.size by simp,Bq];rfl));have f0:(((w.alloc (Bt a)).alloc (.cells #[.bool fr,.bool fh,.bool fe,.bool ft,.bool fs] 137)).alloc (.cells #[.int .i64 0] 3)).cell? ⟨w.heap.size+1,0,none⟩=some (.bool fr):=by go_simp
  have f1:(((w.alloc (Bt a)).alloc (.cells #[.bool fr,.bool fh,.bool fe,.bool ft,.bool fs] 137)).alloc (.cells #[.int .i64 0] 3)).cell? ⟨w.heap.size+1,1,none⟩=some (.bool fh):=by go_simp
  have d0:=dz.o.c 0 _ rfl;have c0:=gQ.o.c 0 _ rfl;have c7:=gQ.o.c 7 _ rfl;have c8:=gQ.o.c 8 _ rfl;have th:=HR.o.max;generalize a.rhos.any (fun r=>decide (r<0))=R at *
  go_enter func91,ntmps91;go_upto_region 4 with fail;generalize ((w.alloc (Bt a)).alloc (.cells #[.bool fr,.bool fh,.bool fe,.bool ft,.bool fs] 137)).alloc (.cells #[.int .i64 0] 3)=W3 at *
  cases fr<;>cases fh
  all_goals (
   go_wp2_with (go_at_call 122;refine kj.o.mono ?_;rintro e w4 ⟨rfl,hb⟩;have bJ:=bt aL hb;clear hb)
   all_goals (
    go_ret;refine⟨Af ?_,by first|exact bJ.o|exact aL.o⟩;rw [HQ.o];clear c0 c7 c8 d0 f0 f1 dz gQ kj HB;simp_all;try omega))
theorem VN(a:AH)(fr fh fe ft fs:Bool)(hr:Ax DE 1 w a.rp a.rn a.rc a.rhos):Calls prog 91 #[DP a,.agg #[.bool fr,.bool fh,.bool fe,.bool ft,.bool fs]] w (RB w (.bool (Pd a fr fh))):=by
 by_cases bf:a.kind=13
 ·exact XB a fr fh fe ft fs hr bf
 ·exact XC a fr fh fe ft fs hr bf
end
section
open Go.Lib
theorem XT(p:Option Addr)(n c:Nat)(w:World):Calls prog 125 #[.slice p n c] w fun e w'=>e=.returned (.func (.func 173) #[] #[.pointer (some ⟨w.heap.size,0,none⟩)])/\w'=w.alloc (.cells #[.slice p n c] 24):=by go_enter func125,ntmps125;go_wp2_with fail;go_ret;exact⟨rfl,rfl⟩
theorem Uj(Bs:Nat)(sv:Value)(xs:List Int)(av:xs.length * 8<=140737488351232)(w:World)(fz:Bs<w.heap.size)(am:w.cell? ⟨Bs,0,none⟩=some sv)(hI:NV w.heap.size w sv xs):Calls prog 171 #[.func (.func 173) #[] #[.pointer (some ⟨Bs,0,none⟩)]] w fun e W'=>∃v,e=.returned v/\A1 DE 1 W' w.heap.size 3 v xs.length xs/\Below w.heap.size w W':=by have HC:=AF (Rf Bs sv xs av w fz am hI);clear am hI;go_enter func171,ntmps171;go_wp2_with (go_at_call 208;refine HC.o.mono ?_;rintro e w2 ⟨v,rfl,aD,hb⟩;have HO:=AF aD;have HB:=AF hb;clear aD hb);go_ret;refine⟨_,rfl,?_,HB.o⟩;show World.ownsRow _ _ _ _ _ _ _;rw [Xk];exact HO.o
theorem ZAQ(h:Ax DE 1 w p n c l):NV w.heap.size w (.slice p n c) l:=by
 rcases h.row with h0|⟨b,o,hp,hb,hc⟩
 ·left;subst h0;have:n=0:=by simpa using h.len.symm
  subst this;exact⟨p,c,rfl,rfl⟩
 ·refine .inr ⟨b,o,c,by rw [hp,h.len],hb,fun j hj=>?_⟩;have:=hc j (l[j]) (AI hj) 0 (.int .i64 l[j]) rfl;rw [AI hj];simpa using this
theorem XO(Bs:Nat)(sv:Value)(xs:List Int)(hn:xs.length<=1000000)(w:World)(fz:Bs<w.heap.size)(am:w.cell? ⟨Bs,0,none⟩=some sv)(hI:NV w.heap.size w sv xs):Calls prog 124 #[.func (.func 173) #[] #[.pointer (some ⟨Bs,0,none⟩)]] w fun e W'=>∃v,e=.returned v/\A1 DE 1 W' w.heap.size 3 v xs.length (Im xs)/\Below w.heap.size w W':=by
 have HC:=AF (Uj Bs sv xs (by omega) w fz am hI);clear am hI;go_enter func124,ntmps124;go_upto_region 2 with(go_at_call 171;refine HC.o.mono ?_;rintro e w2 ⟨v,rfl,aD,hb⟩;have HO:=AF aD;have HB:=AF hb;clear aD hb)
 rcases HO.o.2 with⟨hv,h0⟩|⟨g,cap,cur,hv,hb,hg,a8,hm,hs,ht⟩
 ·subst hv;have hx:xs=[]:=D7 h0;subst hx;go_wp2_with (go_at_call 172;refine(slices_Sort_int_none none 0 w2).mono ?_;rintro e w3 ⟨rfl,rfl⟩);go_ret;exact⟨_,rfl,by rw [show Im []=[] by simp [Im]];exact A1.nil _ _ _ _ _,HB.o⟩
 ·subst hv;clear hg hs ht;go_wp2_with (go_at_call 172;refine(Ol g cap xs.length xs w.heap.size w2 HO.o (by omega)).mono ?_;rintro e w3 ⟨rfl,aR,bT⟩;have iG:=AF aR;have aL:=AF (HB.o.grown bT HB.o.size (fun b ab=>by injection ab with ab;omega));clear aR bT);go_ret;exact⟨_,rfl,iG.o,aL.o⟩
def L8(l:List Int):Bool:=decide (((FN l).length:Int)=l.length)
theorem ZAp(h:Ax DE 1 w p n c l)(hn:n<=1000000):Calls prog 92 #[.slice p n c] w (RB w (.bool (L8 l))):=by
 have HI:=AF (ZAQ h);have cu:=h.len;have cD:=AF cu;have aH:=AF ((AA w.heap.size w).alloc (AB _) (.cells #[.slice p n c] 24))
 have HS:=AF (XO w.heap.size (.slice p n c) l (by omega) (w.alloc (.cells #[.slice p n c] 24)) (by simp) (by rw [Bq];rfl) (by
  rcases HI.o.below aH.o with h|⟨b,off,cap,h1,h2,h3⟩
  ·exact .inl h
  ·exact .inr ⟨b,off,cap,h1,by have:=aH.o.size;omega,h3⟩))
 have HM:Hd (compact (Im l)=FN l):=Je l;clear h cu;go_enter func92,ntmps92
 go_upto_region 2 with(first
  |(go_at_call 125;refine(XT p n c w).mono ?_;rintro e w1 ⟨rfl,rfl⟩)
  |(go_at_call 124;refine HS.o.mono ?_;rintro e w2 ⟨v,rfl,aD,hb⟩;have HO:=AF aD;have HB:=bt aH hb;clear aD hb))
 have uK:∀m:Nat,((m:Int)==(n:Int))=decide ((m:Int)=n):=fun m=>rfl;rcases HO.o.2 with⟨hv,h0⟩|⟨g,cap,cur,hv,hb,hg,a8,hm,hs,ht⟩
 ·subst hv;have hx:l=[]:=D7 h0;subst hx;have ei:n=0:=by simpa using cD.o.symm
  subst ei;go_wp2_with (go_at_call 126;refine(slices_Compact_int_empty none 0 w2).mono ?_;rintro e w3 ⟨rfl,rfl⟩);go_ret;exact⟨rfl,HB.o⟩
 ·subst hv;have eV:l.length<=cap:=a8;clear hg hs ht;have j5:l.length<=1000000000:=by have:=cD.o;omega
  have vb:=AF (Ks g cap l.length (Im l) (w.alloc (.cells #[.slice p n c] 24)).heap.size w2 HO.o eV j5);go_wp2_with (go_at_call 126;refine vb.o.mono ?_;rintro e w3 ⟨m,rfl,kW,aR,bT⟩;have iG:=AF aR;have aL:=AF (HB.o.grown bT HB.o.size (fun b ab=>by injection ab with ab;have:=aH.o.size;omega));clear aR bT);go_ret;refine⟨Af ?_,aL.o⟩;have h1:=iG.o.len DR (by omega);rw [HM.o] at h1;unfold L8;rw [<-h1,cD.o]
/-! The plain law: the document's regions. -/
theorem K5(l:List Int):FN l=l.foldl (fun e a=>NE a e) []:=by obtain⟨h1,h2⟩:=ZCn l [] (by simp [FD]);exact(QV h1 (fun x=>by rw [h2];simp)).symm
theorem RF(l:List Int)(x:Int):FN (l++[x])=NE x (FN l):=by rw [K5,List.foldl_append,<-K5];rfl
theorem Vd{α:Type}{P:List α->Prop}(h0:P [])(h1:∀l x,P l->P (l++[x]))(l:List α):P l:=by
 have:∀m:List α,P m.reverse:=by
  intro m;induction m with
  |nil=>exact h0
  |cons x m ih=>rw [List.reverse_cons];exact h1 _ x ih
 have h:=this l.reverse;rwa [List.reverse_reverse] at h
theorem ZBR(l:List Int):(FN l).length<=l.length:=by refine Vd (P:=fun l=>(FN l).length<=l.length) (by simp [K5]) (fun l x ih=>?_) l;rw [RF];have:=VK x (FN l);simp only [As,Aq,Bc];omega
theorem ZAq(l:List Int):L8 l=true↔∀i x,l[i]?=some x->Kp (l.take i) x=false:=by
 unfold L8;rw [decide_eq_true_iff];refine Vd (P:=fun l=>((FN l).length:Int)=l.length↔∀i x,l[i]?=some x->Kp (l.take i) x=false) (by simp [K5]) (fun l x ih=>?_) l
 ·rw [RF];have h1:=ZBR l;by_cases hx:Kp (FN l) x=true
  ·have h2:NE x (FN l)=FN l:=by unfold NE;rw [AJ hx]
   rw [h2];constructor
   ·intro h;simp only [As,Aq,Bc] at h;omega
   ·intro h;have h3:=h l.length x (by simp)
    have h4:x∈l:=by
     have:x∈FN l:=by simpa [Kp] using hx
     rwa [Ki] at this
    simp [Kp] at h3;exact absurd rfl (h3 x h4)
  ·have h2:NE x (FN l)=IT x (FN l):=by unfold NE;rw [AC hx]
   rw [h2,Js]
   have fY:x∉l:=by
    intro h;apply hx;have:x∈FN l:=by rw [Ki];exact h
    simpa [Kp] using this
   simp only [As,Aq,Bc];constructor
   ·intro h i y hi;by_cases sR:i<l.length
    ·rw [BW sR] at hi;rw [D8 (by omega)];exact ih.1 (by omega) i y hi
    ·have:i=l.length:=by have:=(BJ.1 hi).1;simp at this;omega
     subst this;simp at hi;subst hi;simp [Kp];exact fun y hy e=>fY (e▸hy)
   ·intro h
    have:=ih.2 (fun i y hi=>by
     have sR:i<l.length:=(BJ.1 hi).1;have:=h i y (by rw [BW sR];exact hi);rwa [D8 (by omega)] at this)
    omega
end
def ZCr(a:AH):Bool:=
 GD a.hd a.kn&&Pd a (KL [3,6,11,13,17,18] a.kind) ((a.kind==13)||(a.kind==18))&&(!(a.kind==13)||L8 a.rhos)&&(!(KL [11,13,18] a.kind)||ID a.eff)&&(KL [11,13,18] a.kind||!decide (0<a.en)) &&
  (Mh (KL [11,13,15] a.kind) a.ty&&Mh (a.kind==13) a.res)
theorem Sf(k:Int)(l:List Int):X0 k l l.length=true↔(∀r∈l,¬r<0)/\(k=13->(∀r∈l,¬r<1)/\L8 l=true):=by
 unfold X0;rw [Aj,ZAq];constructor
 ·intro h;have h':∀i x,l[i]?=some x->XD k l i x=true:=by intro i x hx;have hi:=(BJ.1 hx).1;have:=h i (Fl.2 hi);rw [hx] at this;exact this
  refine⟨fun r hr=>?_,fun hk=>⟨fun r hr=>?_,fun i x hx=>?_⟩⟩
  ·obtain⟨i,hi⟩:=Dc hr;have:=h' i r hi;unfold XD at this;simp at this;omega
  ·obtain⟨i,hi⟩:=Dc hr;have:=h' i r hi;unfold XD at this;simp [hk] at this;omega
  ·have:=h' i x hx;unfold XD at this;simp only [hk,beq_self_eq_true,Bz,BO,A5] at this;exact this.2.2
 ·rintro⟨h1,h2⟩ i hi;have hi:=Fl.1 hi;rw [AI hi];have h3:=h1 _ (Be hi);show XD k l i l[i]=true;unfold XD;have e1:decide (l[i]<0)=false:=by simpa using h3
  rw [e1];by_cases hk:k=13
  ·obtain⟨h4,h5⟩:=h2 hk;have h6:=h4 _ (Be hi);have e2:(l[i]==0)=false:=by simp;omega
   rw [e2,h5 i _ (AI hi)];simp
  ·have e2:(k==13)=false:=by simpa using hk
   rw [e2];rfl
theorem ZAl(a:AH)(hr:a.rhos.length=a.rn)(he:a.eff.length=a.en):ZCr a=IR a:=by
 have ib:a.en=0->ID a.eff=true:=by intro h;have:a.eff=[]:=D7 (by omega);rw [this];decide
 have pf:X0 a.kind a.rhos a.rn=(!(a.rhos.any (fun r=>decide (r<if a.kind=13 then 1 else 0)))&&(!(a.kind==13)||L8 a.rhos)):=by
  rw [<-hr,Bu,Sf];by_cases hk:a.kind=13
  ·simp only [hk,if_true,forall_const,beq_self_eq_true,Bool.not_true,ER,AK,BO,EF,Ai];constructor
   ·rintro⟨_,h2,h3⟩;exact⟨h2,h3⟩
   ·rintro⟨h2,h3⟩;exact⟨fun r bW h=>h2 r bW (by omega),h2,h3⟩
  ·have e2:(a.kind==13)=false:=by simpa using hk
   simp only [hk,if_false,e2,Bool.not_false,Bool.true_or,Cy,BO,EF,Ai,false_implies,and_true]
 unfold ZCr IR Pd Mh;rw [pf];generalize a.rhos.any (fun r=>decide (r<if a.kind=13 then 1 else 0))=R;generalize L8 a.rhos=O;generalize GD a.hd a.kn=H;generalize FK a.ty.er=T1;generalize FK a.res.er=T2;generalize JI a.ty.head=P1;generalize JI a.res.head=P2;have e13:(a.kind != 13)=!(a.kind==13):=rfl;have e18:(a.kind != 18)=!(a.kind==18):=rfl;have e0:(a.rho != 0)=!(a.rho==0):=rfl;have e1:decide (a.rho<1)=(decide (a.rho<0)||(a.rho==0)):=by rw [Bu];simp;omega
 have em:decide (0<a.en)=false->ID a.eff=true:=fun h=>ib (by simpa using h);rw [e13,e18,e0,e1];generalize (a.kind==13)=K13 at *
 generalize (a.kind==18)=K18 at *
 generalize (a.kind==17)=K17 at *
 generalize (a.rho==0)=Z at *
 generalize decide (a.rho<0)=N at *
 generalize decide (0<a.rn)=RN at *
 generalize decide (0<a.en)=EN at *
 generalize ID a.eff=M at *
 generalize KL [3,6,11,13,17,18] a.kind=I1 at *
 generalize KL [11,13,18] a.kind=I2 at *
 generalize KL [11,13,15] a.kind=I3 at *
 clear hr he ib pf e13 e18 e0 e1;clear a;grind
structure ZCz(a:AH):Prop where
 k1:1<=a.kind
 k18:a.kind<=18
 kids:DU (if a.kind=17 then 4 else if a.kind=18 then 1 else a.kind)=a.kn
 op:a.kind=9->1<=a.op/\a.op<=5
 op0:a.kind≠9->a.op=0
 n:0<=a.n
 n0:a.kind≠1->a.n=0
 name:(a.kind=2\/a.kind=12\/a.kind=13\/a.kind=18)->D5 a.name=true
 name0:¬(a.kind=2\/a.kind=12\/a.kind=13\/a.kind=18)->a.name.size=0
 arg:(a.kind=11\/a.kind=13\/a.kind=16)->D5 a.arg=true
 arg0:¬(a.kind=11\/a.kind=13\/a.kind=16)->a.arg.size=0
 exn:(a.kind=15\/a.kind=16)->GR a.exn=true
 exn0:¬(a.kind=15\/a.kind=16)->a.exn.size=0
 rho:0<=a.rho
 rho0:KL [3,6,11,13,17,18] a.kind=false->a.rho=0
 rhos:∀r∈a.rhos,0<=r
 rhos0:a.kind≠13->a.kind≠18->a.rn=0
 eff:ID a.eff=true
 eff0:KL [11,13,18] a.kind=false->a.en=0
 ty:KL [11,13,15] a.kind=true->FK a.ty.er=true
 ty0:KL [11,13,15] a.kind=false->JI a.ty.head=true
 res:a.kind=13->FK a.res.er=true
 res0:a.kind≠13->JI a.res.head=true
theorem M6(h:Hf b s q=true):(b=true->q=true)/\(b=false->s.size=0):=by
 unfold Hf at h;cases b
 ·simpa using h
 ·simpa using h
theorem Y0(h:DN ⟨k,op,at_,n,name,arg,exn⟩ m=true) :
 0<=DU k/\(m:Int)=DU k/\(k=9->1<=op/\op<=5)/\(k≠9->op=0)/\0<=n/\(k≠1->n=0) /\
  ((IB k=true->D5 name=true)/\(IB k=false->name.size=0))/\((Kn k=true->D5 arg=true)/\(Kn k=false->arg.size=0))/\((LW k=true->GR exn=true)/\(LW k=false->exn.size=0)):=by
 unfold DN at h
 simp only [AK,BO,A5,BE,Bool.and_eq_false_imp,DC] at h
 obtain⟨⟨⟨⟨⟨h1,h2⟩,h3⟩,h4,h5⟩,⟨h6,h7⟩,h8⟩,⟨h9,mU⟩,cR⟩:=h
 refine⟨by omega,h2,fun hk=>?_,fun hk=>?_,by omega,fun hk=>?_,M6 h9,M6 mU,M6 cR⟩
 ·have:=h4 (by simp [hk]);omega
 ·exact h5 (by simp [hk])
 ·exact h8 (by simp [hk])
theorem Su(k:Int):(IB k=true↔k=2\/k=12\/k=13)/\(IB k=false↔¬(k=2\/k=12\/k=13)):=by
 unfold IB;constructor
 ·simp only [Cs,A3];omega
 ·simp only [A5,AW];omega
theorem Vl(k:Int):(Kn k=true↔k=11\/k=13\/k=16)/\(Kn k=false↔¬(k=11\/k=13\/k=16)):=by
 unfold Kn;constructor
 ·simp only [Cs,A3];omega
 ·simp only [A5,AW];omega
theorem Vm(k:Int):(LW k=true↔k=15\/k=16)/\(LW k=false↔¬(k=15\/k=16)):=by
 unfold LW;constructor
 ·simp only [Cs,A3]
 ·simp only [A5,AW];omega
theorem Yp(h:0<=DU k):1<=k/\k<=16:=by
 by_cases h1:1<=k/\k<=16
 ·exact h1
 ·have:DU k=-1:=by unfold DU;rw [AC (by omega),AC (by omega),AC (by omega),AC (by omega)]
  omega
theorem U4(k:Int):DU k<=3:=by
 unfold DU;split
 ·omega
 ·split
  ·omega
  ·split
   ·omega
   ·split<;>omega
theorem ZAM(k op at_ n:Int)(name arg exn:ByteArray)(m:Nat)(h:GD ⟨k,op,at_,n,name,arg,exn⟩ m=true) :
 1<=k/\k<=18/\DU (if k=17 then 4 else if k=18 then 1 else k)=m/\(k=9->1<=op/\op<=5)/\(k≠9->op=0)/\0<=n/\(k≠1->n=0) /\
  ((k=2\/k=12\/k=13\/k=18)->D5 name=true)/\(¬(k=2\/k=12\/k=13\/k=18)->name.size=0) /\
  ((k=11\/k=13\/k=16)->D5 arg=true)/\(¬(k=11\/k=13\/k=16)->arg.size=0)/\((k=15\/k=16)->GR exn=true)/\(¬(k=15\/k=16)->exn.size=0):=by
 unfold GD at h
 split at h
 ·rename_i bK;have bK:k=17:=bK;subst bK;simp only [P9,AK,A3,JU,Ai] at h;obtain⟨⟨⟨⟨⟨⟨h1,h2⟩,h3⟩,h4⟩,h5⟩,h6⟩,h7⟩:=h;refine⟨by omega,by omega,?_,by omega,fun _=>h1,by omega,fun _=>h2,by omega,fun _=>h5,by omega,fun _=>h3,by omega,fun _=>h4⟩;rw [h7];rfl
 ·rename_i bK;have bK:¬k=17:=bK;split at h
  ·rename_i a7;have a7:k=18:=a7;subst a7;simp only [P9,AK,A3,JU,Ai] at h;obtain⟨⟨⟨⟨⟨⟨h1,h2⟩,h3⟩,h4⟩,h5⟩,h6⟩,h7⟩:=h;refine⟨by omega,by omega,?_,by omega,fun _=>h1,by omega,fun _=>h2,fun _=>h5,by omega,by omega,fun _=>h3,by omega,fun _=>h4⟩;rw [h7];rfl
  ·rename_i a7;have a7:¬k=18:=a7;obtain⟨h1,h2,h3,h4,h5,h6,⟨h7,wl⟩,⟨h8,wn⟩,⟨h9,wo⟩⟩:=Y0 h;obtain⟨iN,dx⟩:=Yp h1;have hm:(m:Int)=DU k:=by have:=U4 k;rw [Nat.min_def] at h2;split at h2<;>omega
   refine⟨iN,by omega,by rw [AC bK,AC a7,hm],h3,h4,h5,h6,fun hk=>h7 ((Su k).1.2 (by omega)),fun hk=>wl ((Su k).2.2 (by omega)),fun hk=>h8 ((Vl k).1.2 hk),fun hk=>wn ((Vl k).2.2 hk),fun hk=>h9 ((Vm k).1.2 hk),fun hk=>wo ((Vm k).2.2 hk)⟩
theorem ZCF(h:IR a=true)(hr:a.rhos.length=a.rn):ZCz a:=by
 unfold IR at h;simp only [AK,BO,A5,Bool.and_eq_false_imp,Cs,BE,Bool.not_eq_false',DD,A3,DC,AW] at h;obtain⟨⟨⟨⟨⟨⟨⟨⟨h1,h2⟩,h3⟩,h4⟩,h5⟩,h6⟩,⟨h7,h8⟩⟩,⟨h9,mU⟩⟩,cR⟩:=h;obtain⟨k1,k2,k3,k4,k5,k6,k7,k8,k9,k10,k11,k12,k13⟩:=ZAM _ _ _ _ _ _ _ _ h1;rw [<-hr,Sf] at h6;refine⟨k1,k2,k3,k4,k5,k6,k7,k8,k9,k10,k11,k12,k13,by omega,fun h=>h4 h,fun r hr=>by have:=h6.1 r hr;omega,fun ha hb=>by have:=h5 ⟨ha,hb⟩;omega,h8,fun h=>by have:=h7 h;omega,h9,mU,fun h=>?_,fun h=>?_⟩
 ·rcases cR with⟨_,cR⟩|⟨cR,_⟩
  ·exact cR
  ·exact absurd h cR
 ·rcases cR with⟨cR,_⟩|⟨_,cR⟩
  ·exact absurd cR h
  ·exact cR
structure GP(a:AH):Prop where
 name:a.name.size<=100
 arg:a.arg.size<=100
 exn:a.exn.size<=100
 rhos:a.rn<=50
 eff:Fg a.eff=false
 ty:II a.ty.er 100
 res:II a.res.er 100
def Ef(t:PA):Prop:=∀a∈Ad.nodes t,GP a
theorem Ef.node(ha:GP a)(hl:∀t∈l,Ef t):Ef (.node a l):=by
 intro x hx;rw [Ad.nodes_node,AS] at hx;rcases hx with rfl|hx
 ·exact ha
 ·rw [BS] at hx;obtain⟨m,hm,hx⟩:=hx;obtain⟨t,ht,rfl⟩:=BI.1 hm;exact hl t ht x hx
structure V8(a:AH):Prop where
 n:GP a
 effx:Gt a.eff=false
 tyx:Mf a.ty.er=true
 resx:Mf a.res.er=true
def Ir(t:PA):Prop:=∀a∈Ad.nodes t,V8 a
theorem Ir.small(h:Ir t):Ef t:=fun a ha=>(h a ha).n
theorem Ir.node(ha:V8 a)(hl:∀t∈l,Ir t):Ir (.node a l):=by
 intro x hx;rw [Ad.nodes_node,AS] at hx;rcases hx with rfl|hx
 ·exact ha
 ·rw [BS] at hx;obtain⟨m,hm,hx⟩:=hx;obtain⟨t,ht,rfl⟩:=BI.1 hm;exact hl t ht x hx
def ZCi(t:PA)(n r:Int):Prop:=-1<=r/\r<=n/\(0<=r->(t.size:Int)+r=n/\Ir t)
def Pj(l:List PA)(n r:Int):Prop:=-1<=r/\r<=n/\(0<=r->((l.map Ad.size).sum:Int)+r=n/\∀t∈l,Ir t)
theorem Pj.step(h:Pj l n r)(h0:0<=r)(h':ZCi t r r'):Pj (l++[t]) n r':=by
 refine⟨h'.1,by have:=h.2.1;have:=h'.2.1;omega,fun hr=>?_⟩;obtain⟨h1,h2⟩:=h.2.2 h0;obtain⟨h3,h4⟩:=h'.2.2 hr;refine⟨?_,fun x hx=>?_⟩
 ·simp only [Ah,AV,Am,Cv,A0,C7];omega
 ·rcases Ac.1 hx with hx|hx
  ·exact h2 x hx
  ·rw [AQ] at hx;subst hx;exact h4
theorem Mk{t:PT}{w:World}(hl:LR.lies w t):Calls prog 87 #[IJ t.head] w fun e w'=>(∃r,e=.returned (.bool r)/\(r=false->II t.er 100/\Mf t.er=true))/\Below w.heap.size w w':=Q0 hl
theorem O4{a:AH}{w:World}{r:Bool}(h:Gt a.eff=r)(ho:Ax Ce 3 w a.ep a.en a.ec a.eff):Calls prog 86 #[.slice a.ep a.en a.ec] w fun e w'=>e=.returned (.bool r)/\w=w':=by subst h;exact Ml _ _ _ _ w ho.len ho.max ho.row
def S6(t:PA)(w:World):Prop:=∀n:Int,0<=n->n<=1000000->Calls prog 57 #[DP t.head,.int .i64 n] w fun e w'=>(∃r:Int,e=.returned (.int .i64 r)/\ZCi t n r)/\Below w.heap.size w w'
theorem Ru(hN:JZ w a l)(hf:∀x∈l,∀W,Below w.heap.size w W->S6 x W):S6 (.node a l) w:=by
 intro n h0 hn;have HN:=AF hN;have HF:=AF hf;have fL:=hN.own.kmax;have yF:=hN.own.rhos.max;have kX:=hN.own.name;have xv:=hN.own.arg;have uT:=hN.own.exn;have HA:=AF (C8 w a);have aK:=AF ((AA w.heap.size w).alloc (AB _) (Bt a));show Calls _ _ #[DP a,.int .i64 n] w _;clear hN hf;go_enter func57,ntmps57;go_upto_region 2 with fail;generalize w.alloc (Bt a)=W0 at *
 go_cut [47] from 8 to 47 (fun s47 wx=>∃b,s47=.bool b/\(b=false->V8 a)/\Below W0.heap.size W0 wx)
 case first=>
  obtain⟨_,_,_,_,q4,q5,q6,q7,q8,q9,q10,q11,q12,q13,q14,q15,q16,q17,_⟩:=HA.o.all;by_cases h1:100<a.name.size
  ·have e1:decide ((100:Int)<(a.name.size:Int))=true:=by simp;omega
   clear h1;go_wp2_with fail;go_meet
   case rel=>exact⟨true,rfl,(fun h=>by cases h),AA _ _⟩
  have e1:decide ((100:Int)<(a.name.size:Int))=false:=by simp;omega
  by_cases h2:100<a.arg.size
  ·have e2:decide ((100:Int)<(a.arg.size:Int))=true:=by simp;omega
   clear h1 h2;go_wp2_with fail;go_meet
   case rel=>exact⟨true,rfl,(fun h=>by cases h),AA _ _⟩
  have e2:decide ((100:Int)<(a.arg.size:Int))=false:=by simp;omega
  by_cases h3:100<a.exn.size
  ·have e3:decide ((100:Int)<(a.exn.size:Int))=true:=by simp;omega
   clear h1 h2 h3;go_wp2_with fail;go_meet
   case rel=>exact⟨true,rfl,(fun h=>by cases h),AA _ _⟩
  have e3:decide ((100:Int)<(a.exn.size:Int))=false:=by simp;omega
  by_cases h4:50<a.rn
  ·have e4:decide ((50:Int)<(a.rn:Int))=true:=by simp;omega
   clear h1 h2 h3 h4;go_wp2_with fail;go_meet
   case rel=>exact⟨true,rfl,(fun h=>by cases h),AA _ _⟩
  have e4:decide ((50:Int)<(a.rn:Int))=false:=by simp;omega
  have bz:Hd (a.name.size<=100/\a.arg.size<=100/\a.exn.size<=100/\a.rn<=50):=by show _/\_;omega
  have jp:=AF (HN.o.own.eff.below aK.o);clear h1 h2 h3 h4;cases hg:Gt a.eff
  ·have HG:=AF hg;clear hg;go_wp2_with fail;refine(O4 HG.o jp.o).mono ?_;rintro e w1 ⟨rfl,rfl⟩;go_wp2_with fail;refine(Mk (LR.lies_below aK.o _ HN.o.own.ty)).mono ?_;rintro e w2 ⟨⟨r,rfl,hr⟩,hb⟩;have HR:=AF hr;have aF:=AF hb;have iC:=AF (HA.o.below hb);clear hb hr q4 q5 q6 q7 q8 q9 q10 q11 q12 q13 q14 q15 q16 q17;cases r
   ·obtain⟨_,_,_,_,q4,q5,q6,q7,q8,q9,q10,q11,q12,q13,q14,q15,q16,q17,_⟩:=iC.o.all;go_wp2_with fail;refine(Mk (LR.lies_below (aK.o.trans (aF.o.mono aK.o.size)) _ HN.o.own.res)).mono ?_;rintro e w3 ⟨⟨r',rfl,hr⟩,hb⟩;have bQ:=AF hr;have aL:=bt aF hb;clear hb hr q4 q5 q6 q7 q8 q9 q10 q11 q12 q13 q14 q15 q16 q17;go_wp2_with fail;go_meet
    case rel=>exact⟨r',rfl,fun h=>⟨⟨bz.o.1,bz.o.2.1,bz.o.2.2.1,bz.o.2.2.2,SR HG.o,(HR.o (by first|rfl|trivial)).1,(bQ.o h).1⟩,HG.o,(HR.o (by first|rfl|trivial)).2,(bQ.o h).2⟩,aL.o⟩
   ·go_wp2_with fail;go_meet
    case rel=>exact⟨true,rfl,(fun h=>by cases h),aF.o⟩
  ·have HG:=AF hg;clear hg;go_wp2_with fail;refine(O4 HG.o jp.o).mono ?_;rintro e w1 ⟨rfl,rfl⟩;go_wp2_with fail;go_meet
   case rel=>exact⟨true,rfl,(fun h=>by cases h),AA _ _⟩
 case rest=>
  obtain⟨b,rfl,hs,hb⟩:=hcut;have dg:=AF hs;have HB:=bt aK hb;have j9:=AF (HA.o.below hb);clear hb hs;cases b
  ·have xJ:w.heap.size<wc.heap.size:=(AO.1 j9.o.blk).1;have cL:=AF (HN.o.below HB.o);go_upto_region 4 with fail;go_wp2_with fail;go_loopw [1,5] (fun u i wr=>∃(k:Nat) (r:Int),k<=a.kn/\i=.int .i64 k/\u=.int .i64 r/\Pj (l.take k) (n-1) r/\Below wc.heap.size wc wr) (fun _ i _=>a.kn-(intOf i).toNat)
   case atStart=>exact⟨0,n-1,by omega,rfl,by go_num,⟨by omega,by omega,fun _=>⟨by simp,fun t ht=>by simp at ht⟩⟩,AA _ _⟩
   case round=>
    obtain⟨k,r,hk,rfl,rfl,gM,hb⟩:=hrel;have iN:=gM.1;have dx:=gM.2.1;have mO:=AF gM;have ah:=AF hb;clear gM hb;have q18:wr.cell? ⟨w.heap.size,18,none⟩=some (.slice a.kp a.kn a.kc):=(j9.o.below ah.o).c 18 _ rfl;by_cases aG:k<a.kn
    ·by_cases fl:0<=r
     ·obtain⟨x,hx⟩:=(cL.o.rowT).at (j:=k) aG;have HE:=AF hx;obtain⟨b,o,bV,bB,am⟩:=(cL.o.rowT.below ah.o).kid hx;have dc:=AF am;rw [bV] at q18;clear hx bB bV am;go_wp2_with (refine lm (FS x.head) dc.o.c underlying31 ?_);refine Calls.mono (HF.o x (AE HE.o) wr (HB.o.trans (ah.o.mono HB.o.size)) r fl (by omega)) ?_;rintro e w2 ⟨⟨r',rfl,aW⟩,hb⟩;have bP:=AF aW;have aF:=bt ah hb;clear aW hb q18;go_wp2_with fail;go_roundw
      case rel=>exact⟨k+1,r',by omega,by go_num,rfl,by rw [BG HE.o];exact mO.o.step fl bP.o,aF.o⟩
      case measure=>simp [intOf];omega
     ·have hd:decide (0<=r)=false:=by simpa using fl
      go_wp2_with fail;go_ret;exact⟨⟨r,rfl,by have:=mO.o;refine⟨this.1,by omega,fun h=>absurd h (by omega)⟩⟩,HB.o.trans (ah.o.mono HB.o.size)⟩
    ·have ai:k=a.kn:=by omega
     have h:=mO.o;rw [Bb (by rw [cL.o.kids.len];omega)] at h;have H:=AF h;clear ai h;go_wp2_with fail;go_ret;refine⟨⟨r,rfl,H.o.1,by omega,fun h0=>?_⟩,HB.o.trans (ah.o.mono HB.o.size)⟩;obtain⟨h1,h2⟩:=H.o.2.2 h0;refine⟨by rw [Ad.size_node];omega,Ir.node (dg.o (by first|rfl|trivial)) h2⟩
  ·go_wp2_with fail;go_ret;exact⟨⟨-1,rfl,by omega,by omega,fun h=>absurd h (by omega)⟩,HB.o⟩
theorem Wq(t:PA):∀w,LA.lies w t->S6 t w:=by refine Ad.ind (P:=fun(t:PA)=>∀w,LA.lies w t->S6 t w) (fun a l ih=>?_) t;intro w hl;have HN:=Gh hl;exact Ru HN (fun x hx W hW=>ih x hx W (LA.lies_below hW x (HN.each x hx)))
theorem Qz(hl:LA.lies w t):Calls prog 33 #[DP t.head] w fun e w'=>(∃r,e=.returned (.bool r)/\(r=false->t.size<=400/\Ir t))/\Below w.heap.size w w':=by
 have aK:=AF ((AA w.heap.size w).alloc (AB _) (Bt t.head));have HL:=AF (Wq t _ (LA.lies_below ((AA w.heap.size w).alloc (AB _) (Bt t.head)) t hl) 400 (by omega) (by omega));have HA:=AF (C8 w t.head);obtain⟨a,l⟩:=t;show Calls _ _ #[DP a] w _;clear hl;go_enter func33,ntmps33;go_wp2_with (refine lw (HA.o.blk) underlying31 ?_);refine Calls.mono HL.o ?_;rintro e w1 ⟨⟨r,rfl,aW⟩,hb⟩;have bP:=AF aW;have HB:=bt aK hb;clear aW hb;go_wp2_with fail;go_ret;refine⟨⟨_,rfl,fun h=>?_⟩,HB.o⟩;have h0:0<=r:=by simpa using h
 obtain⟨h1,h2⟩:=bP.o.2.2 h0;exact⟨by omega,h2⟩
end Go.Proofs.YtkdjnegfnhldpaaGreatDoor
