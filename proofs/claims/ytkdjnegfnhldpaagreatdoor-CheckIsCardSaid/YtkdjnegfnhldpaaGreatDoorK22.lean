/- Part 22. -/
import Derived.RangeFuncNested
import Derived.Test.YtkdjnegfnhldpaaGreatDoorK21
set_option linter.unusedVariables false
set_option maxRecDepth 100000
set_option linter.unusedSimpArgs false
set_option maxHeartbeats 40000000
namespace Go.Proofs.YtkdjnegfnhldpaaGreatDoor
open Go.Proofs.Tryz Go.RowKit
section
open Go.Shelf
attribute [local go_sem] Oper.semAt_some
def FM(env:List BV)(k:Nat):List (Int×BV):=(List.range k).filterMap (fun j=>(env[env.length-1-j]?).map (fun x=>(((env.length-1-j:Nat):Int),x)))
theorem LC(env:List BV)(k:Nat){x:BV}(h:env[env.length-1-k]?=some x):FM env (k+1)=FM env k++[(((env.length-1-k:Nat):Int),x)]:=by simp [FM,List.range_succ,List.filterMap_append,h]
theorem JS(env:List BV){k:Nat}(hk:k≤env.length):(FM env k).map (·.2)=env.reverse.take k:=by
 induction k with
 |zero=>simp [FM]
 |succ k ih=>
  have aF:env.length-1-k<env.length:=by omega
  rw [LC env k (List.getElem?_eq_getElem aF),List.map_append,ih (by omega)];have h2:env.reverse[k]?=some env[env.length-1-k]:=by rw [List.getElem?_reverse (by omega),List.getElem?_eq_getElem aF]
  rw [AI h2];rfl
theorem Oq(F:Fence)(n:Nat)(h7:F.fn 186)(d9:F.round=none)(hn:1≤n)(l Bs n₀ b off len cap:Nat)(env:List BV)(aG:env.length=len)(gC:len≤1000000)(hb:b<n₀)(sO:Bs<n₀)(J Jx:List (Int×BV)→World→Prop)
 (hY:∀pre x W,J pre W→pre.length<len→YieldAt F (n-1) prog l #[.int .i64 x.1,K8 x.2] W fun e W'=>
  (e=.returned (.bool true)∧J (pre++[x]) W'∧Below n₀ W W')∨(e=.returned (.bool false)∧Jx (pre++[x]) W'))
 (W:World) (fS:W.cell? ⟨Bs,0,none⟩=some (.slice (some ⟨b,off,none⟩) len cap)) (hc:∀j x,env[j]?=some x→∀i v,(FV x)[i]?=some v→W.cell? ⟨b,off+j * 6+i,none⟩=some v) (h0:J [] W) :
 CallsIn F n prog 186 #[.func (.yield l) #[] #[],.pointer (some ⟨Bs,0,none⟩)] W fun e W'=>(∃v,e=.returned v) ∧
  ((∃ys,ys=FM env len∧J ys W')∨(∃pre,(∃k,k≤len∧pre=FM env k)∧Jx pre W')):=by
 refine callsIn_of_wp func186 rfl h7 ?_ d9
 simp only [ntmps186,List.size_toArray,List.length_cons,List.length_nil,Nat.reduceAdd,Nat.reduceSub,Array.replicate_succ,Array.replicate_zero,List.push_toArray,List.append_toArray,List.nil_append,List.cons_append]
 gi_wp2
 gi_loopw [3] (fun i wr=>∃k:Nat,k≤len∧i=.int .i64 ((len:Int)-1-k)∧J (FM env k) wr∧Below n₀ W wr)
  (fun i _=>(intOf i+1).toNat)
 case atStart=>exact⟨0,Nat.zero_le _,by simp,by simpa [FM] using h0,Below.refl _ _⟩
 case round=>
  obtain⟨k,hk,rfl,jT,lZ⟩:=hrel;have sP:=(lZ.cell (p:=⟨Bs,0,none⟩) sO).trans fS;by_cases aF:k<len
  ·obtain⟨x,hx⟩:=AM (l:=env) (j:=len-1-k) (by omega);have pD:((len:Int)-1-k)=((len-1-k:Nat):Int):=by omega
   have fz:∀i v,(FV x)[i]?=some v→wr.cell? ⟨b,off+(len-1-k) * 6+i,none⟩=some v:=fun i v hv=>(lZ.cell (p:=⟨b,off+(len-1-k) * 6+i,none⟩) hb).trans (hc _ x hx i v hv);have c0:wr.cell? ⟨b,off+(len-1-k) * 6,none⟩=some (.string x.name):=fz 0 _ rfl;have c1:=fz 1 _ rfl;have c2:=fz 2 _ rfl;have c3:=fz 3 _ rfl;have c4:=fz 4 _ rfl;have c5:=fz 5 _ rfl;have tB:(FM env k).length<len:=by have:=congrArg List.length (JS env (k:=k) (by omega));simp at this;omega
   obtain⟨fn,tmps,assign,body,hy,hR⟩:=hY _ (((len-1-k:Nat):Int),x) wr jT tB;have ip:=LC env k (x:=x) (by rw [aG];exact hx);rw [aG] at ip;have ds:len-1-k<len:=by omega
   rw [pD];gi_wp2;refine hR.mono ?_;rintro e W3 (⟨rfl,oy,gA⟩|⟨rfl,km⟩)
   ·gi_wp2;go_roundw
    case rel=>exact⟨k+1,by omega,by go_num,by rw [ip];exact oy,lZ.trans gA⟩
    case measure=>simp [intOf]<;>omega
   ·gi_wp2;refine bodyPost_ret (results_none rfl _ _ _) rfl ?_;exact⟨⟨_,rfl⟩,.inr ⟨_,⟨k+1,by omega,ip.symm⟩,km⟩⟩
  ·obtain rfl:k=len:=by omega
   have mr:((k:Int)-1-k)=-1:=by omega
   rw [mr];gi_wp2;go_end0;exact⟨⟨_,rfl⟩,.inl ⟨_,rfl,jT⟩⟩
theorem P3(F:Fence)(n:Nat)(h5:F.fn 134)(d9:F.round=none)(p:Option Addr)(m c:Nat)(w:World):CallsIn F n prog 134 #[.slice p m c] w fun e w'=>e=.returned (.func (.func 186) #[] #[.pointer (some ⟨w.heap.size,0,none⟩)])∧w'=w.alloc (.cells #[.slice p m c] 82):=by refine callsIn_of_wp func134 rfl h5 ?_ d9;simp only [ntmps134,List.size_toArray,List.length_cons,List.length_nil,Nat.reduceAdd,Nat.reduceSub,Array.replicate_succ,Array.replicate_zero,List.push_toArray,List.append_toArray,List.nil_append,List.cons_append];gi_wp2;go_ret;exact⟨rfl,rfl⟩
theorem Kf{p:Option Addr}{c:Nat}(F:Fence)(n:Nat)(h7:F.fn 186)(d9:F.round=none)(l Bs:Nat)(J:List (Int×BV)→World→Prop)(W:World)(fS:W.cell? ⟨Bs,0,none⟩=some (.slice p 0 c))(h0:J [] W):CallsIn F n prog 186 #[.func (.yield l) #[] #[],.pointer (some ⟨Bs,0,none⟩)] W fun e W'=>(∃v,e=.returned v)∧J [] W':=by
 refine callsIn_of_wp func186 rfl h7 ?_ d9;simp only [ntmps186,List.size_toArray,List.length_cons,List.length_nil,Nat.reduceAdd,Nat.reduceSub,Array.replicate_succ,Array.replicate_zero,List.push_toArray,List.append_toArray,List.nil_append,List.cons_append];gi_wp2;gi_loopw [3] (fun i wr=>i=.int .i64 (-1)∧J [] wr) (fun _ _=>0)
 case atStart=>exact⟨rfl,h0⟩
 case round=>obtain⟨rfl,jT⟩:=hrel;gi_wp2;go_end0;exact⟨⟨_,rfl⟩,jT⟩
theorem MO(F:Fence)(n:Nat)(h7:F.fn 186)(d9:F.round=none)(hn:1≤n)(Bs:Nat){p:Option Addr}{m c:Nat}{env:List BV}(w:World)(hr:AE FV 6 w p m c env)(hm:m≤1000000)(W0:World)(aY:Below w.heap.size w W0)(fS:Bs<W0.heap.size)(am:W0.cell? ⟨Bs,0,none⟩=some (.slice p m c)):SeqStopsK F n prog 186 #[.pointer (some ⟨Bs,0,none⟩)] (fun x:Int×BV=>#[Value.int .i64 x.1,K8 x.2]) (Below W0.heap.size) (fun ys=>ys.map (·.2)=env.reverse) (fun pre=>(pre.map (·.2)) <+: env.reverse) env.length W0:=fun l J Jx W hW _ _ hY h0=>by
 have jU:=(hW.cell (p:=⟨Bs,0,none⟩) fS).trans am;have aG:=hr.len;rcases hr.row with h|⟨b,off,rfl,hb,fz⟩
 ·subst h;obtain rfl:m=0:=by simpa using aG.symm
  exact(Kf F n h7 d9 l Bs J W jU h0).mono fun e W' ⟨he,hj⟩=>⟨he,.inl ⟨[],rfl,hj⟩⟩
 ·have kt:b<W0.heap.size:=Nat.lt_of_lt_of_le hb aY.size;refine(Oq F n h7 d9 hn l Bs W0.heap.size b off m c env aG hm kt fS J Jx (by rw [←aG];exact hY) W jU (fun j x hx i v hv=>(hW.cell (p:=⟨b,off+j * 6+i,none⟩) kt).trans ((aY.cell (p:=⟨b,off+j * 6+i,none⟩) hb).trans (fz j x hx i v hv))) h0).mono ?_;rintro e W' ⟨he,⟨ys,rfl,hj⟩|⟨pre,⟨k,hk,rfl⟩,hj⟩⟩
  ·exact⟨he,.inl ⟨_,by show (FM env m).map (·.2)=env.reverse;rw [JS env (by omega),List.take_of_length_le (by simp<;>omega)],hj⟩⟩
  ·exact⟨he,.inr ⟨_,by show (FM env k).map (·.2) <+: env.reverse;rw [JS env (by omega)];exact List.take_prefix _ _,hj⟩⟩
def EX(env:List BV)(x:ByteArray):Option BV:=env.reverse.find? (fun b=>decide (b.name=x))
theorem Gg(env:List BV)(x:ByteArray):Df (DZ env) x=(EX env x).map BV.er:=by unfold Df EX DZ;rw [←List.map_reverse,List.find?_map];rfl
abbrev Pl:Value:=.agg #[.string ⟨#[]⟩,.int .u8 0,.int .i64 0,.slice none 0 0,.slice none 0 0,.pointer none]
abbrev UU(b:BV):Obj:=.cells #[.string b.name,.int .u8 b.ty.head.kind,.int .i64 b.ty.head.rho,.slice b.ty.head.ep b.ty.head.en b.ty.head.ec,.slice b.ty.head.kp b.ty.head.kn b.ty.head.kc,.pointer (b.fn.map (fun x=>⟨x.2,0,none⟩))] 145
structure RK(w W:World)(name:ByteArray)(r:Obj)(ok:Bool):Prop where
 b1:W.heap[w.heap.size+1]?=some (.cells #[.string name] 9 (0,0))
 b2:W.heap[w.heap.size+2]?=some r
 b3:W.heap[w.heap.size+3]?=some (.cells #[.bool ok] 4 (0,0))
 below:Below w.heap.size w W
 size:w.heap.size+5≤W.heap.size
theorem RK.own{β:Type}{w:World}{name:ByteArray}{r:Obj}{ok:Bool}(hr:r.isCells=true){B:Nat}(hB:w.heap.size≤B):OwnFrom B (fun(_:β) W=>RK w W name r ok):=fun s W W' row hs hg aD=>by
 have ne:∀(k:Nat) (o:Obj),W.heap[k]?=some o→o.isCells=true→some k≠row:=fun k o hk ho e=>by obtain⟨_,o',ii,hc⟩:=aD k e.symm;rw [hk] at ii;cases ii;rw [ho] at hc;cases hc
 have lt:∀(k:Nat) (o:Obj),W.heap[k]?=some o→k<W.heap.size:=fun k o hk=>(Array.getElem?_eq_some_iff.1 hk).1;exact⟨(hg.block _ (lt _ _ hs.b1) (ne _ _ hs.b1 rfl)).trans hs.b1,(hg.block _ (lt _ _ hs.b2) (ne _ _ hs.b2 hr)).trans hs.b2,(hg.block _ (lt _ _ hs.b3) (ne _ _ hs.b3 rfl)).trans hs.b3,hs.below.grown hg hs.below.size (fun k e=>Nat.le_trans hB (aD k e).1),Nat.le_trans hs.size hg.size⟩
def DX(env:List BV)(name:ByteArray)(e:Ending):Prop:=
 match EX env name with
 |some b=>e=.returned (.tuple #[K8 b,.bool true])
 |none=>e=.returned (.tuple #[Pl,.bool false])
theorem Uj{w W:World}{name:ByteArray}{y0 y1 y2 y3 y4 y5:Value}{t:TypeId}{ok:Bool}(hF:RK w W name (.cells #[y0,y1,y2,y3,y4,y5] t (0,0)) ok)(u0 u1 u2 u3 u4 u5:Value)(b:Bool):RK w (((((((W.setCell ⟨w.heap.size+1+1,0,none⟩ u0).setCell ⟨w.heap.size+1+1,1,none⟩ u1).setCell ⟨w.heap.size+1+1,2,none⟩ u2).setCell ⟨w.heap.size+1+1,3,none⟩ u3).setCell ⟨w.heap.size+1+1,4,none⟩ u4).setCell ⟨w.heap.size+1+1,5,none⟩ u5).setCell ⟨w.heap.size+1+1+1,0,none⟩ (.bool b)) name (.cells #[u0,u1,u2,u3,u4,u5] t (0,0)) b∧KeepsOthers W (((((((W.setCell ⟨w.heap.size+1+1,0,none⟩ u0).setCell ⟨w.heap.size+1+1,1,none⟩ u1).setCell ⟨w.heap.size+1+1,2,none⟩ u2).setCell ⟨w.heap.size+1+1,3,none⟩ u3).setCell ⟨w.heap.size+1+1,4,none⟩ u4).setCell ⟨w.heap.size+1+1,5,none⟩ u5).setCell ⟨w.heap.size+1+1+1,0,none⟩ (.bool b)):=by
 have aF:=hF.size;have h6:=AZ (o:=5) u5 (AZ (o:=4) u4 (AZ (o:=3) u3 (AZ (o:=2) u2 (AZ (o:=1) u1 (AZ (o:=0) u0 hF.b2)))));have bV:=D1 (D1 (D1 (D1 (D1 (AL W (w.heap.size+1+1) 0 u0) (AL _ (w.heap.size+1+1) 1 u1) (fun b _ h=>h)) (AL _ (w.heap.size+1+1) 2 u2) (fun b _ h=>h)) (AL _ (w.heap.size+1+1) 3 u3) (fun b _ h=>h)) (AL _ (w.heap.size+1+1) 4 u4) (fun b _ h=>h)) (AL _ (w.heap.size+1+1) 5 u5) (fun b _ h=>h);have qg:=((((KeepsOthers.setCell W ⟨w.heap.size+1+1,0,none⟩ u0).trans (KeepsOthers.setCell _ ⟨w.heap.size+1+1,1,none⟩ u1)).trans (KeepsOthers.setCell _ ⟨w.heap.size+1+1,2,none⟩ u2)).trans (KeepsOthers.setCell _ ⟨w.heap.size+1+1,3,none⟩ u3)).trans ((KeepsOthers.setCell _ ⟨w.heap.size+1+1,4,none⟩ u4).trans (KeepsOthers.setCell _ ⟨w.heap.size+1+1,5,none⟩ u5));generalize ((((((W.setCell ⟨w.heap.size+1+1,0,none⟩ u0).setCell ⟨w.heap.size+1+1,1,none⟩ u1).setCell ⟨w.heap.size+1+1,2,none⟩ u2).setCell ⟨w.heap.size+1+1,3,none⟩ u3).setCell ⟨w.heap.size+1+1,4,none⟩ u4).setCell ⟨w.heap.size+1+1,5,none⟩ u5)=W6 at h6 bV qg ⊢;have jA:=AL W6 (w.heap.size+1+1+1) 0 (.bool b);have dq:W6.heap[w.heap.size+1+1+1]?=some (.cells #[.bool ok] 4 (0,0)):=(bV.block _ (by omega) (fun e=>by injection e with e;omega)).trans hF.b3;have h7:=AZ (o:=0) (.bool b) dq;have aU:=bV.size;refine⟨⟨?_,?_,by simpa using h7,?_,Nat.le_trans (Nat.le_trans aF bV.size) jA.size⟩,qg.trans (KeepsOthers.setCell _ _ _)⟩
 ·exact(jA.block _ (by omega) (fun e=>by injection e with e;omega)).trans ((bV.block _ (by omega) (fun e=>by injection e with e;omega)).trans hF.b1)
 ·refine(jA.block _ (by omega) (fun e=>by injection e with e;omega)).trans ?_;simpa using h6
 ·exact(hF.below.grown bV hF.below.size (fun k e=>by injection e with e;omega)).grown jA (by have:=hF.below.size;omega) (fun k e=>by injection e with e;omega)
theorem RK.cells{w W:World}{name:ByteArray}{y0 y1 y2 y3 y4 y5:Value}{t:TypeId}{ok:Bool}(h:RK w W name (.cells #[y0,y1,y2,y3,y4,y5] t (0,0)) ok):W.cell? ⟨w.heap.size+1+1,0,none⟩=some y0∧W.cell? ⟨w.heap.size+1+1,1,none⟩=some y1∧W.cell? ⟨w.heap.size+1+1,2,none⟩=some y2∧W.cell? ⟨w.heap.size+1+1,3,none⟩=some y3∧W.cell? ⟨w.heap.size+1+1,4,none⟩=some y4∧W.cell? ⟨w.heap.size+1+1,5,none⟩=some y5∧W.cell? ⟨w.heap.size+1+1+1,0,none⟩=some (.bool ok):=by refine⟨?_,?_,?_,?_,?_,?_,?_⟩<;>simp only [World.cell?,h.b2,h.b3]<;>rfl
theorem RK.put{w W:World}{name:ByteArray}{r:Obj}{ok:Bool}(hr:r.isCells=true){D:Nat}(h:RK w W name r ok)(hD:w.heap.size≤D){o:Obj}(ho:W.heap[D]?=some o)(hc:o.isCells=false)(o':Obj):RK w (W.putObj D o') name r ok:=(RK.own (β:=Unit) (B:=w.heap.size) hr (Nat.le_refl _)) () W _ (some D) h (grownBy_putObj' W D o') (fun r e=>by cases e;exact⟨hD,o,ho,hc⟩)
theorem Rh{env:List BV}{q:List (Int×BV)}{x:Int×BV}{name:ByteArray}(h:((q++[x]).map (·.2)) <+: env.reverse)(aS:∀y∈q,y.2.name≠name)(hx:x.2.name=name):EX env name=some x.2:=by
 obtain⟨rest,hr⟩:=h;unfold EX;rw [←hr,List.map_append,List.append_assoc,List.find?_append];have h1:(q.map (·.2)).find? (fun b=>decide (b.name=name))=none:=by rw [List.find?_eq_none];intro b hb;obtain⟨y,hy,rfl⟩:=List.mem_map.1 hb;simpa using aS y hy
 rw [h1];simp [hx]
theorem TT{env:List BV}{ys:List (Int×BV)}{name:ByteArray}(h:ys.map (·.2)=env.reverse)(aS:∀y∈ys,y.2.name≠name):EX env name=none:=by unfold EX;rw [←h,List.find?_eq_none];intro b hb;obtain⟨y,hy,rfl⟩:=List.mem_map.1 hb;simpa using aS y hy
theorem N1(F:Fence)(n:Nat)(h3:F.fn 96)(h5:F.fn 134)(h7:F.fn 186)(d9:F.round=none)(hn:6≤n){w:World}{p:Option Addr}{m c:Nat}{env:List BV}(hr:AE FV 6 w p m c env)(hm:m≤1000000)(rv:Value)(name:ByteArray):CallsIn F n prog 96 #[.agg #[.slice p m c,rv],.string name] w fun e w'=>DX env name e∧Below w.heap.size w w':=by
 have h1:1≤n:=by omega
 refine callsIn_of_wp_marks func96 rfl h3 ?_ d9;simp only [ntmps96,List.size_toArray,List.length_cons,List.length_nil,Nat.reduceAdd,Nat.reduceSub,Array.replicate_succ,Array.replicate_zero,List.push_toArray,List.append_toArray,List.nil_append,List.cons_append];gi_wp2_with (gi_at_call 134;refine(P3 F (n-1) h5 d9 _ _ _ _).mono ?_;rintro e w' ⟨rfl,rfl⟩)
 have ox:RK w (((((w.alloc (.cells #[.slice p m c,rv] 84)).alloc (.cells #[.string name] 9)).alloc (.cells #[.string ⟨#[]⟩,.int .u8 0,.int .i64 0,.slice none 0 0,.slice none 0 0,.pointer none] 145)).alloc (.cells #[.bool false] 4)).alloc (.cells #[.slice p m c] 82)) name (.cells #[.string ⟨#[]⟩,.int .u8 0,.int .i64 0,.slice none 0 0,.slice none 0 0,.pointer none] 145 (0,0)) false:=by
  have e1:=heap_alloc_new (w.alloc (.cells #[.slice p m c,rv] 84)) (.cells #[.string name] 9);have e2:=heap_alloc_new ((w.alloc (.cells #[.slice p m c,rv] 84)).alloc (.cells #[.string name] 9)) (.cells #[.string ⟨#[]⟩,.int .u8 0,.int .i64 0,.slice none 0 0,.slice none 0 0,.pointer none] 145);have e3:=heap_alloc_new (((w.alloc (.cells #[.slice p m c,rv] 84)).alloc (.cells #[.string name] 9)).alloc (.cells #[.string ⟨#[]⟩,.int .u8 0,.int .i64 0,.slice none 0 0,.slice none 0 0,.pointer none] 145)) (.cells #[.bool false] 4);simp only [World.size_alloc] at e1 e2 e3;refine⟨?_,?_,?_,?_,by simp⟩
  ·rw [Below.heap_alloc _ _ _ (by simp<;>omega),Below.heap_alloc _ _ _ (by simp<;>omega),Below.heap_alloc _ _ _ (by simp)];exact e1
  ·rw [Below.heap_alloc _ _ _ (by simp<;>omega),Below.heap_alloc _ _ _ (by simp)];exact e2
  ·rw [Below.heap_alloc _ _ _ (by simp)];exact e3
  ·exact(((((Below.refl w.heap.size w).alloc (Nat.le_refl _) _).alloc (by simp) _).alloc (by simp<;>omega) _).alloc (by simp<;>omega) _).alloc (by simp<;>omega) _
 have am:(((((w.alloc (.cells #[.slice p m c,rv] 84)).alloc (.cells #[.string name] 9)).alloc (.cells #[.string ⟨#[]⟩,.int .u8 0,.int .i64 0,.slice none 0 0,.slice none 0 0,.pointer none] 145)).alloc (.cells #[.bool false] 4)).alloc (.cells #[.slice p m c] 82)).cell? ⟨w.heap.size+1+1+1+1,0,none⟩=some (.slice p m c):=by have e:=heap_alloc_new ((((w.alloc (.cells #[.slice p m c,rv] 84)).alloc (.cells #[.string name] 9)).alloc (.cells #[.string ⟨#[]⟩,.int .u8 0,.int .i64 0,.slice none 0 0,.slice none 0 0,.pointer none] 145)).alloc (.cells #[.bool false] 4)) (.cells #[.slice p m c] 82);simp only [World.size_alloc] at e;simp only [World.cell?,e];rfl
 have aU:(((((w.alloc (.cells #[.slice p m c,rv] 84)).alloc (.cells #[.string name] 9)).alloc (.cells #[.string ⟨#[]⟩,.int .u8 0,.int .i64 0,.slice none 0 0,.slice none 0 0,.pointer none] 145)).alloc (.cells #[.bool false] 4)).alloc (.cells #[.slice p m c] 82)).heap.size=w.heap.size+5:=by simp
 generalize ((((w.alloc (.cells #[.slice p m c,rv] 84)).alloc (.cells #[.string name] 9)).alloc (.cells #[.string ⟨#[]⟩,.int .u8 0,.int .i64 0,.slice none 0 0,.slice none 0 0,.pointer none] 145)).alloc (.cells #[.bool false] 4)).alloc (.cells #[.slice p m c] 82)=W0 at ox am aU ⊢
 refine wpIn_rangeFunc_ownH d9 h1 (gf:=186) (lb:=#[.pointer (some ⟨w.heap.size+1+1+1+1,0,none⟩)]) rfl h7 (enters_of func186 (by kernel_rfl) rfl)
  (MO F (n-1) h7 d9 (by omega) (w.heap.size+1+1+1+1) w hr hm W0 ox.below (by omega) am) belowK_t (belowK_b (Nat.le_refl _)) (Below.refl _ _) (fun _=>rfl)
  (fun pre W=>RK w W name (.cells #[.string ⟨#[]⟩,.int .u8 0,.int .i64 0,.slice none 0 0,.slice none 0 0,.pointer none] 145 (0,0)) false∧∀y∈pre,y.2.name≠name)
  (fun c pre W=>c=.ret∧∃q x,pre=q++[x]∧(∀y∈q,y.2.name≠name)∧x.2.name=name∧RK w W name (UU x.2) true)
  (OwnFrom.and (RK.own rfl (by omega)) (fun _ _ _ _ h _ _=>h))
  (fun c s W W' row hs hg aD=>by
   obtain⟨h1,q,x,h2,h3,h4,h5⟩:=hs;exact⟨h1,q,x,h2,h3,h4,(RK.own (β:=Unit) rfl (by omega)) () W W' row h5 hg aD⟩)
  ⟨ox,fun y hy=>by cases hy⟩
  (fun x a' W=>∃Bx,w.heap.size+5≤Bx∧W.heap[Bx]?=some (UU x.2)∧a'={ tmps:=#[.agg #[.slice p m c,rv],.string name,.pointer (some ⟨w.heap.size,0,none⟩),.pointer (some ⟨w.heap.size+1,0,none⟩),.pointer (some ⟨w.heap.size+1+1,0,none⟩),.pointer (some ⟨w.heap.size+1+1+1,0,none⟩),undef,.pointer (some ⟨Bx,0,none⟩),.pointer (some ⟨w.heap.size,0,none⟩),.slice p m c,.func (.func 186) #[] #[.pointer (some ⟨w.heap.size+1+1+1+1,0,none⟩)],.int .i64 x.1,K8 x.2,undef,undef,undef,undef,undef,undef],defers:=[] })
  (fun x a' s W W' row hs hg aD=>by
   obtain⟨Bx,h1,h2,h3⟩:=hs;refine⟨Bx,h1,(hg.block _ (Array.getElem?_eq_some_iff.1 h2).1 (fun e=>?_)).trans h2,h3⟩;obtain⟨_,o',ii,hc⟩:=aD Bx e.symm;rw [h2] at ii;cases ii;cases hc) ?assign ?body ?done ?stop
 case assign=>
  intro l pre x W K hi hK;gi_wp2;have aF:=hi.1.size;refine hK _ _ ((KeepsOthers.alloc _ _).from _) ((Below.refl _ W).alloc (by omega) _) ⟨⟨?_,?_,?_,hi.1.below.alloc (by omega) _,by simp;omega⟩,hi.2⟩ ⟨W.heap.size,by omega,heap_alloc_new W _,rfl⟩
  ·rw [Below.heap_alloc _ _ _ (by omega)];exact hi.1.b1
  ·rw [Below.heap_alloc _ _ _ (by omega)];exact hi.1.b2
  ·rw [Below.heap_alloc _ _ _ (by omega)];exact hi.1.b3
 case body=>
  rintro l pre x a' W hl ⟨r,aT⟩ ⟨hF,aS⟩ ⟨Bx,tW,eO,rfl⟩ aF;have c0:W.cell? ⟨Bx,0,none⟩=some (.string x.2.name):=by simp [World.cell?,eO]
  have c1:W.cell? ⟨Bx,1,none⟩=some (.int .u8 x.2.ty.head.kind):=by simp [World.cell?,eO]
  have c2:W.cell? ⟨Bx,2,none⟩=some (.int .i64 x.2.ty.head.rho):=by simp [World.cell?,eO]
  have c3:W.cell? ⟨Bx,3,none⟩=some (.slice x.2.ty.head.ep x.2.ty.head.en x.2.ty.head.ec):=by simp [World.cell?,eO]
  have c4:W.cell? ⟨Bx,4,none⟩=some (.slice x.2.ty.head.kp x.2.ty.head.kn x.2.ty.head.kc):=by simp [World.cell?,eO]
  have c5:W.cell? ⟨Bx,5,none⟩=some (.pointer (x.2.fn.map (fun x=>⟨x.2,0,none⟩))):=by simp [World.cell?,eO]
  have cn:W.cell? ⟨w.heap.size+1,0,none⟩=some (.string name):=by simp [World.cell?,hF.b1]
  have z0:W.cell? ⟨w.heap.size+1+1,0,none⟩=some (.string ⟨#[]⟩):=by simp only [World.cell?,hF.b2];rfl
  have f0:W.frozen? ⟨w.heap.size+1+1,0,none⟩=false:=by simp only [World.frozen?,hF.b2];rfl
  have z1:W.cell? ⟨w.heap.size+1+1,1,none⟩=some (.int .u8 0):=by simp only [World.cell?,hF.b2];rfl
  have f1:W.frozen? ⟨w.heap.size+1+1,1,none⟩=false:=by simp only [World.frozen?,hF.b2];rfl
  have z2:W.cell? ⟨w.heap.size+1+1,2,none⟩=some (.int .i64 0):=by simp only [World.cell?,hF.b2];rfl
  have f2:W.frozen? ⟨w.heap.size+1+1,2,none⟩=false:=by simp only [World.frozen?,hF.b2];rfl
  have z3:W.cell? ⟨w.heap.size+1+1,3,none⟩=some (.slice none 0 0):=by simp only [World.cell?,hF.b2];rfl
  have f3:W.frozen? ⟨w.heap.size+1+1,3,none⟩=false:=by simp only [World.frozen?,hF.b2];rfl
  have z4:W.cell? ⟨w.heap.size+1+1,4,none⟩=some (.slice none 0 0):=by simp only [World.cell?,hF.b2];rfl
  have f4:W.frozen? ⟨w.heap.size+1+1,4,none⟩=false:=by simp only [World.frozen?,hF.b2];rfl
  have z5:W.cell? ⟨w.heap.size+1+1,5,none⟩=some (.pointer none):=by simp only [World.cell?,hF.b2];rfl
  have f5:W.frozen? ⟨w.heap.size+1+1,5,none⟩=false:=by simp only [World.frozen?,hF.b2];rfl
  have z6:W.cell? ⟨w.heap.size+1+1+1,0,none⟩=some (.bool false):=by simp only [World.cell?,hF.b3];rfl
  have f6:W.frozen? ⟨w.heap.size+1+1+1,0,none⟩=false:=by simp only [World.frozen?,hF.b3];rfl
  by_cases hq:x.2.name=name
  ·have hb:(x.2.name.toList==name.toList)=true:=by rw [hq];simp
   have il:=Uj hF (.string name) (.int .u8 x.2.ty.head.kind) (.int .i64 x.2.ty.head.rho) (.slice x.2.ty.head.ep x.2.ty.head.en x.2.ty.head.ec) (.slice x.2.ty.head.kp x.2.ty.head.kn x.2.ty.head.kc) (.pointer (x.2.fn.map (fun x=>⟨x.2,0,none⟩))) true;have eU:=AA il;clear il;gi_wp2;exact⟨eU.o.2.from _,rfl,pre,x,rfl,aS,hq,by unfold UU;rw [hq];exact eU.o.1⟩
  ·have hb:(x.2.name.toList==name.toList)=false:=by rw [Dm];exact decide_eq_false hq
   gi_wp2
   exact⟨KeepsFrom.refl _ _,Below.refl _ _,hF,fun y hy=>by
    rcases List.mem_append.1 hy with hy|hy
    ·exact aS y hy
    ·rw [List.mem_singleton] at hy;subst hy;exact hq⟩
 case done=>
  rintro D ys W hD nv ⟨hF,aS⟩ hK;have z0:W.cell? ⟨w.heap.size+1+1,0,none⟩=some (.string ⟨#[]⟩):=by simp only [World.cell?,hF.b2];rfl
  have f0:W.frozen? ⟨w.heap.size+1+1,0,none⟩=false:=by simp only [World.frozen?,hF.b2];rfl
  have z1:W.cell? ⟨w.heap.size+1+1,1,none⟩=some (.int .u8 0):=by simp only [World.cell?,hF.b2];rfl
  have f1:W.frozen? ⟨w.heap.size+1+1,1,none⟩=false:=by simp only [World.frozen?,hF.b2];rfl
  have z2:W.cell? ⟨w.heap.size+1+1,2,none⟩=some (.int .i64 0):=by simp only [World.cell?,hF.b2];rfl
  have f2:W.frozen? ⟨w.heap.size+1+1,2,none⟩=false:=by simp only [World.frozen?,hF.b2];rfl
  have z3:W.cell? ⟨w.heap.size+1+1,3,none⟩=some (.slice none 0 0):=by simp only [World.cell?,hF.b2];rfl
  have f3:W.frozen? ⟨w.heap.size+1+1,3,none⟩=false:=by simp only [World.frozen?,hF.b2];rfl
  have z4:W.cell? ⟨w.heap.size+1+1,4,none⟩=some (.slice none 0 0):=by simp only [World.cell?,hF.b2];rfl
  have f4:W.frozen? ⟨w.heap.size+1+1,4,none⟩=false:=by simp only [World.frozen?,hF.b2];rfl
  have z5:W.cell? ⟨w.heap.size+1+1,5,none⟩=some (.pointer none):=by simp only [World.cell?,hF.b2];rfl
  have f5:W.frozen? ⟨w.heap.size+1+1,5,none⟩=false:=by simp only [World.frozen?,hF.b2];rfl
  have z6:W.cell? ⟨w.heap.size+1+1+1,0,none⟩=some (.bool false):=by simp only [World.cell?,hF.b3];rfl
  have f6:W.frozen? ⟨w.heap.size+1+1+1,0,none⟩=false:=by simp only [World.frozen?,hF.b3];rfl
  have eU:=AA (Uj hF (.string ⟨#[]⟩) (.int .u8 0) (.int .i64 0) (.slice none 0 0) (.slice none 0 0) (.pointer none) false);gi_wp2;have ko:=eU.o.2.same D _ hK rfl;have hP:=eU.o.1.put rfl (by omega) ko rfl (.deferred none);refine⟨by simp,.inl ⟨_,_,rfl,run_takeDeferred ko,?_⟩⟩;obtain⟨d0,d1,d2,d3,d4,d5,d6⟩:=hP.cells;refine⟨.tuple #[Pl,.bool false],?_,by unfold DX;rw [TT nv aS],hP.below⟩;clear hK eU ko hP hF z0 z1 z2 z3 z4 z5 z6 f0 f1 f2 f3 f4 f5 f6;simp [results,f96,go_sem,d0,d1,d2,d3,d4,d5,d6]
 case stop=>rintro D cd pre W hD pO ⟨rfl,q,x,rfl,aS,hx,hF⟩ hK;gi_wp2;have hP:=hF.put rfl (by omega) hK rfl (.deferred none);refine⟨by simp,.inl ⟨_,_,rfl,run_takeDeferred hK,?_⟩⟩;obtain⟨d0,d1,d2,d3,d4,d5,d6⟩:=hP.cells;refine⟨.tuple #[K8 x.2,.bool true],?_,by unfold DX;rw [Rh pO aS hx],hP.below⟩;clear hK hP hF;simp [results,f96,go_sem,d0,d1,d2,d3,d4,d5,d6]
theorem Dj{w:World}{p:Option Addr}{m c:Nat}{env:List BV}(hr:AE FV 6 w p m c env)(hm:m≤1000000)(rv:Value)(name:ByteArray):Calls prog 96 #[.agg #[.slice p m c,rv],.string name] w fun e w'=>DX env name e∧Below w.heap.size w w':=(callsIn_wide (n:=6)).1 (N1 Fence.wide 6 trivial trivial trivial rfl (by omega) hr hm rv name)
end
theorem Jb{env:List BV}{x:ByteArray}{b:BV}(h:EX env x=some b):b∈env:=by unfold EX at h;have:=List.mem_of_find?_eq_some h;simpa using this
theorem Gj{W:World}{g:Nat}{cs:Array Value}{t:TypeId}(h:W.heap[g]?=some (.cells cs t (0,0)))(o:Nat)(l:List Value)(hl:∀(i:Nat) (v:Value),l[i]?=some v→cs[o+i]?=some v):W.rangeAt g o l:=fun j v hj=>by rw [Lib.cell_of_heap h];exact hl j v hj
structure RO(w:World)(a:AH)(x y:Value)(g:Nat)(a':AH)(W:World):Prop where
 nd:Ka w a x y W
 kid:Fq W g a'
theorem RO.step{w W W':World}{a a':AH}{x y:Value}{g:Nat}(h:RO w a x y g a' W)(hb:Below W.heap.size W W'):RO w a x y g a' W':=⟨h.nd.step hb,h.kid.below hb⟩
theorem RO.alloc{w W:World}{a a':AH}{x y:Value}{g:Nat}(h:RO w a x y g a' W)(o:Obj):RO w a x y g a' (W.alloc o):=h.step bA
theorem RO.drew{w W:World}{a a':AH}{x y:Value}{g:Nat}(h:RO w a x y g a' W):RO w a x y g a' W.drew:=h.step (AC W)
theorem RO.grown{w W W':World}{a a':AH}{x y:Value}{g:Nat}{r:Option Nat}(h:RO w a x y g a' W)(hg:W.grownBy W' r)(hr:∀b,r=some b→w.heap.size+3≤b∧b<g):RO w a x y g a' W':=⟨h.nd.grown hg (fun b e=>(hr b e).1),⟨(hg.block _ h.kid.lt (fun e=>by have:=(hr g e.symm).2;omega)).trans h.kid.blk⟩⟩
theorem Wt:(prog.info? 81).map (fun i=>(i.zero,i.size,i.bytes))=some (some (.agg #[.int .u8 0,.int .i64 0,.slice none 0 0,.slice none 0 0,.slice none 0 0]),5,88):=by kernel_rfl
theorem Um{w0 w:World}{S:Nat→Prop}{a:AH}{l:List PA}{p q:Option Addr}{n c m mc:Nat}{env:List BV}{rhos:List Int}(h:ES w0 w S (.node a l) p q n c m mc env rhos)(hu:A8 a.plain rhos=false):Calls prog 63 #[.agg #[.slice p n c,.slice q m mc],Aj a] w (Dd w S (BE (DZ env) rhos a.plain (l.map PA.er))):=by
 have HX:=AA (GQ w a (.slice p n c) (.slice q m mc));have HC:=AA h;have HN:=AA (DP h.lies);have cz:Bl a:=h.small a (by rw [AG.nodes_node];exact List.mem_cons_self);have cS:=AA cz;have gP:m≤900000:=by have:=h.hm;omega
 have iA:n≤900000:=by have:=h.hn;omega
 have cg:=AA (LA.below (DP h.lies).own (h.old.trans (HX.o.below.mono h.old.size)));clear cz;have HU:=AA hu;have HR:Hd (BE (DZ env) rhos a.plain (l.map PA.er)=.error (a.at_,4)):=by show _=_;unfold BE;rw [hu];rfl
 rw [HR.o];clear hu h HR;go_enter func63,ntmps63;go_upto_region 1 with fail;generalize (((w.alloc (.cells #[.slice p n c,.slice q m mc] 84)).alloc (AO a)).alloc (.cells #[.int .u8 0,.int .i64 0,.slice none 0 0,.slice none 0 0,.slice none 0 0] 81))=W1 at *
 go_wp2_with (first
  |(refine lw HX.o.b.b0 underlying84 ?_)
  |(refine lw HX.o.b.b1.blk underlying31 ?_))
 go_at_call 95;refine(Cu cg.o cS.o p n c (HC.o.rhosA.below HX.o.below) gP).mono ?_;rintro e w2 ⟨hr,hb⟩;rw [HU.o] at hr;obtain rfl:=hr.2 rfl;exact⟨rfl,rfl,(HX.o.step hb).below⟩
theorem Ri{w0 w:World}{S:Nat→Prop}{a:AH}{l:List PA}{p q:Option Addr}{n c m mc:Nat}{env:List BV}{rhos:List Int}(h:ES w0 w S (.node a l) p q n c m mc env rhos)(hu:A8 a.plain rhos=true)(hk:a.kind=18)(HI:∀W,Below w.heap.size w W→w.heap.size+3≤W.heap.size→Calls prog 97 #[.agg #[.slice p n c,.slice q m mc],Aj a] W (Dd W (Si w S) (Cm (DZ env) a.plain))):Calls prog 63 #[.agg #[.slice p n c,.slice q m mc],Aj a] w (Dd w S (BE (DZ env) rhos a.plain (l.map PA.er))):=by
 have HX:=AA (GQ w a (.slice p n c) (.slice q m mc));have HC:=AA h;have HN:=AA (DP h.lies);have cz:Bl a:=h.small a (by rw [AG.nodes_node];exact List.mem_cons_self);have cS:=AA cz;have gP:m≤900000:=by have:=h.hm;omega
 have iA:n≤900000:=by have:=h.hn;omega
 have cg:=AA (LA.below (DP h.lies).own (h.old.trans (HX.o.below.mono h.old.size)));clear cz;have HU:=AA hu;have jJ:=AA HI;have HR:Hd (BE (DZ env) rhos a.plain (l.map PA.er)=Cm (DZ env) a.plain):=by show _=_;unfold BE;rw [hu];simp [show a.plain.kind=18 from hk,A4]
 rw [HR.o];have e2:(a.kind==2)=false:=by simp [hk]
 have e18:(a.kind==18)=true:=by simp [hk]
 clear hu h HR HI hk;revert jJ;generalize Cm (DZ env) a.plain=R;intro jJ;go_enter func63,ntmps63;go_upto_region 1 with fail;generalize (((w.alloc (.cells #[.slice p n c,.slice q m mc] 84)).alloc (AO a)).alloc (.cells #[.int .u8 0,.int .i64 0,.slice none 0 0,.slice none 0 0,.slice none 0 0] 81))=W1 at *
 go_upto_region 2 with(first
  |(refine lw HX.o.b.b0 underlying84 ?_)
  |(refine lw HX.o.b.b1.blk underlying31 ?_)
  |(go_at_call 95;refine(Cu cg.o cS.o p n c (HC.o.rhosA.below HX.o.below) gP).mono ?_;rintro e w2 ⟨hr,hb⟩;rw [HU.o] at hr;obtain rfl:=hr.1 rfl;have ah:=AA (HX.o.step hb);clear hr))
 have c0:=ah.o.b.b1.c 0 _ rfl;go_upto_region 9 with fail;clear c0;clear e2 e18;rcases R with⟨r1,r2⟩|r
 ·go_wp2_with (first
   |(refine lw ah.o.b.b0 underlying84 ?_)
   |(refine lw ah.o.b.b1.blk underlying31 ?_))
  go_at_call 97;refine(jJ.o _ ah.o.below ah.o.size).mono ?_;rintro e W9 ⟨hr,hb⟩;subst hr;exact⟨rfl,rfl,(ah.o.step hb).below⟩
 ·go_wp2_with (first
   |(refine lw ah.o.b.b0 underlying84 ?_)
   |(refine lw ah.o.b.b1.blk underlying31 ?_)
   |(go_at_call 97;refine(jJ.o _ ah.o.below ah.o.size).mono ?_;rintro e W9 ⟨hr,hb⟩;obtain⟨y,rfl,cM,hy⟩:=hr;have al:=AA (ah.o.step hb);have HY:=AA hy;have dm:=AA cM;clear hy cM ah)
   |(refine D9 rfl _ _ _ rfl al.o (Cc y) (by rfl) (by rfl) (by kernel_rfl) rfl (by simp [Value.oneCell']) ?_))
  refine br (al.o.heap _) underlying81 ?_;exact Mw al.o HC.o.new HY.o dm.o
theorem TV{w0 w:World}{S:Nat→Prop}{a:AH}{l:List PA}{p q:Option Addr}{n c m mc:Nat}{env:List BV}{rhos:List Int}(h:ES w0 w S (.node a l) p q n c m mc env rhos)(hu:A8 a.plain rhos=true)(hk:a.kind=2):Calls prog 63 #[.agg #[.slice p n c,.slice q m mc],Aj a] w (Dd w S (BE (DZ env) rhos a.plain (l.map PA.er))):=by
 have HX:=AA (GQ w a (.slice p n c) (.slice q m mc));have HC:=AA h;have HN:=AA (DP h.lies);have cz:Bl a:=h.small a (by rw [AG.nodes_node];exact List.mem_cons_self);have cS:=AA cz;have gP:m≤900000:=by have:=h.hm;omega
 have iA:n≤900000:=by have:=h.hn;omega
 have cg:=AA (LA.below (DP h.lies).own (h.old.trans (HX.o.below.mono h.old.size)));clear cz;have HU:=AA hu;have HR:Hd (BE (DZ env) rhos a.plain (l.map PA.er)=Hf (DZ env) a.plain):=by show _=_;unfold BE;rw [hu];simp [show a.plain.kind=2 from hk,A4]
 rw [HR.o];have e2:(a.kind==2)=true:=by simp [hk]
 clear hu h HR hk;cases dH:EX env a.name with
 |none=>
  have HF:Hd (∀e,DX env a.name e→e=.returned (.tuple #[Pl,.bool false])):=fun e he=>by unfold DX at he;rw [dH] at he;exact he
  have HR:Hd (Hf (DZ env) a.plain=.error (a.at_,4)):=by show _=_;unfold Hf;rw [show a.plain.name=a.name from rfl,Gg,dH];rfl
  rw [HR.o];clear HR dH;go_enter func63,ntmps63;go_upto_region 1 with fail;generalize (((w.alloc (.cells #[.slice p n c,.slice q m mc] 84)).alloc (AO a)).alloc (.cells #[.int .u8 0,.int .i64 0,.slice none 0 0,.slice none 0 0,.slice none 0 0] 81))=W1 at *
  go_upto_region 2 with(first
   |(refine lw HX.o.b.b0 underlying84 ?_)
   |(refine lw HX.o.b.b1.blk underlying31 ?_)
   |(go_at_call 95;refine(Cu cg.o cS.o p n c (HC.o.rhosA.below HX.o.below) gP).mono ?_;rintro e w2 ⟨hr,hb⟩;rw [HU.o] at hr;obtain rfl:=hr.1 rfl;have ah:=AA (HX.o.step hb);clear hr))
  have c0:=ah.o.b.b1.c 0 _ rfl;go_upto_region 4 with fail;clear c0;clear e2;have c4:=ah.o.b.b1.c 4 _ rfl
  go_upto_region 5 with(first
   |(refine lw ah.o.b.b0 underlying84 ?_)
   |(go_at_call 96;refine(Dj (HC.o.envA.row.below ah.o.below) (by omega) (.slice q m mc) a.name).mono ?_;rintro e w3 ⟨hf,hb⟩;obtain rfl:=HF.o _ hf;have aR:=AA (ah.o.step hb);have cF:=AA (heap_alloc_new w3 (.cells #[.string ⟨#[]⟩,.int .u8 0,.int .i64 0,.slice none 0 0,.slice none 0 0,.pointer none] 145));clear hf hb)
   |(refine sw #[.string ⟨#[]⟩,.int .u8 0,.int .i64 0,.slice none 0 0,.slice none 0 0,.pointer none] cF.o ?_;rw [World.setRow_alloc_new]))
  clear c4;have dK:=AA (aR.o.alloc (.cells #[.string ⟨#[]⟩,.int .u8 0,.int .i64 0,.slice none 0 0,.slice none 0 0,.pointer none] 145));generalize (w3.alloc (.cells #[.string ⟨#[]⟩,.int .u8 0,.int .i64 0,.slice none 0 0,.slice none 0 0,.pointer none] 145))=W4 at *
  go_wp2_with (first
   |(refine lw dK.o.b.b1.blk underlying31 ?_))
  go_at_call 64;refine(Bd a 4 _).mono ?_;rintro e w9 ⟨rfl,hb⟩;exact⟨rfl,rfl,(dK.o.step hb).below⟩
 |some b=>
  have HF:Hd (∀e,DX env a.name e→e=.returned (.tuple #[K8 b,.bool true])):=fun e he=>by unfold DX at he;rw [dH] at he;exact he
  have cw:b∈env:=Jb dH;have fb:=AA (HC.o.envA.each b cw);obtain⟨u,hu⟩:∃u,(b.fn.map (fun x=>(⟨x.2,0,none⟩:Addr))).isNone=u:=⟨_,rfl⟩;have HR:Hd (Hf (DZ env) a.plain=A4 u a.plain 5 (.ok (b.ty.er,[]))):=by show _=_;unfold Hf;rw [show a.plain.name=a.name from rfl,Gg,dH,←hu];show A4 (BV.er b).fn.isNone a.plain 5 _=_;unfold BV.er;cases b.fn<;>rfl
  rw [HR.o];clear HR dH;go_enter func63,ntmps63;go_upto_region 1 with fail;generalize (((w.alloc (.cells #[.slice p n c,.slice q m mc] 84)).alloc (AO a)).alloc (.cells #[.int .u8 0,.int .i64 0,.slice none 0 0,.slice none 0 0,.slice none 0 0] 81))=W1 at *
  go_upto_region 2 with(first
   |(refine lw HX.o.b.b0 underlying84 ?_)
   |(refine lw HX.o.b.b1.blk underlying31 ?_)
   |(go_at_call 95;refine(Cu cg.o cS.o p n c (HC.o.rhosA.below HX.o.below) gP).mono ?_;rintro e w2 ⟨hr,hb⟩;rw [HU.o] at hr;obtain rfl:=hr.1 rfl;have ah:=AA (HX.o.step hb);clear hr))
  have c0:=ah.o.b.b1.c 0 _ rfl;go_upto_region 4 with fail;clear c0;clear e2;have c4:=ah.o.b.b1.c 4 _ rfl
  go_upto_region 5 with(first
   |(refine lw ah.o.b.b0 underlying84 ?_)
   |(go_at_call 96;refine(Dj (HC.o.envA.row.below ah.o.below) (by omega) (.slice q m mc) a.name).mono ?_;rintro e w3 ⟨hf,hb⟩;obtain rfl:=HF.o _ hf;have aR:=AA (ah.o.step hb);have cF:=AA (heap_alloc_new w3 (.cells #[.string ⟨#[]⟩,.int .u8 0,.int .i64 0,.slice none 0 0,.slice none 0 0,.pointer none] 145));clear hf hb)
   |(refine sw #[.string b.name,.int .u8 b.ty.head.kind,.int .i64 b.ty.head.rho,.slice b.ty.head.ep b.ty.head.en b.ty.head.ec,.slice b.ty.head.kp b.ty.head.kn b.ty.head.kc,.pointer (b.fn.map (fun x=>⟨x.2,0,none⟩))] cF.o ?_;rw [World.setRow_alloc_new]))
  clear c4;have dK:=AA (aR.o.alloc (.cells #[.string b.name,.int .u8 b.ty.head.kind,.int .i64 b.ty.head.rho,.slice b.ty.head.ep b.ty.head.en b.ty.head.ec,.slice b.ty.head.kp b.ty.head.kn b.ty.head.kc,.pointer (b.fn.map (fun x=>⟨x.2,0,none⟩))] 145));have eA:=AA (heap_alloc_new w3 (.cells #[.string b.name,.int .u8 b.ty.head.kind,.int .i64 b.ty.head.rho,.slice b.ty.head.ep b.ty.head.en b.ty.head.ec,.slice b.ty.head.kp b.ty.head.kn b.ty.head.kc,.pointer (b.fn.map (fun x=>⟨x.2,0,none⟩))] 145));obtain⟨g,hg⟩:∃g,w3.heap.size=g:=⟨_,rfl⟩;rw [hg] at eA ⊢;generalize (w3.alloc (.cells #[.string b.name,.int .u8 b.ty.head.kind,.int .i64 b.ty.head.rho,.slice b.ty.head.ep b.ty.head.en b.ty.head.ec,.slice b.ty.head.kp b.ty.head.kn b.ty.head.kc,.pointer (b.fn.map (fun x=>⟨x.2,0,none⟩))] 145))=W4 at *
  clear hg
  go_upto_region 6 with(first
   |(refine lw dK.o.b.b1.blk underlying31 ?_)
   |(go_at_call 64;refine(BZ a 4 _).mono ?_;rintro e w5 ⟨rfl,hb⟩;have ck:=AA (dK.o.step hb);have iJ:=AA ((hb.block _ (Array.getElem?_eq_some_iff.1 eA.o).1).trans eA.o);clear hb))
  have g5:w5.cell? ⟨g,5,none⟩=some (.pointer (b.fn.map (fun x=>⟨x.2,0,none⟩))):=by rw [Lib.cell_of_heap iJ.o];rfl
  obtain⟨P,hP⟩:∃P,b.fn.map (fun x=>(⟨x.2,0,none⟩:Addr))=P:=⟨_,rfl⟩;rw [hP] at g5 hu;cases P with
  |some ad=>
   obtain rfl:u=false:=by rw [←hu];rfl
   go_wp2_with (first
    |(refine lw ck.o.b.b1.blk underlying31 ?_))
   go_at_call 64;refine(Bd a 5 _).mono ?_;rintro e w9 ⟨rfl,hb⟩;exact⟨rfl,rfl,(ck.o.step hb).below⟩
  |none=>
   obtain rfl:u=true:=by rw [←hu];rfl
   go_upto_region 7 with(first
    |(refine lw ck.o.b.b1.blk underlying31 ?_)
    |(go_at_call 64;refine(BZ a 5 _).mono ?_;rintro e w6 ⟨rfl,hb⟩;have dw:=AA (ck.o.step hb);have rO:=AA ((hb.block _ (Array.getElem?_eq_some_iff.1 iJ.o).1).trans iJ.o);clear hb))
   clear g5 hu hP
   go_wp2_with (first
    |(refine l4 b.ty (Gj rO.o 1 _ (by intro i v hv;match i,hv with|0,hv=>exact hv|1,hv=>exact hv|2,hv=>exact hv|3,hv=>exact hv)) underlying28 ?_)
    |(refine D9 rfl _ _ _ rfl dw.o (Cc ⟨b.ty,none,0,0,[]⟩) (by rfl) (by rfl) (by kernel_rfl) rfl (by simp [Value.oneCell']) ?_))
   refine br (dw.o.heap _) underlying81 ?_;exact Mw (y:=⟨b.ty,none,0,0,[]⟩) dw.o HC.o.new ⟨LR.lies_below dw.o.below _ fb.o.ty,fun x hx=>.inl ⟨AN _ fb.o.ty x hx,fb.o.uses x hx⟩,AE.none _ _ _,fun x hx=>(nomatch hx),fun aS=>absurd rfl aS⟩ rfl
end Go.Proofs.YtkdjnegfnhldpaaGreatDoor
