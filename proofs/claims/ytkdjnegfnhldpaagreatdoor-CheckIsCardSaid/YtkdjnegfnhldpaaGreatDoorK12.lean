/- Part 12. -/
import Derived.Test.YtkdjnegfnhldpaaGreatDoorK11
set_option linter.unusedVariables false
set_option maxRecDepth 100000
set_option linter.unusedSimpArgs false
set_option maxHeartbeats 40000000
namespace Go.Proofs.YtkdjnegfnhldpaaGreatDoor
open Go.Proofs.Tryz Go.RowKit
section
variable {ops:Array Oper} {Q:Exit→Act→World→Prop} {md:Region.Mode} {S:World→Prop} {v:Value} {fuel:Nat} {listed:Array Bool} {a a':Act} {w:World} {o:Op} {x:TypeId} {z:String} {u:Array Edge}
theorem t4(i d:Nat)(y:PT)(b k:Nat)(hc:∀w,S w→w.rangeAt b k [.int .u8 y.head.kind,.int .i64 y.head.rho,.slice y.head.ep y.head.en y.head.ec,.slice y.head.kp y.head.kn y.head.kc])(hh:wpAnyH prog md ops Q S fuel (listed.setIfInBounds i true) a' w)(hi:ops[i]?=some ⟨some d,o,x,z,u,none⟩:=by exact rfl)(hw:Region.wanted ⟨some d,o,x,z,u,none⟩ (yielded ops a.tmps)=true:=by rfl){X:Operand}(ho:(⟨some d,o,x,z,u,none⟩:Oper).op=.load 28 X:=by exact rfl)(hx:a.eval X=.pointer (some ⟨b,k,none⟩):=by exact rfl)(he:a.put (some d) (.agg #[.int .u8 y.head.kind,.int .i64 y.head.rho,.slice y.head.ep y.head.en y.head.ec,.slice y.head.kp y.head.kn y.head.kc])=a':=by simp only [Act.put,zA,zB,zC];rfl)(hs:Region.noSelect ops=true:=by kernel_rfl)(hf:Region.free md ops listed i=true:=by kernel_rfl)(hr:(Region.ready md ops listed).contains i=true:=by kernel_rfl)(hQ:∀c b w,Q (.panic c) (b.put (some d) (.agg #[.int .u8 y.head.kind,.int .i64 y.head.rho,.slice y.head.ep y.head.en y.head.ec,.slice y.head.kp y.head.kn y.head.kc])) w→Q (.panic c) b w:=by exact fun _ _ _ h=>h)(hS:S w:=by assumption):wpAnyH prog md ops Q S (fuel+1) listed a w:=by subst he;exact wpAnyH_take hi hs hf hr hQ (yieldsIf_load_mid hw 28 X ho b k hx [.int .u8 y.head.kind,.int .i64 y.head.rho,.slice y.head.ep y.head.en y.head.ec,.slice y.head.kp y.head.kn y.head.kc] _ hc underlying28 rfl (by kernel_rfl)) hS hh
theorem RI(i d p:Nat)(t:Bool)(y:PT)(b k:Nat)(hc:∀w,S w→w.rangeAt b k [.int .u8 y.head.kind,.int .i64 y.head.rho,.slice y.head.ep y.head.en y.head.ec,.slice y.head.kp y.head.kn y.head.kc])(hh:wpAnyH prog md ops Q S fuel (listed.setIfInBounds i true) a' w)(hi:ops[i]?=some ⟨some d,o,x,z,u,some (p,t)⟩:=by exact rfl)(hw:Region.wanted ⟨some d,o,x,z,u,some (p,t)⟩ (yielded ops a.tmps)=true:=by rfl){X:Operand}(ho:(⟨some d,o,x,z,u,some (p,t)⟩:Oper).op=.load 28 X:=by exact rfl)(hx:a.eval X=.pointer (some ⟨b,k,none⟩):=by exact rfl)(he:a.put (some d) (.agg #[.int .u8 y.head.kind,.int .i64 y.head.rho,.slice y.head.ep y.head.en y.head.ec,.slice y.head.kp y.head.kn y.head.kc])=a':=by simp only [Act.put,zA,zB,zC];rfl)(hs:Region.noSelect ops=true:=by kernel_rfl)(hf:Region.free md ops listed i=true:=by kernel_rfl)(hr:(Region.ready md ops listed).contains i=true:=by kernel_rfl)(hQ:∀c b w,Q (.panic c) (b.put (some d) (.agg #[.int .u8 y.head.kind,.int .i64 y.head.rho,.slice y.head.ep y.head.en y.head.ec,.slice y.head.kp y.head.kn y.head.kc])) w→Q (.panic c) b w:=by exact fun _ _ _ h=>h)(hS:S w:=by assumption):wpAnyH prog md ops Q S (fuel+1) listed a w:=by subst he;exact wpAnyH_take hi hs hf hr hQ (yieldsIf_load_mid hw 28 X ho b k hx [.int .u8 y.head.kind,.int .i64 y.head.rho,.slice y.head.ep y.head.en y.head.ec,.slice y.head.kp y.head.kn y.head.kc] _ hc underlying28 rfl (by kernel_rfl)) hS hh
theorem ta(i d:Nat)(h:AH)(b k:Nat)(hc:∀w,S w→w.rangeAt b k [.int .u8 h.kind,.int .u8 h.op,.int .i64 h.at_,.int .i64 h.n,.string h.name,.string h.arg,.string h.exn,.int .i64 h.rho,.slice h.rp h.rn h.rc,.slice h.ep h.en h.ec,.int .u8 h.ty.head.kind,.int .i64 h.ty.head.rho,.slice h.ty.head.ep h.ty.head.en h.ty.head.ec,.slice h.ty.head.kp h.ty.head.kn h.ty.head.kc,.int .u8 h.res.head.kind,.int .i64 h.res.head.rho,.slice h.res.head.ep h.res.head.en h.res.head.ec,.slice h.res.head.kp h.res.head.kn h.res.head.kc,.slice h.kp h.kn h.kc])(hh:wpAnyH prog md ops Q S fuel (listed.setIfInBounds i true) a' w)(hi:ops[i]?=some ⟨some d,o,x,z,u,none⟩:=by exact rfl)(hw:Region.wanted ⟨some d,o,x,z,u,none⟩ (yielded ops a.tmps)=true:=by rfl){X:Operand}(ho:(⟨some d,o,x,z,u,none⟩:Oper).op=.load 31 X:=by exact rfl)(hx:a.eval X=.pointer (some ⟨b,k,none⟩):=by exact rfl)(he:a.put (some d) (.agg #[.int .u8 h.kind,.int .u8 h.op,.int .i64 h.at_,.int .i64 h.n,.string h.name,.string h.arg,.string h.exn,.int .i64 h.rho,.slice h.rp h.rn h.rc,.slice h.ep h.en h.ec,.int .u8 h.ty.head.kind,.int .i64 h.ty.head.rho,.slice h.ty.head.ep h.ty.head.en h.ty.head.ec,.slice h.ty.head.kp h.ty.head.kn h.ty.head.kc,.int .u8 h.res.head.kind,.int .i64 h.res.head.rho,.slice h.res.head.ep h.res.head.en h.res.head.ec,.slice h.res.head.kp h.res.head.kn h.res.head.kc,.slice h.kp h.kn h.kc])=a':=by simp only [Act.put,zA,zB,zC];rfl)(hs:Region.noSelect ops=true:=by kernel_rfl)(hf:Region.free md ops listed i=true:=by kernel_rfl)(hr:(Region.ready md ops listed).contains i=true:=by kernel_rfl)(hQ:∀c b w,Q (.panic c) (b.put (some d) (.agg #[.int .u8 h.kind,.int .u8 h.op,.int .i64 h.at_,.int .i64 h.n,.string h.name,.string h.arg,.string h.exn,.int .i64 h.rho,.slice h.rp h.rn h.rc,.slice h.ep h.en h.ec,.int .u8 h.ty.head.kind,.int .i64 h.ty.head.rho,.slice h.ty.head.ep h.ty.head.en h.ty.head.ec,.slice h.ty.head.kp h.ty.head.kn h.ty.head.kc,.int .u8 h.res.head.kind,.int .i64 h.res.head.rho,.slice h.res.head.ep h.res.head.en h.res.head.ec,.slice h.res.head.kp h.res.head.kn h.res.head.kc,.slice h.kp h.kn h.kc])) w→Q (.panic c) b w:=by exact fun _ _ _ h=>h)(hS:S w:=by assumption):wpAnyH prog md ops Q S (fuel+1) listed a w:=by subst he;exact wpAnyH_take hi hs hf hr hQ (yieldsIf_load_mid hw 31 X ho b k hx [.int .u8 h.kind,.int .u8 h.op,.int .i64 h.at_,.int .i64 h.n,.string h.name,.string h.arg,.string h.exn,.int .i64 h.rho,.slice h.rp h.rn h.rc,.slice h.ep h.en h.ec,.int .u8 h.ty.head.kind,.int .i64 h.ty.head.rho,.slice h.ty.head.ep h.ty.head.en h.ty.head.ec,.slice h.ty.head.kp h.ty.head.kn h.ty.head.kc,.int .u8 h.res.head.kind,.int .i64 h.res.head.rho,.slice h.res.head.ep h.res.head.en h.res.head.ec,.slice h.res.head.kp h.res.head.kn h.res.head.kc,.slice h.kp h.kn h.kc] _ hc underlying31 rfl (by kernel_rfl)) hS hh
theorem Xj(i d p:Nat)(t:Bool)(h:AH)(b k:Nat)(hc:∀w,S w→w.rangeAt b k [.int .u8 h.kind,.int .u8 h.op,.int .i64 h.at_,.int .i64 h.n,.string h.name,.string h.arg,.string h.exn,.int .i64 h.rho,.slice h.rp h.rn h.rc,.slice h.ep h.en h.ec,.int .u8 h.ty.head.kind,.int .i64 h.ty.head.rho,.slice h.ty.head.ep h.ty.head.en h.ty.head.ec,.slice h.ty.head.kp h.ty.head.kn h.ty.head.kc,.int .u8 h.res.head.kind,.int .i64 h.res.head.rho,.slice h.res.head.ep h.res.head.en h.res.head.ec,.slice h.res.head.kp h.res.head.kn h.res.head.kc,.slice h.kp h.kn h.kc])(hh:wpAnyH prog md ops Q S fuel (listed.setIfInBounds i true) a' w)(hi:ops[i]?=some ⟨some d,o,x,z,u,some (p,t)⟩:=by exact rfl)(hw:Region.wanted ⟨some d,o,x,z,u,some (p,t)⟩ (yielded ops a.tmps)=true:=by rfl){X:Operand}(ho:(⟨some d,o,x,z,u,some (p,t)⟩:Oper).op=.load 31 X:=by exact rfl)(hx:a.eval X=.pointer (some ⟨b,k,none⟩):=by exact rfl)(he:a.put (some d) (.agg #[.int .u8 h.kind,.int .u8 h.op,.int .i64 h.at_,.int .i64 h.n,.string h.name,.string h.arg,.string h.exn,.int .i64 h.rho,.slice h.rp h.rn h.rc,.slice h.ep h.en h.ec,.int .u8 h.ty.head.kind,.int .i64 h.ty.head.rho,.slice h.ty.head.ep h.ty.head.en h.ty.head.ec,.slice h.ty.head.kp h.ty.head.kn h.ty.head.kc,.int .u8 h.res.head.kind,.int .i64 h.res.head.rho,.slice h.res.head.ep h.res.head.en h.res.head.ec,.slice h.res.head.kp h.res.head.kn h.res.head.kc,.slice h.kp h.kn h.kc])=a':=by simp only [Act.put,zA,zB,zC];rfl)(hs:Region.noSelect ops=true:=by kernel_rfl)(hf:Region.free md ops listed i=true:=by kernel_rfl)(hr:(Region.ready md ops listed).contains i=true:=by kernel_rfl)(hQ:∀c b w,Q (.panic c) (b.put (some d) (.agg #[.int .u8 h.kind,.int .u8 h.op,.int .i64 h.at_,.int .i64 h.n,.string h.name,.string h.arg,.string h.exn,.int .i64 h.rho,.slice h.rp h.rn h.rc,.slice h.ep h.en h.ec,.int .u8 h.ty.head.kind,.int .i64 h.ty.head.rho,.slice h.ty.head.ep h.ty.head.en h.ty.head.ec,.slice h.ty.head.kp h.ty.head.kn h.ty.head.kc,.int .u8 h.res.head.kind,.int .i64 h.res.head.rho,.slice h.res.head.ep h.res.head.en h.res.head.ec,.slice h.res.head.kp h.res.head.kn h.res.head.kc,.slice h.kp h.kn h.kc])) w→Q (.panic c) b w:=by exact fun _ _ _ h=>h)(hS:S w:=by assumption):wpAnyH prog md ops Q S (fuel+1) listed a w:=by subst he;exact wpAnyH_take hi hs hf hr hQ (yieldsIf_load_mid hw 31 X ho b k hx [.int .u8 h.kind,.int .u8 h.op,.int .i64 h.at_,.int .i64 h.n,.string h.name,.string h.arg,.string h.exn,.int .i64 h.rho,.slice h.rp h.rn h.rc,.slice h.ep h.en h.ec,.int .u8 h.ty.head.kind,.int .i64 h.ty.head.rho,.slice h.ty.head.ep h.ty.head.en h.ty.head.ec,.slice h.ty.head.kp h.ty.head.kn h.ty.head.kc,.int .u8 h.res.head.kind,.int .i64 h.res.head.rho,.slice h.res.head.ep h.res.head.en h.res.head.ec,.slice h.res.head.kp h.res.head.kn h.res.head.kc,.slice h.kp h.kn h.kc] _ hc underlying31 rfl (by kernel_rfl)) hS hh
end
section
variable {P:Program} {ops:Array Oper} {rest:List Oper} {o:Oper} {a:Act} {w W:World} {Q:Exit→Act→World→Prop} {g b k:Nat} {ty t:TypeId} {x y:Operand} {cs old:Array Value} {fr:Nat×Nat} {d:TypeDesc}
theorem l4(y:PT)(hc:w.rangeAt b k [.int .u8 y.head.kind,.int .i64 y.head.rho,.slice y.head.ep y.head.en y.head.ec,.slice y.head.kp y.head.kn y.head.kc])(hu:P.underlying ty=some d)(h:wpList P ops Q rest (a.put o.dst (.agg #[.int .u8 y.head.kind,.int .i64 y.head.rho,.slice y.head.ep y.head.en y.head.ec,.slice y.head.kp y.head.kn y.head.kc])) w)(au:o.guard=none:=by rfl)(ho:o.op=.load ty x:=by exact rfl)(hx:a.eval x=.pointer (some ⟨b,k,none⟩):=by exact rfl)(hd:d.isRow=true:=by rfl)(hi:(P.info? ty).map (·.size)=some 4:=by kernel_rfl):wpList P ops Q (o::rest) a w:=lm _ hc hu h au ho hx hd hi
theorem NY(y:PT)(hc:w.rangeAt b k [.int .u8 y.head.kind,.int .i64 y.head.rho,.slice y.head.ep y.head.en y.head.ec,.slice y.head.kp y.head.kn y.head.kc])(hu:P.underlying ty=some d)(h:wpList P ops Q rest (a.put o.dst (.agg #[.int .u8 y.head.kind,.int .i64 y.head.rho,.slice y.head.ep y.head.en y.head.ec,.slice y.head.kp y.head.kn y.head.kc])) w)(au:Region.wanted o (yielded ops a.tmps)=true:=by rfl)(ho:o.op=.load ty x:=by exact rfl)(hx:a.eval x=.pointer (some ⟨b,k,none⟩):=by exact rfl)(hd:d.isRow=true:=by rfl)(hi:(P.info? ty).map (·.size)=some 4:=by kernel_rfl):wpList P ops Q (o::rest) a w:=XH _ hc hu h au ho hx hd hi
theorem s4(v:PT)(hg:w.heap[g]?=some (.cells old t (0,0)))(h:wpList P ops Q rest (a.put o.dst undef) (w.setRow g #[.int .u8 v.head.kind,.int .i64 v.head.rho,.slice v.head.ep v.head.en v.head.ec,.slice v.head.kp v.head.kn v.head.kc]))(au:o.guard=none:=by rfl)(ho:o.op=.store ty x y:=by exact rfl)(hx:a.eval x=.pointer (some ⟨g,0,none⟩):=by exact rfl)(hy:a.eval y=.agg #[.int .u8 v.head.kind,.int .i64 v.head.rho,.slice v.head.ep v.head.en v.head.ec,.slice v.head.kp v.head.kn v.head.kc]:=by exact rfl)(hi:(P.info? ty).map (·.size)=some 4:=by kernel_rfl)(dJ:old.size=4:=by exact rfl):wpList P ops Q (o::rest) a w:=sw _ hg h au ho hx hy hi dJ (by simp [Value.oneCell'])
theorem n4(v:PT)(h:wpList P ops Q rest (a.put o.dst undef) (W.alloc (.cells #[.int .u8 v.head.kind,.int .i64 v.head.rho,.slice v.head.ep v.head.en v.head.ec,.slice v.head.kp v.head.kn v.head.kc] t)))(au:o.guard=none:=by rfl)(ho:o.op=.store ty x y:=by exact rfl)(hx:a.eval x=.pointer (some ⟨g,0,none⟩):=by exact rfl)(hy:a.eval y=.agg #[.int .u8 v.head.kind,.int .i64 v.head.rho,.slice v.head.ep v.head.en v.head.ec,.slice v.head.kp v.head.kn v.head.kc]:=by exact rfl)(hg:W.heap.size=g:=by simp)(hi:(P.info? ty).map (·.size)=some 4:=by kernel_rfl)(dJ:old.size=4:=by exact rfl):wpList P ops Q (o::rest) a (W.alloc (.cells old t)):=sn _ h au ho hx hy hg hi dJ (by simp [Value.oneCell'])
end
section
open Go.ChangeShapes Go.WideShapes Go.ChangeAt Go.RowKit Go.Deep
section
variable {H:Type} {enc:TypeId×Value→H} {W:World} {base:Nat} {t e:TypeId} {v:Value} {d:DataW H} {ps:List MemPlace}
theorem Sa(n:Nat):Su enc W 28 n LR.encT (LR.lies W):=by
 induction n using Nat.strongRecOn with
 |_ n ih=>
 intro cs' x h aG;have he:prog.underlying 28=some (.struct (prog.fieldsOf 28)):=by kernel_rfl
 have ce:prog.cellsOf 28=4:=by kernel_rfl
 have F0:((prog.fieldsOf 28)[0]?).map (fun f=>(f.type,f.offset))=some (5,0):=by kernel_rfl
 have F1:((prog.fieldsOf 28)[1]?).map (fun f=>(f.type,f.offset))=some (3,1):=by kernel_rfl
 have F2:((prog.fieldsOf 28)[2]?).map (fun f=>(f.type,f.offset))=some (25,2):=by kernel_rfl
 have F3:((prog.fieldsOf 28)[3]?).map (fun f=>(f.type,f.offset))=some (26,3):=by kernel_rfl
 have C0:prog.cellsOf 5=1:=by kernel_rfl
 have C1:prog.cellsOf 3=1:=by kernel_rfl
 have C2:prog.cellsOf 25=1:=by kernel_rfl
 have C3:prog.cellsOf 26=1:=by kernel_rfl
 have CA:prog.cellsOf 59=3:=by kernel_rfl
 rw [ce] at aG;obtain⟨xs,k,hk,nK,_,j9,dz⟩:=DataW.trod_struct he h;obtain⟨f0,e0,p0⟩:=Option.map_eq_some_iff.1 F0;obtain⟨f1,e1,p1⟩:=Option.map_eq_some_iff.1 F1;obtain⟨f2,e2,p2⟩:=Option.map_eq_some_iff.1 F2;obtain⟨f3,e3,p3⟩:=Option.map_eq_some_iff.1 F3;simp only [Prod.mk.injEq] at p0 p1 p2 p3;have g0:=dz 0 f0 e0;have g1:=dz 1 f1 e1;have g2:=dz 2 f2 e2;have g3:=dz 3 f3 e3;rw [p0.1,p0.2,C0] at g0;rw [p1.1,p1.2,C1] at g1;rw [p2.1,p2.2,C2] at g2;rw [p3.1,p3.2,C3] at g3;have b3:=(Array.getElem?_eq_some_iff.1 e3).1;match cs',aG with
 |[v0,v1,v2,v3],_=>
  rw [List.getElem?_eq_getElem (show 0<xs.length by omega)] at g0;rw [List.getElem?_eq_getElem (show 1<xs.length by omega)] at g1;rw [List.getElem?_eq_getElem (show 2<xs.length by omega)] at g2;rw [List.getElem?_eq_getElem (show 3<xs.length by omega)] at g3;obtain⟨z0,q0,_,b0'⟩:=DataW.trod_int underlying5 g0;obtain⟨z1,q1,_,b1'⟩:=DataW.trod_int underlying3 g1;obtain⟨ep,en,ec,eff,q2,re,oke⟩:=FF AS Cq underlying25 CA (by omega) AF g2 (fun n _=>OH n);obtain⟨kp,kn,kc,l,q3,rk,okk⟩:=FF LR.encT (LR.lies W) underlying26 ce (by omega) Hi g3 (fun m hm=>ih m (by omega));simp at q0 q1 q2 q3;have h0:0≤z0∧z0≤255:=by simpa [Lit.wf,IntKind.min,IntKind.max,IntKind.signed,IntKind.bits] using b0'
  have h1:-9223372036854775808≤z1∧z1≤9223372036854775807:=by simpa [Lit.wf,IntKind.min,IntKind.max,IntKind.signed,IntKind.bits] using b1'
  refine⟨.node ⟨z0,z1,ep,en,ec,eff,kp,kn,kc⟩ l,by rw [q0,q1,q2,q3];rfl,BK.lies ⟨⟨re,oke,h0.1,h0.2,h1.1,h1.2,rk.max,rk.le,rk.nil⟩,rk,okk⟩⟩
end
end
section
open Go.ChangeShapes Go.WideShapes Go.ChangeAt Go.RowKit Go.Deep
section
variable {H:Type} {enc:TypeId×Value→H} {W:World} {base:Nat} {t e:TypeId} {v:Value} {d:DataW H} {ps:List MemPlace}
structure CT where
 kind:Int
 op:Int
 at_:Int
 n:Int
 name:ByteArray
 arg:ByteArray
 exn:ByteArray
def WV(h:CT):List Value:=[.int .u8 h.kind,.int .u8 h.op,.int .i64 h.at_,.int .i64 h.n,.string h.name,.string h.arg,.string h.exn]
structure CT.Ok(h:CT):Prop where
 k0:0≤h.kind
 k1:h.kind≤255
 o0:0≤h.op
 o1:h.op≤255
 at_:O4 h.at_
 n:O4 h.n
 name:h.name.size≤9223372036854775807
 arg:h.arg.size≤9223372036854775807
 exn:h.exn.size≤9223372036854775807
theorem TM(n:Nat):Su enc W 23 n WV CT.Ok:=by
 intro cs' x h aG;have he:prog.underlying 23=some (.struct (prog.fieldsOf 23)):=by kernel_rfl
 have ce:prog.cellsOf 23=7:=by kernel_rfl
 have F0:((prog.fieldsOf 23)[0]?).map (fun f=>(f.type,f.offset))=some (5,0):=by kernel_rfl
 have F1:((prog.fieldsOf 23)[1]?).map (fun f=>(f.type,f.offset))=some (5,1):=by kernel_rfl
 have F2:((prog.fieldsOf 23)[2]?).map (fun f=>(f.type,f.offset))=some (3,2):=by kernel_rfl
 have F3:((prog.fieldsOf 23)[3]?).map (fun f=>(f.type,f.offset))=some (2,3):=by kernel_rfl
 have F4:((prog.fieldsOf 23)[4]?).map (fun f=>(f.type,f.offset))=some (9,4):=by kernel_rfl
 have F5:((prog.fieldsOf 23)[5]?).map (fun f=>(f.type,f.offset))=some (9,5):=by kernel_rfl
 have F6:((prog.fieldsOf 23)[6]?).map (fun f=>(f.type,f.offset))=some (9,6):=by kernel_rfl
 have C_uint8:prog.cellsOf 5=1:=by kernel_rfl
 have C_int:prog.cellsOf 3=1:=by kernel_rfl
 have C_int64:prog.cellsOf 2=1:=by kernel_rfl
 have C_string:prog.cellsOf 9=1:=by kernel_rfl
 rw [ce] at aG;obtain⟨xs,k,hk,nK,_,j9,dz⟩:=DataW.trod_struct he h;obtain⟨f0,e0,p0⟩:=Option.map_eq_some_iff.1 F0;obtain⟨f1,e1,p1⟩:=Option.map_eq_some_iff.1 F1;obtain⟨f2,e2,p2⟩:=Option.map_eq_some_iff.1 F2;obtain⟨f3,e3,p3⟩:=Option.map_eq_some_iff.1 F3;obtain⟨f4,e4,p4⟩:=Option.map_eq_some_iff.1 F4;obtain⟨f5,e5,p5⟩:=Option.map_eq_some_iff.1 F5;obtain⟨f6,e6,p6⟩:=Option.map_eq_some_iff.1 F6;simp only [Prod.mk.injEq] at p0 p1 p2 p3 p4 p5 p6;have g0:=dz 0 f0 e0;have g1:=dz 1 f1 e1;have g2:=dz 2 f2 e2;have g3:=dz 3 f3 e3;have g4:=dz 4 f4 e4;have g5:=dz 5 f5 e5;have g6:=dz 6 f6 e6;rw [p0.1,p0.2,C_uint8] at g0;rw [p1.1,p1.2,C_uint8] at g1;rw [p2.1,p2.2,C_int] at g2;rw [p3.1,p3.2,C_int64] at g3;rw [p4.1,p4.2,C_string] at g4;rw [p5.1,p5.2,C_string] at g5;rw [p6.1,p6.2,C_string] at g6;have bl:=(Array.getElem?_eq_some_iff.1 e6).1;match cs',aG with
 |[v0,v1,v2,v3,v4,v5,v6],_=>
  rw [List.getElem?_eq_getElem (show 0<xs.length by omega)] at g0;rw [List.getElem?_eq_getElem (show 1<xs.length by omega)] at g1;rw [List.getElem?_eq_getElem (show 2<xs.length by omega)] at g2;rw [List.getElem?_eq_getElem (show 3<xs.length by omega)] at g3;rw [List.getElem?_eq_getElem (show 4<xs.length by omega)] at g4;rw [List.getElem?_eq_getElem (show 5<xs.length by omega)] at g5;rw [List.getElem?_eq_getElem (show 6<xs.length by omega)] at g6;obtain⟨z0,q0,_,b0⟩:=DataW.trod_int underlying5 g0;obtain⟨z1,q1,_,b1⟩:=DataW.trod_int underlying5 g1;obtain⟨z2,q2,_,b2⟩:=DataW.trod_int underlying3 g2;obtain⟨z3,q3,_,b3⟩:=DataW.trod_int underlying2 g3;obtain⟨z4,q4,_,b4⟩:=DataW.trod_string underlying9 g4;obtain⟨z5,q5,_,b5⟩:=DataW.trod_string underlying9 g5;obtain⟨z6,q6,_,b6⟩:=DataW.trod_string underlying9 g6;simp at q0 q1 q2 q3 q4 q5 q6;have h0:0≤z0∧z0≤255:=by simpa [Lit.wf,IntKind.min,IntKind.max,IntKind.signed,IntKind.bits] using b0
  have h1:0≤z1∧z1≤255:=by simpa [Lit.wf,IntKind.min,IntKind.max,IntKind.signed,IntKind.bits] using b1
  have h2:-9223372036854775808≤z2∧z2≤9223372036854775807:=by simpa [Lit.wf,IntKind.min,IntKind.max,IntKind.signed,IntKind.bits] using b2
  have h3:-9223372036854775808≤z3∧z3≤9223372036854775807:=by simpa [Lit.wf,IntKind.min,IntKind.max,IntKind.signed,IntKind.bits] using b3
  unfold maxLen at b4 b5 b6;exact⟨⟨z0,z1,z2,z3,z4,z5,z6⟩,by rw [q0,q1,q2,q3,q4,q5,q6];rfl,h0.1,h0.2,h1.1,h1.2,h2,h3,by show z4.size≤_;omega,by show z5.size≤_;omega,by show z6.size≤_;omega⟩
theorem Vw(n:Nat):Su enc W 31 n LA.encT (LA.lies W):=by
 induction n using Nat.strongRecOn with
 |_ n ih=>
 intro cs' x h aG;have he:prog.underlying 31=some (.struct (prog.fieldsOf 31)):=by kernel_rfl
 have ce:prog.cellsOf 31=19:=by kernel_rfl
 have CAt:prog.cellsOf 59=3:=by kernel_rfl
 have CI:prog.cellsOf 3=1:=by kernel_rfl
 have F0:((prog.fieldsOf 31)[0]?).map (fun f=>(f.type,f.offset))=some (23,0):=by kernel_rfl
 have F1:((prog.fieldsOf 31)[1]?).map (fun f=>(f.type,f.offset))=some (3,7):=by kernel_rfl
 have F2:((prog.fieldsOf 31)[2]?).map (fun f=>(f.type,f.offset))=some (24,8):=by kernel_rfl
 have F3:((prog.fieldsOf 31)[3]?).map (fun f=>(f.type,f.offset))=some (25,9):=by kernel_rfl
 have F4:((prog.fieldsOf 31)[4]?).map (fun f=>(f.type,f.offset))=some (28,10):=by kernel_rfl
 have F5:((prog.fieldsOf 31)[5]?).map (fun f=>(f.type,f.offset))=some (28,14):=by kernel_rfl
 have F6:((prog.fieldsOf 31)[6]?).map (fun f=>(f.type,f.offset))=some (29,18):=by kernel_rfl
 have C_apiHead:prog.cellsOf 23=7:=by kernel_rfl
 have C_int:prog.cellsOf 3=1:=by kernel_rfl
 have C_sint:prog.cellsOf 24=1:=by kernel_rfl
 have C_sapiAtom:prog.cellsOf 25=1:=by kernel_rfl
 have C_apiRType:prog.cellsOf 28=4:=by kernel_rfl
 have C_sapiATerm:prog.cellsOf 29=1:=by kernel_rfl
 rw [ce] at aG;obtain⟨xs,k,hk,nK,_,j9,dz⟩:=DataW.trod_struct he h;obtain⟨f0,e0,p0⟩:=Option.map_eq_some_iff.1 F0;obtain⟨f1,e1,p1⟩:=Option.map_eq_some_iff.1 F1;obtain⟨f2,e2,p2⟩:=Option.map_eq_some_iff.1 F2;obtain⟨f3,e3,p3⟩:=Option.map_eq_some_iff.1 F3;obtain⟨f4,e4,p4⟩:=Option.map_eq_some_iff.1 F4;obtain⟨f5,e5,p5⟩:=Option.map_eq_some_iff.1 F5;obtain⟨f6,e6,p6⟩:=Option.map_eq_some_iff.1 F6;simp only [Prod.mk.injEq] at p0 p1 p2 p3 p4 p5 p6;have g0:=dz 0 f0 e0;have g1:=dz 1 f1 e1;have g2:=dz 2 f2 e2;have g3:=dz 3 f3 e3;have g4:=dz 4 f4 e4;have g5:=dz 5 f5 e5;have g6:=dz 6 f6 e6;rw [p0.1,p0.2,C_apiHead] at g0;rw [p1.1,p1.2,C_int] at g1;rw [p2.1,p2.2,C_sint] at g2;rw [p3.1,p3.2,C_sapiAtom] at g3;rw [p4.1,p4.2,C_apiRType] at g4;rw [p5.1,p5.2,C_apiRType] at g5;rw [p6.1,p6.2,C_sapiATerm] at g6;have bl:=(Array.getElem?_eq_some_iff.1 e6).1;match cs',aG with
 |[v0,v1,v2,v3,v4,v5,v6,v7,v8,v9,v10,v11,v12,v13,v14,v15,v16,v17,v18],_=>
  rw [List.getElem?_eq_getElem (show 0<xs.length by omega)] at g0;rw [List.getElem?_eq_getElem (show 1<xs.length by omega)] at g1;rw [List.getElem?_eq_getElem (show 2<xs.length by omega)] at g2;rw [List.getElem?_eq_getElem (show 3<xs.length by omega)] at g3;rw [List.getElem?_eq_getElem (show 4<xs.length by omega)] at g4;rw [List.getElem?_eq_getElem (show 5<xs.length by omega)] at g5;rw [List.getElem?_eq_getElem (show 6<xs.length by omega)] at g6;obtain⟨hd,q0,hh⟩:=TM _ _ _ g0 (by simp [C_apiHead]);obtain⟨z1,q1,_,b1⟩:=DataW.trod_int underlying3 g1;obtain⟨rp,rn,rc,rhos,q2,rr,rok⟩:=FF Ab O4 underlying24 CI (by omega) Ag g2 (fun n _=>Ud n);obtain⟨ep,en,ec,eff,q3,re,eok⟩:=FF AS Cq underlying25 CAt (by omega) AF g3 (fun n _=>OH n);obtain⟨ty,q4,cR⟩:=Sa _ _ _ g4 (by simp [C_apiRType]);obtain⟨res,q5,cE⟩:=Sa _ _ _ g5 (by simp [C_apiRType]);obtain⟨kp,kn,kc,l,q6,rk,okk⟩:=FF LA.encT (LA.lies W) underlying29 ce (by omega) SS g6 (fun m hm=>ih m (by omega));simp [WV,Sb,Ma] at q0 q1 q2 q3 q4 q5 q6;have h1:-9223372036854775808≤z1∧z1≤9223372036854775807:=by simpa [Lit.wf,IntKind.min,IntKind.max,IntKind.signed,IntKind.bits] using b1
  obtain⟨rfl,rfl,rfl,rfl,rfl,rfl,rfl⟩:=q0;obtain⟨rfl,rfl,rfl,rfl⟩:=q4;obtain⟨rfl,rfl,rfl,rfl⟩:=q5;subst q1 q2 q3 q6
  exact⟨.node ⟨hd.kind,hd.op,hd.at_,hd.n,hd.name,hd.arg,hd.exn,z1,rp,rn,rc,rhos,ep,en,ec,eff,ty,res,kp,kn,kc⟩ l,rfl,
   Fr.lies ⟨⟨hh.k0,hh.k1,hh.o0,hh.o1,hh.at_,hh.n,hh.name,hh.arg,hh.exn,h1,rr,rok,re,eok,cR,cE,rk.max,rk.le,rk.nil⟩,rk,okk⟩⟩
theorem Xb(hv:Value.okWide prog W .any base 31 v)(h:DataW.Trod enc prog W 0 (fun _=>true) true 31 v d ps):∃x:PA,v=Aj x.head∧LA.lies W x:=by
 have he:prog.underlying 31=some (.struct (prog.fieldsOf 31)):=by kernel_rfl
 have ce:prog.cellsOf 31=19:=by kernel_rfl
 simp only [Value.okWide,he] at hv;obtain⟨cs,rfl,hs,_⟩:=hv;obtain⟨fuel,hf⟩:=h;obtain⟨y,hy,hl⟩:=Vw fuel cs.toList _ hf (by simpa using hs);refine⟨y,?_,hl⟩;obtain⟨a⟩:=cs;have e:LA.encT y=Bn y.head:=rfl;simp only [e,Bn] at hy;rw [hy]
end
end
theorem Vt(fid:FuncId)(q:ByteArray→Bool)(I:World→Prop)(hI:∀w w',I w→Below w.heap.size w w'→I w')(a7:∀args w,(callFunc fid args).run prog w=.ok (.enter fid args) w)(hq:∀s w,I w→Calls prog fid #[.string s] w fun e w'=>e=.returned (.bool (q s))∧Below w.heap.size w w')(s:ByteArray)(a:Addr)(w:World)(hw:I w)(a6:w.cell? a=some (.func (.func fid) #[] #[])):Calls prog 247 #[.string s,.pointer (some a)] w (RB w (.bool (!q s))):=by have HQ:=AA hq;have HW:=AA hw;clear hq hw hI;go_enter func247,ntmps247;go_wp2_with fail;refine(HQ.o s w HW.o).mono ?_;rintro e w1 ⟨rfl,hb⟩;have HB:=AA hb;clear hb;go_wp2_with fail;go_ret;exact⟨rfl,HB.o⟩
theorem K5(fid:FuncId)(q:ByteArray→Bool)(I:World→Prop)(hI:∀w w',I w→Below w.heap.size w w'→I w')(a7:∀args w,(callFunc fid args).run prog w=.ok (.enter fid args) w)(hq:∀s w,I w→Calls prog fid #[.string s] w fun e w'=>e=.returned (.bool (q s))∧Below w.heap.size w w')(a:Addr)(p:Option Addr)(n cap:Nat)(l:List ByteArray)(w:World)(hw:I w)(hn:l.length=n)(hm:n≤9223372036854775807)(hr:Au EC 1 w p l)(a6:w.cell? a=some (.func (.func fid) #[] #[])) :
 Calls prog 262 #[.slice p n cap,.func (.func 247) #[] #[.pointer (some a)]] w fun e w'=>(∃r:Int,e=.returned (.int .i64 r)∧(l.any (fun s=>!q s)=decide (0≤r)))∧Below w.heap.size w w':=by
 have HR:=AA hr
 have HN:=AA hn
 have HX:=AA a6
 have HA:=AA (fun x W hw h=>Vt fid q I hI a7 hq x a W hw h)
 have jJ:=AA hI
 have HW:=AA hw
 clear hr hn a6 hq a7 hI hw
 go_enter func262,ntmps262
 go_wp2_with fail
 go_loopw [5,8] (fun _ i wr=>∃k:Nat,k≤n∧i=.int .i64 k∧(l.take k).any (fun s=>!q s)=false∧Below w.heap.size w wr) (fun _ i _=>n-(intOf i).toNat)
 case atStart=>exact⟨0,by omega,rfl,by simp,Below.refl _ _⟩
 case round=>
  obtain⟨k,hk,rfl,ac,hb⟩:=hrel;have an:=AA ac;have HB:=AA hb;clear ac hb;by_cases aF:k<n
  ·obtain⟨x,hx⟩:=AM (l:=l) (j:=k) (by rw [HN.o];exact aF);obtain⟨b,o,rfl,bs⟩:=(HR.o.below HB.o).str hx;have HE:=AA hx;have eO:wr.cell? a=some (.func (.func fid) #[] #[]):=by rw [HB.o.cell (An HX.o)];exact HX.o
   clear hx;by_cases hq:q x=true
   ·go_wp2_with fail;refine(HA.o x wr (jJ.o _ _ HW.o HB.o) eO).mono ?_;rintro e w1 ⟨rfl,hb⟩;have aJ:=bt HB hb;clear hb eO bs;go_wp2_with fail;go_roundw
    case rel=>exact⟨k+1,by omega,by go_num,by rw [Av HE.o,an.o,hq];rfl,aJ.o⟩
    case measure=>simp [intOf];omega
   ·have mv:q x=false:=by simpa using hq
    clear hq;go_wp2_with fail;refine(HA.o x wr (jJ.o _ _ HW.o HB.o) eO).mono ?_;rintro e w1 ⟨rfl,hb⟩;have aJ:=bt HB hb;clear hb eO bs;go_wp2_with fail;go_ret;exact⟨⟨k,rfl,by rw [Ex HE.o (by rw [mv];rfl)];simp⟩,aJ.o⟩
  ·go_wp2_with fail;go_ret;have h:=an.o;rw [AP (by rw [HN.o];omega)] at h;exact⟨⟨-1,rfl,by rw [h];simp⟩,HB.o⟩
theorem I6(fid:FuncId)(q:ByteArray→Bool)(I:World→Prop)(hI:∀w w',I w→Below w.heap.size w w'→I w')(a7:∀args w,(callFunc fid args).run prog w=.ok (.enter fid args) w)(hq:∀s w,I w→Calls prog fid #[.string s] w fun e w'=>e=.returned (.bool (q s))∧Below w.heap.size w w')(a:Addr)(p:Option Addr)(n cap:Nat)(l:List ByteArray)(w:World)(hw:I w)(hn:l.length=n)(hm:n≤9223372036854775807)(hr:Au EC 1 w p l)(a6:w.cell? a=some (.func (.func fid) #[] #[])) :
 Calls prog 246 #[.slice p n cap,.func (.func 247) #[] #[.pointer (some a)]] w (RB w (.bool (l.any (fun s=>!q s)))):=by
 have hc:=K5 fid q I hI a7 hq a p n cap l w hw hn hm hr a6
 generalize l.any (fun s=>!q s)=r0 at hc ⊢
 clear hr hn a6 hq a7 hI hw
 go_enter func246,ntmps246
 go_wp2_with fail
 refine hc.mono ?_
 rintro e w1 ⟨⟨r,rfl,hr⟩,hb⟩
 have HR:=AA hr
 have HB:=AA hb
 clear hr hb hc
 go_wp2_with fail
 go_ret
 exact⟨AB HR.o.symm,HB.o⟩
theorem Pk(fid:FuncId)(q:ByteArray→Bool)(I:World→Prop)(hI:∀w w',I w→Below w.heap.size w w'→I w')(a7:∀args w,(callFunc fid args).run prog w=.ok (.enter fid args) w)(hq:∀s w,I w→Calls prog fid #[.string s] w fun e w'=>e=.returned (.bool (q s))∧Below w.heap.size w w')(p:Option Addr)(n cap:Nat)(l:List ByteArray)(w:World)(hw:I w)(hn:l.length=n)(hm:n≤9223372036854775807)(hr:Au EC 1 w p l):Calls prog 210 #[.func (.func fid) #[] #[],.slice p n cap] w (RB w (.bool (l.all q))):=by
 have hc:=fun o=>I6 fid q I hI a7 hq ⟨w.heap.size,0,none⟩ p n cap l (w.alloc o) (hI _ _ hw bA) hn hm (hr.alloc o);have he:Hd (l.all q=!l.any (fun s=>!q s)):=by show l.all q=!l.any (fun s=>!q s);rw [List.all_eq_not_any_not]
 have HC:=AA hc;clear hr hn hc hq a7 hI hw;go_enter func210,ntmps210;go_wp2_with fail;refine(HC.o _ (by rw [AR];rfl)).mono ?_;rintro e w1 ⟨rfl,hb⟩;have HB:Hd (Below w.heap.size w w1):=((Below.refl _ w).alloc (Nat.le_refl _) _).trans (hb.mono (by simp));clear hb;generalize l.any (fun s=>!q s)=r0 at *
 go_wp2_with fail;go_ret;exact⟨AB he.out.symm,HB.o⟩
def Vr(w:World):Prop:=∃m:Int,w.cell? ⟨0,0,none⟩=some (.int .i64 m)
theorem Vr.below{w w':World}(h:Vr w)(hb:Below w.heap.size w w'):Vr w':=by obtain⟨m,h⟩:=h;exact⟨m,by rw [hb.cell (An h)];exact h⟩
def Tj:List ByteArray:=[⟨#[108,101,116]⟩,⟨#[108,101,116,114,101,99]⟩,⟨#[105,110]⟩,⟨#[102,110]⟩,⟨#[105,102]⟩,⟨#[116,104,101,110]⟩,⟨#[101,108,115,101]⟩,⟨#[114,97,105,115,101]⟩,⟨#[116,114,121]⟩,⟨#[119,105,116,104]⟩,⟨#[114,101,102]⟩,⟨#[102,115,116]⟩,⟨#[115,110,100]⟩,⟨#[101,120,110]⟩]
def WZ(s:ByteArray):Bool:=Tj.any (fun k=>decide (k=s))
def Ba(s:ByteArray):Bool:=BJ s 3&&!WZ s
abbrev Ry:ByteArray:=⟨#[32,108,101,116,32,108,101,116,114,101,99,32,105,110,32,102,110,32,105,102,32,116,104,101,110,32,101,108,115,101,32,114,97,105,115,101,32,116,114,121,32,119,105,116,104,32,114,101,102,32,102,115,116,32,115,110,100,32,101,120,110]⟩
theorem U0:Lib.countB Ry ⟨#[32]⟩=14:=by decide +kernel
theorem U1:Lib.splitB ⟨#[32]⟩ 0 14 Ry=(⟨#[]⟩:ByteArray)::Tj:=by decide +kernel
theorem O8{w:World}(hv:Vr w):Calls prog 258 #[] w fun e w'=>e=.returned (.slice (some ⟨w.heap.size,0,none⟩) 15 15)∧Au EC 1 w' (some ⟨w.heap.size,0,none⟩) ((⟨#[]⟩:ByteArray)::Tj)∧Below w.heap.size w w':=by obtain⟨m,hm⟩:=hv;have hc:=strings_Split Ry ⟨#[32]⟩ m w (by decide +kernel) hm (by decide +kernel);rw [U0,U1] at hc;have HC:=AA hc;clear hc hm;go_enter func258,ntmps258;go_wp2_with fail;refine HC.o.mono ?_;rintro e w1 ⟨rfl,rfl⟩;go_wp2_with fail;go_ret;refine⟨rfl,?_,bA⟩;exact Au.newAt De w _ _ rfl _ _ _ rfl
theorem OL(x:ByteArray):∀(l:List ByteArray) (i:Nat),(l.any (fun y=>decide (y=x))=false∧Lib.idxFromS l x i=-1)∨∃k:Nat,k<l.length∧l.any (fun y=>decide (y=x))=true∧Lib.idxFromS l x i=((i+k:Nat):Int)
 |[],i=>.inl ⟨rfl,rfl⟩
 |y::l,i=>by
  unfold Lib.idxFromS;by_cases h:y=x
  ·subst h;exact .inr ⟨0,by simp,by simp,by simp⟩
  ·rw [if_neg h];rcases OL x l (i+1) with⟨h1,h2⟩|⟨k,hk,h1,h2⟩
   ·exact .inl ⟨by rw [List.any_cons,h1];simp [h],h2⟩
   ·exact .inr ⟨k+1,by simpa using hk,by rw [List.any_cons,h1];simp,by rw [h2];congr 1;omega⟩
theorem Wv{s:ByteArray}(h:s.size≠0):∃r:Int,Lib.idxOfS ((⟨#[]⟩:ByteArray)::Tj) s=r∧(WZ s=false∧r=-1∨WZ s=true∧1≤r∧r≤14):=by
 have h0:¬((⟨#[]⟩:ByteArray)=s):=by rintro rfl;exact h rfl
 refine⟨_,rfl,?_⟩;have e:Lib.idxOfS ((⟨#[]⟩:ByteArray)::Tj) s=Lib.idxFromS Tj s 1:=by show (if(⟨#[]⟩:ByteArray)=s then(0:Int) else Lib.idxFromS Tj s 1)=_;rw [if_neg h0]
 rw [e];rcases OL s Tj 1 with⟨h1,h2⟩|⟨k,hk,h1,h2⟩
 ·exact .inl ⟨h1,h2⟩
 ·have:Tj.length=14:=rfl;exact .inr ⟨h1,by rw [h2];omega,by rw [h2];omega⟩
theorem KZ{w:World}(hv:Vr w)(s:ByteArray):Calls prog 236 #[.string s] w fun e w'=>(∃r:Int,e=.returned (.int .i64 r)∧(s.size≠0→decide (r=0)=!WZ s))∧Below w.heap.size w w':=by
 have HV:=AA hv;clear hv;by_cases h0:s.size=0
 ·have hs:s=⟨#[]⟩:=by apply ByteArray.ext;exact Array.eq_empty_of_size_eq_zero h0
  subst hs;clear h0;go_enter func236,ntmps236;go_wp2_with fail;go_ret;exact⟨⟨0,rfl,fun h=>absurd rfl h⟩,Below.refl _ _⟩
 ·have aS:¬s=⟨#[]⟩:=by rintro rfl;exact h0 rfl
  have hb:s.toList.isEmpty=false:=by
   rw [Lib.toList_data];cases h:s.data.toList with
   |nil=>exact absurd (by show s.data.size=0;rw [←Array.length_toList,h];rfl) h0
   |cons x l=>rfl
  clear aS;obtain⟨r,hr,nC⟩:=Wv h0;have HR:=AA hr;have aa:=AA nC;clear hr nC h0;go_enter func236,ntmps236;go_wp2_with fail;refine(O8 HV.o).mono ?_;rintro e w1 ⟨rfl,aD,hb⟩;have aL:=AA aD;have HB:=AA hb;clear aD hb;go_wp2_with fail
  have hc:=slices_Index_string w.heap.size 0 15 15 ((⟨#[]⟩:ByteArray)::Tj) s w1 (by decide) (by decide) (fun j hj=>by
   rcases aL.o with h|⟨b,o,he,_,bs⟩
   ·cases h
   ·cases he
    have:=bs j _ (List.getElem?_eq_getElem hj) 0 _ rfl;rw [List.getD_eq_getElem?_getD,List.getElem?_eq_getElem hj];simpa using this)
  rw [List.take_of_length_le (by decide),HR.o] at hc;refine hc.mono ?_;rintro e w2 ⟨rfl,rfl⟩;clear hc;rcases aa.o with⟨h1,h2⟩|⟨h1,h2,h3⟩
  ·subst h2;go_wp2_with fail;go_ret;exact⟨⟨0,rfl,fun _=>by rw [h1];rfl⟩,HB.o⟩
  ·have hp:(0:Int)<r:=by omega
   go_wp2_with fail;go_ret;refine⟨⟨max 0 r,rfl,fun _=>?_⟩,HB.o⟩;rw [h1];have:¬(max 0 r=0):=by omega
   simp [this]
theorem Tm{w:World}(hv:Vr w)(s:ByteArray):Calls prog 235 #[.string s] w (RB w (.bool (Ba s))):=by
 have HV:=AA hv;clear hv;cases h:BJ s 3
 ·have H:=AA h;clear h;have HN:Hd (Ba s=false):=by show _=_;unfold Ba;rw [H.o];rfl
  go_enter func235,ntmps235;go_wp2_with fail;refine(Jl s 3 _).mono ?_;rintro e w1 ⟨rfl,hb⟩;rw [H.o];have HB:=AA hb;clear hb;go_wp2_with fail;go_ret;exact⟨AB HN.o.symm,HB.o⟩
 ·have H:=AA h;have h0:s.size≠0:=by intro h0;unfold BJ at h;rw [h0] at h;simp at h
  have H0:=AA h0;clear h h0;go_enter func235,ntmps235;go_wp2_with fail;refine(Jl s 3 _).mono ?_;rintro e w1 ⟨rfl,hb⟩;rw [H.o];have HB:=AA hb;clear hb;go_wp2_with fail;refine(KZ (HV.o.below HB.o) s).mono ?_;rintro e w2 ⟨⟨r,rfl,hr⟩,hb⟩;have aK:=bt HB hb;have HR:=AA (hr H0.o);clear hb hr;go_wp2_with fail;go_ret;refine⟨AB ?_,aK.o⟩;unfold Ba;rw [H.o,←HR.o];show (r==0)=_;by_cases da:r=0<;>simp [da]
theorem NV{w:World}(hv:Vr w)(p:Option Addr)(n cap:Nat)(l:List ByteArray)(hn:l.length=n)(hm:n≤9223372036854775807)(hr:Au EC 1 w p l):Calls prog 207 #[.slice p n cap] w (RB w (.bool (l.all Ba))):=by
 have hc:=Pk 235 Ba Vr (fun _ _ h hb=>h.below hb) (fun args w=>by kernel_rfl) (fun s w h=>Tm h s) p n cap l w hv hn hm hr;generalize l.all Ba=r0 at *
 have HC:=AA hc;clear hr hn hc hv;go_enter func207,ntmps207;go_wp2_with fail;refine HC.o.mono ?_;rintro e w1 ⟨rfl,hb⟩;have HB:=AA hb;clear hb;go_wp2_with fail;go_ret;exact⟨rfl,HB.o⟩
theorem Lv(s:ByteArray)(w:World):Calls prog 147 #[.string s] w fun e w'=>(∃r:Int,e=.returned (.int .i64 r)∧decide (r=0)=!WZ s)∧Below w.heap.size w w':=by
 have HR:=AA (show Au EC 1 (w.alloc (.cells #[.string ⟨#[108,101,116]⟩,.string ⟨#[108,101,116,114,101,99]⟩,.string ⟨#[105,110]⟩,.string ⟨#[102,110]⟩,.string ⟨#[105,102]⟩,.string ⟨#[116,104,101,110]⟩,.string ⟨#[101,108,115,101]⟩,.string ⟨#[114,97,105,115,101]⟩,.string ⟨#[116,114,121]⟩,.string ⟨#[119,105,116,104]⟩,.string ⟨#[114,101,102]⟩,.string ⟨#[102,115,116]⟩,.string ⟨#[115,110,100]⟩,.string ⟨#[101,120,110]⟩] 9)) (some ⟨w.heap.size,0,none⟩) Tj from Au.newAt De w _ _ rfl _ _ _ rfl);have aE:=AA ((Below.refl w.heap.size w).alloc (Nat.le_refl _) (.cells #[.string ⟨#[108,101,116]⟩,.string ⟨#[108,101,116,114,101,99]⟩,.string ⟨#[105,110]⟩,.string ⟨#[102,110]⟩,.string ⟨#[105,102]⟩,.string ⟨#[116,104,101,110]⟩,.string ⟨#[101,108,115,101]⟩,.string ⟨#[114,97,105,115,101]⟩,.string ⟨#[116,114,121]⟩,.string ⟨#[119,105,116,104]⟩,.string ⟨#[114,101,102]⟩,.string ⟨#[102,115,116]⟩,.string ⟨#[115,110,100]⟩,.string ⟨#[101,120,110]⟩] 9));go_enter func147,ntmps147;go_wp2_with fail;have hc:Calls prog 199 #[] w fun e w'=>e=.returned (.slice (some ⟨w.heap.size,0,none⟩) 14 14)∧w'=w.alloc (.cells #[.string ⟨#[108,101,116]⟩,.string ⟨#[108,101,116,114,101,99]⟩,.string ⟨#[105,110]⟩,.string ⟨#[102,110]⟩,.string ⟨#[105,102]⟩,.string ⟨#[116,104,101,110]⟩,.string ⟨#[101,108,115,101]⟩,.string ⟨#[114,97,105,115,101]⟩,.string ⟨#[116,114,121]⟩,.string ⟨#[119,105,116,104]⟩,.string ⟨#[114,101,102]⟩,.string ⟨#[102,115,116]⟩,.string ⟨#[115,110,100]⟩,.string ⟨#[101,120,110]⟩] 9):=by clear HR aE;go_enter func199,ntmps199;go_wp2_with fail;go_ret;exact⟨rfl,rfl⟩
 refine hc.mono ?_;rintro e w1 ⟨rfl,rfl⟩;clear hc;generalize w.alloc (.cells #[.string ⟨#[108,101,116]⟩,.string ⟨#[108,101,116,114,101,99]⟩,.string ⟨#[105,110]⟩,.string ⟨#[102,110]⟩,.string ⟨#[105,102]⟩,.string ⟨#[116,104,101,110]⟩,.string ⟨#[101,108,115,101]⟩,.string ⟨#[114,97,105,115,101]⟩,.string ⟨#[116,114,121]⟩,.string ⟨#[119,105,116,104]⟩,.string ⟨#[114,101,102]⟩,.string ⟨#[102,115,116]⟩,.string ⟨#[115,110,100]⟩,.string ⟨#[101,120,110]⟩] 9)=W at *
 go_wp2_with fail;go_loopw [8] (fun i wr=>∃k:Nat,k≤14∧i=.int .i64 k∧(Tj.take k).any (fun y=>decide (y=s))=false∧wr=W) (fun i _=>14-(intOf i).toNat)
 case atStart=>exact⟨0,by omega,rfl,rfl,rfl⟩
 case round=>
  obtain⟨k,hk,rfl,ac,rfl⟩:=hrel;have an:=AA ac;clear ac;by_cases aF:k<14
  ·obtain⟨x,hx⟩:=AM (l:=Tj) (j:=k) aF;obtain⟨b,o,bF,bs⟩:=HR.o.str hx;cases bF;rw [Nat.zero_add] at bs;have HE:=AA hx;clear hx;by_cases hq:x=s
   ·have hb:(x.toList==s.toList)=true:=by rw [Dm];simpa using hq
    have HQ:=AA hq;clear hq;go_wp2_with fail;go_ret;refine⟨⟨_,rfl,?_⟩,aE.o⟩;have h1:WZ s=true:=Ex HE.o (by simpa using HQ.o);rw [h1];simp;omega
   ·have hb:(x.toList==s.toList)=false:=by rw [Dm];simpa using hq
    have HQ:=AA hq;clear hq;go_wp2_with fail;go_roundw
    case rel=>exact⟨k+1,by omega,by go_num,by rw [Av HE.o,an.o];simp [HQ.o],by first|rfl|trivial⟩
    case measure=>simp [intOf];omega
  ·have ao:k=14:=by omega
   subst ao;have h:=an.o;rw [AP (by decide)] at h;have H:=AA h;clear h;go_wp2_with fail;go_ret;exact⟨⟨0,rfl,by show decide _=!WZ s;unfold WZ;rw [H.o];rfl⟩,aE.o⟩
theorem Dq(s:ByteArray)(w:World):Calls prog 103 #[.string s] w (RB w (.bool (Ba s))):=by
 cases h:BJ s 3
 ·have H:=AA h;clear h;have HN:Hd (Ba s=false):=by show _=_;unfold Ba;rw [H.o];rfl
  go_enter func103,ntmps103;go_wp2_with fail;refine(GY s 3 _).mono ?_;rintro e w1 ⟨rfl,hb⟩;rw [H.o];have HB:=AA hb;clear hb;go_wp2_with fail;go_ret;exact⟨AB HN.o.symm,HB.o⟩
 ·have H:=AA h;clear h;go_enter func103,ntmps103;go_wp2_with fail;refine(GY s 3 _).mono ?_;rintro e w1 ⟨rfl,hb⟩;rw [H.o];have HB:=AA hb;clear hb;go_wp2_with fail;refine(Lv s _).mono ?_;rintro e w2 ⟨⟨r,rfl,hr⟩,hb⟩;have aK:=bt HB hb;have HR:=AA hr;clear hb hr;go_wp2_with fail;go_ret;refine⟨AB ?_,aK.o⟩;unfold Ba;rw [H.o,←HR.o];show (r==0)=_;by_cases da:r=0<;>simp [da]
end Go.Proofs.YtkdjnegfnhldpaaGreatDoor
