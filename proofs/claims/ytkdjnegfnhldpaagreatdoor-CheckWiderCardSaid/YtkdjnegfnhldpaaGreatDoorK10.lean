/- Part 10. -/
import Derived.Test.YtkdjnegfnhldpaaGreatDoorK09
set_option linter.unusedVariables false
set_option maxRecDepth 100000
set_option linter.unusedSimpArgs false
set_option maxHeartbeats 40000000
namespace Go.Proofs.YtkdjnegfnhldpaaGreatDoor
open Go.Proofs.Tryz Go.RowKit
section
variable {ops:Array Oper} {Q:Exit→Act→World→Prop} {md:Region.Mode} {S:World→Prop} {v:Value} {fuel:Nat} {listed:Array Bool} {a a':Act} {w:World} {o:Op} {x:TypeId} {z:String} {u:Array Edge}
theorem t4(i d:Nat)(y:PT)(b k:Nat)(hc:∀w,S w→w.rangeAt b k [.int .u8 y.head.kind,.int .i64 y.head.rho,.slice y.head.ep y.head.en y.head.ec,.slice y.head.kp y.head.kn y.head.kc])(hh:wpAnyH prog md ops Q S fuel (listed.setIfInBounds i true) a' w)(hi:ops[i]?=some ⟨some d,o,x,z,u,none⟩:=by exact rfl)(hw:Region.wanted ⟨some d,o,x,z,u,none⟩ (yielded ops a.tmps)=true:=by rfl){X:Operand}(ho:(⟨some d,o,x,z,u,none⟩:Oper).op=.load 28 X:=by exact rfl)(hx:a.eval X=.pointer (some ⟨b,k,none⟩):=by exact rfl)(he:a.put (some d) (.agg #[.int .u8 y.head.kind,.int .i64 y.head.rho,.slice y.head.ep y.head.en y.head.ec,.slice y.head.kp y.head.kn y.head.kc])=a':=by simp only [Act.put,zA,zB,zC];rfl)(hs:Region.noSelect ops=true:=by kernel_rfl)(hf:Region.free md ops listed i=true:=by kernel_rfl)(hr:(Region.ready md ops listed).contains i=true:=by kernel_rfl)(hQ:∀c b w,Q (.panic c) (b.put (some d) (.agg #[.int .u8 y.head.kind,.int .i64 y.head.rho,.slice y.head.ep y.head.en y.head.ec,.slice y.head.kp y.head.kn y.head.kc])) w→Q (.panic c) b w:=by exact fun _ _ _ h=>h)(hS:S w:=by assumption):wpAnyH prog md ops Q S (fuel+1) listed a w:=by subst he;exact wpAnyH_take hi hs hf hr hQ (yieldsIf_load_mid hw 28 X ho b k hx [.int .u8 y.head.kind,.int .i64 y.head.rho,.slice y.head.ep y.head.en y.head.ec,.slice y.head.kp y.head.kn y.head.kc] _ hc underlying28 rfl (by kernel_rfl)) hS hh
theorem Uy(i d p:Nat)(t:Bool)(y:PT)(b k:Nat)(hc:∀w,S w→w.rangeAt b k [.int .u8 y.head.kind,.int .i64 y.head.rho,.slice y.head.ep y.head.en y.head.ec,.slice y.head.kp y.head.kn y.head.kc])(hh:wpAnyH prog md ops Q S fuel (listed.setIfInBounds i true) a' w)(hi:ops[i]?=some ⟨some d,o,x,z,u,some (p,t)⟩:=by exact rfl)(hw:Region.wanted ⟨some d,o,x,z,u,some (p,t)⟩ (yielded ops a.tmps)=true:=by rfl){X:Operand}(ho:(⟨some d,o,x,z,u,some (p,t)⟩:Oper).op=.load 28 X:=by exact rfl)(hx:a.eval X=.pointer (some ⟨b,k,none⟩):=by exact rfl)(he:a.put (some d) (.agg #[.int .u8 y.head.kind,.int .i64 y.head.rho,.slice y.head.ep y.head.en y.head.ec,.slice y.head.kp y.head.kn y.head.kc])=a':=by simp only [Act.put,zA,zB,zC];rfl)(hs:Region.noSelect ops=true:=by kernel_rfl)(hf:Region.free md ops listed i=true:=by kernel_rfl)(hr:(Region.ready md ops listed).contains i=true:=by kernel_rfl)(hQ:∀c b w,Q (.panic c) (b.put (some d) (.agg #[.int .u8 y.head.kind,.int .i64 y.head.rho,.slice y.head.ep y.head.en y.head.ec,.slice y.head.kp y.head.kn y.head.kc])) w→Q (.panic c) b w:=by exact fun _ _ _ h=>h)(hS:S w:=by assumption):wpAnyH prog md ops Q S (fuel+1) listed a w:=by subst he;exact wpAnyH_take hi hs hf hr hQ (yieldsIf_load_mid hw 28 X ho b k hx [.int .u8 y.head.kind,.int .i64 y.head.rho,.slice y.head.ep y.head.en y.head.ec,.slice y.head.kp y.head.kn y.head.kc] _ hc underlying28 rfl (by kernel_rfl)) hS hh
theorem ta(i d:Nat)(h:AH)(b k:Nat)(hc:∀w,S w→w.rangeAt b k [.int .u8 h.kind,.int .u8 h.op,.int .i64 h.at_,.int .i64 h.n,.string h.name,.string h.arg,.string h.exn,.int .i64 h.rho,.slice h.rp h.rn h.rc,.slice h.ep h.en h.ec,.int .u8 h.ty.head.kind,.int .i64 h.ty.head.rho,.slice h.ty.head.ep h.ty.head.en h.ty.head.ec,.slice h.ty.head.kp h.ty.head.kn h.ty.head.kc,.int .u8 h.res.head.kind,.int .i64 h.res.head.rho,.slice h.res.head.ep h.res.head.en h.res.head.ec,.slice h.res.head.kp h.res.head.kn h.res.head.kc,.slice h.kp h.kn h.kc])(hh:wpAnyH prog md ops Q S fuel (listed.setIfInBounds i true) a' w)(hi:ops[i]?=some ⟨some d,o,x,z,u,none⟩:=by exact rfl)(hw:Region.wanted ⟨some d,o,x,z,u,none⟩ (yielded ops a.tmps)=true:=by rfl){X:Operand}(ho:(⟨some d,o,x,z,u,none⟩:Oper).op=.load 31 X:=by exact rfl)(hx:a.eval X=.pointer (some ⟨b,k,none⟩):=by exact rfl)(he:a.put (some d) (.agg #[.int .u8 h.kind,.int .u8 h.op,.int .i64 h.at_,.int .i64 h.n,.string h.name,.string h.arg,.string h.exn,.int .i64 h.rho,.slice h.rp h.rn h.rc,.slice h.ep h.en h.ec,.int .u8 h.ty.head.kind,.int .i64 h.ty.head.rho,.slice h.ty.head.ep h.ty.head.en h.ty.head.ec,.slice h.ty.head.kp h.ty.head.kn h.ty.head.kc,.int .u8 h.res.head.kind,.int .i64 h.res.head.rho,.slice h.res.head.ep h.res.head.en h.res.head.ec,.slice h.res.head.kp h.res.head.kn h.res.head.kc,.slice h.kp h.kn h.kc])=a':=by simp only [Act.put,zA,zB,zC];rfl)(hs:Region.noSelect ops=true:=by kernel_rfl)(hf:Region.free md ops listed i=true:=by kernel_rfl)(hr:(Region.ready md ops listed).contains i=true:=by kernel_rfl)(hQ:∀c b w,Q (.panic c) (b.put (some d) (.agg #[.int .u8 h.kind,.int .u8 h.op,.int .i64 h.at_,.int .i64 h.n,.string h.name,.string h.arg,.string h.exn,.int .i64 h.rho,.slice h.rp h.rn h.rc,.slice h.ep h.en h.ec,.int .u8 h.ty.head.kind,.int .i64 h.ty.head.rho,.slice h.ty.head.ep h.ty.head.en h.ty.head.ec,.slice h.ty.head.kp h.ty.head.kn h.ty.head.kc,.int .u8 h.res.head.kind,.int .i64 h.res.head.rho,.slice h.res.head.ep h.res.head.en h.res.head.ec,.slice h.res.head.kp h.res.head.kn h.res.head.kc,.slice h.kp h.kn h.kc])) w→Q (.panic c) b w:=by exact fun _ _ _ h=>h)(hS:S w:=by assumption):wpAnyH prog md ops Q S (fuel+1) listed a w:=by subst he;exact wpAnyH_take hi hs hf hr hQ (yieldsIf_load_mid hw 31 X ho b k hx [.int .u8 h.kind,.int .u8 h.op,.int .i64 h.at_,.int .i64 h.n,.string h.name,.string h.arg,.string h.exn,.int .i64 h.rho,.slice h.rp h.rn h.rc,.slice h.ep h.en h.ec,.int .u8 h.ty.head.kind,.int .i64 h.ty.head.rho,.slice h.ty.head.ep h.ty.head.en h.ty.head.ec,.slice h.ty.head.kp h.ty.head.kn h.ty.head.kc,.int .u8 h.res.head.kind,.int .i64 h.res.head.rho,.slice h.res.head.ep h.res.head.en h.res.head.ec,.slice h.res.head.kp h.res.head.kn h.res.head.kc,.slice h.kp h.kn h.kc] _ hc underlying31 rfl (by kernel_rfl)) hS hh
end
section
variable {P:Program} {ops:Array Oper} {rest:List Oper} {o:Oper} {a:Act} {w W:World} {Q:Exit→Act→World→Prop} {g b k:Nat} {ty t:TypeId} {x y:Operand} {cs old:Array Value} {fr:Nat×Nat} {d:TypeDesc}
theorem l4(y:PT)(hc:w.rangeAt b k [.int .u8 y.head.kind,.int .i64 y.head.rho,.slice y.head.ep y.head.en y.head.ec,.slice y.head.kp y.head.kn y.head.kc])(hu:P.underlying ty=some d)(h:wpList P ops Q rest (a.put o.dst (.agg #[.int .u8 y.head.kind,.int .i64 y.head.rho,.slice y.head.ep y.head.en y.head.ec,.slice y.head.kp y.head.kn y.head.kc])) w)(bG:o.guard=none:=by rfl)(ho:o.op=.load ty x:=by exact rfl)(hx:a.eval x=.pointer (some ⟨b,k,none⟩):=by exact rfl)(hd:d.isRow=true:=by rfl)(hi:(P.info? ty).map (·.size)=some 4:=by kernel_rfl):wpList P ops Q (o::rest) a w:=lm _ hc hu h bG ho hx hd hi
theorem V0(y:PT)(hc:w.rangeAt b k [.int .u8 y.head.kind,.int .i64 y.head.rho,.slice y.head.ep y.head.en y.head.ec,.slice y.head.kp y.head.kn y.head.kc])(hu:P.underlying ty=some d)(h:wpList P ops Q rest (a.put o.dst (.agg #[.int .u8 y.head.kind,.int .i64 y.head.rho,.slice y.head.ep y.head.en y.head.ec,.slice y.head.kp y.head.kn y.head.kc])) w)(bG:Region.wanted o (yielded ops a.tmps)=true:=by rfl)(ho:o.op=.load ty x:=by exact rfl)(hx:a.eval x=.pointer (some ⟨b,k,none⟩):=by exact rfl)(hd:d.isRow=true:=by rfl)(hi:(P.info? ty).map (·.size)=some 4:=by kernel_rfl):wpList P ops Q (o::rest) a w:=Pr _ hc hu h bG ho hx hd hi
theorem n4(v:PT)(h:wpList P ops Q rest (a.put o.dst undef) (W.alloc (.cells #[.int .u8 v.head.kind,.int .i64 v.head.rho,.slice v.head.ep v.head.en v.head.ec,.slice v.head.kp v.head.kn v.head.kc] t)))(bG:o.guard=none:=by rfl)(ho:o.op=.store ty x y:=by exact rfl)(hx:a.eval x=.pointer (some ⟨g,0,none⟩):=by exact rfl)(hy:a.eval y=.agg #[.int .u8 v.head.kind,.int .i64 v.head.rho,.slice v.head.ep v.head.en v.head.ec,.slice v.head.kp v.head.kn v.head.kc]:=by exact rfl)(hg:W.heap.size=g:=by simp)(hi:(P.info? ty).map (·.size)=some 4:=by kernel_rfl)(fQ:old.size=4:=by exact rfl):wpList P ops Q (o::rest) a (W.alloc (.cells old t)):=sn _ h bG ho hx hy hg hi fQ (by simp [Value.oneCell'])
end
section
open Go.ChangeShapes Go.WideShapes Go.ChangeAt Go.RowKit Go.Deep
section
variable {H:Type} {enc:TypeId×Value→H} {W:World} {base:Nat} {t e:TypeId} {v:Value} {d:DataW H} {ps:List MemPlace}
theorem Qc(n:Nat):Qu enc W 28 n LR.encT (LR.lies W):=by
 induction n using Nat.strongRecOn with
 |_ n ih=>
 intro cs' x h aJ;have he:prog.underlying 28=some (.struct (prog.fieldsOf 28)):=by kernel_rfl
 have ce:prog.cellsOf 28=4:=by kernel_rfl
 have F0:((prog.fieldsOf 28)[0]?).map (fun f=>(f.type,f.offset))=some (5,0):=by kernel_rfl
 have F1:((prog.fieldsOf 28)[1]?).map (fun f=>(f.type,f.offset))=some (3,1):=by kernel_rfl
 have F2:((prog.fieldsOf 28)[2]?).map (fun f=>(f.type,f.offset))=some (25,2):=by kernel_rfl
 have F3:((prog.fieldsOf 28)[3]?).map (fun f=>(f.type,f.offset))=some (26,3):=by kernel_rfl
 have C0:prog.cellsOf 5=1:=by kernel_rfl
 have C1:prog.cellsOf 3=1:=by kernel_rfl
 have C2:prog.cellsOf 25=1:=by kernel_rfl
 have C3:prog.cellsOf 26=1:=by kernel_rfl
 have CA:prog.cellsOf 59=3:=by kernel_rfl
 rw [ce] at aJ;obtain⟨xs,k,hk,mC,_,eq,cY⟩:=DataW.trod_struct he h;obtain⟨f0,e0,p0⟩:=Option.map_eq_some_iff.1 F0;obtain⟨f1,e1,p1⟩:=Option.map_eq_some_iff.1 F1;obtain⟨f2,e2,p2⟩:=Option.map_eq_some_iff.1 F2;obtain⟨f3,e3,p3⟩:=Option.map_eq_some_iff.1 F3;simp only [Prod.mk.injEq] at p0 p1 p2 p3;have g0:=cY 0 f0 e0;have g1:=cY 1 f1 e1;have g2:=cY 2 f2 e2;have g3:=cY 3 f3 e3;rw [p0.1,p0.2,C0] at g0;rw [p1.1,p1.2,C1] at g1;rw [p2.1,p2.2,C2] at g2;rw [p3.1,p3.2,C3] at g3;have b3:=(Array.getElem?_eq_some_iff.1 e3).1;match cs',aJ with
 |[v0,v1,v2,v3],_=>
  rw [List.getElem?_eq_getElem (show 0<xs.length by omega)] at g0;rw [List.getElem?_eq_getElem (show 1<xs.length by omega)] at g1;rw [List.getElem?_eq_getElem (show 2<xs.length by omega)] at g2;rw [List.getElem?_eq_getElem (show 3<xs.length by omega)] at g3;obtain⟨z0,q0,_,b0'⟩:=DataW.trod_int underlying5 g0;obtain⟨z1,q1,_,b1'⟩:=DataW.trod_int underlying3 g1;obtain⟨ep,en,ec,eff,q2,re,oke⟩:=D6 AP DD underlying25 CA (by omega) AC g2 (fun n _=>Lu n);obtain⟨kp,kn,kc,l,q3,rk,okk⟩:=D6 LR.encT (LR.lies W) underlying26 ce (by omega) DW g3 (fun m hm=>ih m (by omega));simp at q0 q1 q2 q3;have h0:0≤z0∧z0≤255:=by simpa [Lit.wf,IntKind.min,IntKind.max,IntKind.signed,IntKind.bits] using b0'
  have h1:-9223372036854775808≤z1∧z1≤9223372036854775807:=by simpa [Lit.wf,IntKind.min,IntKind.max,IntKind.signed,IntKind.bits] using b1'
  refine⟨.node ⟨z0,z1,ep,en,ec,eff,kp,kn,kc⟩ l,by rw [q0,q1,q2,q3];rfl,A4.lies ⟨⟨re,oke,h0.1,h0.2,h1.1,h1.2,rk.max,rk.le,rk.nil⟩,rk,okk⟩⟩
end
end
section
open Go.ChangeShapes Go.WideShapes Go.ChangeAt Go.RowKit Go.Deep
section
variable {H:Type} {enc:TypeId×Value→H} {W:World} {base:Nat} {t e:TypeId} {v:Value} {d:DataW H} {ps:List MemPlace}
structure BY where
 kind:Int
 op:Int
 at_:Int
 n:Int
 name:ByteArray
 arg:ByteArray
 exn:ByteArray
def Ur(h:BY):List Value:=[.int .u8 h.kind,.int .u8 h.op,.int .i64 h.at_,.int .i64 h.n,.string h.name,.string h.arg,.string h.exn]
structure BY.Ok(h:BY):Prop where
 k0:0≤h.kind
 k1:h.kind≤255
 o0:0≤h.op
 o1:h.op≤255
 at_:Mn h.at_
 n:Mn h.n
 name:h.name.size≤9223372036854775807
 arg:h.arg.size≤9223372036854775807
 exn:h.exn.size≤9223372036854775807
theorem RE(n:Nat):Qu enc W 23 n Ur BY.Ok:=by
 intro cs' x h aJ;have he:prog.underlying 23=some (.struct (prog.fieldsOf 23)):=by kernel_rfl
 have ce:prog.cellsOf 23=7:=by kernel_rfl
 have F0:((prog.fieldsOf 23)[0]?).map (fun f=>(f.type,f.offset))=some (5,0):=by kernel_rfl
 have F1:((prog.fieldsOf 23)[1]?).map (fun f=>(f.type,f.offset))=some (5,1):=by kernel_rfl
 have F2:((prog.fieldsOf 23)[2]?).map (fun f=>(f.type,f.offset))=some (3,2):=by kernel_rfl
 have F3:((prog.fieldsOf 23)[3]?).map (fun f=>(f.type,f.offset))=some (2,3):=by kernel_rfl
 have F4:((prog.fieldsOf 23)[4]?).map (fun f=>(f.type,f.offset))=some (9,4):=by kernel_rfl
 have F5:((prog.fieldsOf 23)[5]?).map (fun f=>(f.type,f.offset))=some (9,5):=by kernel_rfl
 have F6:((prog.fieldsOf 23)[6]?).map (fun f=>(f.type,f.offset))=some (9,6):=by kernel_rfl
 have C_uint8:prog.cellsOf 5=1:=by kernel_rfl
 have C_int:prog.cellsOf 3=1:=by kernel_rfl
 have C_int64:prog.cellsOf 2=1:=by kernel_rfl
 have C_string:prog.cellsOf 9=1:=by kernel_rfl
 rw [ce] at aJ;obtain⟨xs,k,hk,mC,_,eq,cY⟩:=DataW.trod_struct he h;obtain⟨f0,e0,p0⟩:=Option.map_eq_some_iff.1 F0;obtain⟨f1,e1,p1⟩:=Option.map_eq_some_iff.1 F1;obtain⟨f2,e2,p2⟩:=Option.map_eq_some_iff.1 F2;obtain⟨f3,e3,p3⟩:=Option.map_eq_some_iff.1 F3;obtain⟨f4,e4,p4⟩:=Option.map_eq_some_iff.1 F4;obtain⟨f5,e5,p5⟩:=Option.map_eq_some_iff.1 F5;obtain⟨f6,e6,p6⟩:=Option.map_eq_some_iff.1 F6;simp only [Prod.mk.injEq] at p0 p1 p2 p3 p4 p5 p6;have g0:=cY 0 f0 e0;have g1:=cY 1 f1 e1;have g2:=cY 2 f2 e2;have g3:=cY 3 f3 e3;have g4:=cY 4 f4 e4;have g5:=cY 5 f5 e5;have g6:=cY 6 f6 e6;rw [p0.1,p0.2,C_uint8] at g0;rw [p1.1,p1.2,C_uint8] at g1;rw [p2.1,p2.2,C_int] at g2;rw [p3.1,p3.2,C_int64] at g3;rw [p4.1,p4.2,C_string] at g4;rw [p5.1,p5.2,C_string] at g5;rw [p6.1,p6.2,C_string] at g6;have bl:=(Array.getElem?_eq_some_iff.1 e6).1;match cs',aJ with
 |[v0,v1,v2,v3,v4,v5,v6],_=>
  rw [List.getElem?_eq_getElem (show 0<xs.length by omega)] at g0;rw [List.getElem?_eq_getElem (show 1<xs.length by omega)] at g1;rw [List.getElem?_eq_getElem (show 2<xs.length by omega)] at g2;rw [List.getElem?_eq_getElem (show 3<xs.length by omega)] at g3;rw [List.getElem?_eq_getElem (show 4<xs.length by omega)] at g4;rw [List.getElem?_eq_getElem (show 5<xs.length by omega)] at g5;rw [List.getElem?_eq_getElem (show 6<xs.length by omega)] at g6;obtain⟨z0,q0,_,b0⟩:=DataW.trod_int underlying5 g0;obtain⟨z1,q1,_,b1⟩:=DataW.trod_int underlying5 g1;obtain⟨z2,q2,_,b2⟩:=DataW.trod_int underlying3 g2;obtain⟨z3,q3,_,b3⟩:=DataW.trod_int underlying2 g3;obtain⟨z4,q4,_,b4⟩:=DataW.trod_string underlying9 g4;obtain⟨z5,q5,_,b5⟩:=DataW.trod_string underlying9 g5;obtain⟨z6,q6,_,b6⟩:=DataW.trod_string underlying9 g6;simp at q0 q1 q2 q3 q4 q5 q6;have h0:0≤z0∧z0≤255:=by simpa [Lit.wf,IntKind.min,IntKind.max,IntKind.signed,IntKind.bits] using b0
  have h1:0≤z1∧z1≤255:=by simpa [Lit.wf,IntKind.min,IntKind.max,IntKind.signed,IntKind.bits] using b1
  have h2:-9223372036854775808≤z2∧z2≤9223372036854775807:=by simpa [Lit.wf,IntKind.min,IntKind.max,IntKind.signed,IntKind.bits] using b2
  have h3:-9223372036854775808≤z3∧z3≤9223372036854775807:=by simpa [Lit.wf,IntKind.min,IntKind.max,IntKind.signed,IntKind.bits] using b3
  unfold maxLen at b4 b5 b6;exact⟨⟨z0,z1,z2,z3,z4,z5,z6⟩,by rw [q0,q1,q2,q3,q4,q5,q6];rfl,h0.1,h0.2,h1.1,h1.2,h2,h3,by show z4.size≤_;omega,by show z5.size≤_;omega,by show z6.size≤_;omega⟩
theorem UM(n:Nat):Qu enc W 31 n LA.encT (LA.lies W):=by
 induction n using Nat.strongRecOn with
 |_ n ih=>
 intro cs' x h aJ;have he:prog.underlying 31=some (.struct (prog.fieldsOf 31)):=by kernel_rfl
 have ce:prog.cellsOf 31=19:=by kernel_rfl
 have CAt:prog.cellsOf 59=3:=by kernel_rfl
 have CI:prog.cellsOf 3=1:=by kernel_rfl
 have F0:((prog.fieldsOf 31)[0]?).map (fun f=>(f.type,f.offset))=some (23,0):=by kernel_rfl
 have F1:((prog.fieldsOf 31)[1]?).map (fun f=>(f.type,f.offset))=some (3,7):=by kernel_rfl
 have F2:((prog.fieldsOf 31)[2]?).map (fun f=>(f.type,f.offset))=some (24,8):=by kernel_rfl
 have F3:((prog.fieldsOf 31)[3]?).map (fun f=>(f.type,f.offset))=some (25,9):=by kernel_rfl
 have F4:((prog.fieldsOf 31)[4]?).map (fun f=>(f.type,f.offset))=some (28,10):=by kernel_rfl
 have F5:((prog.fieldsOf 31)[5]?).map (fun f=>(f.type,f.offset))=some (28,14):=by kernel_rfl
 have F6:((prog.fieldsOf 31)[6]?).map (fun f=>(f.type,f.offset))=some (29,18):=by kernel_rfl
 have C_apiHead:prog.cellsOf 23=7:=by kernel_rfl
 have C_int:prog.cellsOf 3=1:=by kernel_rfl
 have C_sint:prog.cellsOf 24=1:=by kernel_rfl
 have C_sapiAtom:prog.cellsOf 25=1:=by kernel_rfl
 have C_apiRType:prog.cellsOf 28=4:=by kernel_rfl
 have C_sapiATerm:prog.cellsOf 29=1:=by kernel_rfl
 rw [ce] at aJ;obtain⟨xs,k,hk,mC,_,eq,cY⟩:=DataW.trod_struct he h;obtain⟨f0,e0,p0⟩:=Option.map_eq_some_iff.1 F0;obtain⟨f1,e1,p1⟩:=Option.map_eq_some_iff.1 F1;obtain⟨f2,e2,p2⟩:=Option.map_eq_some_iff.1 F2;obtain⟨f3,e3,p3⟩:=Option.map_eq_some_iff.1 F3;obtain⟨f4,e4,p4⟩:=Option.map_eq_some_iff.1 F4;obtain⟨f5,e5,p5⟩:=Option.map_eq_some_iff.1 F5;obtain⟨f6,e6,p6⟩:=Option.map_eq_some_iff.1 F6;simp only [Prod.mk.injEq] at p0 p1 p2 p3 p4 p5 p6;have g0:=cY 0 f0 e0;have g1:=cY 1 f1 e1;have g2:=cY 2 f2 e2;have g3:=cY 3 f3 e3;have g4:=cY 4 f4 e4;have g5:=cY 5 f5 e5;have g6:=cY 6 f6 e6;rw [p0.1,p0.2,C_apiHead] at g0;rw [p1.1,p1.2,C_int] at g1;rw [p2.1,p2.2,C_sint] at g2;rw [p3.1,p3.2,C_sapiAtom] at g3;rw [p4.1,p4.2,C_apiRType] at g4;rw [p5.1,p5.2,C_apiRType] at g5;rw [p6.1,p6.2,C_sapiATerm] at g6;have bl:=(Array.getElem?_eq_some_iff.1 e6).1;match cs',aJ with
 |[v0,v1,v2,v3,v4,v5,v6,v7,v8,v9,v10,v11,v12,v13,v14,v15,v16,v17,v18],_=>
  rw [List.getElem?_eq_getElem (show 0<xs.length by omega)] at g0;rw [List.getElem?_eq_getElem (show 1<xs.length by omega)] at g1;rw [List.getElem?_eq_getElem (show 2<xs.length by omega)] at g2;rw [List.getElem?_eq_getElem (show 3<xs.length by omega)] at g3;rw [List.getElem?_eq_getElem (show 4<xs.length by omega)] at g4;rw [List.getElem?_eq_getElem (show 5<xs.length by omega)] at g5;rw [List.getElem?_eq_getElem (show 6<xs.length by omega)] at g6;obtain⟨hd,q0,hh⟩:=RE _ _ _ g0 (by simp [C_apiHead]);obtain⟨z1,q1,_,b1⟩:=DataW.trod_int underlying3 g1;obtain⟨rp,rn,rc,rhos,q2,rr,rok⟩:=D6 Am Mn underlying24 CI (by omega) Ap g2 (fun n _=>Sh n);obtain⟨ep,en,ec,eff,q3,re,eok⟩:=D6 AP DD underlying25 CAt (by omega) AC g3 (fun n _=>Lu n);obtain⟨ty,q4,bY⟩:=Qc _ _ _ g4 (by simp [C_apiRType]);obtain⟨res,q5,ay⟩:=Qc _ _ _ g5 (by simp [C_apiRType]);obtain⟨kp,kn,kc,l,q6,rk,okk⟩:=D6 LA.encT (LA.lies W) underlying29 ce (by omega) Et g6 (fun m hm=>ih m (by omega));simp [Ur,Qd,KV] at q0 q1 q2 q3 q4 q5 q6;have h1:-9223372036854775808≤z1∧z1≤9223372036854775807:=by simpa [Lit.wf,IntKind.min,IntKind.max,IntKind.signed,IntKind.bits] using b1
  obtain⟨rfl,rfl,rfl,rfl,rfl,rfl,rfl⟩:=q0;obtain⟨rfl,rfl,rfl,rfl⟩:=q4;obtain⟨rfl,rfl,rfl,rfl⟩:=q5;subst q1 q2 q3 q6
  exact⟨.node ⟨hd.kind,hd.op,hd.at_,hd.n,hd.name,hd.arg,hd.exn,z1,rp,rn,rc,rhos,ep,en,ec,eff,ty,res,kp,kn,kc⟩ l,rfl,
   Dl.lies ⟨⟨hh.k0,hh.k1,hh.o0,hh.o1,hh.at_,hh.n,hh.name,hh.arg,hh.exn,h1,rr,rok,re,eok,bY,ay,rk.max,rk.le,rk.nil⟩,rk,okk⟩⟩
theorem Vx(hv:Value.okWide prog W .any base 31 v)(h:DataW.Trod enc prog W 0 (fun _=>true) true 31 v d ps):∃x:PA,v=An x.head∧LA.lies W x:=by
 have he:prog.underlying 31=some (.struct (prog.fieldsOf 31)):=by kernel_rfl
 have ce:prog.cellsOf 31=19:=by kernel_rfl
 simp only [Value.okWide,he] at hv;obtain⟨cs,rfl,hs,_⟩:=hv;obtain⟨fuel,hf⟩:=h;obtain⟨y,hy,hl⟩:=UM fuel cs.toList _ hf (by simpa using hs);refine⟨y,?_,hl⟩;obtain⟨a⟩:=cs;have e:LA.encT y=Bg y.head:=rfl;simp only [e,Bg] at hy;rw [hy]
end
end
theorem UI(fid:FuncId)(q:ByteArray→Bool)(I:World→Prop)(hI:∀w w',I w→Below w.heap.size w w'→I w')(ag:∀args w,(callFunc fid args).run prog w=.ok (.enter fid args) w)(hq:∀s w,I w→Calls prog fid #[.string s] w fun e w'=>e=.returned (.bool (q s))∧Below w.heap.size w w')(s:ByteArray)(a:Addr)(w:World)(hw:I w)(af:w.cell? a=some (.func (.func fid) #[] #[])):Calls prog 247 #[.string s,.pointer (some a)] w (RB w (.bool (!q s))):=by have HQ:=AA hq;have HW:=AA hw;clear hq hw hI;go_enter func247,ntmps247;go_wp2_with fail;refine(HQ.o s w HW.o).mono ?_;rintro e w1 ⟨rfl,hb⟩;have HB:=AA hb;clear hb;go_wp2_with fail;go_ret;exact⟨rfl,HB.o⟩
theorem JD(fid:FuncId)(q:ByteArray→Bool)(I:World→Prop)(hI:∀w w',I w→Below w.heap.size w w'→I w')(ag:∀args w,(callFunc fid args).run prog w=.ok (.enter fid args) w)(hq:∀s w,I w→Calls prog fid #[.string s] w fun e w'=>e=.returned (.bool (q s))∧Below w.heap.size w w')(a:Addr)(p:Option Addr)(n cap:Nat)(l:List ByteArray)(w:World)(hw:I w)(hn:l.length=n)(hm:n≤9223372036854775807)(hr:At Gx 1 w p l)(af:w.cell? a=some (.func (.func fid) #[] #[])) :
 Calls prog 262 #[.slice p n cap,.func (.func 247) #[] #[.pointer (some a)]] w fun e w'=>(∃r:Int,e=.returned (.int .i64 r)∧(l.any (fun s=>!q s)=decide (0≤r)))∧Below w.heap.size w w':=by
 have HR:=AA hr
 have HN:=AA hn
 have HX:=AA af
 have HA:=AA (fun x W hw h=>UI fid q I hI ag hq x a W hw h)
 have gt:=AA hI
 have HW:=AA hw
 clear hr hn af hq ag hI hw
 go_enter func262,ntmps262
 go_wp2_with fail
 go_loopw [5,8] (fun _ i wr=>∃k:Nat,k≤n∧i=.int .i64 k∧(l.take k).any (fun s=>!q s)=false∧Below w.heap.size w wr) (fun _ i _=>n-(intOf i).toNat)
 case atStart=>exact⟨0,by omega,rfl,by simp,Below.refl _ _⟩
 case round=>
  obtain⟨k,hk,rfl,aw,hb⟩:=hrel;have a8:=AA aw;have HB:=AA hb;clear aw hb;by_cases aG:k<n
  ·obtain⟨x,hx⟩:=Ac (l:=l) (j:=k) (by rw [HN.o];exact aG);obtain⟨b,o,rfl,bT⟩:=(HR.o.below HB.o).str hx;have HE:=AA hx;have dP:wr.cell? a=some (.func (.func fid) #[] #[]):=by rw [HB.o.cell (BC HX.o)];exact HX.o
   clear hx;by_cases hq:q x=true
   ·go_wp2_with fail;refine(HA.o x wr (gt.o _ _ HW.o HB.o) dP).mono ?_;rintro e w1 ⟨rfl,hb⟩;have aO:=bt HB hb;clear hb dP bT;go_wp2_with fail;go_roundw
    case rel=>exact⟨k+1,by omega,by go_num,by rw [BF HE.o,a8.o,hq];rfl,aO.o⟩
    case measure=>simp [intOf];omega
   ·have j2:q x=false:=by simpa using hq
    clear hq;go_wp2_with fail;refine(HA.o x wr (gt.o _ _ HW.o HB.o) dP).mono ?_;rintro e w1 ⟨rfl,hb⟩;have aO:=bt HB hb;clear hb dP bT;go_wp2_with fail;go_ret;exact⟨⟨k,rfl,by rw [FU HE.o (by rw [j2];rfl)];simp⟩,aO.o⟩
  ·go_wp2_with fail;go_ret;have h:=a8.o;rw [AY (by rw [HN.o];omega)] at h;exact⟨⟨-1,rfl,by rw [h];simp⟩,HB.o⟩
theorem Gz(fid:FuncId)(q:ByteArray→Bool)(I:World→Prop)(hI:∀w w',I w→Below w.heap.size w w'→I w')(ag:∀args w,(callFunc fid args).run prog w=.ok (.enter fid args) w)(hq:∀s w,I w→Calls prog fid #[.string s] w fun e w'=>e=.returned (.bool (q s))∧Below w.heap.size w w')(a:Addr)(p:Option Addr)(n cap:Nat)(l:List ByteArray)(w:World)(hw:I w)(hn:l.length=n)(hm:n≤9223372036854775807)(hr:At Gx 1 w p l)(af:w.cell? a=some (.func (.func fid) #[] #[])) :
 Calls prog 246 #[.slice p n cap,.func (.func 247) #[] #[.pointer (some a)]] w (RB w (.bool (l.any (fun s=>!q s)))):=by
 have hc:=JD fid q I hI ag hq a p n cap l w hw hn hm hr af
 generalize l.any (fun s=>!q s)=r0 at hc ⊢
 clear hr hn af hq ag hI hw
 go_enter func246,ntmps246
 go_wp2_with fail
 refine hc.mono ?_
 rintro e w1 ⟨⟨r,rfl,hr⟩,hb⟩
 have HR:=AA hr
 have HB:=AA hb
 clear hr hb hc
 go_wp2_with fail
 go_ret
 exact⟨AE HR.o.symm,HB.o⟩
theorem NQ(fid:FuncId)(q:ByteArray→Bool)(I:World→Prop)(hI:∀w w',I w→Below w.heap.size w w'→I w')(ag:∀args w,(callFunc fid args).run prog w=.ok (.enter fid args) w)(hq:∀s w,I w→Calls prog fid #[.string s] w fun e w'=>e=.returned (.bool (q s))∧Below w.heap.size w w')(p:Option Addr)(n cap:Nat)(l:List ByteArray)(w:World)(hw:I w)(hn:l.length=n)(hm:n≤9223372036854775807)(hr:At Gx 1 w p l):Calls prog 210 #[.func (.func fid) #[] #[],.slice p n cap] w (RB w (.bool (l.all q))):=by
 have hc:=fun o=>Gz fid q I hI ag hq ⟨w.heap.size,0,none⟩ p n cap l (w.alloc o) (hI _ _ hw bA) hn hm (hr.alloc o);have he:Hd (l.all q=!l.any (fun s=>!q s)):=by show l.all q=!l.any (fun s=>!q s);rw [List.all_eq_not_any_not]
 have HC:=AA hc;clear hr hn hc hq ag hI hw;go_enter func210,ntmps210;go_wp2_with fail;refine(HC.o _ (by rw [AU];rfl)).mono ?_;rintro e w1 ⟨rfl,hb⟩;have HB:Hd (Below w.heap.size w w1):=((Below.refl _ w).alloc (Nat.le_refl _) _).trans (hb.mono (by simp));clear hb;generalize l.any (fun s=>!q s)=r0 at *
 go_wp2_with fail;go_ret;exact⟨AE he.out.symm,HB.o⟩
def Vr(w:World):Prop:=∃m:Int,w.cell? ⟨0,0,none⟩=some (.int .i64 m)
theorem Vr.below{w w':World}(h:Vr w)(hb:Below w.heap.size w w'):Vr w':=by obtain⟨m,h⟩:=h;exact⟨m,by rw [hb.cell (BC h)];exact h⟩
def UC:List ByteArray:=[⟨#[108,101,116]⟩,⟨#[108,101,116,114,101,99]⟩,⟨#[105,110]⟩,⟨#[102,110]⟩,⟨#[105,102]⟩,⟨#[116,104,101,110]⟩,⟨#[101,108,115,101]⟩,⟨#[114,97,105,115,101]⟩,⟨#[116,114,121]⟩,⟨#[119,105,116,104]⟩,⟨#[114,101,102]⟩,⟨#[102,115,116]⟩,⟨#[115,110,100]⟩,⟨#[101,120,110]⟩]
def Vw(s:ByteArray):Bool:=UC.any (fun k=>decide (k=s))
def Bo(s:ByteArray):Bool:=Aw s 3&&!Vw s
abbrev Po:ByteArray:=⟨#[32,108,101,116,32,108,101,116,114,101,99,32,105,110,32,102,110,32,105,102,32,116,104,101,110,32,101,108,115,101,32,114,97,105,115,101,32,116,114,121,32,119,105,116,104,32,114,101,102,32,102,115,116,32,115,110,100,32,101,120,110]⟩
theorem S3:Lib.countB Po ⟨#[32]⟩=14:=by decide +kernel
theorem S4:Lib.splitB ⟨#[32]⟩ 0 14 Po=(⟨#[]⟩:ByteArray)::UC:=by decide +kernel
theorem Ms{w:World}(hv:Vr w):Calls prog 258 #[] w fun e w'=>e=.returned (.slice (some ⟨w.heap.size,0,none⟩) 15 15)∧At Gx 1 w' (some ⟨w.heap.size,0,none⟩) ((⟨#[]⟩:ByteArray)::UC)∧Below w.heap.size w w':=by obtain⟨m,hm⟩:=hv;have hc:=strings_Split Po ⟨#[32]⟩ m w (by decide +kernel) hm (by decide +kernel);rw [S3,S4] at hc;have HC:=AA hc;clear hc hm;go_enter func258,ntmps258;go_wp2_with fail;refine HC.o.mono ?_;rintro e w1 ⟨rfl,rfl⟩;go_wp2_with fail;go_ret;refine⟨rfl,?_,bA⟩;exact At.newAt IL w _ _ rfl _ _ _ rfl
theorem L1(x:ByteArray):∀(l:List ByteArray) (i:Nat),(l.any (fun y=>decide (y=x))=false∧Lib.idxFromS l x i=-1)∨∃k:Nat,k<l.length∧l.any (fun y=>decide (y=x))=true∧Lib.idxFromS l x i=((i+k:Nat):Int)
 |[],i=>.inl ⟨rfl,rfl⟩
 |y::l,i=>by
  unfold Lib.idxFromS;by_cases h:y=x
  ·subst h;exact .inr ⟨0,by simp,by simp,by simp⟩
  ·rw [if_neg h];rcases L1 x l (i+1) with⟨h1,h2⟩|⟨k,hk,h1,h2⟩
   ·exact .inl ⟨by rw [List.any_cons,h1];simp [h],h2⟩
   ·exact .inr ⟨k+1,by simpa using hk,by rw [List.any_cons,h1];simp,by rw [h2];congr 1;omega⟩
theorem VE{s:ByteArray}(h:s.size≠0):∃r:Int,Lib.idxOfS ((⟨#[]⟩:ByteArray)::UC) s=r∧(Vw s=false∧r=-1∨Vw s=true∧1≤r∧r≤14):=by
 have h0:¬((⟨#[]⟩:ByteArray)=s):=by rintro rfl;exact h rfl
 refine⟨_,rfl,?_⟩;have e:Lib.idxOfS ((⟨#[]⟩:ByteArray)::UC) s=Lib.idxFromS UC s 1:=by show (if(⟨#[]⟩:ByteArray)=s then(0:Int) else Lib.idxFromS UC s 1)=_;rw [if_neg h0]
 rw [e];rcases L1 s UC 1 with⟨h1,h2⟩|⟨k,hk,h1,h2⟩
 ·exact .inl ⟨h1,h2⟩
 ·have:UC.length=14:=rfl;exact .inr ⟨h1,by rw [h2];omega,by rw [h2];omega⟩
theorem Ik{w:World}(hv:Vr w)(s:ByteArray):Calls prog 236 #[.string s] w fun e w'=>(∃r:Int,e=.returned (.int .i64 r)∧(s.size≠0→decide (r=0)=!Vw s))∧Below w.heap.size w w':=by
 have HV:=AA hv;clear hv;by_cases h0:s.size=0
 ·have hs:s=⟨#[]⟩:=by apply ByteArray.ext;exact Array.eq_empty_of_size_eq_zero h0
  subst hs;clear h0;go_enter func236,ntmps236;go_wp2_with fail;go_ret;exact⟨⟨0,rfl,fun h=>absurd rfl h⟩,Below.refl _ _⟩
 ·have aR:¬s=⟨#[]⟩:=by rintro rfl;exact h0 rfl
  have hb:s.toList.isEmpty=false:=by
   rw [Lib.toList_data];cases h:s.data.toList with
   |nil=>exact absurd (by show s.data.size=0;rw [←Array.length_toList,h];rfl) h0
   |cons x l=>rfl
  clear aR;obtain⟨r,hr,nW⟩:=VE h0;have HR:=AA hr;have cI:=AA nW;clear hr nW h0;go_enter func236,ntmps236;go_wp2_with fail;refine(Ms HV.o).mono ?_;rintro e w1 ⟨rfl,aB,hb⟩;have aa:=AA aB;have HB:=AA hb;clear aB hb;go_wp2_with fail
  have hc:=slices_Index_string w.heap.size 0 15 15 ((⟨#[]⟩:ByteArray)::UC) s w1 (by decide) (by decide) (fun j hj=>by
   rcases aa.o with h|⟨b,o,he,_,bT⟩
   ·cases h
   ·cases he
    have:=bT j _ (List.getElem?_eq_getElem hj) 0 _ rfl;rw [List.getD_eq_getElem?_getD,List.getElem?_eq_getElem hj];simpa using this)
  rw [List.take_of_length_le (by decide),HR.o] at hc;refine hc.mono ?_;rintro e w2 ⟨rfl,rfl⟩;clear hc;rcases cI.o with⟨h1,h2⟩|⟨h1,h2,h3⟩
  ·subst h2;go_wp2_with fail;go_ret;exact⟨⟨0,rfl,fun _=>by rw [h1];rfl⟩,HB.o⟩
  ·have hp:(0:Int)<r:=by omega
   go_wp2_with fail;go_ret;refine⟨⟨max 0 r,rfl,fun _=>?_⟩,HB.o⟩;rw [h1];have:¬(max 0 r=0):=by omega
   simp [this]
theorem Rh{w:World}(hv:Vr w)(s:ByteArray):Calls prog 235 #[.string s] w (RB w (.bool (Bo s))):=by
 have HV:=AA hv;clear hv;cases h:Aw s 3
 ·have H:=AA h;clear h;have HN:Hd (Bo s=false):=by show _=_;unfold Bo;rw [H.o];rfl
  go_enter func235,ntmps235;go_wp2_with fail;refine(H5 s 3 _).mono ?_;rintro e w1 ⟨rfl,hb⟩;rw [H.o];have HB:=AA hb;clear hb;go_wp2_with fail;go_ret;exact⟨AE HN.o.symm,HB.o⟩
 ·have H:=AA h;have h0:s.size≠0:=by intro h0;unfold Aw at h;rw [h0] at h;simp at h
  have H0:=AA h0;clear h h0;go_enter func235,ntmps235;go_wp2_with fail;refine(H5 s 3 _).mono ?_;rintro e w1 ⟨rfl,hb⟩;rw [H.o];have HB:=AA hb;clear hb;go_wp2_with fail;refine(Ik (HV.o.below HB.o) s).mono ?_;rintro e w2 ⟨⟨r,rfl,hr⟩,hb⟩;have aI:=bt HB hb;have HR:=AA (hr H0.o);clear hb hr;go_wp2_with fail;go_ret;refine⟨AE ?_,aI.o⟩;unfold Bo;rw [H.o,←HR.o];show (r==0)=_;by_cases dy:r=0<;>simp [dy]
theorem LE{w:World}(hv:Vr w)(p:Option Addr)(n cap:Nat)(l:List ByteArray)(hn:l.length=n)(hm:n≤9223372036854775807)(hr:At Gx 1 w p l):Calls prog 207 #[.slice p n cap] w (RB w (.bool (l.all Bo))):=by
 have hc:=NQ 235 Bo Vr (fun _ _ h hb=>h.below hb) (fun args w=>by kernel_rfl) (fun s w h=>Rh h s) p n cap l w hv hn hm hr;generalize l.all Bo=r0 at *
 have HC:=AA hc;clear hr hn hc hv;go_enter func207,ntmps207;go_wp2_with fail;refine HC.o.mono ?_;rintro e w1 ⟨rfl,hb⟩;have HB:=AA hb;clear hb;go_wp2_with fail;go_ret;exact⟨rfl,HB.o⟩
def BI(k:Int):Int:=
 if k=1∨k=2 then 0 else if k=4∨k=5∨k=6∨k=7∨k=11∨k=15 then 1
 else if k=3∨k=8∨k=9∨k=10∨k=12∨k=13∨k=16 then 2 else if k=14 then 3 else -1
def Ec(there:Bool)(s:ByteArray)(ok:Bool):Bool:=there&&ok||!there&&decide (s.size=0)
abbrev Nc(h:BY)(p:Option Addr)(n c:Nat):Value:=.agg #[.int .u8 h.kind,.int .u8 h.op,.int .i64 h.at_,.int .i64 h.n,.string h.name,.string h.arg,.string h.exn,.slice p n c]
abbrev II(h:BY)(p:Option Addr)(n c:Nat):Obj:=.cells #[.int .u8 h.kind,.int .u8 h.op,.int .i64 h.at_,.int .i64 h.n,.string h.name,.string h.arg,.string h.exn,.slice p n c] 53
def IC(W:World)(b:Nat)(h:BY)(p:Option Addr)(n c:Nat):Prop:=
 W.cell? ⟨b,0,none⟩=some (.int .u8 h.kind)∧W.cell? ⟨b,1,none⟩=some (.int .u8 h.op)∧W.cell? ⟨b,2,none⟩=some (.int .i64 h.at_)∧W.cell? ⟨b,3,none⟩=some (.int .i64 h.n) ∧
  W.cell? ⟨b,4,none⟩=some (.string h.name)∧W.cell? ⟨b,5,none⟩=some (.string h.arg)∧W.cell? ⟨b,6,none⟩=some (.string h.exn)∧W.cell? ⟨b,7,none⟩=some (.slice p n c)
theorem IC.below{W W':World}{b:Nat}{h:BY}{p:Option Addr}{n c:Nat}(hc:IC W b h p n c)(hb:Below W.heap.size W W'):IC W' b h p n c:=by obtain⟨h0,h1,h2,h3,h4,h5,h6,h7⟩:=hc;have aG:b<W.heap.size:=BC h0;exact⟨by rw [hb.cell aG];exact h0,by rw [hb.cell aG];exact h1,by rw [hb.cell aG];exact h2,by rw [hb.cell aG];exact h3,by rw [hb.cell aG];exact h4,by rw [hb.cell aG];exact h5,by rw [hb.cell aG];exact h6,by rw [hb.cell aG];exact h7⟩
theorem JN(w:World)(h:BY)(p:Option Addr)(n c:Nat):IC (w.alloc (II h p n c)) w.heap.size h p n c:=by refine⟨?_,?_,?_,?_,?_,?_,?_,?_⟩<;>(rw [AU];rfl)
def Jd(k:Int):Bool:=k==2||k==12||k==13
def Ow(k:Int):Bool:=k==11||k==13||k==16
def Oy(k:Int):Bool:=k==15||k==16
def Bp(h:BY)(n:Nat):Bool:=
 !(decide (BI h.kind<0)||((n:Int) != BI h.kind)||decide (h.at_<0))&&!((h.kind==9)&&(decide (h.op<1)||decide (5<h.op))||(h.kind != 9)&&(h.op != 0)) &&
 !(decide (h.n<0)||decide (2147483647<h.n)||(h.kind != 1)&&(h.n != 0))&&(Ec (Jd h.kind) h.name (Bo h.name)&&Ec (Ow h.kind) h.arg (Bo h.arg)&&Ec (Oy h.kind) h.exn (Cg h.exn))
def AH.hd(a:AH):BY:=⟨a.kind,a.op,a.at_,a.n,a.name,a.arg,a.exn⟩
def Lr(h:BY):Bool:=(h.op==0)&&(h.n==0)&&h.arg.toList.isEmpty&&h.exn.toList.isEmpty
def Da(h:BY)(n:Nat):Bool:=
 if h.kind=17 then Lr h&&h.name.toList.isEmpty&&decide (0≤h.at_)&&((n:Int)==1)
 else if h.kind=18 then Lr h&&Bo h.name&&decide (0≤h.at_)&&((n:Int)==0)
 else Bp h (min n 4)
abbrev V9:List Value:=[.int .u8 0,.int .u8 0,.int .i64 0,.int .i64 0,.string ⟨#[]⟩,.string ⟨#[]⟩,.string ⟨#[]⟩,.slice none 0 0]
def Vf(_:Unit):List Value:=V9
theorem VD:(prog.info? 53).map (fun i=>(i.zero,i.size,i.bytes))=some (some (.agg #[.int .u8 0,.int .u8 0,.int .i64 0,.int .i64 0,.string .empty,.string .empty,.string .empty,.slice none 0 0]),8,96):=by kernel_rfl
structure FS(w:World)(g:Nat)(h:BY)(v:Value):Prop where
 blk:w.heap[g]?=some (.cells #[.int .u8 h.kind,.int .u8 h.op,.int .i64 h.at_,.int .i64 h.n,.string h.name,.string h.arg,.string h.exn,v] 53 (0,0))
theorem FS.cells{w:World}{g:Nat}{h:BY}{v:Value}(hb:FS w g h v):w.cell? ⟨g,0,none⟩=some (.int .u8 h.kind)∧w.cell? ⟨g,1,none⟩=some (.int .u8 h.op)∧w.cell? ⟨g,2,none⟩=some (.int .i64 h.at_)∧w.cell? ⟨g,3,none⟩=some (.int .i64 h.n)∧w.cell? ⟨g,4,none⟩=some (.string h.name)∧w.cell? ⟨g,5,none⟩=some (.string h.arg)∧w.cell? ⟨g,6,none⟩=some (.string h.exn)∧w.cell? ⟨g,7,none⟩=some v∧w.frozen? ⟨g,7,none⟩=false:=by have hb:=hb.blk;refine⟨?_,?_,?_,?_,?_,?_,?_,?_,?_⟩<;>simp [World.cell?,World.frozen?,hb]
theorem FS.lt{w:World}{g:Nat}{h:BY}{v:Value}(hb:FS w g h v):g<w.heap.size:=(Array.getElem?_eq_some_iff.1 hb.blk).1
theorem FS.grown{w w':World}{g:Nat}{h:BY}{v:Value}{r:Option Nat}(hb:FS w g h v)(hg:w.grownBy w' r)(hr:r≠some g):FS w' g h v:=⟨by rw [hg.block g hb.lt hr.symm];exact hb.blk⟩
theorem FS.below{w w':World}{g:Nat}{h:BY}{v:Value}(hb:FS w g h v)(h':Below w.heap.size w w'):FS w' g h v:=⟨by rw [h'.block g hb.lt];exact hb.blk⟩
theorem FS.set{w:World}{g:Nat}{h:BY}{v:Value}(hb:FS w g h v)(v':Value):FS (w.setCell ⟨g,7,none⟩ v') g h v':=⟨by simpa using AK (o:=7) v' hb.blk⟩
theorem ST(w:World)(h:BY)(v:Value):FS (w.alloc (.cells #[.int .u8 h.kind,.int .u8 h.op,.int .i64 h.at_,.int .i64 h.n,.string h.name,.string h.arg,.string h.exn,v] 53)) w.heap.size h v:=⟨heap_alloc_new w _⟩
structure U4(w wr:World)(h:BY)(a:AH)(v:Value)(k:Nat):Prop where
 own:AI Vf 8 wr (w.heap.size+3) 53 v k (List.replicate k ())
 box:FS wr (w.heap.size+2) h v
 kids:wr.cell? ⟨w.heap.size,18,none⟩=some (.slice a.kp a.kn a.kc)
 size:w.heap.size+3≤wr.heap.size
 below:Below w.heap.size w wr
theorem U4.add{w wr w3:World}{h:BY}{a:AH}{v v3:Value}{k:Nat}(hi:U4 w wr h a v k)(aD:AI Vf 8 w3 (w.heap.size+3) 53 v3 (k+1) (List.replicate k ()++[()]))(ek:wr.grownBy w3 v.ownBlock):U4 w (w3.setCell ⟨w.heap.size+2,7,none⟩ v3) h a v3 (k+1):=by
 have cw:∀b,v.ownBlock=some b→w.heap.size+3≤b:=fun b hb=>(World.ownsRow.lt hi.own b hb).1;have eB:∀b,v3.ownBlock=some b→w.heap.size+3≤b:=fun b hb=>(World.ownsRow.lt aD b hb).1;have bF:w3.grownBy (w3.setCell ⟨w.heap.size+2,7,none⟩ v3) (some (w.heap.size+2)):=AG _ _ _ _;have aG:=hi.size;refine⟨?_,(hi.box.grown ek (fun e=>by have:=cw _ e;omega)).set v3,?_,Nat.le_trans hi.size (Nat.le_trans ek.size bF.size),?_⟩
 ·refine⟨by rw [List.replicate_succ'];exact aD.1,?_⟩;rw [List.replicate_succ'];rcases aD.2 with h0|⟨g,cap,cur,rfl,h1,h2,rest⟩
  ·exact .inl h0
  ·refine .inr ⟨g,cap,cur,rfl,h1,?_,rest⟩;rw [bF.block g (Array.getElem?_eq_some_iff.1 h2).1 (fun e=>by injection e with e;omega)];exact h2
 ·have h1:=hi.kids;refine Dr bF (fun e=>by injection e with e;have e':w.heap.size+2=w.heap.size:=e;omega) (Dr ek (fun e=>by have:=cw _ e;have:w.heap.size+3≤w.heap.size:=this;omega) h1)
 ·exact(hi.below.grown ek (by omega) (fun b hb=>by have:=cw b hb;omega)).grown bF (by have:=ek.size;omega) (fun b hb=>by injection hb with hb;omega)
structure Vb(w W:World)(a:AH):Prop where
 h:W.cell? ⟨w.heap.size+1,0,none⟩=some (.int .u8 a.kind)∧W.cell? ⟨w.heap.size+1,1,none⟩=some (.int .u8 a.op)∧W.cell? ⟨w.heap.size+1,2,none⟩=some (.int .i64 a.at_)∧W.cell? ⟨w.heap.size+1,3,none⟩=some (.int .i64 a.n) ∧
  W.cell? ⟨w.heap.size+1,4,none⟩=some (.string a.name)∧W.cell? ⟨w.heap.size+1,5,none⟩=some (.string a.arg)∧W.cell? ⟨w.heap.size+1,6,none⟩=some (.string a.exn)
 t:W.cell? ⟨w.heap.size,0,none⟩=some (.int .u8 a.kind)∧W.cell? ⟨w.heap.size,18,none⟩=some (.slice a.kp a.kn a.kc)
 below:Below w.heap.size w W
 size:W.heap.size=w.heap.size+2
theorem Vb.drop{w W W':World}{a:AH}(h:Vb w W a)(hb:Below W.heap.size W W'):(W'.cell? ⟨w.heap.size+1,2,none⟩=some (.int .i64 a.at_))∧(W'.cell? ⟨w.heap.size,18,none⟩=some (.slice a.kp a.kn a.kc))∧Below w.heap.size w W':=⟨by rw [hb.cell (by rw [h.size];simp)];exact h.h.2.2.1,by rw [hb.cell (by rw [h.size];simp)];exact h.t.2,h.below.trans (hb.mono (by rw [h.size];omega))⟩
def RK(x:Int):List Value:=[.int .u8 x]
theorem At.u8{w:World}{p:Option Addr}{l:List Int}(h:At RK 1 w p l){j:Nat}{x:Int}(hx:l[j]?=some x):∃b o,p=some ⟨b,o,none⟩∧w.cell? ⟨b,o+j,none⟩=some (.int .u8 x):=by obtain⟨b,o,hp,_,hc⟩:=h.elem hx;exact⟨b,o,hp,by simpa using hc 0 _ rfl⟩
def Ee(l:List Int)(k:Int):Bool:=l.any (·==k)
def Ct(a:RH):Bool:=(a.kind==0)&&(a.rho==0)&&((a.en:Int)==0)&&((a.kn:Int)==0)
structure CW(W:World)(b:Nat)(a:AH):Prop where
 blk:W.heap[b]?=some (.cells #[.int .u8 a.kind,.int .u8 a.op,.int .i64 a.at_,.int .i64 a.n,.string a.name,.string a.arg,.string a.exn,.int .i64 a.rho,.slice a.rp a.rn a.rc,.slice a.ep a.en a.ec,.int .u8 a.ty.head.kind,.int .i64 a.ty.head.rho,.slice a.ty.head.ep a.ty.head.en a.ty.head.ec,.slice a.ty.head.kp a.ty.head.kn a.ty.head.kc,.int .u8 a.res.head.kind,.int .i64 a.res.head.rho,.slice a.res.head.ep a.res.head.en a.res.head.ec,.slice a.res.head.kp a.res.head.kn a.res.head.kc,.slice a.kp a.kn a.kc] 31 (0,0))
theorem CW.c{W:World}{b:Nat}{a:AH}(h:CW W b a)(i:Nat)(u:Value)(hu:(Bg a)[i]?=some u):W.cell? ⟨b,i,none⟩=some u:=by
 rw [Lib.cell_of_heap h.blk];have:(Bg a).toArray[i]?=some u:=by simpa using hu
 exact this
theorem CW.below{w w':World}{b:Nat}{a:AH}(h:CW w b a)(hb:Below w.heap.size w w'):CW w' b a:=⟨by rw [hb.block b (Array.getElem?_eq_some_iff.1 h.blk).1];exact h.blk⟩
theorem Ah(w:World)(a:AH):CW (w.alloc (AO a)) w.heap.size a:=⟨heap_alloc_new w _⟩
theorem CW.all{W:World}{b:Nat}{a:AH}(h:CW W b a):W.cell? ⟨b,0,none⟩=some (Value.int .u8 a.kind)∧W.cell? ⟨b,1,none⟩=some (Value.int .u8 a.op)∧W.cell? ⟨b,2,none⟩=some (Value.int .i64 a.at_)∧W.cell? ⟨b,3,none⟩=some (Value.int .i64 a.n)∧W.cell? ⟨b,4,none⟩=some (Value.string a.name)∧W.cell? ⟨b,5,none⟩=some (Value.string a.arg)∧W.cell? ⟨b,6,none⟩=some (Value.string a.exn)∧W.cell? ⟨b,7,none⟩=some (Value.int .i64 a.rho)∧W.cell? ⟨b,8,none⟩=some (Value.slice a.rp a.rn a.rc)∧W.cell? ⟨b,9,none⟩=some (Value.slice a.ep a.en a.ec)∧W.cell? ⟨b,10,none⟩=some (Value.int .u8 a.ty.head.kind)∧W.cell? ⟨b,11,none⟩=some (Value.int .i64 a.ty.head.rho)∧W.cell? ⟨b,12,none⟩=some (Value.slice a.ty.head.ep a.ty.head.en a.ty.head.ec)∧W.cell? ⟨b,13,none⟩=some (Value.slice a.ty.head.kp a.ty.head.kn a.ty.head.kc)∧W.cell? ⟨b,14,none⟩=some (Value.int .u8 a.res.head.kind)∧W.cell? ⟨b,15,none⟩=some (Value.int .i64 a.res.head.rho)∧W.cell? ⟨b,16,none⟩=some (Value.slice a.res.head.ep a.res.head.en a.res.head.ec)∧W.cell? ⟨b,17,none⟩=some (Value.slice a.res.head.kp a.res.head.kn a.res.head.kc)∧W.cell? ⟨b,18,none⟩=some (Value.slice a.kp a.kn a.kc):=⟨h.c 0 _ rfl,h.c 1 _ rfl,h.c 2 _ rfl,h.c 3 _ rfl,h.c 4 _ rfl,h.c 5 _ rfl,h.c 6 _ rfl,h.c 7 _ rfl,h.c 8 _ rfl,h.c 9 _ rfl,h.c 10 _ rfl,h.c 11 _ rfl,h.c 12 _ rfl,h.c 13 _ rfl,h.c 14 _ rfl,h.c 15 _ rfl,h.c 16 _ rfl,h.c 17 _ rfl,h.c 18 _ rfl⟩
def P6(k:Int)(l:List Int)(i:Nat)(x:Int):Bool:=!(decide (x<0)||(k==13)&&((x==0)||FA (l.take i) x))
def Qq(k:Int)(l:List Int)(n:Nat):Bool:=(List.range n).all (fun i=>match l[i]? with|some x=>P6 k l i x|none=>true)
theorem UY{w:World}{t:PT}(h:LR.lies w t):A4 w t.head t.kids:=by rw [AD.eta t] at h;exact Bb h
def Cs(a:AH):Bool:=!(!(Da a.hd a.kn)||decide (a.rho<0)||((a.kind==17)&&(a.rho==0))||(!(Ee [3,6,11,13,17,18] a.kind)&&(a.rho != 0)))&&!((a.kind != 13)&&(a.kind != 18)&&decide (0<a.rn))&&Qq a.kind a.rhos a.rn&&!(!(Ee [11,13,18] a.kind)&&decide (0<a.en)||!(DM a.eff))&&!(Ee [11,13,15] a.kind&&!(Bj a.ty.er)||!(Ee [11,13,15] a.kind)&&!(Ct a.ty.head))&&((a.kind==13)&&Bj a.res.er||(a.kind != 13)&&Ct a.res.head)
end Go.Proofs.YtkdjnegfnhldpaaGreatDoor
