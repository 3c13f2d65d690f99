/- Part 01. -/
import Derived.Test.YtkdjnegfnhldpaaGreatDoorRows
import Derived.Deep.RegionHeld3
import Derived.Lib.Hide
import Derived.Laws.Tables
import Derived.Deep.WholeRow
import Derived.WalkKit
import Derived.WalkSpells
import Derived.WalkLawsBesides
import Derived.Lib.Bytealg
import Derived.BigQuiet
import Derived.Laws.IdiomStrings
set_option linter.unusedVariables false
set_option maxRecDepth 100000
set_option linter.unusedSimpArgs false
set_option maxHeartbeats 40000000
namespace Go.Proofs.YtkdjnegfnhldpaaGreatDoor
open Go.Proofs.Tryz Go.RowKit
theorem zA{α:Type _}(l:List α)(i:Nat)(a:α):l.toArray.setIfInBounds i a=(l.set i a).toArray:=List.setIfInBounds_toArray l i a
theorem zB{α:Type _}{x:α}{l:List α}{a:α}:(x::l).set 0 a=a::l:=rfl
theorem zC{α:Type _}{x:α}{l:List α}{n:Nat}{a:α}:(x::l).set (n+1) a=x::l.set n a:=rfl
def Hd(p:Prop):Prop:=p
theorem AA{p:Prop}(h:p):Hd p:=h
theorem Hd.out{p:Prop}(h:Hd p):p:=h
theorem Hd.o{p:Prop}(h:Hd p):p:=h
theorem bA{w:World}{o:Obj}:Below w.heap.size w (w.alloc o):=Below.alloc (Below.refl _ _) (Nat.le_refl _) _
section
variable {P:Program} {ops:Array Oper} {Q:Exit→Act→World→Prop} {md:Region.Mode} {S:World→Prop} {v:Value} {fuel:Nat} {listed:Array Bool} {a a':Act} {w:World} {o:Op} {x:TypeId} {z:String} {u:Array Edge}
theorem tp(i d:Nat)(hh:wpAnyH P md ops Q S fuel (listed.setIfInBounds i true) a' w)(hi:ops[i]?=some ⟨some d,o,x,z,u,none⟩:=by exact rfl)(hw:Region.wanted ⟨some d,o,x,z,u,none⟩ (yielded ops a.tmps)=true:=by rfl)(hy:∀w,S w→(execOp a.eval ⟨some d,o,x,z,u,none⟩).run P w=.ok (.value v) w:=by intro w h;go_simp;try with_reducible rfl)(he:a.put (some d) v=a':=by simp only [Act.put,zA,zB,zC];rfl)(hs:Region.noSelect ops=true:=by kernel_rfl)(hf:Region.free md ops listed i=true:=by kernel_rfl)(hr:(Region.ready md ops listed).contains i=true:=by kernel_rfl)(hQ:∀c b w,Q (.panic c) (b.put (some d) v) w→Q (.panic c) b w:=by exact fun _ _ _ h=>h)(hS:S w:=by assumption):wpAnyH P md ops Q S (fuel+1) listed a w:=by subst he;exact wpAnyH_take hi hs hf hr hQ (.inl ⟨hw,hy⟩) hS hh
theorem FR(i d p:Nat)(t:Bool)(hh:wpAnyH P md ops Q S fuel (listed.setIfInBounds i true) a' w)(hi:ops[i]?=some ⟨some d,o,x,z,u,some (p,t)⟩:=by exact rfl)(hw:Region.wanted ⟨some d,o,x,z,u,some (p,t)⟩ (yielded ops a.tmps)=true:=by rfl)(hy:∀w,S w→(execOp a.eval ⟨some d,o,x,z,u,some (p,t)⟩).run P w=.ok (.value v) w:=by intro w h;go_simp;try with_reducible rfl)(he:a.put (some d) v=a':=by simp only [Act.put,zA,zB,zC];rfl)(hs:Region.noSelect ops=true:=by kernel_rfl)(hf:Region.free md ops listed i=true:=by kernel_rfl)(hr:(Region.ready md ops listed).contains i=true:=by kernel_rfl)(hQ:∀c b w,Q (.panic c) (b.put (some d) v) w→Q (.panic c) b w:=by exact fun _ _ _ h=>h)(hS:S w:=by assumption):wpAnyH P md ops Q S (fuel+1) listed a w:=by subst he;exact wpAnyH_take hi hs hf hr hQ (.inl ⟨hw,hy⟩) hS hh
theorem Er(i d p:Nat)(t:Bool)(hh:wpAnyH P md ops Q S fuel (listed.setIfInBounds i true) a' w)(hi:ops[i]?=some ⟨some d,o,x,z,u,some (p,t)⟩:=by exact rfl)(hw:Region.wanted ⟨some d,o,x,z,u,some (p,t)⟩ (yielded ops a.tmps)=false:=by rfl)(he:a.put (some d) undef=a':=by simp only [Act.put,zA,zB,zC];rfl)(hs:Region.noSelect ops=true:=by kernel_rfl)(hf:Region.free md ops listed i=true:=by kernel_rfl)(hr:(Region.ready md ops listed).contains i=true:=by kernel_rfl)(hQ:∀c b w,Q (.panic c) (b.put (some d) undef) w→Q (.panic c) b w:=by exact fun _ _ _ h=>h)(hS:S w:=by assumption):wpAnyH P md ops Q S (fuel+1) listed a w:=by subst he;exact wpAnyH_take hi hs hf hr hQ (.inr ⟨hw,rfl⟩) hS hh
theorem tm(i d:Nat)(cs:List Value)(T:TypeId)(b k:Nat)(hc:∀w,S w→w.rangeAt b k cs){D:TypeDesc}(hu:P.underlying T=some D)(hh:wpAnyH P md ops Q S fuel (listed.setIfInBounds i true) a' w)(hi:ops[i]?=some ⟨some d,o,x,z,u,none⟩:=by exact rfl)(hw:Region.wanted ⟨some d,o,x,z,u,none⟩ (yielded ops a.tmps)=true:=by rfl){X:Operand}(ho:(⟨some d,o,x,z,u,none⟩:Oper).op=.load T X:=by exact rfl)(hx:a.eval X=.pointer (some ⟨b,k,none⟩):=by exact rfl)(hd:D.isRow=true:=by rfl)(hl:(P.info? T).map (·.size)=some cs.length:=by kernel_rfl)(he:a.put (some d) (.agg cs.toArray)=a':=by simp only [Act.put,zA,zB,zC];rfl)(hs:Region.noSelect ops=true:=by kernel_rfl)(hf:Region.free md ops listed i=true:=by kernel_rfl)(hr:(Region.ready md ops listed).contains i=true:=by kernel_rfl)(hQ:∀c b w,Q (.panic c) (b.put (some d) (.agg cs.toArray)) w→Q (.panic c) b w:=by exact fun _ _ _ h=>h)(hS:S w:=by assumption):wpAnyH P md ops Q S (fuel+1) listed a w:=by subst he;exact wpAnyH_take hi hs hf hr hQ (yieldsIf_load_mid hw T X ho b k hx cs D hc hu hd hl) hS hh
theorem V5(i d p:Nat)(t:Bool)(cs:List Value)(T:TypeId)(b k:Nat)(hc:∀w,S w→w.rangeAt b k cs){D:TypeDesc}(hu:P.underlying T=some D)(hh:wpAnyH P md ops Q S fuel (listed.setIfInBounds i true) a' w)(hi:ops[i]?=some ⟨some d,o,x,z,u,some (p,t)⟩:=by exact rfl)(hw:Region.wanted ⟨some d,o,x,z,u,some (p,t)⟩ (yielded ops a.tmps)=true:=by rfl){X:Operand}(ho:(⟨some d,o,x,z,u,some (p,t)⟩:Oper).op=.load T X:=by exact rfl)(hx:a.eval X=.pointer (some ⟨b,k,none⟩):=by exact rfl)(hd:D.isRow=true:=by rfl)(hl:(P.info? T).map (·.size)=some cs.length:=by kernel_rfl)(he:a.put (some d) (.agg cs.toArray)=a':=by simp only [Act.put,zA,zB,zC];rfl)(hs:Region.noSelect ops=true:=by kernel_rfl)(hf:Region.free md ops listed i=true:=by kernel_rfl)(hr:(Region.ready md ops listed).contains i=true:=by kernel_rfl)(hQ:∀c b w,Q (.panic c) (b.put (some d) (.agg cs.toArray)) w→Q (.panic c) b w:=by exact fun _ _ _ h=>h)(hS:S w:=by assumption):wpAnyH P md ops Q S (fuel+1) listed a w:=by subst he;exact wpAnyH_take hi hs hf hr hQ (yieldsIf_load_mid hw T X ho b k hx cs D hc hu hd hl) hS hh
theorem rg{id:Nat}(S:World→Prop)(hS:S w.drew)(h:S w.drew→wpAnyH P .any ops Q S ops.size (Array.replicate ops.size false) a w.drew)(hm:P.follows .mixedOrders=true:=by kernel_rfl):(Code.region id ops true).wp P Q a w:=wp_region_held_drew hm hS h
theorem dn(h:Q .normal a w)(hr:Region.ready md ops listed=[]:=by kernel_rfl):wpAnyH P md ops Q S fuel listed a w:=wpAnyH_done hr h fuel
theorem V6(i:Nat)(q:Oper)(h:∀K:Act→World→Prop,Shut (∀a w,S w→(S w→wpAnyH P md ops Q S fuel (listed.setIfInBounds i true) a w)→K a w)→if Region.wanted q (yielded ops a.tmps)=true then Oper.wp P q a w K Q else K (a.put q.dst undef) w)(hi:ops[i]?=some q:=by exact rfl)(hr:Region.ready md ops listed=[i]:=by kernel_rfl):wpAnyH P md ops Q S (fuel+1) listed a w:=wpAnyH_ready hr (by simp) (AllReadyH.cons hi h AllReadyH.nil)
theorem tr(i d:Nat)(h:∀K:Act→World→Prop,Shut (∀a w,S w→(S w→wpAnyH P md ops Q S fuel (listed.setIfInBounds i true) a w)→K a w)→if Region.wanted ⟨some d,o,x,z,u,none⟩ (yielded ops a.tmps)=true then Oper.wp P ⟨some d,o,x,z,u,none⟩ a w K Q else K (a.put (some d) undef) w)(hi:ops[i]?=some ⟨some d,o,x,z,u,none⟩:=by exact rfl)(hr:Region.ready md ops listed=[i]:=by kernel_rfl):wpAnyH P md ops Q S (fuel+1) listed a w:=wpAnyH_ready hr (by simp) (AllReadyH.cons hi h AllReadyH.nil)
theorem Jb(i d p:Nat)(t:Bool)(h:∀K:Act→World→Prop,Shut (∀a w,S w→(S w→wpAnyH P md ops Q S fuel (listed.setIfInBounds i true) a w)→K a w)→if Region.wanted ⟨some d,o,x,z,u,some (p,t)⟩ (yielded ops a.tmps)=true then Oper.wp P ⟨some d,o,x,z,u,some (p,t)⟩ a w K Q else K (a.put (some d) undef) w)(hi:ops[i]?=some ⟨some d,o,x,z,u,some (p,t)⟩:=by exact rfl)(hr:Region.ready md ops listed=[i]:=by kernel_rfl):wpAnyH P md ops Q S (fuel+1) listed a w:=V6 i _ h hi hr
theorem DH(i:Nat)(h:∀K:Act→World→Prop,Shut (∀a w,S w→(S w→wpAnyH P md ops Q S fuel (listed.setIfInBounds i true) a w)→K a w)→if Region.wanted ⟨none,o,x,z,u,none⟩ (yielded ops a.tmps)=true then Oper.wp P ⟨none,o,x,z,u,none⟩ a w K Q else K (a.put none undef) w)(hi:ops[i]?=some ⟨none,o,x,z,u,none⟩:=by exact rfl)(hr:Region.ready md ops listed=[i]:=by kernel_rfl):wpAnyH P md ops Q S (fuel+1) listed a w:=V6 i _ h hi hr
theorem tn{K:Act→World→Prop}{l:Array Bool}(hK:Shut (∀a w,S w→(S w→wpAnyH P md ops Q S fuel l a w)→K a w))(hS:S w)(h:S w→wpAnyH P md ops Q S fuel l a' w)(he:a=a':=by first|(simp only [Act.put,zA,zB,zC];rfl)|rfl):K a w:=by subst he;exact hK.out _ _ hS h
end
section
variable {P:Program} {ops:Array Oper} {rest:List Oper} {o:Oper} {a:Act} {w W:World} {Q:Exit→Act→World→Prop} {g b k:Nat} {ty t:TypeId} {x y:Operand} {cs old:Array Value} {fr:Nat×Nat} {d:TypeDesc}
theorem lw(hg:w.heap[g]?=some (.cells cs t fr))(hu:P.underlying ty=some d)(h:wpList P ops Q rest (a.put o.dst (.agg cs)) w)(bG:o.guard=none:=by rfl)(ho:o.op=.load ty x:=by exact rfl)(hx:a.eval x=.pointer (some ⟨g,0,none⟩):=by exact rfl)(hd:(match d with|.struct _|.array _ _=>true|_=>false)=true:=by rfl)(hi:(P.info? ty).map (·.size)=some cs.size:=by kernel_rfl):wpList P ops Q (o::rest) a w:=wpList_load_row bG ty x ho g hx t cs fr d hg hu hd hi h
theorem lm(c:List Value)(hc:w.rangeAt b k c)(hu:P.underlying ty=some d)(h:wpList P ops Q rest (a.put o.dst (.agg c.toArray)) w)(bG:o.guard=none:=by rfl)(ho:o.op=.load ty x:=by exact rfl)(hx:a.eval x=.pointer (some ⟨b,k,none⟩):=by exact rfl)(hd:d.isRow=true:=by rfl)(hi:(P.info? ty).map (·.size)=some c.length:=by kernel_rfl):wpList P ops Q (o::rest) a w:=wpList_load_mid bG ty x ho b k hx c d hc hu hd hi h
theorem Pr(c:List Value)(hc:w.rangeAt b k c)(hu:P.underlying ty=some d)(h:wpList P ops Q rest (a.put o.dst (.agg c.toArray)) w)(bG:Region.wanted o (yielded ops a.tmps)=true:=by rfl)(ho:o.op=.load ty x:=by exact rfl)(hx:a.eval x=.pointer (some ⟨b,k,none⟩):=by exact rfl)(hd:d.isRow=true:=by rfl)(hi:(P.info? ty).map (·.size)=some c.length:=by kernel_rfl):wpList P ops Q (o::rest) a w:=by rw [wpList,if_pos bG];exact .inl (wp_load_mid ty x ho b k hx c d hc hu hd hi h)
theorem sw(c:Array Value)(hg:w.heap[g]?=some (.cells old t (0,0)))(h:wpList P ops Q rest (a.put o.dst undef) (w.setRow g c))(bG:o.guard=none:=by rfl)(ho:o.op=.store ty x y:=by exact rfl)(hx:a.eval x=.pointer (some ⟨g,0,none⟩):=by exact rfl)(hy:a.eval y=.agg c:=by exact rfl)(hi:(P.info? ty).map (·.size)=some c.size:=by kernel_rfl)(fQ:old.size=c.size:=by exact rfl)(h1:c.all (·.oneCell')=true:=by simp [Value.oneCell']):wpList P ops Q (o::rest) a w:=wpList_store_row bG ty x y ho g c hx hy t old hg hi fQ h1 h
theorem sn(c:Array Value)(h:wpList P ops Q rest (a.put o.dst undef) (W.alloc (.cells c t)))(bG:o.guard=none:=by rfl)(ho:o.op=.store ty x y:=by exact rfl)(hx:a.eval x=.pointer (some ⟨g,0,none⟩):=by exact rfl)(hy:a.eval y=.agg c:=by exact rfl)(hg:W.heap.size=g:=by simp)(hi:(P.info? ty).map (·.size)=some c.size:=by kernel_rfl)(fQ:old.size=c.size:=by exact rfl)(h1:c.all (·.oneCell')=true:=by simp [Value.oneCell']):wpList P ops Q (o::rest) a (W.alloc (.cells old t)):=by subst hg;refine wpList_store_row bG ty x y ho W.heap.size c hx hy t old (heap_alloc_new W _) hi fQ h1 ?_;rw [World.setRow_alloc_new];exact h
theorem br{fn:Func}{R:Ending→World→Prop}{p:Tmp}(hg:w.heap[g]?=some (.cells cs t fr))(hu:P.underlying ty=some d)(hR:R (.returned (.agg cs)) w)(h:fn.results=#[.cell p ty]:=by exact rfl)(hp:a.tmps.getD p undef=.pointer (some ⟨g,0,none⟩):=by exact rfl)(hd:(match d with|.struct _|.array _ _=>true|_=>false)=true:=by rfl)(hi:(P.info? ty).map (·.size)=some cs.size:=by kernel_rfl)(pH:a.defers=[]:=by exact rfl):bodyPost P fn R .ret a w:=bodyPost_ret (results_cell_row h _ _ g t cs fr d hp hg hu hd hi) pH hR
end
theorem bt{w w1 w2:World}(h:Hd (Below w.heap.size w w1))(hb:Below w1.heap.size w1 w2):Hd (Below w.heap.size w w2):=AA (h.out.trans (hb.mono h.out.size))
abbrev RB(w:World)(x:Value)(e:Ending)(w':World):Prop:=e=.returned x∧Below w.heap.size w w'
def F8(w:World)(p:Option Addr)(xs:List Value):Prop:=xs=[]∨∃b o,p=some ⟨b,o,none⟩∧∀i,i<xs.length→w.cell? ⟨b,o+i,none⟩=some (xs.getD i undef)
theorem BC{w:World}{a:Addr}{v:Value}(h:w.cell? a=some v):a.block<w.heap.size:=by
 rcases Nat.lt_or_ge a.block w.heap.size with aG|bP
 ·exact aG
 ·unfold World.cell? at h;rw [Array.getElem?_eq_none bP] at h;cases h
theorem F8.nil(w:World)(p:Option Addr):F8 w p []:=.inl rfl
theorem F8.below{w w':World}{p:Option Addr}{xs:List Value}(h:F8 w p xs)(hb:Below w.heap.size w w'):F8 w' p xs:=by
 rcases h with h|⟨b,o,hp,hc⟩
 ·exact .inl h
 ·exact .inr ⟨b,o,hp,fun i hi=>by rw [hb.cell (p:=⟨b,o+i,none⟩) (BC (hc i hi))];exact hc i hi⟩
theorem F8.drewN{w:World}{p:Option Addr}{xs:List Value}(h:F8 w p xs)(n:Nat):F8 (w.drewN n) p xs:=h
theorem F8.drew{w:World}{p:Option Addr}{xs:List Value}(h:F8 w p xs):F8 w.drew p xs:=h
theorem F8.at{w:World}{p:Option Addr}{xs:List Value}(h:F8 w p xs)(aR:0<xs.length):∃b o,p=some ⟨b,o,none⟩∧∀i,i<xs.length→w.cell? ⟨b,o+i,none⟩=some (xs.getD i undef):=by
 rcases h with h|h
 ·subst h;simp at aR
 ·exact h
def QJ(l:List Int):List Value:=l.map (Value.int .u8)
theorem Fm(l:List Int):(QJ l).length=l.length:=by simp [QJ]
theorem K8(l:List Int)(i:Nat)(h:i<l.length):(QJ l).getD i undef=.int .u8 (l.getD i 0):=by simp [QJ,List.getD,h]
def Sy(l:List Int):List Value:=l.map (Value.int .i64)
theorem JW(l:List Int):(Sy l).length=l.length:=by simp [Sy]
theorem RY(l:List Int)(i:Nat)(h:i<l.length):(Sy l).getD i undef=.int .i64 (l.getD i 0):=by simp [Sy,List.getD,h]
theorem F8.u8{w:World}{p:Option Addr}{xs:List Int}(h:F8 w p (QJ xs))(aR:0<xs.length):∃b o,p=some ⟨b,o,none⟩∧∀i,i<xs.length→w.cell? ⟨b,o+i,none⟩=some (.int .u8 (xs.getD i 0)):=by obtain⟨b,o,hp,hc⟩:=h.at (by rw [Fm];exact aR);exact⟨b,o,hp,fun i hi=>by rw [hc i (by rw [Fm];exact hi),K8 _ _ hi]⟩
theorem F8.i64{w:World}{p:Option Addr}{xs:List Int}(h:F8 w p (Sy xs))(aR:0<xs.length):∃b o,p=some ⟨b,o,none⟩∧∀i,i<xs.length→w.cell? ⟨b,o+i,none⟩=some (.int .i64 (xs.getD i 0)):=by obtain⟨b,o,hp,hc⟩:=h.at (by rw [JW];exact aR);exact⟨b,o,hp,fun i hi=>by rw [hc i (by rw [JW];exact hi),RY _ _ hi]⟩
theorem AU(w:World)(cs:Array Value)(t:TypeId)(k:Nat)(fr:Nat×Nat:=(0,0)):(w.alloc (.cells cs t fr)).cell? ⟨w.heap.size,k,none⟩=cs[k]?:=by have h:=(MapKept.heap_alloc w (.cells cs t fr)).1;unfold World.cell?;simp only [h];rfl
theorem BX{k:IntKind}{a b:Int}(h:a=b):Ending.returned (.int k a)=.returned (.int k b):=by rw [h]
theorem AE{a b:Bool}(h:a=b):Ending.returned (.bool a)=.returned (.bool b):=by rw [h]
theorem GH{w:World}{o:Obj}{a:Addr}(h:a.block<w.heap.size):(w.alloc o).cell? a=w.cell? a:=((Below.refl w.heap.size w).alloc (Nat.le_refl _) o).cell h
theorem F8.new(w:World)(xs:List Value)(t:TypeId)(fr:Nat×Nat:=(0,0)):F8 (w.alloc (.cells xs.toArray t fr)) (some ⟨w.heap.size,0,none⟩) xs:=by refine .inr ⟨_,_,rfl,fun i hi=>?_⟩;rw [AU w _ t _ fr];simp [List.getD,hi]
theorem F8.newAt(w:World)(xs:List Value)(t:TypeId)(fr:Nat×Nat)(b:Nat)(h:w.heap.size=b):F8 (w.alloc (.cells xs.toArray t fr)) (some ⟨b,0,none⟩) xs:=by subst h;exact F8.new w xs t fr
theorem F8.alloc{w:World}{p:Option Addr}{xs:List Value}(h:F8 w p xs)(o:Obj):F8 (w.alloc o) p xs:=h.below bA
def KM(c:Int):Int:=
 if c=32∨c=9∨c=10 then 1 else if 48≤c∧c≤57 then 2 else if 97≤c∧c≤122 then 3 else if 65≤c∧c≤90 then 4
 else if c=40∨c=41∨c=44∨c=33∨c=58∨c=61∨c=62∨c=43∨c=45∨c=42∨c=60∨c=59 then 5 else 0
theorem Gy(s:ByteArray)(c:Int)(w:World):Calls prog 269 #[.string s,.int .u8 c] w fun e w'=>e=.returned (.int .i64 (Lib.indexByte s.data.toList c.toNat.toUInt8))∧w=w':=by go_enter func269,ntmps269;go_wp2;rw [run_callFunc_extern func271 (by kernel_rfl) (by kernel_rfl) (by kernel_rfl) (e:=Extern.BytealgIndexByte.indexByte) (by kernel_rfl),Lib.run_indexByteString];simp only [Result.andThen];rw [Oper.upon_value];go_wp2;go_ret;exact⟨rfl,rfl⟩
theorem Fv(s:ByteArray)(c:Int)(w:World):Calls prog 263 #[.string s,.int .u8 c] w fun e w'=>e=.returned (.int .i64 (Lib.indexByte s.data.toList c.toNat.toUInt8))∧w=w':=by go_enter func263,ntmps263;go_wp2_with (go_at_call 269;refine(Gy _ _ _).mono ?_;rintro e w' ⟨rfl,rfl⟩);go_ret;exact⟨rfl,rfl⟩
def Vl:List UInt8:=[40,41,44,33,58,61,62,43,45,42,60,59]
theorem Q1(c:Int)(h0:0≤c)(h1:c≤255):(0≤Lib.indexByte [32,9,10] (UInt8.ofNat c.toNat))↔(c=32∨c=9∨c=10):=by
 have key:∀n:Fin 256,(0≤Lib.indexByte [32,9,10] (UInt8.ofNat n.val))↔((n.val:Int)=32∨(n.val:Int)=9∨(n.val:Int)=10):=by decide +kernel
 have:=key ⟨c.toNat,by omega⟩;have e:((c.toNat:Nat):Int)=c:=by omega
 simp only [e] at this;exact this
theorem Tj(c:Int)(h0:0≤c)(h1:c≤255):(0≤Lib.indexByte [40,41,44,33,58,61,62,43,45,42,60,59] (UInt8.ofNat c.toNat))↔(c=40∨c=41∨c=44∨c=33∨c=58∨c=61∨c=62∨c=43∨c=45∨c=42∨c=60∨c=59):=by
 have key:∀n:Fin 256,(0≤Lib.indexByte Vl (UInt8.ofNat n.val))↔((n.val:Int)=40∨(n.val:Int)=41∨(n.val:Int)=44∨(n.val:Int)=33∨(n.val:Int)=58∨(n.val:Int)=61∨(n.val:Int)=62∨(n.val:Int)=43∨(n.val:Int)=45∨(n.val:Int)=42∨(n.val:Int)=60∨(n.val:Int)=59):=by decide +kernel
 have:=key ⟨c.toNat,by omega⟩;have e:((c.toNat:Nat):Int)=c:=by omega
 simp only [e] at this;exact this
theorem It(c:Int)(h0:0≤c)(h1:c≤255)(w:World):Calls prog 248 #[.int .u8 c] w fun e w'=>e=.returned (.int .u8 (KM c))∧w=w':=by
 have hb:=AA (Q1 c h0 h1);have hs:=AA (Tj c h0 h1);go_enter func248,ntmps248;go_wp2_with (go_at_call 263;refine(Fv _ _ _).mono ?_;rintro e w' ⟨rfl,rfl⟩)
 all_goals
  go_ret
  refine⟨BX ?_,rfl⟩
  have hb:=hb.out
  have hs:=hs.out
  unfold KM
  repeat' split
  all_goals omega
theorem G0(l:List Int)(p:Int→Bool)(k:Nat)(h:k<l.length):(l.take (k+1)).any p=((l.take k).any p||p (l[k]?.getD 0)):=by rw [List.take_succ_eq_append_getElem h,List.any_append];simp [h]
theorem QY(l:List Int)(p:Int→Bool)(k:Nat)(h:k<l.length)(hp:p (l[k]?.getD 0)=true):l.any p=true:=by rw [List.any_eq_true];exact⟨l[k],List.getElem_mem h,by simpa [h] using hp⟩
theorem LJ(l:List Int)(p:Int→Bool)(k:Nat)(h:k<l.length):(l.take (k+1)).all p=((l.take k).all p&&p (l[k]?.getD 0)):=by rw [List.take_succ_eq_append_getElem h,List.all_append];simp [h]
theorem VO{l:List Int}{p:Int→Bool}{k:Nat}(h:k<l.length)(ha:(l.take k).all p=true)(hp:p (l[k]?.getD 0)=false):(l.takeWhile p).length=k:=by
 induction l generalizing k with
 |nil=>simp at h
 |cons x r ih=>
  cases k with
  |zero=>simp at hp;simp [List.takeWhile_cons,hp]
  |succ k=>
   simp only [List.take_succ_cons,List.all_cons,Bool.and_eq_true] at ha;have:=ih (k:=k) (by simpa using h) ha.2 (by simpa using hp);simp [List.takeWhile_cons,ha.1,this]
theorem Ts{l:List Int}{p:Int→Bool}(ha:l.all p=true):(l.takeWhile p).length=l.length:=by
 induction l with
 |nil=>rfl
 |cons x r ih=>
  simp only [List.all_cons,Bool.and_eq_true] at ha;simp [List.takeWhile_cons,ha.1,ih ha.2]
theorem Pd{l:List Int}{a b:Int}(h:∀x∈l,a≤x∧x≤b)(k:Nat)(hk:k<l.length):a≤l[k]?.getD 0∧l[k]?.getD 0≤b:=by have:=h l[k] (List.getElem_mem hk);simpa [hk] using this
theorem UP(p:Option Addr)(n cap:Nat)(c:Int)(xs:List Int)(w:World)(hn:xs.length=n)(hm:n≤9223372036854775807)(hr:F8 w p (QJ xs)):Calls prog 257 #[.slice p n cap,.int .u8 c] w fun e w'=>(∃r:Int,e=.returned (.int .i64 r)∧(xs.any (·==c)=decide (0≤r)))∧w=w':=by
 by_cases h0:n=0
 ·subst h0;obtain rfl:xs=[]:=List.length_eq_zero_iff.1 hn;clear hn hr;go_enter func257,ntmps257;go_wp2;go_loop [5,8] (fun u i=>i=.int .i64 0) (fun _ i=>0)
  case atStart=>rfl
  case round=>subst hrel;go_wp2;go_ret;exact⟨⟨_,rfl,by simp⟩,rfl⟩
 ·obtain⟨b,o,rfl,hc⟩:=hr.u8 (by omega);have HN:=AA hn;have HC:=AA hc;clear hn hc hr;go_enter func257,ntmps257;go_wp2;go_loop [5,8] (fun u i=>∃k:Nat,k≤n∧i=.int .i64 k∧(xs.take k).any (·==c)=false) (fun _ i=>n-(intOf i).toNat)
  case atStart=>exact⟨0,by omega,rfl,by simp⟩
  case round=>
   obtain⟨k,hk,rfl,aw⟩:=hrel;have a8:=AA aw;clear aw;by_cases aG:k<n
   ·have bT:=HC.o k (by rw [HN.o];exact aG);have hs:=AA (G0 xs (·==c) k (by rw [HN.o];exact aG));go_wp2
    ·go_ret;have h:=QY xs (·==c) k (by rw [HN.o];exact aG) (by rw [beq_iff_eq];exact(beq_iff_eq.1 (by assumption)).symm);exact⟨⟨k,rfl,by rw [h];simp⟩,rfl⟩
    ·go_round
     case rel=>exact⟨k+1,by omega,by go_num,by rw [hs.out,a8.o,Bool.false_or,BEq.comm];assumption⟩
     case measure=>simp [intOf];omega
   ·go_wp2;go_ret;have:k=n:=by omega
    subst this;have:=a8.o;rw [List.take_of_length_le (by rw [HN.o];omega)] at this;exact⟨⟨_,rfl,by rw [this];simp⟩,rfl⟩
theorem Mf(p:Option Addr)(n cap:Nat)(c:Int)(xs:List Int)(w:World)(hn:xs.length=n)(hm:n≤9223372036854775807)(hr:F8 w p (QJ xs)):Calls prog 234 #[.slice p n cap,.int .u8 c] w fun e w'=>e=.returned (.bool (xs.any (·==c)))∧w'=w:=by have HR:=AA hr;have HN:=AA hn;clear hr hn;go_enter func234,ntmps234;go_wp2_with fail;refine(UP p n cap c xs w HN.o hm HR.o).mono ?_;rintro e w' ⟨⟨r,rfl,hr⟩,rfl⟩;have Hr:=AA hr;clear hr;go_wp2;go_ret;exact⟨AE Hr.o.symm,rfl⟩
theorem Nt(c:Int)(h0:0≤c)(h1:c≤255)(w:World):Calls prog 248 #[.int .u8 c] w fun e w'=>e=.returned (.int .u8 (KM c))∧w'=w:=(It c h0 h1 w).mono fun _ _ h=>⟨h.1,h.2.symm⟩
def Ef(cl:List Int)(c:Int):Bool:=cl.any (·==KM c)
theorem ME(c:Int)(h0:0≤c)(h1:c≤255)(a:Addr)(p:Option Addr)(n cap:Nat)(xs:List Int)(w:World)(hn:xs.length=n)(hm:n≤9223372036854775807)(af:w.cell? a=some (.slice p n cap))(hr:F8 w p (QJ xs)):Calls prog 265 #[.int .u8 c,.pointer (some a)] w fun e w'=>e=.returned (.bool (!Ef xs c))∧∃m,w'=w.drewN m:=by have HR:=AA hr;have HN:=AA hn;clear hr hn;go_enter func265,ntmps265;go_wp2_with fail;go_quiet ((first|(go_at_call 248;exact Calls.quiet_of_same (Nt c h0 h1 _))|(go_at_call 234;exact Calls.quiet_of_same (Mf p n cap (KM c) xs _ HN.o hm (HR.o.drewN _)))));go_wp2;go_ret;exact⟨rfl,_,rfl⟩
theorem LP(a:Addr)(q:Option Addr)(m mc:Nat)(cl:List Int)(p:Option Addr)(n cap:Nat)(xs:List Int)(w:World)(hn:xs.length=n)(hm:n≤9223372036854775807)(gd:∀x∈xs,0≤x∧x≤255)(hr:F8 w p (QJ xs))(eY:cl.length=m)(iO:m≤9223372036854775807)(af:w.cell? a=some (.slice q m mc))(cj:F8 w q (QJ cl))(h0:0<n) :
 Calls prog 264 #[.slice p n cap,.func (.func 265) #[] #[.pointer (some a)]] w fun e w'=>(∃r:Int,e=.returned (.int .i64 r)∧((r<0∧(xs.takeWhile (Ef cl)).length=n)∨r=((xs.takeWhile (Ef cl)).length:Int)))∧∃j,w'=w.drewN j:=by
 obtain⟨b,o,rfl,hc⟩:=hr.u8 (by omega)
 have HN:=AA hn
 have HC:=AA hc
 have HM:=AA eY
 have HL:=AA cj
 have HX:=AA gd
 clear hn hc hr eY cj gd
 go_enter func264,ntmps264
 go_wp2
 go_loopw [5,8] (fun _ i wr=>∃k:Nat,k≤n∧i=.int .i64 k∧(xs.take k).all (Ef cl)=true∧∃j,wr=w.drewN j) (fun _ i _=>n-(intOf i).toNat)
 case atStart=>exact⟨0,by omega,rfl,by simp,0,rfl⟩
 case round=>
  obtain⟨k,hk,rfl,aw,j,rfl⟩:=hrel;have a8:=AA aw;clear aw;by_cases aG:k<n
  ·have bT:=HC.o k (by rw [HN.o];exact aG);have hs:=AA (LJ xs (Ef cl) k (by rw [HN.o];exact aG));obtain⟨r0,r1⟩:=Pd HX.o k (by rw [HN.o];exact aG);by_cases ck:Ef cl (xs[k]?.getD 0)=true
   ·go_wp2_with (go_at_call 265;refine(ME _ r0 r1 a q m mc cl _ HM.o iO (by exact af) (by exact HL.o.drewN _)).mono ?_;rintro e w' ⟨rfl,m2,rfl⟩);go_roundw
    case rel=>exact⟨k+1,by omega,by go_num,by rw [hs.out,a8.o,Bool.true_and];exact ck,j+m2,rfl⟩
    case measure=>simp [intOf];omega
   ·have lv:Ef cl (xs[k]?.getD 0)=false:=by simpa using ck
    clear ck;go_wp2_with (go_at_call 265;refine(ME _ r0 r1 a q m mc cl _ HM.o iO (by exact af) (by exact HL.o.drewN _)).mono ?_;rintro e w' ⟨rfl,m2,rfl⟩);go_ret;refine⟨⟨(k:Int),rfl,.inr ?_⟩,j+m2,rfl⟩;rw [VO (by rw [HN.o];exact aG) a8.o lv]
  ·have:k=n:=by omega
   subst this;go_wp2;go_ret;have:=a8.o;rw [List.take_of_length_le (by rw [HN.o];omega)] at this;exact⟨⟨-1,rfl,.inl ⟨by omega,by rw [Ts this];exact HN.o⟩⟩,j,rfl⟩
def Fh(xs cl:List Int)(a:Int):Nat:=if a<0 then 0 else((xs.drop a.toNat).takeWhile (Ef cl)).length
theorem QH{xs cl:List Int}{a:Int}(h:a<0∨(xs.length:Int)≤a):Fh xs cl a=0:=by
 unfold Fh;split
 ·rfl
 ·rw [List.drop_of_length_le (by omega)];rfl
theorem TS{w:World}{b o:Nat}{xs:List Int}{n:Nat}(hn:xs.length=n)(hc:∀i,i<xs.length→w.cell? ⟨b,o+i,none⟩=some (.int .u8 (xs.getD i 0)))(k:Nat):F8 w (some ⟨b,o+k,none⟩) (QJ (xs.drop k)):=by refine .inr ⟨b,o+k,rfl,fun i hi=>?_⟩;rw [Fm,List.length_drop] at hi;rw [Nat.add_assoc,hc (k+i) (by omega),K8 _ _ (by rw [List.length_drop];exact hi)];simp [List.getD]
theorem Tm(p:Option Addr)(n cap:Nat)(a:Int)(q:Option Addr)(m mc:Nat)(xs cl:List Int)(w:World)(hn:xs.length=n)(hm:n≤9223372036854775807)(ci:n≤cap)(gd:∀x∈xs,0≤x∧x≤255)(hr:F8 w p (QJ xs))(eY:cl.length=m)(iO:m≤9223372036854775807)(cj:F8 w q (QJ cl)) :
 Calls prog 249 #[.slice p n cap,.int .i64 a,.slice q m mc] w (RB w (.int .i64 (Fh xs cl a))):=by
 by_cases j1:a<0∨(n:Int)≤a
 ·have hz:=AA (QH (xs:=xs) (cl:=cl) (a:=a) (by omega));clear hr cj hn eY;rcases j1 with ho|ho
  ·go_enter func249,ntmps249;go_wp2;go_ret;exact⟨BX (by rw [hz.out];rfl),bA⟩
  ·have ha:0≤a:=by omega
   go_enter func249,ntmps249;go_wp2;go_ret;exact⟨BX (by rw [hz.out];rfl),bA⟩
 ·obtain⟨k,rfl⟩:=Int.eq_ofNat_of_zero_le (show 0≤a by omega);have hk:k<n:=by omega
  clear j1;obtain⟨b,o,rfl,hc⟩:=hr.u8 (by omega);have hd:=TS hn hc k;have mx:(xs.drop k).length=n-k:=by rw [List.length_drop,hn]
  have HD:=AA (hd.below ((Below.refl _ w).alloc (Nat.le_refl _) (.cells #[.slice q m mc] 166)));have HC:=AA (cj.below ((Below.refl _ w).alloc (Nat.le_refl _) (.cells #[.slice q m mc] 166)));have nt:=AA mx;have HM:=AA eY;have HX:Hd (∀x∈xs.drop k,0≤x∧x≤255):=fun x hx=>gd x (List.mem_of_mem_drop hx);have HN:=AA hn;have HS:Hd (Fh xs cl (k:Int)=((xs.drop k).takeWhile (Ef cl)).length):=by show Fh xs cl (k:Int)=_;unfold Fh;rw [if_neg (by omega)];simp
  clear hd mx cj eY hc hr gd hn;go_enter func249,ntmps249;go_wp2_with fail;refine(LP ⟨w.heap.size,0,none⟩ q m mc cl (some ⟨b,o+k,none⟩) (n-k) _ (xs.drop k) _ nt.o (by omega) HX.o HD.o HM.o iO (by rw [AU];rfl) HC.o (by omega)).mono ?_;rintro e w' ⟨⟨r,rfl,hr⟩,j,rfl⟩;have hB:Hd (Below w.heap.size w ((w.alloc (.cells #[.slice q m mc] 166)).drewN j)):=below_drewN ((Below.refl _ w).alloc (Nat.le_refl _) _) j;rcases hr with⟨jy,aJ⟩|hr
  ·have HLen:=AA aJ;clear aJ;go_wp2;go_ret;exact⟨BX (by rw [HS.o,HLen.o];omega),hB.out⟩
  ·have dy:0≤r:=by omega
   have HR:=AA hr;clear hr;go_wp2;go_ret;exact⟨BX (by rw [HS.o,HR.o]),hB.out⟩
def Ui:List Int:=[40,41,44,33,58,61,62,43,45,42,60,59]
def K0:Array Value:=#[.int .u8 40,.int .u8 41,.int .u8 44,.int .u8 33,.int .u8 58,.int .u8 61,.int .u8 62,.int .u8 43,.int .u8 45,.int .u8 42,.int .u8 60,.int .u8 59]
theorem Th(w:World)(t:TypeId)(k:Nat)(h:k<12):(w.alloc (.cells K0 t)).cell? ⟨w.heap.size,k,none⟩=some (.int .u8 (Ui[k]?.getD 0)):=by
 rw [AU]
 have key:∀k:Fin 12,K0[k.val]?=some (Value.int .u8 (Ui[k.val]?.getD 0)):=by
  intro k;match k with
  |0|1|2|3|4|5|6|7|8|9|10|11=>rfl
 exact key ⟨k,h⟩
theorem Ks(c:Int)(h0:0≤c)(jN:c≤255)(h1:¬c=32)(h2:¬c=9)(h3:¬c=10)(hc:c<48∨(57<c∧c<65)∨(90<c∧c<97)∨122<c)(w:World):Calls prog 110 #[.int .u8 c] w (RB w (.int .u8 (KM c))):=by
 have c1:(c==32)=false:=by simpa using h1
 have c2:(c==9)=false:=by simpa using h2
 have c3:(c==10)=false:=by simpa using h3
 have mD:Hd ((Ui.any (·==c))=true→KM c=5):=by
  intro h;simp [Ui] at h;unfold KM;repeat' split
  all_goals omega
 have aw:Hd ((Ui.any (·==c))=false→KM c=0):=by
  intro h;simp [Ui] at h;unfold KM;repeat' split
  all_goals omega
 clear h1 h2 h3;rcases hc with hc|⟨hc,fK⟩|⟨hc,fK⟩|hc
 all_goals
  go_enter func110,ntmps110
  go_wp2
  go_loop [4,36] (fun _ i=>∃k:Nat,k≤12∧i=.int .i64 k∧(Ui.take k).any (·==c)=false) (fun _ i=>12-(intOf i).toNat)
  case atStart=>exact⟨0,by omega,rfl,by simp⟩
  case round=>
   obtain⟨k,hk,rfl,hn⟩:=hrel;have HN:=AA hn;clear hn;by_cases aG:k<12
   ·have bT:=Th w 5 k aG;have hs:=AA (G0 Ui (·==c) k aG);unfold K0 at bT;go_wp2
    ·go_ret;exact⟨BX (mD.out (QY Ui (·==c) k aG (by assumption))).symm,bA⟩
    ·go_round
     case rel=>exact⟨k+1,by omega,by go_num,by rw [hs.out,HN.o,Bool.false_or];assumption⟩
     case measure=>simp [intOf];omega
   ·have jm:k=12:=by omega
    subst jm;go_wp2;go_ret;exact⟨BX (aw.out HN.o).symm,bA⟩
theorem E8(c:Int)(h0:0≤c)(jN:c≤255)(w:World):Calls prog 110 #[.int .u8 c] w (RB w (.int .u8 (KM c))):=by
 by_cases hs:¬c=32∧¬c=9∧¬c=10∧(c<48∨(57<c∧c<65)∨(90<c∧c<97)∨122<c)
 ·exact Ks c h0 jN hs.1 hs.2.1 hs.2.2.1 hs.2.2.2 w
 ·rcases (by omega:c=32∨c=9∨c=10∨(48≤c∧c≤57)∨(97≤c∧c≤122)∨(65≤c∧c≤90)) with rfl|rfl|rfl|⟨ha,hb⟩|⟨ha,hb⟩|⟨ha,hb⟩
  all_goals
   clear hs
   try have c1:(c==32)=false:=by simp;omega
   try have c2:(c==9)=false:=by simp;omega
   try have c3:(c==10)=false:=by simp;omega
   go_enter func110,ntmps110
   go_wp2
   go_ret
   refine⟨BX ?_,Below.refl _ _⟩
   unfold KM
   repeat' split
   all_goals omega
section
variable {α:Type}
def At(enc:α→List Value)(k:Nat)(w:World)(p:Option Addr)(l:List α):Prop:=l=[]∨∃b o,p=some ⟨b,o,none⟩∧b<w.heap.size∧∀j x,l[j]?=some x→∀i v,(enc x)[i]?=some v→w.cell? ⟨b,o+j * k+i,none⟩=some v
theorem At.nil(enc:α→List Value)(k:Nat)(w:World)(p:Option Addr):At enc k w p []:=.inl rfl
theorem At.below{enc:α→List Value}{k:Nat}{w w':World}{p:Option Addr}{l:List α}(h:At enc k w p l)(hb:Below w.heap.size w w'):At enc k w' p l:=by
 rcases h with h|⟨b,o,hp,aG,hc⟩
 ·exact .inl h
 ·exact .inr ⟨b,o,hp,Nat.lt_of_lt_of_le aG hb.size,fun j x hx i v hv=>by rw [hb.cell (p:=⟨b,o+j * k+i,none⟩) aG];exact hc j x hx i v hv⟩
theorem At.alloc{enc:α→List Value}{k:Nat}{w:World}{p:Option Addr}{l:List α}(h:At enc k w p l)(o:Obj):At enc k (w.alloc o) p l:=h.below bA
theorem At.drewN{enc:α→List Value}{k:Nat}{w:World}{p:Option Addr}{l:List α}(h:At enc k w p l)(n:Nat):At enc k (w.drewN n) p l:=h
theorem At.at{enc:α→List Value}{k:Nat}{w:World}{p:Option Addr}{l:List α}(h:At enc k w p l)(aR:0<l.length):∃b o,p=some ⟨b,o,none⟩∧b<w.heap.size∧∀j x,l[j]?=some x→∀i v,(enc x)[i]?=some v→w.cell? ⟨b,o+j * k+i,none⟩=some v:=by
 rcases h with h|h
 ·subst h;simp at aR
 ·exact h
theorem At.elem{enc:α→List Value}{k:Nat}{w:World}{p:Option Addr}{l:List α}(h:At enc k w p l){j:Nat}{x:α}(hx:l[j]?=some x):∃b o,p=some ⟨b,o,none⟩∧b<w.heap.size∧∀i v,(enc x)[i]?=some v→w.cell? ⟨b,o+j * k+i,none⟩=some v:=by
 rcases h with h|⟨b,o,hp,hb,hc⟩
 ·subst h;simp at hx
 ·exact⟨b,o,hp,hb,fun i v hv=>hc j x hx i v hv⟩
theorem At.take{enc:α→List Value}{k:Nat}{w:World}{p:Option Addr}{l:List α}(h:At enc k w p l)(n:Nat):At enc k w p (l.take n):=by
 rcases h with h|⟨b,o,hp,hb,hc⟩
 ·subst h;exact .inl (by simp)
 ·refine .inr ⟨b,o,hp,hb,fun j x hx i v hv=>hc j x ?_ i v hv⟩;rw [List.getElem?_take] at hx;split at hx
  ·exact hx
  ·cases hx
theorem CD{l:List α}{j:Nat}{x:α}(h:l[j]?=some x):j<l.length:=(List.getElem?_eq_some_iff.1 h).1
theorem Ac{l:List α}{j:Nat}(h:j<l.length):∃x,l[j]?=some x:=⟨l[j],List.getElem?_eq_getElem h⟩
theorem AJ{l:List α}{j:Nat}{x:α}(h:l[j]?=some x):l.take (j+1)=l.take j++[x]:=by obtain⟨hj,rfl⟩:=List.getElem?_eq_some_iff.1 h;exact List.take_succ_eq_append_getElem hj
theorem AY{l:List α}{n:Nat}(h:l.length≤n):l.take n=l:=List.take_of_length_le h
theorem FU{l:List α}{q:α→Bool}{j:Nat}{x:α}(h:l[j]?=some x)(hq:q x=true):l.any q=true:=by rw [List.any_eq_true];exact⟨x,List.mem_of_getElem? h,hq⟩
theorem J0{l:List α}{q:α→Bool}{j:Nat}{x:α}(h:l[j]?=some x)(hq:q x=false):l.all q=false:=by rw [List.all_eq_false];exact⟨x,List.mem_of_getElem? h,by simp [hq]⟩
theorem BF{l:List α}{q:α→Bool}{j:Nat}{x:α}(h:l[j]?=some x):(l.take (j+1)).any q=((l.take j).any q||q x):=by rw [AJ h,List.any_append];simp
theorem DY{l:List α}{q:α→Bool}{j:Nat}{x:α}(h:l[j]?=some x):(l.take (j+1)).all q=((l.take j).all q&&q x):=by rw [AJ h,List.all_append];simp
theorem CY{enc:α→List Value}{k:Nat}(hk:∀x,(enc x).length=k):∀(l:List α) (j:Nat) (x:α) (i:Nat),l[j]?=some x→i<k→(l.flatMap enc)[j * k+i]?=(enc x)[i]?
 |[],j,x,i,h,_=>by simp at h
 |y::l,0,x,i,h,hi=>by simp at h;subst h;rw [List.flatMap_cons,List.getElem?_append_left (by rw [hk];omega)];simp
 |y::l,j+1,x,i,h,hi=>by simp only [List.getElem?_cons_succ] at h;rw [List.flatMap_cons,List.getElem?_append_right (by rw [hk,Nat.add_mul];omega),hk];rw [show (j+1) * k+i-k=j * k+i from by rw [Nat.add_mul];omega];exact CY hk l j x i h hi
theorem Aj{enc:α→List Value}{k:Nat}(hk:∀x,(enc x).length=k)(l:List α):(l.flatMap enc).length=l.length * k:=by
 induction l with
 |nil=>simp
 |cons a l ih=>rw [List.flatMap_cons,List.length_append,hk,ih,List.length_cons,Nat.add_mul];omega
theorem D3(b o i:Nat):(⟨b,o,none⟩:Addr).add i=⟨b,o+i,none⟩:=by unfold Addr.add;split<;>simp_all
theorem Uc{enc:α→List Value}{k:Nat}(hk:∀x,(enc x).length=k){w:World}{base e n:Nat}{v:Value}{l:List α}(h:w.ownsRow base e k v n (l.flatMap enc))(bC:0<k):∃p cap,v=.slice p n cap∧l.length=n∧n≤cap∧At enc k w p l∧cap≤maxLen∧(p=none→n=0∧cap=0)∧(∀a,p=some a→base≤a.block∧a.off=0∧a.spot=none∧a.block<w.heap.size):=by
 have hl:l.length=n:=by have:=h.1;rw [Aj hk] at this;exact Nat.eq_of_mul_eq_mul_right bC this
 rcases h.2 with⟨rfl,h0⟩|⟨g,cap,cur,rfl,hb,hg,pU,pC,aL,kf⟩
 ·subst h0;exact⟨none,0,rfl,hl,by omega,.inl (List.length_eq_zero_iff.1 hl),by simp [maxLen],(fun _=>⟨rfl,rfl⟩),(fun a ha=>by cases ha)⟩
 ·have aG:g<w.heap.size:=(Array.getElem?_eq_some_iff.1 hg).1;refine⟨_,cap,rfl,hl,pU,.inr ⟨g,0,rfl,aG,fun j x hx i v hv=>?_⟩,pC,(fun e=>by cases e),(fun a ha=>by cases ha;exact⟨hb,rfl,rfl,aG⟩)⟩;have hi:i<k:=by rw [←hk x];exact CD hv
  have hf:=CY hk l j x i hx hi;have:=h.cells (g:=g) rfl (j * k+i) v (by rw [hf];exact hv);rw [D3] at this;simpa [Nat.add_assoc] using this
def Gx(s:ByteArray):List Value:=[.string s]
theorem IL(s:ByteArray):(Gx s).length=1:=rfl
def Am(n:Int):List Value:=[.int .i64 n]
theorem Ap(n:Int):(Am n).length=1:=rfl
theorem At.str{w:World}{p:Option Addr}{l:List ByteArray}(h:At Gx 1 w p l){j:Nat}{x:ByteArray}(hx:l[j]?=some x):∃b o,p=some ⟨b,o,none⟩∧w.cell? ⟨b,o+j,none⟩=some (.string x):=by obtain⟨b,o,rfl,_,hc⟩:=h.elem hx;exact⟨b,o,rfl,by simpa using hc 0 _ rfl⟩
theorem At.num{w:World}{p:Option Addr}{l:List Int}(h:At Am 1 w p l){j:Nat}{x:Int}(hx:l[j]?=some x):∃b o,p=some ⟨b,o,none⟩∧w.cell? ⟨b,o+j,none⟩=some (.int .i64 x):=by obtain⟨b,o,rfl,_,hc⟩:=h.elem hx;exact⟨b,o,rfl,by simpa using hc 0 _ rfl⟩
theorem At.newAt{enc:α→List Value}{k:Nat}(hk:∀x,(enc x).length=k)(w:World)(l:List α)(cs:Array Value)(ao:cs.toList=l.flatMap enc)(t:TypeId)(fr:Nat×Nat)(b:Nat)(h:w.heap.size=b):At enc k (w.alloc (.cells cs t fr)) (some ⟨b,0,none⟩) l:=by
 subst h;refine .inr ⟨_,0,rfl,by simp,fun j x hx i v hv=>?_⟩;rw [AU w _ t _ fr,←Array.getElem?_toList,ao];have hi:i<k:=by rw [←hk x];exact CD hv
 have:=CY hk l j x i hx hi;rw [Nat.zero_add,this];exact hv
end
def DK(s:ByteArray):List Int:=s.data.toList.map (fun b=>(b.toNat:Int))
theorem EZ(s:ByteArray):(DK s).length=s.size:=by simp [DK]
theorem PN(s:ByteArray):∀x∈DK s,0≤x∧x≤255:=by intro x hx;simp only [DK,List.mem_map] at hx;obtain⟨b,_,rfl⟩:=hx;have:=b.toNat_lt;omega
def Aw(s:ByteArray)(first:Int):Bool:=decide (0<s.size)&&decide (s.size≤16)&&((DK s).headD 0 |> KM |> (·==first))&&(DK s).all (Ef [3,4,2])
theorem Hj(s:ByteArray)(j:Nat)(h:j<s.size):(DK s)[j]?=some ((s[j].toNat:Nat):Int):=by
 have hl:j<s.data.toList.length:=by simpa using h
 simp only [DK,List.getElem?_map,List.getElem?_eq_getElem hl,Option.map_some];rfl
theorem JM(s:ByteArray)(h:0<s.size):(DK s).headD 0=((s[0].toNat:Nat):Int):=by have:=Hj s 0 h;rw [List.headD_eq_head?_getD,List.head?_eq_getElem?,this];rfl
theorem PO(s:ByteArray)(w:World):∃cap C,s.size≤cap∧F8 ((w.alloc (.cells C 5 (C.size,C.size+1))).drew) (some ⟨w.heap.size,0,none⟩) (QJ (DK s))∧(convert 9 166 (.string s)).run prog w=.ok (.slice (some ⟨w.heap.size,0,none⟩) s.size cap) ((w.alloc (.cells C 5 (C.size,C.size+1))).drew):=by refine⟨grownCap w s.size 0 5,bytesRow s (grownCap w s.size 0 5),grownCap_ge _ _ _ _,?_,run_bytes_of_string w 9 166 5 s underlying9 underlying166 underlying5⟩;refine .inr ⟨_,_,rfl,fun j hj=>?_⟩;rw [Fm,EZ] at hj;rw [K8 _ _ (by rw [EZ];exact hj)];show (w.alloc _).cell? _=_;rw [AU w _ _ _ (_,_),Nat.zero_add,bytesRow_at s _ j hj,List.getD_eq_getElem?_getD,Hj s j hj];rfl
theorem R4{l:List Int}{p:Int→Bool}(h:(l.takeWhile p).length=l.length):l.all p=true:=by
 induction l with
 |nil=>rfl
 |cons x r ih=>
  rw [List.takeWhile_cons] at h;cases hx:p x with
  |false=>rw [hx] at h;simp at h
  |true=>rw [hx] at h;simp at h;simp [hx,ih h]
theorem Lh(xs cl:List Int):(Fh xs cl 0=xs.length)↔xs.all (Ef cl)=true:=by
 unfold Fh;rw [if_neg (by omega)];simp only [Int.toNat_zero,List.drop_zero];constructor
 ·exact R4
 ·exact Ts
theorem H5(s:ByteArray)(first:Int)(w:World):Calls prog 212 #[.string s,.int .u8 first] w (RB w (.bool (Aw s first))):=by
 by_cases h0:s.size=0
 ·have hs:s.toList=[]:=by rw [Lib.toList_data,←List.length_eq_zero_iff,←Lib.size_eq];exact h0
  have pb:s.toList.isEmpty=true:=by rw [hs];rfl
  have hr:Hd (Aw s first=false):=by show Aw s first=false;simp [Aw,h0]
  go_enter func212,ntmps212;go_wp2_with fail;go_ret;exact⟨AE hr.out.symm,Below.refl _ _⟩
 ·have eF:0<s.size:=by omega
  have hs:(s.toList==[])=false:=by
   rw [beq_eq_false_iff_ne];intro e;rw [Lib.toList_data] at e;have:s.size=0:=by rw [Lib.size_eq,e];rfl
   omega
  have pb:s.toList.isEmpty=false:=by rw [List.isEmpty_eq_false_iff];simpa using hs
  by_cases gP:16<s.size
  ·have hr:Hd (Aw s first=false):=by show Aw s first=false;simp [Aw];intro _ h;omega
   go_enter func212,ntmps212;go_wp2_with fail;go_ret;exact⟨AE hr.out.symm,Below.refl _ _⟩
  ·have iB:s.size≤16:=by omega
   have hh:=JM s eF;have hc:(0:Int)≤((s[0].toNat:Nat):Int)∧((s[0].toNat:Nat):Int)≤255:=by have:=s[0].toNat_lt;omega
   obtain⟨c0,c1⟩:=hc;obtain⟨cap,C,ci,aB,kc⟩:=PO s w;have HR:=AA aB;have HH:=AA hh;clear aB hh gP;by_cases hf:KM ((s[0].toNat:Nat):Int)=first
   ·have HF:=AA hf;have iG:(KM ((s[0].toNat:Nat):Int) != first)=false:=by rw [hf];simp
    clear hf
    have hr:Hd (Aw s first=decide (Fh (DK s) [3,4,2] 0=s.size)):=by
     show Aw s first=_
     unfold Aw;rw [HH.o,HF.o];have:=Lh (DK s) [3,4,2];rw [EZ] at this;simp only [eF,iB,decide_true,Bool.true_and,beq_self_eq_true];rw [Bool.eq_iff_iff,decide_eq_true_eq,this]
    go_enter func212,ntmps212;go_wp2_with fail;refine(It _ c0 c1 _).mono ?_;rintro e w1 ⟨rfl,rfl⟩;go_wp2_with fail;refine(Tm (some ⟨w.heap.size,0,none⟩) s.size cap 0 _ 3 3 (DK s) [3,4,2] _ (EZ s) (by omega) ci (PN s) ?_ rfl (by omega) ?_).mono ?_
    ·exact HR.o.alloc _
    ·exact F8.newAt _ (QJ [3,4,2]) 5 (0,0) _ (by simp)
    ·rintro e w1 ⟨rfl,hb⟩;have HB:Hd (Below w.heap.size w w1):=(((Below.refl _ w).alloc (Nat.le_refl _) _).drew.alloc (by simp) _).trans (hb.mono (by simp;omega));clear hb;go_wp2_with fail;go_ret;refine⟨AE ?_,HB.o⟩;rw [hr.out,Bool.eq_iff_iff,decide_eq_true_eq,beq_iff_eq];omega
   ·have iG:(KM ((s[0].toNat:Nat):Int) != first)=true:=by simpa using hf
    have hr:Hd (Aw s first=false):=by
     show Aw s first=false
     unfold Aw;rw [HH.o];simp [hf]
    clear kc HR ci hf;go_enter func212,ntmps212;go_wp2_with fail;refine(It _ c0 c1 _).mono ?_;rintro e w1 ⟨rfl,rfl⟩;go_wp2_with fail;go_ret;exact⟨AE hr.out.symm,Below.refl _ _⟩
end Go.Proofs.YtkdjnegfnhldpaaGreatDoor
