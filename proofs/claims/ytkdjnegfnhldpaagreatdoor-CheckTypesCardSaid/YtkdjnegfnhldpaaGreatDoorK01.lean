/- Part 01. -/
import Derived.Test.YtkdjnegfnhldpaaGreatDoorRows
import Derived.Deep.RegionHeld3
import Derived.Lib.Hide
import Derived.Laws.Tables
import Derived.Deep.WholeRow
import Derived.Deep.MidRow
import Derived.WalkKit
import Derived.WalkSpells
import Derived.WalkLawsBesides
import Derived.Lib.Bytealg
import Derived.BigQuiet
import Derived.Laws.IdiomStrings
import GoSem.Op.String
import Derived.Lib.Strings
import Derived.Below
import Derived.CallsIn
import Derived.ChangeArms
import Derived.Deep.Quiet
import Derived.Deep.RegionHeld
import Derived.IntWalk
import Derived.Laws.AppendOwn
import Derived.Laws.Rows
import Derived.Laws.Sem
import Derived.Laws.World
import Derived.Lib.Builder
import Derived.Orders
import Derived.OrdersHeld
import Derived.OwnWalk
import Derived.RangeFuncOwn
import Derived.Tactics
import Derived.WalkSmall
set_option linter.unusedVariables false
set_option maxRecDepth 100000
set_option linter.unusedSimpArgs false
set_option maxHeartbeats 40000000
set_option autoImplicit true
set_option relaxedAutoImplicit true
namespace Go.Proofs.YtkdjnegfnhldpaaGreatDoor
open Go.Proofs.Tryz Go.RowKit
abbrev AA:=@RowKit.Below.refl
abbrev AB:=@Nat.le_refl
abbrev Cn:=@wpAnyH_take
abbrev Ct:=@yieldsIf_load_mid
abbrev Ch:=@wp_region_held_drew
abbrev A2:=@wpAnyH_ready
abbrev AY:=@AllReadyH.cons
abbrev Az:=@AllReadyH.nil
abbrev AJ:=@if_pos
abbrev Ap:=@wpList_store_row
abbrev AG:=@heap_alloc_new
abbrev Av:=@World.setRow_alloc_new
abbrev DV:=@wp_store_row
abbrev Ag:=@bodyPost_ret
abbrev FR:=@Nat.lt_or_ge
abbrev E6:=@Array.getElem?_eq_none
abbrev Dm:=@List.take_succ_eq_append_getElem
abbrev Dp:=@List.any_eq_true
abbrev Be:=@List.getElem_mem
abbrev El:=@List.takeWhile_cons
abbrev Cj:=@List.take_succ_cons
abbrev FE:=@List.all_cons
abbrev AK:=@Bool.and_eq_true
abbrev BA:=@List.length_eq_zero_iff
abbrev A3:=@beq_iff_eq
abbrev ER:=@Bool.false_or
abbrev Db:=@BEq.comm
abbrev BU:=@List.take_of_length_le
abbrev Bz:=@Bool.true_and
abbrev EV:=@Nat.add_assoc
abbrev AC:=@if_neg
abbrev E4:=@below_drewN
abbrev Ak:=@Nat.lt_of_lt_of_le
abbrev Ei:=@List.getElem?_take
abbrev BJ:=@List.getElem?_eq_some_iff
abbrev AI:=@List.getElem?_eq_getElem
abbrev AE:=@List.mem_of_getElem?
abbrev Br:=@List.flatMap_cons
abbrev BW:=@List.getElem?_append_left
abbrev Ds:=@List.getElem?_cons_succ
abbrev Bp:=@List.getElem?_append_right
abbrev E7:=@Nat.add_mul
abbrev As:=@List.length_append
abbrev Aq:=@List.length_cons
abbrev AO:=@Array.getElem?_eq_some_iff
abbrev Bj:=@Array.getElem?_toList
abbrev BP:=@Nat.zero_add
abbrev BI:=@List.mem_map
abbrev A7:=@List.getElem?_map
abbrev AX:=@List.getD_eq_getElem?_getD
abbrev CN:=@Lib.toList_data
abbrev AW:=@beq_eq_false_iff_ne
abbrev Bu:=@Bool.eq_iff_iff
abbrev Ai:=@decide_eq_true_eq
abbrev D1:=@List.all_eq_not_any_not
abbrev Cs:=@Bool.or_eq_true
abbrev A5:=@Bool.or_eq_false_iff
abbrev EK:=@Bool.and_eq_false_iff
abbrev BE:=@decide_eq_false_iff_not
abbrev BL:=@List.mem_cons_self
abbrev Al:=@List.not_mem_nil
abbrev Bv:=@List.pairwise_cons
abbrev AS:=@List.mem_cons
abbrev Cu:=@List.mem_cons_of_mem
abbrev CK:=@List.take_zero
abbrev AM:=@Nat.le_trans
abbrev AP:=@RowKit.Below.heap_alloc
abbrev ET:=@info_parts
abbrev Ci:=@List.flatMap_append
abbrev Aa:=@World.ownsRow.lt
abbrev BN:=@or_false
abbrev Cd:=@World.grownBy.refl
abbrev Ea:=@Nat.div_lt_of_lt_mul
abbrev DL:=@Nat.div_add_mod'
abbrev Dr:=@List.mem_flatMap
abbrev AV:=@List.map_cons
abbrev A0:=@List.sum_cons
abbrev Bd:=@Nat.add_zero
abbrev CS:=@List.map_map
abbrev Bf:=@List.map_congr_left
abbrev Ba:=@List.length_map
abbrev CD:=@List.all_map
abbrev BQ:=@List.getElem?_take_of_lt
abbrev Ex:=@Bool.false_eq_true
abbrev DA:=@List.ext_getElem?
abbrev CC:=@List.getElem?_take_eq_none
abbrev Bm:=@List.getElem?_eq_none
abbrev C5:=@Array.getElem?_modify
abbrev CL:=@List.size_toArray
abbrev Eg:=@Array.length_toList
abbrev Bw:=@getElem!_pos
abbrev Cw:=@Nat.mul_le_mul_right
abbrev Cp:=@Array.getElem?_setIfInBounds
abbrev EU:=@List.length_take
abbrev BY:=@List.take_append_drop
abbrev CQ:=@List.length_set
abbrev Ek:=@List.range_succ
abbrev Ah:=@List.map_append
abbrev De:=@List.replicate_succ'
abbrev Dt:=@List.flatten_append
abbrev BS:=@List.mem_flatten
abbrev Ac:=@List.mem_append
abbrev AQ:=@List.mem_singleton
abbrev B6:=@List.append_nil
abbrev BO:=@Bool.not_eq_true'
abbrev Ew:=@List.getElem?_cons_zero
abbrev Cr:=@Option.isSome_iff_exists
abbrev DB:=@List.filter_append
abbrev AZ:=@wpQuiet_step
abbrev CX:=@wpQuiet_nil
abbrev Bi:=@IntWalk.i64_in
abbrev EF:=@List.any_eq_false
abbrev EL:=@Eq.trans
abbrev Am:=@List.map_nil
abbrev CT:=@List.map_take
abbrev Bg:=@List.mem_filter
abbrev CY:=@decide_eq_false
abbrev D8:=@List.take_append_of_le_length
abbrev FL:=@List.take_length
abbrev Dd:=@List.length_filter_le
abbrev CV:=@decide_eq_true
abbrev Ao:=@Option.map_eq_some_iff
abbrev Fl:=@List.mem_range
abbrev CF:=@DataW.trod_int
abbrev EO:=@DataW.trod_struct
abbrev EE:=@Prod.mk.injEq
abbrev EM:=@DataW.trod_string
abbrev Aj:=@List.all_eq_true
abbrev Au:=@List.mem_map_of_mem
abbrev Cv:=@List.sum_append
abbrev C7:=@List.sum_nil
abbrev Cy:=@Bool.and_true
abbrev Do:=@Sem.run_bind
abbrev Fd:=@List.length_flatMap
abbrev BM:=@Nat.zero_le
abbrev DD:=@bne_iff_ne
abbrev ED:=@Bool.and_false
abbrev Fk:=@Bool.false_and
abbrev D0:=@Array.eq_empty_of_size_eq_zero
abbrev AD:=@Lib.cell_of_heap
abbrev A8:=@Option.some.inj
abbrev AN:=@World.size_alloc
abbrev Fv:=@Bool.or_false
abbrev Ej:=@List.length_flatten
abbrev BK:=@List.cons_append
abbrev Co:=@Bool.false_ne_true
abbrev C4:=@World.grownBy_alloc
abbrev Bl:=@all_oneCell_toArray
abbrev CU:=@Nat.lt_irrefl
abbrev AL:=@setRow_heap
abbrev AR:=@setRow_other
abbrev Fp:=@List.mem_replicate
abbrev ES:=@callsIn_of_wp
abbrev Bc:=@List.length_nil
abbrev CG:=@Array.replicate_succ
abbrev CJ:=@Array.replicate_zero
abbrev Cg:=@List.push_toArray
abbrev CP:=@List.append_toArray
abbrev A6:=@List.nil_append
abbrev DC:=@bne_eq_false_iff_eq
abbrev D7:=@List.eq_nil_of_length_eq_zero
abbrev Dc:=@List.getElem?_of_mem
abbrev Ed:=@List.mem_of_find?_eq_some
abbrev Dq:=@List.flatMap_nil
abbrev A9:=@List.drop_eq_getElem_cons
abbrev FF:=@List.getElem?_reverse
abbrev Cc:=@KeepsOthers.setCell
abbrev Cf:=@List.append_assoc
abbrev Fc:=@List.find?_eq_none
abbrev Eh:=@World.cell?_of_block
abbrev E9:=@Int.toNat_natCast
abbrev Fb:=@Except.error.injEq
abbrev Ey:=@List.getElem?_set
abbrev FO:=@List.countP_le_length
abbrev CZ:=@List.mem_append_left
abbrev B4:=@setRow_size
abbrev Ev:=@Region.noSelect_spec
abbrev Di:=@And.intro
abbrev Ae:=@run_loadVar_row
abbrev Bn:=@Nat.le_add_right
theorem zA{α:Type _}(l:List α)(i:Nat)(a:α):l.toArray.setIfInBounds i a=(l.set i a).toArray:=List.setIfInBounds_toArray l i a
theorem zB{α:Type _}{x:α}{l:List α}{a:α}:(x::l).set 0 a=a::l:=rfl
theorem zC{α:Type _}{x:α}{l:List α}{n:Nat}{a:α}:(x::l).set (n+1) a=x::l.set n a:=rfl
def Hd(p:Prop):Prop:=p
theorem AF{p:Prop}(h:p):Hd p:=h
theorem Hd.out{p:Prop}(h:Hd p):p:=h
theorem Hd.o{p:Prop}(h:Hd p):p:=h
theorem bA{w:World}{o:Obj}:Below w.heap.size w (w.alloc o):=Below.alloc (AA _ _) (AB _) _
section
variable {P:Program} {ops:Array Oper} {Q:Exit->Act->World->Prop} {md:Region.Mode} {S:World->Prop} {v:Value} {fuel:Nat} {listed:Array Bool} {a a':Act} {w:World} {o:Op} {x:TypeId} {z:String} {u:Array Edge}
theorem tp(i d:Nat)(hh:wpAnyH P md ops Q S fuel (listed.setIfInBounds i true) a' w)(hi:ops[i]?=some ⟨some d,o,x,z,u,none⟩:=by exact rfl)(hw:Region.wanted ⟨some d,o,x,z,u,none⟩ (yielded ops a.tmps)=true:=by rfl)(hy:∀w,S w->(execOp a.eval ⟨some d,o,x,z,u,none⟩).run P w=.ok (.value v) w:=by intro w h;go_simp;try with_reducible rfl)(he:a.put (some d) v=a':=by simp only [Act.put,zA,zB,zC];rfl)(hs:Region.noSelect ops=true:=by kernel_rfl)(hf:Region.free md ops listed i=true:=by kernel_rfl)(hr:(Region.ready md ops listed).contains i=true:=by kernel_rfl)(hQ:∀c b w,Q (.panic c) (b.put (some d) v) w->Q (.panic c) b w:=by exact fun _ _ _ h=>h)(hS:S w:=by assumption):wpAnyH P md ops Q S (fuel+1) listed a w:=by subst he;exact Cn hi hs hf hr hQ (.inl ⟨hw,hy⟩) hS hh
theorem LZ(i d p:Nat)(t:Bool)(hh:wpAnyH P md ops Q S fuel (listed.setIfInBounds i true) a' w)(hi:ops[i]?=some ⟨some d,o,x,z,u,some (p,t)⟩:=by exact rfl)(hw:Region.wanted ⟨some d,o,x,z,u,some (p,t)⟩ (yielded ops a.tmps)=true:=by rfl)(hy:∀w,S w->(execOp a.eval ⟨some d,o,x,z,u,some (p,t)⟩).run P w=.ok (.value v) w:=by intro w h;go_simp;try with_reducible rfl)(he:a.put (some d) v=a':=by simp only [Act.put,zA,zB,zC];rfl)(hs:Region.noSelect ops=true:=by kernel_rfl)(hf:Region.free md ops listed i=true:=by kernel_rfl)(hr:(Region.ready md ops listed).contains i=true:=by kernel_rfl)(hQ:∀c b w,Q (.panic c) (b.put (some d) v) w->Q (.panic c) b w:=by exact fun _ _ _ h=>h)(hS:S w:=by assumption):wpAnyH P md ops Q S (fuel+1) listed a w:=by subst he;exact Cn hi hs hf hr hQ (.inl ⟨hw,hy⟩) hS hh
theorem J1(i d p:Nat)(t:Bool)(hh:wpAnyH P md ops Q S fuel (listed.setIfInBounds i true) a' w)(hi:ops[i]?=some ⟨some d,o,x,z,u,some (p,t)⟩:=by exact rfl)(hw:Region.wanted ⟨some d,o,x,z,u,some (p,t)⟩ (yielded ops a.tmps)=false:=by rfl)(he:a.put (some d) undef=a':=by simp only [Act.put,zA,zB,zC];rfl)(hs:Region.noSelect ops=true:=by kernel_rfl)(hf:Region.free md ops listed i=true:=by kernel_rfl)(hr:(Region.ready md ops listed).contains i=true:=by kernel_rfl)(hQ:∀c b w,Q (.panic c) (b.put (some d) undef) w->Q (.panic c) b w:=by exact fun _ _ _ h=>h)(hS:S w:=by assumption):wpAnyH P md ops Q S (fuel+1) listed a w:=by subst he;exact Cn hi hs hf hr hQ (.inr ⟨hw,rfl⟩) hS hh
theorem tm(i d:Nat)(cs:List Value)(T:TypeId)(b k:Nat)(hc:∀w,S w->w.rangeAt b k cs){D:TypeDesc}(hu:P.underlying T=some D)(hh:wpAnyH P md ops Q S fuel (listed.setIfInBounds i true) a' w)(hi:ops[i]?=some ⟨some d,o,x,z,u,none⟩:=by exact rfl)(hw:Region.wanted ⟨some d,o,x,z,u,none⟩ (yielded ops a.tmps)=true:=by rfl){X:Operand}(ho:(⟨some d,o,x,z,u,none⟩:Oper).op=.load T X:=by exact rfl)(hx:a.eval X=.pointer (some ⟨b,k,none⟩):=by exact rfl)(hd:D.isRow=true:=by rfl)(hl:(P.info? T).map (·.size)=some cs.length:=by kernel_rfl)(he:a.put (some d) (.agg cs.toArray)=a':=by simp only [Act.put,zA,zB,zC];rfl)(hs:Region.noSelect ops=true:=by kernel_rfl)(hf:Region.free md ops listed i=true:=by kernel_rfl)(hr:(Region.ready md ops listed).contains i=true:=by kernel_rfl)(hQ:∀c b w,Q (.panic c) (b.put (some d) (.agg cs.toArray)) w->Q (.panic c) b w:=by exact fun _ _ _ h=>h)(hS:S w:=by assumption):wpAnyH P md ops Q S (fuel+1) listed a w:=by subst he;exact Cn hi hs hf hr hQ (Ct hw T X ho b k hx cs D hc hu hd hl) hS hh
theorem tmH(i d p:Nat)(t:Bool)(cs:List Value)(T:TypeId)(b k:Nat)(hc:∀w,S w->w.rangeAt b k cs){D:TypeDesc}(hu:P.underlying T=some D)(hh:wpAnyH P md ops Q S fuel (listed.setIfInBounds i true) a' w)(hi:ops[i]?=some ⟨some d,o,x,z,u,some (p,t)⟩:=by exact rfl)(hw:Region.wanted ⟨some d,o,x,z,u,some (p,t)⟩ (yielded ops a.tmps)=true:=by rfl){X:Operand}(ho:(⟨some d,o,x,z,u,some (p,t)⟩:Oper).op=.load T X:=by exact rfl)(hx:a.eval X=.pointer (some ⟨b,k,none⟩):=by exact rfl)(hd:D.isRow=true:=by rfl)(hl:(P.info? T).map (·.size)=some cs.length:=by kernel_rfl)(he:a.put (some d) (.agg cs.toArray)=a':=by simp only [Act.put,zA,zB,zC];rfl)(hs:Region.noSelect ops=true:=by kernel_rfl)(hf:Region.free md ops listed i=true:=by kernel_rfl)(hr:(Region.ready md ops listed).contains i=true:=by kernel_rfl)(hQ:∀c b w,Q (.panic c) (b.put (some d) (.agg cs.toArray)) w->Q (.panic c) b w:=by exact fun _ _ _ h=>h)(hS:S w:=by assumption):wpAnyH P md ops Q S (fuel+1) listed a w:=by subst he;exact Cn hi hs hf hr hQ (Ct hw T X ho b k hx cs D hc hu hd hl) hS hh
theorem LV{cs:List Value}{T:TypeId}{b k:Nat}{D:TypeDesc}(i d:Nat)(hc:∀w,S w->w.rangeAt b k cs)(hu:P.underlying T=some D)(hh:wpAnyH P md ops Q S fuel (listed.setIfInBounds i true) a' w)(hi:ops[i]?=some ⟨some d,o,x,z,u,none⟩:=by exact rfl)(hw:Region.wanted ⟨some d,o,x,z,u,none⟩ (yielded ops a.tmps)=true:=by rfl){X:Operand}(ho:(⟨some d,o,x,z,u,none⟩:Oper).op=.load T X:=by exact rfl)(hx:a.eval X=.pointer (some ⟨b,k,none⟩):=by exact rfl)(hd:D.isRow=true:=by rfl)(hl:(P.info? T).map (·.size)=some cs.length:=by kernel_rfl)(he:a.put (some d) (.agg cs.toArray)=a':=by simp only [Act.put,zA,zB,zC];rfl)(hs:Region.noSelect ops=true:=by kernel_rfl)(hf:Region.free md ops listed i=true:=by kernel_rfl)(hr:(Region.ready md ops listed).contains i=true:=by kernel_rfl)(hQ:∀c b w,Q (.panic c) (b.put (some d) (.agg cs.toArray)) w->Q (.panic c) b w:=by exact fun _ _ _ h=>h)(hS:S w:=by assumption):wpAnyH P md ops Q S (fuel+1) listed a w:=by subst he;exact Cn hi hs hf hr hQ (Ct hw T X ho b k hx cs D hc hu hd hl) hS hh
theorem rg{id:Nat}(S:World->Prop)(hS:S w.drew)(h:S w.drew->wpAnyH P .any ops Q S ops.size (Array.replicate ops.size false) a w.drew)(hm:P.follows .mixedOrders=true:=by kernel_rfl):(Code.region id ops true).wp P Q a w:=Ch hm hS h
theorem dn(h:Q .normal a w)(hr:Region.ready md ops listed=[]:=by kernel_rfl):wpAnyH P md ops Q S fuel listed a w:=wpAnyH_done hr h fuel
theorem trG(i:Nat)(q:Oper)(h:∀K:Act->World->Prop,Shut (∀a w,S w->(S w->wpAnyH P md ops Q S fuel (listed.setIfInBounds i true) a w)->K a w)->if Region.wanted q (yielded ops a.tmps)=true then Oper.wp P q a w K Q else K (a.put q.dst undef) w)(hi:ops[i]?=some q:=by exact rfl)(hr:Region.ready md ops listed=[i]:=by kernel_rfl):wpAnyH P md ops Q S (fuel+1) listed a w:=A2 hr (by simp) (AY hi h Az)
theorem tr(i d:Nat)(h:∀K:Act->World->Prop,Shut (∀a w,S w->(S w->wpAnyH P md ops Q S fuel (listed.setIfInBounds i true) a w)->K a w)->if Region.wanted ⟨some d,o,x,z,u,none⟩ (yielded ops a.tmps)=true then Oper.wp P ⟨some d,o,x,z,u,none⟩ a w K Q else K (a.put (some d) undef) w)(hi:ops[i]?=some ⟨some d,o,x,z,u,none⟩:=by exact rfl)(hr:Region.ready md ops listed=[i]:=by kernel_rfl):wpAnyH P md ops Q S (fuel+1) listed a w:=A2 hr (by simp) (AY hi h Az)
theorem ZT(i d p:Nat)(t:Bool)(h:∀K:Act->World->Prop,Shut (∀a w,S w->(S w->wpAnyH P md ops Q S fuel (listed.setIfInBounds i true) a w)->K a w)->if Region.wanted ⟨some d,o,x,z,u,some (p,t)⟩ (yielded ops a.tmps)=true then Oper.wp P ⟨some d,o,x,z,u,some (p,t)⟩ a w K Q else K (a.put (some d) undef) w)(hi:ops[i]?=some ⟨some d,o,x,z,u,some (p,t)⟩:=by exact rfl)(hr:Region.ready md ops listed=[i]:=by kernel_rfl):wpAnyH P md ops Q S (fuel+1) listed a w:=trG i _ h hi hr
theorem Fo(i:Nat)(h:∀K:Act->World->Prop,Shut (∀a w,S w->(S w->wpAnyH P md ops Q S fuel (listed.setIfInBounds i true) a w)->K a w)->if Region.wanted ⟨none,o,x,z,u,none⟩ (yielded ops a.tmps)=true then Oper.wp P ⟨none,o,x,z,u,none⟩ a w K Q else K (a.put none undef) w)(hi:ops[i]?=some ⟨none,o,x,z,u,none⟩:=by exact rfl)(hr:Region.ready md ops listed=[i]:=by kernel_rfl):wpAnyH P md ops Q S (fuel+1) listed a w:=trG i _ h hi hr
theorem tn{K:Act->World->Prop}{l:Array Bool}(hK:Shut (∀a w,S w->(S w->wpAnyH P md ops Q S fuel l a w)->K a w))(hS:S w)(h:S w->wpAnyH P md ops Q S fuel l a' w)(he:a=a':=by first|(simp only [Act.put,zA,zB,zC];rfl)|rfl):K a w:=by subst he;exact hK.out _ _ hS h
end
section
variable {P:Program} {ops:Array Oper} {rest:List Oper} {o:Oper} {a:Act} {w W:World} {Q:Exit->Act->World->Prop} {g b k:Nat} {ty t:TypeId} {x y:Operand} {cs old:Array Value} {fr:Nat×Nat} {d:TypeDesc}
theorem lw(hg:w.heap[g]?=some (.cells cs t fr))(hu:P.underlying ty=some d)(h:wpList P ops Q rest (a.put o.dst (.agg cs)) w)(bM:o.guard=none:=by rfl)(ho:o.op=.load ty x:=by exact rfl)(hx:a.eval x=.pointer (some ⟨g,0,none⟩):=by exact rfl)(hd:(match d with|.struct _|.array _ _=>true|_=>false)=true:=by rfl)(hi:(P.info? ty).map (·.size)=some cs.size:=by kernel_rfl):wpList P ops Q (o::rest) a w:=wpList_load_row bM ty x ho g hx t cs fr d hg hu hd hi h
theorem lm(c:List Value)(hc:w.rangeAt b k c)(hu:P.underlying ty=some d)(h:wpList P ops Q rest (a.put o.dst (.agg c.toArray)) w)(bM:o.guard=none:=by rfl)(ho:o.op=.load ty x:=by exact rfl)(hx:a.eval x=.pointer (some ⟨b,k,none⟩):=by exact rfl)(hd:d.isRow=true:=by rfl)(hi:(P.info? ty).map (·.size)=some c.length:=by kernel_rfl):wpList P ops Q (o::rest) a w:=wpList_load_mid bM ty x ho b k hx c d hc hu hd hi h
theorem lmg(c:List Value)(hc:w.rangeAt b k c)(hu:P.underlying ty=some d)(h:wpList P ops Q rest (a.put o.dst (.agg c.toArray)) w)(bM:Region.wanted o (yielded ops a.tmps)=true:=by rfl)(ho:o.op=.load ty x:=by exact rfl)(hx:a.eval x=.pointer (some ⟨b,k,none⟩):=by exact rfl)(hd:d.isRow=true:=by rfl)(hi:(P.info? ty).map (·.size)=some c.length:=by kernel_rfl):wpList P ops Q (o::rest) a w:=by rw [wpList,AJ bM];exact .inl (wp_load_mid ty x ho b k hx c d hc hu hd hi h)
theorem sw(c:Array Value)(hg:w.heap[g]?=some (.cells old t (0,0)))(h:wpList P ops Q rest (a.put o.dst undef) (w.setRow g c))(bM:o.guard=none:=by rfl)(ho:o.op=.store ty x y:=by exact rfl)(hx:a.eval x=.pointer (some ⟨g,0,none⟩):=by exact rfl)(hy:a.eval y=.agg c:=by exact rfl)(hi:(P.info? ty).map (·.size)=some c.size:=by kernel_rfl)(hold:old.size=c.size:=by exact rfl)(h1:c.all (·.oneCell')=true:=by simp [Value.oneCell']):wpList P ops Q (o::rest) a w:=Ap bM ty x y ho g c hx hy t old hg hi hold h1 h
theorem sn(c:Array Value)(h:wpList P ops Q rest (a.put o.dst undef) (W.alloc (.cells c t)))(bM:o.guard=none:=by rfl)(ho:o.op=.store ty x y:=by exact rfl)(hx:a.eval x=.pointer (some ⟨g,0,none⟩):=by exact rfl)(hy:a.eval y=.agg c:=by exact rfl)(hg:W.heap.size=g:=by simp)(hi:(P.info? ty).map (·.size)=some c.size:=by kernel_rfl)(hold:old.size=c.size:=by exact rfl)(h1:c.all (·.oneCell')=true:=by simp [Value.oneCell']):wpList P ops Q (o::rest) a (W.alloc (.cells old t)):=by subst hg;refine Ap bM ty x y ho W.heap.size c hx hy t old (AG W _) hi hold h1 ?_;rw [Av];exact h
theorem K7{c:Array Value}(hg:w.heap[g]?=some (.cells old t (0,0)))(h:wpList P ops Q rest (a.put o.dst undef) (w.setRow g c))(bM:o.guard=none:=by rfl)(ho:o.op=.store ty x y:=by exact rfl)(hx:a.eval x=.pointer (some ⟨g,0,none⟩):=by exact rfl)(hy:a.eval y=.agg c:=by exact rfl)(hi:(P.info? ty).map (·.size)=some c.size:=by kernel_rfl)(hold:old.size=c.size:=by exact rfl)(h1:c.all (·.oneCell')=true:=by simp [Value.oneCell']):wpList P ops Q (o::rest) a w:=Ap bM ty x y ho g c hx hy t old hg hi hold h1 h
theorem VD{c:List Value}(hc:w.rangeAt b k c)(hu:P.underlying ty=some d)(h:wpList P ops Q rest (a.put o.dst (.agg c.toArray)) w)(bM:Region.wanted o (yielded ops a.tmps)=true:=by rfl)(ho:o.op=.load ty x:=by exact rfl)(hx:a.eval x=.pointer (some ⟨b,k,none⟩):=by exact rfl)(hd:d.isRow=true:=by rfl)(hi:(P.info? ty).map (·.size)=some c.length:=by kernel_rfl):wpList P ops Q (o::rest) a w:=lmg c hc hu h bM ho hx hd hi
theorem UC{m:Nat}{c:Array Value}(ht:w.there b k m)(h:wpList P ops Q rest (a.put o.dst undef) (w.setCells b k c.toList))(bM:o.guard=none:=by rfl)(ho:o.op=.store ty x y:=by exact rfl)(hx:a.eval x=.pointer (some ⟨b,k,none⟩):=by exact rfl)(hy:a.eval y=.agg c:=by exact rfl)(hm:c.size=m:=by exact rfl)(hi:(P.info? ty).map (·.size)=some c.size:=by kernel_rfl)(h1:c.all (·.oneCell')=true:=by simp [Value.oneCell']):wpList P ops Q (o::rest) a w:=wpList_store_mid bM ty x y ho b k c hx hy (hm▸ht) hi h1 h
theorem Iv{c:Array Value}{K:Act->World->Prop}{E:Prop}(hg:w.heap[g]?=some (.cells old t (0,0)))(h:K (a.put o.dst undef) (w.setRow g c))(bM:Region.wanted o (yielded ops a.tmps)=true:=by rfl)(ho:o.op=.store ty x y:=by exact rfl)(hx:a.eval x=.pointer (some ⟨g,0,none⟩):=by exact rfl)(hy:a.eval y=.agg c:=by exact rfl)(hi:(P.info? ty).map (·.size)=some c.size:=by kernel_rfl)(hold:old.size=c.size:=by exact rfl)(h1:c.all (·.oneCell')=true:=by simp [Value.oneCell']):if Region.wanted o (yielded ops a.tmps)=true then Oper.wp P o a w K Q else E:=by rw [AJ bM];exact DV ty x y ho g c hx hy t old hg hi hold h1 h
theorem gm_{m:Nat}{c:Array Value}{K:Act->World->Prop}{E:Prop}(ht:w.there b k m)(h:K (a.put o.dst undef) (w.setCells b k c.toList))(bM:Region.wanted o (yielded ops a.tmps)=true:=by rfl)(ho:o.op=.store ty x y:=by exact rfl)(hx:a.eval x=.pointer (some ⟨b,k,none⟩):=by exact rfl)(hy:a.eval y=.agg c:=by exact rfl)(hm:c.size=m:=by exact rfl)(hi:(P.info? ty).map (·.size)=some c.size:=by kernel_rfl)(h1:c.all (·.oneCell')=true:=by simp [Value.oneCell']):if Region.wanted o (yielded ops a.tmps)=true then Oper.wp P o a w K Q else E:=by rw [AJ bM];exact wp_store_mid ty x y ho b k c hx hy (hm▸ht) hi h1 h
theorem br{fn:Func}{R:Ending->World->Prop}{p:Tmp}(hg:w.heap[g]?=some (.cells cs t fr))(hu:P.underlying ty=some d)(hR:R (.returned (.agg cs)) w)(h:fn.results=#[.cell p ty]:=by exact rfl)(hp:a.tmps.getD p undef=.pointer (some ⟨g,0,none⟩):=by exact rfl)(hd:(match d with|.struct _|.array _ _=>true|_=>false)=true:=by rfl)(hi:(P.info? ty).map (·.size)=some cs.size:=by kernel_rfl)(xB:a.defers=[]:=by exact rfl):bodyPost P fn R .ret a w:=Ag (results_cell_row h _ _ g t cs fr d hp hg hu hd hi) xB hR
end
theorem bt{w w1 w2:World}(h:Hd (Below w.heap.size w w1))(hb:Below w1.heap.size w1 w2):Hd (Below w.heap.size w w2):=AF (h.out.trans (hb.mono h.out.size))
abbrev RB(w:World)(x:Value)(e:Ending)(w':World):Prop:=e=.returned x/\Below w.heap.size w w'
theorem kb{x k:Int}(h:x=k)(n:Int):(x==n)=(k==n):=by rw [h]
def Le(w:World)(p:Option Addr)(xs:List Value):Prop:=xs=[]\/∃b o,p=some ⟨b,o,none⟩/\∀i,i<xs.length->w.cell? ⟨b,o+i,none⟩=some (xs.getD i undef)
theorem D9{w:World}{a:Addr}{v:Value}(h:w.cell? a=some v):a.block<w.heap.size:=by
 rcases FR a.block w.heap.size with aG|ms
 ·exact aG
 ·unfold World.cell? at h;rw [E6 ms] at h;cases h
theorem Le.nil(w:World)(p:Option Addr):Le w p []:=.inl rfl
theorem Le.below(h:Le w p xs)(hb:Below w.heap.size w w'):Le w' p xs:=by
 rcases h with h|⟨b,o,hp,hc⟩
 ·exact .inl h
 ·exact .inr ⟨b,o,hp,fun i hi=>by rw [hb.cell (p:=⟨b,o+i,none⟩) (D9 (hc i hi))];exact hc i hi⟩
theorem Le.drewN(h:Le w p xs)(n:Nat):Le (w.drewN n) p xs:=h
theorem Le.drew(h:Le w p xs):Le w.drew p xs:=h
theorem Le.at(h:Le w p xs)(aM:0<xs.length):∃b o,p=some ⟨b,o,none⟩/\∀i,i<xs.length->w.cell? ⟨b,o+i,none⟩=some (xs.getD i undef):=by
 rcases h with h|h
 ·subst h;simp at aM
 ·exact h
def XR(l:List Int):List Value:=l.map (Value.int .u8)
theorem LE(l:List Int):(XR l).length=l.length:=by simp [XR]
theorem RM(l:List Int)(i:Nat)(h:i<l.length):(XR l).getD i undef=.int .u8 (l.getD i 0):=by simp [XR,List.getD,h]
def ZAN(l:List Int):List Value:=l.map (Value.int .i64)
theorem O2(l:List Int):(ZAN l).length=l.length:=by simp [ZAN]
theorem Yi(l:List Int)(i:Nat)(h:i<l.length):(ZAN l).getD i undef=.int .i64 (l.getD i 0):=by simp [ZAN,List.getD,h]
theorem Le.u8(h:Le w p (XR xs))(aM:0<xs.length):∃b o,p=some ⟨b,o,none⟩/\∀i,i<xs.length->w.cell? ⟨b,o+i,none⟩=some (.int .u8 (xs.getD i 0)):=by obtain⟨b,o,hp,hc⟩:=h.at (by rw [LE];exact aM);exact⟨b,o,hp,fun i hi=>by rw [hc i (by rw [LE];exact hi),RM _ _ hi]⟩
theorem Le.i64(h:Le w p (ZAN xs))(aM:0<xs.length):∃b o,p=some ⟨b,o,none⟩/\∀i,i<xs.length->w.cell? ⟨b,o+i,none⟩=some (.int .i64 (xs.getD i 0)):=by obtain⟨b,o,hp,hc⟩:=h.at (by rw [O2];exact aM);exact⟨b,o,hp,fun i hi=>by rw [hc i (by rw [O2];exact hi),Yi _ _ hi]⟩
theorem Bq(w:World)(cs:Array Value)(t:TypeId)(k:Nat)(fr:Nat×Nat:=(0,0)):(w.alloc (.cells cs t fr)).cell? ⟨w.heap.size,k,none⟩=cs[k]?:=by have h:=(MapKept.heap_alloc w (.cells cs t fr)).1;unfold World.cell?;simp only [h];rfl
theorem E0(h:a=b):Ending.returned (.int k a)=.returned (.int k b):=by rw [h]
theorem Af(h:a=b):Ending.returned (.bool a)=.returned (.bool b):=by rw [h]
theorem Lm{w:World}{o:Obj}{a:Addr}(h:a.block<w.heap.size):(w.alloc o).cell? a=w.cell? a:=((AA w.heap.size w).alloc (AB _) o).cell h
theorem Le.new(w:World)(xs:List Value)(t:TypeId)(fr:Nat×Nat:=(0,0)):Le (w.alloc (.cells xs.toArray t fr)) (some ⟨w.heap.size,0,none⟩) xs:=by refine .inr ⟨_,_,rfl,fun i hi=>?_⟩;rw [Bq w _ t _ fr];simp [List.getD,hi]
theorem Le.newAt(w:World)(xs:List Value)(t:TypeId)(fr:Nat×Nat)(b:Nat)(h:w.heap.size=b):Le (w.alloc (.cells xs.toArray t fr)) (some ⟨b,0,none⟩) xs:=by subst h;exact Le.new w xs t fr
theorem Le.alloc(h:Le w p xs)(o:Obj):Le (w.alloc o) p xs:=h.below bA
def QL(c:Int):Int:=
 if c=32\/c=9\/c=10 then 1 else if 48<=c/\c<=57 then 2 else if 97<=c/\c<=122 then 3 else if 65<=c/\c<=90 then 4
 else if c=40\/c=41\/c=44\/c=33\/c=58\/c=61\/c=62\/c=43\/c=45\/c=42\/c=60\/c=59 then 5 else 0
theorem MX(s:ByteArray)(c:Int)(w:World):Calls prog 269 #[.string s,.int .u8 c] w fun e w'=>e=.returned (.int .i64 (Lib.indexByte s.data.toList c.toNat.toUInt8))/\w=w':=by go_enter func269,ntmps269;go_wp2;rw [run_callFunc_extern func271 (by kernel_rfl) (by kernel_rfl) (by kernel_rfl) (e:=Extern.BytealgIndexByte.indexByte) (by kernel_rfl),Lib.run_indexByteString];simp only [Result.andThen];rw [Oper.upon_value];go_wp2;go_ret;exact⟨rfl,rfl⟩
theorem LU(s:ByteArray)(c:Int)(w:World):Calls prog 263 #[.string s,.int .u8 c] w fun e w'=>e=.returned (.int .i64 (Lib.indexByte s.data.toList c.toNat.toUInt8))/\w=w':=by go_enter func263,ntmps263;go_wp2_with (go_at_call 269;refine(MX _ _ _).mono ?_;rintro e w' ⟨rfl,rfl⟩);go_ret;exact⟨rfl,rfl⟩
def ZDd:List UInt8:=[40,41,44,33,58,61,62,43,45,42,60,59]
theorem YG(c:Int)(h0:0<=c)(h1:c<=255):(0<=Lib.indexByte [32,9,10] (UInt8.ofNat c.toNat))↔(c=32\/c=9\/c=10):=by
 have key:∀n:Fin 256,(0<=Lib.indexByte [32,9,10] (UInt8.ofNat n.val))↔((n.val:Int)=32\/(n.val:Int)=9\/(n.val:Int)=10):=by decide +kernel
 have:=key ⟨c.toNat,by omega⟩;have e:((c.toNat:Nat):Int)=c:=by omega
 simp only [e] at this;exact this
theorem ZBM(c:Int)(h0:0<=c)(h1:c<=255):(0<=Lib.indexByte [40,41,44,33,58,61,62,43,45,42,60,59] (UInt8.ofNat c.toNat))↔(c=40\/c=41\/c=44\/c=33\/c=58\/c=61\/c=62\/c=43\/c=45\/c=42\/c=60\/c=59):=by
 have key:∀n:Fin 256,(0<=Lib.indexByte ZDd (UInt8.ofNat n.val))↔((n.val:Int)=40\/(n.val:Int)=41\/(n.val:Int)=44\/(n.val:Int)=33\/(n.val:Int)=58\/(n.val:Int)=61\/(n.val:Int)=62\/(n.val:Int)=43\/(n.val:Int)=45\/(n.val:Int)=42\/(n.val:Int)=60\/(n.val:Int)=59):=by decide +kernel
 have:=key ⟨c.toNat,by omega⟩;have e:((c.toNat:Nat):Int)=c:=by omega
 simp only [e] at this;exact this
theorem OK(c:Int)(h0:0<=c)(h1:c<=255)(w:World):Calls prog 248 #[.int .u8 c] w fun e w'=>e=.returned (.int .u8 (QL c))/\w=w':=by
 have hb:=AF (YG c h0 h1);have hs:=AF (ZBM c h0 h1);go_enter func248,ntmps248;go_wp2_with (go_at_call 263;refine(LU _ _ _).mono ?_;rintro e w' ⟨rfl,rfl⟩)
 all_goals
  go_ret
  refine⟨E0 ?_,rfl⟩
  have hb:=hb.out
  have hs:=hs.out
  unfold QL
  repeat' split
  all_goals omega
theorem Mc(l:List Int)(p:Int->Bool)(k:Nat)(h:k<l.length):(l.take (k+1)).any p=((l.take k).any p||p (l[k]?.getD 0)):=by rw [Dm h,List.any_append];simp [h]
theorem Xd(l:List Int)(p:Int->Bool)(k:Nat)(h:k<l.length)(hp:p (l[k]?.getD 0)=true):l.any p=true:=by rw [Dp];exact⟨l[k],Be h,by simpa [h] using hp⟩
theorem Re(l:List Int)(p:Int->Bool)(k:Nat)(h:k<l.length):(l.take (k+1)).all p=((l.take k).all p&&p (l[k]?.getD 0)):=by rw [Dm h,List.all_append];simp [h]
theorem ZDP{l:List Int}{p:Int->Bool}{k:Nat}(h:k<l.length)(ha:(l.take k).all p=true)(hp:p (l[k]?.getD 0)=false):(l.takeWhile p).length=k:=by
 induction l generalizing k with
 |nil=>simp at h
 |cons x r ih=>
  cases k with
  |zero=>simp at hp;simp [El,hp]
  |succ k=>
   simp only [Cj,FE,AK] at ha;have:=ih (k:=k) (by simpa using h) ha.2 (by simpa using hp);simp [El,ha.1,this]
theorem ZBc{l:List Int}{p:Int->Bool}(ha:l.all p=true):(l.takeWhile p).length=l.length:=by
 induction l with
 |nil=>rfl
 |cons x r ih=>
  simp only [FE,AK] at ha;simp [El,ha.1,ih ha.2]
theorem Wd{l:List Int}{a b:Int}(h:∀x∈l,a<=x/\x<=b)(k:Nat)(hk:k<l.length):a<=l[k]?.getD 0/\l[k]?.getD 0<=b:=by have:=h l[k] (Be hk);simpa [hk] using this
theorem ZBy(p:Option Addr)(n cap:Nat)(c:Int)(xs:List Int)(w:World)(hn:xs.length=n)(hm:n<=9223372036854775807)(hr:Le w p (XR xs)):Calls prog 257 #[.slice p n cap,.int .u8 c] w fun e w'=>(∃r:Int,e=.returned (.int .i64 r)/\(xs.any (·==c)=decide (0<=r)))/\w=w':=by
 by_cases h0:n=0
 ·subst h0;obtain rfl:xs=[]:=BA.1 hn;clear hn hr;go_enter func257,ntmps257;go_wp2;go_loop [5,8] (fun u i=>i=.int .i64 0) (fun _ i=>0)
  case atStart=>rfl
  case round=>subst hrel;go_wp2;go_ret;exact⟨⟨_,rfl,by simp⟩,rfl⟩
 ·obtain⟨b,o,rfl,hc⟩:=hr.u8 (by omega);have HN:=AF hn;have HC:=AF hc;clear hn hc hr;go_enter func257,ntmps257;go_wp2;go_loop [5,8] (fun u i=>∃k:Nat,k<=n/\i=.int .i64 k/\(xs.take k).any (·==c)=false) (fun _ i=>n-(intOf i).toNat)
  case atStart=>exact⟨0,by omega,rfl,by simp⟩
  case round=>
   obtain⟨k,hk,rfl,an⟩:=hrel;have ax:=AF an;clear an;by_cases aG:k<n
   ·have bv:=HC.o k (by rw [HN.o];exact aG);have hs:=AF (Mc xs (·==c) k (by rw [HN.o];exact aG));go_wp2
    ·go_ret;have h:=Xd xs (·==c) k (by rw [HN.o];exact aG) (by rw [A3];exact(A3.1 (by assumption)).symm);exact⟨⟨k,rfl,by rw [h];simp⟩,rfl⟩
    ·go_round
     case rel=>exact⟨k+1,by omega,by go_num,by rw [hs.out,ax.o,ER,Db];assumption⟩
     case measure=>simp [intOf];omega
   ·go_wp2;go_ret;have:k=n:=by omega
    subst this;have:=ax.o;rw [BU (by rw [HN.o];omega)] at this;exact⟨⟨_,rfl,by rw [this];simp⟩,rfl⟩
theorem TO(p:Option Addr)(n cap:Nat)(c:Int)(xs:List Int)(w:World)(hn:xs.length=n)(hm:n<=9223372036854775807)(hr:Le w p (XR xs)):Calls prog 234 #[.slice p n cap,.int .u8 c] w fun e w'=>e=.returned (.bool (xs.any (·==c)))/\w'=w:=by have HR:=AF hr;have HN:=AF hn;clear hr hn;go_enter func234,ntmps234;go_wp2_with fail;refine(ZBy p n cap c xs w HN.o hm HR.o).mono ?_;rintro e w' ⟨⟨r,rfl,hr⟩,rfl⟩;have Hr:=AF hr;clear hr;go_wp2;go_ret;exact⟨Af Hr.o.symm,rfl⟩
theorem Ui(c:Int)(h0:0<=c)(h1:c<=255)(w:World):Calls prog 248 #[.int .u8 c] w fun e w'=>e=.returned (.int .u8 (QL c))/\w'=w:=(OK c h0 h1 w).mono fun _ _ h=>⟨h.1,h.2.symm⟩
def Jk(cl:List Int)(c:Int):Bool:=cl.any (·==QL c)
theorem Sq(c:Int)(h0:0<=c)(h1:c<=255)(a:Addr)(p:Option Addr)(n cap:Nat)(xs:List Int)(w:World)(hn:xs.length=n)(hm:n<=9223372036854775807)(ac:w.cell? a=some (.slice p n cap))(hr:Le w p (XR xs)):Calls prog 265 #[.int .u8 c,.pointer (some a)] w fun e w'=>e=.returned (.bool (!Jk xs c))/\∃m,w'=w.drewN m:=by have HR:=AF hr;have HN:=AF hn;clear hr hn;go_enter func265,ntmps265;go_wp2_with fail;go_quiet ((first|(go_at_call 248;exact Calls.quiet_of_same (Ui c h0 h1 _))|(go_at_call 234;exact Calls.quiet_of_same (TO p n cap (QL c) xs _ HN.o hm (HR.o.drewN _)))));go_wp2;go_ret;exact⟨rfl,_,rfl⟩
theorem Rk(a:Addr)(q:Option Addr)(m mc:Nat)(cl:List Int)(p:Option Addr)(n cap:Nat)(xs:List Int)(w:World)(hn:xs.length=n)(hm:n<=9223372036854775807)(ld:∀x∈xs,0<=x/\x<=255)(hr:Le w p (XR xs))(ic:cl.length=m)(mw:m<=9223372036854775807)(ac:w.cell? a=some (.slice q m mc))(dw:Le w q (XR cl))(h0:0<n) :
 Calls prog 264 #[.slice p n cap,.func (.func 265) #[] #[.pointer (some a)]] w fun e w'=>(∃r:Int,e=.returned (.int .i64 r)/\((r<0/\(xs.takeWhile (Jk cl)).length=n)\/r=((xs.takeWhile (Jk cl)).length:Int)))/\∃j,w'=w.drewN j:=by
 obtain⟨b,o,rfl,hc⟩:=hr.u8 (by omega)
 have HN:=AF hn
 have HC:=AF hc
 have HM:=AF ic
 have HL:=AF dw
 have HX:=AF ld
 clear hn hc hr ic dw ld
 go_enter func264,ntmps264
 go_wp2
 go_loopw [5,8] (fun _ i wr=>∃k:Nat,k<=n/\i=.int .i64 k/\(xs.take k).all (Jk cl)=true/\∃j,wr=w.drewN j) (fun _ i _=>n-(intOf i).toNat)
 case atStart=>exact⟨0,by omega,rfl,by simp,0,rfl⟩
 case round=>
  obtain⟨k,hk,rfl,an,j,rfl⟩:=hrel;have ax:=AF an;clear an;by_cases aG:k<n
  ·have bv:=HC.o k (by rw [HN.o];exact aG);have hs:=AF (Re xs (Jk cl) k (by rw [HN.o];exact aG));obtain⟨r0,r1⟩:=Wd HX.o k (by rw [HN.o];exact aG);by_cases dG:Jk cl (xs[k]?.getD 0)=true
   ·go_wp2_with (go_at_call 265;refine(Sq _ r0 r1 a q m mc cl _ HM.o mw (by exact ac) (by exact HL.o.drewN _)).mono ?_;rintro e w' ⟨rfl,m2,rfl⟩);go_roundw
    case rel=>exact⟨k+1,by omega,by go_num,by rw [hs.out,ax.o,Bz];exact dG,j+m2,rfl⟩
    case measure=>simp [intOf];omega
   ·have sS:Jk cl (xs[k]?.getD 0)=false:=by simpa using dG
    clear dG;go_wp2_with (go_at_call 265;refine(Sq _ r0 r1 a q m mc cl _ HM.o mw (by exact ac) (by exact HL.o.drewN _)).mono ?_;rintro e w' ⟨rfl,m2,rfl⟩);go_ret;refine⟨⟨(k:Int),rfl,.inr ?_⟩,j+m2,rfl⟩;rw [ZDP (by rw [HN.o];exact aG) ax.o sS]
  ·have:k=n:=by omega
   subst this;go_wp2;go_ret;have:=ax.o;rw [BU (by rw [HN.o];omega)] at this;exact⟨⟨-1,rfl,.inl ⟨by omega,by rw [ZBc this];exact HN.o⟩⟩,j,rfl⟩
def K6(xs cl:List Int)(a:Int):Nat:=if a<0 then 0 else((xs.drop a.toNat).takeWhile (Jk cl)).length
theorem XP(h:a<0\/(xs.length:Int)<=a):K6 xs cl a=0:=by
 unfold K6;split
 ·rfl
 ·rw [List.drop_of_length_le (by omega)];rfl
theorem ZAx{w:World}{b o:Nat}{xs:List Int}{n:Nat}(hn:xs.length=n)(hc:∀i,i<xs.length->w.cell? ⟨b,o+i,none⟩=some (.int .u8 (xs.getD i 0)))(k:Nat):Le w (some ⟨b,o+k,none⟩) (XR (xs.drop k)):=by refine .inr ⟨b,o+k,rfl,fun i hi=>?_⟩;rw [LE,List.length_drop] at hi;rw [EV,hc (k+i) (by omega),RM _ _ (by rw [List.length_drop];exact hi)];simp [List.getD]
theorem ZBS(p:Option Addr)(n cap:Nat)(a:Int)(q:Option Addr)(m mc:Nat)(xs cl:List Int)(w:World)(hn:xs.length=n)(hm:n<=9223372036854775807)(eV:n<=cap)(ld:∀x∈xs,0<=x/\x<=255)(hr:Le w p (XR xs))(ic:cl.length=m)(mw:m<=9223372036854775807)(dw:Le w q (XR cl)) :
 Calls prog 249 #[.slice p n cap,.int .i64 a,.slice q m mc] w (RB w (.int .i64 (K6 xs cl a))):=by
 by_cases pZ:a<0\/(n:Int)<=a
 ·have hz:=AF (XP (xs:=xs) (cl:=cl) (a:=a) (by omega));clear hr dw hn ic;rcases pZ with ho|ho
  ·go_enter func249,ntmps249;go_wp2;go_ret;exact⟨E0 (by rw [hz.out];rfl),bA⟩
  ·have ha:0<=a:=by omega
   go_enter func249,ntmps249;go_wp2;go_ret;exact⟨E0 (by rw [hz.out];rfl),bA⟩
 ·obtain⟨k,rfl⟩:=Int.eq_ofNat_of_zero_le (show 0<=a by omega);have hk:k<n:=by omega
  clear pZ;obtain⟨b,o,rfl,hc⟩:=hr.u8 (by omega);have hd:=ZAx hn hc k;have mm:(xs.drop k).length=n-k:=by rw [List.length_drop,hn]
  have HD:=AF (hd.below ((AA _ w).alloc (AB _) (.cells #[.slice q m mc] 166)));have HC:=AF (dw.below ((AA _ w).alloc (AB _) (.cells #[.slice q m mc] 166)));have ve:=AF mm;have HM:=AF ic;have HX:Hd (∀x∈xs.drop k,0<=x/\x<=255):=fun x hx=>ld x (List.mem_of_mem_drop hx);have HN:=AF hn;have HS:Hd (K6 xs cl (k:Int)=((xs.drop k).takeWhile (Jk cl)).length):=by show K6 xs cl (k:Int)=_;unfold K6;rw [AC (by omega)];simp
  clear hd mm dw ic hc hr ld hn;go_enter func249,ntmps249;go_wp2_with fail;refine(Rk ⟨w.heap.size,0,none⟩ q m mc cl (some ⟨b,o+k,none⟩) (n-k) _ (xs.drop k) _ ve.o (by omega) HX.o HD.o HM.o mw (by rw [Bq];rfl) HC.o (by omega)).mono ?_;rintro e w' ⟨⟨r,rfl,hr⟩,j,rfl⟩;have hB:Hd (Below w.heap.size w ((w.alloc (.cells #[.slice q m mc] 166)).drewN j)):=E4 ((AA _ w).alloc (AB _) _) j;rcases hr with⟨pV,aJ⟩|hr
  ·have HLen:=AF aJ;clear aJ;go_wp2;go_ret;exact⟨E0 (by rw [HS.o,HLen.o];omega),hB.out⟩
  ·have fl:0<=r:=by omega
   have HR:=AF hr;clear hr;go_wp2;go_ret;exact⟨E0 (by rw [HS.o,HR.o]),hB.out⟩
def sgn:List Int:=[40,41,44,33,58,61,62,43,45,42,60,59]
def RA:Array Value:=#[.int .u8 40,.int .u8 41,.int .u8 44,.int .u8 33,.int .u8 58,.int .u8 61,.int .u8 62,.int .u8 43,.int .u8 45,.int .u8 42,.int .u8 60,.int .u8 59]
theorem ZBK(w:World)(t:TypeId)(k:Nat)(h:k<12):(w.alloc (.cells RA t)).cell? ⟨w.heap.size,k,none⟩=some (.int .u8 (sgn[k]?.getD 0)):=by
 rw [Bq]
 have key:∀k:Fin 12,RA[k.val]?=some (Value.int .u8 (sgn[k.val]?.getD 0)):=by
  intro k;match k with
  |0|1|2|3|4|5|6|7|8|9|10|11=>rfl
 exact key ⟨k,h⟩
theorem Q1(c:Int)(h0:0<=c)(oV:c<=255)(h1:¬c=32)(h2:¬c=9)(h3:¬c=10)(hc:c<48\/(57<c/\c<65)\/(90<c/\c<97)\/122<c)(w:World):Calls prog 110 #[.int .u8 c] w (RB w (.int .u8 (QL c))):=by
 have c1:(c==32)=false:=by simpa using h1
 have c2:(c==9)=false:=by simpa using h2
 have c3:(c==10)=false:=by simpa using h3
 have tC:Hd ((sgn.any (·==c))=true->QL c=5):=by
  intro h;simp [sgn] at h;unfold QL;repeat' split
  all_goals omega
 have an:Hd ((sgn.any (·==c))=false->QL c=0):=by
  intro h;simp [sgn] at h;unfold QL;repeat' split
  all_goals omega
 clear h1 h2 h3;rcases hc with hc|⟨hc,ga⟩|⟨hc,ga⟩|hc
 all_goals
  go_enter func110,ntmps110
  go_wp2
  go_loop [4,36] (fun _ i=>∃k:Nat,k<=12/\i=.int .i64 k/\(sgn.take k).any (·==c)=false) (fun _ i=>12-(intOf i).toNat)
  case atStart=>exact⟨0,by omega,rfl,by simp⟩
  case round=>
   obtain⟨k,hk,rfl,hn⟩:=hrel;have HN:=AF hn;clear hn;by_cases aG:k<12
   ·have bv:=ZBK w 5 k aG;have hs:=AF (Mc sgn (·==c) k aG);unfold RA at bv;go_wp2
    ·go_ret;exact⟨E0 (tC.out (Xd sgn (·==c) k aG (by assumption))).symm,bA⟩
    ·go_round
     case rel=>exact⟨k+1,by omega,by go_num,by rw [hs.out,HN.o,ER];assumption⟩
     case measure=>simp [intOf];omega
   ·have pI:k=12:=by omega
    subst pI;go_wp2;go_ret;exact⟨E0 (an.out HN.o).symm,bA⟩
theorem KS(c:Int)(h0:0<=c)(oV:c<=255)(w:World):Calls prog 110 #[.int .u8 c] w (RB w (.int .u8 (QL c))):=by
 by_cases hs:¬c=32/\¬c=9/\¬c=10/\(c<48\/(57<c/\c<65)\/(90<c/\c<97)\/122<c)
 ·exact Q1 c h0 oV hs.1 hs.2.1 hs.2.2.1 hs.2.2.2 w
 ·rcases (by omega:c=32\/c=9\/c=10\/(48<=c/\c<=57)\/(97<=c/\c<=122)\/(65<=c/\c<=90)) with rfl|rfl|rfl|⟨ha,hb⟩|⟨ha,hb⟩|⟨ha,hb⟩
  all_goals
   clear hs
   try have c1:(c==32)=false:=by simp;omega
   try have c2:(c==9)=false:=by simp;omega
   try have c3:(c==10)=false:=by simp;omega
   go_enter func110,ntmps110
   go_wp2
   go_ret
   refine⟨E0 ?_,AA _ _⟩
   unfold QL
   repeat' split
   all_goals omega
section
variable {α:Type}
def DK(enc:α->List Value)(k:Nat)(w:World)(p:Option Addr)(l:List α):Prop:=l=[]\/∃b o,p=some ⟨b,o,none⟩/\b<w.heap.size/\∀j x,l[j]?=some x->∀i v,(enc x)[i]?=some v->w.cell? ⟨b,o+j * k+i,none⟩=some v
theorem DK.nil(enc:α->List Value)(k:Nat)(w:World)(p:Option Addr):DK enc k w p []:=.inl rfl
theorem DK.below(h:DK enc k w p l)(hb:Below w.heap.size w w'):DK enc k w' p l:=by
 rcases h with h|⟨b,o,hp,aG,hc⟩
 ·exact .inl h
 ·exact .inr ⟨b,o,hp,Ak aG hb.size,fun j x hx i v hv=>by rw [hb.cell (p:=⟨b,o+j * k+i,none⟩) aG];exact hc j x hx i v hv⟩
theorem DK.alloc(h:DK enc k w p l)(o:Obj):DK enc k (w.alloc o) p l:=h.below bA
theorem DK.drewN(h:DK enc k w p l)(n:Nat):DK enc k (w.drewN n) p l:=h
theorem DK.at(h:DK enc k w p l)(aM:0<l.length):∃b o,p=some ⟨b,o,none⟩/\b<w.heap.size/\∀j x,l[j]?=some x->∀i v,(enc x)[i]?=some v->w.cell? ⟨b,o+j * k+i,none⟩=some v:=by
 rcases h with h|h
 ·subst h;simp at aM
 ·exact h
theorem DK.elem(h:DK enc k w p l)(hx:l[j]?=some x):∃b o,p=some ⟨b,o,none⟩/\b<w.heap.size/\∀i v,(enc x)[i]?=some v->w.cell? ⟨b,o+j * k+i,none⟩=some v:=by
 rcases h with h|⟨b,o,hp,hb,hc⟩
 ·subst h;simp at hx
 ·exact⟨b,o,hp,hb,fun i v hv=>hc j x hx i v hv⟩
theorem DK.take(h:DK enc k w p l)(n:Nat):DK enc k w p (l.take n):=by
 rcases h with h|⟨b,o,hp,hb,hc⟩
 ·subst h;exact .inl (by simp)
 ·refine .inr ⟨b,o,hp,hb,fun j x hx i v hv=>hc j x ?_ i v hv⟩;rw [Ei] at hx;split at hx
  ·exact hx
  ·cases hx
theorem DI{l:List α}{j:Nat}{x:α}(h:l[j]?=some x):j<l.length:=(BJ.1 h).1
theorem Bh{l:List α}{j:Nat}(h:j<l.length):∃x,l[j]?=some x:=⟨l[j],AI h⟩
theorem BG{l:List α}{j:Nat}{x:α}(h:l[j]?=some x):l.take (j+1)=l.take j++[x]:=by obtain⟨hj,rfl⟩:=BJ.1 h;exact Dm hj
theorem Bb{l:List α}{n:Nat}(h:l.length<=n):l.take n=l:=BU h
theorem J5{l:List α}{q:α->Bool}{j:Nat}{x:α}(h:l[j]?=some x)(hq:q x=true):l.any q=true:=by rw [Dp];exact⟨x,AE h,hq⟩
theorem J4{l:List α}{q:α->Bool}{j:Nat}{x:α}(h:l[j]?=some x)(hq:q x=false):l.all q=false:=by rw [List.all_eq_false];exact⟨x,AE h,by simp [hq]⟩
theorem FA{l:List α}{q:α->Bool}{j:Nat}{x:α}(h:l[j]?=some x):(l.take (j+1)).any q=((l.take j).any q||q x):=by rw [BG h,List.any_append];simp
theorem FU{l:List α}{q:α->Bool}{j:Nat}{x:α}(h:l[j]?=some x):(l.take (j+1)).all q=((l.take j).all q&&q x):=by rw [BG h,List.all_append];simp
theorem Gr{enc:α->List Value}{k:Nat}(hk:∀x,(enc x).length=k):∀(l:List α) (j:Nat) (x:α) (i:Nat),l[j]?=some x->i<k->(l.flatMap enc)[j * k+i]?=(enc x)[i]?
 |[],j,x,i,h,_=>by simp at h
 |y::l,0,x,i,h,hi=>by simp at h;subst h;rw [Br,BW (by rw [hk];omega)];simp
 |y::l,j+1,x,i,h,hi=>by simp only [Ds] at h;rw [Br,Bp (by rw [hk,E7];omega),hk];rw [show (j+1) * k+i-k=j * k+i from by rw [E7];omega];exact Gr hk l j x i h hi
theorem DO{enc:α->List Value}{k:Nat}(hk:∀x,(enc x).length=k)(l:List α):(l.flatMap enc).length=l.length * k:=by
 induction l with
 |nil=>simp
 |cons a l ih=>rw [Br,As,hk,ih,Aq,E7];omega
theorem Ja(b o i:Nat):(⟨b,o,none⟩:Addr).add i=⟨b,o+i,none⟩:=by unfold Addr.add;split<;>simp_all
theorem ZCJ{enc:α->List Value}{k:Nat}(hk:∀x,(enc x).length=k){w:World}{base e n:Nat}{v:Value}{l:List α}(h:w.ownsRow base e k v n (l.flatMap enc))(ao:0<k):∃p cap,v=.slice p n cap/\l.length=n/\n<=cap/\DK enc k w p l/\cap<=maxLen/\(p=none->n=0/\cap=0)/\(∀a,p=some a->base<=a.block/\a.off=0/\a.spot=none/\a.block<w.heap.size):=by
 have hl:l.length=n:=by have:=h.1;rw [DO hk] at this;exact Nat.eq_of_mul_eq_mul_right ao this
 rcases h.2 with⟨rfl,h0⟩|⟨g,cap,cur,rfl,hb,hg,lS,kT,aI,ix⟩
 ·subst h0;exact⟨none,0,rfl,hl,by omega,.inl (BA.1 hl),by simp [maxLen],(fun _=>⟨rfl,rfl⟩),(fun a ha=>by cases ha)⟩
 ·have aG:g<w.heap.size:=(AO.1 hg).1;refine⟨_,cap,rfl,hl,lS,.inr ⟨g,0,rfl,aG,fun j x hx i v hv=>?_⟩,kT,(fun e=>by cases e),(fun a ha=>by cases ha;exact⟨hb,rfl,rfl,aG⟩)⟩;have hi:i<k:=by rw [<-hk x];exact DI hv
  have hf:=Gr hk l j x i hx hi;have:=h.cells (g:=g) rfl (j * k+i) v (by rw [hf];exact hv);rw [Ja] at this;simpa [EV] using this
def Ib(s:ByteArray):List Value:=[.string s]
theorem Hh(s:ByteArray):(Ib s).length=1:=rfl
def DE(n:Int):List Value:=[.int .i64 n]
theorem DR(n:Int):(DE n).length=1:=rfl
theorem DK.str(h:DK Ib 1 w p l)(hx:l[j]?=some x):∃b o,p=some ⟨b,o,none⟩/\w.cell? ⟨b,o+j,none⟩=some (.string x):=by obtain⟨b,o,rfl,_,hc⟩:=h.elem hx;exact⟨b,o,rfl,by simpa using hc 0 _ rfl⟩
theorem DK.num(h:DK DE 1 w p l)(hx:l[j]?=some x):∃b o,p=some ⟨b,o,none⟩/\w.cell? ⟨b,o+j,none⟩=some (.int .i64 x):=by obtain⟨b,o,rfl,_,hc⟩:=h.elem hx;exact⟨b,o,rfl,by simpa using hc 0 _ rfl⟩
theorem DK.newAt(hk:∀x,(enc x).length=k)(w:World)(l:List α)(cs:Array Value)(am:cs.toList=l.flatMap enc)(t:TypeId)(fr:Nat×Nat)(b:Nat)(h:w.heap.size=b):DK enc k (w.alloc (.cells cs t fr)) (some ⟨b,0,none⟩) l:=by
 subst h;refine .inr ⟨_,0,rfl,by simp,fun j x hx i v hv=>?_⟩;rw [Bq w _ t _ fr,<-Bj,am];have hi:i<k:=by rw [<-hk x];exact DI hv
 have:=Gr hk l j x i hx hi;rw [BP,this];exact hv
end
def Hx(s:ByteArray):List Int:=s.data.toList.map (fun b=>(b.toNat:Int))
theorem Jc(s:ByteArray):(Hx s).length=s.size:=by simp [Hx]
theorem WH(s:ByteArray):∀x∈Hx s,0<=x/\x<=255:=by intro x hx;simp only [Hx,BI] at hx;obtain⟨b,_,rfl⟩:=hx;have:=b.toNat_lt;omega
def DX(s:ByteArray)(first:Int):Bool:=decide (0<s.size)&&decide (s.size<=16)&&((Hx s).headD 0 |> QL |> (·==first))&&(Hx s).all (Jk [3,4,2])
theorem Mz(s:ByteArray)(j:Nat)(h:j<s.size):(Hx s)[j]?=some ((s[j].toNat:Nat):Int):=by
 have hl:j<s.data.toList.length:=by simpa using h
 simp only [Hx,A7,AI hl,Option.map_some];rfl
theorem Ow(s:ByteArray)(h:0<s.size):(Hx s).headD 0=((s[0].toNat:Nat):Int):=by have:=Mz s 0 h;rw [List.headD_eq_head?_getD,List.head?_eq_getElem?,this];rfl
theorem WI(s:ByteArray)(w:World):∃cap C,s.size<=cap/\Le ((w.alloc (.cells C 5 (C.size,C.size+1))).drew) (some ⟨w.heap.size,0,none⟩) (XR (Hx s))/\(convert 9 166 (.string s)).run prog w=.ok (.slice (some ⟨w.heap.size,0,none⟩) s.size cap) ((w.alloc (.cells C 5 (C.size,C.size+1))).drew):=by refine⟨grownCap w s.size 0 5,bytesRow s (grownCap w s.size 0 5),grownCap_ge _ _ _ _,?_,run_bytes_of_string w 9 166 5 s underlying9 underlying166 underlying5⟩;refine .inr ⟨_,_,rfl,fun j hj=>?_⟩;rw [LE,Jc] at hj;rw [RM _ _ (by rw [Jc];exact hj)];show (w.alloc _).cell? _=_;rw [Bq w _ _ _ (_,_),BP,bytesRow_at s _ j hj,AX,Mz s j hj];rfl
theorem ZL{l:List Int}{p:Int->Bool}(h:(l.takeWhile p).length=l.length):l.all p=true:=by
 induction l with
 |nil=>rfl
 |cons x r ih=>
  rw [El] at h;cases hx:p x with
  |false=>rw [hx] at h;simp at h
  |true=>rw [hx] at h;simp at h;simp [hx,ih h]
theorem R7(xs cl:List Int):(K6 xs cl 0=xs.length)↔xs.all (Jk cl)=true:=by
 unfold K6;rw [AC (by omega)];simp only [Int.toNat_zero,List.drop_zero];constructor
 ·exact ZL
 ·exact ZBc
theorem NJ(s:ByteArray)(first:Int)(w:World):Calls prog 212 #[.string s,.int .u8 first] w (RB w (.bool (DX s first))):=by
 by_cases h0:s.size=0
 ·have hs:s.toList=[]:=by rw [CN,<-BA,<-Lib.size_eq];exact h0
  have sh:s.toList.isEmpty=true:=by rw [hs];rfl
  have hr:Hd (DX s first=false):=by show DX s first=false;simp [DX,h0]
  go_enter func212,ntmps212;go_wp2_with fail;go_ret;exact⟨Af hr.out.symm,AA _ _⟩
 ·have gK:0<s.size:=by omega
  have hs:(s.toList==[])=false:=by
   rw [AW];intro e;rw [CN] at e;have:s.size=0:=by rw [Lib.size_eq,e];rfl
   omega
  have sh:s.toList.isEmpty=false:=by rw [List.isEmpty_eq_false_iff];simpa using hs
  by_cases eS:16<s.size
  ·have hr:Hd (DX s first=false):=by show DX s first=false;simp [DX];intro _ h;omega
   go_enter func212,ntmps212;go_wp2_with fail;go_ret;exact⟨Af hr.out.symm,AA _ _⟩
  ·have mX:s.size<=16:=by omega
   have hh:=Ow s gK;have hc:(0:Int)<=((s[0].toNat:Nat):Int)/\((s[0].toNat:Nat):Int)<=255:=by have:=s[0].toNat_lt;omega
   obtain⟨c0,c1⟩:=hc;obtain⟨cap,C,eV,aC,kc⟩:=WI s w;have HR:=AF aC;have HH:=AF hh;clear aC hh eS;by_cases hf:QL ((s[0].toNat:Nat):Int)=first
   ·have HF:=AF hf;have mh:(QL ((s[0].toNat:Nat):Int) != first)=false:=by rw [hf];simp
    clear hf
    have hr:Hd (DX s first=decide (K6 (Hx s) [3,4,2] 0=s.size)):=by
     show DX s first=_
     unfold DX;rw [HH.o,HF.o];have:=R7 (Hx s) [3,4,2];rw [Jc] at this;simp only [gK,mX,decide_true,Bz,beq_self_eq_true];rw [Bu,Ai,this]
    go_enter func212,ntmps212;go_wp2_with fail;refine(OK _ c0 c1 _).mono ?_;rintro e w1 ⟨rfl,rfl⟩;go_wp2_with fail;refine(ZBS (some ⟨w.heap.size,0,none⟩) s.size cap 0 _ 3 3 (Hx s) [3,4,2] _ (Jc s) (by omega) eV (WH s) ?_ rfl (by omega) ?_).mono ?_
    ·exact HR.o.alloc _
    ·exact Le.newAt _ (XR [3,4,2]) 5 (0,0) _ (by simp)
    ·rintro e w1 ⟨rfl,hb⟩;have HB:Hd (Below w.heap.size w w1):=(((AA _ w).alloc (AB _) _).drew.alloc (by simp) _).trans (hb.mono (by simp;omega));clear hb;go_wp2_with fail;go_ret;refine⟨Af ?_,HB.o⟩;rw [hr.out,Bu,Ai,A3];omega
   ·have mh:(QL ((s[0].toNat:Nat):Int) != first)=true:=by simpa using hf
    have hr:Hd (DX s first=false):=by
     show DX s first=false
     unfold DX;rw [HH.o];simp [hf]
    clear kc HR eV hf;go_enter func212,ntmps212;go_wp2_with fail;refine(OK _ c0 c1 _).mono ?_;rintro e w1 ⟨rfl,rfl⟩;go_wp2_with fail;go_ret;exact⟨Af hr.out.symm,AA _ _⟩
def GR(s:ByteArray):Bool:=DX s 4
theorem ZAE(s:ByteArray)(w:World):Calls prog 211 #[.string s] w (RB w (.bool (GR s))):=by go_enter func211,ntmps211;go_wp2_with fail;refine(NJ s 4 w).mono ?_;rintro e w1 ⟨rfl,hb⟩;have HB:=AF hb;clear hb;go_wp2_with fail;go_ret;exact⟨rfl,HB.o⟩
theorem UT(s:ByteArray)(a:Addr)(w:World)(ac:w.cell? a=some (.func (.func 211) #[] #[])):Calls prog 247 #[.string s,.pointer (some a)] w (RB w (.bool (!GR s))):=by go_enter func247,ntmps247;go_wp2_with fail;refine(ZAE s w).mono ?_;rintro e w1 ⟨rfl,hb⟩;have HB:=AF hb;clear hb;go_wp2_with fail;go_ret;exact⟨rfl,HB.o⟩
theorem N5(a:Addr)(p:Option Addr)(n cap:Nat)(l:List ByteArray)(w:World)(hn:l.length=n)(hm:n<=9223372036854775807)(hr:DK Ib 1 w p l)(ac:w.cell? a=some (.func (.func 211) #[] #[])) :
 Calls prog 262 #[.slice p n cap,.func (.func 247) #[] #[.pointer (some a)]] w fun e w'=>(∃r:Int,e=.returned (.int .i64 r)/\(l.any (fun s=>!GR s)=decide (0<=r)))/\Below w.heap.size w w':=by
 have HR:=AF hr
 have HN:=AF hn
 have HX:=AF ac
 clear hr hn ac
 go_enter func262,ntmps262
 go_wp2_with fail
 go_loopw [5,8] (fun _ i wr=>∃k:Nat,k<=n/\i=.int .i64 k/\(l.take k).any (fun s=>!GR s)=false/\Below w.heap.size w wr) (fun _ i _=>n-(intOf i).toNat)
 case atStart=>exact⟨0,by omega,rfl,by simp,AA _ _⟩
 case round=>
  obtain⟨k,hk,rfl,an,hb⟩:=hrel;have ax:=AF an;have HB:=AF hb;clear an hb;by_cases aG:k<n
  ·obtain⟨x,hx⟩:=Bh (l:=l) (j:=k) (by rw [HN.o];exact aG);obtain⟨b,o,rfl,bv⟩:=(HR.o.below HB.o).str hx;have HE:=AF hx;have eU:wr.cell? a=some (.func (.func 211) #[] #[]):=by rw [HB.o.cell (D9 HX.o)];exact HX.o
   clear hx;by_cases hq:GR x=true
   ·go_wp2_with fail;refine(UT x a wr eU).mono ?_;rintro e w1 ⟨rfl,hb⟩;have aH:=bt HB hb;clear hb eU bv;go_wp2_with fail;go_roundw
    case rel=>exact⟨k+1,by omega,by go_num,by rw [FA HE.o,ax.o,hq];rfl,aH.o⟩
    case measure=>simp [intOf];omega
   ·have m6:GR x=false:=by simpa using hq
    clear hq;go_wp2_with fail;refine(UT x a wr eU).mono ?_;rintro e w1 ⟨rfl,hb⟩;have aH:=bt HB hb;clear hb eU bv;go_wp2_with fail;go_ret;exact⟨⟨k,rfl,by rw [J5 HE.o (by rw [m6];rfl)];simp⟩,aH.o⟩
  ·go_wp2_with fail;go_ret;have h:=ax.o;rw [Bb (by rw [HN.o];omega)] at h;exact⟨⟨-1,rfl,by rw [h];simp⟩,HB.o⟩
theorem MG(a:Addr)(p:Option Addr)(n cap:Nat)(l:List ByteArray)(w:World)(hn:l.length=n)(hm:n<=9223372036854775807)(hr:DK Ib 1 w p l)(ac:w.cell? a=some (.func (.func 211) #[] #[])) :
 Calls prog 246 #[.slice p n cap,.func (.func 247) #[] #[.pointer (some a)]] w (RB w (.bool (l.any (fun s=>!GR s)))):=by
 have hc:=N5 a p n cap l w hn hm hr ac
 generalize l.any (fun s=>!GR s)=q at hc ⊢
 clear hr hn ac
 go_enter func246,ntmps246
 go_wp2_with fail
 refine hc.mono ?_
 rintro e w1 ⟨⟨r,rfl,hr⟩,hb⟩
 have HR:=AF hr
 have HB:=AF hb
 clear hr hb hc
 go_wp2_with fail
 go_ret
 exact⟨Af HR.o.symm,HB.o⟩
theorem SB(p:Option Addr)(n cap:Nat)(l:List ByteArray)(w:World)(hn:l.length=n)(hm:n<=9223372036854775807)(hr:DK Ib 1 w p l):Calls prog 210 #[.func (.func 211) #[] #[],.slice p n cap] w (RB w (.bool (l.all GR))):=by
 have hc:=fun o=>MG ⟨w.heap.size,0,none⟩ p n cap l (w.alloc o) hn hm (hr.alloc o);have he:Hd (l.all GR=!l.any (fun s=>!GR s)):=by show l.all GR=!l.any (fun s=>!GR s);rw [D1]
 have HC:=AF hc;clear hr hn hc;go_enter func210,ntmps210;go_wp2_with fail;refine(HC.o _ (by rw [Bq];rfl)).mono ?_;rintro e w1 ⟨rfl,hb⟩;have HB:Hd (Below w.heap.size w w1):=((AA _ w).alloc (AB _) _).trans (hb.mono (by simp));clear hb;generalize l.any (fun s=>!GR s)=q at *
 go_wp2_with fail;go_ret;exact⟨Af he.out.symm,HB.o⟩
theorem Mt(p:Option Addr)(n cap:Nat)(l:List ByteArray)(w:World)(hn:l.length=n)(hm:n<=9223372036854775807)(hr:DK Ib 1 w p l):Calls prog 174 #[.slice p n cap] w (RB w (.bool (l.all GR))):=by
 have hc:=SB p n cap l w hn hm hr;generalize l.all GR=q at *
 clear hr hn;go_enter func174,ntmps174;go_wp2_with fail;refine hc.mono ?_;rintro e w1 ⟨rfl,hb⟩;have HB:=AF hb;clear hb hc;go_wp2_with fail;go_ret;exact⟨rfl,HB.o⟩
theorem Wj(c:Int):Jk [3,4,2] c=decide (2<=QL c/\QL c<=4):=by
 unfold Jk QL;repeat' split
 all_goals rfl
theorem KT(s:ByteArray)(first:Int)(w:World):Calls prog 81 #[.string s,.int .u8 first] w (RB w (.bool (DX s first))):=by
 by_cases h0:s.size=0
 ·have hr:Hd (DX s first=false):=by show DX s first=false;simp [DX,h0]
  go_enter func81,ntmps81;go_wp2_with fail;go_ret;exact⟨Af hr.out.symm,AA _ _⟩
 ·have gK:0<s.size:=by omega
  have hz:(((s.size:Nat):Int)==0)=false:=by rw [AW];omega
  clear h0;by_cases eS:16<s.size
  ·have hr:Hd (DX s first=false):=by show DX s first=false;simp [DX];intro _ h;omega
   go_enter func81,ntmps81;go_wp2_with fail;go_ret;exact⟨Af hr.out.symm,AA _ _⟩
  ·have mX:s.size<=16:=by omega
   clear eS;have HH:=AF (Ow s gK);have hc:(0:Int)<=((s[0].toNat:Nat):Int)/\((s[0].toNat:Nat):Int)<=255:=by have:=s[0].toNat_lt;omega
   obtain⟨c0,c1⟩:=hc;by_cases hf:QL ((s[0].toNat:Nat):Int)=first
   ·have HF:=AF hf;have mh:(QL ((s[0].toNat:Nat):Int) != first)=false:=by rw [hf];simp
    clear hf
    have hr:Hd (DX s first=(Hx s).all (Jk [3,4,2])):=by
     show DX s first=_
     unfold DX;rw [HH.o,HF.o];simp [gK,mX]
    go_enter func81,ntmps81;go_wp2_with fail;refine(KS _ c0 c1 _).mono ?_;rintro e w1 ⟨rfl,hb⟩;have HB:=AF hb;clear hb;go_wp2_with fail;go_loopw [5] (fun i wr=>∃k:Nat,k<=s.size/\i=.int .i64 k/\((Hx s).take k).all (Jk [3,4,2])=true/\Below w.heap.size w wr) (fun i _=>s.size-(intOf i).toNat)
    case atStart=>exact⟨0,by omega,rfl,by simp,HB.o⟩
    case round=>
     obtain⟨k,hk,rfl,bh,hb⟩:=hrel;have HA:=AF bh;have HB:=AF hb;clear bh hb;by_cases aG:k<s.size
     ·have hx:=AF (Mz s k aG);have hc:(0:Int)<=((s[k].toNat:Nat):Int)/\((s[k].toNat:Nat):Int)<=255:=by have:=s[k].toNat_lt;omega
      obtain⟨d0,d1⟩:=hc;have dG:=AF (Wj ((s[k].toNat:Nat):Int));go_wp2_with fail;refine(KS _ d0 d1 _).mono ?_;rintro e w2 ⟨rfl,hb⟩;have aF:=bt HB hb;clear hb;generalize QL ((s[k].toNat:Nat):Int)=cc at *
      by_cases h2:cc<2
      ·go_wp2_with fail;go_ret;refine⟨Af ?_,aF.o⟩;rw [hr.out,J4 hx.out (by rw [dG.out];simp;omega)]
      ·by_cases h4:4<cc
       ·have wk:2<=cc:=by omega
        go_wp2_with fail;go_ret;refine⟨Af ?_,aF.o⟩;rw [hr.out,J4 hx.out (by rw [dG.out];simp;omega)]
       ·have wk:2<=cc:=by omega
        have xn:cc<=4:=by omega
        clear h2 h4;go_wp2_with fail;go_roundw
        case rel=>exact⟨k+1,by omega,by go_num,by rw [FU hx.out,HA.o,dG.out];simp;omega,aF.o⟩
        case measure=>simp [intOf];omega
     ·go_wp2_with fail;go_ret;refine⟨Af ?_,HB.o⟩;have h:=HA.o;rw [Bb (by rw [Jc];omega)] at h;rw [hr.out,h]
   ·have mh:(QL ((s[0].toNat:Nat):Int) != first)=true:=by simpa using hf
    have hr:Hd (DX s first=false):=by
     show DX s first=false
     unfold DX;rw [HH.o];simp [hf]
    clear hf;go_enter func81,ntmps81;go_wp2_with fail;refine(KS _ c0 c1 _).mono ?_;rintro e w1 ⟨rfl,hb⟩;have HB:=AF hb;clear hb;go_wp2_with fail;go_ret;exact⟨Af hr.out.symm,HB.o⟩
theorem VL(s:ByteArray)(w:World):Calls prog 48 #[.string s] w (RB w (.bool (GR s))):=by have hc:=KT s 4 w;change Calls _ _ _ w fun e w'=>e=.returned (.bool (GR s))/\Below w.heap.size w w' at hc;generalize GR s=q at hc ⊢;go_enter func48,ntmps48;go_wp2_with fail;refine hc.mono ?_;rintro e w1 ⟨rfl,hb⟩;have HB:=AF hb;clear hb hc;go_wp2_with fail;go_ret;exact⟨rfl,HB.o⟩
theorem MJ:∀x:List UInt8,Op.bytesLess x x=false
 |[]=>rfl
 |a::x=>by simp [Op.bytesLess,MJ x]
theorem Ud:∀x y z:List UInt8,Op.bytesLess x y=true->Op.bytesLess y z=true->Op.bytesLess x z=true
 |_,_,[],_,h=>by cases ‹List UInt8›<;>simp [Op.bytesLess] at h
 |_,[],_::_,h,_=>by cases ‹List UInt8›<;>simp [Op.bytesLess] at h
 |[],_::_,_::_,_,_=>rfl
 |a::x,b::y,c::z,h,h'=>by
  simp only [Op.bytesLess,Cs,AK,Ai,A3,UInt8.lt_iff_toNat_lt] at *
  rcases h with h|⟨h,hx⟩<;>rcases h' with h'|⟨h',hy⟩
  ·left;omega
  ·subst h';left;omega
  ·subst h;left;omega
  ·subst h;subst h';exact .inr ⟨rfl,Ud x y z hx hy⟩
theorem WF:∀x y:List UInt8,Op.bytesLess x y=false->Op.bytesLess y x=false->x=y
 |[],[],_,_=>rfl
 |[],_::_,h,_=>by simp [Op.bytesLess] at h
 |_::_,[],_,h=>by simp [Op.bytesLess] at h
 |a::x,b::y,h,h'=>by
  simp only [Op.bytesLess,A5,EK,BE,AW,UInt8.lt_iff_toNat_lt] at *
  have e:a=b:=by apply UInt8.toNat_inj.1;omega
  subst e;rw [WF x y (by simpa using h.2) (by simpa using h'.2)]
theorem K9{s t:ByteArray}(h:s.toList=t.toList):s=t:=by rw [CN,CN] at h;rw [<-Lib.mk_data s,<-Lib.mk_data t,h]
structure BB where
 kind:Int
 rho:Int
 exn:ByteArray
deriving DecidableEq,Inhabited
def BB.lt(a b:BB):Bool:=if a.kind=b.kind then(if a.rho=b.rho then Op.bytesLess a.exn.toList b.exn.toList else decide (a.rho<b.rho)) else decide (a.kind<b.kind)
theorem BB.lt_irrefl(a:BB):BB.lt a a=false:=by simp [BB.lt,MJ]
theorem BB.lt_trans(h:BB.lt a b=true)(h':BB.lt b c=true):BB.lt a c=true:=by
 unfold BB.lt at *
 by_cases k1:a.kind=b.kind
 ·by_cases k2:b.kind=c.kind
  ·rw [AJ k1] at h;rw [AJ k2] at h';rw [AJ (k1.trans k2)];by_cases r1:a.rho=b.rho
   ·by_cases r2:b.rho=c.rho
    ·rw [AJ r1] at h;rw [AJ r2] at h';rw [AJ (r1.trans r2)];exact Ud _ _ _ h h'
    ·rw [AC r2] at h';rw [AC (by omega)];simp at h' ⊢;omega
   ·rw [AC r1] at h;by_cases r2:b.rho=c.rho
    ·rw [AC (by omega)];simp at h ⊢;omega
    ·rw [AC r2] at h';simp at h h';rw [AC (by omega)];simp;omega
  ·rw [AC k2] at h';rw [AC (by omega)];simp at h' ⊢;omega
 ·rw [AC k1] at h;by_cases k2:b.kind=c.kind
  ·rw [AC (by omega)];simp at h ⊢;omega
  ·rw [AC k2] at h';simp at h h';rw [AC (by omega)];simp;omega
theorem BB.lt_tri(h:BB.lt a b=false)(h':BB.lt b a=false):a=b:=by
 unfold BB.lt at *
 by_cases k1:a.kind=b.kind
 ·rw [AJ k1] at h;rw [AJ k1.symm] at h';by_cases r1:a.rho=b.rho
  ·rw [AJ r1] at h;rw [AJ r1.symm] at h';obtain⟨ak,ar,ae⟩:=a;obtain⟨bk,br,be⟩:=b;simp only at k1 r1 h h';rw [k1,r1,K9 (WF _ _ h h')]
  ·rw [AC r1] at h;rw [AC (fun e=>r1 e.symm)] at h';simp at h h';omega
 ·rw [AC k1] at h;rw [AC (fun e=>k1 e.symm)] at h';simp at h h';omega
def FD{α:Type}(lt:α->α->Bool)(l:List α):Prop:=l.Pairwise (fun a b=>lt a b=true)
theorem Mo{α:Type}{lt:α->α->Bool}(irr:∀a,lt a a=false)(tr:∀a b c,lt a b=true->lt b c=true->lt a c=true):∀{l m:List α},FD lt l->FD lt m->(∀a,a∈l↔a∈m)->l=m
 |[],[],_,_,_=>rfl
 |[],b::m,_,_,h=>absurd ((h b).2 (BL ..)) Al
 |a::l,[],_,_,h=>absurd ((h a).1 (BL ..)) Al
 |a::l,b::m,hl,hm,h=>by
  obtain⟨ha,bE⟩:=Bv.1 hl;obtain⟨hb,eJ⟩:=Bv.1 hm
  have e:a=b:=by
   rcases AS.1 ((h a).1 (BL ..)) with e|e
   ·exact e
   ·rcases AS.1 ((h b).2 (BL ..)) with e'|e'
    ·exact e'.symm
    ·have:=tr _ _ _ (ha b e') (hb a e);rw [irr] at this;cases this
  subst e;rw [Mo irr tr bE eJ (fun x=>?_)];constructor
  ·intro hx;rcases AS.1 ((h x).1 (Cu _ hx)) with e|e
   ·subst e;have:=ha _ hx;rw [irr] at this;cases this
   ·exact e
  ·intro hx;rcases AS.1 ((h x).2 (Cu _ hx)) with e|e
   ·subst e;have:=hb _ hx;rw [irr] at this;cases this
   ·exact e
def IP{α:Type}(lt:α->α->Bool)(a:α):List α->List α
 |[]=>[a]
 |b::l=>if lt a b then a::b::l else if lt b a then b::IP lt a l else b::l
theorem L3{α:Type}{lt:α->α->Bool}(tri:∀a b,lt a b=false->lt b a=false->a=b)(a x:α):∀l:List α,x∈IP lt a l↔x=a\/x∈l
 |[]=>by simp [IP]
 |b::l=>by
  unfold IP;by_cases h1:lt a b=true
  ·rw [AJ h1];simp
  ·rw [AC h1];by_cases h2:lt b a=true
   ·rw [AJ h2,AS,L3 tri a x l,AS];constructor
    ·rintro(h|h|h)
     ·exact .inr (.inl h)
     ·exact .inl h
     ·exact .inr (.inr h)
    ·rintro(h|h|h)
     ·exact .inr (.inl h)
     ·exact .inl h
     ·exact .inr (.inr h)
   ·rw [AC h2];have e:a=b:=tri a b (by simpa using h1) (by simpa using h2);subst e;simp
theorem MA{α:Type}{lt:α->α->Bool}(tr:∀a b c,lt a b=true->lt b c=true->lt a c=true)(tri:∀a b,lt a b=false->lt b a=false->a=b)(a:α):∀{l:List α},FD lt l->FD lt (IP lt a l)
 |[],_=>by simp [IP,FD]
 |b::l,h=>by
  obtain⟨hb,hl⟩:=Bv.1 h;unfold IP;by_cases h1:lt a b=true
  ·rw [AJ h1];refine Bv.2 ⟨fun x hx=>?_,h⟩;rcases AS.1 hx with e|e
   ·subst e;exact h1
   ·exact tr _ _ _ h1 (hb x e)
  ·rw [AC h1];by_cases h2:lt b a=true
   ·rw [AJ h2];refine Bv.2 ⟨fun x hx=>?_,MA tr tri a hl⟩;rcases (L3 tri a x l).1 hx with e|e
    ·subst e;exact h2
    ·exact hb x e
   ·rw [AC h2];exact h
def KG{α:Type}(lt:α->α->Bool):List α->List α
 |[]=>[]
 |a::l=>IP lt a (KG lt l)
theorem MR{α:Type}{lt:α->α->Bool}(tri:∀a b,lt a b=false->lt b a=false->a=b)(x:α):∀l:List α,x∈KG lt l↔x∈l
 |[]=>by simp [KG]
 |a::l=>by rw [KG,L3 tri,MR tri x l,AS]
theorem JQ{α:Type}{lt:α->α->Bool}(tr:∀a b c,lt a b=true->lt b c=true->lt a c=true)(tri:∀a b,lt a b=false->lt b a=false->a=b):∀l:List α,FD lt (KG lt l)
 |[]=>by simp [KG,FD]
 |a::l=>MA tr tri a (JQ tr tri l)
theorem Us(irr:∀a,lt a a=false)(tr:∀a b c,lt a b=true->lt b c=true->lt a c=true)(tri:∀a b,lt a b=false->lt b a=false->a=b)(hr:FD lt m)(hm:∀a,a∈m↔a∈l):m=KG lt l:=Mo irr tr hr (JQ tr tri l) (fun a=>by rw [hm,MR tri])
abbrev IA:List BB->List BB:=KG BB.lt
def Nr(a b:Int):Bool:=decide (a<b)
abbrev FN:List Int->List Int:=KG Nr
theorem Wr(a:Int):Nr a a=false:=by simp [Nr]
theorem OY(a b c:Int)(h:Nr a b=true)(h':Nr b c=true):Nr a c=true:=by simp [Nr] at *;omega
theorem Pp(a b:Int)(h:Nr a b=false)(h':Nr b a=false):a=b:=by simp [Nr] at *;omega
theorem BB.lt_trans'(a b c:BB)(h:BB.lt a b=true)(h':BB.lt b c=true):BB.lt a c=true:=BB.lt_trans h h'
theorem BB.lt_tri'(a b:BB)(h:BB.lt a b=false)(h':BB.lt b a=false):a=b:=BB.lt_tri h h'
theorem Ur(hr:FD BB.lt m)(hm:∀a,a∈m↔a∈l):m=IA l:=Us BB.lt_irrefl BB.lt_trans' BB.lt_tri' hr hm
theorem QV(hr:FD Nr m)(hm:∀a,a∈m↔a∈l):m=FN l:=Us Wr OY Pp hr hm
theorem Ha(x:BB)(l:List BB):x∈IA l↔x∈l:=MR BB.lt_tri' x l
theorem Tu(l:List BB):FD BB.lt (IA l):=JQ BB.lt_trans' BB.lt_tri' l
theorem Ki(x:Int)(l:List Int):x∈FN l↔x∈l:=MR Pp x l
theorem Tv(l:List Int):FD Nr (FN l):=JQ OY Pp l
theorem Ve(h:∀a,a∈l↔a∈m):FN l=FN m:=QV (Tv l) (fun a=>by rw [Ki,h])
end Go.Proofs.YtkdjnegfnhldpaaGreatDoor
