/- Part 28. -/
import Derived.Test.YtkdjnegfnhldpaaGreatDoorCards
import Derived.Test.YtkdjnegfnhldpaaGreatDoorTie
import Derived.LaidMore
import Derived.Deep.DeepHandedRow
import Derived.Test.YtkdjnegfnhldpaaGreatDoorK27
set_option linter.unusedVariables false
set_option maxRecDepth 100000
set_option linter.unusedSimpArgs false
set_option maxHeartbeats 40000000
set_option autoImplicit true
set_option relaxedAutoImplicit true
namespace Go.Proofs.YtkdjnegfnhldpaaGreatDoor
open Go.Proofs.Tryz Go.RowKit
def s0P:PS:=⟨⟨none,0,0,[],none,0,0,[]⟩,false,0⟩
theorem Uc:Dh ⟨[],[]⟩:=⟨fun i h=>absurd h (by simp),fun i h=>absurd h (by simp),fun v h=>by cases h⟩
theorem ZCZ(U:Nat->Prop)(w:World):s0P.b.Lies U w:=⟨Gk.nil _ _ _ _,fun x h=>(by cases h),Gk.nil _ _ _ _⟩
theorem VQ{α:Type}{enc:α->List Value}{k:Nat}(hk:∀x,(enc x).length=k)(ao:0<k)(w:World)(T:TypeId):Gk enc k (fun _=>True) (w.alloc (.cells #[] T)) (some ⟨w.heap.size,0,none⟩) 0 0 []:=by obtain⟨p,c,hv,hr⟩:=A1.isRow hk ao (A1.lit enc w w.heap.size T k (AB _));cases hv;exact⟨hr,fun _ _ _=>trivial⟩
structure CtS(w:World)(a:Ma)(W:World):Prop where
 b0:W.heap[w.heap.size]?=some (.cells (cTa a) 53 (0,0))
 b1:∃cs:Array Value,cs.size=14/\W.heap[w.heap.size+1]?=some (.cells cs 48 (0,0))
 b2:W.heap[w.heap.size+1+1]?=some (.cells cZd 48 (0,0))
 below:Below w.heap.size w W
theorem CtS.step{w W W':World}{a:Ma}(h:CtS w a W)(hb:Below W.heap.size W W'):CtS w a W':=by obtain⟨cs,hc,e⟩:=h.b1;exact⟨(hb.block _ (Ab h.b0)).trans h.b0,⟨cs,hc,(hb.block _ (Ab e)).trans e⟩,(hb.block _ (Ab h.b2)).trans h.b2,h.below.trans (hb.mono h.below.size)⟩
theorem CtS.res{w W:World}{a:Ma}(h:CtS w a W)(cs:Array Value):Below w.heap.size w (W.setRow (w.heap.size+1) cs):=h.below.grown (AU _ _ _) h.below.size (fun k e=>by injection e with e;omega)
theorem ZBs(w:World)(a:Ma):CtS w a (((w.alloc (.cells (cTa a) 53)).alloc (.cells cZd 48)).alloc (.cells cZd 48)):=by obtain⟨g1,g2⟩:=Et w (cTa a) cZd 53 48;have h3:=AG ((w.alloc (.cells (cTa a) 53)).alloc (.cells cZd 48)) (.cells cZd 48);rw [AN,AN] at h3;have old:∀(V:World) (o:Obj) (k:Nat) (c:Obj),V.heap[k]?=some c->(V.alloc o).heap[k]?=some c:=fun V o k c h=>(AP V o k (Ab h)).trans h;exact⟨old _ _ _ _ g1,⟨_,rfl,old _ _ _ _ g2⟩,h3,((bA.alloc (by simp) _).alloc (by simp<;>omega) _)⟩
def ZDQ(w:World)(e:Ending)(w':World):Prop:=∃(d:IC) (z f:Int),e=.returned (.tuple #[US d,.int .i64 z,.int .i64 f])/\(f=0\/f=3)/\Below w.heap.size w w'
theorem Pa{U:Nat->Prop}{w0:World}(t:Ga)(hl:KJ.lies U w0 t)(hz:t.size<=1000)(hm:L0 (Ga.er t)=true)(hf:LJ [] (Ga.er t)=none)(hn:(Fh ⟨⟨[],[]⟩,false,0⟩ [] (Ga.er t)).1.bad=false):Calls prog 19 #[Mb t.head] w0 (ZDQ w0):=by
 obtain⟨a,l,rfl⟩:∃a l,t=Ad.node a l:=⟨t.head,t.kids,Ad.eta t⟩;have HN:=AF (ZBs w0 a);have HL:=AF (KJ.lies_mono (U':=fun _=>True) (fun _ _ _=>trivial) _ hl);have HM:=AF hm;have HF:=AF hf;have bo:=AF hn;have HZ:=AF hz;clear hl hm hf hn hz;show Calls _ _ #[.agg (cTa a)] w0 _;go_enter func19,ntmps19
 go_upto_region 2 with(first
  |(refine sn #[.int .u8 0,.int .u8 0,.int .i64 0,.int .i64 0,.string ⟨#[]⟩,.string ⟨#[]⟩,.string ⟨#[]⟩,.int .u8 0,.int .i64 0,.slice none 0 0,.int .u8 0,.int .i64 0,.slice none 0 0,.slice none 0 0] ?_))
 generalize ((w0.alloc (.cells (cTa a) 53)).alloc (.cells cZd 48)).alloc (.cells cZd 48)=W at *
 go_upto_region 4 with(first
  |(refine lw HN.o.b0 underlying53 ?_)
  |(go_at_call 43;refine(Rr (.node a l) (KJ.lies_keep (BD.of HN.o.below) _ HL.o) HZ.o HM.o).mono ?_;rintro e w5 ⟨rfl,hb⟩;have d8:=AF (HN.o.step hb);clear hb))
 clear HN;have dM:Below w5.heap.size w5 (w5.alloc (.cells #[] 9)):=bA;have cG:=AF (d8.o.step dM);have gX:=AF (VQ Hh (by omega) w5 9);clear dM
 go_upto_region 7 with(first
  |(refine lw d8.o.b0 underlying53 ?_)
  |(go_at_call 44;refine(Qx (.node a l) _ _ _ _ _ [] (KJ.lies_keep (BD.of cG.o.below) _ HL.o) gX.o.is (by have:=HZ.o;omega) HF.o).mono ?_;rintro e w7 ⟨rfl,hb⟩;have fq:=AF (cG.o.step hb);clear hb))
 clear d8 cG gX;have fi:Below w7.heap.size w7 (w7.alloc (.cells #[] 158)):=bA;have mH:=AF (fq.o.step fi);have bS:=AF (VQ Fa (by omega) w7 158);have ax:Hd (∀V,Below (w7.alloc (.cells #[] 158)).heap.size (w7.alloc (.cells #[] 158)) V->Calls prog 45 #[.agg #[.slice none 0 0,.slice none 0 0,.bool false,.int .i64 0],.slice (some ⟨w7.heap.size,0,none⟩) 0 0,Mb a] V (fun e w'=>∃(s':PS) (d:IC),e=.returned (.tuple #[Lg s',US d])/\Below V.heap.size V w'/\s'.bad=false/\Dh s'.er.b/\s'.b.Lies (fun _=>True) w'/\s'.b.ln<=30 * 1000/\∃ds:List PD,LD.lies (fun _=>True) w' (.node d ds)/\K4 (.node d ds)=true/\(Ad.node d ds:PD).size<=1000)):=by show ∀V,_;intro V hb;have h:=ZAn (.node a l) (fun _=>True) V s0P (some ⟨w7.heap.size,0,none⟩) 0 0 [] (ZCZ _ _) Uc ⟨bS.o.keep (BD.of hb),fun x h=>by cases h⟩ (fun b h=>by cases h) (KJ.lies_keep (BD.of (mH.o.step hb).below) _ HL.o) HM.o (by have:=HZ.o;omega) (by show 0+_<=_;have:=HZ.o;omega) (by show 0+_<=_;have:=HZ.o;omega);refine h.mono ?_;rintro e w' ⟨s',d,he,ab,lZ,ht⟩;have bu:(Fh s0P.er (FZ []) (Ga.er (.node a l))).1.bad=false:=bo.o;obtain⟨ds,h1,h2,h3,_⟩:=ht bu;refine⟨s',d,he,ab,by have:=congrArg SS.bad lZ.er;rw [bu] at this;exact this,lZ.ok,lZ.lies.mono (fun _ _ _=>trivial),by have h4:s'.b.ln<=0+_:=lZ.ln;have:=HZ.o;omega,ds,LD.lies_mono (fun _ _ _=>trivial) _ h1,h2,by have:=HZ.o;omega⟩
 clear fi fq bS
 go_upto_region 8 with(first
  |(refine lw mH.o.b0 underlying53 ?_)
  |(go_at_call 45;refine(ax.o _ (AA _ _)).mono ?_;rintro e w9 ⟨s',d,rfl,hb,eT,aW,uw,cu,ds,uu,ca,aI⟩;have jH:=AF (mH.o.step hb);have iD:=AF eT;have bP:=AF aW;have vx:=AF uw;have cD:=AF cu;have im:=AF uu;have dg:=AF ca;have bz:=AF aI;clear hb eT aW uw cu uu ca aI)
  |(refine sw #[.slice s'.b.lp s'.b.ln s'.b.lc,.slice s'.b.vp s'.b.vn s'.b.vc,.bool s'.bad,.int .i64 s'.at_] ((AP _ _ _ (by simp)).trans (C6 _ _ _ _ rfl)) ?_)
  |(refine sw #[.int .u8 d.hd.kind,.int .u8 d.hd.op,.int .i64 d.hd.at_,.int .i64 d.hd.n,.string d.hd.name,.string d.hd.arg,.string d.hd.exn,.int .u8 d.ty.head.kind,.int .i64 d.ty.head.var,.slice d.ty.head.kp d.ty.head.kn d.ty.head.kc,.int .u8 d.bind.head.kind,.int .i64 d.bind.head.var,.slice d.bind.head.kp d.bind.head.kn d.bind.head.kc,.slice d.kp d.kn d.kc] ((AR _ w9.heap.size (w9.heap.size+1) _ (by omega)).trans (C6 _ _ _ _ (by simp))) ?_))
 have eU:Below w9.heap.size w9 (((w9.alloc (.cells #[.slice none 0 0,.slice none 0 0,.bool false,.int .i64 0] 96)).alloc (.cells cZd 48)).setRow w9.heap.size (cSa s')):=(bA.alloc (by simp) _).grown (AU _ _ _) (by simp<;>omega) (fun g e=>by injection e with e;omega);have mf:Below w9.heap.size w9 ((((w9.alloc (.cells #[.slice none 0 0,.slice none 0 0,.bool false,.int .i64 0] 96)).alloc (.cells cZd 48)).setRow w9.heap.size (cSa s')).setRow (w9.heap.size+1) (cDa d)):=eU.grown (AU _ _ _) eU.size (fun g e=>by injection e with e;omega);have e8:((w9.alloc (.cells #[.slice none 0 0,.slice none 0 0,.bool false,.int .i64 0] 96)).alloc (.cells cZd 48)).heap[w9.heap.size]?=some (.cells #[.slice none 0 0,.slice none 0 0,.bool false,.int .i64 0] 96 (0,0)):=(AP _ _ _ (by simp)).trans (C6 _ _ _ _ rfl);have e9:((w9.alloc (.cells #[.slice none 0 0,.slice none 0 0,.bool false,.int .i64 0] 96)).alloc (.cells cZd 48)).heap[w9.heap.size+1]?=some (.cells cZd 48 (0,0)):=C6 _ _ _ _ (by simp);have dL:=AF ((AR _ (w9.heap.size+1) w9.heap.size (cDa d) (by omega)).trans (AL _ _ _ (cSa s') _ _ e8));have aY:=AF (AL _ _ _ (cDa d) _ _ ((AR _ w9.heap.size (w9.heap.size+1) (cSa s') (by omega)).trans e9));have fQ:=AF (jH.o.step mf);have gg:Hd (BD (fun _=>True) w9 ((((w9.alloc (.cells #[.slice none 0 0,.slice none 0 0,.bool false,.int .i64 0] 96)).alloc (.cells cZd 48)).setRow w9.heap.size (cSa s')).setRow (w9.heap.size+1) (cDa d))):=BD.of mf;obtain⟨g8,pE⟩:∃g8,w9.heap.size=g8:=⟨_,rfl⟩;clear eU mf e8 e9;rw [pE] at dL aY fQ gg ⊢;generalize (((w9.alloc (.cells #[.slice none 0 0,.slice none 0 0,.bool false,.int .i64 0] 96)).alloc (.cells cZd 48)).setRow g8 (cSa s')).setRow (g8+1) (cDa d)=W10 at *
 clear pE mH jH;try simp only [Act.put]
 have c1:W10.cell? ⟨g8,2,none⟩=some (.bool false):=by rw [AD dL.o,<-iD.o];rfl
 have cx:Hd (∀V,Below W10.heap.size W10 V->Calls prog 46 #[Lg s',US d] V (Zm V)):=fun V hb=>Of (.node d ds) (fun _=>True) V s' ((vx.o.keep gg.o).keep (BD.of hb)) bP.o (LD.lies_keep (BD.of hb) _ (LD.lies_keep gg.o _ im.o)) dg.o (by have:=bz.o;omega) (by have:=cD.o;omega);go_upto_region 10 with fail;clear c1
 go_upto_region 11 with(first
  |(refine lw dL.o underlying96 ?_)
  |(refine lw aY.o underlying48 ?_)
  |(go_at_call 46;refine(cx.o _ (AA _ _)).mono ?_;rintro e w11 ⟨d2,z2,r2,rfl,hb⟩;have oE:=AF (fQ.o.step hb);clear hb)
  |(refine sn #[.int .u8 d2.hd.kind,.int .u8 d2.hd.op,.int .i64 d2.hd.at_,.int .i64 d2.hd.n,.string d2.hd.name,.string d2.hd.arg,.string d2.hd.exn,.int .u8 d2.ty.head.kind,.int .i64 d2.ty.head.var,.slice d2.ty.head.kp d2.ty.head.kn d2.ty.head.kc,.int .u8 d2.bind.head.kind,.int .i64 d2.bind.head.var,.slice d2.bind.head.kp d2.bind.head.kn d2.bind.head.kc,.slice d2.kp d2.kn d2.kc] ?_))
 have kH:=AF (oE.o.step ((AA _ _).alloc (AB _) (.cells (cDa d2) 48)));have fA:=AF (AG w11 (.cells (cDa d2) 48));obtain⟨g10,bD⟩:∃g10,w11.heap.size=g10:=⟨_,rfl⟩;rw [bD] at fA ⊢;generalize w11.alloc (.cells (cDa d2) 48)=W12 at *
 clear bD fQ oE dL aY;obtain⟨cs1,dy,ap⟩:=kH.o.b1;have aH:=AF ap;clear ap;cases r2 with
 |false=>
  go_wp2_with (first|(refine lw kH.o.b2 underlying48 ?_)|(refine Ap rfl 48 _ _ rfl (w0.heap.size+1) #[.int .u8 0,.int .u8 0,.int .i64 0,.int .i64 0,.string ⟨#[]⟩,.string ⟨#[]⟩,.string ⟨#[]⟩,.int .u8 0,.int .i64 0,.slice none 0 0,.int .u8 0,.int .i64 0,.slice none 0 0,.slice none 0 0] rfl rfl 48 _ aH.o (by kernel_rfl) dy (by simp [Value.oneCell']) ?_));refine Ag (E8 rfl _ _ _ _ _ rfl (Ae _ _ _ _ _ _ _ (AL _ _ _ _ _ _ aH.o) underlying48 rfl (by kernel_rfl))) rfl ?_;exact⟨⟨⟨0,0,0,0,⟨#[]⟩,⟨#[]⟩,⟨#[]⟩⟩,Cz 0 0,Cz 0 0,none,0,0⟩,z2,3,rfl,.inr rfl,kH.o.res _⟩
 |true=>
  go_wp2_with (first|(refine lw fA.o underlying48 ?_)|(refine Ap rfl 48 _ _ rfl (w0.heap.size+1) #[.int .u8 d2.hd.kind,.int .u8 d2.hd.op,.int .i64 d2.hd.at_,.int .i64 d2.hd.n,.string d2.hd.name,.string d2.hd.arg,.string d2.hd.exn,.int .u8 d2.ty.head.kind,.int .i64 d2.ty.head.var,.slice d2.ty.head.kp d2.ty.head.kn d2.ty.head.kc,.int .u8 d2.bind.head.kind,.int .i64 d2.bind.head.var,.slice d2.bind.head.kp d2.bind.head.kn d2.bind.head.kc,.slice d2.kp d2.kn d2.kc] rfl rfl 48 _ aH.o (by kernel_rfl) dy (by simp [Value.oneCell']) ?_));refine Ag (E8 rfl _ _ _ _ _ rfl (Ae _ _ _ _ _ _ _ (AL _ _ _ _ _ _ aH.o) underlying48 rfl (by kernel_rfl))) rfl ?_;exact⟨d2,0,0,rfl,.inl rfl,kH.o.res _⟩
theorem TV{w:World}(t:PA):LA.lies w t->Kz t=true->Lr (PA.er t)=true:=by
 refine Ad.ind (P:=fun(t:PA)=>LA.lies w t->Kz t=true->Lr (PA.er t)=true) (fun a l ih hl hm=>?_) t;have hn:=Gh hl;unfold Kz at hm;rw [Aj] at hm;have qZ:∀t∈l,∀x∈Ad.nodes t,x∈Ad.nodes (Ad.node a l):=fun t ht x hx=>by rw [Ad.nodes_node,AS,BS];exact .inr ⟨_,Au ht,hx⟩
 have ha:a∈Ad.nodes (Ad.node a l):=by rw [Ad.nodes_node];exact BL
 have h0:=hm a ha
 have hh:GD a.hd a.kn=true:=by
  cases e:GD a.hd a.kn with
  |true=>rfl
  |false=>unfold IR at h0;rw [e] at h0;simp at h0
 rw [PA.er_node,Ls,AK,Aj,Ba];refine⟨by rw [hn.kids.len];exact hh,fun t ht=>?_⟩;obtain⟨u,hu,rfl⟩:=BI.1 ht;exact ih u hu (hn.each u hu) (by unfold Kz;rw [Aj];exact fun x hx=>hm x (qZ u hu x hx))
theorem Vj{w:World}{t:PA}{x:TE}(hl:LA.lies w t)(hs:Ef t)(hr:JG t=.ok x):L0 (DG (PA.er t))=true/\LJ [] (DG (PA.er t))=none/\(Fh ⟨⟨[],[]⟩,false,0⟩ [] (DG (PA.er t))).1.bad=false/\(DG (PA.er t)).size<=t.size:=by
 have hm:Kz t=true:=by
  unfold JG at hr;cases h:Kz t with
  |true=>rfl
  |false=>rw [h,AC Co] at hr;cases hr
 have hc:OI (PA.er t)=.ok x:=by unfold JG at hr;rwa [hm,AJ rfl] at hr
 have hk:=(YK.1 hc).2;have hh:=TV t hl hm;have hz:(PA.er t).size=t.size:=Ad.size_map _ _;obtain⟨θ,hx,_⟩:=R5 (PA.er t) [] [0] x [] ⟨⟨[],[]⟩,false,0⟩ (fun _=>.node 0 []) (Lq t hl hs hm) (fun b hb=>by cases hb) hk ⟨rfl,Uc,⟨fun i j hi=>by simp at hi,fun i hi=>by simp at hi⟩⟩ ⟨rfl,fun j b p h=>by simp at h⟩;exact⟨Yu _ hh,Ux (PA.er t) [] [0] x [] hk (fun b hb=>by cases hb) hh,hx.sg.bad,by rw [<-hz];exact XM _⟩
theorem ZM{w:World}(hv:Vr w)(t:PA)(hl:LA.lies w t){z no:Int}(hr:JG t=.error (z,no)):Calls prog 5 #[DP t.head] w (RB w (.bool true)):=by
 have HB:=AF ((AA w.heap.size w).alloc (AB _) (Bt t.head));have aK:=AF (C8 w t.head);have HV:=AF hv;have HR:=AF hr;have df:=AF (ST t (LA.lies_below HB.o t hl));have an:=Z3 hr;have ez:(no==0)=false:=by simp [an]
 have ez2:(no != 0)=true:=by simp [an]
 clear hl hv hr;go_enter func5,ntmps5;go_upto_region 1 with fail
 go_upto_region 3 with(first
  |(refine lw aK.o.blk underlying31 ?_)
  |(go_at_call 10;refine df.o.mono ?_;rintro e w8 ⟨⟨r,rfl,cA⟩,hb⟩;have HB:=bt HB hb;have aK:=AF (aK.o.below hb);have qm:=AF hb;clear hb;have nr:=AF cA;clear cA;cases r;have ij:=AF ((nr.o (by first|trivial|rfl)).below qm.o))
  |(go_at_call 11;refine(Iy (HV.o.below HB.o)).mono ?_;rintro e w9 ⟨rfl,hb⟩;have HB:=bt HB hb;clear hb))
 all_goals (try (go_ret;exact⟨rfl,HB.o⟩))
 have ko:=AF (Hp (t:=t) ij.o.lies ij.o.small (AM ij.o.size (by omega)) (HV.o.below HB.o))
 go_upto_region 4 with(first
  |(refine lw aK.o.blk underlying31 ?_)
  |(go_at_call 12;refine(ko.o).mono ?_;rw [HR.o];rintro e w3 ⟨he,hb⟩;obtain rfl:=he;have HB:=bt HB hb;have aK:=AF (aK.o.below hb);have dX:=AF hb;clear hb)
  |(refine sn #[.int .u8 0,.int .i64 0,.slice none 0 0,.slice none 0 0] ?_))
 have dF:Below w3.heap.size w3 (w3.alloc (.cells #[.int .u8 0,.int .i64 0,.slice none 0 0,.slice none 0 0] 28)):=bA;have HB:=bt HB dF;clear dF
 go_wp2_with (first
  |(go_at_call 11;refine(Iy (HV.o.below HB.o)).mono ?_;rintro e w9 ⟨rfl,hb⟩;have HB:=bt HB hb;clear hb))
 go_ret;exact⟨rfl,HB.o⟩
theorem ZBe{w:World}(hv:Vr w)(t:PA)(hl:LA.lies w t){x:TE}(hr:JG t=.ok x):Calls prog 5 #[DP t.head] w (RB w (.bool true)):=by
 have HB:=AF ((AA w.heap.size w).alloc (AB _) (Bt t.head));have aK:=AF (C8 w t.head);have HV:=AF hv;have HR:=AF hr;have df:=AF (ST t (LA.lies_below HB.o t hl));clear hl hv hr;go_enter func5,ntmps5;go_upto_region 1 with fail
 go_upto_region 3 with(first
  |(refine lw aK.o.blk underlying31 ?_)
  |(go_at_call 10;refine df.o.mono ?_;rintro e w8 ⟨⟨r,rfl,cA⟩,hb⟩;have HB:=bt HB hb;have aK:=AF (aK.o.below hb);have qm:=AF hb;clear hb;have nr:=AF cA;clear cA;cases r;have ij:=AF ((nr.o (by first|trivial|rfl)).below qm.o))
  |(go_at_call 11;refine(Iy (HV.o.below HB.o)).mono ?_;rintro e w9 ⟨rfl,hb⟩;have HB:=bt HB hb;clear hb))
 all_goals (try (go_ret;exact⟨rfl,HB.o⟩))
 have ko:=AF (Hp (t:=t) ij.o.lies ij.o.small (AM ij.o.size (by omega)) (HV.o.below HB.o));have qK:=AF (Vj ij.o.lies ij.o.small HR.o)
 go_upto_region 4 with(first
  |(refine lw aK.o.blk underlying31 ?_)
  |(go_at_call 12;refine(ko.o).mono ?_;rw [HR.o];rintro e w3 ⟨⟨y3,q3,m3,c3,rfl,j3,jX,aC⟩,hb⟩;have rL:=AF j3;have qz:=AF jX;have rR:=AF aC;clear j3 jX aC;have HB:=bt HB hb;have aK:=AF (aK.o.below hb);have dX:=AF hb;clear hb)
  |(refine n4 y3 ?_))
 have dF:Below w3.heap.size w3 (w3.alloc (.cells #[.int .u8 y3.head.kind,.int .i64 y3.head.rho,.slice y3.head.ep y3.head.en y3.head.ec,.slice y3.head.kp y3.head.kn y3.head.kc] 28)):=bA;have HB:=bt HB dF;have aK:=AF (aK.o.below dF);have mD:=AF (LA.lies_below dF _ (LA.lies_below dX.o _ ij.o.lies));have tg:=AF ij.o.size;generalize w3.alloc (.cells #[.int .u8 y3.head.kind,.int .i64 y3.head.rho,.slice y3.head.ep y3.head.en y3.head.ec,.slice y3.head.kp y3.head.kn y3.head.kc] 28)=W4 at *
 clear dF dX ij ko rL qz rR;have qF:=AF (Pb t W4 mD.o (AM tg.o (by omega)))
 go_upto_region 7 with(first
  |(refine lw aK.o.blk underlying31 ?_)
  |(go_at_call 20;refine qF.o.mono ?_;rintro e w5 ⟨y,rfl,pv,pu,hb⟩;have HB:=bt HB hb;have mS:=AF pv;have nM:=AF pu;clear pv pu hb;have qo:=AF (Pa y mS.o (by have h1:=qK.o.2.2.2;rw [<-nM.o] at h1;have h2:(Ga.er y).size=y.size:=Ad.size_map _ _;have:=tg.o;omega) (by rw [nM.o];exact qK.o.1) (by rw [nM.o];exact qK.o.2.1) (by rw [nM.o];exact qK.o.2.2.1)))
  |(go_at_call 19;refine qo.o.mono ?_;rintro e w6 ⟨d,z,f,rfl,hf,hb⟩;have HB:=bt HB hb;have HF:=AF hf;clear hf hb)
  |(refine sn #[.int .u8 d.hd.kind,.int .u8 d.hd.op,.int .i64 d.hd.at_,.int .i64 d.hd.n,.string d.hd.name,.string d.hd.arg,.string d.hd.exn,.int .u8 d.ty.head.kind,.int .i64 d.ty.head.var,.slice d.ty.head.kp d.ty.head.kn d.ty.head.kc,.int .u8 d.bind.head.kind,.int .i64 d.bind.head.var,.slice d.bind.head.kp d.bind.head.kn d.bind.head.kc,.slice d.kp d.kn d.kc] ?_))
 have HB:=AF (HB.o.alloc HB.o.size (.cells (cDa d) 48));generalize w6.alloc (.cells (cDa d) 48)=W7 at *
 have hf:=HF.o;rcases hf with hf|hf
 ·subst hf
  go_wp2_with (first
   |(go_at_call 11;refine(Iy (HV.o.below HB.o)).mono ?_;rintro e w9 ⟨rfl,hb⟩;have HB:=bt HB hb;clear hb))
  go_ret;exact⟨rfl,HB.o⟩
 ·subst hf
  go_wp2_with (first
   |(go_at_call 11;refine(Iy (HV.o.below HB.o)).mono ?_;rintro e w9 ⟨rfl,hb⟩;have HB:=bt HB hb;clear hb))
  go_ret;exact⟨rfl,HB.o⟩
theorem ZR{w:World}(hv:Vr w)(t:PA)(hl:LA.lies w t):Calls prog 5 #[DP t.head] w (RB w (.bool true)):=by
 cases hr:JG t with
 |error e=>obtain⟨z,no⟩:=e;exact ZM hv t hl hr
 |ok x=>exact ZBe hv t hl hr
def ZCp:DataW Unit->List Value
 |.lit (.int k z)=>[.int k z]
 |_=>[]
def ZDZ:DataW Unit->List Value
 |.agg l=>l.flatMap ZCp
 |d=>ZCp d
def ZCq:DataW Unit->List Value
 |.agg l=>l.flatMap ZDZ
 |_=>[]
def ZDb(h:Array Obj)(g:Nat)(cs:Array Value):Array Obj:=h.modify g fun
 |.cells _ t frozen=>.cells cs t frozen
 |o=>o
noncomputable def laidW (os:Os):World:={ World.holding prog os ⟨#[],#[],[]⟩ with heap:=ZDb (ZDb (World.holding prog os ⟨#[],#[],[]⟩).heap 1 (ZCq Rows.laid_unicode_utf8_first).toArray) 2 (ZCq Rows.laid_unicode_utf8_acceptRanges).toArray }
end Go.Proofs.YtkdjnegfnhldpaaGreatDoor
