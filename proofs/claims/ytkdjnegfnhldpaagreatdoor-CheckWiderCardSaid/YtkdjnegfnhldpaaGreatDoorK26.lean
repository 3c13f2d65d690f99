/- Part 26. -/
import Derived.Test.YtkdjnegfnhldpaaGreatDoorK25
set_option linter.unusedVariables false
set_option maxRecDepth 100000
set_option linter.unusedSimpArgs false
set_option maxHeartbeats 40000000
namespace Go.Proofs.YtkdjnegfnhldpaaGreatDoor
open Go.Proofs.Tryz Go.RowKit
theorem ML{p:Option Addr}{n cap:Nat}{l:List AB}{q:Option Addr}{m mc:Nat}{l':List AB}{w:World}{u:Bool}(hu:Ag l l'=u)(hr:AF AP 3 w p n cap l)(ah:AF AP 3 w q m mc l'):Calls prog 135 #[.slice p n cap,.slice q m mc] w (RB w (.bool u)):=by subst hu;exact Cj p n cap l q m mc l' w hr.len hr.max hr.row ah.len ah.max ah.row
theorem Vk{W:World}{b o n c:Nat}{x y:RV}{l:List RV}(h:AF Bt 5 W (some ⟨b,o,none⟩) n c (x::y::l))(i:Nat)(v:Value)(hv:(Bt y)[i]?=some v):W.cell? ⟨b,o+5+i,none⟩=some v:=by have:=Oc h (j:=1) rfl i v hv;simpa using this
theorem SR{w:World}{S:Nat→Prop}{a:AH}{b o c:Nat}{x:RV}(h:Dm w S a (some ⟨b,o,none⟩) 1 c [x])(hk:a.kind=11):Calls prog 144 #[An a,.slice (some ⟨b,o,none⟩) 1 c] w (Co w S (Bv a.plain (BM [x]))):=by
 have HX:=AA (B3 w a);have HH:=AA h;have bX:=h.sum;have e11:(a.kind==11)=true:=by simp [hk]
 have bE:=HX.o.box.c 0 _ rfl;have bZ:Hd (Bv a.plain (BM [x])=A6 (Ag x.eff a.eff) a.plain 6 (.ok (H8 4 a.rho a.eff [a.ty.er,x.ty.er],BE [Bu a.rho]))):=by show _=_;unfold Bv;simp [show a.plain.kind=11 from hk,BM];try first|rfl|exact⟨rfl,rfl⟩
 rw [bZ.o];obtain⟨v,hv⟩:∃v,Ag x.eff a.eff=v:=⟨_,rfl⟩;rw [hv];have HW:=AA hv;clear hv;have gS:a.en≤1000000:=by have h1:=h.own.eff.len;have h2:=Dq h.small.eff;omega
 clear h hk;go_enter func144,ntmps144;go_upto_region 3 with fail;clear bE e11;generalize (w.alloc (AO a)).alloc (.cells #[.int .u8 0,.int .i64 0,.slice none 0 0,.slice none 0 0,.slice none 0 0] 81)=W1 at *
 refine rg (fun W'=>EJ w a W') (HX.o.drew) fun aA=>?_;refine tp 0 10 ?_;refine tp 1 11 ?_;refine tp 2 12 ?_;refine tp 3 13 ?_ (hy:=fun w aC=>by(try dsimp only at aC);have q4:=Kx (HH.o.res.row.below aC.below) 4 _ rfl;go_simp;try with_reducible rfl);refine tp 4 14 ?_;refine tp 5 15 ?_ (hy:=fun w aC=>by(try dsimp only at aC);have q9:=aC.box.c 9 _ rfl;go_simp;try with_reducible rfl);refine ta 7 17 a w.heap.size 0 (fun W' aC=>aC.box.range) ?_;refine tr 6 16 fun K hK=>?_;go_simp;go_at_call 135;refine(ML HW.o ((HH.o.res.each x (by simp)).eff.below aA.below) (HH.o.own.eff.below aA.below)).mono ?_;rintro e w8 ⟨rfl,hb⟩;try go_wp2_with fail
 refine tn hK (aA.step hb) ?_;clear aA hK K;intro aA;refine tr 8 18 fun K hK=>?_;go_simp;cases v
 ·go_at_call 64;refine(BA a 6 _).mono ?_;rintro e w9 ⟨rfl,hb⟩;exact⟨rfl,rfl,(aA.step hb).below⟩
 go_at_call 64;refine(A7 a 6 _).mono ?_;rintro e w9 ⟨rfl,hb⟩;try go_wp2_with fail
 refine tn hK (aA.step hb) ?_;clear aA hK K;intro aA;refine dn ?_;clear HX;have HX:=AA aA;clear aA;go_upto_region 4 with fail;refine rg (fun W'=>EJ w a W') (HX.o.drew) fun aA=>?_;refine tp 0 19 ?_;refine tp 1 20 ?_ (hy:=fun w aC=>by(try dsimp only at aC);have q7:=aC.box.c 7 _ rfl;go_simp;try with_reducible rfl);refine tp 2 21 ?_;refine tp 3 22 ?_ (hy:=fun w aC=>by(try dsimp only at aC);have q9:=aC.box.c 9 _ rfl;go_simp;try with_reducible rfl);refine tp 4 23 ?_;refine t4 5 24 a.ty w.heap.size 10 (fun W' aC=>BO aC.box 10 4 rfl) ?_;refine tp 6 25 ?_;refine tp 7 26 ?_;refine tp 8 27 ?_;refine t4 9 28 x.ty b o (fun W' aC=>Fe (HH.o.res.row.below aC.below)) ?_;refine tp 12 31 ?_;refine tp 13 32 ?_ (hy:=fun w aC=>by(try dsimp only at aC);have q7:=aC.box.c 7 _ rfl;go_simp;try with_reducible rfl);refine tr 10 29 fun K hK=>?_;go_simp;refine tn hK (aA.alloc _) ?_;clear aA hK K;intro aA;refine tr 11 30 fun K hK=>?_;go_simp;have aL:=aA.size;go_at_call 136;refine(CT 4 a.rho (HH.o.own.eff.below aA.below) gS (some ⟨w9.heap.size,0,none⟩) 2 2).mono ?_;rintro e w2 ⟨q,m,qc,rfl,aB,bM,hb⟩;have bK:=AA aB;have dt:Hd (∀ad,q=some ad→w.heap.size+2≤ad.block):=fun ad hp=>Nat.le_trans aL (bM ad hp);have fb:Hd (Cy w2 (some ⟨w9.heap.size,0,none⟩) 2 2 [a.ty,x.ty]):=((IZ (LR.lies_below HX.o.below _ HH.o.own.ty) (LR.lies_below HX.o.below _ (HH.o.res.each x (by simp)).ty) 28).below (AR _)).below hb;clear aB bM aL;try go_wp2_with fail
 refine tn hK (aA.step hb) ?_;clear aA hK K;intro aA;refine tr 14 33 fun K hK=>?_;go_simp;go_at_call 138;refine(Cc a.rho _).mono ?_;rintro e w3 ⟨rfl,hb⟩;have aT:=AA hb;try go_wp2_with fail
 refine tn hK (aA.step hb) ?_;clear aA hK K;intro aA;refine tr 15 34 fun K hK=>?_;go_simp;refine tn hK (aA.alloc _) ?_;clear aA hK K;intro aA;refine tr 16 35 fun K hK=>?_;go_simp;have aL:=aA.size;go_at_call 100;refine(BW _ 1 1 [Bu a.rho] _ rfl (by decide) (Dy w3 (Bu a.rho)).row).mono ?_;rintro e w5 ⟨v5,k5,rfl,_,aF,hb⟩;obtain⟨q5,c5,rfl,aK⟩:=AI.isRow AC (by omega) aF;have aN:=(fun ad hp=>Nat.le_trans aL (by subst hp;exact AI.from aF ad.block rfl):∀ad,q5=some ad→w.heap.size+2≤ad.block);have bR:Hd (AF AP 3 w5 q5 k5 c5 (BE [Bu a.rho])):=aK;have bp:=AA aN;have bJ:=AA hb;clear aF aK aN aL;try go_wp2_with fail
 refine tn hK (aA.step hb) ?_;clear aA hK K;intro aA;refine tp 17 36 ?_;refine DH 18 fun K hK=>?_;have aW:=AA aA;refine Al rfl _ _ _ (by rfl) aA #[.int .u8 4,.int .i64 a.rho,.slice q m qc,.slice (some ⟨w9.heap.size,0,none⟩) 2 2,.slice q5 k5 c5] (by rfl) (by rfl) (by kernel_rfl) rfl (by simp [Value.oneCell']) ?_;refine tn hK (aA.store rfl) ?_;clear aA hK K;intro aA;refine dn ?_;clear aA;go_wp2_with fail;refine br (aW.o.heap _) underlying81 ?_;have aD:=HH.o.own;have df:Below w2.heap.size w2 w5:=AL (AQ aT.o _) bJ.o;have dM:=HX.o.size;refine DN (y:=⟨.node ⟨4,a.rho,q,m,qc,BE a.eff,some ⟨w9.heap.size,0,none⟩,2,2⟩ [a.ty,x.ty],q5,k5,c5,BE [Bu a.rho]⟩) aW.o HH.o.new ⟨I8 (by decide) aD.rho (bK.o.below df) (fun z hz=>aD.eok z ((Ar _ _).1 hz).1) (fb.o.below df),?_,bR.o,(fun z hz=>by have:=((Ar _ _).1 hz).1;rw [List.mem_singleton] at this;subst this;exact FN aD.rho.1 aD.rho.2),fun _ ad hp=>.inr (bp.o ad hp)⟩ rfl;exact I9 (fun z hz=>.inl ⟨Aa _ aD.ty z hz,HH.o.ty z hz⟩) ((Du HH.o.res (Below.refl _ _)).each x (by simp)).uses (.inr dM) (fun _ ad hp=>.inr (dt.o ad hp))
theorem MY{w:World}{S:Nat→Prop}{a:AH}{b o c:Nat}{x y:RV}(h:Dm w S a (some ⟨b,o,none⟩) 2 c [x,y])(hk:a.kind=16):Calls prog 144 #[An a,.slice (some ⟨b,o,none⟩) 2 c] w (Co w S (Bv a.plain (BM [x,y]))):=by
 have HX:=AA (B3 w a);have HH:=AA h;have bX:=h.sum;have e11:(a.kind==11)=false:=by simp [hk]
 have e13:(a.kind==13)=false:=by simp [hk]
 have e16:(a.kind==16)=true:=by simp [hk]
 have bE:=HX.o.box.c 0 _ rfl;have bZ:Hd (Bv a.plain (BM [x,y])=A6 (Cl x.ty y.ty) a.plain 5 (.ok (x.ty.er,BE (CZ x.eff [a.exn]++y.eff)))):=by show _=_;unfold Bv;simp [show a.plain.kind=16 from hk,BM];try first|rfl|exact⟨rfl,rfl⟩
 rw [bZ.o];obtain⟨v,hv⟩:∃v,Cl x.ty y.ty=v:=⟨_,rfl⟩;rw [hv];have HV:=AA hv;clear hv;clear h hk;go_enter func144,ntmps144;go_upto_region 10 with fail;clear bE e11 e13 e16;generalize (w.alloc (AO a)).alloc (.cells #[.int .u8 0,.int .i64 0,.slice none 0 0,.slice none 0 0,.slice none 0 0] 81)=W1 at *
 refine rg (fun W'=>EJ w a W') (HX.o.drew) fun aA=>?_;refine tp 0 71 ?_;refine tp 1 72 ?_;refine tp 2 73 ?_;refine t4 3 74 x.ty b o (fun W' aC=>Fe (HH.o.res.row.below aC.below)) ?_;refine tp 4 75 ?_;refine tp 5 76 ?_;refine tp 6 77 ?_;refine t4 7 78 y.ty b (o+5) (fun W' aC=>Gb (HH.o.res.row.below aC.below)) ?_;refine ta 9 80 a w.heap.size 0 (fun W' aC=>aC.box.range) ?_;refine tr 8 79 fun K hK=>?_;go_simp;go_at_call 142;refine(DE HV.o (LR.lies_below aA.below _ (HH.o.res.each x (by simp)).ty) (LR.lies_below aA.below _ (HH.o.res.each y (by simp)).ty)).mono ?_;rintro e w7 ⟨rfl,hb⟩;try go_wp2_with fail
 refine tn hK (aA.step hb) ?_;clear aA hK K;intro aA;refine tr 10 81 fun K hK=>?_;go_simp;cases v
 ·go_at_call 64;refine(BA a 5 _).mono ?_;rintro e w9 ⟨rfl,hb⟩;exact⟨rfl,rfl,(aA.step hb).below⟩
 go_at_call 64;refine(A7 a 5 _).mono ?_;rintro e w9 ⟨rfl,hb⟩;try go_wp2_with fail
 refine tn hK (aA.step hb) ?_;clear aA hK K;intro aA;refine dn ?_;clear HX;have HX:=AA aA;clear aA;go_upto_region 11 with fail;refine rg (fun W'=>EJ w a W') (HX.o.drew) fun aA=>?_;refine tp 0 82 ?_;refine tp 1 83 ?_;refine tp 2 84 ?_;refine t4 3 85 x.ty b o (fun W' aC=>Fe (HH.o.res.row.below aC.below)) ?_;refine tp 4 86 ?_;refine tp 5 87 ?_;refine tp 6 88 ?_;refine tp 7 89 ?_ (hy:=fun w aC=>by(try dsimp only at aC);have q4:=Kx (HH.o.res.row.below aC.below) 4 _ rfl;go_simp;try with_reducible rfl);refine tp 8 90 ?_;refine tp 9 91 ?_;refine tp 10 92 ?_ (hy:=fun w aC=>by(try dsimp only at aC);have q6:=aC.box.c 6 _ rfl;go_simp;try with_reducible rfl);refine tp 13 95 ?_;refine tp 14 96 ?_;refine tp 15 97 ?_;refine tp 16 98 ?_ (hy:=fun w aC=>by(try dsimp only at aC);have q5:=Vk (HH.o.res.row.below aC.below) 4 _ rfl;go_simp;try with_reducible rfl);refine tr 11 93 fun K hK=>?_;go_simp;refine tn hK (aA.alloc _) ?_;clear aA hK K;intro aA;refine tr 12 94 fun K hK=>?_;go_simp;go_at_call 195;refine(Hm ((HH.o.res.each x (by simp)).eff.below aA.below) (by simp at bX;omega) ((AW IL (by omega) w9 9 [a.exn] 1 #[.string a.exn] rfl rfl (by decide)).below (AR _))).mono ?_;rintro e w4 ⟨v4,k4,rfl,el,dp,hb⟩;obtain⟨q4,c4,rfl,cF⟩:=AI.isRow AC (by omega) dp;have fo:=AA el;have dV:=AA cF;clear dp cF el;try go_wp2_with fail
 refine tn hK (aA.step hb) ?_;clear aA hK K;intro aA;refine tr 17 99 fun K hK=>?_;go_simp;refine tn hK (aA.alloc _) ?_;clear aA hK K;intro aA;refine tr 18 100 fun K hK=>?_;go_simp;have aL:=aA.size;go_at_call 85;refine(C4 _ 2 2 [⟨q4,k4,c4,CZ x.eff [a.exn]⟩,⟨y.ep,y.en,y.ec,y.eff⟩] _ rfl (by decide) (Or _ _ _) (Tt (dV.o.alloc _) ((HH.o.res.each y (by simp)).eff.below aA.below)) (by have h1:=fo.o;simp at bX ⊢;omega)).mono ?_;rintro e w5 ⟨v5,k5,rfl,_,aF,hb⟩;obtain⟨q5,c5,rfl,aK⟩:=AI.isRow AC (by omega) aF;have aN:=(fun ad hp=>Nat.le_trans aL (by subst hp;exact AI.from aF ad.block rfl):∀ad,q5=some ad→w.heap.size+2≤ad.block);have bR:Hd (AF AP 3 w5 q5 k5 c5 (BE (CZ x.eff [a.exn]++y.eff))):=by have h:=aK;simp only [List.flatMap_cons,List.flatMap_nil,List.append_nil] at h;exact h
 have bp:=AA aN;clear aF aK aN aL;try go_wp2_with fail
 refine tn hK (aA.step hb) ?_;clear aA hK K;intro aA;refine tp 19 101 ?_;refine DH 20 fun K hK=>?_;have aW:=AA aA;refine Al rfl _ _ _ (by rfl) aA #[.int .u8 x.ty.head.kind,.int .i64 x.ty.head.rho,.slice x.ty.head.ep x.ty.head.en x.ty.head.ec,.slice x.ty.head.kp x.ty.head.kn x.ty.head.kc,.slice q5 k5 c5] (by rfl) (by rfl) (by kernel_rfl) rfl (by simp [Value.oneCell']) ?_;refine tn hK (aA.store rfl) ?_;clear aA hK K;intro aA;refine dn ?_;clear aA;go_wp2_with fail;refine br (aW.o.heap _) underlying81 ?_;have hr:=(HH.o.res.each x (by simp));have dL:=(HH.o.res.each y (by simp));refine DN (y:=⟨x.ty,q5,k5,c5,BE (CZ x.eff [a.exn]++y.eff)⟩) aW.o HH.o.new ⟨LR.lies_below aW.o.below _ hr.ty,((Du HH.o.res (Below.refl _ _)).each x (by simp)).uses,bR.o,fun z hz=>?_,fun _ ad hp=>.inr (bp.o ad hp)⟩ rfl;rcases List.mem_append.1 ((Ar _ _).1 hz).1 with hz|hz
 ·exact hr.eok z ((Dd _ _ _).1 hz).1
 ·exact dL.eok z hz
theorem Uh{W:World}{b o c:Nat}{x y:RV}(h:AF Bt 5 W (some ⟨b,o,none⟩) 2 (c+2) [x,y]):AF Bt 5 W (some ⟨b,o+5,none⟩) 1 (c+1) [y]:=by
 refine⟨rfl,by decide,?_,?_,?_⟩
 ·omega
 ·intro hn;cases hn
 ·obtain⟨b',o',hp,aG,hc⟩:=h.row.elem (j:=1) rfl;cases hp;refine .inr ⟨b,o+5,rfl,aG,fun j z hz i v hv=>?_⟩;cases j with
  |zero=>cases hz;simpa using hc i v hv
  |succ j=>cases hz
theorem MZ{w:World}{S:Nat→Prop}{a:AH}{b o c:Nat}{x y:RV}(h:Dm w S a (some ⟨b,o,none⟩) 2 c [x,y])(hk:a.kind=13):Calls prog 144 #[An a,.slice (some ⟨b,o,none⟩) 2 c] w (Co w S (Bv a.plain (BM [x,y]))):=by
 obtain⟨c,rfl⟩:∃e,c=e+2:=⟨c-2,by have:=h.res.row.le;omega⟩;have HX:=AA (B3 w a);have HH:=AA h;have bX:=h.sum;have e11:(a.kind==11)=false:=by simp [hk]
 have e13:(a.kind==13)=true:=by simp [hk]
 have bE:=HX.o.box.c 0 _ rfl;have bZ:Hd (Bv a.plain (BM [x,y])=A6 (Cl x.ty a.res) a.plain 5 (A6 (Ag x.eff a.eff) a.plain 6 (.ok (y.ty.er,A1 (BM [y]) [Bu a.rho])))):=by show _=_;unfold Bv;simp [show a.plain.kind=13 from hk,BM];try first|rfl|exact⟨rfl,rfl⟩
 rw [bZ.o];obtain⟨v,hv⟩:∃v,Cl x.ty a.res=v:=⟨_,rfl⟩;obtain⟨u,hu⟩:∃u,Ag x.eff a.eff=u:=⟨_,rfl⟩;rw [hv,hu];have HV:=AA hv;have HW:=AA hu;clear hv hu;clear h hk;go_enter func144,ntmps144;go_upto_region 6 with fail;clear bE e11 e13;generalize (w.alloc (AO a)).alloc (.cells #[.int .u8 0,.int .i64 0,.slice none 0 0,.slice none 0 0,.slice none 0 0] 81)=W1 at *
 refine rg (fun W'=>EJ w a W') (HX.o.drew) fun aA=>?_;refine tp 0 39 ?_;refine tp 1 40 ?_;refine tp 2 41 ?_;refine t4 3 42 x.ty b o (fun W' aC=>Fe (HH.o.res.row.below aC.below)) ?_;refine tp 4 43 ?_;refine t4 5 44 a.res w.heap.size 14 (fun W' aC=>BO aC.box 14 4 rfl) ?_;refine ta 7 46 a w.heap.size 0 (fun W' aC=>aC.box.range) ?_;refine tr 6 45 fun K hK=>?_;go_simp;go_at_call 142;refine(DE HV.o (LR.lies_below aA.below _ (HH.o.res.each x (by simp)).ty) (LR.lies_below aA.below _ HH.o.own.res)).mono ?_;rintro e w7 ⟨rfl,hb⟩;try go_wp2_with fail
 refine tn hK (aA.step hb) ?_;clear aA hK K;intro aA;refine tr 8 47 fun K hK=>?_;go_simp;cases v
 ·go_at_call 64;refine(BA a 5 _).mono ?_;rintro e w9 ⟨rfl,hb⟩;exact⟨rfl,rfl,(aA.step hb).below⟩
 go_at_call 64;refine(A7 a 5 _).mono ?_;rintro e w9 ⟨rfl,hb⟩;try go_wp2_with fail
 refine tn hK (aA.step hb) ?_;clear aA hK K;intro aA;refine dn ?_;clear HX;have HX:=AA aA;clear aA;go_upto_region 7 with fail;refine rg (fun W'=>EJ w a W') (HX.o.drew) fun aA=>?_;refine tp 0 48 ?_;refine tp 1 49 ?_;refine tp 2 50 ?_;refine tp 3 51 ?_ (hy:=fun w aC=>by(try dsimp only at aC);have q4:=Kx (HH.o.res.row.below aC.below) 4 _ rfl;go_simp;try with_reducible rfl);refine tp 4 52 ?_;refine tp 5 53 ?_ (hy:=fun w aC=>by(try dsimp only at aC);have q9:=aC.box.c 9 _ rfl;go_simp;try with_reducible rfl);refine ta 7 55 a w.heap.size 0 (fun W' aC=>aC.box.range) ?_;refine tr 6 54 fun K hK=>?_;go_simp;go_at_call 135;refine(ML HW.o ((HH.o.res.each x (by simp)).eff.below aA.below) (HH.o.own.eff.below aA.below)).mono ?_;rintro e w8 ⟨rfl,hb⟩;try go_wp2_with fail
 refine tn hK (aA.step hb) ?_;clear aA hK K;intro aA;refine tr 8 56 fun K hK=>?_;go_simp;cases u
 ·go_at_call 64;refine(BA a 6 _).mono ?_;rintro e w10 ⟨rfl,hb⟩;exact⟨rfl,rfl,(aA.step hb).below⟩
 go_at_call 64;refine(A7 a 6 _).mono ?_;rintro e w10 ⟨rfl,hb⟩;try go_wp2_with fail
 refine tn hK (aA.step hb) ?_;clear aA hK K;intro aA;refine dn ?_;clear HX;have HX:=AA aA;clear aA;go_upto_region 8 with fail;refine rg (fun W'=>EJ w a W') (HX.o.drew) fun aA=>?_;refine tp 0 57 ?_;refine tp 1 58 ?_;refine tp 2 59 ?_;refine t4 3 60 y.ty b (o+5) (fun W' aC=>Gb (HH.o.res.row.below aC.below)) ?_;refine tp 4 61 ?_;refine tp 5 62 ?_ (hy:=fun w aC=>by(try dsimp only at aC);have ci:=HH.o.res.row.le;go_simp;try with_reducible rfl);refine tp 6 63 ?_;refine tp 7 64 ?_ (hy:=fun w aC=>by(try dsimp only at aC);have q7:=aC.box.c 7 _ rfl;go_simp;try with_reducible rfl);refine tr 8 65 fun K hK=>?_;go_simp;go_at_call 138;refine(Cc a.rho _).mono ?_;rintro e w3 ⟨rfl,hb⟩;have aT:=AA hb;try go_wp2_with fail
 refine tn hK (aA.step hb) ?_;clear aA hK K;intro aA;refine tr 9 66 fun K hK=>?_;go_simp;refine tn hK (aA.alloc _) ?_;clear aA hK K;intro aA;refine tr 10 67 fun K hK=>?_;go_simp;have aL:=aA.size;go_at_call 140;refine(Ax (Uh (HH.o.res.row.below aA.below)) (fun r hr=>((HH.o.res.each r (by rw [List.mem_singleton] at hr;subst hr;simp)).below aA.below).eff) (Dy w3 (Bu a.rho)) (by decide) (by simp at bX ⊢;omega)).mono ?_;rintro e w5 ⟨v5,k5,rfl,aF,hb⟩;obtain⟨q5,c5,rfl,aK⟩:=AI.isRow AC (by omega) aF;have aN:=(fun ad hp=>Nat.le_trans aL (by subst hp;exact AI.from aF ad.block rfl):∀ad,q5=some ad→w.heap.size+2≤ad.block);have bR:=AA aK;have bp:=AA aN;clear aF aK aN aL;try go_wp2_with fail
 refine tn hK (aA.step hb) ?_;clear aA hK K;intro aA;refine tp 11 68 ?_;refine DH 12 fun K hK=>?_;have aW:=AA aA;refine Al rfl _ _ _ (by rfl) aA #[.int .u8 y.ty.head.kind,.int .i64 y.ty.head.rho,.slice y.ty.head.ep y.ty.head.en y.ty.head.ec,.slice y.ty.head.kp y.ty.head.kn y.ty.head.kc,.slice q5 k5 c5] (by rfl) (by rfl) (by kernel_rfl) rfl (by simp [Value.oneCell']) ?_;refine tn hK (aA.store rfl) ?_;clear aA hK K;intro aA;refine dn ?_;clear aA;go_wp2_with fail;refine br (aW.o.heap _) underlying81 ?_;have hr:=(HH.o.res.each y (by simp));have aD:=HH.o.own;exact DN (y:=⟨y.ty,q5,k5,c5,A1 (BM [y]) [Bu a.rho]⟩) aW.o HH.o.new ⟨LR.lies_below aW.o.below _ hr.ty,((Du HH.o.res (Below.refl _ _)).each y (by simp)).uses,bR.o,Cz (fun r hr=>(HH.o.res.each r (by rw [List.mem_singleton] at hr;subst hr;simp)).eok) (fun z hz=>by rw [List.mem_singleton] at hz;subst hz;exact FN aD.rho.1 aD.rho.2),fun _ ad hp=>.inr (bp.o ad hp)⟩ rfl
theorem Qr{w W:World}{S:Nat→Prop}{a:AH}{p:Option Addr}{n c:Nat}{l:List RV}(h:Dm w S a p n c l)(hb:Below w.heap.size w W)(hs:w.heap.size+2≤W.heap.size):Dm W (Sn w S) a p n c l:=⟨LA.below h.own hb,h.small,Du h.res hb,fun b hb=>.inr (by omega),fun b hb=>.inl ⟨Aa _ h.own.ty b hb,h.ty b hb⟩,h.few,h.sum,h.good⟩
theorem Ek{w:World}{S:Nat→Prop}{a:AH}{p:Option Addr}{n c:Nat}{l:List RV}(h:Dm w S a p n c l)(hk:a.kind=11∨a.kind=12∨a.kind=13∨a.kind=16∨a.kind=17)(HB:∀W,Dm W (Sn w S) a p n c l→Calls prog 144 #[An a,.slice p n c] W (Co W (Sn w S) (Bv a.plain (BM l)))):Calls prog 99 #[An a,.slice p n c] w (Co w S (A3 a.plain (BM l))):=by
 have HX:=AA (B3 w a);have HH:=AA h;have kL:=AA HB;clear HB;have n3:a.kind≠3:=by omega
 have n4:a.kind≠4:=by omega
 have n5:a.kind≠5:=by omega
 have n6:a.kind≠6:=by omega
 have n7:a.kind≠7:=by omega
 have n8:a.kind≠8:=by omega
 have n10:a.kind≠10:=by omega
 have n9:a.kind≠9:=by omega
 have n14:a.kind≠14:=by omega
 have n15:a.kind≠15:=by omega
 have n1:a.kind≠1:=by omega
 have bZ:Hd (A3 a.plain (BM l)=Bv a.plain (BM l)):=by show _=_;unfold A3;simp [show a.plain.kind=a.kind from rfl,n3,n4,n5,n6,n7,n8,n10,n9,n14,n15,n1]
 rw [bZ.o];clear bZ;revert kL;generalize Bv a.plain (BM l)=R;intro kL;have e3:(a.kind==3)=false:=by simp [n3]
 have e4:(a.kind==4)=false:=by simp [n4]
 have e5:(a.kind==5)=false:=by simp [n5]
 have e6:(a.kind==6)=false:=by simp [n6]
 have e7:(a.kind==7)=false:=by simp [n7]
 have e8:(a.kind==8)=false:=by simp [n8]
 have e10:(a.kind==10)=false:=by simp [n10]
 have e9:(a.kind==9)=false:=by simp [n9]
 have e14:(a.kind==14)=false:=by simp [n14]
 have e15:(a.kind==15)=false:=by simp [n15]
 have e1:(a.kind==1)=false:=by simp [n1]
 have bE:=HX.o.box.c 0 _ rfl;clear h hk n3 n4 n5 n6 n7 n8 n10 n9 n14 n15 n1;rcases R with⟨r1,r2⟩|r
 ·go_enter func99,ntmps99;go_upto_region 2 with fail;clear bE e3 e4 e5 e6 e7 e8 e10 e9 e14 e15 e1;generalize (w.alloc (AO a)).alloc (.cells #[.int .u8 0,.int .i64 0,.slice none 0 0,.slice none 0 0,.slice none 0 0] 81)=W1 at *
  go_wp2_with (refine lw HX.o.box.blk underlying31 ?_);go_at_call 144;refine(kL.o _ (Qr HH.o HX.o.below HX.o.size)).mono ?_;rintro e W9 ⟨hr,hb⟩;subst hr;exact⟨rfl,rfl,(HX.o.step hb).below⟩
 ·go_enter func99,ntmps99;go_upto_region 2 with fail;clear bE e3 e4 e5 e6 e7 e8 e10 e9 e14 e15 e1;generalize (w.alloc (AO a)).alloc (.cells #[.int .u8 0,.int .i64 0,.slice none 0 0,.slice none 0 0,.slice none 0 0] 81)=W1 at *
  go_wp2_with (refine lw HX.o.box.blk underlying31 ?_);go_at_call 144;refine(kL.o _ (Qr HH.o HX.o.below HX.o.size)).mono ?_;rintro e W9 ⟨hr,hb⟩;obtain⟨y,rfl,dr,hy⟩:=hr;have aW:=AA (HX.o.step hb);have HY:=AA hy;have fG:=AA dr;clear hy dr HX;go_wp2_with (refine Dw rfl _ _ _ rfl aW.o (Bi y) (by rfl) (by rfl) (by kernel_rfl) rfl (by simp [Value.oneCell']) ?_);refine br (aW.o.heap _) underlying81 ?_;exact DN aW.o HH.o.new HY.o fG.o
section
variable {w:World} {S:Nat→Prop} {a:AH} {p:Option Addr} {n c:Nat} {l:List RV}
theorem TO(h:Dm w S a p n c l){x:RV}(hx:l[0]?=some x):∃b o,p=some ⟨b,o,none⟩:=by obtain⟨b,o,hp,_⟩:=h.res.row.row.elem hx;exact⟨b,o,hp⟩
theorem VX(h:Dm w S a p n c l)(hl:l.length=1):∃b o x,p=some ⟨b,o,none⟩∧n=1∧l=[x]:=by
 match l,h,hl with
 |[x],h,_=>obtain⟨b,o,hp⟩:=TO h (x:=x) rfl;exact⟨b,o,x,hp,h.res.row.len.symm,rfl⟩
theorem VY(h:Dm w S a p n c l)(hl:l.length=2):∃b o x y,p=some ⟨b,o,none⟩∧n=2∧l=[x,y]:=by
 match l,h,hl with
 |[x,y],h,_=>obtain⟨b,o,hp⟩:=TO h (x:=x) rfl;exact⟨b,o,x,y,hp,h.res.row.len.symm,rfl⟩
theorem V7(h:Dm w S a p n c l)(hl:l.length=3):∃b o x y z,p=some ⟨b,o,none⟩∧n=3∧l=[x,y,z]:=by
 match l,h,hl with
 |[x,y,z],h,_=>obtain⟨b,o,hp⟩:=TO h (x:=x) rfl;exact⟨b,o,x,y,z,hp,h.res.row.len.symm,rfl⟩
theorem TT(h:Dm w S a p n c l)(hg:D1 a.plain l.length)(h2:a.kind≠2)(bL:a.kind≠18):Calls prog 99 #[An a,.slice p n c] w (Co w S (A3 a.plain (BM l))):=by
 have g1:1≤a.kind:=hg.k1;have g2:a.kind≤18:=hg.k18;have gk:BI (if a.kind=17 then 4 else if a.kind=18 then 1 else a.kind)=l.length:=hg.kids;have hc:a.kind=1∨a.kind=3∨a.kind=4∨a.kind=5∨a.kind=6∨a.kind=7∨a.kind=8∨a.kind=9∨a.kind=10∨a.kind=11∨a.kind=12∨a.kind=13∨a.kind=14∨a.kind=15∨a.kind=16∨a.kind=17:=by omega
 rcases hc with k|k|k|k|k|k|k|k|k|k|k|k|k|k|k|k
 ·exact TY h k
 ·obtain⟨b,o,x,y,rfl,rfl,rfl⟩:=VY h (by rw [k] at gk;simp [BI] at gk;omega);exact Rs h k
 ·obtain⟨b,o,x,rfl,rfl,rfl⟩:=VX h (by rw [k] at gk;simp [BI] at gk;omega);exact TV h k
 ·obtain⟨b,o,x,rfl,rfl,rfl⟩:=VX h (by rw [k] at gk;simp [BI] at gk;omega);exact Tb h k
 ·obtain⟨b,o,x,rfl,rfl,rfl⟩:=VX h (by rw [k] at gk;simp [BI] at gk;omega);exact TZ h k
 ·obtain⟨b,o,x,rfl,rfl,rfl⟩:=VX h (by rw [k] at gk;simp [BI] at gk;omega);exact TW h k
 ·obtain⟨b,o,x,y,rfl,rfl,rfl⟩:=VY h (by rw [k] at gk;simp [BI] at gk;omega);exact Ta h k
 ·exact Uf h k
 ·obtain⟨b,o,x,y,rfl,rfl,rfl⟩:=VY h (by rw [k] at gk;simp [BI] at gk;omega);exact TU h k
 ·obtain⟨b,o,x,rfl,rfl,rfl⟩:=VX h (by rw [k] at gk;simp [BI] at gk;omega);exact Ek h (by omega) fun W hW=>SR hW k
 ·obtain⟨b,o,x,y,rfl,rfl,rfl⟩:=VY h (by rw [k] at gk;simp [BI] at gk;omega);exact Ek h (by omega) fun W hW=>Q0 hW k
 ·obtain⟨b,o,x,y,rfl,rfl,rfl⟩:=VY h (by rw [k] at gk;simp [BI] at gk;omega);exact Ek h (by omega) fun W hW=>MZ hW k
 ·obtain⟨b,o,x,y,z,rfl,rfl,rfl⟩:=V7 h (by rw [k] at gk;simp [BI] at gk;omega);exact TX h k
 ·exact P9 h k
 ·obtain⟨b,o,x,y,rfl,rfl,rfl⟩:=VY h (by rw [k] at gk;simp [BI] at gk;omega);exact Ek h (by omega) fun W hW=>MY hW k
 ·obtain⟨b,o,x,rfl,rfl,rfl⟩:=VX h (by rw [k] at gk;simp [BI] at gk;omega);exact Ek h (by omega) fun W hW=>Ma hW k
end
theorem PY{w0 w:World}{S:Nat→Prop}{a:AH}{l:List PA}{p q:Option Addr}{n c m mc:Nat}{env:List BV}{rhos:List Int}(h:DV w0 w S (.node a l) p q n c m mc env rhos)(hu:Bh a.plain rhos=true)(h2:a.kind≠2)(bL:a.kind≠18)(ih:∀t∈l,MP w0 t):Calls prog 63 #[.agg #[.slice p n c,.slice q m mc],An a] w (Co w S (Bw (Ck env) rhos a.plain (l.map PA.er))):=by
 have HX:=AA (Ey w a (.slice p n c) (.slice q m mc));have HC:=AA h;have HN:=AA (Cb h.lies);have ct:CB a:=h.small a (by rw [AD.nodes_node];exact List.mem_cons_self);have dG:=AA ct;have ff:m≤900000:=by have:=h.hm;omega
 have gZ:n≤900000:=by have:=h.hn;omega
 have gN:=AA (LA.below (Cb h.lies).own (h.old.trans (HX.o.below.mono h.old.size)));clear ct;have HU:=AA hu;have oH:=AA ih;have H2:=AA h2;have gg:=AA bL;have HR:Hd (Bw (Ck env) rhos a.plain (l.map PA.er)=match FE (Ck env) rhos a.plain 0 [] (l.map PA.er) with|.error e=>.error e|.ok ks=>A3 a.plain ks):=by show _=_;unfold Bw;rw [hu];simp [show a.plain.kind=a.kind from rfl,h2,bL,A6];try rfl
 have e2:(a.kind==2)=false:=by simp [h2]
 have e18:(a.kind==18)=false:=by simp [bL]
 have cP:l.length=a.kn:=(Cb h.lies).kids.len;have bV:a.kn≤3:=by have hg:=h.good;rw [PA.er_node] at hg;have h1:=hg.head.kids;have h3:=OB (if a.plain.kind=17 then 4 else if a.plain.kind=18 then 1 else a.plain.kind);rw [List.length_map] at h1;omega
 have fp:=AA cP;clear hu h h2 bL cP;go_enter func63,ntmps63;go_upto_region 1 with fail;generalize (((w.alloc (.cells #[.slice p n c,.slice q m mc] 84)).alloc (AO a)).alloc (.cells #[.int .u8 0,.int .i64 0,.slice none 0 0,.slice none 0 0,.slice none 0 0] 81))=W1 at *
 go_upto_region 2 with(first
  |(refine lw HX.o.b.b0 underlying84 ?_)
  |(refine lw HX.o.b.b1.blk underlying31 ?_)
  |(go_at_call 95;refine(B4 gN.o dG.o p n c (HC.o.rhosA.below HX.o.below) ff).mono ?_;rintro e w2 ⟨hr,hb⟩;rw [HU.o] at hr;obtain rfl:=hr.1 rfl;have aV:=AA (HX.o.step hb);clear hr))
 have c0:=aV.o.b.b1.c 0 _ rfl;go_upto_region 11 with fail;clear c0;clear e2 e18;have c18:=aV.o.b.b1.c 18 _ rfl;obtain⟨KP,lh⟩:∃KP,a.kp=KP:=⟨_,rfl⟩;have oK:=AA lh;rw [lh] at c18;clear lh;go_wp2_with fail;clear c18;go_loopw [7,8,9,45] (fun s7 _ _ s45 wr=>∃(k:Nat) (rs:List RV),k≤a.kn∧s45=.int .i64 k∧D2 w S a l (.slice p n c) (.slice q m mc) (Ck env) rhos s7 k rs wr) (fun _ _ _ i _=>a.kn-(intOf i).toNat)
 case atStart=>exact⟨0,[],Nat.zero_le _,rfl,OC aV.o⟩
 case round=>
  obtain⟨k,rs,hk,rfl,lx⟩:=hrel;obtain⟨p7,c7,rfl,_,_,_⟩:=lx.row;have HK:=AA lx;clear lx aV;by_cases aG:k<a.kn
  ·have li:=(HN.o.rowT.below (HC.o.old.trans (HK.o.nd.below.mono HC.o.old.size)));obtain⟨x,hx⟩:=li.at (j:=k) aG;obtain⟨b,o,b8,al,ao⟩:=li.kid hx;rw [oK.o] at b8;subst b8;have eV:=AA hx;have dE:=AA ao;have ma:=AA (oH.o x (List.mem_of_getElem? hx));have bd:=AA (heap_alloc_new wr (.cells #[.int .u8 0,.int .u8 0,.int .i64 0,.int .i64 0,.string ⟨#[]⟩,.string ⟨#[]⟩,.string ⟨#[]⟩,.int .i64 0,.slice none 0 0,.slice none 0 0,.int .u8 0,.int .i64 0,.slice none 0 0,.slice none 0 0,.int .u8 0,.int .i64 0,.slice none 0 0,.slice none 0 0,.slice none 0 0] 31));clear li hx al ao
   go_upto_region 14 with(first
    |(refine lm (Bg x.head) dE.o.c underlying31 ?_)
    |(refine wpList_store_row rfl 31 _ _ rfl wr.heap.size (Bg x.head).toArray rfl rfl 31 _ bd.o (by kernel_rfl) rfl (all_oneCell_toArray (C5 x.head)) ?_;rw [World.setRow_alloc_new]))
   have jB:Hd (PC w a (.slice p n c) (.slice q m mc) wr.heap.size x.head (wr.alloc (AO x.head))):=⟨HK.o.nd.alloc _,Ah wr x.head⟩;have mO:=AA (HK.o.below ((Below.refl wr.heap.size wr).alloc (Nat.le_refl _) (AO x.head)));obtain⟨g,hg⟩:∃g,wr.heap.size=g:=⟨_,rfl⟩;have oV:Hd (∀b',(Value.slice p7 k c7).ownBlock=some b'→w.heap.size+3≤b'∧b'<g):=fun b' e=>by obtain⟨_,_,_,_,_,hh⟩:=HK.o.row;rw [←hg];exact hh b' e
   rw [show (wr.alloc (.cells (Bg x.head).toArray 31))=wr.alloc (AO x.head) from rfl];rw [hg] at jB ⊢;generalize (wr.alloc (AO x.head))=W2 at *
   clear hg bd dE HK;have iY:=AA (mO.o.below (AR W2));clear mO;cases jX:chk (Ai (Ck env) a.plain k (BM rs)) (Aq rhos a.plain k) (PA.er x) with
   |error er=>
    obtain⟨er1,er2⟩:=er;have fY:=AA jX;have fa:Hd (Bw (Ck env) rhos a.plain (l.map PA.er)=.error (er1,er2)):=by show _=_;rw [HR.o,iY.o.stop eV.o jX]
    clear jX HR;refine rg (fun W'=>PC w a (.slice p n c) (.slice q m mc) g x.head W') (jB.o.drew) fun aA=>?_;refine tp 0 50 ?_;refine tm 1 51 [.slice p n c,.slice q m mc] 84 w.heap.size 0 (fun W' aC=>aC.nd.b.r0) underlying84 ?_;refine ta 2 52 a (w.heap.size+1) 0 (fun W' aC=>aC.nd.b.b1.range) ?_;refine tp 3 53 ?_;refine tp 4 54 ?_;refine ta 6 56 x.head g 0 (fun W' aC=>aC.kid.range) ?_;refine tr 5 55 fun K hK=>?_;go_simp;go_at_call 98;obtain⟨_,_,kI,ay,f7,eE⟩:=iY.o.row;cases kI;refine(L2 k (Sm HC.o.envA aA.nd.below) (HC.o.rhosA.below aA.nd.below) (LA.below HN.o.own (HC.o.old.trans (aA.nd.below.mono HC.o.old.size))) HN.o.own (NF aA.nd.size (fun b' e=>(eE b' e).2)) (fun b' bB=>.inl ⟨Nat.lt_of_lt_of_le (Aa _ HN.o.own.ty b' bB) HC.o.old.size,HC.o.s0 b' (Aa _ HN.o.own.ty b' bB)⟩) gZ ff dG.o.rhos ay (fun _ e=>by rw [f7,e])).mono ?_;rintro e w3 ⟨p',n',c',env',q',m',c'',rfl,jO,iJ,j3,jx,im,hb⟩;have aT:=AA hb;have kO:=AA (HC.o.kid eV.o iY.o hb jO iJ j3 jx im);have kP:=AA iJ;clear ay f7 eE jO iJ j3 jx im;try go_wp2_with fail
    refine tn hK (aA.step hb) ?_;clear aA hK K;intro aA;refine tr 7 57 fun K hK=>?_;go_simp;go_at_call 38;refine(ma.o _ _ _ _ _ _ _ _ _ _ kO.o).mono ?_;rw [kP.o,fY.o];rintro e w4 ⟨hr,hb⟩;subst hr;exact⟨rfl,by rw [fa.o],(aA.step hb).nd.below⟩
   |ok r=>
    have fY:=AA jX;clear jX;refine rg (fun W'=>PC w a (.slice p n c) (.slice q m mc) g x.head W') (jB.o.drew) fun aA=>?_;refine tp 0 50 ?_;refine tm 1 51 [.slice p n c,.slice q m mc] 84 w.heap.size 0 (fun W' aC=>aC.nd.b.r0) underlying84 ?_;refine ta 2 52 a (w.heap.size+1) 0 (fun W' aC=>aC.nd.b.b1.range) ?_;refine tp 3 53 ?_;refine tp 4 54 ?_;refine ta 6 56 x.head g 0 (fun W' aC=>aC.kid.range) ?_;refine tr 5 55 fun K hK=>?_;go_simp;go_at_call 98;obtain⟨_,_,kI,ay,f7,eE⟩:=iY.o.row;cases kI;refine(L2 k (Sm HC.o.envA aA.nd.below) (HC.o.rhosA.below aA.nd.below) (LA.below HN.o.own (HC.o.old.trans (aA.nd.below.mono HC.o.old.size))) HN.o.own (NF aA.nd.size (fun b' e=>(eE b' e).2)) (fun b' bB=>.inl ⟨Nat.lt_of_lt_of_le (Aa _ HN.o.own.ty b' bB) HC.o.old.size,HC.o.s0 b' (Aa _ HN.o.own.ty b' bB)⟩) gZ ff dG.o.rhos ay (fun _ e=>by rw [f7,e])).mono ?_;rintro e w3 ⟨p',n',c',env',q',m',c'',rfl,jO,iJ,j3,jx,im,hb⟩;have aT:=AA hb;have kO:=AA (HC.o.kid eV.o iY.o hb jO iJ j3 jx im);have kP:=AA iJ;clear ay f7 eE jO iJ j3 jx im;try go_wp2_with fail
    refine tn hK (aA.step hb) ?_;clear aA hK K;intro aA;refine tr 7 57 fun K hK=>?_;go_simp;go_at_call 38;refine(ma.o _ _ _ _ _ _ _ _ _ _ kO.o).mono ?_;have bG:=S1 kO.o (r:=r) (by rw [kP.o];exact fY.o);have oE:=AA bG;rw [kP.o,fY.o];rintro e w4 ⟨hr,hb⟩;obtain⟨z,rfl,nl,hz⟩:=hr;have HZ:=AA hz;have ou:=AA nl;have lK:=AA (((iY.o.below aT.o).below hb).below ((Below.refl w4.heap.size w4).alloc (Nat.le_refl _) (.cells #[.int .u8 z.ty.head.kind,.int .i64 z.ty.head.rho,.slice z.ty.head.ep z.ty.head.en z.ty.head.ec,.slice z.ty.head.kp z.ty.head.kn z.ty.head.kc,.slice z.ep z.en z.ec] 81)));have oo:=AA (HZ.o.below ((Below.refl w4.heap.size w4).alloc (Nat.le_refl _) (.cells #[.int .u8 z.ty.head.kind,.int .i64 z.ty.head.rho,.slice z.ty.head.ep z.ty.head.en z.ty.head.ec,.slice z.ty.head.kp z.ty.head.kn z.ty.head.kc,.slice z.ep z.en z.ec] 81)));have oZ:=AA (AW FJ (by omega) w4 81 [z] 1 #[.int .u8 z.ty.head.kind,.int .i64 z.ty.head.rho,.slice z.ty.head.ep z.ty.head.en z.ty.head.ec,.slice z.ty.head.kp z.ty.head.kn z.ty.head.kc,.slice z.ep z.en z.ec] rfl rfl (by decide));clear bG hz nl;try go_wp2_with fail
    refine tn hK (aA.step hb) ?_;clear aA hK K;intro aA;refine tr 8 58 fun K hK=>?_;go_simp;refine tn hK (aA.alloc _) ?_;clear aA hK K;intro aA;refine tr 9 59 fun K hK=>?_;have fV:=lK.o.nd.size;refine AS (by rfl) _ _ 148 (by rfl) (w.heap.size+3) 81 _ 5 88 underlying148 VB rfl (by decide) Bt FJ RG [z] rs k _ lK.o.own _ 1 _ (by rfl) (by rfl) rfl (by intro h;cases h) oZ.o.row (by omega) (by omega) fV ?_;intro v6 w6 aQ bN dJ;have oJ:=AA (lK.o.push eV.o oo.o ou.o fY.o oE.o aQ bN dJ);clear aQ dJ fV;refine tn hK (aA.grown bN oV.o) ?_;clear aA hK K;intro aA;refine tp 10 7 ?_;refine dn ?_;clear aA;go_wp2_with fail;go_roundw
    case rel=>exact⟨k+1,rs++[z],by omega,by go_num,oJ.o⟩
    case measure=>simp [intOf];omega
  ·have ly:k=l.length:=by have:=fp.o;omega
   subst ly;obtain⟨_,_,kI,ay,f7,eE⟩:=HK.o.row;cases kI;have gy:=AA ay;have mK:=AA HK.o.full;have jq:l.length≤3:=by have:=fp.o;omega
   have oX:Hd (Dm wr (Sx w S (.slice p7 l.length c7)) a p7 l.length c7 rs):=
    ⟨LA.below HN.o.own (HC.o.old.trans (HK.o.nd.below.mono HC.o.old.size)),dG.o,gy.o,NF HK.o.nd.size (fun b' e=>(eE b' e).2),fun b' bB=>.inl ⟨Nat.lt_of_lt_of_le (Aa _ HN.o.own.ty b' bB) HC.o.old.size,HC.o.s0 b' (Aa _ HN.o.own.ty b' bB)⟩,by omega,
     (by
      have h1:=HK.o.sum;have h2:=HC.o.hs;rw [AD.size_node] at h2;omega),
     fun r hr=>by
      obtain⟨j,hj⟩:=List.getElem?_of_mem hr;have fy:j<l.length:=by rw [←f7];exact CD hj
      have hg:=HK.o.acc j _ r (List.getElem?_eq_getElem fy) hj;refine⟨hg.1.may,hg.1.effs,?_⟩;have h1:=hg.2;rw [show r.er.1=PT.er r.ty from rfl,Gk] at h1;omega⟩
   have oF:Hd (D1 a.plain rs.length):=by have hg:=HC.o.good;rw [PA.er_node] at hg;have h1:=hg.head;rw [List.length_map] at h1;show D1 _ _;rw [f7];exact h1
   have bK:Hd (Bw (Ck env) rhos a.plain (l.map PA.er)=A3 a.plain (BM rs)):=by show _=_;rw [HR.o,mK.o]
   clear HR mK ay f7 eE jq;have bZ:=AA (TT oX.o oF.o H2.o gg.o);revert bZ bK;generalize A3 a.plain (BM rs)=R;intro bK bZ;go_upto_region 16 with fail;rcases R with⟨r1,r2⟩|r
   ·go_wp2_with (first
     |(refine lw HK.o.nd.b.b1.blk underlying31 ?_))
    go_at_call 99;refine bZ.o.mono ?_;rintro e W9 ⟨hr,hb⟩;subst hr;exact⟨rfl,by rw [bK.o],(HK.o.nd.step hb).below⟩
   ·go_wp2_with (first
     |(refine lw HK.o.nd.b.b1.blk underlying31 ?_)
     |(go_at_call 99;refine bZ.o.mono ?_;rintro e W9 ⟨hr,hb⟩;obtain⟨y,rfl,dr,hy⟩:=hr;have aW:=AA (HK.o.nd.step hb);have HY:=AA hy;have fG:=AA dr;clear hy dr)
     |(refine DI rfl _ _ _ rfl aW.o (Bi y) (by rfl) (by rfl) (by kernel_rfl) rfl (by simp [Value.oneCell']) ?_))
    refine br (aW.o.heap _) underlying81 ?_;rw [bK.o];exact Kk aW.o HC.o.new (HY.o.weak (fun b' _ hs=>hs.imp id And.left)) fG.o
end Go.Proofs.YtkdjnegfnhldpaaGreatDoor
