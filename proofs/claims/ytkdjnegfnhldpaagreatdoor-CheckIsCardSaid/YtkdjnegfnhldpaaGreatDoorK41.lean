/- Part 41. -/
import Derived.Test.YtkdjnegfnhldpaaGreatDoorK40
set_option linter.unusedVariables false
set_option maxRecDepth 100000
set_option linter.unusedSimpArgs false
set_option maxHeartbeats 40000000
namespace Go.Proofs.YtkdjnegfnhldpaaGreatDoor
open Go.Proofs.Tryz Go.RowKit
structure Oj(w:World)(a:AH)(g:Nat)(b:BW)(f:AH)(W:World):Prop where
 rb:FX w a W
 h:W.heap[g]?=some (.cells #[.string b.name,.int .u8 b.ty.head.kind,.int .i64 b.ty.head.rho,.slice b.ty.head.ep b.ty.head.en b.ty.head.ec,.slice b.ty.head.kp b.ty.head.kn b.ty.head.kc,.bool true,.int .u8 f.kind,.int .u8 f.op,.int .i64 f.at_,.int .i64 f.n,.string f.name,.string f.arg,.string f.exn,.int .i64 f.rho,.slice f.rp f.rn f.rc,.slice f.ep f.en f.ec,.int .u8 f.ty.head.kind,.int .i64 f.ty.head.rho,.slice f.ty.head.ep f.ty.head.en f.ty.head.ec,.slice f.ty.head.kp f.ty.head.kn f.ty.head.kc,.int .u8 f.res.head.kind,.int .i64 f.res.head.rho,.slice f.res.head.ep f.res.head.en f.res.head.ec,.slice f.res.head.kp f.res.head.kn f.res.head.kc,.slice f.kp f.kn f.kc] 208 (0,0))
 hg:w.heap.size+2≤g
section
variable {w W W':World} {a:AH} {g:Nat} {b:BW} {f:AH}
theorem Oj.step(h:Oj w a g b f W)(hb:Below W.heap.size W W'):Oj w a g b f W':=⟨h.rb.step hb,(hb.block _ (AW h.h)).trans h.h,h.hg⟩
theorem Oj.alloc(h:Oj w a g b f W)(o:Obj):Oj w a g b f (W.alloc o):=h.step bA
theorem Oj.rho(h:Oj w a g b f W):W.cell? ⟨g,13,none⟩=some (.int .i64 f.rho):=by rw [Lib.cell_of_heap h.h];rfl
theorem Oj.rhos(h:Oj w a g b f W):W.cell? ⟨g,14,none⟩=some (.slice f.rp f.rn f.rc):=by rw [Lib.cell_of_heap h.h];rfl
theorem Oj.eff(h:Oj w a g b f W):W.cell? ⟨g,15,none⟩=some (.slice f.ep f.en f.ec):=by rw [Lib.cell_of_heap h.h];rfl
theorem Oj.ty(h:Oj w a g b f W):W.rangeAt g 16 [.int .u8 f.ty.head.kind,.int .i64 f.ty.head.rho,.slice f.ty.head.ep f.ty.head.en f.ty.head.ec,.slice f.ty.head.kp f.ty.head.kn f.ty.head.kc]:=Gj h.h 16 _ (by intro i v hv;match i,hv with|0,hv=>exact hv|1,hv=>exact hv|2,hv=>exact hv|3,hv=>exact hv)
theorem Oj.res(h:Oj w a g b f W):W.rangeAt g 20 [.int .u8 f.res.head.kind,.int .i64 f.res.head.rho,.slice f.res.head.ep f.res.head.en f.res.head.ec,.slice f.res.head.kp f.res.head.kn f.res.head.kc]:=Gj h.h 20 _ (by intro i v hv;match i,hv with|0,hv=>exact hv|1,hv=>exact hv|2,hv=>exact hv|3,hv=>exact hv)
end
structure UM(w:World)(a:AH)(g:Nat)(b:BW)(f:AH)(g1 g2:Nat)(y1 y2:PT)(W:World):Prop where
 u:Oj w a g b f W
 h1:W.heap[g1]?=some (.cells (CC y1) 28 (0,0))
 h2:W.heap[g2]?=some (.cells (CC y2) 28 (0,0))
 n1:w.heap.size+2≤g1
 n2:w.heap.size+2≤g2
section
variable {w W W':World} {a:AH} {g g1 g2:Nat} {b:BW} {f:AH} {y1 y2:PT}
theorem UM.step(h:UM w a g b f g1 g2 y1 y2 W)(hb:Below W.heap.size W W'):UM w a g b f g1 g2 y1 y2 W':=⟨h.u.step hb,(hb.block _ (AW h.h1)).trans h.h1,(hb.block _ (AW h.h2)).trans h.h2,h.n1,h.n2⟩
theorem UM.alloc(h:UM w a g b f g1 g2 y1 y2 W)(o:Obj):UM w a g b f g1 g2 y1 y2 (W.alloc o):=h.step bA
theorem UM.store(h:UM w a g b f g1 g2 y1 y2 W){cs:Array Value}(hc:cs.size=7):UM w a g b f g1 g2 y1 y2 (W.setRow (w.heap.size+1) cs):=by have e0:=h.u.hg;have e1:=h.n1;have e2:=h.n2;exact⟨⟨h.u.rb.store hc,(setRow_other _ _ _ _ (by omega)).trans h.u.h,h.u.hg⟩,(setRow_other _ _ _ _ (by omega)).trans h.h1,(setRow_other _ _ _ _ (by omega)).trans h.h2,h.n1,h.n2⟩
end
theorem M7{w0 w:World}{S:Nat→Prop}{a:AH}{l:List PA}{p q:Option Addr}{n c m mc:Nat}{env:List BW}{rhos:List Int}(h:Js w0 w S (.node a l) p q n c m mc env rhos)(hk:a.kind=18):Calls prog 115 #[.slice p n c,Aj a] w (GJ w S (Cm (Cv env) a.plain)):=by
 have HX:=AA (Dr w a);have HE:=AA h.envA;have HC:=AA h;have HN:=AA (DP h.lies);have cz:Bl a:=h.small a (by rw [AG.nodes_node];exact List.mem_cons_self);have cS:=AA cz;have bL:=AA h.new;have hn:n≤1000000:=by have h1:=h.hn;omega
 have e2:(a.kind==2)=false:=by simp [hk]
 have bG:EJ a.plain l.length:=by have hg:=h.good;rw [PA.er_node] at hg;have h1:=hg.head;rw [List.length_map] at h1;exact h1
 have oO:=AA bG;have c4:=HX.o.box.c 4 _ rfl;have c0:=HX.o.box.c 0 _ rfl;clear h hk cz bG;go_enter func115,ntmps115;go_upto_region 1 with fail;generalize ((w.alloc (AO a)).alloc (.cells #[.int .u8 0,.int .i64 0,.slice none 0 0,.slice none 0 0,.slice none 0 0,.int .i64 0,.int .i64 0] 69))=W1 at *
 go_upto_region 2 with(first
  |(go_at_call 156;refine(Ib (HE.o.row.below HX.o.below) hn).mono ?_;rintro e w2 ⟨fj,rfl⟩;have eZ:=AA fj;clear fj;rcases eZ.o with⟨rfl,ac⟩|⟨j,b,rfl,jB,dH⟩))
 ·have aN:Hd (Cm (Cv env) a.plain=.error (a.at_,4)):=by show _=_;unfold Cm;rw [show Df (Cv env) a.plain.name=none from ac];rfl
  clear ac
  go_wp2_with (first
   |(refine lw HX.o.box.blk underlying31 ?_)
   |(go_at_call 84;refine(Af a 4).mono ?_;rintro e w7 ⟨rfl,hb⟩;have ab:=AA (HX.o.step hb);clear hb)
   |(refine I5 a.at_ 4 ab.o ?_))
  (try go_wp2_with fail);(try simp only [Exit.inBlock,Exit.then]);refine br (ab.o.heap _) underlying69 ?_;rw [aN.o];exact ab.o.err
 ·obtain⟨g,o,hp,aP,am⟩:=(HE.o.row.below HX.o.below).row.elem jB;subst hp;have ex:j<n:=by rw [←HE.o.row.len];exact Bh jB
  have dC:=AA (show ∀i v,(Dz b)[i]?=some v→W1.cell? ⟨g,o+j * 25+i,none⟩=some v from am);have cw:=List.mem_of_getElem? jB;have lq:=AA dH;have ay:=AA (HE.o.each b cw);have eV:Jt b.er:=(HC.o.genv b.er (List.mem_map_of_mem cw)).1;have rP:=AA eV;have bn:=HX.o.size;clear am jB aP dH eV cw
  go_upto_region 5 with(first
   |(refine lm [.string b.name,.int .u8 b.ty.head.kind,.int .i64 b.ty.head.rho,.slice b.ty.head.ep b.ty.head.en b.ty.head.ec,.slice b.ty.head.kp b.ty.head.kn b.ty.head.kc,.bool b.fn.isSome,.int .u8 b.fh.kind,.int .u8 b.fh.op,.int .i64 b.fh.at_,.int .i64 b.fh.n,.string b.fh.name,.string b.fh.arg,.string b.fh.exn,.int .i64 b.fh.rho,.slice b.fh.rp b.fh.rn b.fh.rc,.slice b.fh.ep b.fh.en b.fh.ec,.int .u8 b.fh.ty.head.kind,.int .i64 b.fh.ty.head.rho,.slice b.fh.ty.head.ep b.fh.ty.head.en b.fh.ty.head.ec,.slice b.fh.ty.head.kp b.fh.ty.head.kn b.fh.ty.head.kc,.int .u8 b.fh.res.head.kind,.int .i64 b.fh.res.head.rho,.slice b.fh.res.head.ep b.fh.res.head.en b.fh.res.head.ec,.slice b.fh.res.head.kp b.fh.res.head.kn b.fh.res.head.kc,.slice b.fh.kp b.fh.kn b.fh.kc] dC.o underlying208 ?_)
   |(refine sn #[.string b.name,.int .u8 b.ty.head.kind,.int .i64 b.ty.head.rho,.slice b.ty.head.ep b.ty.head.en b.ty.head.ec,.slice b.ty.head.kp b.ty.head.kn b.ty.head.kc,.bool b.fn.isSome,.int .u8 b.fh.kind,.int .u8 b.fh.op,.int .i64 b.fh.at_,.int .i64 b.fh.n,.string b.fh.name,.string b.fh.arg,.string b.fh.exn,.int .i64 b.fh.rho,.slice b.fh.rp b.fh.rn b.fh.rc,.slice b.fh.ep b.fh.en b.fh.ec,.int .u8 b.fh.ty.head.kind,.int .i64 b.fh.ty.head.rho,.slice b.fh.ty.head.ep b.fh.ty.head.en b.fh.ty.head.ec,.slice b.fh.ty.head.kp b.fh.ty.head.kn b.fh.ty.head.kc,.int .u8 b.fh.res.head.kind,.int .i64 b.fh.res.head.rho,.slice b.fh.res.head.ep b.fh.res.head.en b.fh.res.head.ec,.slice b.fh.res.head.kp b.fh.res.head.kn b.fh.res.head.kc,.slice b.fh.kp b.fh.kn b.fh.kc] ?_))
  have bS:Below W1.heap.size W1 (W1.alloc (.cells #[.string b.name,.int .u8 b.ty.head.kind,.int .i64 b.ty.head.rho,.slice b.ty.head.ep b.ty.head.en b.ty.head.ec,.slice b.ty.head.kp b.ty.head.kn b.ty.head.kc,.bool b.fn.isSome,.int .u8 b.fh.kind,.int .u8 b.fh.op,.int .i64 b.fh.at_,.int .i64 b.fh.n,.string b.fh.name,.string b.fh.arg,.string b.fh.exn,.int .i64 b.fh.rho,.slice b.fh.rp b.fh.rn b.fh.rc,.slice b.fh.ep b.fh.en b.fh.ec,.int .u8 b.fh.ty.head.kind,.int .i64 b.fh.ty.head.rho,.slice b.fh.ty.head.ep b.fh.ty.head.en b.fh.ty.head.ec,.slice b.fh.ty.head.kp b.fh.ty.head.kn b.fh.ty.head.kc,.int .u8 b.fh.res.head.kind,.int .i64 b.fh.res.head.rho,.slice b.fh.res.head.ep b.fh.res.head.en b.fh.res.head.ec,.slice b.fh.res.head.kp b.fh.res.head.kn b.fh.res.head.kc,.slice b.fh.kp b.fh.kn b.fh.kc] 208)):=bA;have HX:=AA (HX.o.step bS);have HR:=AA (Ap W1 #[.string b.name,.int .u8 b.ty.head.kind,.int .i64 b.ty.head.rho,.slice b.ty.head.ep b.ty.head.en b.ty.head.ec,.slice b.ty.head.kp b.ty.head.kn b.ty.head.kc,.bool b.fn.isSome,.int .u8 b.fh.kind,.int .u8 b.fh.op,.int .i64 b.fh.at_,.int .i64 b.fh.n,.string b.fh.name,.string b.fh.arg,.string b.fh.exn,.int .i64 b.fh.rho,.slice b.fh.rp b.fh.rn b.fh.rc,.slice b.fh.ep b.fh.en b.fh.ec,.int .u8 b.fh.ty.head.kind,.int .i64 b.fh.ty.head.rho,.slice b.fh.ty.head.ep b.fh.ty.head.en b.fh.ty.head.ec,.slice b.fh.ty.head.kp b.fh.ty.head.kn b.fh.ty.head.kc,.int .u8 b.fh.res.head.kind,.int .i64 b.fh.res.head.rho,.slice b.fh.res.head.ep b.fh.res.head.en b.fh.res.head.ec,.slice b.fh.res.head.kp b.fh.res.head.kn b.fh.res.head.kc,.slice b.fh.kp b.fh.kn b.fh.kc] 208 _ rfl);obtain⟨gb,eV⟩:∃gb,W1.heap.size=gb:=⟨_,rfl⟩;rw [eV] at HR bn ⊢;generalize W1.alloc (.cells #[.string b.name,.int .u8 b.ty.head.kind,.int .i64 b.ty.head.rho,.slice b.ty.head.ep b.ty.head.en b.ty.head.ec,.slice b.ty.head.kp b.ty.head.kn b.ty.head.kc,.bool b.fn.isSome,.int .u8 b.fh.kind,.int .u8 b.fh.op,.int .i64 b.fh.at_,.int .i64 b.fh.n,.string b.fh.name,.string b.fh.arg,.string b.fh.exn,.int .i64 b.fh.rho,.slice b.fh.rp b.fh.rn b.fh.rc,.slice b.fh.ep b.fh.en b.fh.ec,.int .u8 b.fh.ty.head.kind,.int .i64 b.fh.ty.head.rho,.slice b.fh.ty.head.ep b.fh.ty.head.en b.fh.ty.head.ec,.slice b.fh.ty.head.kp b.fh.ty.head.kn b.fh.ty.head.kc,.int .u8 b.fh.res.head.kind,.int .i64 b.fh.res.head.rho,.slice b.fh.res.head.ep b.fh.res.head.en b.fh.res.head.ec,.slice b.fh.res.head.kp b.fh.res.head.kn b.fh.res.head.kc,.slice b.fh.kp b.fh.kn b.fh.kc] 208)=W3 at *
  clear eV bS c4;have c0:=HX.o.box.c 0 _ rfl;cases hf:b.fn with
  |none=>
   have d5:W3.cell? ⟨gb,5,none⟩=some (.bool false):=by
    have h1:W3.cell? ⟨gb,5,none⟩=some (.bool b.fn.isSome):=by rw [Lib.cell_of_heap HR.o];rfl
    rw [h1,hf];rfl
   have aN:Hd (Cm (Cv env) a.plain=.error (a.at_,5)):=by show _=_;unfold Cm;rw [show Df (Cv env) a.plain.name=some b.er from lq.o];simp [BW.er,hf];rfl
   clear hf
   go_wp2_with (first
    |(refine lw HX.o.box.blk underlying31 ?_)
    |(go_at_call 84;refine(Af a 5).mono ?_;rintro e w7 ⟨rfl,hb⟩;have ab:=AA (HX.o.step hb);clear hb)
    |(refine I5 a.at_ 5 ab.o ?_))
   (try go_wp2_with fail);(try simp only [Exit.inBlock,Exit.then]);refine br (ab.o.heap _) underlying69 ?_;rw [aN.o];exact ab.o.err
  |some f=>
   have qW:b.fh=f:=by unfold BW.fh;rw [hf];rfl
   have HU:=AA (show Oj w a gb b f W3 from⟨HX.o,by have h1:=HR.o;rw [qW,hf] at h1;exact h1,bn⟩);have d5:W3.cell? ⟨gb,5,none⟩=some (.bool true):=by rw [Lib.cell_of_heap HU.o.h];rfl
   have d14:=HU.o.rhos;have c8:=HX.o.box.c 8 _ rfl;obtain⟨nf,mZ,_,_⟩:=rP.o.fn f.plain (by unfold BW.er;rw [hf];rfl);have gp:=AA mZ;have fj:AH.Own w0 f:=ay.o.fn f hf;have eZ:=AA fj;obtain⟨u,hu⟩:∃u,decide (f.rhos.length=a.rhos.length)=u:=⟨_,rfl⟩;obtain⟨v,hv⟩:∃v,A1 (Kb f.rhos a.rhos f.eff) a.eff=v:=⟨_,rfl⟩;have sB:=AA hu;have sE:=AA hv;have dM:((f.rn:Int) != (a.rn:Int))=!u:=by rw [←hu,←fj.rhos.len,←HN.o.own.rhos.len];rw [Bool.eq_iff_iff];simp only [bne_iff_ne,Bool.not_eq_true',decide_eq_false_iff_not,ne_eq];exact⟨fun h=>by omega,fun h=>by omega⟩
   have bU:Hd (Cm (Cv env) a.plain=A4 u a.plain 5 (A4 v a.plain 6 (.ok (Iz 4 a.rho a.eff [Bz f.rhos a.rhos (PT.er f.ty),Bz f.rhos a.rhos (PT.er f.res)],A2 [Bm f.rho,A3 a.rho])))):=by show _=_;unfold Cm;rw [show Df (Cv env) a.plain.name=some b.er from lq.o,←hu,←hv];show (match (BW.er b).fn with|none=>_|some f=>_)=_;unfold BW.er;rw [hf];rfl
   clear hf qW mZ fj hu hv;cases u
   ·have aN:Hd (Cm (Cv env) a.plain=.error (a.at_,5)):=by show _=_;rw [bU.o];rfl
    go_wp2_with (first
     |(refine lw HX.o.box.blk underlying31 ?_)
     |(go_at_call 84;refine(Af a 5).mono ?_;rintro e w7 ⟨rfl,hb⟩;have ab:=AA (HX.o.step hb);clear hb)
     |(refine I5 a.at_ 5 ab.o ?_))
    (try go_wp2_with fail);(try simp only [Exit.inBlock,Exit.then]);refine br (ab.o.heap _) underlying69 ?_;rw [aN.o];exact ab.o.err
   ·have d8:f.rn≤50:=by
     have h1:f.rhos.length=a.rhos.length:=by simpa using sB.o
     have h2:=eZ.o.rhos.len;have h3:=HN.o.own.rhos.len;have h4:=cS.o.rhos;omega
    have l7:=AA d8;have iX:f.en≤100:=by have h1:=eZ.o.eff.len;have h2:=CD gp.o.gr;have h3:f.plain.eff=f.eff:=rfl;rw [h3] at h2;omega
    have oL:=AA iX;have HO:Hd (∀W',Below w.heap.size w W'→AH.Own W' f∧AH.Own W' a):=fun W' hb=>have h1:=HC.o.old.trans (hb.mono HC.o.old.size);⟨LA.below eZ.o h1,LA.below HN.o.own h1⟩;go_upto_region 11 with fail;clear d8 iX d5 d14 c8 c0 dM;refine rg (fun W'=>Oj w a gb b f W') (HU.o.step (AC W3)) fun aA=>?_;refine tp 0 49 ?_;refine tp 1 50 ?_;refine tp 2 51 ?_ (hy:=fun w aC=>by(try dsimp only at aC);have q9:=aC.eff;go_simp;try with_reducible rfl);refine tp 3 52 ?_;refine tp 4 53 ?_;refine tp 5 54 ?_ (hy:=fun w aC=>by(try dsimp only at aC);have q9:=aC.rhos;go_simp;try with_reducible rfl);refine tp 6 55 ?_;refine tp 7 56 ?_ (hy:=fun w aC=>by(try dsimp only at aC);have q9:=aC.rb.box.c 8 _ rfl;go_simp;try with_reducible rfl);refine tp 9 58 ?_;refine tp 10 59 ?_ (hy:=fun w aC=>by(try dsimp only at aC);have q9:=aC.rb.box.c 9 _ rfl;go_simp;try with_reducible rfl);refine tr 8 57 fun K hK=>?_;go_simp;go_at_call 157;refine(KO f.ep f.en f.ec f.eff f.rp f.rn f.rc f.rhos a.rp a.rn a.rc a.rhos _ (HO.o _ aA.rb.below).1.eff.len (by have:=oL.o;omega) (HO.o _ aA.rb.below).1.eff.row (HO.o _ aA.rb.below).1.rhos.len (by have:=l7.o;omega) (HO.o _ aA.rb.below).1.rhos.row (HO.o _ aA.rb.below).2.rhos.len (by have:=cS.o.rhos;omega) (HO.o _ aA.rb.below).2.rhos.row).mono ?_;rintro e w7 ⟨⟨p7,n7,c7,rfl,ef⟩,hb⟩;have fg:=AA ef.row;have pz:=AA ((HU.o.step (AC W3)).step hb);clear ef;try go_wp2_with fail
    refine tn hK (aA.step hb) ?_;clear aA hK K;intro aA;refine tr 11 60 fun K hK=>?_;go_simp;go_at_call 25;refine(Ch sE.o fg.o (HO.o _ pz.o.rb.below).2.eff).mono ?_;rintro e w8 ⟨rfl,hb⟩;have jk:=AA (pz.o.step hb);try go_wp2_with fail
    refine tn hK (aA.step hb) ?_;clear aA hK K;intro aA;refine tp 12 61 ?_;refine dn ?_;clear aA;have dW:=AA jk.o.rb;cases v
    ·have aN:Hd (Cm (Cv env) a.plain=.error (a.at_,6)):=by show _=_;rw [bU.o];rfl
     go_wp2_with (first
      |(refine lw dW.o.box.blk underlying31 ?_)
      |(go_at_call 84;refine(Af a 6).mono ?_;rintro e w7 ⟨rfl,hb⟩;have ab:=AA (dW.o.step hb);clear hb)
      |(refine I5 a.at_ 6 ab.o ?_))
     (try go_wp2_with fail);(try simp only [Exit.inBlock,Exit.then]);refine br (ab.o.heap _) underlying69 ?_;rw [aN.o];exact ab.o.err
    ·have aN:Hd (Cm (Cv env) a.plain=.ok (Iz 4 a.rho a.eff [Bz f.rhos a.rhos (PT.er f.ty),Bz f.rhos a.rhos (PT.er f.res)],A2 [Bm f.rho,A3 a.rho])):=by show _=_;rw [bU.o];rfl
     have fx:Vs w0 f.rp f.rn f.rc f.rhos a.rp a.rn a.rc a.rhos:=⟨eZ.o.rhos,HN.o.own.rhos,by have:=l7.o;omega,by have:=cS.o.rhos;omega,HN.o.own.rok⟩;have fF:Hd (∀W',Below w.heap.size w W'→Gq w0.heap.size f.rp f.rn f.rc f.rhos a.rp a.rn a.rc a.rhos f.ty W'):=fun W' hb=>LX fx f.ty eZ.o.ty gp.o.tys.effs (by have h1:=gp.o.tys.size;rw [show f.plain.ty=PT.er f.ty from rfl,EW] at h1;omega) W' (HC.o.old.trans (hb.mono HC.o.old.size));have gc:Hd (∀W',Below w.heap.size w W'→Gq w0.heap.size f.rp f.rn f.rc f.rhos a.rp a.rn a.rc a.rhos f.res W'):=fun W' hb=>LX fx f.res eZ.o.res gp.o.ress.effs (by have h1:=gp.o.ress.size;rw [show f.plain.res=PT.er f.res from rfl,EW] at h1;omega) W' (HC.o.old.trans (hb.mono HC.o.old.size));clear fx;have HX8s:=AA jk.o.rb.size;have d14:=jk.o.rhos;have c8:=jk.o.rb.box.c 8 _ rfl
     go_upto_region 14 with(first
      |(refine NY f.ty jk.o.ty underlying28 ?_)
      |(go_at_call 158;refine(fF.o _ jk.o.rb.below).mono ?_;rintro e w9 ⟨⟨y1,rfl,hl,hs,he⟩,hb⟩;have oW:=AA hl;have rz:=AA hs;have rH:=AA he;have kW:=AA (jk.o.step hb);have gU:=AA hb;clear hl hs he hb)
      |(refine n4 y1 ?_))
     have bS:Below w9.heap.size w9 (w9.alloc (.cells #[.int .u8 y1.head.kind,.int .i64 y1.head.rho,.slice y1.head.ep y1.head.en y1.head.ec,.slice y1.head.kp y1.head.kn y1.head.kc] 28)):=bA;have fw:=AA (kW.o.step bS);have oX:=AA (LR.lies_below bS _ oW.o);have ga:=AA (Ap w9 #[.int .u8 y1.head.kind,.int .i64 y1.head.rho,.slice y1.head.ep y1.head.en y1.head.ec,.slice y1.head.kp y1.head.kn y1.head.kc] 28 _ rfl);have ly:=AA (show w.heap.size+2≤w9.heap.size from kW.o.rb.size);obtain⟨g1,ea⟩:∃g,w9.heap.size=g:=⟨_,rfl⟩;rw [ea] at ga ly ⊢;generalize w9.alloc (.cells #[.int .u8 y1.head.kind,.int .i64 y1.head.rho,.slice y1.head.ep y1.head.en y1.head.ec,.slice y1.head.kp y1.head.kn y1.head.kc] 28)=W10 at *
     clear ea bS kW;clear gU d14 c8;have d14:=fw.o.rhos;have c8:=fw.o.rb.box.c 8 _ rfl
     go_upto_region 15 with(first
      |(refine NY f.res fw.o.res underlying28 ?_)
      |(go_at_call 158;refine(gc.o _ fw.o.rb.below).mono ?_;rintro e w9 ⟨⟨y2,rfl,hl,hs,he⟩,hb⟩;have kO:=AA hl;have dV:=AA hs;have oI:=AA he;have kW:=AA (fw.o.step hb);have gU:=AA hb;clear hl hs he hb)
      |(refine n4 y2 ?_))
     have bS:Below w9.heap.size w9 (w9.alloc (.cells #[.int .u8 y2.head.kind,.int .i64 y2.head.rho,.slice y2.head.ep y2.head.en y2.head.ec,.slice y2.head.kp y2.head.kn y2.head.kc] 28)):=bA;have mC:=AA (kW.o.step bS);have oY:=AA (LR.lies_below bS _ kO.o);have kR:=AA (Ap w9 #[.int .u8 y2.head.kind,.int .i64 y2.head.rho,.slice y2.head.ep y2.head.en y2.head.ec,.slice y2.head.kp y2.head.kn y2.head.kc] 28 _ rfl);have lz:=AA (show w.heap.size+2≤w9.heap.size from kW.o.rb.size);have l2:=AA ((bS.block _ (AW ((gU.o.block _ (AW ga.o)).trans ga.o))).trans ((gU.o.block _ (AW ga.o)).trans ga.o));have oZ:=AA (LR.lies_below bS _ (LR.lies_below gU.o _ oX.o));obtain⟨g2,a8⟩:∃g,w9.heap.size=g:=⟨_,rfl⟩;rw [a8] at kR lz ⊢;generalize w9.alloc (.cells #[.int .u8 y2.head.kind,.int .i64 y2.head.rho,.slice y2.head.ep y2.head.en y2.head.ec,.slice y2.head.kp y2.head.kn y2.head.kc] 28)=W12 at *
     clear a8 bS kW;clear gU d14 c8;have HT:=AA (show UM w a gb b f g1 g2 y1 y2 W12 from⟨mC.o,l2.o,kR.o,ly.o,lz.o⟩);have HX10s:=AA fw.o.rb.size;clear mC fw jk dW l2 kR ga;refine rg (fun W'=>UM w a gb b f g1 g2 y1 y2 W') (HT.o.step (AC W12)) fun aA=>?_;refine tp 0 82 ?_;refine tp 1 83 ?_ (hy:=fun w aC=>by(try dsimp only at aC);have q9:=aC.u.rb.box.c 7 _ rfl;go_simp;try with_reducible rfl);refine tp 2 84 ?_;refine tp 3 85 ?_ (hy:=fun w aC=>by(try dsimp only at aC);have q9:=aC.u.rb.box.c 9 _ rfl;go_simp;try with_reducible rfl);refine t4 4 86 y1 g1 0 (fun W' aC=>r4 aC.h1) ?_;refine t4 5 87 y2 g2 0 (fun W' aC=>r4 aC.h2) ?_;refine tp 8 90 ?_;refine tp 9 91 ?_;refine tp 10 92 ?_ (hy:=fun w aC=>by(try dsimp only at aC);have q9:=aC.u.rho;go_simp;try with_reducible rfl);refine tp 12 94 ?_;refine tp 13 95 ?_ (hy:=fun w aC=>by(try dsimp only at aC);have q9:=aC.u.rb.box.c 7 _ rfl;go_simp;try with_reducible rfl);refine tr 6 88 fun K hK=>?_;go_simp;have cO:=AA (DQ (LR.lies_below (AC W12) _ oZ.o) (LR.lies_below (AC W12) _ oY.o) 28);refine tn hK (aA.alloc _) ?_;clear aA hK K;intro aA;refine tr 7 89 fun K hK=>?_;go_simp;go_at_call 159;refine(Dp _ _ _ _ _ _ _ _ _).mono ?_;rintro e w5 ⟨rfl,hb⟩;have cO:=AA (cO.o.below hb);have r7:=AA (((HT.o.step (AC W12)).step bA).step hb);try go_wp2_with fail
     refine tn hK (aA.step hb) ?_;clear aA hK K;intro aA;refine tr 11 93 fun K hK=>?_;go_simp;go_at_call 160;refine(D5 f.rho _).mono ?_;rintro e w6 ⟨rfl,hb⟩;have cO:=AA (cO.o.below hb);have r8:=AA (r7.o.step hb);try go_wp2_with fail
     refine tn hK (aA.step hb) ?_;clear aA hK K;intro aA;refine tr 14 96 fun K hK=>?_;go_simp;go_at_call 161;refine(CL a.rho _).mono ?_;rintro e w7 ⟨rfl,hb⟩;have cO:=AA (cO.o.below hb);have pw:=AA (r8.o.step hb);try go_wp2_with fail
     refine tn hK (aA.step hb) ?_;clear aA hK K;intro aA;refine tr 15 97 fun K hK=>?_;go_simp;refine tn hK (aA.alloc _) ?_;clear aA hK K;intro aA;refine tr 16 98 fun K hK=>?_;go_simp;go_at_call 50;refine(BI (Al AF (by omega) w7 59 [Bm f.rho,A3 a.rho] 2 #[.int .u8 (Bm f.rho).kind,.int .i64 (Bm f.rho).rho,.string (Bm f.rho).exn,.int .u8 (A3 a.rho).kind,.int .i64 (A3 a.rho).rho,.string (A3 a.rho).exn] rfl rfl (by decide)) (by decide)).mono ?_;rintro e w3 ⟨⟨q3,k3,c3,rfl,bE⟩,hb⟩;have bS:Below w7.heap.size w7 (w7.alloc (.cells #[.int .u8 (Bm f.rho).kind,.int .i64 (Bm f.rho).rho,.string (Bm f.rho).exn,.int .u8 (A3 a.rho).kind,.int .i64 (A3 a.rho).rho,.string (A3 a.rho).exn] 59)):=bA;have cO:=AA ((cO.o.below bS).below hb);have px:=AA ((pw.o.step bS).step hb);have gx:=AA bE;clear bE bS;try go_wp2_with fail
     refine tn hK (aA.step hb) ?_;clear aA hK K;intro aA;refine tp 17 99 ?_;refine DV 18 fun K hK=>?_;refine sr #[.int .u8 4,.int .i64 a.rho,.slice a.ep a.en a.ec,.slice (some ⟨W12.heap.size,0,none⟩) 2 2,.slice q3 k3 c3,.int .i64 0,.int .i64 0] px.o.u.rb ?_;refine tn hK (aA.store rfl) ?_;clear aA hK K;intro aA;refine dn ?_;clear aA;have al:=AA px.o.u.rb;(try go_wp2_with fail);(try simp only [Exit.inBlock,Exit.then]);refine br (al.o.heap _) underlying69 ?_;rw [aN.o];obtain⟨Y,hY⟩:∃Y:PT,(.node ⟨4,a.rho,a.ep,a.en,a.ec,a.eff,some ⟨W12.heap.size,0,none⟩,2,2⟩ [y1,y2]:PT)=Y:=⟨_,rfl⟩;have sS:PT.er Y=Iz 4 a.rho a.eff [Bz f.rhos a.rhos (PT.er f.ty),Bz f.rhos a.rhos (PT.er f.res)]:=by rw [←hY,PT.er_node];unfold Iz;rw [show A2 a.eff=a.eff from J4 oO.o.eff];show AG.node _ [PT.er y1,PT.er y2]=_;rw [rH.o,oI.o];rfl
     have hW:=al.o.below;have hN:=HC.o.old.size;have hS:=HC.o.s0;have fa:=HX8s.o
     have dc:(⟨Y,q3,k3,c3,A2 [Bm f.rho,A3 a.rho]⟩:RV).Ok w3 (Sn w S):=by
      subst hY;refine⟨Es (by decide) HN.o.own.rho (HO.o _ hW).2.eff HN.o.own.eok cO.o,Et (fun z hz=>?_) (fun z hz=>?_) (.inr (by have:=HT.o.u.rb.size;omega)) (fun he ad hp=>?_),gx.o.row,(fun z hz=>?_),fun _ ad hp=>.inr (by have h1:=gx.o.far ad hp;have h2:=pw.o.u.rb.size;simp only [World.size_alloc] at h1;omega)⟩
      ·rcases Gm y1 rz.o z hz with h1|h1
       ·exact .inl ⟨by omega,hS z h1⟩
       ·exact .inr (by omega)
      ·rcases Gm y2 dV.o z hz with h1|h1
       ·exact .inl ⟨by omega,hS z h1⟩
       ·exact .inr (by have:=HX10s.o;omega)
      ·have h1:=Bf HN.o.own.eff.row he hp;exact .inl ⟨by omega,hS _ h1⟩
      ·have h1:=((Cp _ _).1 hz).1;simp only [List.mem_cons,List.not_mem_nil,or_false] at h1;rcases h1 with rfl|rfl
       ·exact D2 eZ.o.rho.1 eZ.o.rho.2
       ·exact Cr HN.o.own.rho.1 HN.o.own.rho.2
     have pB:=al.o.fin bL.o dc (x:=(Iz 4 a.rho a.eff [Bz f.rhos a.rhos (PT.er f.ty),Bz f.rhos a.rhos (PT.er f.res)],A2 [Bm f.rho,A3 a.rho])) (Prod.ext sS rfl);subst hY;exact pB
theorem Js.later{w0 w W:World}{S:Nat→Prop}{t:PA}{p q:Option Addr}{n c m mc:Nat}{env:List BW}{rhos:List Int}(h:Js w0 w S t p q n c m mc env rhos)(hb:Below w.heap.size w W)(hs:w.heap.size+2≤W.heap.size):Js w0 W (Sn w S) t p q n c m mc env rhos:=⟨h.old.trans (hb.mono h.old.size),h.lies,h.small,h.good,⟨h.envA.row.below hb,fun b cw=>((h.envA.each b cw).below hb).weak (fun x hx=>.inl ⟨AN _ (h.envA.each b cw).ty x hx,(h.envA.each b cw).uses x hx⟩)⟩,h.rhosA.below hb,h.genv,fun b aF=>.inl ⟨Nat.lt_of_lt_of_le aF h.old.size,h.s0 b aF⟩,fun b aW=>.inr (by omega),h.hn,h.hm,h.hs⟩
theorem Ls{w0 w:World}{S:Nat→Prop}{a:AH}{l:List PA}{p q:Option Addr}{n c m mc:Nat}{env:List BW}{rhos:List Int}(h:Js w0 w S (.node a l) p q n c m mc env rhos)(ih:∀t∈l,SU w0 t):Calls prog 83 #[.slice p n c,.slice q m mc,Aj a] w (GJ w S (BE (Cv env) rhos a.plain (l.map PA.er))):=by
 cases hu:A8 a.plain rhos with
 |false=>exact M6 h hu
 |true=>
  by_cases h2:a.kind=2
  ·refine Hm h hu (.inl h2) rfl (fun W hb hs=>?_);have hv:=Nt (h.later hb hs).envA (by have:=h.hn;omega) h2 (fun b aW=>.inr (by omega));have e:BE (Cv env) rhos a.plain (l.map PA.er)=Hf (Cv env) a.plain:=by unfold BE;rw [hu,if_pos (show a.plain.kind=2 from h2)];rfl
   rw [e];exact hv
  ·by_cases bj:a.kind=18
   ·refine Hm h hu (.inr bj) rfl (fun W hb hs=>?_);have e:BE (Cv env) rhos a.plain (l.map PA.er)=Cm (Cv env) a.plain:=by unfold BE;rw [hu,if_neg (show ¬a.plain.kind=2 from h2),if_pos (show a.plain.kind=18 from bj)];rfl
    rw [e];exact M7 (h.later hb hs) bj
   ·exact Ky h hu h2 bj ih
theorem Ia{w0:World}(t:PA):SU w0 t:=by
 refine AG.ind (P:=fun(t:PA)=>SU w0 t) (fun a l ih=>?_) t;intro w S p q n c m mc env rhos h;rw [PA.er_node];have hg:=h.good;rw [PA.er_node] at hg;have sc:=fun(x:TE) (hx:BE (Cv env) rhos a.plain (l.map PA.er)=.ok x)=>Me hg.head h.genv hx;have ac:=Rb (.node a.plain (l.map PA.er)) (Cv env) rhos;rw [J1] at ac ⊢;show Calls _ _ #[.slice p n c,.slice q m mc,Aj a] w _;have hf:∀W,Below w.heap.size w W→w.heap.size+2≤W.heap.size→Calls prog 83 #[.slice p n c,.slice q m mc,Aj a] W (GJ W (Sn w S) (BE (Cv env) rhos a.plain (l.map PA.er))):=fun W hb hs=>Ls (h.later hb hs) ih;cases hr:BE (Cv env) rhos a.plain (l.map PA.er) with
 |error er=>
  obtain⟨z,no⟩:=er;rw [hr] at hf ac;exact M5 (ac z no rfl) hf
 |ok x=>
  rw [hr] at hf;exact Ns h.new (sc x hr) hf
theorem Hl{w:World}{t:PA}(hl:LA.lies w t)(hs:BR t)(hz:t.size≤1000):Calls prog 29 #[Aj t.head] w (GJ w (fun _=>True) (DF t)):=by
 obtain⟨a,l,rfl⟩:∃a l,t=AG.node a l:=⟨t.head,t.kids,AG.eta t⟩;show Calls _ _ #[Aj a] w _;have HX:=AA (Dr w a);have HL:=AA hl;have HS:=AA hs;have HZ:=AA hz;obtain⟨u,hu⟩:∃u,Gx (AG.node a l)=u:=⟨_,rfl⟩;have HU:=AA hu;have HM:Hd (∀W,Below w.heap.size w W→Calls prog 53 #[Aj a] W fun e w'=>e=.returned (.bool u)∧Below W.heap.size W w'):=fun W hb=>by have h:=Np (AG.node a l) (LA.lies_below hb _ HL.o) HZ.o;rwa [HU.o] at h
 have fk:Hd (∀W,Below w.heap.size w W→Calls prog 54 #[Aj a] W fun e w'=>Hs (Dv (PA.er (AG.node a l))) e∧Below W.heap.size W w'):=fun W hb=>Lp (LA.lies_below hb _ HL.o) HS.o HZ.o;clear hl hs hz hu;go_enter func29,ntmps29;go_upto_region 1 with fail;generalize ((w.alloc (AO a)).alloc (.cells #[.int .u8 0,.int .i64 0,.slice none 0 0,.slice none 0 0,.slice none 0 0,.int .i64 0,.int .i64 0] 69))=W1 at *
 cases u
 ·have aN:Hd (DF (AG.node a l)=.error (0,1)):=by show _=_;unfold DF;rw [HU.o];rfl
  go_wp2_with (first
   |(refine lw HX.o.box.blk underlying31 ?_)
   |(go_at_call 53;refine(HM.o _ HX.o.below).mono ?_;rintro e w2 ⟨rfl,hb⟩;have HX:=AA (HX.o.step hb);clear hb)
   |(refine I5 0 1 HX.o ?_))
  (try go_wp2_with fail);(try simp only [Exit.inBlock,Exit.then]);refine br (HX.o.heap _) underlying69 ?_;rw [aN.o];exact HX.o.err
 ·cases eM:Dv (PA.er (AG.node a l)) with
  |some z=>
   rw [eM] at fk;have aN:Hd (DF (AG.node a l)=.error (z,6)):=by show _=_;unfold DF IE;rw [HU.o,eM];rfl
   clear eM
   go_wp2_with (first
    |(refine lw HX.o.box.blk underlying31 ?_)
    |(go_at_call 53;refine(HM.o _ HX.o.below).mono ?_;rintro e w2 ⟨rfl,hb⟩;have HX:=AA (HX.o.step hb);clear hb)
    |(go_at_call 54;refine(fk.o _ HX.o.below).mono ?_;rintro e w3 ⟨he,hb⟩;obtain rfl:=he;have HX:=AA (HX.o.step hb);clear hb)
    |(refine I5 z 6 HX.o ?_))
   (try go_wp2_with fail);(try simp only [Exit.inBlock,Exit.then]);refine br (HX.o.heap _) underlying69 ?_;rw [aN.o];exact HX.o.err
  |none=>
   rw [eM] at fk;have aN:Hd (DF (AG.node a l)=chk [] [0] (PA.er (AG.node a l))):=by show _=_;unfold DF IE;rw [HU.o,eM];rfl
   clear eM
   go_upto_region 6 with(first
    |(refine lw HX.o.box.blk underlying31 ?_)
    |(go_at_call 53;refine(HM.o _ HX.o.below).mono ?_;rintro e w2 ⟨rfl,hb⟩;have HX:=AA (HX.o.step hb);clear hb)
    |(go_at_call 54;refine(fk.o _ HX.o.below).mono ?_;rintro e w3 ⟨he,hb⟩;obtain rfl:=he;have HX:=AA (HX.o.step hb);clear hb))
   have bS:Below w3.heap.size w3 (w3.alloc (.cells #[] 208)):=bA;have o7:Below (w3.alloc (.cells #[] 208)).heap.size (w3.alloc (.cells #[] 208)) ((w3.alloc (.cells #[] 208)).alloc (.cells #[.int .i64 0] 3)):=bA;have ck:=AA ((HX.o.step bS).step o7);have cv:=AA ((DT Dz 25 w3 208).below o7);have bN:=AA (Al Ag (by omega) (w3.alloc (.cells #[] 208)) 3 [0] 1 #[.int .i64 0] rfl rfl (by decide));have qr:(w3.alloc (.cells #[] 208)).heap.size=w3.heap.size+1:=by simp
   rw [qr] at bN;clear bS o7 qr;have HG:Hd (GL (PA.er (AG.node a l))):=GN _ HL.o HS.o HU.o;have iF:Hd (∀W p q n c m mc,W=((w3.alloc (.cells #[] 208)).alloc (.cells #[.int .i64 0] 3))→p=some ⟨w3.heap.size,0,none⟩→n=0→c=0→q=some ⟨w3.heap.size+1,0,none⟩→m=1→mc=1→Js w W (Sn w (fun _=>True)) (.node a l) p q n c m mc [] [0]):=by rintro W p q n c m mc rfl rfl rfl rfl rfl rfl rfl;exact⟨ck.o.below,HL.o,HS.o,HG.o,⟨cv.o,fun b hb=>(by cases hb)⟩,bN.o,fun b hb=>(by cases hb),fun b hb=>.inl ⟨hb,trivial⟩,fun b hb=>.inr (Nat.le_trans ck.o.size hb),by have:=HZ.o;omega,by have:=HZ.o;omega,by have:=HZ.o;omega⟩
   cases fH:chk [] [0] (PA.er (AG.node a l)) with
   |error er=>
    obtain⟨z,no⟩:=er;have eR:=AA fH;clear fH
    go_wp2_with (first
     |(refine lw ck.o.box.blk underlying31 ?_)
     |(go_at_call 55;refine(Ia _ _ _ _ _ _ _ _ _ _ _ (iF.o _ _ _ _ _ _ _ rfl rfl rfl rfl rfl rfl rfl)).mono ?_;rw [show Cv []=[] from rfl,eR.o];rintro e w6 ⟨he,hb⟩;obtain rfl:=he;have dw:=AA (ck.o.step hb);clear hb)
     |(refine I5 z no dw.o ?_))
    (try go_wp2_with fail);(try simp only [Exit.inBlock,Exit.then]);refine br (dw.o.heap _) underlying69 ?_;rw [aN.o,eR.o];exact dw.o.err
   |ok x=>
    have eR:=AA fH;clear fH
    go_wp2_with (first
     |(refine lw ck.o.box.blk underlying31 ?_)
     |(go_at_call 55;refine(Ia _ _ _ _ _ _ _ _ _ _ _ (iF.o _ _ _ _ _ _ _ rfl rfl rfl rfl rfl rfl rfl)).mono ?_;rw [show Cv []=[] from rfl,eR.o];rintro e w6 ⟨⟨y,rfl,cM,hy⟩,hb⟩;have HY:=AA hy;have dm:=AA cM;clear hy cM;have dw:=AA (ck.o.step hb);clear hb)
     |(refine XV y dw.o ?_))
    (try go_wp2_with fail);(try simp only [Exit.inBlock,Exit.then]);refine br (dw.o.heap _) underlying69 ?_;rw [aN.o,eR.o];exact dw.o.fin (fun _ _=>trivial) HY.o dm.o
end Go.Proofs.YtkdjnegfnhldpaaGreatDoor
