/- Several texts in one. No condition but those that stand in each. -/
import Derived.Test.YtmnbolcmepihlaaGreatT
import Derived.Test.YtmnbolcmepihlaaGreatB6
namespace Go.Proofs.YtmnbolcmepihlaaGreat
set_option linter.all false
open Go Go.Proofs.Tryz
def qz(s:Int×Int):U:=.agg [.int .i64 s.1,.int .i64 s.2]
def ch(m:List (Int×Int))(r:Int):Int:=(bT m r).getD 2305843009213693951
abbrev fB(aL:List bL)(dW:List (List U))(m1:List (Int×Int))(fC:List (List U))(m2:List (Int×(Int×Int))):Y:=
 [(910000000,.cells 165 [.aX false (aD eo aL),.own 910000001,.own 910000003]),(910000001,.gZ 144 dW 910000002),(910000002,.map 3 3 (dy .i64 (c5 .i64) m1)),(910000003,.gZ 166 fC 910000004),(910000004,.map 3 169 (dy .i64 qz m2))]
theorem MS:∀w,∃v,(zeroValue 3).run prog w=.ok v w∧∀I,aO I (c5 .i64 0) v:=λw=>⟨_,zeroValue3 w,λI=>by simp[aO,c5]⟩
variable {aL:List bL}{dW fC:List (List U)}{m1:List (Int×Int)}{m2:List (Int×(Int×Int))}
theorem G1(r:Int):ef prog 120 (fB aL dW m1 fC m2) [.ptr 910000000 0,.int .i64 (dW.length:Int),.int .i64 r] (.int .i64 (ch m1 r)):=by
 refine eu func120 rfl rfl ?_;refine A.eB cm [] [] [(0,.ptr 910000000 0),(1,.int .i64 (dW.length:Int)),(2,.int .i64 r)] (fB aL dW m1 fC m2) (by kernel_rfl) ?_;refine A.seq ?_;refine A.eB cm [] [(5,Ci (xs:=dW) (i:=(dW.length:Int)) Dv ⟨by omega,by omega⟩),(6,n4 (xs:=dW) (p:=(dW.length:Int).toNat) DI (by omega)),(8,vH (lk (E:=3) (k:=.i64) (enc:=c5 .i64) m1 r 0 MS))] [(7,.int .i64 ((bT m1 r).getD 0)),(8,.bool (bT m1 r).isSome)] (fB aL dW m1 fC m2) (by kernel_rfl) ?_;refine A.eB cm [] [] [(7,.int .i64 ((bT m1 r).getD 0)),(21,.bool (bT m1 r).isSome)] (fB aL dW m1 fC m2) (by kernel_rfl) ?_;cases bl:bT m1 r with
 |some c=>
  refine A.kX rfl rfl ?_;refine A.eB cm [] [] [(6,.int .i64 c)] (fB aL dW m1 fC m2) (by kernel_rfl) ?_;refine A.ret ?_;have e:ch m1 r=c:=by unfold ch;rw[bl];rfl
  rw[e];exact A.fin cm [] rfl (by kernel_rfl)
 |none=>
  refine A.jV rfl rfl ?_;refine A.skip ?_;show aY _ _ _ _ _;refine A.eB cm [] [] [(6,.int .i64 2305843009213693951)] (fB aL dW m1 fC m2) (by kernel_rfl) ?_;refine A.ret ?_;have e:ch m1 r=2305843009213693951:=by unfold ch;rw[bl];rfl
  rw[e];exact A.fin cm [] rfl (by kernel_rfl)
theorem Om{rows:List (List (Int×Int))}{s:Int}{m:List (Int×Int)}(r:Int)(W:dj rows s=some m):
  ef prog 120 (fB aL (rows.map λm=>[.de (dy .i64 (c5 .i64) m)]) m1 fC m2) [.ptr 910000000 0,.int .i64 s,.int .i64 r] (.int .i64 (ch m r)):=by
 obtain⟨bJ,h1⟩:=(show 0≤s∧rows[s.toNat]?=some m by unfold dj at W;split at W;exact⟨‹_›,W⟩;cases W);have bQ:=(List.getElem?_eq_some_iff.1 h1).1;have h0:(rows.map λm=>[U.de (dy .i64 (c5 .i64) m)])[s.toNat]?=some [.de (dy .i64 (c5 .i64) m)]:=by rw[List.getElem?_map,h1];rfl
 have eF:0≤s∧s<((rows.map λm=>[U.de (dy .i64 (c5 .i64) m)]).length:Int)+1:=by rw[List.length_map];omega
 generalize xV:(rows.map λm=>[U.de (dy .i64 (c5 .i64) m)])=dW at h0 eF ⊢;refine eu func120 rfl rfl ?_;refine A.eB cm [] [] [(0,.ptr 910000000 0),(1,.int .i64 s),(2,.int .i64 r)] (fB aL dW m1 fC m2) (by kernel_rfl) ?_;refine A.seq ?_;refine A.eB cm [] [(5,Ci (xs:=dW) (i:=s) Dv eF),(6,SH (xs:=dW) (p:=s.toNat) DI h0),(8,zo (k:=.i64) m r (c5 .i64) 0 Hf MS)] [(7,.int .i64 ((bT m r).getD 0)),(8,.bool (bT m r).isSome)] (fB aL dW m1 fC m2) (by kernel_rfl) ?_;refine A.eB cm [] [] [(7,.int .i64 ((bT m r).getD 0)),(21,.bool (bT m r).isSome)] (fB aL dW m1 fC m2) (by kernel_rfl) ?_;cases bl:bT m r with
 |some c=>
  refine A.kX rfl rfl ?_;refine A.eB cm [] [] [(6,.int .i64 c)] (fB aL dW m1 fC m2) (by kernel_rfl) ?_;refine A.ret ?_;have e:ch m r=c:=by unfold ch;rw[bl];rfl
  rw[e];exact A.fin cm [] rfl (by kernel_rfl)
 |none=>
  refine A.jV rfl rfl ?_;refine A.skip ?_;show aY _ _ _ _ _;refine A.eB cm [] [] [(6,.int .i64 2305843009213693951)] (fB aL dW m1 fC m2) (by kernel_rfl) ?_;refine A.ret ?_;have e:ch m r=2305843009213693951:=by unfold ch;rw[bl];rfl
  rw[e];exact A.fin cm [] rfl (by kernel_rfl)
theorem MN(r c tu tE:Int)(aa:ch m1 r≤c):
  gi prog 119 (fB aL dW m1 fC m2) [.ptr 910000000 0,.int .i64 (dW.length:Int),.int .i64 r,.int .i64 c,.agg [.int .i64 tu,.int .i64 tE]] (λa az=>a=.bool false∧az=fB aL dW m1 fC m2):=by
 refine eu func119 rfl rfl ?_;refine A.eB cm [] [(0,.al 910000005)] [(0,.ptr 910000000 0),(1,.int .i64 (dW.length:Int)),(2,.int .i64 r),(3,.int .i64 c)] (fB aL dW m1 fC m2) (by kernel_rfl) ?_;refine A.seq ?_;refine A.eB cm [] [(4,cE (G1 (aL:=aL) (dW:=dW) (m1:=m1) (fC:=fC) (m2:=m2) r) yG)] [(16,.bool (decide (ch m1 r≤c)))] (fB aL dW m1 fC m2) (by kernel_rfl) ?_;refine A.kX rfl (decide_eq_true aa) ?_;refine A.eB cm [] [] [(10,.bool false)] (fB aL dW m1 fC m2) (by kernel_rfl) ?_;refine A.ret ?_;exact A.fin cm [] rfl (by kernel_rfl)
theorem UA:∀w,(zeroValue 169).run prog w=.ok (.agg #[.int .i64 0,.int .i64 0]) w:=λw=>zeroValue169 w
theorem UB:∀I,aO I (qz (0,0)) (.agg #[.int .i64 0,.int .i64 0]):=λI=>by
 simp only[qz,aO,b9];exact⟨_,rfl,_,_,rfl,rfl,_,_,rfl,rfl,rfl⟩
theorem MO(r c tu tE:Int)(aJ:fC.length=dW.length)(aa:c<ch m1 r):
  gi prog 119 (fB aL dW m1 fC m2) [.ptr 910000000 0,.int .i64 (dW.length:Int),.int .i64 r,.int .i64 c,.agg [.int .i64 tu,.int .i64 tE]] (λa az=>a=.bool true∧az=fB aL dW (c6 m1 r c) fC (c6 m2 r (tu,tE))):=by
 rw[←LG r ((bT m1 r).getD 0) c m1,←LG r ((bT m2 r).getD (0,0)) (tu,tE) m2];refine eu func119 rfl rfl ?_;refine A.eB cm [] [(0,.al 910000005)] [(0,.ptr 910000000 0),(1,.int .i64 (dW.length:Int)),(2,.int .i64 r),(3,.int .i64 c),(9,.ptr 910000005 0)] (fB aL dW m1 fC m2++[(910000005,.cells 169 [.int .i64 tu,.int .i64 tE])]) (by kernel_rfl) ?_;refine A.seq ?_;refine A.eB cm [] [(4,cE (G1 (aL:=aL) (dW:=dW) (m1:=m1) (fC:=fC) (m2:=m2) r) yG)] [(0,.ptr 910000000 0),(1,.int .i64 (dW.length:Int)),(2,.int .i64 r),(3,.int .i64 c),(9,.ptr 910000005 0),(16,.bool (decide (ch m1 r≤c)))] (fB aL dW m1 fC m2++[(910000005,.cells 169 [.int .i64 tu,.int .i64 tE])]) (by kernel_rfl) ?_;refine A.jV rfl (decide_eq_false (by omega)) ?_;refine A.skip ?_;show aY _ _ _ _ _;refine A.DZ (d:=910000002) (K:=3) (E:=3) (bx:=dy .i64 (c5 .i64) m1) rfl λy4 gK=>?_;refine A.DZ (d:=910000004) (K:=3) (E:=169) (bx:=dy .i64 qz m2) rfl λRI dN=>?_
 refine A.eB cm [] [(5,Ci (xs:=dW) (i:=(dW.length:Int)) Dv ⟨by omega,by omega⟩),(6,n4 (xs:=dW) (p:=(dW.length:Int).toNat) DI (by omega)),(13,Ci (xs:=fC) (i:=(dW.length:Int)) Pr ⟨by omega,by omega⟩),(14,n4 (xs:=fC) (p:=(dW.length:Int).toNat) Pt (by omega)),
   (18,Sj (k:=.i64) r m1 (c5 .i64) 0 y4 gK Hf (λw=>zeroValue3 w) (λI=>by simp[aO,c5])),(20,i5 (k:=.i64) (a0:=(bT m1 r).getD 0) r (.int .i64 0) (c6 m1 r ((bT m1 r).getD 0)) (c5 .i64) c y4 gK (CT _ _ _) rfl),
   (21,Sj (k:=.i64) r m2 qz (0,0) RI dN Dt UA UB),(23,i5 (k:=.i64) (a0:=(bT m2 r).getD (0,0)) r (.agg #[.int .i64 0,.int .i64 0]) (c6 m2 r ((bT m2 r).getD (0,0))) qz (tu,tE) RI dN (CT _ _ _) rfl)]
  [] (fB aL dW (c6 (c6 m1 r ((bT m1 r).getD 0)) r c) fC (c6 (c6 m2 r ((bT m2 r).getD (0,0))) r (tu,tE))) (by kernel_rfl) ?_
 refine A.eB cm [] [] [(10,.bool true)] (fB aL dW (c6 (c6 m1 r ((bT m1 r).getD 0)) r c) fC (c6 (c6 m2 r ((bT m2 r).getD (0,0))) r (tu,tE))) (by kernel_rfl) ?_;refine A.ret ?_;exact A.fin cm [] rfl (by kernel_rfl)
end Go.Proofs.YtmnbolcmepihlaaGreat
namespace Go.Proofs.YtmnbolcmepihlaaGreat
set_option linter.all false
open Go Go.Proofs.Tryz
theorem K4{α:Type}{n x:Int}(v:α)(h:x≠n):∀l:List (Int×α),bT (c6 l n v) x=bT l x
 |[]=>by
  have:¬n=x:=λe=>h e.symm;simp[c6,bT,this]
 |p::r=>by
  unfold c6;split
  ·rename_i aB;have:¬p.1=x:=λe=>h (by rw[←e,aB]);have D:¬n=x:=λe=>h e.symm;rw[pS,pS,if_neg this,if_neg D]
  ·rw[pS,pS,K4 v h r]
theorem uv(m:List (Int×Int))(r c x:Int):ch (c6 m r c) x=if x=r then c else ch m x:=by
 unfold ch;split
 ·rename_i h;subst h;rw[CT];rfl
 ·rename_i h;rw[K4 _ h]
def pJ(aL:List bL)(m:List (Int×Int)):Nat:=(aL.map λa=>(ch m a.Hop.bg).toNat).sum
theorem HJ{m oM:List (Int×Int)}(h:∀x,ch oM x≤ch m x):∀aL:List bL,pJ aL oM≤pJ aL m
 |[]=>Nat.le_refl _
 |a::r=>by
  have h1:=HJ h r;have D:=h a.Hop.bg;unfold pJ at h1 ⊢;simp only[List.map_cons,List.sum_cons];omega
theorem On{m oM:List (Int×Int)}(h:∀x,ch oM x≤ch m x){a:bL}(bJ:0≤ch oM a.Hop.bg)(bQ:ch oM a.Hop.bg<ch m a.Hop.bg):∀{aL:List bL},a∈aL→pJ aL oM<pJ aL m
 |[],aC=>by cases aC
 |b::r,aC=>by
  have D:=h b.Hop.bg;rcases List.mem_cons.1 aC with rfl|aC
  ·have h1:=HJ h r;unfold pJ at h1 ⊢;simp only[List.map_cons,List.sum_cons];omega
  ·have h1:=On h bJ bQ aC;unfold pJ at h1 ⊢;simp only[List.map_cons,List.sum_cons];omega
theorem Xi{aL:List bL}{dW:List (List U)}{m1:List (Int×Int)}{fC:List (List U)}{m2:List (Int×(Int×Int))}(aJ:fC.length=dW.length)(J:List (Int×Int)→List (Int×(Int×Int))→Prop)(bJ:J m1 m2)
  (V:∀m1 m2,J m1 m2→∀r,0≤ch m1 r∧ch m1 r≤2305843009213693951) (aC:∀a∈aL,0≤a.gr∧a.gr≤1000000)
  (lz:∀m1 m2 a,J m1 m2→a∈aL→a.gr+ch m1 a.Hop.aQ<ch m1 a.Hop.bg→J (c6 m1 a.Hop.bg (a.gr+ch m1 a.Hop.aQ)) (c6 m2 a.Hop.bg (a.Hop.aQ,0))) :
  gi prog 121 (fB aL dW m1 fC m2) [.ptr 910000000 0,.int .i64 (dW.length:Int)] (λa az=>a=.cD []∧∃hG iC,J hG iC∧(∀a∈aL,ch hG a.Hop.bg≤a.gr+ch hG a.Hop.aQ)∧az=fB aL dW hG fC iC):=by
 refine eu func121 rfl rfl ?_;refine A.eB cm [] [] [(0,.ptr 910000000 0),(1,.int .i64 (dW.length:Int)),(4,.bool true)] (fB aL dW m1 fC m2) (by kernel_rfl) ?_;refine A.block ?_;refine A.loop (α:=List (Int×Int)×List (Int×(Int×Int))×Bool) (λg=>[(0,.ptr 910000000 0),(1,.int .i64 (dW.length:Int)),(4,.bool g.2.2)]) (λg=>fB aL dW g.1 fC g.2.1) (λg=>J g.1 g.2.1∧(g.2.2=false→∀a∈aL,ch g.1 a.Hop.bg≤a.gr+ch g.1 a.Hop.aQ)) (λg=>pJ aL g.1+(bif g.2.2 then 1 else 0)) (m1,m2,true) ⟨bJ,λh=>by cases h⟩ (b8.go [] [] (by kernel_rfl)) ?_;rintro⟨iT,jK,qI⟩ ⟨hu,W⟩;simp only at hu W;refine A.seq ?_;refine A.eB cm [] [] [(0,.ptr 910000000 0),(1,.int .i64 (dW.length:Int)),(4,.bool qI),(7,.bool qI)] (fB aL dW iT fC jK) (by kernel_rfl) ?_;cases qI with
 |false=>
  refine A.jV rfl rfl ?_;refine A.exit ?_;refine ri.mono (A.fin cm [] (R:=.cD []) (σ2:=fB aL dW iT fC jK) rfl (by kernel_rfl)) ?_;rintro a s ⟨rfl,rfl⟩;exact⟨rfl,iT,jK,hu,W rfl,rfl⟩
 |true=>
  refine A.kX rfl rfl ?_;refine A.skip ?_;show aY _ _ _ _ _;refine A.block ?_;refine A.eB cm [] [] [(0,.ptr 910000000 0),(1,.int .i64 (dW.length:Int)),(4,.bool false)] (fB aL dW iT fC jK) (by kernel_rfl) ?_;refine A.eB cm [] [(4,aZ (ew eo aL))] [(0,.ptr 910000000 0),(1,.int .i64 (dW.length:Int)),(4,.bool false),(11,.aX false (aD eo aL)),(12,.int .i64 (aL.length:Int)),(13,.int .i64 0)] (fB aL dW iT fC jK) (by kernel_rfl) ?_;refine A.block ?_;refine A.jx 11 rfl λEN=>?_
  refine A.loop (α:=Nat×List (Int×Int)×List (Int×(Int×Int))×Bool) (λg=>[(0,.ptr 910000000 0),(1,.int .i64 (dW.length:Int)),(4,.bool g.2.2.2),(11,.aX false (aD eo aL)),(12,.int .i64 (aL.length:Int)),(13,.int .i64 (g.1:Int))]) (λg=>fB aL dW g.2.1 fC g.2.2.1)
   (λg=>g.1≤aL.length∧J g.2.1 g.2.2.1∧(g.2.2.2=false→(g.2.1=iT∧g.2.2.1=jK)∧∀i a,i<g.1→aL[i]?=some a→ch iT a.Hop.bg≤a.gr+ch iT a.Hop.aQ)∧(g.2.2.2=true→pJ aL g.2.1<pJ aL iT)∧∀x,ch g.2.1 x≤ch iT x) (λg=>aL.length-g.1) (0,iT,jK,false) ⟨Nat.zero_le _,hu,λ_=>⟨⟨rfl,rfl⟩,λi a hi=>by omega⟩,λh=>(by cases h),λx=>Int.le_refl _⟩ (b8.go [] [] (by kernel_rfl)) ?_
  rintro⟨j,fO,hL,qI⟩ ⟨aM,af,aT,ah,hle⟩;simp only at aM af aT ah hle;refine A.eB cm [] [] [(0,.ptr 910000000 0),(1,.int .i64 (dW.length:Int)),(4,.bool qI),(11,.aX false (aD eo aL)),(12,.int .i64 (aL.length:Int)),(13,.int .i64 (j:Int)),(14,.bool (decide ((j:Int)<(aL.length:Int))))] (fB aL dW fO fC hL) (by kernel_rfl) ?_;refine A.seq ?_;by_cases mh:j<aL.length
  ·have u:aL[j]?=some aL[j]:=List.getElem?_eq_getElem mh;generalize aL[j]=e at u;have JO:e∈aL:=List.mem_of_getElem? u;obtain⟨kI,bk⟩:=aC e JO;obtain⟨tW,dJ⟩:=V fO hL af e.Hop.aQ;have aq:bK (e.gr+ch fO e.Hop.aQ)=e.gr+ch fO e.Hop.aQ:=hW (by omega) (by omega);refine A.kX rfl (ih u) ?_;refine A.skip ?_;show aY _ _ _ _ _;refine A.seq ?_;refine A.block ?_;refine A.eB cm [] [(0,eg (ix eo (hN u))),(2,.al 910000006)] [(0,.ptr 910000000 0),(1,.int .i64 (dW.length:Int)),(4,.bool qI),(11,.aX false (aD eo aL)),(12,.int .i64 (aL.length:Int)),(13,.int .i64 (j:Int)),(6,.ptr 910000006 0)] (fB aL dW fO fC hL++[(910000006,.cells 175 [.int .i64 e.Hop.bg,.int .i64 e.Hop.aQ,.int .i64 e.gr])]) (by kernel_rfl) ?_;by_cases bQ:e.gr+ch fO e.Hop.aQ<ch fO e.Hop.bg
   ·refine A.eB cm [] [(12,cE (G1 (aL:=aL) (dW:=dW) (m1:=fO) (fC:=fC) (m2:=hL) e.Hop.aQ) yG),(13,aZ (show U.int .i64 (bK (e.gr+ch fO e.Hop.aQ))=U.int .i64 (e.gr+ch fO e.Hop.aQ)by rw[aq])),(18,gN [] (MO (aL:=aL) (m1:=fO) (m2:=hL) e.Hop.bg (e.gr+ch fO e.Hop.aQ) e.Hop.aQ 0 aJ bQ) AD)] [(0,.ptr 910000000 0),(1,.int .i64 (dW.length:Int)),(11,.aX false (aD eo aL)),(12,.int .i64 (aL.length:Int)),(13,.int .i64 (j:Int)),(35,.bool true)] (fB aL dW (c6 fO e.Hop.bg (e.gr+ch fO e.Hop.aQ)) fC (c6 hL e.Hop.bg (e.Hop.aQ,0))) (by kernel_rfl) ?_;refine A.kX rfl rfl ?_;refine A.R cm [] [] [(0,.ptr 910000000 0),(1,.int .i64 (dW.length:Int)),(4,.bool true),(11,.aX false (aD eo aL)),(12,.int .i64 (aL.length:Int)),(13,.int .i64 (j:Int))] (fB aL dW (c6 fO e.Hop.bg (e.gr+ch fO e.Hop.aQ)) fC (c6 hL e.Hop.bg (e.Hop.aQ,0))) (by kernel_rfl) ?_;show aY _ _ _ _ _;refine A.R cm [] [(0,aZ (hV u EN))] [(0,.ptr 910000000 0),(1,.int .i64 (dW.length:Int)),(4,.bool true),(11,.aX false (aD eo aL)),(12,.int .i64 (aL.length:Int)),(13,.int .i64 ((j+1:Nat):Int))] (fB aL dW (c6 fO e.Hop.bg (e.gr+ch fO e.Hop.aQ)) fC (c6 hL e.Hop.bg (e.Hop.aQ,0))) (by kernel_rfl) ?_;have RR:=lz fO hL e af JO bQ
    have Se:∀x,ch (c6 fO e.Hop.bg (e.gr+ch fO e.Hop.aQ)) x≤ch fO x:=λx=>by
     rw[uv];split
     ·rename_i h;subst h;omega
     ·omega
    have J3:pJ aL (c6 fO e.Hop.bg (e.gr+ch fO e.Hop.aQ))<pJ aL fO:=On Se (V _ _ RR _).1 (by rw[uv,if_pos rfl];exact bQ) JO;have ahx:pJ aL fO≤pJ aL iT:=HJ hle aL;refine⟨(j+1,c6 fO e.Hop.bg (e.gr+ch fO e.Hop.aQ),c6 hL e.Hop.bg (e.Hop.aQ,0),true),⟨mh,RR,λh=>(by cases h),λ_=>Nat.lt_of_lt_of_le J3 ahx,λx=>Int.le_trans (Se x) (hle x)⟩,by simp only;omega,b8.go [] [] (by kernel_rfl)⟩
   ·refine A.eB cm [] [(12,cE (G1 (aL:=aL) (dW:=dW) (m1:=fO) (fC:=fC) (m2:=hL) e.Hop.aQ) yG),(13,aZ (show U.int .i64 (bK (e.gr+ch fO e.Hop.aQ))=U.int .i64 (e.gr+ch fO e.Hop.aQ)by rw[aq])),(18,gN [] (MN (aL:=aL) (dW:=dW) (m1:=fO) (fC:=fC) (m2:=hL) e.Hop.bg (e.gr+ch fO e.Hop.aQ) e.Hop.aQ 0 (Int.not_lt.1 bQ)) AD)] [(0,.ptr 910000000 0),(1,.int .i64 (dW.length:Int)),(4,.bool qI),(11,.aX false (aD eo aL)),(12,.int .i64 (aL.length:Int)),(13,.int .i64 (j:Int)),(35,.bool false)] (fB aL dW fO fC hL) (by kernel_rfl) ?_;refine A.jV rfl rfl ?_;refine A.skip ?_;show aY _ _ _ _ _;refine A.R cm [] [(0,aZ (hV u EN))] [(0,.ptr 910000000 0),(1,.int .i64 (dW.length:Int)),(4,.bool qI),(11,.aX false (aD eo aL)),(12,.int .i64 (aL.length:Int)),(13,.int .i64 ((j+1:Nat):Int))] (fB aL dW fO fC hL) (by kernel_rfl) ?_;refine⟨(j+1,fO,hL,qI),⟨mh,af,λh=>⟨(aT h).1,λi a hi zm=>?_⟩,ah,hle⟩,by simp only;omega,b8.go [] [] (by kernel_rfl)⟩;rcases Nat.lt_or_eq_of_le (Nat.le_of_lt_succ hi)with hi|hi
    ·exact(aT h).2 i a hi zm
    ·subst hi;rw[u]at zm;cases zm;have:=(aT h).1.1;rw[←this];omega
  ·refine A.jV rfl (h8 (by omega)) ?_;refine A.exit ?_;refine⟨(fO,hL,qI),⟨af,λh a agm=>?_⟩,?_,b8.go [] [] (by kernel_rfl)⟩
   ·obtain⟨⟨aA,e2⟩,ak⟩:=aT h;obtain⟨i,hi⟩:=List.getElem?_of_mem agm;rw[aA];exact ak i a (by have:=(List.getElem?_eq_some_iff.1 hi).1;omega) hi
   ·cases qI with
    |true=>have:=ah rfl;simp only[cond_true];omega
    |false=>
     have:=(aT rfl).1.1;rw[this];simp only[cond_false,cond_true];omega
end Go.Proofs.YtmnbolcmepihlaaGreat
namespace Go.Proofs.YtmnbolcmepihlaaGreat
set_option linter.all false
open Go Go.Proofs.Tryz
def fM:iU (List (Int×Int)):=⟨λm=>[.de (dy .i64 (c5 .i64) m)],1,λ_=>rfl,λ_=>rfl,λ_=>rfl⟩
def fQ:iU (List (Int×(Int×Int))):=⟨λm=>[.de (dy .i64 qz m)],1,λ_=>rfl,λ_=>rfl,λ_=>rfl⟩
abbrev l6(o:Nat)(l:List bh):Y:=[(910000010,.cells 34 [.own o]),(o,.slice 84 2 (aD b1 l) 0 false)]
theorem Xj{α:Type}{l r:List α}(h:l.length+r.length≤549755813888):j7 l r=some (l++r):=by unfold j7;rw[if_pos (by unfold aF;exact h)]
theorem Xk{l:List bh}(h:bh)(aJ:l.length+1≤549755813888):
  gi prog 123 (l6 910000011 l) [.agg [.int .i64 h.bg,.int .i64 h.aQ],.ptr 910000010 0] (λa az=>a=.cD []∧az=l6 910000012 (l++[h])):=by
 have agn:j7 l ([h]:List bh)=some (l++[h]):=Xj aJ;refine eu func123 rfl rfl ?_;refine A.eB cm [] [(0,.al 910000013)] [(1,.ptr 910000010 0),(2,.ptr 910000013 0)] (l6 910000011 l++[(910000013,.cells 84 [.int .i64 h.bg,.int .i64 h.aQ])]) (by kernel_rfl) ?_;refine A.R cm [] [(3,qP 910000014 (ap b1 (bytes:=16) (by decide) agn))] [] (l6 910000014 (l++[h])) (by kernel_rfl) ?_;exact A.fin cm [.kV 910000014 910000012] rfl (by kernel_rfl)
inductive nQ(eY:List (List (Int×(Int×Int)))):Int→Int→List bh→Prop
 |leaf {s r:Int} {m:List (Int×(Int×Int))} (h:dj eY s=some m) (aT:(bT m r).getD (0,0)=(0,0)):nQ eY s r []
 |next {s r:Int} {m:List (Int×(Int×Int))} {x:Int×Int} {H:List bh} (h:dj eY s=some m) (u:(bT m r).getD (0,0)=x) (aT:x.1≠0) (aa:nQ eY s x.1 H):nQ eY s r (bh.mk r x.1::H)
 |part {s r:Int} {m:List (Int×(Int×Int))} {x:Int×Int} {H K:List bh} {dO:Int} (h:dj eY s=some m) (u:(bT m r).getD (0,0)=x) (h1:x.1=0) (aT:x.2≠0) (D:dO=kN .andNot .i64 s x.2) (aa:nQ eY x.2 r H) (hk:nQ eY dO r K):nQ eY s r (H++K)
theorem MT:∀w,∃v,(zeroValue 169).run prog w=.ok v w∧∀I,aO I (qz (0,0)) v:=λw=>⟨_,UA w,UB⟩
theorem VS{aL:List bL}{u0:List (List (Int×Int))}{eY:List (List (Int×(Int×Int)))}{s r:Int}{H:List bh}(s0:nQ eY s r H):∀{l:List bh},l.length+H.length≤549755813888→
  gi prog 122 (l6 910000011 l) [.fP [.aX false (aD eo aL),.aX false (aD fM u0),.aX false (aD fQ eY)],.int .i64 s,.int .i64 r,.fn 123 [.ptr 910000010 0]] (λa az=>a=.cD []∧az=l6 910000012 (l++H)):=by
 induction s0 with
 |@leaf s r m h aT=>
  intro l _;rw[List.append_nil];refine eu func122 rfl rfl ?_;refine A.eB cm [] [(5,eg (ix fQ h)),(8,zo (k:=.i64) m r qz (0,0) Dt MT),(9,.al 910000015)] [(8,.ptr 910000015 0)] (l6 910000011 l++[(910000015,.cells 169 [.int .i64 ((bT m r).getD (0,0)).1,.int .i64 ((bT m r).getD (0,0)).2])]) (by kernel_rfl) ?_;refine A.block ?_;refine A.eB cm [] [] [(8,.ptr 910000015 0),(18,.bool (!decide (((bT m r).getD (0,0)).1=(0:Int))))] (l6 910000011 l++[(910000015,.cells 169 [.int .i64 ((bT m r).getD (0,0)).1,.int .i64 ((bT m r).getD (0,0)).2])]) (by kernel_rfl) ?_;refine A.jV rfl (by rw[aT];rfl) ?_;refine A.eB cm [] [] [(34,.bool (!decide (((bT m r).getD (0,0)).2=(0:Int))))] (l6 910000011 l) (by kernel_rfl) ?_;refine A.jV rfl (by rw[aT];rfl) ?_;refine A.skip ?_;exact A.fin cm [.rn 910000011 910000012] rfl (by kernel_rfl)
 |@next s r m x H h u aT aa bD=>
  intro l aJ;subst u;simp only[List.length_cons]at aJ;rw[show l++(bh.mk r ((bT m r).getD (0,0)).1::H)=(l++[bh.mk r ((bT m r).getD (0,0)).1])++H by simp];have ah3:=@bD (l++[bh.mk r ((bT m r).getD (0,0)).1]) (by simp;omega);refine eu func122 rfl rfl ?_;refine A.eB cm [] [(5,eg (ix fQ h)),(8,zo (k:=.i64) m r qz (0,0) Dt MT),(9,.al 910000015)] [(0,.fP [.aX false (aD eo aL),.aX false (aD fM u0),.aX false (aD fQ eY)]),(1,.int .i64 s),(2,.int .i64 r),(3,.fn 123 [.ptr 910000010 0]),(8,.ptr 910000015 0)] (l6 910000011 l++[(910000015,.cells 169 [.int .i64 ((bT m r).getD (0,0)).1,.int .i64 ((bT m r).getD (0,0)).2])]) (by kernel_rfl) ?_;refine A.block ?_;refine A.eB cm [] [] [(0,.fP [.aX false (aD eo aL),.aX false (aD fM u0),.aX false (aD fQ eY)]),(1,.int .i64 s),(2,.int .i64 r),(3,.fn 123 [.ptr 910000010 0]),(8,.ptr 910000015 0),(18,.bool (!decide (((bT m r).getD (0,0)).1=(0:Int))))] (l6 910000011 l++[(910000015,.cells 169 [.int .i64 ((bT m r).getD (0,0)).1,.int .i64 ((bT m r).getD (0,0)).2])]) (by kernel_rfl) ?_;refine A.kX rfl (by simp[aT]) ?_;refine A.eB cm [] [(5,gN [910000012] (Xk (l:=l) (bh.mk r ((bT m r).getD (0,0)).1) (by omega)) adl)] [(0,.fP [.aX false (aD eo aL),.aX false (aD fM u0),.aX false (aD fQ eY)]),(1,.int .i64 s),(3,.fn 123 [.ptr 910000010 0]),(8,.ptr 910000015 0)] (l6 910000012 (l++[bh.mk r ((bT m r).getD (0,0)).1])++[(910000015,.cells 169 [.int .i64 ((bT m r).getD (0,0)).1,.int .i64 ((bT m r).getD (0,0)).2])]) (by kernel_rfl) ?_;refine A.R cm [] [(5,gN [910000017] (sQ.at [(910000011,910000012),(910000012,910000017)] ah3) Hp)] [] (l6 910000017 ((l++[bh.mk r ((bT m r).getD (0,0)).1])++H)) (by kernel_rfl) ?_;exact A.fin cm [.kV 910000017 910000012] rfl (by kernel_rfl)
 |@part s r m x H K dO h u h1 aT D aa hk Kl Cr=>
  intro l aJ;subst u;subst D;rw[List.length_append]at aJ;rw[show l++(H++K)=(l++H)++K by simp];have ah4:=@Kl l (by omega);have ah5:=@Cr (l++H) (by simp;omega);refine eu func122 rfl rfl ?_;refine A.eB cm [] [(5,eg (ix fQ h)),(8,zo (k:=.i64) m r qz (0,0) Dt MT),(9,.al 910000015)] [(0,.fP [.aX false (aD eo aL),.aX false (aD fM u0),.aX false (aD fQ eY)]),(1,.int .i64 s),(2,.int .i64 r),(3,.fn 123 [.ptr 910000010 0]),(8,.ptr 910000015 0)] (l6 910000011 l++[(910000015,.cells 169 [.int .i64 ((bT m r).getD (0,0)).1,.int .i64 ((bT m r).getD (0,0)).2])]) (by kernel_rfl) ?_;refine A.block ?_;refine A.eB cm [] [] [(0,.fP [.aX false (aD eo aL),.aX false (aD fM u0),.aX false (aD fQ eY)]),(1,.int .i64 s),(2,.int .i64 r),(3,.fn 123 [.ptr 910000010 0]),(8,.ptr 910000015 0),(18,.bool (!decide (((bT m r).getD (0,0)).1=(0:Int))))] (l6 910000011 l++[(910000015,.cells 169 [.int .i64 ((bT m r).getD (0,0)).1,.int .i64 ((bT m r).getD (0,0)).2])]) (by kernel_rfl) ?_;refine A.jV rfl (by simp[h1]) ?_;refine A.eB cm [] [] [(0,.fP [.aX false (aD eo aL),.aX false (aD fM u0),.aX false (aD fQ eY)]),(1,.int .i64 s),(2,.int .i64 r),(3,.fn 123 [.ptr 910000010 0]),(8,.ptr 910000015 0),(34,.bool (!decide (((bT m r).getD (0,0)).2=(0:Int))))] (l6 910000011 l++[(910000015,.cells 169 [.int .i64 ((bT m r).getD (0,0)).1,.int .i64 ((bT m r).getD (0,0)).2])]) (by kernel_rfl) ?_;refine A.kX rfl (by simp[aT]) ?_;refine A.eB cm [] [(5,gN [910000012] ah4 Hp)] [(0,.fP [.aX false (aD eo aL),.aX false (aD fM u0),.aX false (aD fQ eY)]),(1,.int .i64 s),(2,.int .i64 r),(3,.fn 123 [.ptr 910000010 0]),(8,.ptr 910000015 0)] (l6 910000012 (l++H)++[(910000015,.cells 169 [.int .i64 ((bT m r).getD (0,0)).1,.int .i64 ((bT m r).getD (0,0)).2])]) (by kernel_rfl) ?_;refine A.R cm [] [(7,gN [910000017] (sQ.at [(910000011,910000012),(910000012,910000017)] ah5) Hp)] [] (l6 910000017 ((l++H)++K)) (by kernel_rfl) ?_;exact A.fin cm [.kV 910000017 910000012] rfl (by kernel_rfl)
end Go.Proofs.YtmnbolcmepihlaaGreat
namespace Go.Proofs.YtmnbolcmepihlaaGreat
set_option linter.all false
open Go
def iA(a b:Nat):Nat:=(BitVec.ofNat 64 a &&& ~~~ BitVec.ofNat 64 b).toNat
variable {a b:Nat}
theorem GD(aC:a<2 ^ 60)(V:b<2 ^ 60)(i:Nat):(iA a b).testBit i=(a.testBit i&&!b.testBit i):=by
 unfold iA;rw[BitVec.toNat_and,Nat.testBit_and,BitVec.toNat_ofNat,Nat.mod_eq_of_lt (by omega)];by_cases hi:i<64
 ·congr 1;rw[←BitVec.getLsbD,BitVec.getLsbD_not,BitVec.getLsbD_ofNat];simp[hi]
 ·have:a.testBit i=false:=Nat.testBit_lt_two_pow (Nat.lt_of_lt_of_le aC (Nat.pow_le_pow_right (by omega) (by omega)));rw[this];rfl
theorem MP(aC:a<2 ^ 60):iA a b≤a:=by
 unfold iA;rw[BitVec.toNat_and,BitVec.toNat_ofNat,Nat.mod_eq_of_lt (by omega)];exact Nat.and_le_left
theorem Md(aC:a<2 ^ 60)(V:b<2 ^ 60):kN .and .i64 (a:Int) (b:Int)=((a &&& b:Nat):Int):=by
 have h1:(a &&& b)≤a:=Nat.and_le_left;show bK (((BitVec.ofInt 64 (a:Int) &&& BitVec.ofInt 64 (b:Int)).toNat:Nat):Int)=_;rw[BitVec.ofInt_natCast,BitVec.ofInt_natCast,BitVec.toNat_and,BitVec.toNat_ofNat,BitVec.toNat_ofNat,Nat.mod_eq_of_lt (by omega),Nat.mod_eq_of_lt (by omega)];exact hW (by omega) (by omega)
theorem LI(aC:a<2 ^ 60):kN .andNot .i64 (a:Int) (b:Int)=((iA a b:Nat):Int):=by
 have h1:=MP (a:=a) (b:=b) aC;show bK (((BitVec.ofInt 64 (a:Int) &&& ~~~ BitVec.ofInt 64 (b:Int)).toNat:Nat):Int)=_;rw[BitVec.ofInt_natCast,BitVec.ofInt_natCast];exact hW (by show -9223372036854775808≤((iA a b:Nat):Int);omega) (by show((iA a b:Nat):Int)≤_;omega)
theorem Nr:∀(p S q:Nat),p &&& S=p→q &&& S=q→q<p→q≤(p-1) &&& S:=by
 intro p;induction p using Nat.strongRecOn with
 |_ p bD=>
  intro S q aB bR bQ
  have d2:∀a b:Nat,(a &&& b) / 2=a / 2 &&& b / 2:=λa b=>by
   have:=Nat.and_div_two_pow (a:=a) (b:=b) (n:=1);simpa using this
  have m2:∀a b:Nat,(a &&& b)%2=(a%2) &&& (b%2):=λa b=>by
   have:=Nat.and_mod_two_pow (a:=a) (b:=b) (n:=1);simpa using this
  have n2:p / 2 &&& S / 2=p / 2:=by rw[←d2,aB]
  have Ce:q / 2 &&& S / 2=q / 2:=by rw[←d2,bR]
  have ahB:(q%2) &&& (S%2)=q%2:=by rw[←m2,bR]
  have anR:(p%2) &&& (S%2)=p%2:=by rw[←m2,aB]
  have e2:=d2 (p-1) S;have b6:=m2 (p-1) S;rcases Nat.mod_two_eq_zero_or_one p with St|St
  ·have h1:(p-1) / 2=p / 2-1:=by omega
   have D:(p-1)%2=1:=by omega
   have ak:=bD (p / 2) (by omega) (S / 2) (q / 2) n2 Ce (by omega);rw[h1]at e2;rw[D]at b6;have bc:1 &&& (S%2)=S%2:=by rcases Nat.mod_two_eq_zero_or_one S with h|h<;>rw[h]<;>rfl
   rw[bc]at b6;have bX:q%2≤S%2:=by rw[←ahB];exact Nat.and_le_right
   omega
  ·have h1:(p-1) / 2=p / 2:=by omega
   rw[h1,n2]at e2;omega
variable {S:Nat}
theorem UN(p:Nat):(a &&& S) &&& S=a &&& S:=by
 rw[Nat.and_assoc,Nat.and_self]
theorem Xl(i:Nat):2 ^ i &&& (2 ^ i-1)=0:=by
 apply Nat.eq_of_testBit_eq;intro j;rw[Nat.testBit_and,Nat.testBit_two_pow,Nat.testBit_two_pow_sub_one];by_cases h:i=j
 ·subst h;simp
 ·simp[h]
def gu(rows:List (List (Int×Int)))(S:Nat):List (Int×Int):=rows.getD S []
def wq(aL:List bL)(ts:List Int)(rows:List (List (Int×Int)))(S:Nat)(m:List (Int×Int))(v c:Int)(x:Int×Int):Prop:=
 (x.1≠0∧∃a∈aL,a.Hop.bg=v∧a.Hop.aQ=x.1∧a.gr+ch m x.1≤c)∨
 (x.1=0∧∃P:Nat,x.2=(P:Int)∧0<P∧P<S∧P &&& S=P∧c=ch (gu rows P) v+ch (gu rows (iA S P)) v∧ch (gu rows P) v<2305843009213693951∧ch (gu rows (iA S P)) v<2305843009213693951)∨
 (x=(0,0)∧∃i,ts[i]?=some v∧S=2 ^ i∧c=0)
variable {aL:List bL}{c:Int}{m oM:List (Int×Int)}{rows:List (List (Int×Int))}{ts:List Int}{x:Int×Int}
theorem wq.mono{v:Int}(h:wq aL ts rows S m v c x)(hle:∀r,ch oM r≤ch m r):wq aL ts rows S oM v c x:=by
 rcases h with⟨h1,a,D,ak,bc,bX⟩|h|h
 ·have:=hle x.1;exact .inl ⟨h1,a,D,ak,bc,by omega⟩
 ·exact .inr (.inl h)
 ·exact .inr (.inr h)
theorem UO{α:Type}(n:Int)(v:α):∀l:List (Int×α),(c6 l n v).map (·.1)=if n∈l.map (·.1)then l.map (·.1)else l.map (·.1)++[n]
 |[]=>by simp[c6]
 |p::r=>by
  unfold c6;by_cases aB:p.1=n
  ·simp[aB]
  ·have aT:¬n=p.1:=λe=>aB e.symm;rw[if_neg aB,List.map_cons,UO n v r];simp only[List.map_cons,List.mem_cons,aT,false_or];split<;>rfl
theorem Z4{α:Type}{n:Int}{v:α}{l:List (Int×α)}(h:(l.map (·.1)).Nodup):((c6 l n v).map (·.1)).Nodup:=by
 rw[UO];split
 ·exact h
 ·rename_i aT;rw[List.nodup_append];exact⟨h,by simp,λa aC b V=>by rw[List.mem_singleton.1 V];exact λe=>aT (e▸aC)⟩
theorem T0{α:Type}{n:Int}{v:α}:∀{l:List (Int×α)},(l.map (·.1)).Nodup→(n,v)∈l→bT l n=some v
 |[],_,h=>by cases h
 |p::r,aT,h=>by
  rw[pS];simp only[List.map_cons,List.nodup_cons]at aT;rcases List.mem_cons.1 h with h|h
  ·rw[←h];simp
  ·have:¬p.1=n:=λe=>aT.1 (List.mem_map.2 ⟨(n,v),h,e.symm⟩);rw[if_neg this];exact T0 aT.2 h
theorem T1{α:Type}{n:Int}{v:α}:∀{l:List (Int×α)},bT l n=some v→(n,v)∈l
 |[],h=>by simp[bT]at h
 |p::r,h=>by
  rw[pS]at h;split at h
  ·rename_i aB;cases h;exact List.mem_cons.2 (.inl (by rw[←aB]))
  ·exact List.mem_cons.2 (.inr (T1 h))
structure kS(aL:List bL)(ts:List Int)(rows:List (List (Int×Int)))(S:Nat)(en:Nat→Int→Prop)(m1:List (Int×Int))(m2:List (Int×(Int×Int))):Prop where
 ok:∀v c,bT m1 v=some c→(0≤c∧c<2305843009213693951)∧wq aL ts rows S m1 v c ((bT m2 v).getD (0,0))
 part:∀P v,en P v→ch m1 v≤ch (gu rows P) v+ch (gu rows (iA S P)) v
 nd:(m1.map (·.1)).Nodup
variable {m1:List (Int×Int)}{m2:List (Int×(Int×Int))}
theorem kS.bd{en:Nat→Int→Prop}(h:kS aL ts rows S en m1 m2)(r:Int):0≤ch m1 r∧ch m1 r≤2305843009213693951:=by
 unfold ch;cases bl:bT m1 r with
 |none=>simp
 |some c=>have:=(h.ok r c bl).1;exact⟨this.1,by show c≤_;omega⟩
theorem kS.put{en:Nat→Int→Prop}(h:kS aL ts rows S en m1 m2){v:Int}(bJ:0≤c)(bQ:c<ch m1 v)
  (u:wq aL ts rows S (c6 m1 v c) v c x):kS aL ts rows S en (c6 m1 v c) (c6 m2 v x):=by
 have hle:∀r,ch (c6 m1 v c) r≤ch m1 r:=λr=>by
  rw[uv];split
  ·rename_i ax;subst ax;omega
  ·omega
 refine⟨λay d hu=>?_,λP ay g1=>Int.le_trans (hle ay) (h.part P ay g1),Z4 h.nd⟩;by_cases SC:ay=v
 ·subst SC;rw[CT]at hu ⊢;cases hu;exact⟨⟨bJ,by have:=(h.bd ay).2;omega⟩,u⟩
 ·rw[K4 _ SC]at hu ⊢;obtain⟨cF,cW⟩:=h.ok ay d hu;exact⟨cF,cW.mono hle⟩
theorem kS.nil(aL:List bL)(ts:List Int)(rows:List (List (Int×Int)))(S:Nat):kS aL ts rows S (λ_ _=>False) [] []:=⟨λv c h=>by simp[bT]at h,λ_ _ h=>h.elim,by simp⟩
theorem kS.more{en MX:Nat→Int→Prop}(h:kS aL ts rows S en m1 m2)(aB:∀P v,MX P v→ch m1 v≤ch (gu rows P) v+ch (gu rows (iA S P)) v):kS aL ts rows S MX m1 m2:=⟨h.ok,aB,h.nd⟩
structure A3(aL:List bL)(ts:List Int)(rows:List (List (Int×Int)))(S:Nat)(m1:List (Int×Int))(m2:List (Int×(Int×Int))):Prop where
 j:kS aL ts rows S (λP _=>0<P∧P<S∧P &&& S=P) m1 m2
 one:∀i v,ts[i]?=some v→S=2 ^ i→ch m1 v≤0
 hop:∀a∈aL,ch m1 a.Hop.bg≤a.gr+ch m1 a.Hop.aQ
structure uL(aL:List bL)(ts:List Int)(rows:List (List (Int×Int)))(steps:List (List (Int×(Int×Int)))):Prop where
 len:steps.length=rows.length
 row:∀S m1 m2,rows[S]?=some m1→steps[S]?=some m2→A3 aL ts rows S m1 m2
theorem GF(h:S<rows.length):gu (rows++[m]) S=gu rows S:=by
 unfold gu;rw[List.getD_eq_getElem?_getD,List.getD_eq_getElem?_getD,List.getElem?_append_left h]
theorem wq.app{v:Int}(fc:S≤rows.length)(sZ:S<2 ^ 60)(h:wq aL ts rows S m v c x):wq aL ts (rows++[oM]) S m v c x:=by
 rcases h with h|⟨h1,P,D,ak,bc,bX,dV,fF,jm⟩|h
 ·exact .inl h
 ·have ax:iA S P<S:=by
   have hY:=MP (a:=S) (b:=P) sZ;rcases Nat.lt_or_eq_of_le hY with hY|hY
   ·exact hY
   ·exfalso;obtain⟨i,hi⟩:∃i,P.testBit i=true:=Nat.exists_testBit_of_ne_zero (by omega);have dJ:=GD (a:=S) (b:=P) sZ (by omega) i;have eL:(P &&& S).testBit i=P.testBit i:=by rw[bX]
    rw[hY,hi]at dJ;rw[Nat.testBit_and,hi]at eL;simp at dJ eL;rw[dJ]at eL;cases eL
  refine .inr (.inl ⟨h1,P,D,ak,bc,bX,?_⟩);rw[GF (by omega),GF (by omega)];exact⟨dV,fF,jm⟩
 ·exact .inr (.inr h)
theorem Mu{P:Nat}(sZ:S<2 ^ 60)(ak:0<P)(bc:P<S)(bX:P &&& S=P):iA S P<S:=by
 have hY:=MP (a:=S) (b:=P) sZ;rcases Nat.lt_or_eq_of_le hY with hY|hY
 ·exact hY
 ·exfalso;obtain⟨i,hi⟩:∃i,P.testBit i=true:=Nat.exists_testBit_of_ne_zero (by omega);have dJ:=GD (a:=S) (b:=P) sZ (by omega) i;have eL:(P &&& S).testBit i=P.testBit i:=by rw[bX]
  rw[hY,hi]at dJ;rw[Nat.testBit_and,hi]at eL;simp at dJ eL;rw[dJ]at eL;cases eL
theorem A3.app{aL:List bL}{ts:List Int}{rows:List (List (Int×Int))}{S:Nat}{m1:List (Int×Int)}{m2:List (Int×(Int×Int))}{oM:List (Int×Int)}(fc:S≤rows.length)(sZ:S<2 ^ 60)(h:A3 aL ts rows S m1 m2):A3 aL ts (rows++[oM]) S m1 m2:=by
 refine⟨⟨λv c af=>?_,λP v g1=>?_,h.j.nd⟩,h.one,h.hop⟩
 ·obtain⟨cF,cW⟩:=h.j.ok v c af;exact⟨cF,cW.app fc sZ⟩
 ·have:=Mu sZ g1.1 g1.2.1 g1.2.2;rw[GF (by omega),GF (by omega)];exact h.j.part P v g1
theorem uL.snoc{steps:List (List (Int×(Int×Int)))}(h:uL aL ts rows steps)(sZ:rows.length<2 ^ 60)(hm:A3 aL ts rows rows.length m1 m2):uL aL ts (rows++[m1]) (steps++[m2]):=by
 refine⟨by simp[h.len],λS hG iC h1 D=>?_⟩;by_cases fc:S<rows.length
 ·rw[List.getElem?_append_left fc]at h1;rw[List.getElem?_append_left (by rw[h.len];exact fc)]at D;exact(h.row S hG iC h1 D).app (by omega) (by omega)
 ·have aJ:=(List.getElem?_eq_some_iff.1 h1).1;simp only[List.length_append,List.length_singleton]at aJ;have fc:S=rows.length:=by omega
  subst fc;rw[List.getElem?_append_right (Nat.le_refl _)]at h1;rw[List.getElem?_append_right (by rw[h.len];exact Nat.le_refl _),h.len]at D;simp at h1 D;subst h1 D;exact hm.app (Nat.le_refl _) sZ
end Go.Proofs.YtmnbolcmepihlaaGreat
