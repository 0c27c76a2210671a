/- Several texts in one. No condition but those that stand in each. -/
import Derived.Test.YtmnbolcmepihlaaGreatZ5
import Derived.Test.YtmnbolcmepihlaaGreatZ4
import Derived.RangeFuncGives
import Derived.Maps.RangeRun
import Derived.Sort.MapsRangeIn
import Derived.Shelf.Abstract
import Derived.WalkKit
import Derived.OwnWalkIn
import Derived.TacticsInMore
import Derived.RegionIn
import Derived.LoopNIn
import Derived.LoopIn
import Derived.RangeFuncBox
import Derived.RangeFuncLeaves
import Derived.Laws.AppendOwn
import Derived.Shelf.Slices.CompactI
namespace Go.Proofs.YtmnbolcmepihlaaGreat
section
set_option linter.all false
set_option maxRecDepth 100000
open Go Go.Proofs.Tryz List
structure Zs(ay:List bQ)(root:Int)(ts:List Int)(r:List bO×Int×Bool):Prop where
 nil:ts=[]→r=([],0,true)
 rows:ts≠[]→∃rows steps,rows.length=2 ^ ts.length∧xG ay ts rows steps∧((2305843009213693951≤cc (gZ rows (2 ^ ts.length-1)) root∧r=([],0,false))∨
  (cc (gZ rows (2 ^ ts.length-1)) root<2305843009213693951∧∃H,qo steps ((2 ^ ts.length-1:Nat):Int) root H∧l2 (fC [λx:bO=>x.br,λx:bO=>x.bh]) H=some r.1∧r.2=(cc (gZ rows (2 ^ ts.length-1)) root,true)))
def ahn{ay:wu}{rows:List (List (Int×Int))}{steps:List (List (Int×(Int×Int)))}{s:Int}{m:List (Int×Int)}(r:Int)(Z:du rows s=some m):
  dR prog 120 [] [.gq [.bf false (ar ey ay),.bf false (ar gu rows),.bf false (ar gw steps)],.int .i64 s,.int .i64 r] (.int .i64 (cc m r)):=by
 refine dN func120 rfl rfl ?_;refine avB bN [] [] [(0,.gq [.bf false (ar ey ay),.bf false (ar gu rows),.bf false (ar gw steps)]),(1,.int .i64 s),(2,.int .i64 r)] [] (by kernel_rfl) ?_;refine A.seq ?_;refine avB bN [] [(5,c8 (ix gu Z)),(8,nK (k:=.i64) m r (c9 .i64) 0 o4 PX)] [(7,.int .i64 ((az m r).getD 0)),(8,.bool (az m r).isSome)] [] (by kernel_rfl) ?_;refine avB bN [] [] [(7,.int .i64 ((az m r).getD 0)),(21,.bool (az m r).isSome)] [] (by kernel_rfl) ?_;cases bw:az m r with
 |some c=>
  refine avH rfl rfl ?_;refine avB bN [] [] [(6,.int .i64 c)] [] (by kernel_rfl) ?_;refine A.ret ?_;have e:cc m r=c:=by unfold cc;rw[bw];rfl
  rw[e];exact avC bN [] rfl (by kernel_rfl)
 |none=>
  refine avG rfl rfl ?_;refine A.skip ?_;show aP _ _ _ _ _;refine avB bN [] [] [(6,.int .i64 2305843009213693951)] [] (by kernel_rfl) ?_;refine A.ret ?_;have e:cc m r=2305843009213693951:=by unfold cc;rw[bw];rfl
  rw[e];exact avC bN [] rfl (by kernel_rfl)
def awp{G:cR}{α:Type}{x y:Code}{Q:Exit→au→ag→Prop}{env:au}{σ:ag}(P:α→Prop)(gr:α→au)(gB:α→ag)(h:aP G x (um (λg0 aH=>∃g,P g∧cB G g0 aH (gr g) (gB g)) Q) env σ)(k:∀g,P g→aP G y Q (gr g) (gB g)):aP G (.seq x y) Q env σ:=by
 refine A.seq (h.mono ?_);intro e g0 aH bP;cases e with
 |normal=>
  obtain⟨g,bw,av⟩:=bP;exact avF av (k g bw)
 |_=>exact bP
def Z8{ay:wu}{root:Int}{ts:cO}(hk:ts.length≤6)(aA:∀a∈ay,(1≤a.dn∧a.dn≤1000000)∧a.Hop.bh≠0)
  (WE:∀rows steps,rows.length=2 ^ ts.length→xG ay ts rows steps→cc (gZ rows (2 ^ ts.length-1)) root<2305843009213693951→∃H,qo steps ((2 ^ ts.length-1:Nat):Int) root H∧H.length≤1000000∧∃tF,l2 (fC [λx:bO=>x.br,λx:bO=>x.bh]) H=some tF) :
  eT prog 63 [] [.bf false (ar ey ay),.int .i64 root,.bf false (ar aB ts)] (λa aH=>aH=[]∧∃r,Zs ay root ts r∧a=.c5 [.bf false (ar eY r.1),.int .i64 r.2.1,.bool r.2.2]):=by
 refine dN func63 rfl rfl ?_;refine avB bN [] [] [(0,.bf false (ar ey ay)),(1,.int .i64 root),(2,.bf false (ar aB ts))] [] (by kernel_rfl) ?_;refine A.seq ?_;refine avB bN [] [(1,aN (dZ aB ts))] [(0,.bf false (ar ey ay)),(1,.int .i64 root),(2,.bf false (ar aB ts)),(21,.bool (decide ((ts.length:Int)=(0:Int))))] [] (by kernel_rfl) ?_;by_cases uV:ts=[]
 ·subst uV;refine avH rfl rfl ?_;refine avB bN [] [] [(6,.c6),(7,.int .i64 0),(8,.bool true)] [] (by kernel_rfl) ?_;refine A.ret ?_;refine qc.mono (avC bN [] (R:=.c5 [.bf false (ar eY []),.int .i64 0,.bool true]) (σ2:=[]) rfl (by kernel_rfl)) ?_;rintro a s ⟨rfl,rfl⟩;exact⟨rfl,([],0,true),⟨λ_=>rfl,λh=>absurd rfl h⟩,rfl⟩
 have eH:1≤ts.length:=by cases ts with|nil=>exact absurd rfl uV|cons _ _=>simp
 refine avG rfl (decide_eq_false (by omega)) ?_;refine A.skip ?_;show aP _ _ _ _ _;have zR:2 ^ ts.length≤64:=Nat.le_trans (Nat.pow_le_pow_right (by omega) hk) (by decide);have Ve:IntKind.wrap .i64 (1*2 ^ min (ts.length:Int).toNat 64)=((2 ^ ts.length:Nat):Int):=by
  rw[Int.toNat_natCast,Nat.min_eq_left (by omega),Int.one_mul];have e:((2:Int) ^ ts.length)=((2 ^ ts.length:Nat):Int):=by simp
  rw[e];generalize 2 ^ ts.length=z at zR ⊢;exact iY (by omega) (by omega)
 generalize k2:2 ^ ts.length=ep at Ve zR WE;refine avB bN [] [(1,aN (dZ aB ts)),(2,.to (.sh (ts.length:Int) (by omega)) (.int .i64 (IntKind.wrap .i64 (1*2 ^ min (ts.length:Int).toNat 64))) (.int .i64 (ep:Int)) (by rw[Ve]))] [(0,.bf false (ar ey ay)),(1,.int .i64 root),(2,.bf false (ar aB ts)),(9,.int .i64 (ep:Int))] [] (by kernel_rfl) ?_;refine avB bN [] [(2,.al 910000000)] [(1,.int .i64 root),(2,.bf false (ar aB ts)),(9,.int .i64 (ep:Int)),(10,.ptr 910000000 0)] [(910000000,.cells 165 [.bf false (ar ey ay),.c6,.c6])] (by kernel_rfl) ?_;refine A.seq ?_;refine avB bN [.ac 910000000 86 144 1 1,.ac 910000000 87 166 1 2] [] [(1,.int .i64 root),(2,.bf false (ar aB ts)),(9,.int .i64 (ep:Int)),(10,.ptr 910000000 0),(28,.int .i64 (ep:Int)),(29,.int .i64 0)] [(910000000,.cells 165 [.bf false (ar ey ay),.own 86,.own 87]),(86,.slice 144 1 (ar gu []) 0 false),(87,.slice 166 1 (ar gw []) 0 false)] (by kernel_rfl) ?_;refine A.block ?_
 refine A.loop (α:=List (List (Int×Int))×List (List (Int×(Int×Int)))) (λg=>[(1,.int .i64 root),(2,.bf false (ar aB ts)),(9,.int .i64 (ep:Int)),(10,.ptr 910000000 0),(28,.int .i64 (ep:Int)),(29,.int .i64 (g.1.length:Int))])
  (λg=>[(910000000,.cells 165 [.bf false (ar ey ay),.own 86,.own 87]),(86,.slice 144 1 (ar gu g.1) 0 false),(87,.slice 166 1 (ar gw g.2) 0 false)])
  (λg=>g.1.length≤ep∧xG ay ts g.1 g.2) (λg=>ep-g.1.length) ([],[]) ⟨Nat.zero_le _,rfl,λS m1 m2 h=>by simp at h⟩ (cB.go [] [] (by kernel_rfl)) ?_
 rintro⟨rows,steps⟩ ⟨yx,oZ⟩;simp only at yx oZ;refine avB bN [] [] [(1,.int .i64 root),(2,.bf false (ar aB ts)),(9,.int .i64 (ep:Int)),(10,.ptr 910000000 0),(28,.int .i64 (ep:Int)),(29,.int .i64 (rows.length:Int)),(30,.bool (decide ((rows.length:Int)<(ep:Int))))] [(910000000,.cells 165 [.bf false (ar ey ay),.own 86,.own 87]),(86,.slice 144 1 (ar gu rows) 0 false),(87,.slice 166 1 (ar gw steps) 0 false)] (by kernel_rfl) ?_;refine A.seq ?_;by_cases fo:rows.length<ep
 ·refine avH rfl (decide_eq_true (by omega)) ?_;refine A.skip ?_;show aP _ _ _ _ _;have ant:rows.length<64:=by omega
  have oa:steps.length=rows.length:=oZ.len;generalize Nj:rows.length=S at fo ant oa;refine A.seq ?_;refine A.block ?_;refine avB bN [] [] [(1,.int .i64 root),(2,.bf false (ar aB ts)),(9,.int .i64 (ep:Int)),(10,.ptr 910000000 0),(28,.int .i64 (ep:Int)),(29,.int .i64 (S:Int)),(11,.int .i64 (S:Int))] [(910000000,.cells 165 [.bf false (ar ey ay),.own 86,.own 87]),(86,.slice 144 1 (ar gu rows) 0 false),(87,.slice 166 1 (ar gw steps) 0 false)] (by kernel_rfl) ?_;refine avB bN [] [(6,.al 910000002),(7,VH bN 910000031),(8,XK 93 (xs:=ar gu rows) Ts (by rw[oM];omega) (by rw[oM];simp only[maxLen];omega)),(13,.al 910000004),(14,VH bN 910000033),(15,XK 106 (xs:=ar gw steps) Tt (by rw[oM];omega) (by rw[oM];simp only[maxLen];omega))] [(1,.int .i64 root),(2,.bf false (ar aB ts)),(9,.int .i64 (ep:Int)),(10,.ptr 910000000 0),(28,.int .i64 (ep:Int)),(29,.int .i64 (S:Int)),(11,.int .i64 (S:Int))] (eX ay (ar gu rows) [] (ar gw steps) []) (by kernel_rfl) ?_;have fv:(ar gu rows).length=S:=by rw[oM];exact Nj
  have jE:(ar gw steps).length=(ar gu rows).length:=by rw[oM,fv];exact oa
  refine awp (λg:List (Int×Int)×List (Int×(Int×Int))=>m3 ay ts rows S (λ_ _=>False) g.1 g.2∧∀i v,ts[i]?=some v→S=2 ^ i→cc g.1 v≤0) (λ_=>[(1,.int .i64 root),(2,.bf false (ar aB ts)),(9,.int .i64 (ep:Int)),(10,.ptr 910000000 0),(28,.int .i64 (ep:Int)),(29,.int .i64 (S:Int)),(11,.int .i64 (S:Int))]) (λg=>eX ay (ar gu rows) g.1 (ar gw steps) g.2) ?_ ?_
  ·
   have NQ:∀i,i<ts.length→S=2 ^ i→decide (mQ .and .i64 (S:Int) (aG ((S:Int)-(1:Int)))=(0:Int))=true∧0<S:=λi hi h=>by
    have aF:0<S:=by rw[h];exact Nat.two_pow_pos i
    refine⟨decide_eq_true ?_,aF⟩;rw[iY (by omega) (by omega),show(S:Int)-1=((S-1:Nat):Int)by omega,P3 (by omega) (by omega),h,acR];rfl
   have Fa:∀(c:¬(decide (mQ .and .i64 (S:Int) (aG ((S:Int)-(1:Int)))=(0:Int))=true∧0<S)),∃g:List (Int×Int)×List (Int×(Int×Int)),(m3 ay ts rows S (λ_ _=>False) g.1 g.2∧∀i v,ts[i]?=some v→S=2 ^ i→cc g.1 v≤0)∧g=([],[]):=λc=>
    ⟨([],[]),⟨m3.nil _ _ _ _,λi v aa he=>absurd (NQ i (List.getElem?_eq_some_iff.1 aa).1 he) c⟩,rfl⟩
   rcases j6 (decide (mQ .and .i64 (S:Int) (aG ((S:Int)-(1:Int)))=(0:Int)))with c|c
   rotate_left
   ·refine avB bN [] [(4,aN (cK c))] [(1,.int .i64 root),(2,.bf false (ar aB ts)),(9,.int .i64 (ep:Int)),(10,.ptr 910000000 0),(28,.int .i64 (ep:Int)),(29,.int .i64 (S:Int)),(11,.int .i64 (S:Int)),(60,.bool false)] (eX ay (ar gu rows) [] (ar gw steps) []) (by kernel_rfl) ?_;refine avG rfl rfl ?_;refine A.skip ?_;obtain⟨g,bw,rfl⟩:=Fa (λh=>by rw[h.1]at c;cases c);exact⟨([],[]),bw,cB.go [] [] (by kernel_rfl)⟩
   refine avB bN [] [(4,aN (cK c))] [(1,.int .i64 root),(2,.bf false (ar aB ts)),(9,.int .i64 (ep:Int)),(10,.ptr 910000000 0),(28,.int .i64 (ep:Int)),(29,.int .i64 (S:Int)),(11,.int .i64 (S:Int)),(60,.bool (decide ((0:Int)<(S:Int))))] (eX ay (ar gu rows) [] (ar gw steps) []) (by kernel_rfl) ?_;by_cases amb:0<S
   rotate_left
   ·refine avG rfl (decide_eq_false (by omega)) ?_;refine A.skip ?_;obtain⟨g,bw,rfl⟩:=Fa (λh=>amb h.2);exact⟨([],[]),bw,cB.go [] [] (by kernel_rfl)⟩
   refine avH rfl (decide_eq_true (by omega)) ?_;refine avB bN [] [(1,aN (dZ aB ts))] [(1,.int .i64 root),(2,.bf false (ar aB ts)),(9,.int .i64 (ep:Int)),(10,.ptr 910000000 0),(28,.int .i64 (ep:Int)),(29,.int .i64 (S:Int)),(11,.int .i64 (S:Int)),(61,.bf false (ar aB ts)),(62,.int .i64 (ts.length:Int)),(63,.int .i64 0)] (eX ay (ar gu rows) [] (ar gw steps) []) (by kernel_rfl) ?_;refine A.block ?_;refine avJ 61 rfl λqZ=>?_
   refine A.loop (α:=Nat×List (Int×Int)×List (Int×(Int×Int))) (λg=>[(1,.int .i64 root),(2,.bf false (ar aB ts)),(9,.int .i64 (ep:Int)),(10,.ptr 910000000 0),(28,.int .i64 (ep:Int)),(29,.int .i64 (S:Int)),(11,.int .i64 (S:Int)),(61,.bf false (ar aB ts)),(62,.int .i64 (ts.length:Int)),(63,.int .i64 (g.1:Int))]) (λg=>eX ay (ar gu rows) g.2.1 (ar gw steps) g.2.2)
    (λg=>g.1≤ts.length∧m3 ay ts rows S (λ_ _=>False) g.2.1 g.2.2∧∀i v,i<g.1→ts[i]?=some v→S=2 ^ i→cc g.2.1 v≤0) (λg=>ts.length-g.1) (0,[],[]) ⟨Nat.zero_le _,m3.nil _ _ _ _,λi v hi=>by omega⟩ (cB.go [] [] (by kernel_rfl)) ?_
   rintro⟨j,m1,m2⟩ ⟨aY,uT,yt⟩;simp only at aY uT yt;refine avB bN [] [] [(1,.int .i64 root),(2,.bf false (ar aB ts)),(9,.int .i64 (ep:Int)),(10,.ptr 910000000 0),(28,.int .i64 (ep:Int)),(29,.int .i64 (S:Int)),(11,.int .i64 (S:Int)),(61,.bf false (ar aB ts)),(62,.int .i64 (ts.length:Int)),(63,.int .i64 (j:Int)),(64,.bool (decide ((j:Int)<(ts.length:Int))))] (eX ay (ar gu rows) m1 (ar gw steps) m2) (by kernel_rfl) ?_;refine A.seq ?_;by_cases oy:j<ts.length
   rotate_left
   ·refine avG rfl (ht (by omega)) ?_;refine A.exit ?_;exact⟨(m1,m2),⟨uT,λi v aa he=>yt i v (by have:=(List.getElem?_eq_some_iff.1 aa).1;omega) aa he⟩,cB.go [] [] (by kernel_rfl)⟩
   have u:ts[j]?=some ts[j]:=List.getElem?_eq_getElem oy;generalize ts[j]=t at u;refine avH rfl (hv u) ?_;refine A.skip ?_;show aP _ _ _ _ _;have anv:IntKind.wrap .i64 (1*2 ^ min (j:Int).toNat 64)=((2 ^ j:Nat):Int):=by
    rw[Int.toNat_natCast,Nat.min_eq_left (by omega),Int.one_mul];have dU:2 ^ j≤64:=Nat.le_trans (Nat.pow_le_pow_right (by omega) (show j≤6 by omega)) (by decide);have e:((2:Int) ^ j)=((2 ^ j:Nat):Int):=by simp
    rw[e];generalize 2 ^ j=z at dU ⊢;exact iY (by omega) (by omega)
   refine awp (λg:List (Int×Int)×List (Int×(Int×Int))=>m3 ay ts rows S (λ_ _=>False) g.1 g.2∧(∀x,cc g.1 x≤cc m1 x)∧(S=2 ^ j→cc g.1 t≤0)) (λ_=>[(1,.int .i64 root),(2,.bf false (ar aB ts)),(9,.int .i64 (ep:Int)),(10,.ptr 910000000 0),(28,.int .i64 (ep:Int)),(29,.int .i64 (S:Int)),(11,.int .i64 (S:Int)),(61,.bf false (ar aB ts)),(62,.int .i64 (ts.length:Int)),(63,.int .i64 (j:Int))]) (λg=>eX ay (ar gu rows) g.1 (ar gw steps) g.2) ?_ ?_
   ·refine A.block ?_;refine avB bN [] [(1,c8 (ix aB (fS u)))] [(1,.int .i64 root),(2,.bf false (ar aB ts)),(9,.int .i64 (ep:Int)),(10,.ptr 910000000 0),(28,.int .i64 (ep:Int)),(29,.int .i64 (S:Int)),(11,.int .i64 (S:Int)),(61,.bf false (ar aB ts)),(62,.int .i64 (ts.length:Int)),(63,.int .i64 (j:Int)),(12,.int .i64 (j:Int)),(13,.int .i64 t)] (eX ay (ar gu rows) m1 (ar gw steps) m2) (by kernel_rfl) ?_;refine avB bN [] [(2,.to (.sh (j:Int) (by omega)) (.int .i64 (IntKind.wrap .i64 (1*2 ^ min (j:Int).toNat 64))) (.int .i64 ((2 ^ j:Nat):Int)) (by rw[anv]))] [(1,.int .i64 root),(2,.bf false (ar aB ts)),(9,.int .i64 (ep:Int)),(10,.ptr 910000000 0),(28,.int .i64 (ep:Int)),(29,.int .i64 (S:Int)),(11,.int .i64 (S:Int)),(61,.bf false (ar aB ts)),(62,.int .i64 (ts.length:Int)),(63,.int .i64 (j:Int)),(13,.int .i64 t),(71,.bool (decide ((S:Int)=((2 ^ j:Nat):Int))))] (eX ay (ar gu rows) m1 (ar gw steps) m2) (by kernel_rfl) ?_;by_cases he:S=2 ^ j
    ·refine avH rfl (decide_eq_true (by rw[he])) ?_;by_cases bJ:0<cc m1 t
     ·have yu:=uT.put (v:=t) (c:=0) (x:=(0,0)) (Int.le_refl _) bJ (.inr (.inr ⟨rfl,j,u,he,rfl⟩));have Fi:=KF (ay:=ay) (c2:=ar gu rows) (m1:=m1) (eF:=ar gw steps) (m2:=m2) t 0 0 0 jE bJ;rw[fv]at Fi;refine A.R bN [] [(4,fq [] Fi y3)] [(1,.int .i64 root),(2,.bf false (ar aB ts)),(9,.int .i64 (ep:Int)),(10,.ptr 910000000 0),(28,.int .i64 (ep:Int)),(29,.int .i64 (S:Int)),(11,.int .i64 (S:Int)),(61,.bf false (ar aB ts)),(62,.int .i64 (ts.length:Int)),(63,.int .i64 (j:Int))] (eX ay (ar gu rows) (bH m1 t 0) (ar gw steps) (bH m2 t (0,0))) (by kernel_rfl) ?_;refine⟨(bH m1 t 0,bH m2 t (0,0)),⟨yu,λx=>?_,λ_=>by rw[tW,if_pos rfl];exact Int.le_refl _⟩,cB.go [] [] (by kernel_rfl)⟩;rw[tW];split
      ·rename_i vN;subst vN;omega
      ·omega
     ·have vM:=KE (ay:=ay) (c2:=ar gu rows) (m1:=m1) (eF:=ar gw steps) (m2:=m2) t 0 0 0 (by omega);rw[fv]at vM;refine A.R bN [] [(4,fq [] vM y3)] [(1,.int .i64 root),(2,.bf false (ar aB ts)),(9,.int .i64 (ep:Int)),(10,.ptr 910000000 0),(28,.int .i64 (ep:Int)),(29,.int .i64 (S:Int)),(11,.int .i64 (S:Int)),(61,.bf false (ar aB ts)),(62,.int .i64 (ts.length:Int)),(63,.int .i64 (j:Int))] (eX ay (ar gu rows) m1 (ar gw steps) m2) (by kernel_rfl) ?_;exact⟨(m1,m2),⟨uT,λx=>Int.le_refl _,λ_=>by show cc m1 t≤0;omega⟩,cB.go [] [] (by kernel_rfl)⟩
    ·refine avG rfl (decide_eq_false λh=>he (by omega)) ?_;refine A.skip ?_;exact⟨(m1,m2),⟨uT,λx=>Int.le_refl _,λh=>absurd h he⟩,cB.go [] [] (by kernel_rfl)⟩
   rintro⟨hp,hh⟩ ⟨dc,dg,gx⟩;simp only at dc dg gx;refine A.R bN [] [(0,aN (hg u qZ))] [(1,.int .i64 root),(2,.bf false (ar aB ts)),(9,.int .i64 (ep:Int)),(10,.ptr 910000000 0),(28,.int .i64 (ep:Int)),(29,.int .i64 (S:Int)),(11,.int .i64 (S:Int)),(61,.bf false (ar aB ts)),(62,.int .i64 (ts.length:Int)),(63,.int .i64 ((j+1:Nat):Int))] (eX ay (ar gu rows) hp (ar gw steps) hh) (by kernel_rfl) ?_;refine⟨(j+1,hp,hh),⟨oy,dc,λi v hi aa he=>?_⟩,by simp only;omega,cB.go [] [] (by kernel_rfl)⟩;rcases Nat.lt_or_eq_of_le (Nat.le_of_lt_succ hi)with hi|hi
   ·exact Int.le_trans (dg v) (yt i v hi aa he)
   ·subst hi;rw[u]at aa;cases aa
    exact gx he
  rintro⟨m1,m2⟩ ⟨aY,nr⟩;simp only at aY nr;have anj:mQ .and .i64 (aG ((S:Int)-(1:Int))) (S:Int)=(((S-1) &&& S:Nat):Int):=by
   rcases Nat.eq_zero_or_pos S with bJ|bJ
   ·rw[bJ];decide
   ·rw[iY (by omega) (by omega),show(S:Int)-1=((S-1:Nat):Int)by omega,P3 (by omega) (by omega)]
  refine awp (λg:List (Int×Int)×List (Int×(Int×Int))=>m3 ay ts rows S (λP _=>0<P∧P<S∧P &&& S=P) g.1 g.2∧∀i v,ts[i]?=some v→S=2 ^ i→cc g.1 v≤0) (λ_=>[(1,.int .i64 root),(2,.bf false (ar aB ts)),(9,.int .i64 (ep:Int)),(10,.ptr 910000000 0),(28,.int .i64 (ep:Int)),(29,.int .i64 (S:Int)),(11,.int .i64 (S:Int))]) (λg=>eX ay (ar gu rows) g.1 (ar gw steps) g.2) ?_ ?_
  ·
   refine avB bN [] [(3,aN (show W.int .i64 (mQ .and .i64 (aG ((S:Int)-(1:Int))) (S:Int))=W.int .i64 (((S-1) &&& S:Nat):Int)by rw[anj]))] [(1,.int .i64 root),(2,.bf false (ar aB ts)),(9,.int .i64 (ep:Int)),(10,.ptr 910000000 0),(28,.int .i64 (ep:Int)),(29,.int .i64 (S:Int)),(11,.int .i64 (S:Int)),(14,.int .i64 (((S-1) &&& S:Nat):Int))] (eX ay (ar gu rows) m1 (ar gw steps) m2) (by kernel_rfl) ?_;refine A.block ?_
   refine A.loop (α:=Nat×List (Int×Int)×List (Int×(Int×Int))) (λg=>[(1,.int .i64 root),(2,.bf false (ar aB ts)),(9,.int .i64 (ep:Int)),(10,.ptr 910000000 0),(28,.int .i64 (ep:Int)),(29,.int .i64 (S:Int)),(11,.int .i64 (S:Int)),(14,.int .i64 (g.1:Int))]) (λg=>eX ay (ar gu rows) g.2.1 (ar gw steps) g.2.2)
    (λg=>(g.1 &&& S=g.1∧(0<g.1→g.1<S))∧m3 ay ts rows S (λP _=>g.1<P∧P<S∧P &&& S=P) g.2.1 g.2.2∧∀i v,ts[i]?=some v→S=2 ^ i→cc g.2.1 v≤0) (λg=>g.1) ((S-1) &&& S,m1,m2) ⟨⟨Q4 0,λh=>?_⟩,aY.more λP v fs=>?_,nr⟩ (cB.go [] [] (by kernel_rfl)) ?_
   ·have:=Nat.and_le_left (n:=S-1) (m:=S);simp only at h ⊢;omega
   ·exfalso;have:=Sj S S P (Nat.and_self S) fs.2.2 fs.2.1;simp only at fs;omega
   rintro⟨p,h0,j7⟩ ⟨⟨IF,WG⟩,uT,yt⟩;simp only at IF WG uT yt;have done:∀(aF:p=0∨S=0),m3 ay ts rows S (λP _=>0<P∧P<S∧P &&& S=P) h0 j7:=λaF=>uT.more λP v fs=>uT.part P v ⟨by omega,fs.2⟩;refine A.seq ?_;rcases j6 (decide ((0:Int)<(S:Int)))with c|c
   rotate_left
   ·have nZ:=of_decide_eq_false c;refine avB bN [] [(1,aN (cK c))] [(1,.int .i64 root),(2,.bf false (ar aB ts)),(9,.int .i64 (ep:Int)),(10,.ptr 910000000 0),(28,.int .i64 (ep:Int)),(29,.int .i64 (S:Int)),(11,.int .i64 (S:Int)),(14,.int .i64 (p:Int)),(87,.bool false)] (eX ay (ar gu rows) h0 (ar gw steps) j7) (by kernel_rfl) ?_;refine avG rfl rfl ?_;refine A.exit ?_;exact⟨(h0,j7),⟨done (by omega),yt⟩,cB.go [] [] (by kernel_rfl)⟩
   have nZ:=of_decide_eq_true c;refine avB bN [] [(1,aN (cK c))] [(1,.int .i64 root),(2,.bf false (ar aB ts)),(9,.int .i64 (ep:Int)),(10,.ptr 910000000 0),(28,.int .i64 (ep:Int)),(29,.int .i64 (S:Int)),(11,.int .i64 (S:Int)),(14,.int .i64 (p:Int)),(87,.bool (decide ((0:Int)<(p:Int))))] (eX ay (ar gu rows) h0 (ar gw steps) j7) (by kernel_rfl) ?_;by_cases aF:0<p
   rotate_left
   ·refine avG rfl (decide_eq_false (by omega)) ?_;refine A.exit ?_;exact⟨(h0,j7),⟨done (by omega),yt⟩,cB.go [] [] (by kernel_rfl)⟩
   refine avH rfl (decide_eq_true (by omega)) ?_;refine A.skip ?_;show aP _ _ _ _ _;have oW:=WG aF;have i4:rows[p]?=some (gZ rows p):=by
    unfold gZ;rw[getD_eq_getElem?_getD,List.getElem?_eq_getElem (by omega)];rfl
   generalize hm:gZ rows p=m at i4;have An:(ar gu rows)[(p:Int).toNat]?=some [.c7 (bM .i64 (c9 .i64) m)]:=by
    rw[Int.toNat_natCast];simp[ar,i4,gu]
   refine awp (λg:List (Int×Int)×List (Int×(Int×Int))=>m3 ay ts rows S (λP _=>p≤P∧P<S∧P &&& S=P) g.1 g.2∧∀i v,ts[i]?=some v→S=2 ^ i→cc g.1 v≤0) (λ_=>[(1,.int .i64 root),(2,.bf false (ar aB ts)),(9,.int .i64 (ep:Int)),(10,.ptr 910000000 0),(28,.int .i64 (ep:Int)),(29,.int .i64 (S:Int)),(11,.int .i64 (S:Int)),(14,.int .i64 (p:Int))]) (λg=>eX ay (ar gu rows) g.1 (ar gw steps) g.2) ?_ ?_
   ·refine A.block ?_;have ama:jQ S p<S:=Ll (by omega) aF oW IF;have WH:du rows ((jQ S p:Nat):Int)=some (gZ rows (jQ S p)):=by
     unfold du gZ;rw[if_pos (by omega),Int.toNat_natCast,getD_eq_getElem?_getD,List.getElem?_eq_getElem (by omega)];rfl
    have WI:∀Q,Q<S→∃hh,m3 ay ts rows Q (λP _=>0<P∧P<Q∧P &&& Q=P) (gZ rows Q) hh:=λQ atu=>by
     have h1:rows[Q]?=some (gZ rows Q):=by
      unfold gZ;rw[getD_eq_getElem?_getD,List.getElem?_eq_getElem (by omega)];rfl
     exact⟨_,(oZ.row Q _ _ h1 (List.getElem?_eq_getElem (by omega))).j⟩
    obtain⟨auy,qy⟩:=WI p oW;obtain⟨aup,Xl⟩:=WI (jQ S p) ama;rw[hm]at qy
    refine A.seq (av5 bN 7 [] [(5,Cz (xs:=ar gu rows) (i:=(p:Int)) DN ⟨by omega,by rw[fv];omega⟩),(6,CA (xs:=ar gu rows) (p:=(p:Int).toNat) DM An)]
     [(98,.c7 (bM .i64 (c9 .i64) m)),(97,.ptr 93 (p:Int).toNat),(96,.int .i64 (p:Int)),(95,.own 93),(94,.ptr 910000000 1),(93,.ptr 910000000 0),(92,.ptr 910000000 0),(1,.int .i64 root),(2,.bf false (ar aB ts)),(9,.int .i64 (ep:Int)),(10,.ptr 910000000 0),(28,.int .i64 (ep:Int)),(29,.int .i64 (S:Int)),(11,.int .i64 (S:Int)),(14,.int .i64 (p:Int)),(87,.bool (decide ((0:Int)<(p:Int))))] (eX ay (ar gu rows) h0 (ar gw steps) j7)
     (by kernel_rfl) (by kernel_rfl) (by kernel_rfl) rfl rfl (axQ (ck:=910000040) (x:=.tmp 98) (bL:=bM .i64 (c9 .i64) m) rfl rfl underlying144 rfl rfl) rfl rfl ?_)
    rintro b9 aH ⟨rfl,es,clock,rfl⟩;refine⟨[],_,_,rfl,?_⟩;show aP _ _ _ _ _;refine A.block ?_
    refine axZ (k:=.i64) (enc:=c9 .i64) (l:=m) (ck:=910000040) (clock:=clock) (es:=es) (λq (g:List (Int×Int)×List (Int×(Int×Int)))=>m3 ay ts rows S (λP v=>(p<P∧P<S∧P &&& S=P)∨(P=p∧∃c,(v,c)∈q)) g.1 g.2∧∀i v,ts[i]?=some v→S=2 ^ i→cc g.1 v≤0) (h0,j7)
     (λ_=>[(1,.int .i64 root),(2,.bf false (ar aB ts)),(9,.int .i64 (ep:Int)),(10,.ptr 910000000 0),(28,.int .i64 (ep:Int)),(29,.int .i64 (S:Int)),(11,.int .i64 (S:Int)),(14,.int .i64 (p:Int)),(99,.ptr 910000040 0)]) (λseen g=>eX ay (ar gu rows) g.1 (ar gw steps) g.2++[(910000040,.kE es clock (bM .i64 (c9 .i64) m) seen)]) ⟨rfl,rfl,rfl⟩ ⟨rfl,rfl,rfl⟩ (by kernel_rfl)
     ⟨uT.more λP v fs=>uT.part P v (by rcases fs with h|⟨_,c,ah⟩;exact h;cases ah),yt⟩ (λ_=>rfl) (λ_ _=>rfl) (λ_ _ _=>rfl) (cB.go [] [] (by kernel_rfl)) ?_ ?_
    ·rintro seen e i n v q ⟨hP,iL⟩ he Cr ⟨av,Cx⟩;simp only at av Cx;refine A.block ?_;refine avB bN [] [(0,Fk 910000040 clock .i64 seen (c9 .i64) he Cr)] [(1,.int .i64 root),(2,.bf false (ar aB ts)),(9,.int .i64 (ep:Int)),(10,.ptr 910000000 0),(28,.int .i64 (ep:Int)),(29,.int .i64 (S:Int)),(11,.int .i64 (S:Int)),(14,.int .i64 (p:Int)),(99,.ptr 910000040 0),(15,.int .i64 n),(16,.int .i64 v)] (eX ay (ar gu rows) hP (ar gw steps) iL++[(910000040,.kE es clock (bM .i64 (c9 .i64) m) (seen.push e.born))]) (by kernel_rfl) ?_;have Xi:az m n=some v:=YO qy.nd (List.mem_of_getElem? Cr);have aa:=(qy.ok n v Xi).1;have HV:cc m n=v:=by unfold cc;rw[Xi];rfl
     have c3:=Xl.bd n;have lP:=av.bd n;have WJ:aG (v+cc (gZ rows (jQ S p)) n)=v+cc (gZ rows (jQ S p)) n:=iY (by omega) (by omega)
     have fM:∀{x:Int} {c:Int},(x,c)∈q++[(n,v)]→(∃c,(x,c)∈q)∨x=n:=λ{x c} h=>by
      rcases List.mem_append.1 h with h|h
      ·exact .inl ⟨c,h⟩
      ·simp at h;exact .inr h.1
     by_cases bS:v+cc (gZ rows (jQ S p)) n<cc hP n
     ·have Fi:=KF (ay:=ay) (c2:=ar gu rows) (m1:=hP) (eF:=ar gw steps) (m2:=iL) n (v+cc (gZ rows (jQ S p)) n) 0 (p:Int) jE bS;rw[fv]at Fi;have yu:=av.put (v:=n) (c:=v+cc (gZ rows (jQ S p)) n) (x:=(0,(p:Int))) (by omega) bS (.inr (.inl ⟨rfl,p,rfl,aF,oW,IF,by rw[hm,HV],by rw[hm,HV];exact aa.2,by omega⟩))
      refine A.R bN [] [(7,aN (show W.int .i64 (mQ .andNot .i64 (S:Int) (p:Int))=W.int .i64 ((jQ S p:Nat):Int)by rw[Pq (by omega)])),(9,ch (TQ (ay:=ay) (rows:=rows) (m1:=hP) (eF:=ar gw steps) (m2:=iL) n WH) xF),(10,aN (show W.int .i64 (aG (v+cc (gZ rows (jQ S p)) n))=W.int .i64 (v+cc (gZ rows (jQ S p)) n)by rw[WJ])),(13,fq [] Fi y3)]
       [(1,.int .i64 root),(2,.bf false (ar aB ts)),(9,.int .i64 (ep:Int)),(10,.ptr 910000000 0),(28,.int .i64 (ep:Int)),(29,.int .i64 (S:Int)),(11,.int .i64 (S:Int)),(14,.int .i64 (p:Int)),(99,.ptr 910000040 0)] (eX ay (ar gu rows) (bH hP n (v+cc (gZ rows (jQ S p)) n)) (ar gw steps) (bH iL n (0,(p:Int)))++[(910000040,.kE es clock (bM .i64 (c9 .i64) m) (seen.push e.born))]) (by kernel_rfl) ?_
      have hle:∀x,cc (bH hP n (v+cc (gZ rows (jQ S p)) n)) x≤cc hP x:=λx=>by
       rw[tW];split
       ·rename_i u;subst u;omega
       ·omega
      refine⟨(bH hP n (v+cc (gZ rows (jQ S p)) n),bH iL n (0,(p:Int))),⟨yu.more λP x fs=>?_,λi x u hi=>Int.le_trans (hle x) (Cx i x u hi)⟩,cB.go [] [] (by kernel_rfl)⟩;rcases fs with fs|⟨rfl,c,ah⟩
      ·exact yu.part P x (.inl fs)
      ·rcases fM ah with ah|rfl
       ·exact yu.part _ x (.inr ⟨rfl,ah⟩)
       ·rw[hm,HV,tW,if_pos rfl];exact Int.le_refl _
     ·have vM:=KE (ay:=ay) (c2:=ar gu rows) (m1:=hP) (eF:=ar gw steps) (m2:=iL) n (v+cc (gZ rows (jQ S p)) n) 0 (p:Int) (by omega);rw[fv]at vM
      refine A.R bN [] [(7,aN (show W.int .i64 (mQ .andNot .i64 (S:Int) (p:Int))=W.int .i64 ((jQ S p:Nat):Int)by rw[Pq (by omega)])),(9,ch (TQ (ay:=ay) (rows:=rows) (m1:=hP) (eF:=ar gw steps) (m2:=iL) n WH) xF),(10,aN (show W.int .i64 (aG (v+cc (gZ rows (jQ S p)) n))=W.int .i64 (v+cc (gZ rows (jQ S p)) n)by rw[WJ])),(13,fq [] vM y3)]
       [(1,.int .i64 root),(2,.bf false (ar aB ts)),(9,.int .i64 (ep:Int)),(10,.ptr 910000000 0),(28,.int .i64 (ep:Int)),(29,.int .i64 (S:Int)),(11,.int .i64 (S:Int)),(14,.int .i64 (p:Int)),(99,.ptr 910000040 0)] (eX ay (ar gu rows) hP (ar gw steps) iL++[(910000040,.kE es clock (bM .i64 (c9 .i64) m) (seen.push e.born))]) (by kernel_rfl) ?_
      refine⟨(hP,iL),⟨av.more λP x fs=>?_,Cx⟩,cB.go [] [] (by kernel_rfl)⟩;rcases fs with fs|⟨rfl,c,ah⟩
      ·exact av.part P x (.inl fs)
      ·rcases fM ah with ah|rfl
       ·exact av.part _ x (.inr ⟨rfl,ah⟩)
       ·rw[hm,HV];omega
    ·rintro seen q ⟨hP,iL⟩ DF ⟨av,Cx⟩;simp only at av Cx;refine⟨(hP,iL),⟨av.more λP x fs=>?_,Cx⟩,cB.go [] [] (by kernel_rfl)⟩;rcases Nat.lt_or_eq_of_le fs.1 with h|h
     ·exact av.part P x (.inl ⟨h,fs.2⟩)
     ·subst h;cases bw:az m x with
      |some c=>exact av.part _ x (.inr ⟨rfl,c,DF.mem_iff.2 (YP bw)⟩)
      |none=>
       have h1:cc m x=2305843009213693951:=by unfold cc;rw[bw];rfl
       have D:=(av.bd x).2;have aq:=(Xl.bd x).1;rw[hm,h1];omega
   rintro⟨hp,hh⟩ ⟨tP,Ew⟩;simp only at tP Ew;have pH:mQ .and .i64 (aG ((p:Int)-(1:Int))) (S:Int)=(((p-1) &&& S:Nat):Int):=by
    rw[iY (by omega) (by omega),show(p:Int)-1=((p-1:Nat):Int)by omega,P3 (by omega) (by omega)]
   refine A.R bN [] [(3,aN (show W.int .i64 (mQ .and .i64 (aG ((p:Int)-(1:Int))) (S:Int))=W.int .i64 (((p-1) &&& S:Nat):Int)by rw[pH]))] [(1,.int .i64 root),(2,.bf false (ar aB ts)),(9,.int .i64 (ep:Int)),(10,.ptr 910000000 0),(28,.int .i64 (ep:Int)),(29,.int .i64 (S:Int)),(11,.int .i64 (S:Int)),(14,.int .i64 (((p-1) &&& S:Nat):Int))] (eX ay (ar gu rows) hp (ar gw steps) hh) (by kernel_rfl) ?_;have hle:=Nat.and_le_left (n:=p-1) (m:=S);refine⟨((p-1) &&& S,hp,hh),⟨⟨Q4 0,λ_=>by show(p-1) &&& S<S;omega⟩,tP.more λP v fs=>tP.part P v ⟨?_,fs.2⟩,Ew⟩,by simp only;omega,cB.go [] [] (by kernel_rfl)⟩;have atq:(p-1) &&& S<P:=fs.1;apply Classical.byContradiction;intro aX;have:=Sj p S P IF fs.2.2 (by omega);omega
  rintro⟨hp,hh⟩ ⟨tP,Ew⟩;simp only at tP Ew
  have IJ:=acO (ay:=ay) (c2:=ar gu rows) (m1:=hp) (eF:=ar gw steps) (m2:=hh) jE (λa b=>m3 ay ts rows S (λP _=>0<P∧P<S∧P &&& S=P) a b∧∀i v,ts[i]?=some v→S=2 ^ i→cc a v≤0) ⟨tP,Ew⟩ (λa b h r=>h.1.bd r) (λa h=>by have:=(aA a h).1;omega) (λa b e h he bS=>by
   have mz:=(aA e he).1;have aT:=h.1.bd e.Hop.bh;have NB:e.Hop.bh≠e.Hop.br:=λNy=>by rw[Ny]at bS;omega
   refine⟨h.1.put (by omega) bS (.inl ⟨(aA e he).2,e,he,rfl,rfl,?_⟩),λi v aa hi=>?_⟩
   ·show e.dn+cc (bH a e.Hop.br (e.dn+cc a e.Hop.bh)) e.Hop.bh≤_;rw[tW,if_neg NB];exact Int.le_refl _
   ·have:=h.2 i v aa hi;rw[tW];split
    ·rename_i u;subst u;omega
    ·exact this)
  rw[fv]at IJ;refine av5 bN 2 [] [] [(120,.int .i64 (S:Int)),(119,.ptr 910000000 0),(1,.int .i64 root),(2,.bf false (ar aB ts)),(9,.int .i64 (ep:Int)),(10,.ptr 910000000 0),(28,.int .i64 (ep:Int)),(29,.int .i64 (S:Int)),(11,.int .i64 (S:Int))] (eX ay (ar gu rows) hp (ar gw steps) hh) (by kernel_rfl) (by kernel_rfl) (by kernel_rfl) rfl rfl (awu [] rfl rfl rfl rfl rfl rfl ?_ IJ T9) rfl rfl ?_
  ·rintro r σ2 ⟨rfl,gy,cn,_,_,rfl⟩;exact⟨rfl,rfl⟩
  rintro b9 aH ⟨σ2,⟨rfl,gy,cn,⟨hk,am1⟩,anx,rfl⟩,rfl⟩;refine⟨[],_,_,rfl,?_⟩;show aP _ _ _ _ _;refine A.R bN [] [(0,aN (show W.int .i64 (aG ((S:Int)+(1:Int)))=W.int .i64 (((rows++[gy]).length:Nat):Int)by rw[iY (by omega) (by omega),length_append,Nj];simp))] [(1,.int .i64 root),(2,.bf false (ar aB ts)),(9,.int .i64 (ep:Int)),(10,.ptr 910000000 0),(28,.int .i64 (ep:Int)),(29,.int .i64 (((rows++[gy]).length:Nat):Int))] (eX ay (ar gu rows) gy (ar gw steps) cn) (by kernel_rfl) ?_;have aK:ar gu (rows++[gy])=ar gu rows++[[.c7 (bM .i64 (c9 .i64) gy)]]:=by simp[ar,gu]
  have e2:ar gw (steps++[cn])=ar gw steps++[[.c7 (bM .i64 tw cn)]]:=by simp[ar,gw]
  refine⟨(rows++[gy],steps++[cn]),⟨by simp only[length_append,length_singleton];omega,oZ.snoc (by omega) (by rw[Nj];exact⟨hk,am1,anx⟩)⟩,by simp only[length_append,length_singleton];omega,?_⟩;show cB _ _ _ _ [(910000000,.cells 165 [.bf false (ar ey ay),.own 86,.own 87]),(86,.slice 144 1 (ar gu (rows++[gy])) 0 false),(87,.slice 166 1 (ar gw (steps++[cn])) 0 false)];rw[aK,e2]
  exact(cB.go (ek:=[(1,.int .i64 root),(2,.bf false (ar aB ts)),(9,.int .i64 (ep:Int)),(10,.ptr 910000000 0),(28,.int .i64 (ep:Int)),(29,.int .i64 (((rows++[gy]).length:Nat):Int))]) (σ2:=[(910000000,.cells 165 [.bf false (ar ey ay),.own 93,.own 106]),(93,.hU 144 (ar gu rows) 910000002),(910000002,.k3 3 3 (bM .i64 (c9 .i64) gy)),(106,.hU 166 (ar gw steps) 910000004),(910000004,.k3 3 169 (bM .i64 tw cn))]) [.cT [910000002,910000004]] [] (by kernel_rfl)).trans
   ((awO 93 910000002 rfl rfl).trans ((awO 106 910000004 rfl rfl).trans (cB.go [.kz 93 86,.kz 106 87] [] (by kernel_rfl))))
 ·refine avG rfl (decide_eq_false (by omega)) ?_;refine A.exit ?_;show aP _ _ _ _ _;have uU:rows.length=ep:=by omega
  have fc:1≤ep:=by rw[←k2];exact Nat.two_pow_pos _
  have akV:du rows ((ep-1:Nat):Int)=some (gZ rows (ep-1)):=by
   unfold du gZ;rw[if_pos (by omega),Int.toNat_natCast,getD_eq_getElem?_getD,List.getElem?_eq_getElem (by omega)];rfl
  have WK:aG ((ep:Int)-(1:Int))=((ep-1:Nat):Int):=by rw[iY (by omega) (by omega)];omega
  refine avF ((cB.go (ek:=[(1,.int .i64 root),(9,.int .i64 (ep:Int)),(10,.ptr 910000000 0)]) (σ2:=[(910000000,.cells 165 [.bf false (ar ey ay),.bf false (ar gu rows),.bf false (ar gw steps)])]) [.cT [86,87],.sc 910000000 []] [] (by kernel_rfl)).trans
   (awg (T:=165) (cs:=[.bf false (ar ey ay),.bf false (ar gu rows),.bf false (ar gw steps)]) 10 910000000 rfl rfl rfl)) ?_
  refine avB bN [] [(2,aN (show W.int .i64 (aG ((ep:Int)-(1:Int)))=W.int .i64 ((ep-1:Nat):Int)by rw[WK])),(4,ch (ahn (ay:=ay) (rows:=rows) (steps:=steps) root akV) xF)] [(1,.int .i64 root),(9,.int .i64 (ep:Int)),(10,.gq [.bf false (ar ey ay),.bf false (ar gu rows),.bf false (ar gw steps)]),(17,.int .i64 (cc (gZ rows (ep-1)) root))] [] (by kernel_rfl) ?_;refine A.seq ?_;refine avB bN [] [] [(1,.int .i64 root),(9,.int .i64 (ep:Int)),(10,.gq [.bf false (ar ey ay),.bf false (ar gu rows),.bf false (ar gw steps)]),(17,.int .i64 (cc (gZ rows (ep-1)) root)),(129,.bool (decide ((2305843009213693951:Int)≤cc (gZ rows (ep-1)) root)))] [] (by kernel_rfl) ?_;by_cases MN:2305843009213693951≤cc (gZ rows (ep-1)) root
  ·refine avH rfl (decide_eq_true MN) ?_;refine avB bN [] [] [(6,.c6),(7,.int .i64 0),(8,.bool false)] [] (by kernel_rfl) ?_;refine A.ret ?_;refine qc.mono (avC bN [] (R:=.c5 [.bf false (ar eY []),.int .i64 0,.bool false]) (σ2:=[]) rfl (by kernel_rfl)) ?_;rintro a s ⟨rfl,rfl⟩;exact⟨rfl,([],0,false),⟨λh=>absurd h uV,λ_=>⟨rows,steps,by rw[k2];exact uU,oZ,by rw[k2];exact .inl ⟨MN,rfl⟩⟩⟩,rfl⟩
  ·refine avG rfl (decide_eq_false MN) ?_;refine A.skip ?_;show aP _ _ _ _ _;obtain⟨H,mz,atr,tF,XH⟩:=WE rows steps uU oZ (by omega);have iD:=aap (ay:=ay) (xM:=rows) mz (l:=[]) (by simp;omega);rw[nil_append]at iD;refine avB bN [] [(0,.al 75)] [(1,.int .i64 root),(9,.int .i64 (ep:Int)),(10,.gq [.bf false (ar ey ay),.bf false (ar gu rows),.bf false (ar gw steps)]),(17,.int .i64 (cc (gZ rows (ep-1)) root)),(18,.ptr 75 0)] [(75,.cells 34 [.c6])] (by kernel_rfl) ?_;refine avB bN [.ac 75 910000011 84 2 0] [(2,aN (show W.int .i64 (aG ((ep:Int)-(1:Int)))=W.int .i64 ((ep-1:Nat):Int)by rw[WK])),(5,fq [910000012] iD HG)] [(17,.int .i64 (cc (gZ rows (ep-1)) root)),(18,.ptr 75 0)] (ot 910000012 H) (by kernel_rfl) ?_;refine avB bN [] [(1,fq [] (abu (d:=910000012) (T:=84) XH) Ua)] [(17,.int .i64 (cc (gZ rows (ep-1)) root)),(18,.ptr 75 0)] (ot 910000012 tF) (by kernel_rfl) ?_;refine avB bN [] [] [(6,.own 910000012),(7,.int .i64 (cc (gZ rows (ep-1)) root)),(8,.bool true)] [(910000012,.slice 84 2 (ar eY tF) 0 false)] (by kernel_rfl) ?_;refine A.ret ?_;refine qc.mono (avC bN [.cT [910000012]] (R:=.c5 [.bf false (ar eY tF),.int .i64 (cc (gZ rows (ep-1)) root),.bool true]) (σ2:=[]) rfl (by kernel_rfl)) ?_;rintro a s ⟨rfl,rfl⟩;exact⟨rfl,(tF,cc (gZ rows (ep-1)) root,true),⟨λh=>absurd h uV,λ_=>⟨rows,steps,by rw[k2];exact uU,oZ,by rw[k2];exact .inr ⟨by omega,H,mz,XH,rfl⟩⟩⟩,rfl⟩
end
end Go.Proofs.YtmnbolcmepihlaaGreat
namespace Go.Proofs.YtmnbolcmepihlaaGreat
set_option linter.all false
open Go List
def Gt{m:List (Int×Int)}{v:Int}(h:cc m v<2305843009213693951):az m v=some (cc m v):=by
 unfold cc at h ⊢;cases bw:az m v with
 |none=>rw[bw]at h;simp at h
 |some c=>rfl
def acS{m:List (Int×Int)}{v c:Int}(h:az m v=some c):cc m v=c:=by unfold cc;rw[h];rfl
def G0{α:Type}{l:List α}{S:Nat}(h:S<l.length):∃x,l[S]?=some x:=⟨l[S],List.getElem?_eq_getElem h⟩
def SQ{rows:List (List (Int×Int))}{S:Nat}{m:List (Int×Int)}(h:rows[S]?=some m):gZ rows S=m:=by
 unfold gZ;rw[getD_eq_getElem?_getD,h];rfl
def abi{S P:Nat}(fo:S<2 ^ 60)(n4:P<S)(h:P &&& S=P):P &&& jQ S P=0∧P ||| jQ S P=S:=by
 have U:=Ko (a:=S) (b:=P) fo (by omega);have aF:∀i,(P.testBit i&&S.testBit i)=P.testBit i:=λi=>by rw[←Nat.testBit_and,h]
 constructor
 ·apply Nat.eq_of_testBit_eq;intro i;rw[Nat.testBit_and,U,Nat.zero_testBit];cases P.testBit i<;>simp
 ·apply Nat.eq_of_testBit_eq;intro i;have:=aF i;rw[Nat.testBit_or,U];cases h1:P.testBit i<;>cases D:S.testBit i<;>rw[h1,D]at this<;>simp at this ⊢
def abj{S P R:Nat}(fo:S<2 ^ 60)(n4:P<2 ^ 60)(bJ:P &&& R=0)(h:P ||| R=S):R=jQ S P∧P &&& S=P:=by
 have U:=Ko (a:=S) (b:=P) fo n4;have hz:∀i,(P.testBit i&&R.testBit i)=false:=λi=>by rw[←Nat.testBit_and,bJ,Nat.zero_testBit]
 have an:∀i,(P.testBit i||R.testBit i)=S.testBit i:=λi=>by rw[←Nat.testBit_or,h]
 constructor
 ·apply Nat.eq_of_testBit_eq;intro i;have h1:=hz i;have D:=an i;rw[U,←D];cases aF:P.testBit i<;>cases aI:R.testBit i<;>rw[aF,aI]at h1<;>simp at h1 ⊢
 ·apply Nat.eq_of_testBit_eq;intro i;have D:=an i;rw[Nat.testBit_and,←D];cases P.testBit i<;>simp
section
variable {ay:wu}{ts:cO}{rows:List (List (Int×Int))}{steps:List (List (Int×(Int×Int)))}
def Sk(h:xG ay ts rows steps)(eZ:vW ay)(zR:rows.length≤64):∀(S:Nat),S<rows.length→∀(n:Nat) (v c:Int),c.toNat=n→az (gZ rows S) v=some c→∃ij,pU gp ay ts.length (λi=>ts.getD i 0) S v ij∧hX gp ij=c∧qo steps (S:Int) v (ij.map (·.Hop)):=by
 intro S;induction S using Nat.strongRecOn with
 |_ S As=>
  intro fo n;induction n using Nat.strongRecOn with
  |_ n XN=>
   intro v c No aa;obtain⟨m1,vJ⟩:=G0 fo;obtain⟨m2,rO⟩:=G0 (l:=steps) (S:=S) (by rw[h.len];exact fo);have lq:=h.row S m1 m2 vJ rO;rw[SQ vJ]at aa XN;obtain⟨⟨zY,E3⟩,oa⟩:=lq.j.ok v c aa;have sP:du steps (S:Int)=some m2:=by unfold du;rw[if_pos (by omega),Int.toNat_natCast];exact rO
   rcases oa with⟨u,a,aA,h1,D,aq⟩|⟨u,P,h1,D,aq,aZ,bV,dU,eR⟩|⟨u,i,h1,D,aq⟩
   ·have ah:=eZ.cost a aA;have amQ:=lq.hop a aA;rw[h1,D,acS aa]at amQ;have Ny:cc m1 ((az m2 v).getD (0,0)).1=c-a.dn:=by omega
    have hk:az m1 ((az m2 v).getD (0,0)).1=some (c-a.dn):=by rw[←Ny];exact Gt (by omega)
    have bJ:=(lq.j.bd ((az m2 v).getD (0,0)).1).1;obtain⟨ij,dc,dg,gx⟩:=XN (c-a.dn).toNat (by omega) _ (c-a.dn) rfl hk;refine⟨a::ij,?_,by rw[tU,dg];show a.dn+_=_;omega,?_⟩
    ·have:=pU.hop (N:=gp) a aA (show pU gp ay ts.length (λi=>ts.getD i 0) S (gp.dst a) ij by show pU _ _ _ _ S a.Hop.bh ij;rw[D];exact dc);have e:gp.src a=v:=h1;rw[e]at this;exact this
    ·have e:(a::ij).map (·.Hop)=bO.mk v ((az m2 v).getD (0,0)).1::ij.map (·.Hop):=by
      rw[map_cons,←D,←h1]
     rw[e];exact qo.next sP rfl u gx
   ·have c3:=Ll (by omega) D aq aZ;obtain⟨ij,dc,dg,gx⟩:=As P aq (by omega) _ v _ rfl (Gt dU);obtain⟨Zy,gy,cn,mb⟩:=As (jQ S P) c3 (by omega) _ v _ rfl (Gt eR);obtain⟨de,ew⟩:=abi (S:=S) (P:=P) (by omega) aq aZ;refine⟨ij++Zy,?_,by rw[Z7,dg,cn,bV],?_⟩
    ·have:=pU.part de dc gy;rw[ew]at this;exact this
    ·rw[List.map_append];refine qo.part sP rfl u (by rw[h1];omega) rfl (by rw[h1];exact gx) ?_;rw[h1,Pq (by omega)];exact mb
   ·refine⟨[],?_,by rw[aq];rfl,qo.leaf sP u⟩;have e:ts.getD i 0=v:=by rw[getD_eq_getElem?_getD,h1];rfl
    have:=pU.one (N:=gp) (L:=ay) (k:=ts.length) (ts:=λi=>ts.getD i 0) i (List.getElem?_eq_some_iff.1 h1).1;simp only[e]at this;rw[D];exact this
def acT(h:xG ay ts rows steps)(eZ:vW ay)(aJ:rows.length=2 ^ ts.length)(zR:rows.length≤64):K1 gp ay ts.length (λi=>ts.getD i 0) (λS v=>cc (gZ rows S) v):=by
 have F:∀S,S<rows.length→∃m2,BN ay ts rows S (gZ rows S) m2:=λS fo=>by
  obtain⟨m1,vJ⟩:=G0 fo;obtain⟨m2,rO⟩:=G0 (l:=steps) (S:=S) (by rw[h.len];exact fo);exact⟨m2,by rw[SQ vJ];exact h.row S m1 m2 vJ rO⟩
 refine⟨λa aA=>by have:=(eZ.cost a aA).1;show 0≤a.dn;omega,λi hi=>?_,λS bJ fo a aA=>?_,λS P R fo n4 c3 bJ an v=>?_⟩
 ·obtain⟨m2,lq⟩:=F (2 ^ i) (by rw[aJ];exact Nat.pow_lt_pow_right (by omega) hi);refine lq.one i _ ?_ rfl;rw[getD_eq_getElem?_getD,List.getElem?_eq_getElem hi];rfl
 ·obtain⟨m2,lq⟩:=F S (by rw[aJ];exact fo);exact lq.hop a aA
 ·obtain⟨m2,lq⟩:=F S (by rw[aJ];exact fo);have bS:=GK bJ an c3;obtain⟨aK,e2⟩:=abj (S:=S) (P:=P) (by omega) (by omega) bJ an;have:=lq.j.part P v ⟨n4,bS,e2⟩;rw[←aK]at this;exact this
def AE:∀{l:wu},(∀a∈l,1≤a.dn∧a.dn≤1000)→(l.length:Int)≤hX gp l∧hX gp l≤1000*l.length
 |[],_=>by simp[hX]
 |a::l,h=>by
  have h1:=h a (by simp);have D:=AE λb U=>h b (mem_cons.2 (.inr U));rw[tU,length_cons];have:gp.cost a=a.dn:=rfl;omega
def Sl{k i:Nat}:(2 ^ k-1).testBit i=decide (i<k):=by rw[Nat.testBit_two_pow_sub_one]
def TR{v:Int}{K:wu}:(∀i,(2 ^ ts.length-1).testBit i=true→gE gp K v (ts.getD i 0))↔∀t,t∈ts→gE gp K v t:=by
 constructor
 ·intro h t b5;obtain⟨i,hi⟩:=List.getElem?_of_mem b5;have:=h i (by rw[Sl];exact decide_eq_true (List.getElem?_eq_some_iff.1 hi).1)
  rwa [getD_eq_getElem?_getD,hi]at this
 ·intro h i hi;rw[Sl]at hi;have hi:=of_decide_eq_true hi;refine h _ ?_;rw[getD_eq_getElem?_getD,List.getElem?_eq_getElem hi];exact List.getElem_mem hi
def Sm(h:xG ay ts rows steps)(eZ:vW ay)(aJ:rows.length=2 ^ ts.length)(hk:ts.length≤6)(h1:1≤ts.length){root:Int}:
  (2305843009213693951≤cc (gZ rows (2 ^ ts.length-1)) root→¬∀t,t∈ts→gE gp ay root t)∧
  (cc (gZ rows (2 ^ ts.length-1)) root<2305843009213693951→∃ij:wu,qp gp ay (λt=>t∈ts) root ij∧hX gp ij=cc (gZ rows (2 ^ ts.length-1)) root∧qo steps ((2 ^ ts.length-1:Nat):Int) root (ij.map (·.Hop))):=by
 have zR:rows.length≤64:=by rw[aJ];exact Nat.le_trans (Nat.pow_le_pow_right (by omega) hk) (by decide)
 have am7:=acT h eZ aJ zR;have pH:2 ^ 1≤2 ^ ts.length:=Nat.pow_le_pow_right (by omega) h1
 have hle:∀K,(∀a∈K,a∈ay)→(∀t,t∈ts→gE gp K root t)→cc (gZ rows (2 ^ ts.length-1)) root≤hX gp K:=λK g4 ah=>
  am7.le K.length K (Nat.le_refl _) g4 (2 ^ ts.length-1) (by omega) (by omega) root (TR.2 ah)
 constructor
 ·intro bA ah;have D:=hle ay (λa aA=>aA) ah;have aq:=(AE eZ.cost).2;have aZ:=eZ.len;omega
 ·intro bA;obtain⟨ij,dc,dg,gx⟩:=Sk h eZ zR (2 ^ ts.length-1) (by omega) _ root _ rfl (Gt bA);refine⟨ij,⟨dc.sub,λa aA=>by have:=(eZ.cost a aA).1;show 0<a.dn;omega,TR.1 dc.x6,λK g4 ah=>by rw[dg];exact hle K g4 ah⟩,dg,gx⟩
end
end Go.Proofs.YtmnbolcmepihlaaGreat
namespace Go.Proofs.YtmnbolcmepihlaaGreat
set_option linter.all false
open Go Go.Proofs.Tryz List
def Q6{α:Type}{eA:α→α→Int}(b5:∀a b c,eA a b<0→eA b c<0→eA a c<0){x:α}:∀{l:List α},(l.Pairwise λa b=>eA a b<0)→(∀y∈l,eA x y<0∨eA y x<0)→(xV eA x l).Pairwise λa b=>eA a b<0
 |[],_,_=>by simp[xV]
 |y::r,h,u=>by
  rw[pairwise_cons]at h;simp only[xV];split
  ·rename_i p6;rw[pairwise_cons];refine⟨λz hz=>?_,Q6 b5 h.2 λz hz=>u z (by simp[hz])⟩;rcases mem_cons.1 ((Ka eA x r).mem_iff.1 hz)with rfl|hz
   ·exact p6
   ·exact h.1 z hz
  ·rename_i p6;have nu:eA x y<0:=by rcases u y (by simp)with q|q;exact q;exact absurd q p6
   rw[pairwise_cons];refine⟨λz hz=>?_,pairwise_cons.2 h⟩;rcases mem_cons.1 hz with rfl|hz
   ·exact nu
   ·exact b5 _ _ _ nu (h.1 z hz)
def Pc{α:Type}{eA:α→α→Int}(b5:∀a b c,eA a b<0→eA b c<0→eA a c<0):∀{l:List α},(l.Pairwise λa b=>eA a b<0∨eA b a<0)→(pM eA l).Pairwise λa b=>eA a b<0
 |[],_=>by simp[pM]
 |x::r,h=>by
  rw[pairwise_cons]at h;exact Q6 b5 (Pc b5 h.2) λy ai=>h.1 y ((w8 eA r).mem_iff.1 ai)
def Q7{α:Type}{eA:α→α→Int}:∀{l:List α},(l.Pairwise λa b=>eA a b<0)→wh eA l=true
 |[],_=>rfl
 |[x],_=>rfl
 |a::b::r,h=>by
  rw[pairwise_cons]at h;simp only[wh,Bool.and_eq_true,decide_eq_true_eq];exact⟨h.1 b (by simp),Q7 h.2⟩
def PD{α:Type}{ks:List (α→Int)}{l:List α}(h:l.Pairwise λa b=>fC ks a b<0∨fC ks b a<0)(aJ:l.length≤1000000):∃m,l2 (fC ks) l=some m∧m.Perm l∧m.Pairwise λa b=>fC ks a b<0:=by
 have h1:=Pc (xc ks) h;refine⟨pM (fC ks) l,?_,w8 _ _,h1⟩;unfold l2;have:(decide (l.length<4611686018427387904))=true:=by simp;omega
 rw[Q7 h1,this];rfl
variable {ay:wu}{root:Int}
def P4{T:Int→Prop}{ij:wu}(eZ:vW ay)(h:qp gp ay T root ij)(aJ:ij.length≤1000000):∃m,l2 (fC [λx:bO=>x.br,λx:bO=>x.bh]) (ij.map (·.Hop))=some m∧m.Perm (ij.map (·.Hop))∧m.Pairwise λa b=>fC [λx:bO=>x.br,λx:bO=>x.bh] a b<0:=by
 refine PD ?_ (by simpa using aJ);rw[pairwise_map];have ja:ij.Pairwise λa b=>a≠b:=h.nodup;refine ja.imp_of_mem λ{a b} aA U hs=>?_;have cA:a.Hop≠b.Hop:=λe=>hs (eZ.hop a (h.sub a aA) b (h.sub b U) e);rw[qX,qX,qX,qX];have D:a.Hop.br≠b.Hop.br∨a.Hop.bh≠b.Hop.bh:=by
  apply Classical.byContradiction;intro aX;have aK:a.Hop.br=b.Hop.br:=Classical.byContradiction λx=>aX (.inl x);have e2:a.Hop.bh=b.Hop.bh:=Classical.byContradiction λx=>aX (.inr x);apply cA;cases Nn:a.Hop;cases ic:b.Hop
  rw[Nn,ic]at aK e2;simp only at aK e2;rw[aK,e2]
 simp only[fC];omega
def aeg{st:List (List (Int×(Int×Int)))}{s r:Int}{H:x2}(h:qo st s r H):∀tF,qo st s r tF→H=tF:=by
 induction h with
 |leaf h aX=>
  intro tF b3;cases b3 with
  |leaf _ _=>rfl
  |next D u nM _=>rw[h]at D;cases D;rw[aX]at u;subst u;exact absurd rfl nM
  |part D u _ nM _ _ _=>rw[h]at D;cases D;rw[aX]at u;subst u;exact absurd rfl nM
 |next h u aX _ bu=>
  intro tF b3;cases b3 with
  |leaf D nM=>rw[h]at D;cases D;rw[nM]at u;subst u;exact absurd rfl aX
  |next D eW _ sN=>rw[h]at D;cases D;rw[u]at eW;subst eW;rw[bu _ sN]
  |part D eW aq _ _ _ _=>rw[h]at D;cases D;rw[u]at eW;subst eW;exact absurd aq aX
 |part h u h1 aX Z _ _ N1 Ar=>
  intro tF b3;cases b3 with
  |leaf D nM=>rw[h]at D;cases D;rw[nM]at u;subst u;exact absurd rfl aX
  |next D eW nM _=>rw[h]at D;cases D;rw[u]at eW;subst eW;exact absurd h1 nM
  |part D eW _ _ eg qv sN=>rw[h]at D;cases D;rw[u]at eW;subst eW;subst Z;subst eg;rw[N1 _ qv,Ar _ sN]
def aqO{β:Type}{ts:cO}{K:(x2×Int×Bool)→Option β}{r:β}(hm:Jp ay root ts K=some r):
  eT prog 63 [] [.bf false (ar ey ay),.int .i64 root,.bf false (ar aB ts)] (λa aH=>aH=[]∧∃x,K x=some r∧a=.c5 [.bf false (ar eY x.1),.int .i64 x.2.1,.bool x.2.2]):=by
 unfold Jp at hm;split at hm
 rotate_left
 ·cases hm
 rename_i ah;obtain⟨eZ,hk⟩:=ah;have kH:=abh hm
 have small:∀(ij:wu),qp gp ay (λt=>t∈ts) root ij→ij.length≤1000000:=λij nI=>by
  have h1:=(AE λa aA=>eZ.cost a (nI.sub a aA)).1;have D:=nI.min ay (λa aA=>aA) (λt b5=>(nI.x6 t b5).mono nI.sub);have aq:=(AE eZ.cost).2;have aZ:=eZ.len;omega
 have av:=Z8 (ay:=ay) (root:=root) (ts:=ts) hk (λa aA=>⟨by have:=eZ.cost a aA;omega,eZ.to a aA⟩) (λrows steps aJ lq bA=>by
  by_cases uV:1≤ts.length
  ·obtain⟨ij,dc,dg,gx⟩:=(Sm lq eZ aJ hk uV (root:=root)).2 bA;have Z:=small ij dc;obtain⟨m,hm,_⟩:=P4 eZ dc Z;exact⟨_,gx,by simpa using Z,m,hm⟩
  ·have bJ:ts=[]:=eq_nil_of_length_eq_zero (by omega);subst bJ;have fv:rows.length=1:=aJ;obtain⟨m2,rO⟩:=G0 (l:=steps) (S:=0) (by rw[lq.len,fv];omega);obtain⟨ij,dc,dg,gx⟩:=Sk lq eZ (by omega) 0 (by omega) _ root _ rfl (Gt bA);exfalso
   have:∀{S:Nat} {v:Int} {H:wu},pU gp ay 0 (λi=>([]:cO).getD i 0) S v H→False:=λh=>by
    induction h with
    |one i hi=>omega
    |hop _ _ _ bu=>exact bu
    |part _ _ _ bu _=>exact bu
   exact this dc)
 refine av.mono ?_;rintro a s ⟨rfl,x,u,rfl⟩;refine⟨rfl,x,kH x ?_,rfl⟩;by_cases uV:ts=[]
 ·rw[u.nil uV]
  have nI:qp gp ay (λt=>t∈ts) root []:=by
   refine⟨λa aA=>(by cases aA),λa aA=>by have:=(eZ.cost a aA).1;show 0<a.dn;omega,λt b5=>(by rw[uV]at b5;cases b5),λK g4 _=>?_⟩;have:=(AE λa aA=>eZ.cost a (g4 a aA)).1;have e:hX gp ([]:wu)=0:=rfl;rw[e];omega
  exact .inl ⟨rfl,⟨[],nI,rfl,List.Perm.refl _⟩,Pairwise.nil⟩
 ·have h1:1≤ts.length:=by cases anC:ts with|nil=>exact absurd anC uV|cons _ _=>simp
  obtain⟨rows,steps,aJ,lq,h⟩:=u.rows uV;have hf:=Sm lq eZ aJ hk h1 (root:=root);rcases h with⟨bA,rfl⟩|⟨bA,H,mz,Z,aI⟩
  ·exact .inr ⟨rfl,hf.1 bA⟩
  ·refine .inl ⟨by rw[aI],?_⟩;obtain⟨ij,dc,dg,gx⟩:=hf.2 bA;have e:=aeg mz _ gx;subst e;obtain⟨m,vJ,rO,am9⟩:=P4 eZ dc (small ij dc);rw[vJ]at Z;have e2:=Option.some.inj Z;refine⟨⟨ij,dc,by rw[dg,aI],by rw[←e2];exact rO⟩,by rw[←e2];exact am9⟩
end Go.Proofs.YtmnbolcmepihlaaGreat
namespace Go.Proofs.YtmnbolcmepihlaaGreat
section
open Go Go.Proofs.Tryz List
set_option maxRecDepth 100000
set_option linter.all false
def X3{β:Type}{t:bz}{root:Int}{eL:cO}{fH:(g2×Int×Int)→Option β}{r:β}(hm:Cd t root eL fH=some r):eT prog 16 [] [.agg (cn t),Y root,bC aB eL] (λa aH=>aH=[]∧∃m7,fH m7=some r∧a=.c5 [.agg (mG m7.1),Y m7.2.1,Y m7.2.2]):=by
 refine dN func16 rfl rfl ?_;unfold Cd at hm;refine bl [(0,.al 97),(1,.al 66)] [(1,Y root),(2,bC aB eL),(3,.ptr 97 0),(6,.ptr 66 0)] [(97,.cells 28 (cn t)),(66,.c 36 [Y 0,.c6])]<|A.seq ?_
 obtain⟨aD,h1,hm⟩:=bo hm;refine aW [(3,ch (Jo h1) HR)] [] [(9,Y aD)]<|aW [] [] [(18,.bool (!decide (aD=0)))] ?_
 rcases cg hm with⟨bk,hm⟩|⟨bk,hm⟩
 ·refine bX bk<|et [] [1,2,3,9,18] [(7,Y 0),(8,Y aD)] [97] []<|A.ret<|qc.mono (avC bN [] (R:=.c5 [.agg [Y ((g2.mk (0:Int) []).h9),bC eY ((g2.mk (0:Int) []).Links)],Y 0,Y aD]) (σ2:=[]) rfl (by kernel_rfl)) ?_
  rintro _ _ ⟨rfl,rfl⟩;exact⟨rfl,_,hm,rfl⟩
 refine bW bk<|A.skip<|A.seq<|aW [(1,aN (dZ aB eL))] [9,18] [(23,.d (6<(eL.length:Int)))] ?_
 rcases cg hm with⟨bK,hm⟩|⟨bK,hm⟩
 ·refine bX bK<|et [] [1,2,3,23] [(7,Y 0),(8,Y 3)] [97] []<|A.ret<|qc.mono (avC bN [] (R:=.c5 [.agg [Y ((g2.mk (0:Int) []).h9),bC eY ((g2.mk (0:Int) []).Links)],Y 0,Y 3]) (σ2:=[]) rfl (by kernel_rfl)) ?_
  rintro _ _ ⟨rfl,rfl⟩;exact⟨rfl,_,hm,rfl⟩
 refine bW bK<|A.skip ?_
 obtain⟨bB,D,hm⟩:=bo hm;refine awx bN 4 [5,6,7,8,9,10,11] [] [(1,ch (axW (r':=bC ey bB) (σ3:=[]) [31] (OJ D) (by kernel_rfl) (by kernel_rfl)) Mu)] (aqO hm) alu (by kernel_rfl) (by kernel_rfl) (by kernel_rfl) (by rintro _ _ ⟨rfl,_,_,rfl⟩;exact⟨rfl,rfl⟩) ?_;rintro _ _ ⟨rfl,cm,hm,rfl⟩
 try dsimp only at hm
 refine⟨[],[(1,Y root),(6,.ptr 66 0),(10,bC eY cm.1),(11,Y cm.2.1),(12,.bool cm.2.2)],[(66,.c 36 [Y 0,.c6])],by kernel_rfl,?_⟩;refine A.seq<|bl [] [(1,Y root),(6,.ptr 66 0),(10,bC eY cm.1),(11,Y cm.2.1),(35,.bool (!cm.2.2))] [(66,.c 36 [Y 0,.c6])] ?_
 rcases cg hm with⟨cq,hm⟩|⟨cq,hm⟩
 ·refine bX cq<|aW [] [1,10,11,35] [(7,Y 0),(8,Y 9)]<|A.ret<|qc.mono (avC bN [] (R:=.c5 [.agg [Y ((g2.mk (0:Int) []).h9),bC eY ((g2.mk (0:Int) []).Links)],Y 0,Y 9]) (σ2:=[]) rfl (by kernel_rfl)) ?_
  rintro _ _ ⟨rfl,rfl⟩;exact⟨rfl,_,hm,rfl⟩
 refine bW cq<|A.skip<|bl [] [(6,.ptr 66 0),(7,Y cm.2.1),(8,Y 0)] [(66,.c 36 [Y root,bC eY cm.1])]<|A.ret<|qc.mono (avC bN [] (R:=.c5 [.agg [Y ((g2.mk root cm.1).h9),bC eY ((g2.mk root cm.1).Links)],Y cm.2.1,Y 0]) (σ2:=[]) rfl (by kernel_rfl)) ?_
 rintro _ _ ⟨rfl,rfl⟩;exact⟨rfl,_,hm,rfl⟩
end
section
set_option linter.all false
open Go List
set_option maxRecDepth 100000
def Q8{α:Type}{eA:α→α→Int}(hi:∀a b,eA a b<0→eA b a<0→False):∀{a b:List α},(a.Pairwise λx y=>eA x y<0)→(b.Pairwise λx y=>eA x y<0)→a.Perm b→a=b
 |[],b,_,_,h=>(nil_perm.1 h).symm
 |x::r,[],_,_,h=>by have:=h.length_eq;simp at this
 |x::r,y::s,aA,U,h=>by
  rw[pairwise_cons]at aA U;have nu:x=y:=by
   rcases mem_cons.1 (h.mem_iff.1 (mem_cons_self))with h1|h1
   ·exact h1
   ·rcases mem_cons.1 (h.mem_iff.2 (mem_cons_self (a:=y)))with D|D
    ·exact D.symm
    ·exact(hi _ _ (aA.1 y D) (U.1 x h1)).elim
  subst nu;rw[Q8 hi aA.2 U.2 (List.Perm.cons_inv h)]
def aaq{α:Type}{ks:List (α→Int)}{l m r:List α}(h:l2 (fC ks) l=some r)(aF:m.Perm l):l2 (fC ks) m=some r:=by
 unfold l2 at h ⊢;cases ah:(wh (fC ks) (pM (fC ks) l)&&decide (l.length<4611686018427387904))with
 |false=>rw[ah]at h;cases h
 |true=>
  rw[ah]at h;simp only[cond_true,Option.some.injEq]at h;rw[Bool.and_eq_true]at ah;have b5:=xc ks
  have afy:∀a b:α,fC ks a b<0→fC ks b a<0→False:=λa b h1 D=>by
   have aq:=b5 _ _ _ h1 D
   have aZ:∀(ks:List (α→Int)) (a:α),¬fC ks a a<0:=λks a=>by
    induction ks with
    |nil=>simp[fC]
    |cons k r bu=>rw[qX];simpa using bu
   exact aZ _ _ aq
  have h1:(pM (fC ks) l).Pairwise λx y=>fC ks x y<0:=ON b5 ah.1
  have cA:m.Pairwise λa b=>fC ks a b<0∨fC ks b a<0:=by
   have D:(pM (fC ks) l).Pairwise λa b=>fC ks a b<0∨fC ks b a<0:=h1.imp .inl;exact((w8 (fC ks) l).trans aF.symm).pairwise D (λ{a b} h=>h.symm)
  have D:=Pc b5 cA;have aq:pM (fC ks) m=pM (fC ks) l:=Q8 afy D h1 ((w8 _ _).trans (aF.trans (w8 _ _).symm));rw[aq,aF.length_eq,ah.1,ah.2];simp[h]
end
section
open Go Go.Proofs.Tryz List
set_option maxRecDepth 100000
set_option linter.all false
def Oj{t:bz}{r:Bool}(hm:yc t=some r):dR prog 160 [] [.agg (cn t)] (.bool r):=by
 refine dN func160 rfl rfl ?_;unfold yc at hm;refine bl [(0,.al 162)] [(1,.ptr 162 0)] [(162,.cells 28 (cn t))] ?_;obtain⟨aD,h1,hm⟩:=bo hm;refine bl [(1,ch (Ja h1) HS)] [(2,.d (aD=0))] [] ?_;cases hm;exact A.ret cM
def Yb{t:bz}{r:sA}(hm:CJ t=some r):dR prog 162 [] [.agg (cn t)] (.agg [.c7 (bM .i64 (kA eS) r.mZ),.c7 (bM .i64 (kA eS) r.w9)]):=by
 refine dN func162 rfl rfl ?_;unfold CJ at hm;refine bl [(0,.al 72),(1,.al 35)] [(1,.ptr 72 0),(2,.ptr 35 0)] [(72,.cells 28 (cn t)),(35,.c 210 [.fP,.fP])]<|et [(0,.al 162009),(1,.al 162010),(3,.al 36)] [] [(3,.ptr 36 0)] [] [(162009,.map 3 234 (bM .i64 (kA eS) [])),(162010,.map 3 234 (bM .i64 (kA eS) [])),(36,.c 210 [.dm 162009,.dm 162010])]<|avF ((awN (d:=162009) (e:=450162009) rfl rfl rfl rfl rfl))<|avF ((awN (d:=162010) (e:=450162010) rfl rfl rfl rfl rfl))<|A.seq<|bl [(2,aN (dZ eD t.bx))] [(1,.ptr 72 0),(2,.ptr 35 0),(3,.ptr 36 0),(13,bC eD t.bx),(14,Y t.bx.length),(15,Y 0)] [(72,.cells 28 (cn t)),(35,.c 210 [.fP,.fP]),(162009,.fQ 3 234 450162009 (fL .i64 ([]:List (Int×yH))) none none),(450162009,.cL (hR 237 2 eS.enc ([]:List (Int×yH)))),(162010,.fQ 3 234 450162010 (fL .i64 ([]:List (Int×yH))) none none),(450162010,.cL (hR 237 2 eS.enc ([]:List (Int×yH)))),(36,.c 210 [.dm 162009,.dm 162010])]<|A.block<|avJ 13 rfl λfu=>?_
 obtain⟨gU,gV,gK,gL,hm⟩:=hJ hm;refine avD (l:=t.bx) (gC:=0) (B:=gU) (K:=gV) hm (λa1=>λ(b1,cU)=>[(1,.ptr 72 0),(2,.ptr 35 0),(3,.ptr 36 0),(13,bC eD t.bx),(14,Y t.bx.length),(15,Y a1)]) (λa1=>λ(b1,cU)=>[(72,.cells 28 (cn t)),(35,.c 210 [.fP,.fP]),(162009,.fQ 3 234 450162009 (fL .i64 b1) none none),(450162009,.cL (hR 237 2 eS.enc b1)),(162010,.fQ 3 234 450162010 (fL .i64 cU) none none),(450162010,.cL (hR 237 2 eS.enc cU)),(36,.c 210 [.dm 162009,.dm 162010])]) ?_ ?_ ?_
 ·exact fN
 ·rintro a1 aK cI ⟨b1,cU⟩ gM cr hm;rw[gK]at hm;exact aW [] [] [(16,.d ((a1:Int)<t.bx.length))]<|A.seq<|bX (hv cr)<|A.skip<|A.seq<|A.block<|et [(0,c8 (ix eD (fS cr))),(2,.al 163)] [16] [(5,.ptr 163 0)] [] [(163,.cells 31 (o7 aK))]<|jl [(8,II 237 2 117 b1 aK.cS eS.enc [] p7),(9,II 237 2 118 cU aK.cS eS.enc [] p7)] [5] [] [162009,450162009,162010,450162010,163] [(162009,.fQ 3 234 117 (fL .i64 (bH b1 aK.cS [])) none none),(117,.cL (hR 237 2 eS.enc (bH b1 aK.cS []))),(162010,.fQ 3 234 118 (fL .i64 (bH cU aK.cS [])) none none),(118,.cL (hR 237 2 eS.enc (bH cU aK.cS [])))]<|dF [(0,aN (hg cr fu))] [15] [(15,Y ((a1+1:Nat):Int))]<|Exists.intro (bH b1 aK.cS [],bH cU aK.cS []) (And.intro hm (jx [.rn 117 450162009,.rn 118 450162010] []))
 rintro a1 ⟨b1,cU⟩ gM fv hm;rw[gL]at hm;refine aW [] [] [(16,.d ((a1:Int)<t.bx.length))]<|A.seq<|bW (ht fv)<|A.exit<|A.seq<|et [(2,aN (dZ fe t.Links))] [1,13,14,15,16] [(29,bC fe t.Links),(30,Y t.Links.length),(31,Y 0)] [72] []<|A.block<|avJ 29 rfl λeO=>?_
 obtain⟨k8,jm,ll,lz,hm⟩:=hJ hm;refine avD (l:=t.Links) (gC:=0) (B:=k8) (K:=jm) hm (λcf=>λ(dH,cH)=>[(2,.ptr 35 0),(3,.ptr 36 0),(29,bC fe t.Links),(30,Y t.Links.length),(31,Y cf)]) (λcf=>λ(dH,cH)=>[(35,.c 210 [.fP,.fP]),(162009,.fQ 3 234 450162009 (fL .i64 dH) none none),(450162009,.cL (hR 237 2 eS.enc dH)),(162010,.fQ 3 234 450162010 (fL .i64 cH) none none),(450162010,.cL (hR 237 2 eS.enc cH)),(36,.c 210 [.dm 162009,.dm 162010])]) ?_ ?_ ?_
 ·exact fN
 ·rintro cf e2 gn ⟨dH,cH⟩ jb eW hm;rw[ll]at hm;refine aW [] [] [(32,.d ((cf:Int)<t.Links.length))]<|A.seq<|bX (hv eW)<|A.skip<|A.seq<|A.block<|et [(0,c8 (ix fe (fS eW))),(2,.al 98)] [32] [(7,.ptr 98 0)] [] [(98,.cells 62 (gy e2))] ?_
  obtain⟨cv,h1,hm⟩:=bo hm;refine et [(8,Fh 237 2 530162004 530162003 dH e2.A eS.enc p7 zeroValue234),(15,l3 162550 (ap eS (bytes:=16) (by decide) h1)),(16,HO 237 2 169 dH e2.A eS.enc cv 530162003 p7)] [] [] [162009,450162009] [(162009,.fQ 3 234 169 (fL .i64 (bH dH e2.A cv)) none none),(169,.cL (hR 237 2 eS.enc (bH dH e2.A cv)))] ?_;obtain⟨fB,D,hm⟩:=bo hm;refine et [(8,Fh 237 2 530162007 530162006 (bH dH e2.A cv) e2.B eS.enc p7 zeroValue234),(15,l3 162566 (ap eS (bytes:=16) (by decide) D)),(16,HO 237 2 92 (bH dH e2.A cv) e2.B eS.enc fB 530162006 p7)] [] [] [162009,169] [(162009,.fQ 3 234 92 (fL .i64 (bH (bH dH e2.A cv) e2.B fB)) none none),(92,.cL (hR 237 2 eS.enc (bH (bH dH e2.A cv) e2.B fB)))] ?_;obtain⟨hC,aq,hm⟩:=bo hm;refine et [(8,Fh 237 2 530162010 530162009 cH e2.B eS.enc p7 zeroValue234),(15,l3 162582 (ap eS (bytes:=16) (by decide) aq)),(16,HO 237 2 170 cH e2.B eS.enc hC 530162009 p7)] [] [] [162010,450162010] [(162010,.fQ 3 234 170 (fL .i64 (bH cH e2.B hC)) none none),(170,.cL (hR 237 2 eS.enc (bH cH e2.B hC)))] ?_;obtain⟨jZ,aZ,hm⟩:=bo hm;exact jl [(8,Fh 237 2 530162013 530162012 (bH cH e2.B hC) e2.A eS.enc p7 zeroValue234),(15,l3 162598 (ap eS (bytes:=16) (by decide) aZ)),(16,HO 237 2 119 (bH cH e2.B hC) e2.A eS.enc jZ 530162012 p7)] [7] [] [162010,170,98] [(162010,.fQ 3 234 119 (fL .i64 (bH (bH cH e2.B hC) e2.A jZ)) none none),(119,.cL (hR 237 2 eS.enc (bH (bH cH e2.B hC) e2.A jZ)))]<|dF [(0,aN (hg eW eO))] [31] [(31,Y ((cf+1:Nat):Int))]<|Exists.intro (bH (bH dH e2.A cv) e2.B fB,bH (bH cH e2.B hC) e2.A jZ) (And.intro hm (jx [.rn 92 450162009,.rn 119 450162010] []))
 rintro cf ⟨dH,cH⟩ jb jE hm;rw[lz]at hm;refine aW [] [] [(32,.d ((cf:Int)<t.Links.length))]<|A.seq<|bW (ht jE)<|A.exit<|A.seq<|axY (d:=162009) rfl λqq lf=>?_
 refine bl [(2,XD 162102 qq lf p7)] [(2,.ptr 35 0),(3,.ptr 36 0),(102,.ptr 162102 0)] [(35,.c 210 [.fP,.fP]),(162009,.fQ 3 234 450162009 (fL .i64 dH) none (some (qq,lf))),(450162009,.cL (hR 237 2 eS.enc dH)),(162010,.fQ 3 234 450162010 (fL .i64 cH) none none),(450162010,.cL (hR 237 2 eS.enc cH)),(36,.c 210 [.dm 162009,.dm 162010]),(162102,.iter 162009 lf lf (#[]))]<|A.block ?_
 obtain⟨fI,Nh,hm⟩:=bo hm;refine A.JY (cW:=162009) (ck:=162102) (it:=102) (clock:=lf) (es:=qq) Nh (λaj=>aj.map (·.1)=dH.map (·.1)) (λgb=>[(2,.ptr 35 0),(3,.ptr 36 0),(102,.ptr 162102 0)]) (λuB=>λgb=>[(35,.c 210 [.fP,.fP]),(162009,.fQ 3 234 450162009 (fL .i64 gb) none (some (qq,lf))),(450162009,.cL (hR 237 2 eS.enc gb)),(162010,.fQ 3 234 450162010 (fL .i64 cH) none none),(450162010,.cL (hR 237 2 eS.enc cH)),(36,.c 210 [.dm 162009,.dm 162010]),(162102,.iter 162009 lf lf uB)]) ⟨rfl,rfl,rfl⟩ ⟨rfl,rfl,rfl⟩ (by kernel_rfl) rfl (by intro n v g dc c1 hi;obtain⟨c,c1⟩:=pX c1;obtain⟨x,u,c1⟩:=bo c1;obtain rfl:=jN c1;exact(Pw x c).trans hi) (λ_=>rfl) (λ_ _=>rfl) (λ_ _=>⟨_,rfl,rfl⟩) (λ_ _ _=>rfl) (λ_ _ hi _ _ _ _ lP aX=>Mn lP rfl aX hi) ?_ ?_ ?_
 ·exact fN
 ·rintro uB Js aoa gN fx gb alS Na fv IP hm;refine A.block<|bl [(0,amE 162102 162009 lf .i64 uB Na (agG IP fv))] [(2,.ptr 35 0),(3,.ptr 36 0),(102,.ptr 162102 0),(8,Y gN)] [(35,.c 210 [.fP,.fP]),(162009,.fQ 3 234 450162009 (fL .i64 gb) none (some (qq,lf))),(450162009,.cL (hR 237 2 eS.enc gb)),(162010,.fQ 3 234 450162010 (fL .i64 cH) none none),(450162010,.cL (hR 237 2 eS.enc cH)),(36,.c 210 [.dm 162009,.dm 162010]),(162102,.iter 162009 lf lf (uB.push Js.born))] ?_
  obtain⟨bV,hm⟩:=pX hm;obtain⟨tY,dU,hm⟩:=bo hm;refine jl [(3,Fh 237 2 530162016 530162015 gb gN eS.enc p7 zeroValue234),(4,fq [] (acM (d:=530162015) (T:=237) dU) akC)] [8] [] [162009,450162009] [(162009,.fQ 3 234 530162016 (fL .i64 gb) (o5 gb gN 530162015) (some (qq,lf))),(530162016,.cL (hR 237 2 eS.enc (mF gb gN))),(530162015,.slice 237 2 (ar eS tY) 0 false)] ?_;obtain rfl:=jN hm;exact((axC (d:=162009) (e:=530162016) (e2:=530162017) (t:=530162015) gb gN eS.enc tY bV rfl rfl rfl rfl rfl rfl rfl).trans (jx [.rn 530162017 450162009] []))
 intro uB;refine avF (cB.refl _ _ _)<|avF (awP (d:=162009) (e:=450162009) fI eS.enc rfl rfl)<|avF (awP (d:=162010) (e:=450162010) cH eS.enc rfl rfl)<|bl [] [(2,.ptr 35 0)] [(35,.c 210 [.dm 162009,.dm 162010]),(162009,.k3 3 234 (bM .i64 (kA eS) fI)),(162010,.k3 3 234 (bM .i64 (kA eS) cH))] ?_
 cases hm;exact A.ret cM
def XY{gH:List (Int×yH)}{hV:Int}{r:(List (Int×Int))}(hm:vu gH hV=some r):dR prog 161 [] [.c7 (bM .i64 (kA eS) gH),Y hV] (.c7 (bM .i64 (c9 .i64) r)):=by
 refine dN func161 rfl rfl ?_;unfold vu at hm;refine bl [] [(0,.c7 (bM .i64 (kA eS) gH)),(1,Y hV)] []<|A.scope<|bl [(0,.al 22)] [(0,.c7 (bM .i64 (kA eS) gH)),(1,Y hV),(5,.dm 22)] [(22,.map 3 3 (bM .i64 (c9 .i64) []))]<|A.seq<|aW [(2,nK gH hV (kA eS) [] p7 (PY eS zeroValue234))] [] [(7,.bool ((az gH hV).isSome))]<|aW [] [7] [(27,.bool (!((az gH hV).isSome)))] ?_
 rcases cg hm with⟨bk,hm⟩|⟨bk,hm⟩
 ·refine bX bk<|aW [] [0,1,5,27] [(4,.dm 22)]<|A.ret ?_
  obtain rfl:=jN hm;exact avC bN [.cT [22]] rfl (by kernel_rfl)
 refine bW bk<|A.skip<|et [(0,.al 161029),(2,wX (rZ (k:=.i64) (enc:=(c9 .i64)) [] hV (0:Int) rfl))] [1,27] [(8,.dm 161029)] [] [(161029,.map 3 3 (bM .i64 (c9 .i64) (bH [] hV (0:Int))))]<|A.seq<|A.label ?_
 obtain⟨dK,iH,hm⟩:=jd hm;refine A.J (J:=dK) (r:=r) (λ(b1,cU)=>[(5,.dm 22)]) (λ(b1,cU)=>[(22,.map 3 3 (bM .i64 (c9 .i64) b1))]) ?_ ?_
 ·refine A.block ?_;obtain⟨k9,hp,lu,hm⟩:=mM hm;refine avN (F:=k9) hm (λ(dH,cH)=>[(0,.c7 (bM .i64 (kA eS) gH)),(5,.dm 22),(8,.dm 161029)]) (λ(dH,cH)=>[(22,.map 3 3 (bM .i64 (c9 .i64) dH)),(161029,.map 3 3 (bM .i64 (c9 .i64) cH))]) ?_ ?_
  ·exact fN
  rintro cI ⟨dH,cH⟩ hm;rw[lu]at hm;refine A.seq<|aW [(1,Xs (lm (k:=.i64) (enc:=(c9 .i64)) cH))] [] [(34,.d (0<(cH.length:Int)))] ?_
  rcases cg hm with⟨bK,hm⟩|⟨bK,hm⟩
  ·refine bX bK<|A.skip<|A.block<|aW [] [34] [(9,Y 0)]<|A.seq<|awy (d:=161029) rfl λqq lf=>?_
   refine bl [(1,XD 161036 qq lf o4)] [(0,.c7 (bM .i64 (kA eS) gH)),(5,.dm 22),(8,.dm 161029),(9,Y 0),(36,.ptr 161036 0)] [(22,.map 3 3 (bM .i64 (c9 .i64) dH)),(161029,.hM qq lf 3 3 (bM .i64 (c9 .i64) cH)),(161036,.iter 161029 lf lf (#[]))]<|A.block ?_
   obtain⟨fI,Nh,hm⟩:=bo hm;refine A.JY (cW:=161029) (ck:=161036) (it:=36) (clock:=lf) (es:=qq) Nh (λ_=>True) (λiN=>[(0,.c7 (bM .i64 (kA eS) gH)),(5,.dm 22),(8,.dm 161029),(9,Y iN),(36,.ptr 161036 0)]) (λuB=>λiN=>[(22,.map 3 3 (bM .i64 (c9 .i64) dH)),(161029,.hM qq lf 3 3 (bM .i64 (c9 .i64) cH)),(161036,.iter 161029 lf lf uB)]) ⟨rfl,rfl,rfl⟩ ⟨rfl,rfl,rfl⟩ (by kernel_rfl) trivial (λ_ _ _ _ _ _=>trivial) (λ_=>rfl) (λ_ _=>rfl) (λ_ _=>⟨_,rfl,rfl⟩) (λ_ _ _=>rfl) (λ_ _ _ _ _ _ _ lP aX=>an2 lP rfl aX) ?_ ?_ ?_
   ·exact fN
   ·rintro uB Js aoa gN fx iN alS Na fv IP hm;refine A.block<|bl [(0,Co 161036 161029 lf .i64 uB (c9 .i64) Na fv)] [(0,.c7 (bM .i64 (kA eS) gH)),(5,.dm 22),(8,.dm 161029),(9,Y iN),(36,.ptr 161036 0),(10,Y gN),(11,Y fx)] [(22,.map 3 3 (bM .i64 (c9 .i64) dH)),(161029,.hM qq lf 3 3 (bM .i64 (c9 .i64) cH)),(161036,.iter 161029 lf lf (uB.push Js.born))] ?_
    refine avM [(0,.c7 (bM .i64 (kA eS) gH)),(5,.dm 22),(8,.dm 161029),(9,Y iN),(36,.ptr 161036 0),(10,Y gN),(62,.bool ((decide (iN=0))||((decide (fx<((az cH iN).getD (0:Int))))||((decide (fx=((az cH iN).getD (0:Int))))&&(decide (gN<iN))))))] [(22,.map 3 3 (bM .i64 (c9 .i64) dH)),(161029,.hM qq lf 3 3 (bM .i64 (c9 .i64) cH)),(161036,.iter 161029 lf lf (uB.push Js.born))] (λhk=>?_) ?_
    ·rcases j6 (decide (iN=0))with cq|cq
     ·exact bl [(2,aN (cK cq)),(20,aN (tb (q:=((decide (fx<((az cH iN).getD (0:Int))))||((decide (fx=((az cH iN).getD (0:Int))))&&(decide (gN<iN))))) cq))] _ _ hk
     rcases j6 (decide (fx<((az cH iN).getD (0:Int))))with en|en
     ·exact bl [(2,aN (cK cq)),(6,nK cH iN (c9 .i64) (0:Int) o4 (tD (k:=.i64) zeroValue3)),(9,aN (cK en)),(20,aN ((tb (q:=((decide (fx=((az cH iN).getD (0:Int))))&&(decide (gN<iN)))) en).trans (mc (q:=((decide (fx<((az cH iN).getD (0:Int))))||((decide (fx=((az cH iN).getD (0:Int))))&&(decide (gN<iN))))) cq)))] _ _ hk
     rcases j6 (decide (fx=((az cH iN).getD (0:Int))))with fK|fK
     ·exact bl [(2,aN (cK cq)),(6,nK cH iN (c9 .i64) (0:Int) o4 (tD (k:=.i64) zeroValue3)),(9,aN (cK en)),(13,nK cH iN (c9 .i64) (0:Int) o4 (tD (k:=.i64) zeroValue3)),(15,aN (cK fK)),(20,aN (((mE (q:=decide (gN<iN)) fK).trans (mc (q:=((decide (fx=((az cH iN).getD (0:Int))))&&(decide (gN<iN)))) en)).trans (mc (q:=((decide (fx<((az cH iN).getD (0:Int))))||((decide (fx=((az cH iN).getD (0:Int))))&&(decide (gN<iN))))) cq)))] _ _ hk
     exact bl [(2,aN (cK cq)),(6,nK cH iN (c9 .i64) (0:Int) o4 (tD (k:=.i64) zeroValue3)),(9,aN (cK en)),(13,nK cH iN (c9 .i64) (0:Int) o4 (tD (k:=.i64) zeroValue3)),(15,aN (cK fK)),(20,aN (((pa (q:=decide (gN<iN)) fK).trans (mc (q:=((decide (fx=((az cH iN).getD (0:Int))))&&(decide (gN<iN)))) en)).trans (mc (q:=((decide (fx<((az cH iN).getD (0:Int))))||((decide (fx=((az cH iN).getD (0:Int))))&&(decide (gN<iN))))) cq)))] _ _ hk
    rcases cg hm with⟨hj,hm⟩|⟨hj,hm⟩
    ·refine bX hj<|dF [] [9,10,62] [(9,Y gN)] ?_
     obtain rfl:=jN hm;exact(fN)
    refine bW hj<|A.skip ?_
    obtain rfl:=jN hm;exact(fN)
   intro uB;refine avF (axD (d:=161029) rfl)<|bl [(2,wW (lk (E:=3) (k:=.i64) (enc:=(c9 .i64)) cH fI (0:Int) (λw=>⟨_,zeroValue3 w,λI=>by simp[bm,c9,ih]⟩)))] [(0,.c7 (bM .i64 (kA eS) gH)),(5,.dm 22),(8,.dm 161029),(9,Y fI),(12,Y ((az cH fI).getD (0:Int)))] [(22,.map 3 3 (bM .i64 (c9 .i64) dH)),(161029,.map 3 3 (bM .i64 (c9 .i64) cH))]<|et [(2,jY cH fI (c9 .i64) o4)] [] [] [161029] [(161029,.map 3 3 (bM .i64 (c9 .i64) (pP cH fI)))]<|et [(3,wX (rZ (k:=.i64) (enc:=(c9 .i64)) dH fI ((az cH fI).getD (0:Int)) rfl))] [] [] [22] [(22,.map 3 3 (bM .i64 (c9 .i64) (bH dH fI ((az cH fI).getD (0:Int)))))]<|A.seq<|aW [(1,Xs (lm (k:=.i64) (enc:=(c9 .i64)) (bH dH fI ((az cH fI).getD (0:Int))))),(3,ang gH (kA eS) p7)] [] [(76,.d (((bH dH fI ((az cH fI).getD (0:Int))).length:Int)=(gH.length:Int)))] ?_
   rcases cg hm with⟨jU,hm⟩|⟨jU,hm⟩
   ·exact bX jU<|A.exit<|cF (bH dH fI ((az cH fI).getD (0:Int)),pP cH fI) hm
   refine bW jU<|A.skip<|aW [(2,nK gH fI (kA eS) [] p7 (PY eS zeroValue234)),(3,aN (dZ eS ((az gH fI).getD [])))] [9,76] [(79,bC eS ((az gH fI).getD [])),(80,Y (((az gH fI).getD []).length:Int)),(81,Y 0)]<|A.block<|avJ 79 rfl λeO=>?_
   obtain⟨k8,jm,ll,lz,hm⟩:=hJ hm;refine avD (l:=((az gH fI).getD [])) (gC:=0) (B:=k8) (K:=jm) hm (λcf=>λgb=>[(0,.c7 (bM .i64 (kA eS) gH)),(5,.dm 22),(8,.dm 161029),(12,Y ((az cH fI).getD (0:Int))),(79,bC eS ((az gH fI).getD [])),(80,Y (((az gH fI).getD []).length:Int)),(81,Y cf)]) (λcf=>λgb=>[(22,.map 3 3 (bM .i64 (c9 .i64) (bH dH fI ((az cH fI).getD (0:Int))))),(161029,.map 3 3 (bM .i64 (c9 .i64) gb))]) ?_ ?_ ?_
   ·exact fN
   ·rintro cf e2 gn gb jb eW hm;rw[ll]at hm;refine aW [] [] [(82,.d ((cf:Int)<(((az gH fI).getD []).length:Int)))]<|A.seq<|bX (hv eW)<|A.skip ?_
    obtain⟨gv,jt,hm⟩:=jd hm;refine A.J (J:=gv) (r:=r) (λnW=>[(0,.c7 (bM .i64 (kA eS) gH)),(5,.dm 22),(8,.dm 161029),(12,Y ((az cH fI).getD (0:Int))),(79,bC eS ((az gH fI).getD [])),(80,Y (((az gH fI).getD []).length:Int)),(81,Y cf)]) (λnW=>[(22,.map 3 3 (bM .i64 (c9 .i64) (bH dH fI ((az cH fI).getD (0:Int))))),(161029,.map 3 3 (bM .i64 (c9 .i64) nW))]) ?_ ?_
    ·refine A.block<|et [(0,c8 (ix eS (fS eW))),(2,.al 90)] [82] [(14,.ptr 90 0)] [] [(90,.cells 237 (yD e2))] ?_
     refine A.seq<|aW [(3,wW (lk (E:=3) (k:=.i64) (enc:=(c9 .i64)) (bH dH fI ((az cH fI).getD (0:Int))) e2.fV (0:Int) (λw=>⟨_,zeroValue3 w,λI=>by simp[bm,c9,ih]⟩)))] [] [(16,.bool ((az (bH dH fI ((az cH fI).getD (0:Int))) e2.fV).isSome))] ?_
     refine aW [] [16] [(92,.bool ((az (bH dH fI ((az cH fI).getD (0:Int))) e2.fV).isSome))] ?_;rcases cg hm with⟨lI,hm⟩|⟨lI,hm⟩
     ·exact bX lI<|A.exit<|cF gb hm
     refine bW lI<|A.skip<|aW [(3,wW (lk (E:=3) (k:=.i64) (enc:=(c9 .i64)) gb e2.fV (0:Int) (λw=>⟨_,zeroValue3 w,λI=>by simp[bm,c9,ih]⟩)))] [92] [(17,Y ((az gb e2.fV).getD (0:Int))),(18,.bool ((az gb e2.fV).isSome))]<|avM [(0,.c7 (bM .i64 (kA eS) gH)),(5,.dm 22),(8,.dm 161029),(12,Y ((az cH fI).getD (0:Int))),(79,bC eS ((az gH fI).getD [])),(80,Y (((az gH fI).getD []).length:Int)),(81,Y cf),(14,.ptr 90 0),(109,.bool ((!((az gb e2.fV).isSome))||(decide (aG (((az cH fI).getD (0:Int))+e2.kF)<((az gb e2.fV).getD (0:Int))))))] [(22,.map 3 3 (bM .i64 (c9 .i64) (bH dH fI ((az cH fI).getD (0:Int))))),(161029,.map 3 3 (bM .i64 (c9 .i64) gb)),(90,.cells 237 (yD e2))] (λhk=>?_) ?_
     ·rcases j6 (!((az gb e2.fV).isSome))with lW|lW
      ·exact bl [(2,aN (cK lW)),(9,aN (tb (q:=decide (aG (((az cH fI).getD (0:Int))+e2.kF)<((az gb e2.fV).getD (0:Int)))) lW))] _ _ hk
      exact bl [(2,aN (cK lW)),(9,aN (mc (q:=decide (aG (((az cH fI).getD (0:Int))+e2.kF)<((az gb e2.fV).getD (0:Int)))) lW))] _ _ hk
     rcases cg hm with⟨mw,hm⟩|⟨mw,hm⟩
     ·exact bX mw<|jl [(7,wX (rZ (k:=.i64) (enc:=(c9 .i64)) gb e2.fV (aG (((az cH fI).getD (0:Int))+e2.kF)) rfl))] [14,109] [] [161029,90] [(161029,.map 3 3 (bM .i64 (c9 .i64) (bH gb e2.fV (aG (((az cH fI).getD (0:Int))+e2.kF)))))]<|cF (bH gb e2.fV (aG (((az cH fI).getD (0:Int))+e2.kF))) hm
     exact bW mw<|A.skip<|cF gb hm
    rintro nW hm;rw[jt]at hm;exact dF [(0,aN (hg eW eO))] [81] [(81,Y ((cf+1:Nat):Int))]<|cF nW hm
   rintro cf gb jb jE hm;rw[lz]at hm;exact aW [] [] [(82,.d ((cf:Int)<(((az gH fI).getD []).length:Int)))]<|A.seq<|bW (ht jE)<|A.exit<|cF (bH dH fI ((az cH fI).getD (0:Int)),gb) hm
  exact bW bK<|A.exit<|cF (dH,cH) hm
 rintro⟨b1,cU⟩ hm;rw[iH]at hm;refine aW [] [5] [(4,.dm 22)]<|A.ret ?_
 obtain rfl:=jN hm;exact avC bN [.cT [22]] rfl (by kernel_rfl)
def aq0{t:bz}{hV:Int}{iQ:Int}{r:Int×Bool}(hm:FT t hV iQ=some r):dR prog 102 [] [.agg (cn t),Y hV,Y iQ] (.c5 [Y r.1,.bool r.2]):=by
 refine dN func102 rfl rfl ?_;unfold FT at hm;refine bl [(0,.al 130)] [(1,Y hV),(2,Y iQ),(3,.ptr 130 0)] [(130,.cells 28 (cn t))]<|A.seq ?_
 obtain⟨aD,h1,hm⟩:=bo hm;refine aW [(1,ch (Oj h1) L2)] [] [(12,.bool (!aD))] ?_;rcases cg hm with⟨bk,hm⟩|⟨bk,hm⟩
 ·refine bX bk<|bl [] [(6,Y 0),(7,.bool false)] [] ?_
  cases hm;exact A.ret cM
 refine bW bk<|A.skip ?_
 obtain⟨bB,D,hm⟩:=bo hm;obtain⟨cm,aq,hm⟩:=bo hm;refine bl [(1,ch (Yb D) U7),(4,ch (XY aq) Uf),(6,nK cm iQ (c9 .i64) (0:Int) o4 (tD (k:=.i64) zeroValue3))] [(8,Y ((az cm iQ).getD (0:Int))),(9,.bool ((az cm iQ).isSome))] []<|bl [] [(6,Y ((az cm iQ).getD (0:Int))),(7,.bool ((az cm iQ).isSome))] [] ?_
 cases hm;exact A.ret cM
end
section
set_option linter.all false
open Go Go.Proofs.Tryz List
variable {o:Oper}{σ:ag}
def awY{G:cR}{ev:Operand→W}{T E d t:Nat}{x:Operand}{zs:dQ}(h:o.op=.buildSlice T 1 #[(0,x)])(aT:nA G.P T E 1 zs)(u:ev x=.dm t)(XI:t≠d)(hi:G.ids.contains d=false):
  Yields G o ev ((d,.hU E [] t)::σ) [d] [d] (.own d):=by
 intro aH cx I β w bn c3 av hm hop;have h1:aC I β (ev x) (bn x):=hop x (by simp only[h,Op.operands];simp);rw[u]at h1;simp only[aC]at h1;obtain⟨dc,dg⟩:=h1;obtain⟨z,ji,hN⟩:=aT.zero w
 let L:jc:=(Array.range (1*1)).map ((if 1*1=0 then #[]else z.cells)[·%(if 1*1=0 then #[]else z.cells:jc).size]!)
 have uK:L.size=1:=by simp[L]
 obtain⟨r,us,hw,ha,mJ,ql,xC,v8⟩:=F7 (I:=I) (β:=β) 1 [(0,ev x)] [(0,bn x)] 0 L [[.dm t]]
  ⟨by simp,λj p q aY bP=>by
   cases j with
   |zero=>simp only[getElem?_cons_zero,Option.some.injEq]at aY bP;subst aY bP;exact⟨rfl,by simp only[u,aC];exact⟨dc,dg⟩⟩
   |succ j=>simp at aY⟩ (by rw[u];rfl) (by simp[uK])
 have yy:r.toList=us:=by
  rw[mJ];have l0:L.toList.drop ((0+([(0,ev x)]:List (Nat×W)).length)*1)=[]:=drop_of_length_le (by simp[uK]);rw[l0];simp
 have IM:us=[β t]:=by
  simp only[flatten_cons,flatten_nil,append_nil,b8,aC]at ql;obtain⟨aR,uC,aK,⟨e2,dj⟩,fF⟩:=ql;subst fF;rw[aK,e2]
 have XC:r=#[β t]:=by
  apply Array.toList_inj.1;rw[yy,IM]
 have eV:(execOp bn o).run G.P w=.ok (.value (.slice (some ⟨w.heap.size,0,none⟩) 1 1)) (w.alloc (.cells r E)):=by
  have Ac:¬(1*1>2 ^ 24):=by decide
  have oB:Instr.fill (λi=>some (i*1,1)) L ((#[(0,x)]:Array (Nat×Operand)).map λ(i,x)=>(i,bn x)).toList=some r:=by simpa using hw
  simp only[execOp,h,Instr.buildSlice,Sem.run_bind,run_underlying aT.gT,aT.size,Result.andThen_ok,Ac,if_false];have sG:L=(Array.range (1*1)).map (z.cells[·%z.cells.size]!):=by simp only[L,show ¬(1*1=0)by decide,if_false]
  rw[sG]at oB;simp only[show ¬(1*1=0)by decide,if_false,Sem.run_bind,ji,Sem.run_pure,Result.andThen_ok];simp only[oB];simp[newRow]
 rw[eV];have mB:=hm d (by simp);refine⟨I,hy β d (.slice (some ⟨w.heap.size,0,none⟩) 1 1),by simp only[aC,gX,i1,and_self],?_,cV.refl I,λx u=>iu β _ (λe=>u (by simp[e]))⟩;refine av.real (by simpa using hi) mB rfl λbc cG=>?_;rw[c3 d (by simp),avA,if_pos rfl]at cG;injection cG with cG
 subst cG;have vM:β t≠.nilFunc:=λe=>by rw[dc,e]at dg;simp[nV]at dg
 simp only[bb,gX,iu β _ XI];refine .inr ⟨w.heap.size,1,r,rfl,Nat.le_refl _,by decide,heap_alloc_new w _,by rw[XC];rfl,?_,λe he=>(by cases he),by rw[XC];rfl,vM,λo=>av.jG (Nat.le_refl _) o,.inl av.size⟩;rfl
variable {P:Program}{bY:hI}
def MV(bY:hI)(d:Nat)(ids:dI)(op:Op)(env:au):Option (dw×di):=match op with
 |.buildSlice T len parts=>match bY.get T with
  |some ⟨_,_,_,.slice E 1 _ _⟩=>(match parts.toList with
   |[(0,x)]=>(match env.dx x with
    |some (.dm t)=>bif Nat.beq len 1&&!Nat.beq t d&&!ids.contains d then some (.v d (.hU E [] t) (.own d),([],[]))else none
    |_=>none)
   |_=>none)
  |_=>none
 |_=>none
def ag5(aU:kJ P bY){d:Nat}{N:Nat}{ids:dI}{env:au}{s:dw}{bc:di}(h:MV bY d ids o.op env=some (s,bc)):gj ⟨P,N,ids⟩ o env σ s:=by
 unfold MV at h;split at h
 ·rename_i T len parts an;split at h
  ·rename_i aT;have hk:=(ki.get aU.tys aT).kd;simp only[nR]at hk;split at h
   ·rename_i x aF;have:parts=#[(0,x)]:=Array.toList_inj.1 (by simpa using aF);subst this;split at h
    ·rename_i t u;generalize U:(Nat.beq len 1&&_&&_)=eU at h;cases eU with
     |false=>cases h
     |true=>
      simp only[cond_true]at h;rw[Bool.and_eq_true,Bool.and_eq_true]at U;obtain⟨⟨ec,dY⟩,hb⟩:=U;have:=Nat.eq_of_beq_eq_true ec;subst this
      cases h;have hi:ids.contains d=false:=by simpa using hb
      exact⟨hi,awY (G:=⟨P,N,ids⟩) an hk.2.2 (avz u) (Nat.ne_of_beq_eq_false (by simpa using dY)) hi⟩
    ·cases h
   ·cases h
  ·cases h
 ·cases h
def We(aU:kJ P bY)(d:Nat):Hint P:=.gs false ([],[]) (λids op env _=>MV bY d ids op env) λ_ _ _ _ _ _ _ h _=>ag5 aU h
def Ex(m:List (Int×Int)):Prop:=∀x,0≤cc m x∧cc m x≤2305843009213693951
variable {ay:wu}
def Qu{aR:List (Int×Int)}{v:List (Int×Int)}{lJ:Bool}{j:Nat}{e:bQ}(h:(ay.take j).foldl qG (aR,false)=(v,lJ))(u:ay[j]?=some e):(ay.take (j+1)).foldl qG (aR,false)=qG (v,lJ) e:=by
 rw[take_add_one,u,Option.toList_some,List.foldl_append,h];rfl
variable {r:List (Int×Int)}
def abk{c2:List (List W)}{m1:List (Int×Int)}{eF:List (List W)}{m2:List (Int×(Int×Int))}(aJ:eF.length=c2.length)(bJ:Ex m1)(aA:qf ay)(aI:tv ay m1 r):
  eT prog 121 (eX ay c2 m1 eF m2) [.ptr 910000000 0,.int .i64 (c2.length:Int)] (λa aH=>a=.c5 []∧∃hh,aH=eX ay c2 r eF hh):=by
 refine dN func121 rfl rfl ?_;refine avB bN [] [] [(0,.ptr 910000000 0),(1,.int .i64 (c2.length:Int)),(4,.bool true)] (eX ay c2 m1 eF m2) (by kernel_rfl) ?_;refine A.block ?_;refine A.loop (α:=List (Int×Int)×List (Int×(Int×Int))×Bool) (λg=>[(0,.ptr 910000000 0),(1,.int .i64 (c2.length:Int)),(4,.bool g.2.2)]) (λg=>eX ay c2 g.1 eF g.2.1) (λg=>Ex g.1∧(g.2.2=true→tv ay g.1 r)∧(g.2.2=false→g.1=r)) (λg=>oi ay g.1+(bif g.2.2 then 1 else 0)) (m1,m2,true) ⟨bJ,λ_=>aI,λh=>by cases h⟩ (cB.go [] [] (by kernel_rfl)) ?_;rintro⟨h0,j7,lJ⟩ ⟨hu,fc,eg⟩;simp only at hu fc eg;refine A.seq ?_;refine avB bN [] [] [(0,.ptr 910000000 0),(1,.int .i64 (c2.length:Int)),(4,.bool lJ),(7,.bool lJ)] (eX ay c2 h0 eF j7) (by kernel_rfl) ?_;cases lJ with
 |false=>
  refine avG rfl rfl ?_;refine A.exit ?_;refine qc.mono (avC bN [] (R:=.c5 []) (σ2:=eX ay c2 h0 eF j7) rfl (by kernel_rfl)) ?_;rintro a s ⟨rfl,rfl⟩;exact⟨rfl,j7,by rw[←eg rfl]⟩
 |true=>
  refine avH rfl rfl ?_;refine A.skip ?_;show aP _ _ _ _ _;refine A.block ?_;refine avB bN [] [] [(0,.ptr 910000000 0),(1,.int .i64 (c2.length:Int)),(4,.bool false)] (eX ay c2 h0 eF j7) (by kernel_rfl) ?_;refine avB bN [] [(4,aN (dZ ey ay))] [(0,.ptr 910000000 0),(1,.int .i64 (c2.length:Int)),(4,.bool false),(11,.bf false (ar ey ay)),(12,.int .i64 (ay.length:Int)),(13,.int .i64 0)] (eX ay c2 h0 eF j7) (by kernel_rfl) ?_;refine A.block ?_;refine avJ 11 rfl λqZ=>?_
  refine A.loop (α:=Nat×List (Int×Int)×List (Int×(Int×Int))×Bool) (λg=>[(0,.ptr 910000000 0),(1,.int .i64 (c2.length:Int)),(4,.bool g.2.2.2),(11,.bf false (ar ey ay)),(12,.int .i64 (ay.length:Int)),(13,.int .i64 (g.1:Int))]) (λg=>eX ay c2 g.2.1 eF g.2.2.1)
   (λg=>g.1≤ay.length∧Ex g.2.1∧(ay.take g.1).foldl qG (h0,false)=(g.2.1,g.2.2.2)∧(g.2.2.2=false→g.2.1=h0)∧(g.2.2.2=true→oi ay g.2.1<oi ay h0)∧∀x,cc g.2.1 x≤cc h0 x) (λg=>ay.length-g.1) (0,h0,j7,false) ⟨Nat.zero_le _,hu,rfl,λ_=>rfl,λh=>(by cases h),λx=>Int.le_refl _⟩ (cB.go [] [] (by kernel_rfl)) ?_
  rintro⟨j,ej,gz,lJ⟩ ⟨aY,aa,bA,aX,ai,hle⟩;simp only at aY aa bA aX ai hle;refine avB bN [] [] [(0,.ptr 910000000 0),(1,.int .i64 (c2.length:Int)),(4,.bool lJ),(11,.bf false (ar ey ay)),(12,.int .i64 (ay.length:Int)),(13,.int .i64 (j:Int)),(14,.bool (decide ((j:Int)<(ay.length:Int))))] (eX ay c2 ej eF gz) (by kernel_rfl) ?_;refine A.seq ?_;by_cases oy:j<ay.length
  ·have u:ay[j]?=some ay[j]:=List.getElem?_eq_getElem oy;generalize ay[j]=e at u;have Cm:e∈ay:=List.mem_of_getElem? u;obtain⟨kX,bk⟩:=aA e Cm;obtain⟨vo,ec⟩:=aa e.Hop.bh;obtain⟨dY,hb⟩:=aa e.Hop.br;have av:aG (e.dn+cc ej e.Hop.bh)=e.dn+cc ej e.Hop.bh:=iY (by omega) (by omega);refine avH rfl (hv u) ?_;refine A.skip ?_;show aP _ _ _ _ _;refine A.seq ?_;refine A.block ?_;refine avB bN [] [(0,c8 (ix ey (fS u))),(2,.al 129)] [(0,.ptr 910000000 0),(1,.int .i64 (c2.length:Int)),(4,.bool lJ),(11,.bf false (ar ey ay)),(12,.int .i64 (ay.length:Int)),(13,.int .i64 (j:Int)),(6,.ptr 129 0)] (eX ay c2 ej eF gz++[(129,.cells 175 [.int .i64 e.Hop.br,.int .i64 e.Hop.bh,.int .i64 e.dn])]) (by kernel_rfl) ?_;by_cases bS:e.dn+cc ej e.Hop.bh<cc ej e.Hop.br
   ·refine avB bN [] [(12,ch (Dw (ay:=ay) (c2:=c2) (m1:=ej) (eF:=eF) (m2:=gz) e.Hop.bh) xF),(13,aN (show W.int .i64 (aG (e.dn+cc ej e.Hop.bh))=W.int .i64 (e.dn+cc ej e.Hop.bh)by rw[av])),(18,fq [] (KF (ay:=ay) (m1:=ej) (m2:=gz) e.Hop.br (e.dn+cc ej e.Hop.bh) e.Hop.bh 0 aJ bS) y3)] [(0,.ptr 910000000 0),(1,.int .i64 (c2.length:Int)),(11,.bf false (ar ey ay)),(12,.int .i64 (ay.length:Int)),(13,.int .i64 (j:Int)),(35,.bool true)] (eX ay c2 (bH ej e.Hop.br (e.dn+cc ej e.Hop.bh)) eF (bH gz e.Hop.br (e.Hop.bh,0))) (by kernel_rfl) ?_;refine avH rfl rfl ?_;refine A.R bN [] [] [(0,.ptr 910000000 0),(1,.int .i64 (c2.length:Int)),(4,.bool true),(11,.bf false (ar ey ay)),(12,.int .i64 (ay.length:Int)),(13,.int .i64 (j:Int))] (eX ay c2 (bH ej e.Hop.br (e.dn+cc ej e.Hop.bh)) eF (bH gz e.Hop.br (e.Hop.bh,0))) (by kernel_rfl) ?_;show aP _ _ _ _ _;refine A.R bN [] [(0,aN (hg u qZ))] [(0,.ptr 910000000 0),(1,.int .i64 (c2.length:Int)),(4,.bool true),(11,.bf false (ar ey ay)),(12,.int .i64 (ay.length:Int)),(13,.int .i64 ((j+1:Nat):Int))] (eX ay c2 (bH ej e.Hop.br (e.dn+cc ej e.Hop.bh)) eF (bH gz e.Hop.br (e.Hop.bh,0))) (by kernel_rfl) ?_
    have EX:Ex (bH ej e.Hop.br (e.dn+cc ej e.Hop.bh)):=λx=>by
     rw[tW];split
     ·omega
     ·exact aa x
    have oa:qG (ej,lJ) e=(bH ej e.Hop.br (e.dn+cc ej e.Hop.bh),true):=if_pos bS
    have E7:∀x,cc (bH ej e.Hop.br (e.dn+cc ej e.Hop.bh)) x≤cc ej x:=λx=>by
     rw[tW];split
     ·rename_i h;subst h;omega
     ·omega
    have IG:oi ay (bH ej e.Hop.br (e.dn+cc ej e.Hop.bh))<oi ay ej:=LP E7 (EX _).1 (by rw[tW,if_pos rfl];exact bS) Cm;have MM:oi ay ej≤oi ay h0:=Hr hle ay;refine⟨(j+1,bH ej e.Hop.br (e.dn+cc ej e.Hop.bh),bH gz e.Hop.br (e.Hop.bh,0),true),⟨oy,EX,by simp only;rw[Qu bA u,oa],λh=>(by cases h),λ_=>Nat.lt_of_lt_of_le IG MM,λx=>Int.le_trans (E7 x) (hle x)⟩,by simp only;omega,cB.go [] [] (by kernel_rfl)⟩
   ·refine avB bN [] [(12,ch (Dw (ay:=ay) (c2:=c2) (m1:=ej) (eF:=eF) (m2:=gz) e.Hop.bh) xF),(13,aN (show W.int .i64 (aG (e.dn+cc ej e.Hop.bh))=W.int .i64 (e.dn+cc ej e.Hop.bh)by rw[av])),(18,fq [] (KE (ay:=ay) (c2:=c2) (m1:=ej) (eF:=eF) (m2:=gz) e.Hop.br (e.dn+cc ej e.Hop.bh) e.Hop.bh 0 (Int.not_lt.1 bS)) y3)] [(0,.ptr 910000000 0),(1,.int .i64 (c2.length:Int)),(4,.bool lJ),(11,.bf false (ar ey ay)),(12,.int .i64 (ay.length:Int)),(13,.int .i64 (j:Int)),(35,.bool false)] (eX ay c2 ej eF gz) (by kernel_rfl) ?_;refine avG rfl rfl ?_;refine A.skip ?_;show aP _ _ _ _ _;refine A.R bN [] [(0,aN (hg u qZ))] [(0,.ptr 910000000 0),(1,.int .i64 (c2.length:Int)),(4,.bool lJ),(11,.bf false (ar ey ay)),(12,.int .i64 (ay.length:Int)),(13,.int .i64 ((j+1:Nat):Int))] (eX ay c2 ej eF gz) (by kernel_rfl) ?_;refine⟨(j+1,ej,gz,lJ),⟨oy,aa,by simp only;rw[Qu bA u];exact if_neg bS,aX,ai,hle⟩,by simp only;omega,cB.go [] [] (by kernel_rfl)⟩
  ·refine avG rfl (ht (by omega)) ?_;refine A.exit ?_;have amY:j=ay.length:=by omega
   rw[amY,take_length]at bA;refine⟨(ej,gz,lJ),⟨aa,λh=>?_,λh=>?_⟩,?_,cB.go [] [] (by kernel_rfl)⟩
   ·simp only at h ⊢;subst h;cases fc rfl with
    |done D=>unfold y4 at D;rw[bA]at D;cases D
    |more _ aq=>unfold y4 at aq;rw[bA]at aq;exact aq
   ·simp only at h ⊢;subst h;rw[aX rfl];cases fc rfl with
    |done _=>rfl
    |more D _=>unfold y4 at D;rw[bA]at D;cases D
   ·cases lJ with
    |true=>have:=ai rfl;simp only[cond_true];omega
    |false=>
     have:=aX rfl;rw[this];simp only[cond_false,cond_true];omega
def aei{target:Int}(aA:qf ay)(aI:tv ay [(target,0)] r):
  eT prog 165 [] [.bf false (ar ey ay),.int .i64 target] (λa aH=>a=.dm 910000002∧aH=[(910000002,.map 3 3 (bM .i64 (c9 .i64) r))]):=by
 have bJ:Ex [(target,0)]:=λx=>by
  unfold cc;rw[kD];split<;>simp[az]
 refine dN func165 rfl rfl ?_;refine avB bN [] [] [(0,.bf false (ar ey ay)),(1,.int .i64 target)] [] (by kernel_rfl) ?_;refine avB bN [] [(1,.al 910000002),(3,wX (rZ (k:=.i64) (enc:=c9 .i64) [] target 0 rfl)),(5,We bN 93),(6,.al 910000004),(7,We bN 106),(9,.al 910000000)] [(5,.ptr 910000000 0)] (eX ay [] [(target,0)] [] []) (by kernel_rfl) ?_;have IJ:eT prog 121 (eX ay [] [(target,0)] [] []) [.ptr 910000000 0,.int .i64 0] (λa aH=>a=.c5 []∧∃hh,aH=eX ay [] r [] hh):=abk (ay:=ay) (c2:=[]) (m1:=[(target,0)]) (eF:=[]) (m2:=[]) rfl bJ aA aI;refine A.seq ?_;refine av5 bN 1 [] [] [(15,.ptr 910000000 0),(5,.ptr 910000000 0)] (eX ay [] [(target,0)] [] []) (by kernel_rfl) (by kernel_rfl) (by kernel_rfl) rfl rfl (awu (OF:=[.ptr 910000000 0,.int .i64 0]) [] rfl rfl rfl rfl rfl rfl ?_ IJ T9) rfl rfl ?_
 ·rintro a σ2 ⟨rfl,cn,rfl⟩;exact⟨rfl,rfl⟩
 rintro b9 aH ⟨σ2,⟨rfl,cn,rfl⟩,rfl⟩;refine⟨[],_,_,rfl,?_⟩;show aP _ _ _ _ _;refine avB bN [] [(4,Cz (xs:=[]) (i:=0) DN ⟨by omega,by decide⟩),(5,p5 (xs:=[]) (p:=0) DM rfl)] [(4,.dm 910000002)] (eX ay [] r [] cn) (by kernel_rfl) ?_;refine A.ret ?_;exact avC bN [] (R:=.dm 910000002) (σ2:=[(910000002,.map 3 3 (bM .i64 (c9 .i64) r))]) rfl (by kernel_rfl)
end
section
set_option linter.all false
open Go Go.Proofs.Tryz List
def od(f:Nat)(m:List (Int×Int)):W:=.e7 f [.gq [.c7 (bM .i64 (c9 .i64) m)]]
def aej(m:List (Int×Int)):dR prog 169 [] [.c7 (bM .i64 (c9 .i64) m)] (od 194 m):=by
 refine dN func169 rfl rfl ?_;refine avB bN [] [(0,.al 910000000)] [(1,.ptr 910000000 0)] [(910000000,.cells 144 [.c7 (bM .i64 (c9 .i64) m)])] (by kernel_rfl) ?_;refine avF (awg (T:=144) (cs:=[.c7 (bM .i64 (c9 .i64) m)]) 1 910000000 rfl rfl rfl) ?_;refine avB bN [] [(0,E3)] [(2,od 194 m)] [] (by kernel_rfl) ?_;refine A.ret ?_;exact avC bN [] rfl (by kernel_rfl)
def aek(m:List (Int×Int)):dR prog 168 [] [.c7 (bM .i64 (c9 .i64) m)] (od 193 m):=by
 refine dN func168 rfl rfl ?_;refine avB bN [] [(0,.al 910000000)] [(1,.ptr 910000000 0)] [(910000000,.cells 144 [.c7 (bM .i64 (c9 .i64) m)])] (by kernel_rfl) ?_;refine avF (awg (T:=144) (cs:=[.c7 (bM .i64 (c9 .i64) m)]) 1 910000000 rfl rfl rfl) ?_;refine avB bN [] [(0,E3)] [(2,od 193 m)] [] (by kernel_rfl) ?_;refine A.ret ?_;exact avC bN [] rfl (by kernel_rfl)
def aqz{ay:wu}{target:Int}{r:List (Int×Int)}(hm:zM ay target=some r):eT prog 165 [] [.bf false (ar ey ay),.int .i64 target] (λa aH=>a=.dm 102∧aH=[(102,.map 3 3 (bM .i64 (c9 .i64) r))]):=by
 obtain⟨h1,D⟩:=ZH hm;exact pl.at [(910000002,102)] (aei h1 D)
end
section
set_option linter.all false
open Go Go.Proofs.Tryz Go.RowKit Go.Shelf List
open Go.ChangeMaps (setBlock)
attribute [local go_sem] Oper.semAt_some
set_option maxRecDepth 100000
def ZF{w hP:World}(h:hP=w∨hP=w.drew)(r:Nat)(o:Obj):w.grownBy (setBlock hP r o) (some r):=by
 have b0:hP.heap=w.heap:=by rcases h with rfl|rfl<;>rfl
 have Z:(setBlock hP r o).heap=w.heap.setIfInBounds r o:=by simp only[setBlock,b0]
 refine⟨by rcases h with rfl|rfl<;>rfl,by rcases h with rfl|rfl<;>rfl,by rcases h with rfl|rfl<;>rfl,by rw[Z];simp,λk _ hk=>?_⟩;rw[Z,Array.getElem?_setIfInBounds,if_neg λe=>hk (by rw[e])]
def zw{β:Type}(B:Nat)(J:β→World→Prop):Prop:=
 ∀s aU W' row,J s aU→aU.grownBy W' row→aU.drawn≤W'.drawn→(∀r,row=some r→B≤r∧∃o:Obj,aU.heap[r]?=some o∧o.isWalk=true)→J s W'
def ZG{w hP:World}(h:hP=w∨hP=w.drew)(r:Nat)(o:Obj):w.drawn≤(setBlock hP r o).drawn:=by
 rcases h with rfl|rfl
 ·exact Nat.le_refl _
 ·exact Nat.le_succ _
section
variable {P:Program}{F:Fence}{n:Nat}{ops:mg}{Q:Exit→Act→World→Prop}{o:Oper}{iT:List Oper}{a:Act}{w:World}
def Ow(bw:o.guard=none)(m:Operand)(t k e:TypeId)(hop:o.op=Op.range t m)(b5:P.underlying t=some (.map k e))(b clock:Nat)(es:ia)(hm:a.eval m=.map (some b))(U:w.heap[b]?=some (.map es clock))
  (g4:wpListIn F n P ops Q iT (a.put o.dst (.pointer (some ⟨w.heap.size,0,none⟩))) (w.alloc (.mapIter (some b) clock #[] clock))):wpListIn F n P ops Q (o::iT) a w:=by
 refine wpListIn_plain bw λnX yf=>?_;have eV:=run_range_map (P:=P) w t k e b es clock b5 U;unfold Oper.wpIn;refine⟨by simp[Oper.about,hop],?_⟩;rw[Oper.semAt_plain F _ _ (by rw[hop];intro c gh;cases gh)];simp[execOp,hop,hm,eV,Result.andThen];exact yf _ _ g4
def Ou(bw:o.guard=none)(it:Operand)(hop:o.op=Op.next it false)(b r clock:Nat)(seen:pE)(es:ia)(hit:a.eval it=.pointer (some ⟨r,0,none⟩))
  (aI:w.heap[r]?=some (.mapIter (some b) clock seen clock)) (U:w.heap[b]?=some (.map es clock)) (c1:km es clock)
  (al0:(leftOf es seen).size=0→wpListIn F n P ops Q iT (a.put o.dst (.tuple #[.bool false])) w)
  (al6:∀e∈(leftOf es seen).toList,∀iL,w.grownBy iL (some r)→w.drawn≤iL.drawn→iL.heap.size=w.heap.size→iL.heap[r]?=some (.mapIter (some b) clock (seen.push e.born) clock)→iL.heap[b]?=some (.map es clock)→(Instr.entry (.pointer (some ⟨r,0,none⟩))).run P iL=.ok (.tuple #[e.key,e.val]) iL→
   wpListIn F n P ops Q iT (a.put o.dst (.tuple #[.bool true,e.key,e.val])) iL):wpListIn F n P ops Q (o::iT) a w:=by
 refine wpListIn_plain bw λnX yf=>?_;unfold Oper.wpIn;refine⟨by simp[Oper.about,hop],?_⟩;rw[Oper.semAt_plain F _ _ (by rw[hop];intro c gh;cases gh)];rcases run_next_at (P:=P) w o.type r b clock clock seen es clock aI U c1.2 (Nat.le_refl _)with⟨dV,eu⟩|⟨e,dV,hP,eu,s3⟩
 ·simp[execOp,hop,hit,eu,Result.andThen];exact yf _ _ (al0 dV)
 ·simp[execOp,hop,hit,s3,Result.andThen];have bS:r<w.heap.size:=(Array.getElem?_eq_some_iff.1 aI).1;have z7:hP.heap=w.heap:=by rcases eu with rfl|rfl<;>rfl
  have j5:(setBlock hP r (.mapIter (some b) clock (seen.push e.born) clock)).heap[r]?=some (.mapIter (some b) clock (seen.push e.born) clock):=by
   simp[setBlock,z7,Array.getElem?_setIfInBounds,bS]
  have anr:r≠b:=λh=>by rw[h,U]at aI;cases aI
  have eO:(setBlock hP r (.mapIter (some b) clock (seen.push e.born) clock)).heap[b]?=some (.map es clock):=by
   simp[setBlock,z7,Array.getElem?_setIfInBounds,anr,U]
  have p2:e∈es.toList:=by
   unfold leftOf at dV;simp at dV ⊢;exact dV.1
  exact yf _ _ (al6 e dV _ (ZF eu r _) (ZG eu r _) (by simp[setBlock,z7]) j5 eO (run_entry_at (P:=P) _ r b clock seen es clock e j5 eO p2 c1.1))
end
structure y5{eC α:Type}(es:Array MapEntry)(m:List (eC×α))(seen:Array Nat)(p:List Nat):Prop where
 nd:p.Nodup
 sz:seen.size=p.length
 lt:∀i∈p,i<m.length
 on:∀(i:Nat) (e:MapEntry),es[i]?=some e→(seen.contains e.born=true↔i∈p)
variable {I:bG}{es:ia}
def Sn{m:List (Int×Int)}(h:fm I (bM .i64 (c9 .i64) m) es.toList):es.size=m.length∧∀(i:Nat) (e:MapEntry),es[i]?=some e→∃q,m[i]?=some q∧e.key=.int .i64 q.1∧e.val=.int .i64 q.2:=by
 have aJ:∀(m:List (Int×Int)) (l:nc),fm I (bM .i64 (c9 .i64) m) l→l.length=m.length:=by
  intro m;induction m with
  |nil=>intro l h;simp[bM,fm]at h;simp[h]
  |cons p r bu=>
   intro l h;simp only[bM,map_cons,fm]at h;obtain⟨e,gD,rfl,_,_,aZ⟩:=h;simp[bu _ (by simpa [bM]using aZ)]
 have Z:es.size=m.length:=by rw[←aJ m es.toList h,Array.length_toList]
 refine⟨Z,λi e he=>?_⟩;have bS:i<es.size:=(Array.getElem?_eq_some_iff.1 he).1;have hm:m[i]?=some m[i]:=List.getElem?_eq_getElem (by omega);obtain⟨ak,ax⟩:=Gs h (i:=i) (a:=.int .i64 (m[i]'(by omega)).1) (c:=c9 .i64 (m[i]'(by omega)).2) (e:=e) (by simp[bM,hm]) (by simpa using he);exact⟨_,hm,by simpa [bm]using ak,by simpa [bm,c9]using ax⟩
variable {eC α:Type}{p:dI}{seen:pE}
def y5.step{m:List (eC×α)}(h:y5 es m seen p)(Z:es.size=m.length)(c1:(es.toList.map (·.born)).Nodup){e:MapEntry}(he:e∈(leftOf es seen).toList):
  ∃i,es[i]?=some e∧i<m.length∧i∉p∧y5 es m (seen.push e.born) (p++[i])∧p.length<m.length:=by
 unfold leftOf at he;simp only[Array.mem_toList_iff,Array.mem_filter,Bool.not_eq_true']at he;obtain⟨h1,D⟩:=he;obtain⟨i,hi,amT⟩:=Array.mem_iff_getElem.1 h1;have HJ:es[i]?=some e:=by rw[Array.getElem?_eq_getElem hi,amT]
 have mm:i∉p:=λah=>by
  have:=(h.on i e HJ).2 ah;rw[this]at D;cases D
 have ja:(p++[i]).Nodup:=by
  rw[nodup_append];exact⟨h.nd,by simp,λa aA b U hs=>by simp at U;subst U;subst hs;exact mm aA⟩
 have bS:∀j∈p++[i],j<m.length:=λj aY=>by
  rcases List.mem_append.1 aY with aY|aY
  ·exact h.lt j aY
  ·simp at aY;omega
 refine⟨i,HJ,by omega,mm,⟨ja,by rw[Array.size_push,h.sz];simp,bS,λj cC sO=>?_⟩,?_⟩
 ·rw[Array.contains_push,Bool.or_eq_true,h.on j cC sO,List.mem_append,List.mem_singleton];constructor
  ·rintro(b3|b3)
   ·exact .inl b3
   ·right;have Nx:cC.born=e.born:=by simpa using b3
    have aY:j<es.size:=(Array.getElem?_eq_some_iff.1 sO).1;have bw:∀(x:Nat) (y:MapEntry),es[x]?=some y→(es.toList.map (·.born))[x]?=some y.born:=λx y nu=>by simp[nu]
    have dc:=bw j cC sO;have dg:=bw i e HJ;rw[Nx]at dc;obtain⟨q6,dc⟩:=List.getElem?_eq_some_iff.1 dc;obtain⟨ku,dg⟩:=List.getElem?_eq_some_iff.1 dg;exact(getElem_inj c1).1 (dc.trans dg.symm)
  ·rintro(b3|rfl)
   ·exact .inl b3
   ·right;rw[HJ]at sO;cases sO;simp
 ·have ob:(p++[i]).length≤(List.range m.length).length:=Nodup.length_le_of_subset ja (λj aY=>List.mem_range.2 (bS j aY));simp at ob;omega
def y5.done{m:List (eC×α)}(h:y5 es m seen p)(Z:es.size=m.length)(bJ:(leftOf es seen).size=0):(j1 m p).Perm m:=by
 have kH:∀i,i∈p↔i<m.length:=λi=>⟨h.lt i,λbS=>by
  have yo:i<es.size:=by omega
  refine(h.on i es[i] (Array.getElem?_eq_getElem yo)).1 ?_;by_cases ah:seen.contains es[i].born=true
  ·exact ah
  ·exfalso;have:es[i]∈leftOf es seen:=by
    unfold leftOf;rw[Array.mem_filter];exact⟨Array.getElem_mem yo,by simpa using ah⟩
   have:=Array.size_pos_of_mem this;omega⟩
 have:=(JR h.nd kH).filterMap (λi=>m[i]?);have e:=Kc m;unfold j1 at e ⊢
 rwa [e]at this
def P5{m:List (eC×α)}{i:Nat}{q:eC×α}(h:m[i]?=some q):j1 m (p++[i])=j1 m p++[q]:=by
 simp[j1,h]
def Ky{eC α:Type}{m:List (eC×α)}:∀{p:dI},(∀i∈p,i<m.length)→(j1 m p).length=p.length
 |[],_=>rfl
 |i::p,h=>by
  have:=Ky (p:=p) λj aY=>h j (mem_cons_of_mem _ aY);simp only[j1]at this ⊢;rw[filterMap_cons,List.getElem?_eq_getElem (h i mem_cons_self)];simp[this]
set_option maxHeartbeats 2000000 in
def ael(F:Fence)(n:Nat)(eR:F.fn 194)(ch:F.round=none)(aX:1≤n)(l qO qP b clock:Nat)(es:ia)(m:List (Int×Int))(iG:fm I (bM .i64 (c9 .i64) m) es.toList)(c1:km es clock)(J:cO→World→Prop)
  (hZ:∀pre x aU,J pre aU→pre.length<m.length→YieldAt F (n-1) prog l #[.int .i64 x] aU λe W'=>e=.returned (.bool true)∧J (pre++[x]) W'∧KeepsWalks aU W')
  (aU:World) (ho:zw aU.heap.size J) (hm:aU.cell? ⟨qO,qP,none⟩=some (.map (some b))) (U:aU.heap[b]?=some (.map es clock)) (bJ:J [] aU) :
  CallsIn F n prog 194 #[.func (.yield l) #[] #[],.pointer (some ⟨qO,qP,none⟩)] aU λe W'=>(∃v,e=.returned v)∧∃e3:cO,e3.Perm (m.map Prod.fst)∧J e3 W':=by
 obtain⟨k2,Bq⟩:=Sn iG;have rM:b<aU.heap.size:=(Array.getElem?_eq_some_iff.1 U).1;refine callsIn_of_wp func194 rfl eR ?_ ch;simp only[Tryz.ntmps194,size_toArray,length_cons,length_nil,Nat.reduceAdd,Nat.reduceSub,Array.replicate_succ,Array.replicate_zero,push_toArray,append_toArray,nil_append,cons_append]
 gi_wp2_with (first
  |(gi_at_range;refine Ow rfl _ 144 3 3 rfl underlying144 b clock es rfl U ?_)
  |gi_in)
 go_frame
 gi_loopw [3] (λ_ wr=>∃(seen:pE) (p:dI),wr.heap[aU.heap.size]?=some (.mapIter (some b) clock seen clock)∧wr.heap[b]?=some (.map es clock)∧y5 es m seen p∧J ((j1 m p).map Prod.fst) wr)
  (λ_ wr=>match wr.heap[aU.heap.size]? with|some (.mapIter _ _ seen _)=>es.size-seen.size|_=>0)
 case atStart=>
  exact⟨#[],[],World.alloc_heap_new aU _,(Below.heap_alloc aU _ b rM).trans U,⟨nodup_nil,rfl,by simp,by simp⟩,ho [] aU _ none bJ (World.grownBy_alloc aU _ none) (Nat.le_refl _) (λr e=>by cases e)⟩
 case round=>
  obtain⟨seen,p,aI,E1,fo,ye⟩:=hrel
  gi_wp2_with (first
   |(gi_at_next;refine Ou rfl _ rfl b aU.heap.size clock seen es rfl aI E1 c1 ?_ ?_)
   |gi_in)
  ·intro zY
   gi_wp2
   go_end0
   exact⟨⟨_,rfl⟩,_,(fo.done k2 (by rw[zY];rfl)).map _,ye⟩
  ·intro e he iL z2 q0 eg j5 eO Cn;obtain⟨i,dc,dg,gx,mh,B9⟩:=fo.step k2 c1.1 (Array.mem_toList_iff.2 he);obtain⟨q,ak,ax,aO⟩:=Bq i e dc;have jt:J ((j1 m p).map Prod.fst) iL:=ho _ wr iL (some aU.heap.size) ye z2 q0 (λr e=>by cases e;exact⟨Nat.le_refl _,_,aI,rfl⟩);obtain⟨fn,tmps,assign,body,ai,c3⟩:=hZ _ q.1 iL jt (by rw[length_map,Ky fo.lt];exact B9);rw[ax,aO]at Cn ⊢;clear eg
   gi_wp2
   refine c3.mono ?_;rintro dj K6 ⟨rfl,ox,sS⟩
   gi_wp2
   have yw:=sS.same _ _ j5 rfl
   go_roundw
   case rel=>exact⟨_,p++[i],yw,sS.same _ _ eO rfl,mh,by rw[P5 ak,List.map_append];exact ox⟩
   case measure=>
    rw[yw,aI];have:=fo.sz;simp only[Array.size_push];omega
set_option maxHeartbeats 2000000 in
def aem(F:Fence)(n:Nat)(eR:F.fn 193)(ch:F.round=none)(aX:1≤n)(l qO qP b clock:Nat)(es:ia)(m:List (Int×Int))(iG:fm I (bM .i64 (c9 .i64) m) es.toList)(c1:km es clock)(J:cO→World→Prop)
  (hZ:∀pre x aU,J pre aU→pre.length<m.length→YieldAt F (n-1) prog l #[.int .i64 x] aU λe W'=>e=.returned (.bool true)∧J (pre++[x]) W'∧KeepsWalks aU W')
  (aU:World) (ho:zw aU.heap.size J) (hm:aU.cell? ⟨qO,qP,none⟩=some (.map (some b))) (U:aU.heap[b]?=some (.map es clock)) (bJ:J [] aU) :
  CallsIn F n prog 193 #[.func (.yield l) #[] #[],.pointer (some ⟨qO,qP,none⟩)] aU λe W'=>(∃v,e=.returned v)∧∃e3:cO,e3.Perm (m.map Prod.snd)∧J e3 W':=by
 obtain⟨k2,Bq⟩:=Sn iG;have rM:b<aU.heap.size:=(Array.getElem?_eq_some_iff.1 U).1;refine callsIn_of_wp func193 rfl eR ?_ ch;simp only[Tryz.ntmps193,size_toArray,length_cons,length_nil,Nat.reduceAdd,Nat.reduceSub,Array.replicate_succ,Array.replicate_zero,push_toArray,append_toArray,nil_append,cons_append]
 gi_wp2_with (first
  |(gi_at_range;refine Ow rfl _ 144 3 3 rfl underlying144 b clock es rfl U ?_)
  |gi_in)
 go_frame
 gi_loopw [4] (λ_ wr=>∃(seen:pE) (p:dI),wr.heap[aU.heap.size]?=some (.mapIter (some b) clock seen clock)∧wr.heap[b]?=some (.map es clock)∧y5 es m seen p∧J ((j1 m p).map Prod.snd) wr)
  (λ_ wr=>match wr.heap[aU.heap.size]? with|some (.mapIter _ _ seen _)=>es.size-seen.size|_=>0)
 case atStart=>
  exact⟨#[],[],World.alloc_heap_new aU _,(Below.heap_alloc aU _ b rM).trans U,⟨nodup_nil,rfl,by simp,by simp⟩,ho [] aU _ none bJ (World.grownBy_alloc aU _ none) (Nat.le_refl _) (λr e=>by cases e)⟩
 case round=>
  obtain⟨seen,p,aI,E1,fo,ye⟩:=hrel
  gi_wp2_with (first
   |(gi_at_next;refine Ou rfl _ rfl b aU.heap.size clock seen es rfl aI E1 c1 ?_ ?_)
   |gi_in)
  ·intro zY
   gi_wp2
   go_end0
   exact⟨⟨_,rfl⟩,_,(fo.done k2 (by rw[zY];rfl)).map _,ye⟩
  ·intro e he iL z2 q0 eg j5 eO Cn;obtain⟨i,dc,dg,gx,mh,B9⟩:=fo.step k2 c1.1 (Array.mem_toList_iff.2 he);obtain⟨q,ak,ax,aO⟩:=Bq i e dc;have jt:J ((j1 m p).map Prod.snd) iL:=ho _ wr iL (some aU.heap.size) ye z2 q0 (λr e=>by cases e;exact⟨Nat.le_refl _,_,aI,rfl⟩);obtain⟨fn,tmps,assign,body,ai,c3⟩:=hZ _ q.2 iL jt (by rw[length_map,Ky fo.lt];exact B9);rw[ax,aO]at Cn ⊢;clear eg
   gi_wp2
   refine c3.mono ?_;rintro dj K6 ⟨rfl,ox,sS⟩
   gi_wp2
   have yw:=sS.same _ _ j5 rfl
   go_roundw
   case rel=>exact⟨_,p++[i],yw,sS.same _ _ eO rfl,mh,by rw[P5 ak,List.map_append];exact ox⟩
   case measure=>
    rw[yw,aI];have:=fo.sz;simp only[Array.size_push];omega
end
section
set_option linter.all false
open Go Go.Proofs.Tryz Go.RowKit Go.Shelf List
attribute [local go_sem] Oper.semAt_some
set_option maxRecDepth 100000
variable {F:Fence}{P:Program}{Q:Exit→Act→World→Prop}{a:Act}{w:World}
def Ra{n:Nat}{α:Type}{g:Operand}{ps:Array Tmp}{assign body:Code}
  (ch:F.round=none) (h1:1≤n) {gf:Nat} {lb:jc} (bw:a.eval g=.func (.func gf) #[] lb) (EV:F.fn gf) (EK:∀args w,(callFunc gf args).run P w=.ok (.enter gf args) w)
  {encs:α→jc} (N:Nat) (S:List α→Prop) (Cv:∀x,(encs x).size=ps.size) (I:List α→World→Prop)
  (hs:∀s aU W' row,I s aU→aU.grownBy W' row→aU.drawn≤W'.drawn→(∀r,row=some r→w.heap.size≤r∧∃o:Obj,aU.heap[r]?=some o∧o.isCells=false)→I s W') (bJ:I [] w)
  (Ff:∀(l:Nat) (J:List α→World→Prop) (aU:World),Below w.heap.size w aU→zw aU.heap.size J→(∀pre x ng,J pre ng→pre.length<N→YieldAt F (n-1-1) P l (encs x) ng λe W'=>e=.returned (.bool true)∧J (pre++[x]) W'∧KeepsWalks ng W')→J [] aU→
   CallsIn F (n-1) P gf (#[.func (.yield l) #[] #[]]++lb) aU λe W'=>(∃v,e=.returned v)∧∃full,S full∧J full W')
  (A:List α→α→Act→World→Prop) (akh:∀pre x gW aU l o hT,w.heap.size≤l→A pre x gW aU→aU.heap[l]?=some o→o.isCells=false→A pre x gW (aU.putObj l hT))
  (amk:∀(l:Nat) (pre:List α) (x:α) (aU:World) (K:Act→World→Prop),I pre aU→(∀gW kW,A pre x gW kW→Below aU.heap.size aU kW→K gW kW)→
   assign.wpIn (F.inRound l) (n-1-1) P (Exit.then K (λ_ _ _=>False)) {tmps:=(ps.zip (encs x)).foldl (λt (p,v)=>t.setIfInBounds p v) a.tmps,defers:=[]} aU)
  (amq:∀(l:Nat) (pre:List α) (x:α) (gW:Act) (aU:World),pre.length<N→A pre x gW aU→body.wpIn (F.inRound l) (n-1-1) P (λe _ W'=>match e with
   |.normal=>(∀k o,w.heap.size≤k→k<w.heap.size+2→aU.heap[k]?=some o→o.isCells=false→W'.heap[k]?=some o)∧I (pre++[x]) W'∧KeepsWalks aU W'|_=>False) gW aU)
  (amA:∀(full:List α) (dD:Nat) (aU:World),S full→w.heap.size≤dD→I full aU→aU.heap[dD]?=some (.deferred (some []))→Q .normal {a with defers:={target:=.collected dD,args:=#[]}::a.defers} aU) :
  (Code.rangeFunc g ps assign body).wpIn F n P Q a w:=by
 refine wpIn_rangeFunc λfn NA=>?_;rw[ch];obtain⟨zn,zo⟩:∃r:LoopState→Option Code→Loop,r=λst aoy=>{state:=st,pending:=aoy,fn,tmps:=a.tmps,params:=ps,assign,body,defers:=w.heap.size}:=⟨_,rfl⟩;obtain⟨ng,Ci⟩:∃ng,(w.alloc (.deferred (some []))).alloc (.loop (zn .ready none))=ng:=⟨_,rfl⟩;have al4:ng.heap[w.heap.size+1]?=some (.loop (zn .ready none)):=by
  rw[←Ci];have:=World.alloc_heap_new (w.alloc (.deferred (some []))) (.loop (zn .ready none));rwa [World.size_alloc]at this
 have gL:ng.heap[w.heap.size]?=some (.deferred (some [])):=by
  rw[←Ci];exact(Below.heap_alloc _ _ _ (by simp)).trans (World.alloc_heap_new w _)
 have gK:Below w.heap.size w ng:=by rw[←Ci];exact((Below.refl _ w).alloc (Nat.le_refl _) _).alloc (by simp) _
 have uM:∀s aU o,I s aU→I s (aU.alloc o):=λs aU o h=>hs s aU _ none h (World.grownBy_alloc aU o none) (Nat.le_refl _) (λr e=>by cases e);have amL:∀(aU:World) (l:Nat) (o:Obj),aU.grownBy (aU.putObj l o) (some l):=λaU l o=>⟨rfl,rfl,rfl,by rw[World.putObj_size];exact Nat.le_refl _,λk _ hk=>World.putObj_heap_other (λe=>hk (by rw[e]))⟩;have yu:∀s aU l o hT,w.heap.size≤l→I s aU→aU.heap[l]?=some o→o.isCells=false→I s (aU.putObj l hT):=λs aU l o hT aJ h hf an=>hs s aU _ (some l) h (amL aU l hT) (Nat.le_refl _) (λr e=>by cases e;exact⟨aJ,o,hf,an⟩);have al2:I [] ng:=by rw[←Ci];exact uM _ _ _ (uM _ _ _ bJ)
 have fc:ng.heap.size=w.heap.size+2:=by rw[←Ci];simp
 refine⟨w.heap.size+1,[{target:=.collected w.heap.size,args:=#[]}],ng,{target:=.fn (.func gf) lb,args:=#[.func (.yield (w.heap.size+1)) #[] #[]]},ng,gf,
  #[.func (.yield (w.heap.size+1)) #[] #[]]++lb,ng,?_,?_,?_,?_,λ_=>h1,?_⟩
 ·rw[←Ci,zo];exact run_enterLoop_outer _ _ _ _ _
 ·simp only[resolve,bw];simp[go_sem]
 ·intro rK Xf;simp[Target.leads]at Xf;subst Xf;exact EV
 ·simp[invoke,go_sem,EK]
 ·refine(Ff (w.heap.size+1) (λpre aU=>I pre aU∧aU.heap[w.heap.size+1]?=some (.loop (zn .ready none))∧aU.heap[w.heap.size]?=some (.deferred (some []))) ng gK ?_ ?_ ⟨al2,al4,gL⟩).mono ?_
  ·rintro s aU W' row ⟨hi,aJ,hk⟩ bw af aI;have oz:∀r,row=some r→∃o:Obj,aU.heap[r]?=some o∧o.isWalk=true:=λr e=>(aI r e).2;refine⟨hs s aU W' row hi bw af λr e=>?_,(grownBy_keeps bw oz aJ rfl).trans aJ,(grownBy_keeps bw oz hk rfl).trans hk⟩;obtain⟨ak,o,ax,aO⟩:=aI r e;exact⟨by omega,o,ax,by cases o<;>simp[Obj.isWalk]at aO<;>rfl⟩
  ·rintro pre x aU ⟨hi,aJ,hk⟩ eH;have bS:w.heap.size+1<aU.heap.size:=(Array.getElem?_eq_some_iff.1 aJ).1;have ai:=run_yield (P:=P) (args:=encs x) aJ (by rw[zo];exact Cv x);rw[zo]at ai;refine⟨fn,_,assign,body,ai,roundIn_of_wpIn NA (amk _ pre x aU _ hi λgW kW vH sM=>?_)⟩;have IB:=(sM.block _ bS).trans aJ;have amZ:=(sM.block _ (Array.getElem?_eq_some_iff.1 hk).1).trans hk;have am8:w.heap.size+1<kW.heap.size:=(Array.getElem?_eq_some_iff.1 IB).1;have am3:KeepsWalks aU kW:=⟨sM.size,λk o hk an=>(sM.block _ (Array.getElem?_eq_some_iff.1 hk).1).trans hk⟩;refine⟨_,run_beginRound IB (by rw[zo]),?_⟩;have jE:(kW.putObj (w.heap.size+1) (.loop {zn .ready none with state:=.busy})).heap[w.heap.size+1]?=some (.loop {zn .ready none with state:=.busy}):=World.putObj_heap_same am8;have ym:(kW.putObj (w.heap.size+1) (.loop {zn .ready none with state:=.busy})).heap[w.heap.size]?=some (.deferred (some [])):=(World.putObj_heap_other (by omega)).trans amZ;have am2:=am3.trans (KeepsWalks.putObj (.loop {zn .ready none with state:=.busy}) IB rfl);refine wpIn_mono (amq _ pre x gW _ eH (akh _ _ _ _ _ _ _ (by omega) vH IB rfl)) ?_;rintro e a3 K6 aF;cases e with
   |normal=>
    obtain⟨sS,amS,anG⟩:=aF;have np:=sS _ _ (by omega) (by omega) jE rfl;have aI:=run_endRound (P:=P) none np;rw[zo]at aI;refine⟨_,_,aI,rfl,⟨yu _ _ _ _ _ (by omega) amS np rfl,?_,(World.putObj_heap_other (by omega)).trans (sS _ _ (Nat.le_refl _) (by omega) ym rfl)⟩,(am2.trans anG).trans (KeepsWalks.putObj _ np rfl)⟩;rw[zo];exact World.putObj_heap_same (Array.getElem?_eq_some_iff.1 np).1
   |_=>exact aF.elim
  ·rintro e aso ⟨⟨v,rfl⟩,full,fo,hi,aJ,hk⟩;exact⟨none,_,by have:=run_endLoop (P:=P) aJ (by rw[zo];simp);rw[zo]at this;exact this,amA _ _ _ fo (Nat.le_refl _) (yu _ _ _ _ _ (by omega) hi aJ rfl) ((World.putObj_heap_other (by omega)).trans hk)⟩
variable {E T:Nat}
def acV(aT:kO P T E 1 8)(w:World)(ty fE:Nat)(v:Value)(xs:dQ)(pG:w.ownsRow fE E 1 v xs.length xs)(ad:Addr)(c:Nat)(aR:Value)(hu:w.cell? ad=some aR)(ES:aR.oneCell'=true)(dY:(xs.length+1)*8≤140737488355328)(hb:fE≤w.heap.size):
  ∃dM w',(Builtin.append_ #[T,T] ty #[v,.slice (some ad) 1 c]).run P w=.ok dM w'∧w'.ownsRow fE E 1 dM (xs.length+1) (xs++[aR])∧w.grownBy w' v.ownBlock∧w.drawn≤w'.drawn:=by
 obtain⟨i,z,hB,ji,hN,nv,tT⟩:=aT.info
 have kr:∀j x,[aR][j]?=some x→w.cell? (ad.add j)=some x:=λj x u=>by
  cases j with
  |zero=>simp at u;subst u;exact hu
  |succ j=>simp at u
 have nr:∀x∈[aR],x.oneCell'=true:=λx u=>by rw[List.mem_singleton.1 u];exact ES
 have hm:xs.length+1≤maxLen:=by simp only[maxLen];omega
 obtain⟨dM,w',eV,hw,ha,mJ⟩:=run_append_own (P:=P) w fE T ty E i z 1 8 aT.gT hB ji hN nv tT (by decide) v xs.length xs pG ad 1 c [aR] rfl kr nr hm dY hb;refine⟨dM,w',eV,hw,ha,?_⟩;rcases pG.2 with⟨rfl,bJ⟩|⟨g,aV,ov,rfl,_,bw,Xu,vG,qw,aki⟩
 ·have:=run_append_nil (P:=P) w T ty E i z aT.gT hB ji ad 1 c [aR] (by rw[hN];rfl) kr (by omega) (by omega) (by rw[nv];omega);rw[eV]at this;cases this;exact Nat.le_succ _
 ·by_cases oA:xs.length+1≤aV
  ·have:=run_append_room (P:=P) w T ty E i aT.gT hB g xs.length aV ov bw ad 1 c [aR] (by rw[hN];rfl) kr nr oA (by rw[hN,Nat.mul_one,qw,Nat.mul_one];exact oA);rw[eV]at this;cases this;exact Nat.le_refl _
  ·have qz:(ov.toList.take xs.length).length=xs.length:=by rw[length_take];simp;omega
   have holds:∀j x,(ov.toList.take xs.length)[j]?=some x→w.cell? ((⟨g,0,none⟩:Addr).add j)=some x:=λj x aa=>by
    rw[mx];rw[getElem?_take]at aa;split at aa
    ·simp only[World.cell?,bw,Nat.zero_add];simpa using aa
    ·cases aa
   have:=run_append_grow (P:=P) w T ty E i z aT.gT hB ji ⟨g,0,none⟩ xs.length aV _ (by rw[hN,Nat.mul_one];exact qz) holds ad 1 c [aR] (by rw[hN];rfl) kr (by omega) (by simp only[maxLen]at hm;omega) (growslice_fits (by omega) (by rw[nv];exact dY));rw[eV]at this;cases this;exact Nat.le_succ _
def aq7{n:Nat}{ops:mg}{o:Oper}{iT:List Oper}(aT:kO P T E 1 8)(bw:o.guard=none)(s x:Operand)(hop:o.op=Op.call {callee:=Callee.builtin Builtin.append,args:=#[s,x],argTypes:=#[T,T]})
  (fE:Nat) (v:Value) (xs:dQ) (Z:a.eval s=v) (pG:w.ownsRow fE E 1 v xs.length xs) (ad:Addr) (c:Nat) (aR:Value) (u:a.eval x=.slice (some ad) 1 c) (hu:w.cell? ad=some aR) (ES:aR.oneCell'=true) (dY:(xs.length+1)*8≤140737488355328) (hb:fE≤w.heap.size)
  (g4:∀dM w',w'.ownsRow fE E 1 dM (xs.length+1) (xs++[aR])→w.grownBy w' v.ownBlock→w.drawn≤w'.drawn→wpListIn F n P ops Q iT (a.put o.dst dM) w'):wpListIn F n P ops Q (o::iT) a w:=by
 refine wpListIn_plain bw λK yf=>?_;obtain⟨dM,w',eV,hw,ha,mJ⟩:=acV aT w o.type fE v xs pG ad c aR hu ES dY hb;unfold Oper.wpIn;refine⟨?_,?_⟩
 ·simp[Oper.about,hop,resolve,Target.leads,Sem.run_pure]
 ·rw[Oper.semAt_plain F _ _ (by rw[hop];intro c gh;cases gh)];simp[execOp,hop,resolve,invoke,builtin,Z,u,eV,Result.andThen];exact yf _ _ (g4 dM w' hw ha mJ)
def yN{aU W':World}{fE e k:Nat}{v:Value}{n:Nat}{xs:dQ}{row:j4}(h:aU.ownsRow fE e k v n xs)(bw:aU.grownBy W' row)(aI:∀r,row=some r→∃o:Obj,aU.heap[r]?=some o∧∀c,o≠.cells c e (0,0)):W'.ownsRow fE e k v n xs:=by
 refine⟨h.1,?_⟩;rcases h.2 with q|⟨g,aV,ov,h1,D,aq,aZ⟩
 ·exact .inl q
 ·refine .inr ⟨g,aV,ov,h1,D,(bw.block g (Array.getElem?_eq_some_iff.1 aq).1 λcC=>?_).trans aq,aZ⟩;obtain⟨o,ak,ax⟩:=aI g cC.symm;rw[aq]at ak;exact ax ov (Option.some.inj ak).symm
def MO(x:Int):jc:=#[.int .i64 x]
structure Ey(w:World)(pre:List Int)(aU:World):Prop where
 below:Below w.heap.size w aU
 drawn:w.drawn≤aU.drawn
 box:∃v,aU.heap[w.heap.size]?=some (.cells #[v] 22 (0,0))∧aU.ownsRow (w.heap.size+1) 3 1 v (pre.map (Value.int .i64)).length (pre.map (Value.int .i64))
set_option maxHeartbeats 4000000 in
def acW(F:Fence)(n:Nat)(bV:F.fn 234)(ch:F.round=none)(aX:3≤n)(g:Nat)(lb:jc)(EV:F.fn g)(EK:∀args w,(callFunc g args).run prog w=.ok (.enter g args) w)(N:Nat)(sI:N*8≤140737488355328)(S:cO→Prop)(w:World)
    (Ff:∀(l:Nat) (J:cO→World→Prop) (aU:World),Below w.heap.size w aU→zw aU.heap.size J→(∀pre x ng,J pre ng→pre.length<N→YieldAt F (n-1-1) prog l (MO x) ng λe W'=>e=.returned (.bool true)∧J (pre++[x]) W'∧KeepsWalks ng W')→J [] aU→
      CallsIn F (n-1) prog g (#[.func (.yield l) #[] #[]]++lb) aU λe W'=>(∃v,e=.returned v)∧∃full,S full∧J full W') :
    CallsIn F n prog 234 #[.slice none 0 0,.func (.func g) #[] lb] w λe W'=>∃v e3,e=.returned v∧S e3∧W'.ownsRow (w.heap.size+1) 3 1 v e3.length (e3.map (Value.int .i64))∧Below w.heap.size w W'∧w.drawn≤W'.drawn:=by
  have h1:1≤n:=by omega
  refine callsIn_of_wp_marks func234 rfl bV ?_ ch;simp only[Tryz.ntmps234,size_toArray,length_cons,length_nil,Nat.reduceAdd,Nat.reduceSub,Array.replicate_succ,Array.replicate_zero,push_toArray,append_toArray,nil_append,cons_append]
  gi_wp2
  have sL:(w.alloc (Obj.cells #[Value.slice none 0 0] 22)).heap[w.heap.size]?=some (.cells #[Value.slice none 0 0] 22 (0,0)):=World.alloc_heap_new w _;have zU:Ey w [] (w.alloc (Obj.cells #[Value.slice none 0 0] 22)):=⟨(Below.refl _ w).alloc (Nat.le_refl _) _,Nat.le_refl _,_,sL,rfl,.inl ⟨rfl,rfl⟩⟩;have k2:(w.alloc (Obj.cells #[Value.slice none 0 0] 22)).heap.size=w.heap.size+1:=by simp
  generalize w.alloc (Obj.cells #[Value.slice none 0 0] 22)=hP at zU k2 ⊢;clear sL
  have hs:∀(s:cO) (aU W':World) (row:j4),Ey w s aU→aU.grownBy W' row→aU.drawn≤W'.drawn→(∀r,row=some r→hP.heap.size≤r∧∃o:Obj,aU.heap[r]?=some o∧o.isCells=false)→Ey w s W':=λs aU W' row h bw af aI=>by
    obtain⟨v,ak,ax⟩:=h.box;refine⟨h.below.grown bw h.below.size λk e=>by have:=(aI k e).1;omega,Nat.le_trans h.drawn af,v,(bw.block _ (Array.getElem?_eq_some_iff.1 ak).1 λe=>by have:=(aI _ e.symm).1;omega).trans ak,yN ax bw λr e=>?_⟩;obtain⟨_,o,aO,aL⟩:=aI r e;exact⟨o,aO,λc cC=>by rw[cC]at aL;cases aL⟩
  refine Ra ch h1 (gf:=g) (lb:=lb) rfl EV EK (encs:=MO) N S (λ_=>rfl) (Ey w) hs zU (λl J aU lP ho hZ zV=>Ff l J aU ?below ho hZ zV)
    (λpre x gW aU=>Ey w pre aU∧gW={tmps:=#[.slice none 0 0,.func (.func g) #[] lb,.pointer (some ⟨w.heap.size,0,none⟩),undef,.slice none 0 0,.int .i64 x,.func (.func g) #[] lb,.int .i64 x,undef,undef,undef,undef,undef],defers:=[]}) ?MP ?assign ?body ?done
  case below=>exact zU.below.trans (lP.mono (by omega))
  case MP=>
    rintro pre x gW aU l o hT aJ ⟨hi,rfl⟩ an IE;exact⟨hs _ _ _ (some l) hi (grownBy_putObj' aU l hT) (Nat.le_refl _) (λr e=>by cases e;exact⟨aJ,o,an,IE⟩),rfl⟩
  case assign=>
    rintro l pre x aU K ef g4;simp only[MO]
    gi_wp2
    exact g4 _ _ ⟨ef,rfl⟩ (Below.refl _ aU)
  case body=>
    rintro l pre x gW aU eH ⟨ef,rfl⟩;obtain⟨v,ak,ax⟩:=ef.box;have rM:w.heap.size<aU.heap.size:=(Array.getElem?_eq_some_iff.1 ak).1;have kX:aU.cell? ⟨w.heap.size,0,none⟩=some v:=by simp[World.cell?,ak]
    have bP:(aU.alloc (.cells #[.int .i64 x] 3)).ownsRow (w.heap.size+1) 3 1 v (pre.map (Value.int .i64)).length (pre.map (Value.int .i64)):=yN ax (World.grownBy_alloc aU _ none) λr e=>by cases e
    have Nq:(aU.alloc (.cells #[.int .i64 x] 3)).cell? ⟨aU.heap.size,0,none⟩=some (.int .i64 x):=by
      have:=World.alloc_heap_new aU (.cells #[.int .i64 x] 3);simp only[World.cell?];rw[this];rfl
    gi_wp2_with (first
      |(gi_at_builtin;refine aq7 HD rfl _ _ rfl (w.heap.size+1) v (pre.map (Value.int .i64)) rfl bP ⟨aU.heap.size,0,none⟩ 1 (.int .i64 x) rfl Nq rfl (by rw[length_map];omega) (by simp;omega) ?_;intro dM me Fc z6 Ns
        obtain⟨hY,nh,rfl⟩:∃hY nh,dM=.slice (some ⟨hY,0,none⟩) ((pre.map (Value.int .i64)).length+1) nh:=by
           rcases Fc.2 with⟨_,bJ⟩|⟨hY,nh,_,b3,_⟩
           · exact absurd bJ (by omega)
           · exact⟨hY,nh,b3⟩
        have qZ:∀(k:Nat) (o:Obj),aU.heap[k]?=some o→(∀c,o≠.cells c 3 (0,0))→me.heap[k]?=some o:=λk o hk an=>by
           have uQ:=(Below.heap_alloc aU (.cells #[.int .i64 x] 3) k (Array.getElem?_eq_some_iff.1 hk).1).trans hk;refine(z6.block k (Array.getElem?_eq_some_iff.1 uQ).1 λe=>?_).trans uQ;rcases bP.2 with⟨b3,_⟩|⟨hY,nh,EI,b3,_,ER,_⟩
           · rw[b3]at e;cases e
           · rw[b3]at e;cases e
             rw[ER]at uQ;exact an EI (Option.some.inj uQ).symm
        have w2:me.heap[w.heap.size]?=some (.cells #[v] 22 (0,0)):=qZ _ _ ak λc e=>by cases e
        have ams:me.cell? ⟨w.heap.size,0,none⟩=some v:=by simp[World.cell?,w2]
        have amH:me.frozen? ⟨w.heap.size,0,none⟩=false:=by simp[World.frozen?,w2]
        go_frame)
      |gi_in)
    have p0:Below w.heap.size w me:=(ef.below.alloc (by omega) (.cells #[.int .i64 x] 3)).grown z6 (by have:=ef.below.size;simp;omega) λk e=>by
      rcases bP.2 with⟨b3,_⟩|⟨hY,nh,EI,b3,ER,_⟩
      · rw[b3]at e;cases e
      · rw[b3]at e;cases e;simp only;omega
    have wZ:aU.heap.size≤me.heap.size:=by have:=z6.size;simp at this;omega
    refine⟨λk o uQ ym hk an=>(heap_setCell_other me _ k _ (by simp only;omega)).trans (qZ k o hk λc e=>by rw[e]at an;cases an),⟨p0.grown (grownBy_setCell' me _ _) p0.size λk e=>by cases e;exact Nat.le_refl _,Nat.le_trans ef.drawn Ns,_,heap_setCell_same me w.heap.size 0 #[v] _ _ w2,?_⟩,(show KeepsWalks aU me from⟨wZ,λk o hk an=>qZ k o hk λc e=>by rw[e]at an;cases an⟩).trans (KeepsWalks.setCell me _ _)⟩;have:=yN Fc (grownBy_setCell' me w.heap.size (.slice (some ⟨hY,0,none⟩) ((pre.map (Value.int .i64)).length+1) nh)) λr e=>by cases e;exact⟨_,w2,λc e=>by cases e⟩
    simpa using this
  case done=>
    rintro full dD aU fo fs ef zS;obtain⟨v,ak,ax⟩:=ef.box;have kX:aU.cell? ⟨w.heap.size,0,none⟩=some v:=by simp[World.cell?,ak]
    gi_wp2
    refine⟨by simp,.inl ⟨_,_,rfl,run_takeDeferred zS,?_⟩⟩;have EW:=hs _ _ _ (some dD) ef (grownBy_putObj' aU dD (.deferred none)) (Nat.le_refl _) λr e=>by cases e;exact⟨fs,_,zS,rfl⟩
    have bP:=yN ax (grownBy_putObj' aU dD (.deferred none)) λr e=>by cases e;exact⟨_,zS,λc e=>by cases e⟩
    exact⟨_,results_tmp rfl _ _ _,v,full,rfl,fo,by simpa using bP,EW.below,EW.drawn⟩
end
section
set_option linter.all false
open Go Go.Proofs.Tryz Go.RowKit Go.Shelf List
def Rb(f:Nat)(vZ:Int×Int→Int)(Bq:∀args w,(callFunc f args).run prog w=.ok (.enter f args) w)
  (mz:∀(l qO qP b clock:Nat) (es:ia) (m:List (Int×Int)) (I:bG),fm I (bM .i64 (c9 .i64) m) es.toList→km es clock→∀J:cO→World→Prop,
   (∀pre x aU,J pre aU→pre.length<m.length→YieldAt Fence.wide 1 prog l #[.int .i64 x] aU λe W'=>e=.returned (.bool true)∧J (pre++[x]) W'∧KeepsWalks aU W')→∀aU:World,zw aU.heap.size J→aU.cell? ⟨qO,qP,none⟩=some (.map (some b))→aU.heap[b]?=some (.map es clock)→J [] aU→
   CallsIn Fence.wide 2 prog f #[.func (.yield l) #[] #[],.pointer (some ⟨qO,qP,none⟩)] aU λe W'=>(∃v,e=.returned v)∧∃e3:cO,e3.Perm (m.map vZ)∧J e3 W')
  (m:List (Int×Int)) (eH:m.length*8≤140737488355328) (d:Nat):eT prog 234 [] [.c6,od f m] (λa aH=>∃e3:cO,e3.Perm (m.map vZ)∧a=.own d∧aH=[(d,.slice 3 1 (ar aB e3) 0 false)]):=by
 intro cx w I β vs av aI;simp only[b8,aC,od,bm,ds]at aI;obtain⟨YA,aqu,rfl,rfl,h0,aqv,rfl,⟨Pn,rfl,aR,us,aK,⟨b,o,rfl,i4⟩,rfl⟩,rfl⟩:=aI;have:Pn=#[.pointer (some ⟨b,o,none⟩)]:=Array.toList_inj.1 (by simpa using aK);subst this;simp only[l1,bm]at i4;obtain⟨⟨aR,ef,r,es,clock,rfl,sH,iG,c1⟩,-⟩:=i4;have oS:=av.good _ _ _ ef;obtain⟨hA,lY,E9,NL⟩:=av.iB _ _ sH;obtain⟨rfl,rfl⟩:=CY NL;have yx:r<w.heap.size:=(Array.getElem?_eq_some_iff.1 E9).1;refine Calls.mono (callsIn_wide.1 (acW Fence.wide 3 trivial rfl (Nat.le_refl _) f #[.pointer (some ⟨b,o,none⟩)] trivial Bq m.length eH (λe3=>e3.Perm (m.map vZ)) w λl J aU lP ho hZ zV=>?_)) ?_
 ·exact mz l b o r clock es m I iG c1 J hZ aU ho ((lP.cell (p:=⟨b,o,none⟩) (World.block_lt_of_cell? w _ oS)).trans oS) ((lP.block r yx).trans E9) zV
 ·rintro e w' ⟨v,e3,rfl,fo,pG,U,af⟩;have fM:∀k,w.heap.size≤k→∀o,I k o=none:=λk hk=>av.jG hk;have aa:=av.qJ (eM:=[d]) (σ2:=[]) (env:=[]) ⟨λ_ _=>rfl,by simp[ag.ids],rfl,rfl,λx u cW n h=>by simp[ag.get]at h⟩
  have fin:∀g,w.heap.size≤g→i1 v=true→(cb v=some g∨dA v=[])→bb cx I (hy (gY β [d]) d v) w' d (.slice 3 1 (ar aB e3) 0 false)→
    ∃dM,Ending.returned v=Ending.returned dM∧∃r aH bq β',(∃e3:cO,e3.Perm (m.map vZ)∧r=W.own d∧aH=[(d,cE.slice 3 1 (ar aB e3) 0 false)])∧aC bq β' r dM∧cz ⟨prog,0,ag.ids []⟩ cx bq β' aH w':=λg bw jh rM cG=>by
   refine⟨_,rfl,.own d,_,I,hy (gY β [d]) d v,⟨e3,fo,rfl,rfl⟩,by simp[aC,gX,jh],?_⟩
   refine aa.turn (d:=d) (b:=g) ⟨λk hk bS=>U.block k bS,U.size,U.tape,U.os,U.output,af⟩ (.inl (Nat.le_trans av.size bw)) (λx u=>by rw[avA,if_neg (Ne.symm u)]) (λx u Z e=>by simp[ag.get]at Z) (cV.refl I) (λ_ _ _=>rfl)
    (λo v aa=>by rw[fM g bw]at aa;cases aa) (fM g bw none) (λx u=>iu _ _ u) (.inl (by simp[ag.ids])) (avY (by simp[gY])) (by rw[gX];exact rM) λbc mD=>?_
   rw[avA,if_pos rfl]at mD;cases mD;exact cG
  rcases pG.2 with⟨rfl,bJ⟩|⟨g,aV,ov,rfl,bw,NC,h1,D,aq,aZ⟩
  ·have:e3=[]:=eq_nil_of_length_eq_zero bJ;subst this;exact fin w.heap.size (Nat.le_refl _) rfl (.inr rfl) (by simp[bb,gX,ar])
  ·refine fin g (by omega) rfl (.inl rfl) ?_;simp only[bb,gX];have vK:(ar aB e3).length=e3.length:=by simp[ar]
   rw[vK];refine .inr (.inr ⟨g,aV,ov,rfl,h1,D,NC,by simpa using aq,?_,?_,by omega,?_,?_,.inl (by have:=av.size;omega)⟩)
   ·rw[aZ];exact(AM _ _).2 rfl
   ·intro e he;obtain⟨x,_,rfl⟩:=List.mem_map.1 he;rfl
   ·intro h;cases h
   ·intro o _;exact fM g (by omega) o
def ag6(m:List (Int×Int))(eH:m.length*8≤140737488355328)(d:Nat):eT prog 234 [] [.c6,od 194 m] (λa aH=>∃e3:cO,e3.Perm (m.map Prod.fst)∧a=.own d∧aH=[(d,.slice 3 1 (ar aB e3) 0 false)]):=
 Rb 194 Prod.fst (enters_of func194 (by kernel_rfl) rfl) (λl qO qP b clock es m I iG c1 J hZ aU ho hm U bJ=>ael Fence.wide 2 trivial rfl (by decide) l qO qP b clock es m iG c1 J hZ aU ho hm U bJ) m eH d
def ag7(m:List (Int×Int))(eH:m.length*8≤140737488355328)(d:Nat):eT prog 234 [] [.c6,od 193 m] (λa aH=>∃e3:cO,e3.Perm (m.map Prod.snd)∧a=.own d∧aH=[(d,.slice 3 1 (ar aB e3) 0 false)]):=
 Rb 193 Prod.snd (enters_of func193 (by kernel_rfl) rfl) (λl qO qP b clock es m I iG c1 J hZ aU ho hm U bJ=>aem Fence.wide 2 trivial rfl (by decide) l qO qP b clock es m iG c1 J hZ aU ho hm U bJ) m eH d
def mP.same{σ:ag}:∀l:List W,mP σ l l
 |[]=>.nil
 |x::r=>.cons (.refl x) (mP.same r)
def awk{P:Program}{N:Nat}{ids:dI}{env:au}{σ dG:ag}{o:Oper}{c:Call}{f:FuncId}{dX:List W}{iA:W→ag→Prop}(news:dI)(an:o.op=.call c)(aA:xE env c=some (f,dX))(qu:σ.at dG.ids=some dG)
  (ec:news.all (λd=>!ids.contains d&&(σ.get d).isNone)=true) (dY:(σ.minus dG.ids).clean news.contains=true) (kI:∀r σ2,iA r σ2→r.refs (λd=>!(dG.ids++news).contains d)=false∧σ2.clean (λd=>!(dG.ids++news).contains d)=true) (cp:eT P f dG dX iA) (ah:c0 P f) :
  i2 ⟨P,N,ids⟩ o env.ev σ (dG.ids++news) news (λr aH=>∃σ2,iA r σ2∧aH=σ2++σ.minus dG.ids):=by
 obtain⟨hS,args,k,aV,ps,rfl,bA,aF,rfl⟩:=C6 aA;exact awq (G:=⟨P,N,ids⟩) (σ:=σ) news an bA ah.h cp aF (mP.same _) (avU qu).1 ec dY kI
variable {f:Nat}{m:List (Int×Int)}
def Z9{S:cO→Prop}(h:eT prog 234 [] [.c6,od f m] (λa aH=>∃e3:cO,S e3∧a=.own 910000000∧aH=[(910000000,.slice 3 1 (ar aB e3) 0 false)])):
  eT prog 192 [] [od f m] (λa aH=>∃e3:cO,S e3∧a=.own 910000000∧aH=[(910000000,.slice 3 1 (ar aB e3) 0 false)]):=by
 refine dN func192 rfl rfl ?_;refine avB bN [] [] [(0,od f m)] [] (by kernel_rfl) ?_;refine A.seq ?_;refine av5 bN 1 [2] [] [(3,od f m),(0,od f m)] [] (by kernel_rfl) (by kernel_rfl) (by kernel_rfl) rfl rfl (awk (dG:=[]) [910000000] rfl rfl rfl rfl rfl ?_ h akJ) rfl rfl ?_
 ·rintro r σ2 ⟨e3,h1,rfl,rfl⟩;simp[W.refs,ag.clean,n2]
 rintro b9 aH ⟨σ2,⟨e3,h1,rfl,rfl⟩,rfl⟩;refine⟨[],_,_,rfl,?_⟩;show aP _ _ _ _ _;refine A.ret ?_;refine qc.mono (avC bN [] (R:=.own 910000000) (σ2:=[(910000000,.slice 3 1 (ar aB e3) 0 false)]) rfl (by kernel_rfl)) ?_;rintro a s ⟨rfl,rfl⟩;exact⟨e3,h1,rfl,rfl⟩
def Qv{vZ:Int×Int→Int}{d:Nat}(hm:m.length≤100000)(h:eT prog 234 [] [.c6,od f m] (λa aH=>∃e3:cO,e3.Perm (m.map vZ)∧a=.own 910000000∧aH=[(910000000,.slice 3 1 (ar aB e3) 0 false)])):
  eT prog 167 [] [od f m] (λa aH=>a=.own d∧aH=[(d,.slice 3 1 (ar aB (fW (m.map vZ))) 0 false)]):=by
 refine pl.at [(910000000,d)] (iW:=[]) (args:=[od f m]) (r:=.own 910000000) (σ2:=[(910000000,.slice 3 1 (ar aB (fW (m.map vZ))) 0 false)]) ?_;refine dN func167 rfl rfl ?_;refine avB bN [] [] [(0,od f m)] [] (by kernel_rfl) ?_;refine A.seq ?_;refine av5 bN 1 [2] [] [(4,od f m),(0,od f m)] [] (by kernel_rfl) (by kernel_rfl) (by kernel_rfl) rfl rfl (awk (dG:=[]) [910000000] rfl rfl rfl rfl rfl ?_ (Z9 h) akD) rfl rfl ?_
 ·rintro r σ2 ⟨e3,h1,rfl,rfl⟩;simp[W.refs,ag.clean,n2]
 rintro b9 aH ⟨σ2,⟨e3,h1,rfl,rfl⟩,rfl⟩;refine⟨[],_,_,rfl,?_⟩;show aP _ _ _ _ _;have aJ:e3.length<4611686018427387904:=by
  have:=h1.length_eq;rw[length_map]at this;omega
 have Z:fW e3=fW (m.map vZ):=OM ((yE e3).trans (h1.trans (yE _).symm)) (CN _) (CN _);refine avB bN [] [(1,fq [] (Si (d:=910000000) (T:=3) e3 aJ) Ue)] [(3,.own 910000000)] [(910000000,.slice 3 1 (ar aB (fW e3)) 0 false)] (by kernel_rfl) ?_;rw[Z];refine avB bN [] [] [(2,.own 910000000)] [(910000000,.slice 3 1 (ar aB (fW (m.map vZ))) 0 false)] (by kernel_rfl) ?_;refine A.ret ?_;exact avC bN [] (R:=.own 910000000) rfl (by kernel_rfl)
def aaf{d:Nat}(m:List (Int×Int))(h:m.length≤100000):eT prog 167 [] [od 194 m] (λa aH=>a=.own d∧aH=[(d,.slice 3 1 (ar aB (fW (m.map Prod.fst))) 0 false)]):=Qv h (ag6 m (by omega) 910000000)
def aag{d:Nat}(m:List (Int×Int))(h:m.length≤100000):eT prog 167 [] [od 193 m] (λa aH=>a=.own d∧aH=[(d,.slice 3 1 (ar aB (fW (m.map Prod.snd))) 0 false)]):=Qv h (ag7 m (by omega) 910000000)
end
section
set_option linter.all false
open Go Go.Proofs.Tryz Go.Sort Go.RowKit List
def acX:∀{l:cO},l≠[]→hn l≠[]
 |[],h=>absurd rfl h
 |x::r,_=>by
  unfold hn;split
  ·simp
  ·split<;>simp
def Qw(x:Int):∀l:cO,hn (l++[x])=if l.getLast?=some x then hn l else hn l++[x]
 |[]=>rfl
 |a::r=>by
  have bu:=Qw x r;rw[cons_append];unfold hn;rw[bu];cases r with
  |nil=>
   by_cases h:a=x
   ·subst h;simp[hn]
   ·simp[hn,h]
  |cons b s=>
   rw[getLast?_cons_cons];have cA:=acX (l:=b::s) (by simp);by_cases h:(b::s).getLast?=some x
   ·rw[if_pos h,if_pos h]
   ·rw[if_neg h,if_neg h];generalize hn (b::s)=q at cA;cases q with
    |nil=>exact absurd rfl cA
    |cons y t=>
     simp only[cons_append];split<;>rfl
def aah(zs:cO):Lib.compact zs=hn zs:=by
 have key:∀m,m≤zs.length→Lib.compactUpTo zs.toArray m=hn (zs.take m):=by
  intro m;induction m with
  |zero=>intro _;rfl
  |succ m bu=>
   intro hm;have bS:m<zs.length:=hm;have u:zs.toArray[m]! = zs[m]:=by simp[bS]
   rw[Lib.compactUpTo_succ,bu (by omega),take_add_one,List.getElem?_eq_getElem bS,Option.toList_some,Qw,u];cases m with
   |zero=>simp[Lib.keeps]
   |succ k=>
    have hk:k<zs.length:=by omega
    have aJ:(zs.take (k+1)).getLast?=some zs[k]:=by
     rw[getLast?_take];simp[hk]
    have ai:zs.toArray[k]! = zs[k]:=by simp[hk]
    rw[aJ];unfold Lib.keeps;rw[u,show k+1-1=k by omega,ai];by_cases h:zs[k]=zs[k+1]
    ·simp[h]
    ·have b3:¬zs[k+1]=zs[k]:=λe=>h e.symm;simp[h,b3]
 have:=key zs.length (Nat.le_refl _);rw[take_length]at this;exact this
def awC:Shelf.Ren:={f:=λx=>match x with|20=>166|n=>n,t:=λx=>match x with|22=>22|n=>n,g:=λn=>n}
def awo:Lays2.n20 prog awC:=
 {mixed:=by kernel_rfl,f20:=Eq.trans func166 (congrArg some (by kernel_rfl)),t0:=underlying0,a0:=isAgg0,z0:=sizeOf0,v0:=zeroValue0,t3:=underlying3,a3:=isAgg3,z3:=sizeOf3,v3:=zeroValue3,t4:=underlying4,a4:=isAgg4,z4:=sizeOf4,v4:=zeroValue4,t22:=underlying22,a22:=isAgg22,z22:=sizeOf22,v22:=zeroValue22,i3:=by kernel_rfl}
def ZW(cb off aV:Nat)(zs:cO)(w:World)(nn:Holds (Value.int .i64) w cb off zs.toArray)(k2:zs.length≤9223372036854775807)(p1:zs.length≤aV):
  Calls prog 166 #[.slice (some ⟨cb,off,none⟩) zs.length aV] w λe w'=>e=.returned (.slice (some ⟨cb,off,none⟩) (hn zs).length aV)∧∃q,w'=putRow (Value.int .i64) (Sort.ahead w q) cb off (hn zs++List.replicate (zs.length-(hn zs).length) 0).toArray:=by
 have:=Any.slices_Compact_int awo cb off aV zs w nn k2 p1;rw[aah]at this;exact this
def aaa(w:World):Calls prog 166 #[.slice none 0 0] w λe w'=>e=.returned (.slice none 0 0)∧w'=w:=Any.slices_Compact_int_empty awo none 0 w
def aai{d d2:Nat}(cA:d2≠d)(l:cO)(h:l.length≤100000):eT prog 166 [(d,.slice 3 1 (ar aB l) 0 false)] [.own d] (λa aH=>a=.own d2∧aH=[(d2,.slice 3 1 (ar aB (hn l)) 0 false)]):=by
 intro cx w I β vs av aI;simp only[b8]at aI;obtain⟨aR,us,rfl,aI,rfl⟩:=aI;have af:ag.get [(d,cE.slice 3 1 (ar aB l) 0 false)] d=some (.slice 3 1 (ar aB l) 0 false):=by rw[avA,if_pos rfl]
 have an:=av.c4 d _ af;simp only[aC]at aI;obtain⟨rfl,aI⟩:=aI;have vK:∀l:cO,(ar aB l).length=l.length:=λl=>by simp[ar]
 have iD:(hn l).length≤l.length:=by
  have:∀l:cO,(hn l).length≤l.length:=by
   intro l;induction l with
   |nil=>exact Nat.le_refl _
   |cons x r bu=>
    unfold hn;split
    ·simp
    ·rename_i y t e;rw[e]at bu;split<;>simp at bu ⊢<;>omega
  exact this l
 have qB:cz ⟨prog,0,ag.ids [(d,cE.slice 3 1 (ar aB l) 0 false)]⟩ cx I β [] w:=av.sub λx bc u=>by simp[ag.get]at u
 have aa:=qB.qJ (eM:=[d2]) (σ2:=[]) (env:=[]) ⟨λ_ _=>rfl,by simp[ag.ids];exact cA,rfl,rfl,λx u cW n h=>by simp[ag.get]at h⟩;simp only[bb,vK]at an;rcases an with q|⟨q,ax,_⟩|⟨b,aV,arr,ak,ax,aO,aL,bg,bI,b7,cD,dz,dT,fG⟩
 ·rw[q]at aI;simp[i1]at aI
 ·have Fl:l=[]:=by simpa [ar]using ax
  subst Fl;rw[q];refine Calls.mono (aaa w) ?_;rintro e w' ⟨rfl,rfl⟩;refine⟨_,rfl,.own d2,_,I,hy (gY β [d2]) d2 (.slice none 0 0),⟨rfl,rfl⟩,by simp[aC,gX,i1],?_⟩
  refine aa.turn (d:=d2) (b:=w'.heap.size) ⟨λk hk bS=>rfl,Nat.le_refl _,rfl,rfl,rfl,Nat.le_refl _⟩ (.inl av.size) (λx u=>by rw[avA,if_neg (Ne.symm u)]) (λx u Z e=>by simp[ag.get]at Z) (cV.refl I) (λ_ _ _=>rfl)
   (λo v aa=>by rw[av.jG (Nat.le_refl _)]at aa;cases aa) (av.jG (Nat.le_refl _) none) (λx u=>iu _ _ u) (.inl (by simp[ag.ids];exact cA)) (avY (by simp[gY])) (.inr (by rw[gX];rfl)) λbc cG=>?_
  rw[avA,if_pos rfl]at cG;cases cG;simp[bb,gX,hn,ar]
 ·simp only[Nat.mul_one]at bg bI;have nP:arr.toList.take l.length=l.map (Value.int .i64):=(AM l _).1 bI
  have qM:∀j,j<l.length→arr[j]?=some (Value.int .i64 (l[j]?.getD default)):=λj aY=>by
   have:=congrArg (·[j]?) nP;simp only[getElem?_take,if_pos aY,Array.getElem?_toList,List.getElem?_map]at this;rw[this,List.getElem?_eq_getElem aY];rfl
  have nn:Holds (Value.int .i64) w b 0 l.toArray:=λj aY=>by
   have aY:j<l.length:=by simpa using aY
   constructor
   ·simp only[World.cell?,aL,Nat.zero_add];rw[qM j aY];simp[aY]
   ·simp[World.frozen?,aL]
  have bS:=hQ aL;rw[ak];refine Calls.mono (ZW b 0 aV l w nn (by omega) ax) ?_;rintro e w' ⟨rfl,n,rfl⟩;generalize W4:hn l++List.replicate (l.length-(hn l).length) 0=X;have atx:X.length=l.length:=by rw[←W4,length_append,length_replicate];omega
  have z8:(putRow (Value.int .i64) (Go.Sort.ahead w n) b 0 X.toArray).heap[b]?=some (.cells (putCells (Value.int .i64) 0 X.toArray arr) 3 (0,0)):=by
   simp only[putRow,mapBlock,Go.Sort.ahead];rw[Array.getElem?_modify,if_pos rfl,aL];rfl
  have G8:(putCells (Value.int .i64) 0 X.toArray arr).toList.take (hn l).length=(hn l).map (Value.int .i64):=by
   apply List.ext_getElem?;intro j;rw[getElem?_take,List.getElem?_map];split
   ·rename_i aY;have jb:j<arr.size:=by omega
    have py:j<X.length:=by omega
    have anJ:X[j]?=(hn l)[j]?:=by rw[←W4,List.getElem?_append_left aY]
    rw[Array.getElem?_toList];simp only[putCells,Array.getElem?_mapIdx];rw[Array.getElem?_eq_getElem jb,←anJ];simp[py]
   ·rename_i aY;rw[List.getElem?_eq_none (by omega)];rfl
  refine⟨_,rfl,.own d2,_,I,hy (gY β [d2]) d2 (.slice (some ⟨b,0,none⟩) (hn l).length aV),⟨rfl,rfl⟩,by simp[aC,gX,i1],?_⟩
  refine aa.turn (d:=d2) (b:=b) ⟨λk hk bS=>?_,by simp[putRow,mapBlock,Go.Sort.ahead],rfl,rfl,rfl,by simp[putRow,mapBlock,Go.Sort.ahead]⟩ fG (λx u=>by rw[avA,if_neg (Ne.symm u)]) (λx u Z e=>by simp[ag.get]at Z) (cV.refl I) (λ_ _ _=>rfl)
   (λo v aa=>by rw[dT o (by omega)]at aa;cases aa) (av.tK aL) (λx u=>iu _ _ u) (.inl (by simp[ag.ids];exact cA)) (avY (by simp[gY])) (.inl (by rw[gX];rfl)) λbc cG=>?_
  ·simp only[putRow,mapBlock,Go.Sort.ahead];rw[Array.getElem?_modify,if_neg (λe=>hk e.symm)]
  ·rw[avA,if_pos rfl]at cG;cases cG;simp only[bb,gX,vK];refine .inr (.inr ⟨b,aV,_,rfl,by omega,aO,z8,by simpa [putCells]using bg,?_,?_,by omega,?_,?_,fG⟩)
   ·rw[Nat.mul_one,G8];exact(AM _ _).2 rfl
   ·intro e he;obtain⟨x,_,rfl⟩:=List.mem_map.1 he;rfl
   ·intro h;cases h
   ·intro o _;exact dT o (by omega)
end
section
open Go Go.Proofs.Tryz List
set_option maxRecDepth 100000
set_option linter.all false
variable {r:(cO)}
def aoB{ei:cO}(aen:ar aB ei≠[])(hm:B7 ei=some r):eT prog 103 [] [bC aB ei] (λa aH=>a=.own 39∧aH=[(39,.slice 3 1 (ar aB r) 0 false)]):=by
 refine dN func103 rfl rfl ?_;unfold B7 at hm;refine bl [] [(0,bC aB ei)] []<|A.seq<|aW [(1,.Gx false (bC aB ei) (abF aen))] [] [(4,.bool false)]<|avG rfl rfl<|A.skip ?_
 obtain⟨cv,h1,hm⟩:=bo hm;refine bl [(0,.al 103005),(2,l3 105 (ap aB (bytes:=8) (by decide) h1))] [(2,.own 105)] [(105,.slice 3 1 (ar aB cv) 0 false)]<|A.ret ?_
 obtain rfl:=jN hm;exact avC bN [.kz 105 39] rfl (by kernel_rfl)
def aoC(hm:XW=some r):eT prog 103 [] [.k7] (λa aH=>a=.own 39∧aH=[(39,.slice 3 1 (ar aB r) 0 false)]):=by
 refine dN func103 rfl rfl ?_;unfold XW at hm;refine bl [] [(0,.k7)] []<|A.seq<|aW [(1,.Gx false .k7 (abG))] [] [(4,.bool false)]<|avG rfl rfl<|A.skip ?_
 obtain⟨cv,h1,hm⟩:=bo hm;refine bl [(0,.al 103005),(2,l3 105 (ap aB (bytes:=8) (by decide) h1))] [(2,.own 105)] [(105,.slice 3 1 (ar aB cv) 0 false)]<|A.ret ?_
 obtain rfl:=jN hm;exact avC bN [.kz 105 39] rfl (by kernel_rfl)
def aoI(n c:Nat)(w:World):Calls prog 103 #[.slice none n c] w λe w'=>e=.returned (.slice none 0 0)∧w'=w:=by
 have q:∀(w:World) (a:Option Addr) (n c jj nZ:Nat),(binOp .eql 22 (.slice a n c) (.slice none jj nZ)).run prog w=.ok (.bool a.isNone) w:=λw a n c jj nZ=>Lib.run_eql_slice_nil w _ _ a n c jj nZ underlying22
 go_enter func103,Tryz.ntmps103
 go_wp2
 go_ret
 exact⟨rfl,rfl⟩
def aoG{s r:cO}(hm:Oa s=some r):eT prog 103 [] [.bf false (ar aB s)] (λa aH=>a=.own 39∧aH=[(39,.slice 3 1 (ar aB r) 0 false)]):=by
 obtain rfl:s=r:=by
  unfold Oa B7 at hm;obtain⟨l,h,hm⟩:=bo hm;have:=(adY h).symm;simp at this;subst this
  exact jN hm
 refine aaH aoI (λh=>aoB h hm) (λh=>?_) (λh=>h);have bJ:s=[]:=by cases s with|nil=>rfl|cons a b=>simp[ar]at h
 subst bJ;exact aoC hm
variable {a b:Int}{gF:Nat}{hE:Int→Int→jO}{hK:cO}{hq:List W}
def XP(iZ:c0 prog gF)(i0:∀(hH:Int) (j8:Int) (q:Int),hE hH j8=some q→dR prog gF [] ([Y hH,Y j8]++hq) (Y q))(hm:BZ hK a b hE=some r):eT prog 190 [(47,.slice 3 1 (ar aB hK) 0 false)] [.own 47,Y a,Y b,.e7 gF hq] (λa aH=>a=.c5 []∧aH=[(47,.slice 3 1 (ar aB r) 0 false)]):=by
 refine dN func190 rfl rfl ?_;unfold BZ at hm;refine bl [] [(0,.own 47),(1,Y a),(2,Y b),(3,.e7 gF hq),(8,Y (aG (a+1)))] [(47,.slice 3 1 (ar aB hK) 0 false)]<|A.block ?_
 obtain⟨k9,hp,lu,hm⟩:=mM hm;refine avN (F:=k9) hm (λ(ct,b1)=>[(0,.own 47),(1,Y a),(2,Y b),(3,.e7 gF hq),(8,Y ct)]) (λ(ct,b1)=>[(47,.slice 3 1 (ar aB b1) 0 false)]) ?_ ?_
 ·exact fN
 rintro cI ⟨ct,b1⟩ hm;rw[lu]at hm;refine A.seq<|aW [] [] [(14,.d (ct<b))] ?_
 rcases cg hm with⟨bk,hm⟩|⟨bk,hm⟩
 ·refine bX bk<|A.skip<|A.seq<|A.block<|aW [] [14] [(9,Y ct)]<|A.block ?_
  obtain⟨zy,hh,zT,hm⟩:=mM hm;refine avN (F:=zy) hm (λ(e0,cU)=>[(0,.own 47),(1,Y a),(2,Y b),(3,.e7 gF hq),(8,Y ct),(9,Y e0)]) (λ(e0,cU)=>[(47,.slice 3 1 (ar aB cU) 0 false)]) ?_ ?_
  ·exact fN
  rintro gn ⟨e0,cU⟩ hm;rw[zT]at hm;refine A.seq ?_;obtain⟨dK,iH,hm⟩:=jd hm;refine A.J (J:=dK) (r:=r) (λfx=>[(0,.own 47),(1,Y a),(2,Y b),(3,.e7 gF hq),(8,Y ct),(9,Y e0),(34,.bool fx)]) (λfx=>[(47,.slice 3 1 (ar aB cU) 0 false)]) ?_ ?_
  ·rcases cg hm with⟨bK,hm⟩|⟨bK,hm⟩
   ·obtain⟨dJ,h1,hm⟩:=bo hm;obtain⟨eo,D,hm⟩:=bo hm;obtain⟨aD,aq,hm⟩:=bo hm;exact dF [(3,aN (cK bK)),(7,c8 (ix aB h1)),(8,hf 47 0 (ix aB h1)),(12,c8 (ix aB D)),(13,hf 47 0 (ix aB D)),(14,oZ (i0 _ _ _ aq) iZ)] [] [(34,.d (aD<0))]<|cF (decide (aD<0)) hm
   exact dF [(3,aN (cK bK))] [] [(34,.bool false)]<|cF false hm
  rintro fx hm;rw[iH]at hm;rcases cg hm with⟨cq,hm⟩|⟨cq,hm⟩
  ·refine bX cq<|A.skip<|A.seq<|A.block ?_
   obtain⟨oN,aZ,hm⟩:=bo hm;obtain⟨mN,bV,hm⟩:=bo hm;obtain⟨cv,dU,hm⟩:=bo hm;obtain⟨rI,eR,hm⟩:=bo hm;obtain⟨fB,jS,hm⟩:=bo hm;exact jl [(8,c8 (ix aB aZ)),(9,hf 47 0 (ix aB aZ)),(12,c8 (ix aB bV)),(13,hf 47 0 (ix aB bV)),(14,c8 (ix aB bV)),(15,o0 47 (st aB (off:=0) (ca:=[Y oN]) bV dU rfl) (pY bV).1.1),(16,c8 (ix aB eR)),(17,o0 47 (st aB (off:=0) (ca:=[Y mN]) eR jS rfl) (pY eR).1.1)] [34] [] [47] [(47,.slice 3 1 (ar aB fB) 0 false)]<|dF [] [9] [(9,Y (aG (e0-1)))]<|cF (aG (e0-1),fB) hm
  exact bW cq<|A.exit<|dF [] [8,9,34] [(8,Y (aG (ct+1)))]<|cF (aG (ct+1),cU) hm
 refine bW bk<|A.exit ?_
 obtain rfl:=jN hm;exact avC bN [] rfl (by kernel_rfl)
def M4{n:Int}(iZ:c0 prog gF)(i0:∀(hH:Int) (j8:Int) (q:Int),hE hH j8=some q→dR prog gF [] ([Y hH,Y j8]++hq) (Y q))(hm:EL hK a b n hE=some r):eT prog 257 [(62,.slice 3 1 (ar aB hK) 0 false)] [.own 62,Y a,Y b,Y n,.e7 gF hq] (λa aH=>a=.c5 []∧aH=[(62,.slice 3 1 (ar aB r) 0 false)]):=by
 refine dN func257 rfl rfl ?_;unfold EL at hm;refine bl [] [(0,.own 62),(1,Y a),(2,Y b),(3,Y n),(10,Y 0)] [(62,.slice 3 1 (ar aB hK) 0 false)]<|A.block ?_
 obtain⟨z7,hm⟩:=pX hm;obtain⟨gU,gV,gK,gL,hm⟩:=yF hm;refine av6 (hi:=n) (B:=gU) (K:=gV) hm rfl (λa1=>λb1=>[(0,.own 62),(1,Y a),(2,Y b),(3,Y n),(10,Y a1)]) (λa1=>λb1=>[(62,.slice 3 1 (ar aB b1) 0 false)]) ?_ ?_ ?_
 ·exact fN
 ·rintro a1 cI b1 gM cr hm;rw[gK]at hm;refine A.seq<|aW [] [] [(13,.d ((a1:Int)<n))] ?_
  refine avH rfl (decide_eq_true cr)<|A.skip<|A.seq<|A.block ?_
  obtain⟨dJ,h1,hm⟩:=bo hm;obtain⟨eo,D,hm⟩:=bo hm;obtain⟨cv,aq,hm⟩:=bo hm;obtain⟨oN,aZ,hm⟩:=bo hm;obtain⟨fB,bV,hm⟩:=bo hm;exact jl [(12,c8 (ix aB h1)),(13,hf 62 0 (ix aB h1)),(18,c8 (ix aB D)),(19,hf 62 0 (ix aB D)),(20,c8 (ix aB D)),(21,o0 62 (st aB (off:=0) (ca:=[Y dJ]) D aq rfl) (pY D).1.1),(22,c8 (ix aB aZ)),(23,o0 62 (st aB (off:=0) (ca:=[Y eo]) aZ bV rfl) (pY aZ).1.1)] [13] [] [62] [(62,.slice 3 1 (ar aB fB) 0 false)]<|dF [(1,aN (ze (by omega) cr (of_decide_eq_true z7)))] [10] [(10,Y (a1+1:Int))]<|cF fB hm
 rintro a1 b1 gM fv hm;rw[gL]at hm;refine A.seq<|aW [] [] [(13,.d ((a1:Int)<n))] ?_
 refine avG rfl (zP fv)<|A.exit ?_
 obtain rfl:=jN hm;exact avC bN [] rfl (by kernel_rfl)
def aow{m:Int}(iZ:c0 prog gF)(i0:∀(hH:Int) (j8:Int) (q:Int),hE hH j8=some q→dR prog gF [] ([Y hH,Y j8]++hq) (Y q))(hm:N7 hK a m b hE=some r):eT prog 233 [(56,.slice 3 1 (ar aB hK) 0 false)] [.own 56,Y a,Y m,Y b,.e7 gF hq] (λa aH=>a=.c5 []∧aH=[(56,.slice 3 1 (ar aB r) 0 false)]):=by
 refine dN func233 rfl rfl ?_;unfold N7 at hm;refine bl [] [(0,.own 56),(2,Y m),(3,Y b),(4,.e7 gF hq),(10,Y (aG (m-a)))] [(56,.slice 3 1 (ar aB hK) 0 false)]<|aW [] [3] [(11,Y (aG (b-m)))]<|A.seq<|A.block ?_
 obtain⟨k9,hp,lu,hm⟩:=mM hm;refine avN (F:=k9) hm (λ(ct,e0,b1)=>[(0,.own 56),(2,Y m),(4,.e7 gF hq),(10,Y ct),(11,Y e0)]) (λ(ct,e0,b1)=>[(56,.slice 3 1 (ar aB b1) 0 false)]) ?_ ?_
 ·exact fN
 rintro cI ⟨ct,e0,b1⟩ hm;rw[lu]at hm;refine A.seq<|aW [] [] [(20,.bool (!decide (ct=e0)))] ?_
 rcases cg hm with⟨bk,hm⟩|⟨bk,hm⟩
 ·refine bX bk<|A.skip<|A.block<|aW [] [20] [(23,.d (e0<ct))] ?_
  rcases cg hm with⟨bK,hm⟩|⟨bK,hm⟩
  ·refine bX bK ?_;obtain⟨aD,h1,hm⟩:=bo hm;exact et [(7,fq [] (pl.at [(62,56)] (M4 (iZ:=iZ) (i0:=i0) h1)) L3)] [23] [] [56] [(56,.slice 3 1 (ar aB aD) 0 false)]<|dF [] [10] [(10,Y (aG (ct-e0)))]<|cF (aG (ct-e0),e0,aD) hm
  refine bW bK ?_;obtain⟨bB,D,hm⟩:=bo hm;exact et [(11,fq [] (pl.at [(62,56)] (M4 (iZ:=iZ) (i0:=i0) D)) L3)] [23] [] [56] [(56,.slice 3 1 (ar aB bB) 0 false)]<|dF [] [11] [(11,Y (aG (e0-ct)))]<|cF (ct,aG (e0-ct),bB) hm
 refine bW bk<|A.exit ?_
 obtain⟨cm,aq,hm⟩:=bo hm;refine AW [(7,fq [] (pl.at [(62,56)] (M4 (iZ:=iZ) (i0:=i0) aq)) L3)] [] [(56,.slice 3 1 (ar aB cm) 0 false)] ?_;obtain rfl:=jN hm;exact avC bN [] rfl (by kernel_rfl)
def XQ:∀(AN:Nat) {hK:cO} {a:Int} {m:Int} {b:Int} {hE:Int→Int→jO} {gF:Nat} {hq:List W} (iZ:c0 prog gF) (i0:∀(hH:Int) (j8:Int) (q:Int),hE hH j8=some q→dR prog gF [] ([Y hH,Y j8]++hq) (Y q)) {r:(cO)} (hm:B4 AN hK a m b hE=some r),eT prog 191 [(11,.slice 3 1 (ar aB hK) 0 false)] [.own 11,Y a,Y m,Y b,.e7 gF hq] (λa aH=>a=.c5 []∧aH=[(11,.slice 3 1 (ar aB r) 0 false)]):=by
 intro AN;induction AN with
 |zero=>intros;rename_i hm;cases hm
 |succ AN bu=>
 intro hK a m b hE gF hq iZ i0 r hm;refine dN func191 rfl rfl ?_;rw[B4]at hm;refine A.seq<|bl [] [(0,.own 11),(1,Y a),(2,Y m),(3,Y b),(4,.e7 gF hq),(28,.d (aG (m-a)=(1:Int)))] [(11,.slice 3 1 (ar aB hK) 0 false)] ?_
 rcases cg hm with⟨bk,hm⟩|⟨bk,hm⟩
 ·refine bX bk<|aW [] [2,28] [(10,Y m)]<|aW [] [3] [(11,Y b)]<|A.seq<|A.block ?_
  obtain⟨k9,hp,lu,hm⟩:=mM hm;refine avN (F:=k9) hm (λ(ct,e0)=>[(0,.own 11),(1,Y a),(4,.e7 gF hq),(10,Y ct),(11,Y e0)]) (λ(ct,e0)=>[(11,.slice 3 1 (ar aB hK) 0 false)]) ?_ ?_
  ·exact fN
  rintro cI ⟨ct,e0⟩ hm;rw[lu]at hm;refine A.seq<|aW [] [] [(33,.d (ct<e0))] ?_
  rcases cg hm with⟨bK,hm⟩|⟨bK,hm⟩
  ·refine bX bK<|A.skip<|A.block<|aW [(4,.sh (1:Int) (by decide))] [33] [(12,Y (aG (Int.fdiv (IntKind.wrap .u64 (aG (ct+e0))) (2 ^ min (1:Int).toNat 64))))] ?_
   obtain⟨dJ,h1,hm⟩:=bo hm;obtain⟨eo,D,hm⟩:=bo hm;obtain⟨aD,aq,hm⟩:=bo hm;refine aW [(3,c8 (ix aB h1)),(4,hf 11 0 (ix aB h1)),(7,c8 (ix aB D)),(8,hf 11 0 (ix aB D)),(9,oZ (i0 _ _ _ aq) iZ)] [] [(50,.d (aD<0))] ?_;rcases cg hm with⟨cq,hm⟩|⟨cq,hm⟩
   ·exact bX cq<|dF [] [10,12,50] [(10,Y (aG ((aG (Int.fdiv (IntKind.wrap .u64 (aG (ct+e0))) (2 ^ min (1:Int).toNat 64)))+(1:Int))))]<|cF (aG ((aG (Int.fdiv (IntKind.wrap .u64 (aG (ct+e0))) (2 ^ min (1:Int).toNat 64)))+(1:Int)),e0) hm
   exact bW cq<|dF [] [11,12,50] [(11,Y (aG (Int.fdiv (IntKind.wrap .u64 (aG (ct+e0))) (2 ^ min (1:Int).toNat 64))))]<|cF (ct,aG (Int.fdiv (IntKind.wrap .u64 (aG (ct+e0))) (2 ^ min (1:Int).toNat 64))) hm
  refine bW bK<|A.exit<|A.seq<|aW [] [1,4,11,33] [(13,Y a)]<|A.block ?_
  obtain⟨zy,hh,zT,hm⟩:=mM hm;refine avN (F:=zy) hm (λ(k5,b1)=>[(0,.own 11),(10,Y ct),(13,Y k5)]) (λ(k5,b1)=>[(11,.slice 3 1 (ar aB b1) 0 false)]) ?_ ?_
  ·exact fN
  rintro gn ⟨k5,b1⟩ hm;rw[zT]at hm;refine A.seq<|aW [] [] [(58,.d (k5<aG (ct-1)))] ?_
  rcases cg hm with⟨en,hm⟩|⟨en,hm⟩
  ·refine bX en<|A.skip<|A.seq<|A.block ?_
   obtain⟨oN,aZ,hm⟩:=bo hm;obtain⟨mN,bV,hm⟩:=bo hm;obtain⟨cv,dU,hm⟩:=bo hm;obtain⟨rI,eR,hm⟩:=bo hm;obtain⟨fB,jS,hm⟩:=bo hm;exact jl [(8,c8 (ix aB aZ)),(9,hf 11 0 (ix aB aZ)),(12,c8 (ix aB bV)),(13,hf 11 0 (ix aB bV)),(14,c8 (ix aB bV)),(15,o0 11 (st aB (off:=0) (ca:=[Y oN]) bV dU rfl) (pY bV).1.1),(16,c8 (ix aB eR)),(17,o0 11 (st aB (off:=0) (ca:=[Y mN]) eR jS rfl) (pY eR).1.1)] [58] [] [11] [(11,.slice 3 1 (ar aB fB) 0 false)]<|dF [] [13] [(13,Y (aG (k5+1)))]<|cF (aG (k5+1),fB) hm
  refine bW en<|A.exit ?_
  cases hm;exact A.ret cM
 refine bW bk<|A.skip<|A.seq<|aW [] [28] [(80,.d (aG (b-m)=(1:Int)))] ?_
 rcases cg hm with⟨fK,hm⟩|⟨fK,hm⟩
 ·refine bX fK<|aW [] [1,3,80] [(14,Y a)]<|aW [] [] [(15,Y m)]<|A.seq<|A.block ?_
  obtain⟨KW,xu,Nb,hm⟩:=mM hm;refine avN (F:=KW) hm (λ(o3,qE)=>[(0,.own 11),(2,Y m),(4,.e7 gF hq),(14,Y o3),(15,Y qE)]) (λ(o3,qE)=>[(11,.slice 3 1 (ar aB hK) 0 false)]) ?_ ?_
  ·exact fN
  rintro lV ⟨o3,qE⟩ hm;rw[Nb]at hm;refine A.seq<|aW [] [] [(85,.d (o3<qE))] ?_
  rcases cg hm with⟨hj,hm⟩|⟨hj,hm⟩
  ·refine bX hj<|A.skip<|A.block<|aW [(4,.sh (1:Int) (by decide))] [85] [(16,Y (aG (Int.fdiv (IntKind.wrap .u64 (aG (o3+qE))) (2 ^ min (1:Int).toNat 64))))] ?_
   obtain⟨rJ,iy,hm⟩:=bo hm;obtain⟨tH,oQ,hm⟩:=bo hm;obtain⟨bB,sC,hm⟩:=bo hm;refine aW [(3,c8 (ix aB iy)),(4,hf 11 0 (ix aB iy)),(7,c8 (ix aB oQ)),(8,hf 11 0 (ix aB oQ)),(9,oZ (i0 _ _ _ sC) iZ)] [] [(103,.bool (!(decide (bB<0))))] ?_;rcases cg hm with⟨jU,hm⟩|⟨jU,hm⟩
   ·exact bX jU<|dF [] [14,16,103] [(14,Y (aG ((aG (Int.fdiv (IntKind.wrap .u64 (aG (o3+qE))) (2 ^ min (1:Int).toNat 64)))+(1:Int))))]<|cF (aG ((aG (Int.fdiv (IntKind.wrap .u64 (aG (o3+qE))) (2 ^ min (1:Int).toNat 64)))+(1:Int)),qE) hm
   exact bW jU<|dF [] [15,16,103] [(15,Y (aG (Int.fdiv (IntKind.wrap .u64 (aG (o3+qE))) (2 ^ min (1:Int).toNat 64))))]<|cF (o3,aG (Int.fdiv (IntKind.wrap .u64 (aG (o3+qE))) (2 ^ min (1:Int).toNat 64))) hm
  refine bW hj<|A.exit<|A.seq<|aW [] [2,4,15,85] [(17,Y m)]<|A.block ?_
  obtain⟨KX,aoh,Nc,hm⟩:=mM hm;refine avN (F:=KX) hm (λ(rU,cU)=>[(0,.own 11),(14,Y o3),(17,Y rU)]) (λ(rU,cU)=>[(11,.slice 3 1 (ar aB cU) 0 false)]) ?_ ?_
  ·exact fN
  rintro rC ⟨rU,cU⟩ hm;rw[Nc]at hm;refine A.seq<|aW [] [] [(110,.d (o3<rU))] ?_
  rcases cg hm with⟨lI,hm⟩|⟨lI,hm⟩
  ·refine bX lI<|A.skip<|A.seq<|A.block ?_
   obtain⟨vA,qt,hm⟩:=bo hm;obtain⟨vB,pZ,hm⟩:=bo hm;obtain⟨hC,wR,hm⟩:=bo hm;obtain⟨alC,vC,hm⟩:=bo hm;obtain⟨jZ,wS,hm⟩:=bo hm;exact jl [(8,c8 (ix aB qt)),(9,hf 11 0 (ix aB qt)),(12,c8 (ix aB pZ)),(13,hf 11 0 (ix aB pZ)),(14,c8 (ix aB pZ)),(15,o0 11 (st aB (off:=0) (ca:=[Y vA]) pZ wR rfl) (pY pZ).1.1),(16,c8 (ix aB vC)),(17,o0 11 (st aB (off:=0) (ca:=[Y vB]) vC wS rfl) (pY vC).1.1)] [110] [] [11] [(11,.slice 3 1 (ar aB jZ) 0 false)]<|dF [] [17] [(17,Y (aG (rU-1)))]<|cF (aG (rU-1),jZ) hm
  refine bW lI<|A.exit ?_
  cases hm;exact A.ret cM
 refine bW fK<|A.skip<|aW [(4,.sh (1:Int) (by decide))] [80] [(18,Y (aG (Int.fdiv (IntKind.wrap .u64 (aG (a+b))) (2 ^ min (1:Int).toNat 64))))]<|aW [] [] [(19,Y (aG ((aG (Int.fdiv (IntKind.wrap .u64 (aG (a+b))) (2 ^ min (1:Int).toNat 64)))+m)))]<|aW [] [] [] ?_
 obtain⟨dK,iH,hm⟩:=jd hm;refine A.J (J:=dK) (r:=r) (λ(GL,Ez)=>[(0,.own 11),(1,Y a),(2,Y m),(3,Y b),(4,.e7 gF hq),(18,Y (aG (Int.fdiv (IntKind.wrap .u64 (aG (a+b))) (2 ^ min (1:Int).toNat 64)))),(19,Y (aG ((aG (Int.fdiv (IntKind.wrap .u64 (aG (a+b))) (2 ^ min (1:Int).toNat 64)))+m))),(20,Y GL),(21,Y Ez)]) (λ(GL,Ez)=>[(11,.slice 3 1 (ar aB hK) 0 false)]) ?_ ?_
 ·refine aW [] [] [(140,.d (aG (Int.fdiv (IntKind.wrap .u64 (aG (a+b))) (2 ^ min (1:Int).toNat 64))<m))] ?_;rcases cg hm with⟨lW,hm⟩|⟨lW,hm⟩
  ·exact bX lW<|aW [] [140] [(20,Y (aG ((aG ((aG (Int.fdiv (IntKind.wrap .u64 (aG (a+b))) (2 ^ min (1:Int).toNat 64)))+m))-b)))]<|dF [] [] [(21,Y (aG (Int.fdiv (IntKind.wrap .u64 (aG (a+b))) (2 ^ min (1:Int).toNat 64))))]<|cF (aG ((aG ((aG (Int.fdiv (IntKind.wrap .u64 (aG (a+b))) (2 ^ min (1:Int).toNat 64)))+m))-b),aG (Int.fdiv (IntKind.wrap .u64 (aG (a+b))) (2 ^ min (1:Int).toNat 64))) hm
  exact bW lW<|aW [] [140] [(20,Y a)]<|dF [] [] [(21,Y m)]<|cF (a,m) hm
 rintro⟨GL,Ez⟩ hm;rw[iH]at hm;refine aW [] [] [(22,Y (aG ((aG ((aG (Int.fdiv (IntKind.wrap .u64 (aG (a+b))) (2 ^ min (1:Int).toNat 64)))+m))-(1:Int))))]<|A.seq<|A.block ?_
 obtain⟨Zt,auo,al1,hm⟩:=mM hm;refine avN (F:=Zt) hm (λ(hD,qj)=>[(0,.own 11),(1,Y a),(2,Y m),(3,Y b),(4,.e7 gF hq),(18,Y (aG (Int.fdiv (IntKind.wrap .u64 (aG (a+b))) (2 ^ min (1:Int).toNat 64)))),(19,Y (aG ((aG (Int.fdiv (IntKind.wrap .u64 (aG (a+b))) (2 ^ min (1:Int).toNat 64)))+m))),(20,Y hD),(21,Y qj),(22,Y (aG ((aG ((aG (Int.fdiv (IntKind.wrap .u64 (aG (a+b))) (2 ^ min (1:Int).toNat 64)))+m))-(1:Int))))]) (λ(hD,qj)=>[(11,.slice 3 1 (ar aB hK) 0 false)]) ?_ ?_
 ·exact fN
 rintro wC ⟨hD,qj⟩ hm;rw[al1]at hm;refine A.seq<|aW [] [] [(151,.d (hD<qj))] ?_
 rcases cg hm with⟨mw,hm⟩|⟨mw,hm⟩
 ·refine bX mw<|A.skip<|A.block<|aW [(4,.sh (1:Int) (by decide))] [151] [(23,Y (aG (Int.fdiv (IntKind.wrap .u64 (aG (hD+qj))) (2 ^ min (1:Int).toNat 64))))] ?_
  obtain⟨Wf,wT,hm⟩:=bo hm;obtain⟨Wg,wU,hm⟩:=bo hm;obtain⟨cm,yd,hm⟩:=bo hm;refine aW [(5,c8 (ix aB wT)),(6,hf 11 0 (ix aB wT)),(9,c8 (ix aB wU)),(10,hf 11 0 (ix aB wU)),(11,oZ (i0 _ _ _ yd) iZ)] [] [(171,.bool (!(decide (cm<0))))] ?_;rcases cg hm with⟨uH,hm⟩|⟨uH,hm⟩
  ·exact bX uH<|dF [] [20,23,171] [(20,Y (aG ((aG (Int.fdiv (IntKind.wrap .u64 (aG (hD+qj))) (2 ^ min (1:Int).toNat 64)))+(1:Int))))]<|cF (aG ((aG (Int.fdiv (IntKind.wrap .u64 (aG (hD+qj))) (2 ^ min (1:Int).toNat 64)))+(1:Int)),qj) hm
  exact bW uH<|dF [] [21,23,171] [(21,Y (aG (Int.fdiv (IntKind.wrap .u64 (aG (hD+qj))) (2 ^ min (1:Int).toNat 64))))]<|cF (hD,aG (Int.fdiv (IntKind.wrap .u64 (aG (hD+qj))) (2 ^ min (1:Int).toNat 64))) hm
 refine bW mw<|A.exit<|aW [] [19,21,22,151] [(24,Y (aG ((aG ((aG (Int.fdiv (IntKind.wrap .u64 (aG (a+b))) (2 ^ min (1:Int).toNat 64)))+m))-hD)))] ?_
 obtain⟨gv,jt,hm⟩:=jd hm;refine A.J (J:=gv) (r:=r) (λdH=>[(0,.own 11),(1,Y a),(3,Y b),(4,.e7 gF hq),(18,Y (aG (Int.fdiv (IntKind.wrap .u64 (aG (a+b))) (2 ^ min (1:Int).toNat 64)))),(20,Y hD),(24,Y (aG ((aG ((aG (Int.fdiv (IntKind.wrap .u64 (aG (a+b))) (2 ^ min (1:Int).toNat 64)))+m))-hD)))]) (λdH=>[(11,.slice 3 1 (ar aB dH) 0 false)]) ?_ ?_
 ·refine avM [(0,.own 11),(1,Y a),(2,Y m),(3,Y b),(4,.e7 gF hq),(18,Y (aG (Int.fdiv (IntKind.wrap .u64 (aG (a+b))) (2 ^ min (1:Int).toNat 64)))),(20,Y hD),(24,Y (aG ((aG ((aG (Int.fdiv (IntKind.wrap .u64 (aG (a+b))) (2 ^ min (1:Int).toNat 64)))+m))-hD))),(185,.bool ((decide (hD<m))&&(decide (m<aG ((aG ((aG (Int.fdiv (IntKind.wrap .u64 (aG (a+b))) (2 ^ min (1:Int).toNat 64)))+m))-hD)))))] [(11,.slice 3 1 (ar aB hK) 0 false)] (λhk=>?_) ?_
  ·rcases j6 (decide (hD<m))with qU|qU
   ·exact bl [(3,aN (cK qU)),(7,aN (mE (q:=decide (m<aG ((aG ((aG (Int.fdiv (IntKind.wrap .u64 (aG (a+b))) (2 ^ min (1:Int).toNat 64)))+m))-hD))) qU))] _ _ hk
   exact bl [(3,aN (cK qU)),(7,aN (pa (q:=decide (m<aG ((aG ((aG (Int.fdiv (IntKind.wrap .u64 (aG (a+b))) (2 ^ min (1:Int).toNat 64)))+m))-hD))) qU))] _ _ hk
  rcases cg hm with⟨qV,hm⟩|⟨qV,hm⟩
  ·refine bX qV ?_;obtain⟨bZ,vD,hm⟩:=bo hm;exact jl [(5,fq [] (pl.at [(56,11)] (aow (iZ:=iZ) (i0:=i0) vD)) akI)] [2,185] [] [11] [(11,.slice 3 1 (ar aB bZ) 0 false)]<|cF bZ hm
  exact bW qV<|A.skip<|cF hK hm
 rintro dH hm;rw[jt]at hm;obtain⟨kV,ox,hm⟩:=jd hm;refine A.J (J:=kV) (r:=r) (λcH=>[(0,.own 11),(3,Y b),(4,.e7 gF hq),(18,Y (aG (Int.fdiv (IntKind.wrap .u64 (aG (a+b))) (2 ^ min (1:Int).toNat 64)))),(24,Y (aG ((aG ((aG (Int.fdiv (IntKind.wrap .u64 (aG (a+b))) (2 ^ min (1:Int).toNat 64)))+m))-hD)))]) (λcH=>[(11,.slice 3 1 (ar aB cH) 0 false)]) ?_ ?_
 ·refine avM [(0,.own 11),(1,Y a),(3,Y b),(4,.e7 gF hq),(18,Y (aG (Int.fdiv (IntKind.wrap .u64 (aG (a+b))) (2 ^ min (1:Int).toNat 64)))),(20,Y hD),(24,Y (aG ((aG ((aG (Int.fdiv (IntKind.wrap .u64 (aG (a+b))) (2 ^ min (1:Int).toNat 64)))+m))-hD))),(199,.bool ((decide (a<hD))&&(decide (hD<aG (Int.fdiv (IntKind.wrap .u64 (aG (a+b))) (2 ^ min (1:Int).toNat 64))))))] [(11,.slice 3 1 (ar aB dH) 0 false)] (λhk=>?_) ?_
  ·rcases j6 (decide (a<hD))with uI|uI
   ·exact bl [(3,aN (cK uI)),(7,aN (mE (q:=decide (hD<aG (Int.fdiv (IntKind.wrap .u64 (aG (a+b))) (2 ^ min (1:Int).toNat 64)))) uI))] _ _ hk
   exact bl [(3,aN (cK uI)),(7,aN (pa (q:=decide (hD<aG (Int.fdiv (IntKind.wrap .u64 (aG (a+b))) (2 ^ min (1:Int).toNat 64)))) uI))] _ _ hk
  rcases cg hm with⟨zD,hm⟩|⟨zD,hm⟩
  ·refine bX zD ?_;obtain⟨gJ,vE,hm⟩:=bo hm;exact jl [(5,fq [] (bu (iZ:=iZ) (i0:=i0) vE) Hv)] [1,20,199] [] [11] [(11,.slice 3 1 (ar aB gJ) 0 false)]<|cF gJ hm
  exact bW zD<|A.skip<|cF dH hm
 rintro cH hm;rw[ox]at hm;refine avM [(0,.own 11),(3,Y b),(4,.e7 gF hq),(18,Y (aG (Int.fdiv (IntKind.wrap .u64 (aG (a+b))) (2 ^ min (1:Int).toNat 64)))),(24,Y (aG ((aG ((aG (Int.fdiv (IntKind.wrap .u64 (aG (a+b))) (2 ^ min (1:Int).toNat 64)))+m))-hD))),(213,.bool ((decide (aG (Int.fdiv (IntKind.wrap .u64 (aG (a+b))) (2 ^ min (1:Int).toNat 64))<aG ((aG ((aG (Int.fdiv (IntKind.wrap .u64 (aG (a+b))) (2 ^ min (1:Int).toNat 64)))+m))-hD)))&&(decide (aG ((aG ((aG (Int.fdiv (IntKind.wrap .u64 (aG (a+b))) (2 ^ min (1:Int).toNat 64)))+m))-hD)<b))))] [(11,.slice 3 1 (ar aB cH) 0 false)] (λhk=>?_) ?_
 ·rcases j6 (decide (aG (Int.fdiv (IntKind.wrap .u64 (aG (a+b))) (2 ^ min (1:Int).toNat 64))<aG ((aG ((aG (Int.fdiv (IntKind.wrap .u64 (aG (a+b))) (2 ^ min (1:Int).toNat 64)))+m))-hD)))with EE|EE
  ·exact bl [(3,aN (cK EE)),(7,aN (mE (q:=decide (aG ((aG ((aG (Int.fdiv (IntKind.wrap .u64 (aG (a+b))) (2 ^ min (1:Int).toNat 64)))+m))-hD)<b)) EE))] _ _ hk
  exact bl [(3,aN (cK EE)),(7,aN (pa (q:=decide (aG ((aG ((aG (Int.fdiv (IntKind.wrap .u64 (aG (a+b))) (2 ^ min (1:Int).toNat 64)))+m))-hD)<b)) EE))] _ _ hk
 rcases cg hm with⟨MW,hm⟩|⟨MW,hm⟩
 ·refine bX MW ?_;obtain⟨eG,Cf,hm⟩:=bo hm;refine AW [(5,fq [] (bu (iZ:=iZ) (i0:=i0) Cf) Hv)] [] [(11,.slice 3 1 (ar aB eG) 0 false)] ?_;obtain rfl:=jN hm;exact avC bN [] rfl (by kernel_rfl)
 refine bW MW<|A.skip ?_
 obtain rfl:=jN hm;exact avC bN [] rfl (by kernel_rfl)
def aox{n:Int}(iZ:c0 prog gF)(i0:∀(hH:Int) (j8:Int) (q:Int),hE hH j8=some q→dR prog gF [] ([Y hH,Y j8]++hq) (Y q))(hm:Ir hK n hE=some r):eT prog 163 [(34,.slice 3 1 (ar aB hK) 0 false)] [.own 34,Y n,.e7 gF hq] (λa aH=>a=.c5 []∧aH=[(34,.slice 3 1 (ar aB r) 0 false)]):=by
 refine dN func163 rfl rfl ?_;unfold Ir at hm;refine bl [] [(0,.own 34),(1,Y n),(2,.e7 gF hq),(6,Y 20)] [(34,.slice 3 1 (ar aB hK) 0 false)]<|aW [] [] [(7,Y 0),(8,Y 20)]<|A.seq<|A.block ?_
 obtain⟨k9,hp,lu,hm⟩:=mM hm;refine avN (F:=k9) hm (λ(Bw,pq,b1)=>[(0,.own 34),(1,Y n),(2,.e7 gF hq),(6,Y 20),(7,Y Bw),(8,Y pq)]) (λ(Bw,pq,b1)=>[(34,.slice 3 1 (ar aB b1) 0 false)]) ?_ ?_
 ·exact fN
 rintro cI ⟨Bw,pq,b1⟩ hm;rw[lu]at hm;refine A.seq<|aW [] [] [(13,.d (pq≤n))] ?_
 rcases cg hm with⟨bk,hm⟩|⟨bk,hm⟩
 ·refine bX bk<|A.skip<|A.block ?_
  obtain⟨aD,h1,hm⟩:=bo hm;exact et [(4,fq [] (pl.at [(47,34)] (XP (iZ:=iZ) (i0:=i0) h1)) Vb)] [7,13] [] [34] [(34,.slice 3 1 (ar aB aD) 0 false)]<|aW [] [] [(7,Y pq)]<|dF [] [8] [(8,Y (aG (pq+20)))]<|cF (pq,aG (pq+20),aD) hm
 refine bW bk<|A.exit ?_
 obtain⟨bB,D,hm⟩:=bo hm;refine et [(4,fq [] (pl.at [(47,34)] (XP (iZ:=iZ) (i0:=i0) D)) Vb)] [7,8,13] [] [34] [(34,.slice 3 1 (ar aB bB) 0 false)]<|A.block ?_
 obtain⟨zy,hh,zT,hm⟩:=mM hm;refine avN (F:=zy) hm (λ(n0,cU)=>[(0,.own 34),(1,Y n),(2,.e7 gF hq),(6,Y n0)]) (λ(n0,cU)=>[(34,.slice 3 1 (ar aB cU) 0 false)]) ?_ ?_
 ·exact fN
 rintro gn ⟨n0,cU⟩ hm;rw[zT]at hm;refine A.seq<|aW [] [] [(30,.d (n0<n))] ?_
 rcases cg hm with⟨bK,hm⟩|⟨bK,hm⟩
 ·refine bX bK<|A.skip<|A.block<|aW [] [30] [(7,Y 0),(8,Y (aG ((2:Int)*n0)))]<|A.seq<|A.block ?_
  obtain⟨KW,xu,Nb,hm⟩:=mM hm;refine avN (F:=KW) hm (λ(uG,sv,dH)=>[(0,.own 34),(1,Y n),(2,.e7 gF hq),(6,Y n0),(7,Y uG),(8,Y sv)]) (λ(uG,sv,dH)=>[(34,.slice 3 1 (ar aB dH) 0 false)]) ?_ ?_
  ·exact fN
  rintro lV ⟨uG,sv,dH⟩ hm;rw[Nb]at hm;refine A.seq<|aW [] [] [(35,.d (sv≤n))] ?_
  rcases cg hm with⟨cq,hm⟩|⟨cq,hm⟩
  ·refine bX cq<|A.skip<|A.block ?_
   obtain⟨cm,aq,hm⟩:=bo hm;exact et [(7,fq [] (pl.at [(11,34)] (XQ fuel (iZ:=iZ) (i0:=i0) aq)) Hv)] [7,35] [] [34] [(34,.slice 3 1 (ar aB cm) 0 false)]<|aW [] [] [(7,Y sv)]<|dF [] [8] [(8,Y (aG (sv+(aG ((2:Int)*n0)))))]<|cF (sv,aG (sv+(aG ((2:Int)*n0))),cm) hm
  refine bW cq<|A.exit ?_
  obtain⟨dK,iH,hm⟩:=jd hm;refine A.J (J:=dK) (r:=r) (λcH=>[(0,.own 34),(1,Y n),(2,.e7 gF hq),(6,Y n0)]) (λcH=>[(34,.slice 3 1 (ar aB cH) 0 false)]) ?_ ?_
  ·refine aW [] [8,35] [(9,Y (aG (uG+n0)))]<|aW [] [] [(54,.d (aG (uG+n0)<n))] ?_
   rcases cg hm with⟨en,hm⟩|⟨en,hm⟩
   ·refine bX en ?_;obtain⟨bZ,aZ,hm⟩:=bo hm;exact jl [(5,fq [] (pl.at [(11,34)] (XQ fuel (iZ:=iZ) (i0:=i0) aZ)) Hv)] [7,9,54] [] [34] [(34,.slice 3 1 (ar aB bZ) 0 false)]<|cF bZ hm
   exact bW en<|A.skip<|cF dH hm
  rintro cH hm;rw[iH]at hm;exact dF [] [6] [(6,Y (aG (n0*2)))]<|cF (aG (n0*2),cH) hm
 refine bW bK<|A.exit ?_
 obtain rfl:=jN hm;exact avC bN [] rfl (by kernel_rfl)
def aoi{e5:cO}(iZ:c0 prog gF)(i0:∀(hH:Int) (j8:Int) (q:Int),hE hH j8=some q→dR prog gF [] ([Y hH,Y j8]++hq) (Y q))(hm:EJ e5 hE=some r):eT prog 104 [(120,.slice 3 1 (ar aB e5) 0 false)] [.own 120,.e7 gF hq] (λa aH=>a=.c5 []∧aH=[(120,.slice 3 1 (ar aB r) 0 false)]):=by
 refine dN func104 rfl rfl ?_;unfold EJ at hm;obtain⟨aD,h1,hm⟩:=bo hm;refine AW [(2,aN (dZ aB e5)),(4,fq [] (pl.at [(34,120)] (aox (iZ:=iZ) (i0:=i0) h1)) ajn)] [] [(120,.slice 3 1 (ar aB aD) 0 false)] ?_;obtain rfl:=jN hm;exact avC bN [] rfl (by kernel_rfl)
variable {root:Int}
def aqR{ay:wu}{xK:Int}{r:(wz)×(wu)}(hm:CC ay root xK=some r):eT prog 107 [(20,.slice 175 3 (ar ey ay) 0 false)] [.own 20,Y root,Y xK] (λa aH=>a=.own 144∧aH=[(20,.slice 175 3 (ar ey r.2) 0 false),(144,.slice 120 2 (ar cQ r.1) 0 false)]):=by
 refine dN func107 rfl rfl ?_;unfold CC at hm;refine bl [] [(0,.own 20),(1,Y root),(2,Y xK)] [(20,.slice 175 3 (ar ey ay) 0 false)] ?_;obtain⟨aD,h1,hm⟩:=bo hm;refine et [(2,amz [20] [102] (aqz h1) ajo ⟨abH _,trivial⟩)] [2] [(7,.dm 102)] [] [(102,.map 3 3 (bM .i64 (c9 .i64) aD))]<|aW [(2,wW (lk (E:=3) (k:=.i64) (enc:=(c9 .i64)) aD root (0:Int) (λw=>⟨_,zeroValue3 w,λI=>by simp[bm,c9,ih]⟩)))] [1] [(8,Y ((az aD root).getD (0:Int)))]<|avF (ek:=[(0,.own 20),(7,.c7 (bM .i64 (c9 .i64) aD)),(8,Y ((az aD root).getD (0:Int)))]) (σ2:=[(20,.slice 175 3 (ar ey ay) 0 false)]) (jx [.cT [102]] [7]) ?_
 obtain⟨D,hm⟩:=pX hm;obtain⟨aq,hm⟩:=pX hm;refine bl [(1,ch (aek aD) ajq),(2,fq [542107001] (aag (d:=542107001) aD (of_decide_eq_true D)) U9),(3,fq [542107002] (aai (d:=542107001) (d2:=542107002) (by decide) (fW (aD.map Prod.snd)) (of_decide_eq_true aq)) ajp)] [(0,.own 20),(7,.c7 (bM .i64 (c9 .i64) aD)),(8,Y ((az aD root).getD (0:Int))),(9,.own 542107002)] [(20,.slice 175 3 (ar ey ay) 0 false),(542107002,.slice 3 1 (ar aB (hn (fW (aD.map Prod.snd)))) 0 false)]<|aW [] [] [(10,.c6)] ?_
 obtain⟨dK,iH,hm⟩:=jd hm;refine A.J (J:=dK) (r:=r) (λe6=>[(0,.own 20),(7,.c7 (bM .i64 (c9 .i64) aD)),(8,Y ((az aD root).getD (0:Int))),(10,.own 24)]) (λe6=>[(20,.slice 175 3 (ar ey ay) 0 false),(24,.slice 120 2 (ar cQ e6) 0 false)]) ?_ ?_
 ·refine aW [(1,aN (dZ aB (hn (fW (aD.map Prod.snd)))))] [] [(32,.own 542107002),(33,Y ((hn (fW (aD.map Prod.snd))).length:Int)),(34,Y 0)]<|A.block<|awb 9 rfl rfl λfu=>?_
  obtain⟨gU,gV,gK,gL,hm⟩:=hJ hm;refine avD (l:=hn (fW (aD.map Prod.snd))) (gC:=0) (B:=gU) (K:=gV) hm (λa1=>λi6=>[(0,.own 20),(7,.c7 (bM .i64 (c9 .i64) aD)),(8,Y ((az aD root).getD (0:Int))),(9,.own 542107002),(10,.own 24),(32,.own 542107002),(33,Y ((hn (fW (aD.map Prod.snd))).length:Int)),(34,Y a1)]) (λa1=>λi6=>[(20,.slice 175 3 (ar ey ay) 0 false),(542107002,.slice 3 1 (ar aB (hn (fW (aD.map Prod.snd)))) 0 false),(24,.slice 120 2 (ar cQ i6) 0 false)]) ?_ ?_ ?_
  ·exact jx [.ad 10 24 120 2] []
  ·rintro a1 aK cI i6 gM cr hm;rw[gK]at hm;refine aW [] [] [(35,.d ((a1:Int)<((hn (fW (aD.map Prod.snd))).length:Int)))]<|A.seq<|bX (hv cr)<|A.skip<|A.seq<|A.block<|aW [(1,c8 (ix aB (fS cr))),(2,hf 542107002 0 (ix aB (fS cr)))] [35] [(11,Y a1),(12,Y aK)]<|A.seq<|aW [] [] [(41,.d (((az aD root).getD (0:Int))≤aK))] ?_
   rcases cg hm with⟨bk,hm⟩|⟨bk,hm⟩
   ·exact bX bk<|A.exit<|cF i6 hm
   refine bW bk<|A.skip ?_
   obtain⟨dJ,aZ,hm⟩:=bo hm;refine et [(3,c8 (ix aB aZ)),(4,hf 542107002 0 (ix aB aZ)),(10,.al 61)] [11,41] [(13,.ptr 61 0)] [] [(61,.c 120 [.c6,Y (aG ((if((az aD root).getD (0:Int))<dJ then((az aD root).getD (0:Int))else dJ)-aK))])]<|A.seq ?_
   obtain⟨bV,hm⟩:=pX hm;refine et [(1,ch (aej aD) ajr),(2,fq [542107003] (aaf (d:=542107003) aD (of_decide_eq_true bV)) U9),(3,aN (dZ aB (fW (aD.map Prod.fst))))] [] [(54,.own 542107003),(55,Y ((fW (aD.map Prod.fst)).length:Int)),(56,Y 0)] [] [(542107003,.slice 3 1 (ar aB (fW (aD.map Prod.fst))) 0 false)]<|A.block<|awb 54 rfl rfl λeO=>?_
   obtain⟨k8,jm,ll,lz,hm⟩:=hJ hm;refine avD (l:=fW (aD.map Prod.fst)) (gC:=0) (B:=k8) (K:=jm) hm (λcf=>λb1=>[(0,.own 20),(7,.c7 (bM .i64 (c9 .i64) aD)),(8,Y ((az aD root).getD (0:Int))),(9,.own 542107002),(10,.own 24),(12,Y aK),(13,.ptr 61 0),(32,.own 542107002),(33,Y ((hn (fW (aD.map Prod.snd))).length:Int)),(34,Y a1),(54,.own 542107003),(55,Y ((fW (aD.map Prod.fst)).length:Int)),(56,Y cf)]) (λcf=>λb1=>[(20,.slice 175 3 (ar ey ay) 0 false),(542107002,.slice 3 1 (ar aB (hn (fW (aD.map Prod.snd)))) 0 false),(24,.slice 120 2 (ar cQ i6) 0 false),(61,.c 120 [.own 74,Y (aG ((if((az aD root).getD (0:Int))<dJ then((az aD root).getD (0:Int))else dJ)-aK))]),(542107003,.slice 3 1 (ar aB (fW (aD.map Prod.fst))) 0 false),(74,.slice 3 1 (ar aB b1) 0 false)]) ?_ ?_ ?_
   ·exact jx [.ac 61 74 3 1 0] []
   ·rintro cf e2 gn b1 jb eW hm;rw[ll]at hm;refine aW [] [] [(57,.d ((cf:Int)<((fW (aD.map Prod.fst)).length:Int)))]<|A.seq<|bX (hv eW)<|A.skip ?_
    obtain⟨gv,jt,hm⟩:=jd hm;refine A.J (J:=gv) (r:=r) (λcU=>[(0,.own 20),(7,.c7 (bM .i64 (c9 .i64) aD)),(8,Y ((az aD root).getD (0:Int))),(9,.own 542107002),(10,.own 24),(12,Y aK),(13,.ptr 61 0),(32,.own 542107002),(33,Y ((hn (fW (aD.map Prod.snd))).length:Int)),(34,Y a1),(54,.own 542107003),(55,Y ((fW (aD.map Prod.fst)).length:Int)),(56,Y cf)]) (λcU=>[(20,.slice 175 3 (ar ey ay) 0 false),(542107002,.slice 3 1 (ar aB (hn (fW (aD.map Prod.snd)))) 0 false),(24,.slice 120 2 (ar cQ i6) 0 false),(61,.c 120 [.own 74,Y (aG ((if((az aD root).getD (0:Int))<dJ then((az aD root).getD (0:Int))else dJ)-aK))]),(542107003,.slice 3 1 (ar aB (fW (aD.map Prod.fst))) 0 false),(74,.slice 3 1 (ar aB cU) 0 false)]) ?_ ?_
    ·refine A.block<|aW [(0,c8 (ix aB (fS eW))),(1,hf 542107003 0 (ix aB (fS eW)))] [57] [(15,Y e2)] ?_
     refine aW [(2,nK aD e2 (c9 .i64) (0:Int) o4 (tD (k:=.i64) zeroValue3))] [] [(64,.d (((az aD e2).getD (0:Int))≤aK))] ?_;rcases cg hm with⟨bK,hm⟩|⟨bK,hm⟩
     ·refine bX bK ?_;obtain⟨cv,dU,hm⟩:=bo hm;exact jl [(4,l3 137 (ap aB (bytes:=8) (by decide) dU))] [15,64] [] [61,74] [(61,.c 120 [.own 137,Y (aG ((if((az aD root).getD (0:Int))<dJ then((az aD root).getD (0:Int))else dJ)-aK))]),(137,.slice 3 1 (ar aB cv) 0 false)]<|Exists.intro cv (And.intro hm (jx [.kz 137 74] []))
     exact bW bK<|A.skip<|cF b1 hm
    rintro cU hm;rw[jt]at hm;exact dF [(0,aN (hg eW eO))] [56] [(56,Y ((cf+1:Nat):Int))]<|cF cU hm
   rintro cf b1 jb jE hm;rw[lz]at hm;refine aW [] [] [(57,.d ((cf:Int)<((fW (aD.map Prod.fst)).length:Int)))]<|A.seq<|bW (ht jE)<|A.exit ?_
   obtain⟨fB,eR,hm⟩:=bo hm;exact A.R bN [.cT [74],.sc 61 [20,542107002,24,61,542107003]] [(3,l3 113 (ap cQ (bytes:=32) (by decide) eR))] [(0,.own 20),(7,.c7 (bM .i64 (c9 .i64) aD)),(8,Y ((az aD root).getD (0:Int))),(9,.own 542107002),(10,.own 113),(32,.own 542107002),(33,Y ((hn (fW (aD.map Prod.snd))).length:Int)),(34,Y a1)] [(20,.slice 175 3 (ar ey ay) 0 false),(542107002,.slice 3 1 (ar aB (hn (fW (aD.map Prod.snd)))) 0 false),(113,.slice 120 2 (ar cQ fB) 0 false)] (by kernel_rfl)<|AW [(0,aN (hg cr fu))] [(0,.own 20),(7,.c7 (bM .i64 (c9 .i64) aD)),(8,Y ((az aD root).getD (0:Int))),(9,.own 542107002),(10,.own 113),(32,.own 542107002),(33,Y ((hn (fW (aD.map Prod.snd))).length:Int)),(34,Y ((a1+1:Nat):Int))] [(20,.slice 175 3 (ar ey ay) 0 false),(542107002,.slice 3 1 (ar aB (hn (fW (aD.map Prod.snd)))) 0 false),(113,.slice 120 2 (ar cQ fB) 0 false)]<|Exists.intro fB (And.intro hm (jx [.kz 113 24] []))
  rintro a1 i6 gM fv hm;rw[gL]at hm;exact aW [] [] [(35,.d ((a1:Int)<((hn (fW (aD.map Prod.snd))).length:Int)))]<|A.seq<|bW (ht fv)<|A.exit<|cF i6 hm
 rintro e6 hm;rw[iH]at hm;refine A.seq<|aW [(1,aN (dZ ey ay))] [] [(77,.own 20),(78,Y ay.length),(79,Y 0)] ?_
 refine A.block<|awb 0 rfl rfl λp0=>?_
 obtain⟨sp,sr,sE,sF,hm⟩:=hJ hm;refine avD (l:=ay) (gC:=0) (B:=sp) (K:=sr) hm (λe4=>λdH=>[(0,.own 20),(7,.c7 (bM .i64 (c9 .i64) aD)),(8,Y ((az aD root).getD (0:Int))),(10,.own 24),(77,.own 20),(78,Y ay.length),(79,Y e4)]) (λe4=>λdH=>[(20,.slice 175 3 (ar ey dH) 0 false),(24,.slice 120 2 (ar cQ e6) 0 false)]) ?_ ?_ ?_
 ·exact fN
 ·rintro e4 dj lV dH py lC hm;rw[sE]at hm;refine aW [] [] [(80,.d ((e4:Int)<ay.length))]<|A.seq<|bX (hv lC)<|A.skip ?_
  obtain⟨kV,ox,hm⟩:=jd hm;refine A.J (J:=kV) (r:=r) (λcH=>[(0,.own 20),(7,.c7 (bM .i64 (c9 .i64) aD)),(8,Y ((az aD root).getD (0:Int))),(10,.own 24),(77,.own 20),(78,Y ay.length),(79,Y e4)]) (λcH=>[(20,.slice 175 3 (ar ey cH) 0 false),(24,.slice 120 2 (ar cQ e6) 0 false)]) ?_ ?_
  ·refine A.block ?_;obtain⟨eo,jS,hm⟩:=bo hm;refine et [(1,c8 (ix ey jS)),(2,hf 20 0 (ix ey jS)),(3,.al 131)] [80] [(17,.ptr 131 0),(16,Y e4)] [] [(131,.cells 175 (xd eo))]<|aW [(4,nK aD eo.Hop.br (c9 .i64) (0:Int) o4 (tD (k:=.i64) zeroValue3))] [] [(18,Y ((az aD eo.Hop.br).getD (0:Int))),(19,.bool ((az aD eo.Hop.br).isSome))]<|et [(4,nK aD eo.Hop.bh (c9 .i64) (0:Int) o4 (tD (k:=.i64) zeroValue3))] [17] [(20,Y ((az aD eo.Hop.bh).getD (0:Int))),(21,.bool ((az aD eo.Hop.bh).isSome))] [131] []<|avM [(0,.own 20),(7,.c7 (bM .i64 (c9 .i64) aD)),(8,Y ((az aD root).getD (0:Int))),(10,.own 24),(77,.own 20),(78,Y ay.length),(79,Y e4),(16,Y e4),(18,Y ((az aD eo.Hop.br).getD (0:Int))),(20,Y ((az aD eo.Hop.bh).getD (0:Int))),(103,.bool (((az aD eo.Hop.br).isSome)&&((az aD eo.Hop.bh).isSome)))] [(20,.slice 175 3 (ar ey dH) 0 false),(24,.slice 120 2 (ar cQ e6) 0 false)] (λhk=>?_) ?_
   ·rcases j6 ((az aD eo.Hop.br).isSome)with cq|cq
    ·exact bl [(1,aN (cK cq)),(3,aN (mE (q:=(az aD eo.Hop.bh).isSome) cq))] _ _ hk
    exact bl [(1,aN (cK cq)),(3,aN (pa (q:=(az aD eo.Hop.bh).isSome) cq))] _ _ hk
   rcases cg hm with⟨en,hm⟩|⟨en,hm⟩
   ·refine bX en ?_;obtain⟨hC,iy,hm⟩:=bo hm;exact jl [(2,c8 (ix ey jS)),(4,hf 20 2 (ix ey jS)),(14,c8 (ix ey jS)),(16,o0 20 (st ey (off:=2) (ca:=[Y (aG (eo.dn-(if(aG ((if((az aD root).getD (0:Int))<((az aD eo.Hop.br).getD (0:Int))then((az aD root).getD (0:Int))else((az aD eo.Hop.br).getD (0:Int)))-(if((az aD root).getD (0:Int))<((az aD eo.Hop.bh).getD (0:Int))then((az aD root).getD (0:Int))else((az aD eo.Hop.bh).getD (0:Int)))))>(0:Int)then aG ((if((az aD root).getD (0:Int))<((az aD eo.Hop.br).getD (0:Int))then((az aD root).getD (0:Int))else((az aD eo.Hop.br).getD (0:Int)))-(if((az aD root).getD (0:Int))<((az aD eo.Hop.bh).getD (0:Int))then((az aD root).getD (0:Int))else((az aD eo.Hop.bh).getD (0:Int))))else(0:Int))))]) jS iy rfl) (pY jS).1.1)] [16,18,20,103] [] [20] [(20,.slice 175 3 (ar ey hC) 0 false)]<|cF hC hm
   exact bW en<|A.skip<|cF dH hm
  rintro cH hm;rw[ox]at hm;exact dF [(0,aN (hg lC p0))] [79] [(79,Y ((e4+1:Nat):Int))]<|cF cH hm
 rintro e4 dH py np hm;rw[sF]at hm;refine aW [] [] [(80,.d ((e4:Int)<ay.length))]<|A.seq<|bW (ht np)<|A.exit<|aW [] [0,7,8,10,77,78,79,80] [(6,.own 24)]<|A.ret ?_
 obtain rfl:=jN hm;exact avC bN [.kz 24 144] rfl (by kernel_rfl)
def aqA{lX:List (Int×Int)}{r:Int}(hm:Fz a b lX=some r):dR prog 105 [] [Y a,Y b,.gq [.c7 (bM .i64 (c9 .i64) lX)]] (Y r):=by
 refine dN func105 rfl rfl ?_;unfold Fz at hm;refine bl [] [(0,Y a),(1,Y b),(2,.gq [.c7 (bM .i64 (c9 .i64) lX)])] [] ?_;obtain⟨aD,h1,hm⟩:=bo hm;refine bl [(2,nK lX b (c9 .i64) (0:Int) o4 (tD (k:=.i64) zeroValue3)),(5,nK lX a (c9 .i64) (0:Int) o4 (tD (k:=.i64) zeroValue3)),(6,ch (sx h1) s7)] [(5,Y aD)] [] ?_;cases hm;exact A.ret cM
def aq1{t:bz}{eL:cO}{r:(wz)×Int}(hm:Ap t root eL=some r):dR prog 47 [] [.agg (cn t),Y root,bC aB eL] (.c5 [bC cQ r.1,Y r.2]):=by
 refine dN func47 rfl rfl ?_;unfold Ap at hm;refine bl [(0,.al 46)] [(1,Y root),(2,bC aB eL),(3,.ptr 46 0)] [(46,.cells 28 (cn t))]<|A.seq ?_
 obtain⟨aD,h1,hm⟩:=bo hm;refine aW [(3,ch (Jo h1) HR)] [] [(8,Y aD)]<|aW [] [] [(25,.bool (!decide (aD=0)))] ?_
 rcases cg hm with⟨bk,hm⟩|⟨bk,hm⟩
 ·refine bX bk<|bl [] [(6,.c6),(7,Y aD)] [] ?_
  cases hm;exact A.ret cM
 refine bW bk<|A.skip<|et [(0,.al 58),(1,.al 55)] [8,25] [(9,.ptr 55 0)] [] [(58,.map 3 3 (bM .i64 (c9 .i64) [])),(55,.c 144 [.dm 58])]<|A.seq<|aW [(1,aN (dZ aB eL))] [] [(28,bC aB eL),(29,Y eL.length),(30,Y 0)]<|A.block<|avJ 2 rfl λfu=>?_
 obtain⟨gU,gV,gK,gL,hm⟩:=hJ hm;refine avD (l:=eL) (gC:=0) (B:=gU) (K:=gV) hm (λa1=>λb1=>[(1,Y root),(2,bC aB eL),(3,.ptr 46 0),(9,.ptr 55 0),(28,bC aB eL),(29,Y eL.length),(30,Y a1)]) (λa1=>λb1=>[(46,.cells 28 (cn t)),(58,.map 3 3 (bM .i64 (c9 .i64) b1)),(55,.c 144 [.dm 58])]) ?_ ?_ ?_
 ·exact fN
 ·rintro a1 aK cI b1 gM cr hm;rw[gK]at hm;refine aW [] [] [(31,.d ((a1:Int)<eL.length))]<|A.seq<|bX (hv cr)<|A.skip<|A.seq<|A.block<|aW [(0,c8 (ix aB (fS cr)))] [31] [(11,Y aK)] ?_
  obtain⟨bB,D,hm⟩:=bo hm;refine aW [(3,ch (aq0 D) ajx)] [] [(12,Y bB.1),(13,.bool bB.2)]<|A.seq<|aW [] [13] [(42,.bool (!bB.2))] ?_
  rcases cg hm with⟨bK,hm⟩|⟨bK,hm⟩
  ·refine bX bK<|bl [] [(6,.c6),(7,Y 9)] [] ?_
   cases hm;exact A.ret cM
  exact bW bK<|A.skip<|jl [(3,wX (rZ (k:=.i64) (enc:=(c9 .i64)) b1 aK bB.1 rfl))] [11,12,42] [] [58] [(58,.map 3 3 (bM .i64 (c9 .i64) (bH b1 aK bB.1)))]<|dF [(0,aN (hg cr fu))] [30] [(30,Y ((a1+1:Nat):Int))]<|cF (bH b1 aK bB.1) hm
 rintro a1 b1 gM fv hm;rw[gL]at hm;refine aW [] [] [(31,.d ((a1:Int)<eL.length))]<|A.seq<|bW (ht fv)<|A.exit ?_
 obtain⟨cm,aq,hm⟩:=bo hm;refine et [(1,fq [39] (aoG aq) ajy)] [2,28,29,30,31] [(14,.own 39)] [] [(39,.slice 3 1 (ar aB cm) 0 false)]<|avF ((cB.go (ek:=[(1,Y root),(3,.ptr 46 0),(9,.ptr 55 0),(14,.own 39)]) (σ2:=[(46,.cells 28 (cn t)),(58,.k3 3 3 (bM .i64 (c9 .i64) b1)),(55,.c 144 [.c7 (bM .i64 (c9 .i64) b1)]),(39,.slice 3 1 (ar aB cm) 0 false)]) [.cT [58],.sc 55 []] [] (by kernel_rfl)).trans (awg (T:=144) (cs:=[.c7 (bM .i64 (c9 .i64) b1)]) 9 55 (by kernel_rfl) (by kernel_rfl) (by kernel_rfl))) ?_
 obtain⟨bZ,aZ,hm⟩:=bo hm;refine bl [(1,E3),(2,fq [] (pl.at [(120,39)] (aoi (gF:=105) (hq:=[.gq [.c7 (bM .i64 (c9 .i64) b1)]]) (iZ:=ajA) (i0:=λ_ _ _ h=>aqA h) aZ)) ajz)] [(1,Y root),(3,.ptr 46 0),(14,.own 39)] [(46,.cells 28 (cn t)),(39,.slice 3 1 (ar aB bZ) 0 false)] ?_;obtain⟨gJ,bV,hm⟩:=bo hm;refine et [(1,fq [31] (OJ bV) Mu)] [3] [(15,.own 31)] [46] [(31,.slice 175 3 (ar ey gJ) 0 false)]<|aW [] [] [(16,.c6)] ?_
 obtain⟨dK,iH,hm⟩:=jd hm;refine A.J (J:=dK) (r:=r) (λe6=>[(16,.own 59)]) (λe6=>[(59,.slice 120 2 (ar cQ e6) 0 false)]) ?_ ?_
 ·refine aW [(1,aN (dZ aB bZ))] [14] [(54,.own 39),(55,Y bZ.length),(56,Y 0)]<|A.block<|awb 54 rfl rfl λeO=>?_
  obtain⟨k8,jm,ll,lz,hm⟩:=hJ hm;refine avD (l:=bZ) (gC:=0) (B:=k8) (K:=jm) hm (λcf=>λ(xA,i6)=>[(1,Y root),(15,.own 63),(16,.own 59),(54,.own 39),(55,Y bZ.length),(56,Y cf)]) (λcf=>λ(xA,i6)=>[(39,.slice 3 1 (ar aB bZ) 0 false),(63,.slice 175 3 (ar ey xA) 0 false),(59,.slice 120 2 (ar cQ i6) 0 false)]) ?_ ?_ ?_
  ·exact jx [.kz 31 63,.ad 16 59 120 2] []
  ·rintro cf e2 gn ⟨xA,i6⟩ jb eW hm;rw[ll]at hm;refine aW [] [] [(57,.d ((cf:Int)<bZ.length))]<|A.seq<|bX (hv eW)<|A.skip ?_
   obtain⟨gv,jt,hm⟩:=jd hm;refine A.J (J:=gv) (r:=r) (λ(Dx,DG)=>[(1,Y root),(15,.own 63),(16,.own 59),(54,.own 39),(55,Y bZ.length),(56,Y cf)]) (λ(Dx,DG)=>[(39,.slice 3 1 (ar aB bZ) 0 false),(63,.slice 175 3 (ar ey Dx) 0 false),(59,.slice 120 2 (ar cQ DG) 0 false)]) ?_ ?_
   ·refine A.block<|aW [(0,c8 (ix aB (fS eW))),(1,hf 39 0 (ix aB (fS eW)))] [57] [(18,Y e2)] ?_
    refine A.seq<|aW [] [] [(62,.d (e2=root))] ?_
    rcases cg hm with⟨cq,hm⟩|⟨cq,hm⟩
    ·exact bX cq<|A.exit<|cF (xA,i6) hm
    refine bW cq<|A.skip ?_
    obtain⟨eG,dU,hm⟩:=bo hm;refine et [(3,fq [111] (pl.at [(20,63),(144,111)] (aqR dU)) ajB)] [18,62] [(19,.own 111)] [63] [(63,.slice 175 3 (ar ey eG.2) 0 false),(111,.slice 120 2 (ar cQ eG.1) 0 false)]<|A.seq<|aW [(1,aN (dZ cQ i6)),(3,aN (dZ cQ eG.1))] [] [(72,.d (200<aG ((i6.length:Int)+(eG.1.length:Int))))] ?_
    rcases cg hm with⟨en,hm⟩|⟨en,hm⟩
    ·exact bX en<|A.exit<|cF i6 hm
    refine bW en<|A.skip ?_
    obtain⟨cv,eR,hm⟩:=bo hm;exact A.R bN [.cT [111]] [(2,l3 143 (ap cQ (bytes:=32) (by decide) eR))] [(1,Y root),(15,.own 63),(16,.own 143),(54,.own 39),(55,Y bZ.length),(56,Y cf)] [(39,.slice 3 1 (ar aB bZ) 0 false),(63,.slice 175 3 (ar ey eG.2) 0 false),(143,.slice 120 2 (ar cQ cv) 0 false)] (by kernel_rfl)<|Exists.intro (eG.2,cv) (And.intro hm (jx [.kz 143 59] []))
   rintro⟨Dx,DG⟩ hm;rw[jt]at hm;exact dF [(0,aN (hg eW eO))] [56] [(56,Y ((cf+1:Nat):Int))]<|cF (Dx,DG) hm
  rintro cf ⟨xA,i6⟩ jb jE hm;rw[lz]at hm;exact aW [] [] [(57,.d ((cf:Int)<bZ.length))]<|A.seq<|bW (ht jE)<|A.exit<|cF i6 hm
 rintro e6 hm;rw[iH]at hm;refine aW [] [16] [(6,.own 59),(7,Y 0)]<|A.ret ?_
 obtain rfl:=jN hm;exact avC bN [.cT [59]] rfl (by kernel_rfl)
end
end Go.Proofs.YtmnbolcmepihlaaGreat
