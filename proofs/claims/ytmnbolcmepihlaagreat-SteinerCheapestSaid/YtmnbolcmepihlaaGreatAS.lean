/- The walk of the solver of mP trees: oI. No condition but bk aJ stand in each. -/
import Derived.Test.YtmnbolcmepihlaaGreatAR
namespace Go.Proofs.YtmnbolcmepihlaaGreat
set_option linter.all false
open Go Go.Proofs.Tryz
theorem rE{α:Type}{n x:Int}(v:α)(h:x≠n):∀l:List (Int×α),aM (bw l n v) x=aM l x
 |[]=>by
  have:¬n=x:=λe=>h e.symm
  simp[bw,aM,this]
 |p::r=>by
  unfold bw
  split
  ·rename_i hp
   have:¬p.1=x:=λe=>h (by rw[←e,hp])
   have h2:¬n=x:=λe=>h e.symm
   rw[fM,fM,if_neg this,if_neg h2]
  ·rw[fM,fM,rE v h r]
theorem l9(m:List (Int×Int))(r c x:Int):atM (bw m r c) x=if x=r then c else atM m x:=by
 unfold atM
 split
 ·rename_i h;subst h;rw[oO];rfl
 ·rename_i h;rw[rE _ h]
def phi(ay:List aq)(m:List (Int×Int)):Nat:=(ay.map λa=>(atM m a.Hop.aH).toNat).sum
theorem aax{m m':List (Int×Int)}(h:∀x,atM m' x≤atM m x):∀ay:List aq,phi ay m'≤phi ay m
 |[]=>Nat.le_refl _
 |a::r=>by
  have h1:=aax h r
  have h2:=h a.Hop.aH
  unfold phi at h1 ⊢
  simp only[List.map_cons,List.sum_cons]
  omega
theorem adv{m m':List (Int×Int)}(h:∀x,atM m' x≤atM m x){a:aq}(h0:0≤atM m' a.Hop.aH)(hlt:atM m' a.Hop.aH<atM m a.Hop.aH):∀{ay:List aq},a∈ay→phi ay m'<phi ay m
 |[],ha=>by cases ha
 |b::r,ha=>by
  have h2:=h b.Hop.aH
  rcases List.mem_cons.1 ha with rfl|ha
  ·have h1:=aax h r
   unfold phi at h1 ⊢
   simp only[List.map_cons,List.sum_cons]
   omega
  ·have h1:=adv h h0 hlt ha
   unfold phi at h1 ⊢
   simp only[List.map_cons,List.sum_cons]
   omega
theorem aff{ay:List aq}{xs1:List (List AV)}{m1:List (Int×Int)}{xs2:List (List AV)}{m2:List (Int×(Int×Int))}(hl:xs2.length=xs1.length)(J:List (Int×Int)→List (Int×(Int×Int))→Prop)(h0:J m1 m2)
  (hb:∀m1 m2,J m1 m2→∀r,0≤atM m1 r∧atM m1 r≤2305843009213693951) (ha:∀a∈ay,0≤a.bO∧a.bO≤1000000)
  (hJ:∀m1 m2 a,J m1 m2→a∈ay→a.bO+atM m1 a.Hop.To<atM m1 a.Hop.aH→J (bw m1 a.Hop.aH (a.bO+atM m1 a.Hop.To)) (bw m2 a.Hop.aH (a.Hop.To,0))) :
  b8 prog 121 (sol ay xs1 m1 xs2 m2) [.ptr 910000000 0,.int .i64 (xs1.length:Int)] (λa σ'=>a=.tup []∧∃n1 n2,J n1 n2∧(∀a∈ay,atM n1 a.Hop.aH≤a.bO+atM n1 a.Hop.To)∧σ'=sol ay xs1 n1 xs2 n2):=by
 refine aY func121 rfl rfl ?_
 refine A.RS W0 [] [] [(0,.ptr 910000000 0),(1,.int .i64 (xs1.length:Int)),(4,.bool true)] (sol ay xs1 m1 xs2 m2) (by kernel_rfl) ?_
 refine A.block ?_
 refine A.loop (α:=List (Int×Int)×List (Int×(Int×Int))×Bool) (λg=>[(0,.ptr 910000000 0),(1,.int .i64 (xs1.length:Int)),(4,.bool g.2.2)]) (λg=>sol ay xs1 g.1 xs2 g.2.1) (λg=>J g.1 g.2.1∧(g.2.2=false→∀a∈ay,atM g.1 a.Hop.aH≤a.bO+atM g.1 a.Hop.To)) (λg=>phi ay g.1+(bif g.2.2 then 1 else 0)) (m1,m2,true) ⟨h0,λh=>by cases h⟩ (aV.go [] [] (by kernel_rfl)) ?_
 rintro⟨u1,u2,ch⟩ ⟨hu,hs⟩
 simp only at hu hs
 refine A.seq ?_
 refine A.RS W0 [] [] [(0,.ptr 910000000 0),(1,.int .i64 (xs1.length:Int)),(4,.bool ch),(7,.bool ch)] (sol ay xs1 u1 xs2 u2) (by kernel_rfl) ?_
 cases ch with
 |false=>
  refine A.cF rfl rfl ?_
  refine A.exit ?_
  refine kr.mono (A.fin W0 [] (R:=.tup []) (σ2:=sol ay xs1 u1 xs2 u2) rfl (by kernel_rfl)) ?_
  rintro a s ⟨rfl,rfl⟩
  exact⟨rfl,u1,u2,hu,hs rfl,rfl⟩
 |true=>
  refine A.cT rfl rfl ?_
  refine A.skip ?_
  show af _ _ _ _ _
  refine A.block ?_
  refine A.RS W0 [] [] [(0,.ptr 910000000 0),(1,.int .i64 (xs1.length:Int)),(4,.bool false)] (sol ay xs1 u1 xs2 u2) (by kernel_rfl) ?_
  refine A.RS W0 [] [(4,hto (lnE aR ay))] [(0,.ptr 910000000 0),(1,.int .i64 (xs1.length:Int)),(4,.bool false),(11,.lst false (ml aR ay)),(12,.int .i64 (ay.length:Int)),(13,.int .i64 0)] (sol ay xs1 u1 xs2 u2) (by kernel_rfl) ?_
  refine A.block ?_
  refine A.bS 11 rfl λhbn=>?_
  refine A.loop (α:=Nat×List (Int×Int)×List (Int×(Int×Int))×Bool) (λg=>[(0,.ptr 910000000 0),(1,.int .i64 (xs1.length:Int)),(4,.bool g.2.2.2),(11,.lst false (ml aR ay)),(12,.int .i64 (ay.length:Int)),(13,.int .i64 (g.1:Int))]) (λg=>sol ay xs1 g.2.1 xs2 g.2.2.1)
   (λg=>g.1≤ay.length∧J g.2.1 g.2.2.1∧(g.2.2.2=false→(g.2.1=u1∧g.2.2.1=u2)∧∀i a,i<g.1→ay[i]?=some a→atM u1 a.Hop.aH≤a.bO+atM u1 a.Hop.To)∧(g.2.2.2=true→phi ay g.2.1<phi ay u1)∧∀x,atM g.2.1 x≤atM u1 x) (λg=>ay.length-g.1) (0,u1,u2,false) ⟨Nat.zero_le _,hu,λ_=>⟨⟨rfl,rfl⟩,λi a hi=>by omega⟩,λh=>(by cases h),λx=>Int.le_refl _⟩ (aV.go [] [] (by kernel_rfl)) ?_
  rintro⟨j,v1,v2,ch⟩ ⟨hj,hv,hn,hy,hle⟩
  simp only at hj hv hn hy hle
  refine A.RS W0 [] [] [(0,.ptr 910000000 0),(1,.int .i64 (xs1.length:Int)),(4,.bool ch),(11,.lst false (ml aR ay)),(12,.int .i64 (ay.length:Int)),(13,.int .i64 (j:Int)),(14,.bool (decide ((j:Int)<(ay.length:Int))))] (sol ay xs1 v1 xs2 v2) (by kernel_rfl) ?_
  refine A.seq ?_
  by_cases hjl:j<ay.length
  ·have hx:ay[j]?=some ay[j]:=List.getElem?_eq_getElem hjl
   generalize ay[j]=e at hx
   have hem:e∈ay:=List.mem_of_getElem? hx
   obtain⟨c0,c1⟩:=ha e hem
   obtain⟨b0,b1⟩:=hb v1 v2 hv e.Hop.To
   have hw:w64 (e.bO+atM v1 e.Hop.To)=e.bO+atM v1 e.Hop.To:=cL (by omega) (by omega)
   refine A.cT rfl (ltT hx) ?_
   refine A.skip ?_
   show af _ _ _ _ _
   refine A.seq ?_
   refine A.block ?_
   refine A.RS W0 [] [(0,hix (ix aR (bh hx))),(2,.al 910000006)] [(0,.ptr 910000000 0),(1,.int .i64 (xs1.length:Int)),(4,.bool ch),(11,.lst false (ml aR ay)),(12,.int .i64 (ay.length:Int)),(13,.int .i64 (j:Int)),(6,.ptr 910000006 0)] (sol ay xs1 v1 xs2 v2++[(910000006,.cells 175 [.int .i64 e.Hop.aH,.int .i64 e.Hop.To,.int .i64 e.bO])]) (by kernel_rfl) ?_
   by_cases hlt:e.bO+atM v1 e.Hop.To<atM v1 e.Hop.aH
   ·refine A.RS W0 [] [(12,hro (xB (ay:=ay) (xs1:=xs1) (m1:=v1) (xs2:=xs2) (m2:=v2) e.Hop.To) sO),(13,hto (show AV.int .i64 (w64 (e.bO+atM v1 e.Hop.To))=AV.int .i64 (e.bO+atM v1 e.Hop.To)by rw[hw])),(18,hdc [] (yl (ay:=ay) (m1:=v1) (m2:=v2) e.Hop.aH (e.bO+atM v1 e.Hop.To) e.Hop.To 0 hl hlt) vi)] [(0,.ptr 910000000 0),(1,.int .i64 (xs1.length:Int)),(11,.lst false (ml aR ay)),(12,.int .i64 (ay.length:Int)),(13,.int .i64 (j:Int)),(35,.bool true)] (sol ay xs1 (bw v1 e.Hop.aH (e.bO+atM v1 e.Hop.To)) xs2 (bw v2 e.Hop.aH (e.Hop.To,0))) (by kernel_rfl) ?_
    refine A.cT rfl rfl ?_
    refine A.R W0 [] [] [(0,.ptr 910000000 0),(1,.int .i64 (xs1.length:Int)),(4,.bool true),(11,.lst false (ml aR ay)),(12,.int .i64 (ay.length:Int)),(13,.int .i64 (j:Int))] (sol ay xs1 (bw v1 e.Hop.aH (e.bO+atM v1 e.Hop.To)) xs2 (bw v2 e.Hop.aH (e.Hop.To,0))) (by kernel_rfl) ?_
    show af _ _ _ _ _
    refine A.R W0 [] [(0,hto (inc hx hbn))] [(0,.ptr 910000000 0),(1,.int .i64 (xs1.length:Int)),(4,.bool true),(11,.lst false (ml aR ay)),(12,.int .i64 (ay.length:Int)),(13,.int .i64 ((j+1:Nat):Int))] (sol ay xs1 (bw v1 e.Hop.aH (e.bO+atM v1 e.Hop.To)) xs2 (bw v2 e.Hop.aH (e.Hop.To,0))) (by kernel_rfl) ?_
    have hJ':=hJ v1 v2 e hv hem hlt
    have hle':∀x,atM (bw v1 e.Hop.aH (e.bO+atM v1 e.Hop.To)) x≤atM v1 x:=λx=>by
     rw[l9]
     split
     ·rename_i h;subst h;omega
     ·omega
    have hph:phi ay (bw v1 e.Hop.aH (e.bO+atM v1 e.Hop.To))<phi ay v1:=adv hle' (hb _ _ hJ' _).1 (by rw[l9,if_pos rfl];exact hlt) hem
    have hph2:phi ay v1≤phi ay u1:=aax hle ay
    refine⟨(j+1,bw v1 e.Hop.aH (e.bO+atM v1 e.Hop.To),bw v2 e.Hop.aH (e.Hop.To,0),true),⟨hjl,hJ',λh=>(by cases h),λ_=>Nat.lt_of_lt_of_le hph hph2,λx=>Int.le_trans (hle' x) (hle x)⟩,by simp only;omega,aV.go [] [] (by kernel_rfl)⟩
   ·refine A.RS W0 [] [(12,hro (xB (ay:=ay) (xs1:=xs1) (m1:=v1) (xs2:=xs2) (m2:=v2) e.Hop.To) sO),(13,hto (show AV.int .i64 (w64 (e.bO+atM v1 e.Hop.To))=AV.int .i64 (e.bO+atM v1 e.Hop.To)by rw[hw])),(18,hdc [] (yj (ay:=ay) (xs1:=xs1) (m1:=v1) (xs2:=xs2) (m2:=v2) e.Hop.aH (e.bO+atM v1 e.Hop.To) e.Hop.To 0 (Int.not_lt.1 hlt)) vi)] [(0,.ptr 910000000 0),(1,.int .i64 (xs1.length:Int)),(4,.bool ch),(11,.lst false (ml aR ay)),(12,.int .i64 (ay.length:Int)),(13,.int .i64 (j:Int)),(35,.bool false)] (sol ay xs1 v1 xs2 v2) (by kernel_rfl) ?_
    refine A.cF rfl rfl ?_
    refine A.skip ?_
    show af _ _ _ _ _
    refine A.R W0 [] [(0,hto (inc hx hbn))] [(0,.ptr 910000000 0),(1,.int .i64 (xs1.length:Int)),(4,.bool ch),(11,.lst false (ml aR ay)),(12,.int .i64 (ay.length:Int)),(13,.int .i64 ((j+1:Nat):Int))] (sol ay xs1 v1 xs2 v2) (by kernel_rfl) ?_
    refine⟨(j+1,v1,v2,ch),⟨hjl,hv,λh=>⟨(hn h).1,λi a hi hia=>?_⟩,hy,hle⟩,by simp only;omega,aV.go [] [] (by kernel_rfl)⟩
    rcases Nat.lt_or_eq_of_le (Nat.le_of_lt_succ hi)with hi|hi
    ·exact(hn h).2 i a hi hia
    ·subst hi
     rw[hx]at hia
     cases hia
     have:=(hn h).1.1
     rw[←this];omega
  ·refine A.cF rfl (ltF (by omega)) ?_
   refine A.exit ?_
   refine⟨(v1,v2,ch),⟨hv,λh a ham=>?_⟩,?_,aV.go [] [] (by kernel_rfl)⟩
   ·obtain⟨⟨e1,e2⟩,h3⟩:=hn h
    obtain⟨i,hi⟩:=List.getElem?_of_mem ham
    rw[e1]
    exact h3 i a (by have:=(List.getElem?_eq_some_iff.1 hi).1;omega) hi
   ·cases ch with
    |true=>have:=hy rfl;simp only[cond_true];omega
    |false=>
     have:=(hn rfl).1.1
     rw[this]
     simp only[cond_false,cond_true];omega
end Go.Proofs.YtmnbolcmepihlaaGreat
