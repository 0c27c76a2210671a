/- The walk of the solver of oz trees: qt. No condition but aX aL stand in each. -/
import Derived.Test.YtmnbolcmepihlaaGreatAR
namespace Go.Proofs.YtmnbolcmepihlaaGreat
set_option linter.all false
open Go Go.Proofs.Tryz
theorem tF{α:Type}{n x:Int}(v:α)(h:x≠n):∀l:List (Int×α),aT (bG l n v) x=aT l x
 |[]=>by
  have:¬n=x:=λe=>h e.symm;simp[bG,aT,this]
 |p::r=>by
  unfold bG;split
  ·rename_i hp;have:¬p.1=x:=λe=>h (by rw[←e,hp]);have h2:¬n=x:=λe=>h e.symm;rw[gz,gz,if_neg this,if_neg h2]
  ·rw[gz,gz,tF v h r]
theorem nL(m:List (Int×Int))(r c x:Int):atM (bG m r c) x=if x=r then c else atM m x:=by
 unfold atM;split
 ·rename_i h;subst h;rw[qB];rfl
 ·rename_i h;rw[tF _ h]
def phi(aq:List ai)(m:List (Int×Int)):Nat:=(aq.map λa=>(atM m a.Hop.aD).toNat).sum
theorem acZ{m m':List (Int×Int)}(h:∀x,atM m' x≤atM m x):∀aq:List ai,phi aq m'≤phi aq m
 |[]=>Nat.le_refl _
 |a::r=>by
  have h1:=acZ h r;have h2:=h a.Hop.aD;unfold phi at h1 ⊢;simp only[List.map_cons,List.sum_cons];omega
theorem agd{m m':List (Int×Int)}(h:∀x,atM m' x≤atM m x){a:ai}(h0:0≤atM m' a.Hop.aD)(hlt:atM m' a.Hop.aD<atM m a.Hop.aD):∀{aq:List ai},a∈aq→phi aq m'<phi aq m
 |[],ha=>by cases ha
 |b::r,ha=>by
  have h2:=h b.Hop.aD;rcases List.mem_cons.1 ha with rfl|ha
  ·have h1:=acZ h r;unfold phi at h1 ⊢;simp only[List.map_cons,List.sum_cons];omega
  ·have h1:=agd h h0 hlt ha;unfold phi at h1 ⊢;simp only[List.map_cons,List.sum_cons];omega
theorem aih{aq:List ai}{xs1:List (List AV)}{m1:List (Int×Int)}{xs2:List (List AV)}{m2:List (Int×(Int×Int))}(hl:xs2.length=xs1.length)(J:List (Int×Int)→List (Int×(Int×Int))→Prop)(h0:J m1 m2)
  (hb:∀m1 m2,J m1 m2→∀r,0≤atM m1 r∧atM m1 r≤2305843009213693951) (ha:∀a∈aq,0≤a.cU∧a.cU≤1000000)
  (hJ:∀m1 m2 a,J m1 m2→a∈aq→a.cU+atM m1 a.Hop.To<atM m1 a.Hop.aD→J (bG m1 a.Hop.aD (a.cU+atM m1 a.Hop.To)) (bG m2 a.Hop.aD (a.Hop.To,0))) :
  bZ prog 121 (sol aq xs1 m1 xs2 m2) [.ptr 910000000 0,.int .i64 (xs1.length:Int)] (λa σ'=>a=.tup []∧∃n1 n2,J n1 n2∧(∀a∈aq,atM n1 a.Hop.aD≤a.cU+atM n1 a.Hop.To)∧σ'=sol aq xs1 n1 xs2 n2):=by
 refine aY func121 rfl rfl ?_;refine A.RS W0 [] [] [(0,.ptr 910000000 0),(1,.int .i64 (xs1.length:Int)),(4,.bool true)] (sol aq xs1 m1 xs2 m2) (by kernel_rfl) ?_;refine A.block ?_;refine A.loop (α:=List (Int×Int)×List (Int×(Int×Int))×Bool) (λg=>[(0,.ptr 910000000 0),(1,.int .i64 (xs1.length:Int)),(4,.bool g.2.2)]) (λg=>sol aq xs1 g.1 xs2 g.2.1) (λg=>J g.1 g.2.1∧(g.2.2=false→∀a∈aq,atM g.1 a.Hop.aD≤a.cU+atM g.1 a.Hop.To)) (λg=>phi aq g.1+(bif g.2.2 then 1 else 0)) (m1,m2,true) ⟨h0,λh=>by cases h⟩ (aZ.go [] [] (by kernel_rfl)) ?_;rintro⟨u1,u2,ch⟩ ⟨hu,hs⟩;simp only at hu hs;refine A.seq ?_;refine A.RS W0 [] [] [(0,.ptr 910000000 0),(1,.int .i64 (xs1.length:Int)),(4,.bool ch),(7,.bool ch)] (sol aq xs1 u1 xs2 u2) (by kernel_rfl) ?_;cases ch with
 |false=>
  refine A.cF rfl rfl ?_;refine A.exit ?_;refine nI.mono (A.fin W0 [] (R:=.tup []) (σ2:=sol aq xs1 u1 xs2 u2) rfl (by kernel_rfl)) ?_;rintro a s ⟨rfl,rfl⟩;exact⟨rfl,u1,u2,hu,hs rfl,rfl⟩
 |true=>
  refine A.cT rfl rfl ?_;refine A.skip ?_;show ah _ _ _ _ _;refine A.block ?_;refine A.RS W0 [] [] [(0,.ptr 910000000 0),(1,.int .i64 (xs1.length:Int)),(4,.bool false)] (sol aq xs1 u1 xs2 u2) (by kernel_rfl) ?_;refine A.RS W0 [] [(4,hto (lnE aG aq))] [(0,.ptr 910000000 0),(1,.int .i64 (xs1.length:Int)),(4,.bool false),(11,.lst false (ml aG aq)),(12,.int .i64 (aq.length:Int)),(13,.int .i64 0)] (sol aq xs1 u1 xs2 u2) (by kernel_rfl) ?_;refine A.block ?_;refine A.bS 11 rfl λhbn=>?_
  refine A.loop (α:=Nat×List (Int×Int)×List (Int×(Int×Int))×Bool) (λg=>[(0,.ptr 910000000 0),(1,.int .i64 (xs1.length:Int)),(4,.bool g.2.2.2),(11,.lst false (ml aG aq)),(12,.int .i64 (aq.length:Int)),(13,.int .i64 (g.1:Int))]) (λg=>sol aq xs1 g.2.1 xs2 g.2.2.1)
   (λg=>g.1≤aq.length∧J g.2.1 g.2.2.1∧(g.2.2.2=false→(g.2.1=u1∧g.2.2.1=u2)∧∀i a,i<g.1→aq[i]?=some a→atM u1 a.Hop.aD≤a.cU+atM u1 a.Hop.To)∧(g.2.2.2=true→phi aq g.2.1<phi aq u1)∧∀x,atM g.2.1 x≤atM u1 x) (λg=>aq.length-g.1) (0,u1,u2,false) ⟨Nat.zero_le _,hu,λ_=>⟨⟨rfl,rfl⟩,λi a hi=>by omega⟩,λh=>(by cases h),λx=>Int.le_refl _⟩ (aZ.go [] [] (by kernel_rfl)) ?_
  rintro⟨j,v1,v2,ch⟩ ⟨hj,hv,hn,hy,hle⟩;simp only at hj hv hn hy hle;refine A.RS W0 [] [] [(0,.ptr 910000000 0),(1,.int .i64 (xs1.length:Int)),(4,.bool ch),(11,.lst false (ml aG aq)),(12,.int .i64 (aq.length:Int)),(13,.int .i64 (j:Int)),(14,.bool (decide ((j:Int)<(aq.length:Int))))] (sol aq xs1 v1 xs2 v2) (by kernel_rfl) ?_;refine A.seq ?_;by_cases hjl:j<aq.length
  ·have hx:aq[j]?=some aq[j]:=List.getElem?_eq_getElem hjl;generalize aq[j]=e at hx;have hem:e∈aq:=List.mem_of_getElem? hx;obtain⟨c0,c1⟩:=ha e hem;obtain⟨b0,b1⟩:=hb v1 v2 hv e.Hop.To;have hw:w64 (e.cU+atM v1 e.Hop.To)=e.cU+atM v1 e.Hop.To:=cM (by omega) (by omega);refine A.cT rfl (ltT hx) ?_;refine A.skip ?_;show ah _ _ _ _ _;refine A.seq ?_;refine A.block ?_;refine A.RS W0 [] [(0,hix (ix aG (bn hx))),(2,.al 910000006)] [(0,.ptr 910000000 0),(1,.int .i64 (xs1.length:Int)),(4,.bool ch),(11,.lst false (ml aG aq)),(12,.int .i64 (aq.length:Int)),(13,.int .i64 (j:Int)),(6,.ptr 910000006 0)] (sol aq xs1 v1 xs2 v2++[(910000006,.cells 175 [.int .i64 e.Hop.aD,.int .i64 e.Hop.To,.int .i64 e.cU])]) (by kernel_rfl) ?_;by_cases hlt:e.cU+atM v1 e.Hop.To<atM v1 e.Hop.aD
   ·refine A.RS W0 [] [(12,hro (zU (aq:=aq) (xs1:=xs1) (m1:=v1) (xs2:=xs2) (m2:=v2) e.Hop.To) uX),(13,hto (show AV.int .i64 (w64 (e.cU+atM v1 e.Hop.To))=AV.int .i64 (e.cU+atM v1 e.Hop.To)by rw[hw])),(18,hdc [] (aaG (aq:=aq) (m1:=v1) (m2:=v2) e.Hop.aD (e.cU+atM v1 e.Hop.To) e.Hop.To 0 hl hlt) xQ)] [(0,.ptr 910000000 0),(1,.int .i64 (xs1.length:Int)),(11,.lst false (ml aG aq)),(12,.int .i64 (aq.length:Int)),(13,.int .i64 (j:Int)),(35,.bool true)] (sol aq xs1 (bG v1 e.Hop.aD (e.cU+atM v1 e.Hop.To)) xs2 (bG v2 e.Hop.aD (e.Hop.To,0))) (by kernel_rfl) ?_;refine A.cT rfl rfl ?_;refine A.R W0 [] [] [(0,.ptr 910000000 0),(1,.int .i64 (xs1.length:Int)),(4,.bool true),(11,.lst false (ml aG aq)),(12,.int .i64 (aq.length:Int)),(13,.int .i64 (j:Int))] (sol aq xs1 (bG v1 e.Hop.aD (e.cU+atM v1 e.Hop.To)) xs2 (bG v2 e.Hop.aD (e.Hop.To,0))) (by kernel_rfl) ?_;show ah _ _ _ _ _;refine A.R W0 [] [(0,hto (inc hx hbn))] [(0,.ptr 910000000 0),(1,.int .i64 (xs1.length:Int)),(4,.bool true),(11,.lst false (ml aG aq)),(12,.int .i64 (aq.length:Int)),(13,.int .i64 ((j+1:Nat):Int))] (sol aq xs1 (bG v1 e.Hop.aD (e.cU+atM v1 e.Hop.To)) xs2 (bG v2 e.Hop.aD (e.Hop.To,0))) (by kernel_rfl) ?_;have hJ':=hJ v1 v2 e hv hem hlt
    have hle':∀x,atM (bG v1 e.Hop.aD (e.cU+atM v1 e.Hop.To)) x≤atM v1 x:=λx=>by
     rw[nL];split
     ·rename_i h;subst h;omega
     ·omega
    have hph:phi aq (bG v1 e.Hop.aD (e.cU+atM v1 e.Hop.To))<phi aq v1:=agd hle' (hb _ _ hJ' _).1 (by rw[nL,if_pos rfl];exact hlt) hem;have hph2:phi aq v1≤phi aq u1:=acZ hle aq;refine⟨(j+1,bG v1 e.Hop.aD (e.cU+atM v1 e.Hop.To),bG v2 e.Hop.aD (e.Hop.To,0),true),⟨hjl,hJ',λh=>(by cases h),λ_=>Nat.lt_of_lt_of_le hph hph2,λx=>Int.le_trans (hle' x) (hle x)⟩,by simp only;omega,aZ.go [] [] (by kernel_rfl)⟩
   ·refine A.RS W0 [] [(12,hro (zU (aq:=aq) (xs1:=xs1) (m1:=v1) (xs2:=xs2) (m2:=v2) e.Hop.To) uX),(13,hto (show AV.int .i64 (w64 (e.cU+atM v1 e.Hop.To))=AV.int .i64 (e.cU+atM v1 e.Hop.To)by rw[hw])),(18,hdc [] (aaF (aq:=aq) (xs1:=xs1) (m1:=v1) (xs2:=xs2) (m2:=v2) e.Hop.aD (e.cU+atM v1 e.Hop.To) e.Hop.To 0 (Int.not_lt.1 hlt)) xQ)] [(0,.ptr 910000000 0),(1,.int .i64 (xs1.length:Int)),(4,.bool ch),(11,.lst false (ml aG aq)),(12,.int .i64 (aq.length:Int)),(13,.int .i64 (j:Int)),(35,.bool false)] (sol aq xs1 v1 xs2 v2) (by kernel_rfl) ?_;refine A.cF rfl rfl ?_;refine A.skip ?_;show ah _ _ _ _ _;refine A.R W0 [] [(0,hto (inc hx hbn))] [(0,.ptr 910000000 0),(1,.int .i64 (xs1.length:Int)),(4,.bool ch),(11,.lst false (ml aG aq)),(12,.int .i64 (aq.length:Int)),(13,.int .i64 ((j+1:Nat):Int))] (sol aq xs1 v1 xs2 v2) (by kernel_rfl) ?_;refine⟨(j+1,v1,v2,ch),⟨hjl,hv,λh=>⟨(hn h).1,λi a hi hia=>?_⟩,hy,hle⟩,by simp only;omega,aZ.go [] [] (by kernel_rfl)⟩;rcases Nat.lt_or_eq_of_le (Nat.le_of_lt_succ hi)with hi|hi
    ·exact(hn h).2 i a hi hia
    ·subst hi;rw[hx]at hia;cases hia;have:=(hn h).1.1;rw[←this];omega
  ·refine A.cF rfl (ltF (by omega)) ?_;refine A.exit ?_;refine⟨(v1,v2,ch),⟨hv,λh a ham=>?_⟩,?_,aZ.go [] [] (by kernel_rfl)⟩
   ·obtain⟨⟨e1,e2⟩,h3⟩:=hn h;obtain⟨i,hi⟩:=List.getElem?_of_mem ham;rw[e1];exact h3 i a (by have:=(List.getElem?_eq_some_iff.1 hi).1;omega) hi
   ·cases ch with
    |true=>have:=hy rfl;simp only[cond_true];omega
    |false=>
     have:=(hn rfl).1.1;rw[this];simp only[cond_false,cond_true];omega
end Go.Proofs.YtmnbolcmepihlaaGreat
