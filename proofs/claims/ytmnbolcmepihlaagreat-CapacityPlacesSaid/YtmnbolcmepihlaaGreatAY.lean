/- Several texts in one. No condition but those that stand in each. -/
import Derived.Test.YtmnbolcmepihlaaGreatT
import Derived.Test.YtmnbolcmepihlaaGreatB6
namespace Go.Proofs.YtmnbolcmepihlaaGreat
set_option linter.all false
open Go Go.Proofs.Tryz
def vS(s:Int×Int):AV:=.agg [.int .i64 s.1,.int .i64 s.2]
def atM(m:List (Int×Int))(r:Int):Int:=(aY m r).getD 2305843009213693951
abbrev sol(ay:List ah)(xs1:List (List AV))(m1:List (Int×Int))(xs2:List (List AV))(m2:List (Int×(Int×Int))):Sto:=
 [(910000000,.cells 165 [.lst false (ml aH ay),.own 910000001,.own 910000003]),(910000001,.slm 144 xs1 910000002),(910000002,.map 3 3 (bU .i64 (vI .i64) m1)),(910000003,.slm 166 xs2 910000004),(910000004,.map 3 169 (bU .i64 vS m2))]
theorem zI3:∀w,∃v,(zeroValue 3).run prog w=.ok v w∧∀I,aB I (vI .i64 0) v:=λw=>⟨_,zeroValue3 w,λI=>by simp[aB,vI]⟩
variable {ay:List ah}{m1:List (Int×Int)}{m2:List (Int×(Int×Int))}{xs1 xs2:List (List AV)}
theorem aab(r:Int):RO prog 120 (sol ay xs1 m1 xs2 m2) [.ptr 910000000 0,.int .i64 (xs1.length:Int),.int .i64 r] (.int .i64 (atM m1 r)):=by
 refine aZ func120 rfl rfl ?_;refine A.RS W0 [] [] [(0,.ptr 910000000 0),(1,.int .i64 (xs1.length:Int)),(2,.int .i64 r)] (sol ay xs1 m1 xs2 m2) (by kernel_rfl) ?_;refine A.seq ?_;refine A.RS W0 [] [(5,hxi (xs:=xs1) (i:=(xs1.length:Int)) zO ⟨by omega,by omega⟩),(6,hxl (xs:=xs1) (p:=(xs1.length:Int).toNat) zM (by omega)),(8,hlk (lk (E:=3) (k:=.i64) (enc:=vI .i64) m1 r 0 zI3))] [(7,.int .i64 ((aY m1 r).getD 0)),(8,.bool (aY m1 r).isSome)] (sol ay xs1 m1 xs2 m2) (by kernel_rfl) ?_;refine A.RS W0 [] [] [(7,.int .i64 ((aY m1 r).getD 0)),(21,.bool (aY m1 r).isSome)] (sol ay xs1 m1 xs2 m2) (by kernel_rfl) ?_;cases hg:aY m1 r with
 |some c=>
  refine A.cT rfl rfl ?_;refine A.RS W0 [] [] [(6,.int .i64 c)] (sol ay xs1 m1 xs2 m2) (by kernel_rfl) ?_;refine A.ret ?_;have e:atM m1 r=c:=by unfold atM;rw[hg];rfl
  rw[e];exact A.fin W0 [] rfl (by kernel_rfl)
 |none=>
  refine A.cF rfl rfl ?_;refine A.skip ?_;show af _ _ _ _ _;refine A.RS W0 [] [] [(6,.int .i64 2305843009213693951)] (sol ay xs1 m1 xs2 m2) (by kernel_rfl) ?_;refine A.ret ?_;have e:atM m1 r=2305843009213693951:=by unfold atM;rw[hg];rfl
  rw[e];exact A.fin W0 [] rfl (by kernel_rfl)
theorem agu{rows:List (List (Int×Int))}{s:Int}{m:List (Int×Int)}(r:Int)(hs:elO rows s=some m):
  RO prog 120 (sol ay (rows.map λm=>[.mpf (bU .i64 (vI .i64) m)]) m1 xs2 m2) [.ptr 910000000 0,.int .i64 s,.int .i64 r] (.int .i64 (atM m r)):=by
 obtain⟨h0,h1⟩:=(show 0≤s∧rows[s.toNat]?=some m by unfold elO at hs;split at hs;exact⟨‹_›,hs⟩;cases hs);have hlt:=(List.getElem?_eq_some_iff.1 h1).1;have hrow:(rows.map λm=>[AV.mpf (bU .i64 (vI .i64) m)])[s.toNat]?=some [.mpf (bU .i64 (vI .i64) m)]:=by rw[List.getElem?_map,h1];rfl
 have hlen:0≤s∧s<((rows.map λm=>[AV.mpf (bU .i64 (vI .i64) m)]).length:Int)+1:=by rw[List.length_map];omega
 generalize hxs:(rows.map λm=>[AV.mpf (bU .i64 (vI .i64) m)])=xs1 at hrow hlen ⊢;refine aZ func120 rfl rfl ?_;refine A.RS W0 [] [] [(0,.ptr 910000000 0),(1,.int .i64 s),(2,.int .i64 r)] (sol ay xs1 m1 xs2 m2) (by kernel_rfl) ?_;refine A.seq ?_;refine A.RS W0 [] [(5,hxi (xs:=xs1) (i:=s) zO hlen),(6,hxo (xs:=xs1) (p:=s.toNat) zM hrow),(8,hlf (k:=.i64) m r (vI .i64) 0 zN zI3)] [(7,.int .i64 ((aY m r).getD 0)),(8,.bool (aY m r).isSome)] (sol ay xs1 m1 xs2 m2) (by kernel_rfl) ?_;refine A.RS W0 [] [] [(7,.int .i64 ((aY m r).getD 0)),(21,.bool (aY m r).isSome)] (sol ay xs1 m1 xs2 m2) (by kernel_rfl) ?_;cases hg:aY m r with
 |some c=>
  refine A.cT rfl rfl ?_;refine A.RS W0 [] [] [(6,.int .i64 c)] (sol ay xs1 m1 xs2 m2) (by kernel_rfl) ?_;refine A.ret ?_;have e:atM m r=c:=by unfold atM;rw[hg];rfl
  rw[e];exact A.fin W0 [] rfl (by kernel_rfl)
 |none=>
  refine A.cF rfl rfl ?_;refine A.skip ?_;show af _ _ _ _ _;refine A.RS W0 [] [] [(6,.int .i64 2305843009213693951)] (sol ay xs1 m1 xs2 m2) (by kernel_rfl) ?_;refine A.ret ?_;have e:atM m r=2305843009213693951:=by unfold atM;rw[hg];rfl
  rw[e];exact A.fin W0 [] rfl (by kernel_rfl)
theorem aaN(r c nx pt:Int)(hc:atM m1 r≤c):
  b9 prog 119 (sol ay xs1 m1 xs2 m2) [.ptr 910000000 0,.int .i64 (xs1.length:Int),.int .i64 r,.int .i64 c,.agg [.int .i64 nx,.int .i64 pt]] (λa σ'=>a=.bool false∧σ'=sol ay xs1 m1 xs2 m2):=by
 refine aZ func119 rfl rfl ?_;refine A.RS W0 [] [(0,.al 910000005)] [(0,.ptr 910000000 0),(1,.int .i64 (xs1.length:Int)),(2,.int .i64 r),(3,.int .i64 c)] (sol ay xs1 m1 xs2 m2) (by kernel_rfl) ?_;refine A.seq ?_;refine A.RS W0 [] [(4,hro (aab (ay:=ay) (xs1:=xs1) (m1:=m1) (xs2:=xs2) (m2:=m2) r) vn)] [(16,.bool (decide (atM m1 r≤c)))] (sol ay xs1 m1 xs2 m2) (by kernel_rfl) ?_;refine A.cT rfl (decide_eq_true hc) ?_;refine A.RS W0 [] [] [(10,.bool false)] (sol ay xs1 m1 xs2 m2) (by kernel_rfl) ?_;refine A.ret ?_;exact A.fin W0 [] rfl (by kernel_rfl)
theorem zS:∀w,(zeroValue 169).run prog w=.ok (.agg #[.int .i64 0,.int .i64 0]) w:=λw=>zeroValue169 w
theorem zSc:∀I,aB I (vS (0,0)) (.agg #[.int .i64 0,.int .i64 0]):=λI=>by
 simp only[vS,aB,aS];exact⟨_,rfl,_,_,rfl,rfl,_,_,rfl,rfl,rfl⟩
theorem aaO(r c nx pt:Int)(hl:xs2.length=xs1.length)(hc:c<atM m1 r):
  b9 prog 119 (sol ay xs1 m1 xs2 m2) [.ptr 910000000 0,.int .i64 (xs1.length:Int),.int .i64 r,.int .i64 c,.agg [.int .i64 nx,.int .i64 pt]] (λa σ'=>a=.bool true∧σ'=sol ay xs1 (bN m1 r c) xs2 (bN m2 r (nx,pt))):=by
 rw[←wX r ((aY m1 r).getD 0) c m1,←wX r ((aY m2 r).getD (0,0)) (nx,pt) m2];refine aZ func119 rfl rfl ?_;refine A.RS W0 [] [(0,.al 910000005)] [(0,.ptr 910000000 0),(1,.int .i64 (xs1.length:Int)),(2,.int .i64 r),(3,.int .i64 c),(9,.ptr 910000005 0)] (sol ay xs1 m1 xs2 m2++[(910000005,.cells 169 [.int .i64 nx,.int .i64 pt])]) (by kernel_rfl) ?_;refine A.seq ?_;refine A.RS W0 [] [(4,hro (aab (ay:=ay) (xs1:=xs1) (m1:=m1) (xs2:=xs2) (m2:=m2) r) vn)] [(0,.ptr 910000000 0),(1,.int .i64 (xs1.length:Int)),(2,.int .i64 r),(3,.int .i64 c),(9,.ptr 910000005 0),(16,.bool (decide (atM m1 r≤c)))] (sol ay xs1 m1 xs2 m2++[(910000005,.cells 169 [.int .i64 nx,.int .i64 pt])]) (by kernel_rfl) ?_;refine A.cF rfl (decide_eq_false (by omega)) ?_;refine A.skip ?_;show af _ _ _ _ _;refine A.ahU (d:=910000002) (K:=3) (E:=3) (aL:=bU .i64 (vI .i64) m1) rfl λes1 k1=>?_;refine A.ahU (d:=910000004) (K:=3) (E:=169) (aL:=bU .i64 vS m2) rfl λes2 k2=>?_
 refine A.RS W0 [] [(5,hxi (xs:=xs1) (i:=(xs1.length:Int)) zO ⟨by omega,by omega⟩),(6,hxl (xs:=xs1) (p:=(xs1.length:Int).toNat) zM (by omega)),(13,hxi (xs:=xs2) (i:=(xs1.length:Int)) ajp ⟨by omega,by omega⟩),(14,hxl (xs:=xs2) (p:=(xs1.length:Int).toNat) ajq (by omega)),
   (18,hme (k:=.i64) r m1 (vI .i64) 0 es1 k1 zN (λw=>zeroValue3 w) (λI=>by simp[aB,vI])),(20,hes (k:=.i64) (a0:=(aY m1 r).getD 0) r (.int .i64 0) (bN m1 r ((aY m1 r).getD 0)) (vI .i64) c es1 k1 (qM _ _ _) rfl),
   (21,hme (k:=.i64) r m2 vS (0,0) es2 k2 wJ zS zSc),(23,hes (k:=.i64) (a0:=(aY m2 r).getD (0,0)) r (.agg #[.int .i64 0,.int .i64 0]) (bN m2 r ((aY m2 r).getD (0,0))) vS (nx,pt) es2 k2 (qM _ _ _) rfl)]
  [] (sol ay xs1 (bN (bN m1 r ((aY m1 r).getD 0)) r c) xs2 (bN (bN m2 r ((aY m2 r).getD (0,0))) r (nx,pt))) (by kernel_rfl) ?_
 refine A.RS W0 [] [] [(10,.bool true)] (sol ay xs1 (bN (bN m1 r ((aY m1 r).getD 0)) r c) xs2 (bN (bN m2 r ((aY m2 r).getD (0,0))) r (nx,pt))) (by kernel_rfl) ?_;refine A.ret ?_;exact A.fin W0 [] rfl (by kernel_rfl)
end Go.Proofs.YtmnbolcmepihlaaGreat
namespace Go.Proofs.YtmnbolcmepihlaaGreat
set_option linter.all false
open Go Go.Proofs.Tryz
theorem tU{α:Type}{n x:Int}(v:α)(h:x≠n):∀l:List (Int×α),aY (bN l n v) x=aY l x
 |[]=>by
  have:¬n=x:=λe=>h e.symm;simp[bN,aY,this]
 |p::r=>by
  unfold bN;split
  ·rename_i hp;have:¬p.1=x:=λe=>h (by rw[←e,hp]);have h2:¬n=x:=λe=>h e.symm;rw[gD,gD,if_neg this,if_neg h2]
  ·rw[gD,gD,tU v h r]
theorem nQ(m:List (Int×Int))(r c x:Int):atM (bN m r c) x=if x=r then c else atM m x:=by
 unfold atM;split
 ·rename_i h;subst h;rw[qM];rfl
 ·rename_i h;rw[tU _ h]
def phi(ay:List ah)(m:List (Int×Int)):Nat:=(ay.map λa=>(atM m a.Hop.aD).toNat).sum
theorem ac2{m m':List (Int×Int)}(h:∀x,atM m' x≤atM m x):∀ay:List ah,phi ay m'≤phi ay m
 |[]=>Nat.le_refl _
 |a::r=>by
  have h1:=ac2 h r;have h2:=h a.Hop.aD;unfold phi at h1 ⊢;simp only[List.map_cons,List.sum_cons];omega
theorem agv{m m':List (Int×Int)}(h:∀x,atM m' x≤atM m x){a:ah}(h0:0≤atM m' a.Hop.aD)(hlt:atM m' a.Hop.aD<atM m a.Hop.aD):∀{ay:List ah},a∈ay→phi ay m'<phi ay m
 |[],ha=>by cases ha
 |b::r,ha=>by
  have h2:=h b.Hop.aD;rcases List.mem_cons.1 ha with rfl|ha
  ·have h1:=ac2 h r;unfold phi at h1 ⊢;simp only[List.map_cons,List.sum_cons];omega
  ·have h1:=agv h h0 hlt ha;unfold phi at h1 ⊢;simp only[List.map_cons,List.sum_cons];omega
theorem aiw{ay:List ah}{xs1:List (List AV)}{m1:List (Int×Int)}{xs2:List (List AV)}{m2:List (Int×(Int×Int))}(hl:xs2.length=xs1.length)(J:List (Int×Int)→List (Int×(Int×Int))→Prop)(h0:J m1 m2)
  (hb:∀m1 m2,J m1 m2→∀r,0≤atM m1 r∧atM m1 r≤2305843009213693951) (ha:∀a∈ay,0≤a.dx∧a.dx≤1000000)
  (hJ:∀m1 m2 a,J m1 m2→a∈ay→a.dx+atM m1 a.Hop.To<atM m1 a.Hop.aD→J (bN m1 a.Hop.aD (a.dx+atM m1 a.Hop.To)) (bN m2 a.Hop.aD (a.Hop.To,0))) :
  b9 prog 121 (sol ay xs1 m1 xs2 m2) [.ptr 910000000 0,.int .i64 (xs1.length:Int)] (λa σ'=>a=.tup []∧∃n1 n2,J n1 n2∧(∀a∈ay,atM n1 a.Hop.aD≤a.dx+atM n1 a.Hop.To)∧σ'=sol ay xs1 n1 xs2 n2):=by
 refine aZ func121 rfl rfl ?_;refine A.RS W0 [] [] [(0,.ptr 910000000 0),(1,.int .i64 (xs1.length:Int)),(4,.bool true)] (sol ay xs1 m1 xs2 m2) (by kernel_rfl) ?_;refine A.block ?_;refine A.loop (α:=List (Int×Int)×List (Int×(Int×Int))×Bool) (λg=>[(0,.ptr 910000000 0),(1,.int .i64 (xs1.length:Int)),(4,.bool g.2.2)]) (λg=>sol ay xs1 g.1 xs2 g.2.1) (λg=>J g.1 g.2.1∧(g.2.2=false→∀a∈ay,atM g.1 a.Hop.aD≤a.dx+atM g.1 a.Hop.To)) (λg=>phi ay g.1+(bif g.2.2 then 1 else 0)) (m1,m2,true) ⟨h0,λh=>by cases h⟩ (aU.go [] [] (by kernel_rfl)) ?_;rintro⟨u1,u2,ch⟩ ⟨hu,hs⟩;simp only at hu hs;refine A.seq ?_;refine A.RS W0 [] [] [(0,.ptr 910000000 0),(1,.int .i64 (xs1.length:Int)),(4,.bool ch),(7,.bool ch)] (sol ay xs1 u1 xs2 u2) (by kernel_rfl) ?_;cases ch with
 |false=>
  refine A.cF rfl rfl ?_;refine A.exit ?_;refine nO.mono (A.fin W0 [] (R:=.tup []) (σ2:=sol ay xs1 u1 xs2 u2) rfl (by kernel_rfl)) ?_;rintro a s ⟨rfl,rfl⟩;exact⟨rfl,u1,u2,hu,hs rfl,rfl⟩
 |true=>
  refine A.cT rfl rfl ?_;refine A.skip ?_;show af _ _ _ _ _;refine A.block ?_;refine A.RS W0 [] [] [(0,.ptr 910000000 0),(1,.int .i64 (xs1.length:Int)),(4,.bool false)] (sol ay xs1 u1 xs2 u2) (by kernel_rfl) ?_;refine A.RS W0 [] [(4,hto (lnE aH ay))] [(0,.ptr 910000000 0),(1,.int .i64 (xs1.length:Int)),(4,.bool false),(11,.lst false (ml aH ay)),(12,.int .i64 (ay.length:Int)),(13,.int .i64 0)] (sol ay xs1 u1 xs2 u2) (by kernel_rfl) ?_;refine A.block ?_;refine A.bS 11 rfl λhbn=>?_
  refine A.loop (α:=Nat×List (Int×Int)×List (Int×(Int×Int))×Bool) (λg=>[(0,.ptr 910000000 0),(1,.int .i64 (xs1.length:Int)),(4,.bool g.2.2.2),(11,.lst false (ml aH ay)),(12,.int .i64 (ay.length:Int)),(13,.int .i64 (g.1:Int))]) (λg=>sol ay xs1 g.2.1 xs2 g.2.2.1)
   (λg=>g.1≤ay.length∧J g.2.1 g.2.2.1∧(g.2.2.2=false→(g.2.1=u1∧g.2.2.1=u2)∧∀i a,i<g.1→ay[i]?=some a→atM u1 a.Hop.aD≤a.dx+atM u1 a.Hop.To)∧(g.2.2.2=true→phi ay g.2.1<phi ay u1)∧∀x,atM g.2.1 x≤atM u1 x) (λg=>ay.length-g.1) (0,u1,u2,false) ⟨Nat.zero_le _,hu,λ_=>⟨⟨rfl,rfl⟩,λi a hi=>by omega⟩,λh=>(by cases h),λx=>Int.le_refl _⟩ (aU.go [] [] (by kernel_rfl)) ?_
  rintro⟨j,v1,v2,ch⟩ ⟨hj,hv,hn,hy,hle⟩;simp only at hj hv hn hy hle;refine A.RS W0 [] [] [(0,.ptr 910000000 0),(1,.int .i64 (xs1.length:Int)),(4,.bool ch),(11,.lst false (ml aH ay)),(12,.int .i64 (ay.length:Int)),(13,.int .i64 (j:Int)),(14,.bool (decide ((j:Int)<(ay.length:Int))))] (sol ay xs1 v1 xs2 v2) (by kernel_rfl) ?_;refine A.seq ?_;by_cases hjl:j<ay.length
  ·have hx:ay[j]?=some ay[j]:=List.getElem?_eq_getElem hjl;generalize ay[j]=e at hx;have hem:e∈ay:=List.mem_of_getElem? hx;obtain⟨c0,c1⟩:=ha e hem;obtain⟨b0,b1⟩:=hb v1 v2 hv e.Hop.To;have hw:w64 (e.dx+atM v1 e.Hop.To)=e.dx+atM v1 e.Hop.To:=cH (by omega) (by omega);refine A.cT rfl (ltT hx) ?_;refine A.skip ?_;show af _ _ _ _ _;refine A.seq ?_;refine A.block ?_;refine A.RS W0 [] [(0,hix (ix aH (bu hx))),(2,.al 910000006)] [(0,.ptr 910000000 0),(1,.int .i64 (xs1.length:Int)),(4,.bool ch),(11,.lst false (ml aH ay)),(12,.int .i64 (ay.length:Int)),(13,.int .i64 (j:Int)),(6,.ptr 910000006 0)] (sol ay xs1 v1 xs2 v2++[(910000006,.cells 175 [.int .i64 e.Hop.aD,.int .i64 e.Hop.To,.int .i64 e.dx])]) (by kernel_rfl) ?_;by_cases hlt:e.dx+atM v1 e.Hop.To<atM v1 e.Hop.aD
   ·refine A.RS W0 [] [(12,hro (aab (ay:=ay) (xs1:=xs1) (m1:=v1) (xs2:=xs2) (m2:=v2) e.Hop.To) vn),(13,hto (show AV.int .i64 (w64 (e.dx+atM v1 e.Hop.To))=AV.int .i64 (e.dx+atM v1 e.Hop.To)by rw[hw])),(18,hdc [] (aaO (ay:=ay) (m1:=v1) (m2:=v2) e.Hop.aD (e.dx+atM v1 e.Hop.To) e.Hop.To 0 hl hlt) xV)] [(0,.ptr 910000000 0),(1,.int .i64 (xs1.length:Int)),(11,.lst false (ml aH ay)),(12,.int .i64 (ay.length:Int)),(13,.int .i64 (j:Int)),(35,.bool true)] (sol ay xs1 (bN v1 e.Hop.aD (e.dx+atM v1 e.Hop.To)) xs2 (bN v2 e.Hop.aD (e.Hop.To,0))) (by kernel_rfl) ?_;refine A.cT rfl rfl ?_;refine A.R W0 [] [] [(0,.ptr 910000000 0),(1,.int .i64 (xs1.length:Int)),(4,.bool true),(11,.lst false (ml aH ay)),(12,.int .i64 (ay.length:Int)),(13,.int .i64 (j:Int))] (sol ay xs1 (bN v1 e.Hop.aD (e.dx+atM v1 e.Hop.To)) xs2 (bN v2 e.Hop.aD (e.Hop.To,0))) (by kernel_rfl) ?_;show af _ _ _ _ _;refine A.R W0 [] [(0,hto (inc hx hbn))] [(0,.ptr 910000000 0),(1,.int .i64 (xs1.length:Int)),(4,.bool true),(11,.lst false (ml aH ay)),(12,.int .i64 (ay.length:Int)),(13,.int .i64 ((j+1:Nat):Int))] (sol ay xs1 (bN v1 e.Hop.aD (e.dx+atM v1 e.Hop.To)) xs2 (bN v2 e.Hop.aD (e.Hop.To,0))) (by kernel_rfl) ?_;have hJ':=hJ v1 v2 e hv hem hlt
    have hle':∀x,atM (bN v1 e.Hop.aD (e.dx+atM v1 e.Hop.To)) x≤atM v1 x:=λx=>by
     rw[nQ];split
     ·rename_i h;subst h;omega
     ·omega
    have hph:phi ay (bN v1 e.Hop.aD (e.dx+atM v1 e.Hop.To))<phi ay v1:=agv hle' (hb _ _ hJ' _).1 (by rw[nQ,if_pos rfl];exact hlt) hem;have hph2:phi ay v1≤phi ay u1:=ac2 hle ay;refine⟨(j+1,bN v1 e.Hop.aD (e.dx+atM v1 e.Hop.To),bN v2 e.Hop.aD (e.Hop.To,0),true),⟨hjl,hJ',λh=>(by cases h),λ_=>Nat.lt_of_lt_of_le hph hph2,λx=>Int.le_trans (hle' x) (hle x)⟩,by simp only;omega,aU.go [] [] (by kernel_rfl)⟩
   ·refine A.RS W0 [] [(12,hro (aab (ay:=ay) (xs1:=xs1) (m1:=v1) (xs2:=xs2) (m2:=v2) e.Hop.To) vn),(13,hto (show AV.int .i64 (w64 (e.dx+atM v1 e.Hop.To))=AV.int .i64 (e.dx+atM v1 e.Hop.To)by rw[hw])),(18,hdc [] (aaN (ay:=ay) (xs1:=xs1) (m1:=v1) (xs2:=xs2) (m2:=v2) e.Hop.aD (e.dx+atM v1 e.Hop.To) e.Hop.To 0 (Int.not_lt.1 hlt)) xV)] [(0,.ptr 910000000 0),(1,.int .i64 (xs1.length:Int)),(4,.bool ch),(11,.lst false (ml aH ay)),(12,.int .i64 (ay.length:Int)),(13,.int .i64 (j:Int)),(35,.bool false)] (sol ay xs1 v1 xs2 v2) (by kernel_rfl) ?_;refine A.cF rfl rfl ?_;refine A.skip ?_;show af _ _ _ _ _;refine A.R W0 [] [(0,hto (inc hx hbn))] [(0,.ptr 910000000 0),(1,.int .i64 (xs1.length:Int)),(4,.bool ch),(11,.lst false (ml aH ay)),(12,.int .i64 (ay.length:Int)),(13,.int .i64 ((j+1:Nat):Int))] (sol ay xs1 v1 xs2 v2) (by kernel_rfl) ?_;refine⟨(j+1,v1,v2,ch),⟨hjl,hv,λh=>⟨(hn h).1,λi a hi hia=>?_⟩,hy,hle⟩,by simp only;omega,aU.go [] [] (by kernel_rfl)⟩;rcases Nat.lt_or_eq_of_le (Nat.le_of_lt_succ hi)with hi|hi
    ·exact(hn h).2 i a hi hia
    ·subst hi;rw[hx]at hia;cases hia;have:=(hn h).1.1;rw[←this];omega
  ·refine A.cF rfl (ltF (by omega)) ?_;refine A.exit ?_;refine⟨(v1,v2,ch),⟨hv,λh a ham=>?_⟩,?_,aU.go [] [] (by kernel_rfl)⟩
   ·obtain⟨⟨e1,e2⟩,h3⟩:=hn h;obtain⟨i,hi⟩:=List.getElem?_of_mem ham;rw[e1];exact h3 i a (by have:=(List.getElem?_eq_some_iff.1 hi).1;omega) hi
   ·cases ch with
    |true=>have:=hy rfl;simp only[cond_true];omega
    |false=>
     have:=(hn rfl).1.1;rw[this];simp only[cond_false,cond_true];omega
end Go.Proofs.YtmnbolcmepihlaaGreat
namespace Go.Proofs.YtmnbolcmepihlaaGreat
set_option linter.all false
open Go Go.Proofs.Tryz
def eMI:En (List (Int×Int)):=⟨λm=>[.mpf (bU .i64 (vI .i64) m)],1,λ_=>rfl,λ_=>rfl,λ_=>rfl⟩
def eMS:En (List (Int×(Int×Int))):=⟨λm=>[.mpf (bU .i64 vS m)],1,λ_=>rfl,λ_=>rfl,λ_=>rfl⟩
abbrev bag(o:Nat)(l:List az):Sto:=[(910000010,.cells 34 [.own o]),(o,.slice 84 2 (ml aJ l) 0 false)]
theorem aix{α:Type}{l r:List α}(h:l.length+r.length≤549755813888):gn l r=some (l++r):=by unfold gn;rw[if_pos (by unfold cap;exact h)]
theorem aiy{l:List az}(h:az)(hl:l.length+1≤549755813888):
  b9 prog 123 (bag 910000011 l) [.agg [.int .i64 h.aD,.int .i64 h.To],.ptr 910000010 0] (λa σ'=>a=.tup []∧σ'=bag 910000012 (l++[h])):=by
 have hap1:gn l ([h]:List az)=some (l++[h]):=aix hl;refine aZ func123 rfl rfl ?_;refine A.RS W0 [] [(0,.al 910000013)] [(1,.ptr 910000010 0),(2,.ptr 910000013 0)] (bag 910000011 l++[(910000013,.cells 84 [.int .i64 h.aD,.int .i64 h.To])]) (by kernel_rfl) ?_;refine A.R W0 [] [(3,hap 910000014 (ap aJ (bytes:=16) (by decide) hap1))] [] (bag 910000014 (l++[h])) (by kernel_rfl) ?_;exact A.fin W0 [.sw 910000014 910000012] rfl (by kernel_rfl)
inductive Col(st:List (List (Int×(Int×Int)))):Int→Int→List az→Prop
 |leaf {s r:Int} {m:List (Int×(Int×Int))} (h:elO st s=some m) (hn:(aY m r).getD (0,0)=(0,0)):Col st s r []
 |next {s r:Int} {m:List (Int×(Int×Int))} {x:Int×Int} {H:List az} (h:elO st s=some m) (hx:(aY m r).getD (0,0)=x) (hn:x.1≠0) (hc:Col st s x.1 H):Col st s r (az.mk r x.1::H)
 |part {s r:Int} {m:List (Int×(Int×Int))} {x:Int×Int} {H K:List az} {s2:Int} (h:elO st s=some m) (hx:(aY m r).getD (0,0)=x) (h1:x.1=0) (hn:x.2≠0) (h2:s2=fk .andNot .i64 s x.2) (hc:Col st x.2 r H) (hk:Col st s2 r K):Col st s r (H++K)
theorem zSx:∀w,∃v,(zeroValue 169).run prog w=.ok v w∧∀I,aB I (vS (0,0)) v:=λw=>⟨_,zS w,zSc⟩
theorem afi{ay:List ah}{st1:List (List (Int×Int))}{st:List (List (Int×(Int×Int)))}{s r:Int}{H:List az}(hC:Col st s r H):∀{l:List az},l.length+H.length≤549755813888→
  b9 prog 122 (bag 910000011 l) [.cV [.lst false (ml aH ay),.lst false (ml eMI st1),.lst false (ml eMS st)],.int .i64 s,.int .i64 r,.fn 123 [.ptr 910000010 0]] (λa σ'=>a=.tup []∧σ'=bag 910000012 (l++H)):=by
 induction hC with
 |@leaf s r m h hn=>
  intro l _;rw[List.append_nil];refine aZ func122 rfl rfl ?_;refine A.RS W0 [] [(5,hix (ix eMS h)),(8,hlf (k:=.i64) m r vS (0,0) wJ zSx),(9,.al 910000015)] [(8,.ptr 910000015 0)] (bag 910000011 l++[(910000015,.cells 169 [.int .i64 ((aY m r).getD (0,0)).1,.int .i64 ((aY m r).getD (0,0)).2])]) (by kernel_rfl) ?_;refine A.block ?_;refine A.RS W0 [] [] [(8,.ptr 910000015 0),(18,.bool (!decide (((aY m r).getD (0,0)).1=(0:Int))))] (bag 910000011 l++[(910000015,.cells 169 [.int .i64 ((aY m r).getD (0,0)).1,.int .i64 ((aY m r).getD (0,0)).2])]) (by kernel_rfl) ?_;refine A.cF rfl (by rw[hn];rfl) ?_;refine A.RS W0 [] [] [(34,.bool (!decide (((aY m r).getD (0,0)).2=(0:Int))))] (bag 910000011 l) (by kernel_rfl) ?_;refine A.cF rfl (by rw[hn];rfl) ?_;refine A.skip ?_;exact A.fin W0 [.rn 910000011 910000012] rfl (by kernel_rfl)
 |@next s r m x H h hx hn hc ih=>
  intro l hl;subst hx;simp only[List.length_cons]at hl;rw[show l++(az.mk r ((aY m r).getD (0,0)).1::H)=(l++[az.mk r ((aY m r).getD (0,0)).1])++H by simp];have ih':=@ih (l++[az.mk r ((aY m r).getD (0,0)).1]) (by simp;omega);refine aZ func122 rfl rfl ?_;refine A.RS W0 [] [(5,hix (ix eMS h)),(8,hlf (k:=.i64) m r vS (0,0) wJ zSx),(9,.al 910000015)] [(0,.cV [.lst false (ml aH ay),.lst false (ml eMI st1),.lst false (ml eMS st)]),(1,.int .i64 s),(2,.int .i64 r),(3,.fn 123 [.ptr 910000010 0]),(8,.ptr 910000015 0)] (bag 910000011 l++[(910000015,.cells 169 [.int .i64 ((aY m r).getD (0,0)).1,.int .i64 ((aY m r).getD (0,0)).2])]) (by kernel_rfl) ?_;refine A.block ?_;refine A.RS W0 [] [] [(0,.cV [.lst false (ml aH ay),.lst false (ml eMI st1),.lst false (ml eMS st)]),(1,.int .i64 s),(2,.int .i64 r),(3,.fn 123 [.ptr 910000010 0]),(8,.ptr 910000015 0),(18,.bool (!decide (((aY m r).getD (0,0)).1=(0:Int))))] (bag 910000011 l++[(910000015,.cells 169 [.int .i64 ((aY m r).getD (0,0)).1,.int .i64 ((aY m r).getD (0,0)).2])]) (by kernel_rfl) ?_;refine A.cT rfl (by simp[hn]) ?_;refine A.RS W0 [] [(5,hdc [910000012] (aiy (l:=l) (az.mk r ((aY m r).getD (0,0)).1) (by omega)) ar5)] [(0,.cV [.lst false (ml aH ay),.lst false (ml eMI st1),.lst false (ml eMS st)]),(1,.int .i64 s),(3,.fn 123 [.ptr 910000010 0]),(8,.ptr 910000015 0)] (bag 910000012 (l++[az.mk r ((aY m r).getD (0,0)).1])++[(910000015,.cells 169 [.int .i64 ((aY m r).getD (0,0)).1,.int .i64 ((aY m r).getD (0,0)).2])]) (by kernel_rfl) ?_;refine A.R W0 [] [(5,hdc [910000017] (SC.at [(910000011,910000012),(910000012,910000017)] ih') ab3)] [] (bag 910000017 ((l++[az.mk r ((aY m r).getD (0,0)).1])++H)) (by kernel_rfl) ?_;exact A.fin W0 [.sw 910000017 910000012] rfl (by kernel_rfl)
 |@part s r m x H K s2 h hx h1 hn h2 hc hk ih1 ih2=>
  intro l hl;subst hx;subst h2;rw[List.length_append]at hl;rw[show l++(H++K)=(l++H)++K by simp];have ih1':=@ih1 l (by omega);have ih2':=@ih2 (l++H) (by simp;omega);refine aZ func122 rfl rfl ?_;refine A.RS W0 [] [(5,hix (ix eMS h)),(8,hlf (k:=.i64) m r vS (0,0) wJ zSx),(9,.al 910000015)] [(0,.cV [.lst false (ml aH ay),.lst false (ml eMI st1),.lst false (ml eMS st)]),(1,.int .i64 s),(2,.int .i64 r),(3,.fn 123 [.ptr 910000010 0]),(8,.ptr 910000015 0)] (bag 910000011 l++[(910000015,.cells 169 [.int .i64 ((aY m r).getD (0,0)).1,.int .i64 ((aY m r).getD (0,0)).2])]) (by kernel_rfl) ?_;refine A.block ?_;refine A.RS W0 [] [] [(0,.cV [.lst false (ml aH ay),.lst false (ml eMI st1),.lst false (ml eMS st)]),(1,.int .i64 s),(2,.int .i64 r),(3,.fn 123 [.ptr 910000010 0]),(8,.ptr 910000015 0),(18,.bool (!decide (((aY m r).getD (0,0)).1=(0:Int))))] (bag 910000011 l++[(910000015,.cells 169 [.int .i64 ((aY m r).getD (0,0)).1,.int .i64 ((aY m r).getD (0,0)).2])]) (by kernel_rfl) ?_;refine A.cF rfl (by simp[h1]) ?_;refine A.RS W0 [] [] [(0,.cV [.lst false (ml aH ay),.lst false (ml eMI st1),.lst false (ml eMS st)]),(1,.int .i64 s),(2,.int .i64 r),(3,.fn 123 [.ptr 910000010 0]),(8,.ptr 910000015 0),(34,.bool (!decide (((aY m r).getD (0,0)).2=(0:Int))))] (bag 910000011 l++[(910000015,.cells 169 [.int .i64 ((aY m r).getD (0,0)).1,.int .i64 ((aY m r).getD (0,0)).2])]) (by kernel_rfl) ?_;refine A.cT rfl (by simp[hn]) ?_;refine A.RS W0 [] [(5,hdc [910000012] ih1' ab3)] [(0,.cV [.lst false (ml aH ay),.lst false (ml eMI st1),.lst false (ml eMS st)]),(1,.int .i64 s),(2,.int .i64 r),(3,.fn 123 [.ptr 910000010 0]),(8,.ptr 910000015 0)] (bag 910000012 (l++H)++[(910000015,.cells 169 [.int .i64 ((aY m r).getD (0,0)).1,.int .i64 ((aY m r).getD (0,0)).2])]) (by kernel_rfl) ?_;refine A.R W0 [] [(7,hdc [910000017] (SC.at [(910000011,910000012),(910000012,910000017)] ih2') ab3)] [] (bag 910000017 ((l++H)++K)) (by kernel_rfl) ?_;exact A.fin W0 [.sw 910000017 910000012] rfl (by kernel_rfl)
end Go.Proofs.YtmnbolcmepihlaaGreat
namespace Go.Proofs.YtmnbolcmepihlaaGreat
set_option linter.all false
open Go
def fS(a b:Nat):Nat:=(BitVec.ofNat 64 a &&& ~~~ BitVec.ofNat 64 b).toNat
variable {a b:Nat}
theorem vG(ha:a<2 ^ 60)(hb:b<2 ^ 60)(i:Nat):(fS a b).testBit i=(a.testBit i&&!b.testBit i):=by
 unfold fS;rw[BitVec.toNat_and,Nat.testBit_and,BitVec.toNat_ofNat,Nat.mod_eq_of_lt (by omega)];by_cases hi:i<64
 ·congr 1;rw[←BitVec.getLsbD,BitVec.getLsbD_not,BitVec.getLsbD_ofNat];simp[hi]
 ·have:a.testBit i=false:=Nat.testBit_lt_two_pow (Nat.lt_of_lt_of_le ha (Nat.pow_le_pow_right (by omega) (by omega)));rw[this];rfl
theorem aaP(ha:a<2 ^ 60):fS a b≤a:=by
 unfold fS;rw[BitVec.toNat_and,BitVec.toNat_ofNat,Nat.mod_eq_of_lt (by omega)];exact Nat.and_le_left
theorem vH(ha:a<2 ^ 60)(hb:b<2 ^ 60):fk .and .i64 (a:Int) (b:Int)=((a &&& b:Nat):Int):=by
 have h1:(a &&& b)≤a:=Nat.and_le_left;show w64 (((BitVec.ofInt 64 (a:Int) &&& BitVec.ofInt 64 (b:Int)).toNat:Nat):Int)=_;rw[BitVec.ofInt_natCast,BitVec.ofInt_natCast,BitVec.toNat_and,BitVec.toNat_ofNat,BitVec.toNat_ofNat,Nat.mod_eq_of_lt (by omega),Nat.mod_eq_of_lt (by omega)];exact cH (by omega) (by omega)
theorem w9(ha:a<2 ^ 60):fk .andNot .i64 (a:Int) (b:Int)=((fS a b:Nat):Int):=by
 have h1:=aaP (a:=a) (b:=b) ha;show w64 (((BitVec.ofInt 64 (a:Int) &&& ~~~ BitVec.ofInt 64 (b:Int)).toNat:Nat):Int)=_;rw[BitVec.ofInt_natCast,BitVec.ofInt_natCast];exact cH (by show -9223372036854775808≤((fS a b:Nat):Int);omega) (by show((fS a b:Nat):Int)≤_;omega)
theorem vJ:∀(p S q:Nat),p &&& S=p→q &&& S=q→q<p→q≤(p-1) &&& S:=by
 intro p;induction p using Nat.strongRecOn with
 |_ p ih=>
  intro S q hp hq hlt
  have d2:∀a b:Nat,(a &&& b) / 2=a / 2 &&& b / 2:=λa b=>by
   have:=Nat.and_div_two_pow (a:=a) (b:=b) (n:=1);simpa using this
  have m2:∀a b:Nat,(a &&& b)%2=(a%2) &&& (b%2):=λa b=>by
   have:=Nat.and_mod_two_pow (a:=a) (b:=b) (n:=1);simpa using this
  have hp2:p / 2 &&& S / 2=p / 2:=by rw[←d2,hp]
  have hq2:q / 2 &&& S / 2=q / 2:=by rw[←d2,hq]
  have hq3:(q%2) &&& (S%2)=q%2:=by rw[←m2,hq]
  have hp3:(p%2) &&& (S%2)=p%2:=by rw[←m2,hp]
  have e2:=d2 (p-1) S;have e3:=m2 (p-1) S;rcases Nat.mod_two_eq_zero_or_one p with hpm|hpm
  ·have h1:(p-1) / 2=p / 2-1:=by omega
   have h2:(p-1)%2=1:=by omega
   have h3:=ih (p / 2) (by omega) (S / 2) (q / 2) hp2 hq2 (by omega);rw[h1]at e2;rw[h2]at e3;have h4:1 &&& (S%2)=S%2:=by rcases Nat.mod_two_eq_zero_or_one S with h|h<;>rw[h]<;>rfl
   rw[h4]at e3;have h5:q%2≤S%2:=by rw[←hq3];exact Nat.and_le_right
   omega
  ·have h1:(p-1) / 2=p / 2:=by omega
   rw[h1,hp2]at e2;omega
variable {S:Nat}
theorem tq(p:Nat):(a &&& S) &&& S=a &&& S:=by
 rw[Nat.and_assoc,Nat.and_self]
theorem aiz(i:Nat):2 ^ i &&& (2 ^ i-1)=0:=by
 apply Nat.eq_of_testBit_eq;intro j;rw[Nat.testBit_and,Nat.testBit_two_pow,Nat.testBit_two_pow_sub_one];by_cases h:i=j
 ·subst h;simp
 ·simp[h]
def dK(rows:List (List (Int×Int)))(S:Nat):List (Int×Int):=rows.getD S []
def qP(ay:List ah)(ts:List Int)(rows:List (List (Int×Int)))(S:Nat)(m:List (Int×Int))(v c:Int)(x:Int×Int):Prop:=
 (x.1≠0∧∃a∈ay,a.Hop.aD=v∧a.Hop.To=x.1∧a.dx+atM m x.1≤c)∨
 (x.1=0∧∃P:Nat,x.2=(P:Int)∧0<P∧P<S∧P &&& S=P∧c=atM (dK rows P) v+atM (dK rows (fS S P)) v∧atM (dK rows P) v<2305843009213693951∧atM (dK rows (fS S P)) v<2305843009213693951)∨
 (x=(0,0)∧∃i,ts[i]?=some v∧S=2 ^ i∧c=0)
variable {ay:List ah}{c:Int}{m m':List (Int×Int)}{rows:List (List (Int×Int))}{ts:List Int}{x:Int×Int}
theorem qP.mono{v:Int}(h:qP ay ts rows S m v c x)(hle:∀r,atM m' r≤atM m r):qP ay ts rows S m' v c x:=by
 rcases h with⟨h1,a,h2,h3,h4,h5⟩|h|h
 ·have:=hle x.1;exact .inl ⟨h1,a,h2,h3,h4,by omega⟩
 ·exact .inr (.inl h)
 ·exact .inr (.inr h)
theorem abz{α:Type}(n:Int)(v:α):∀l:List (Int×α),(bN l n v).map (·.1)=if n∈l.map (·.1)then l.map (·.1)else l.map (·.1)++[n]
 |[]=>by simp[bN]
 |p::r=>by
  unfold bN;by_cases hp:p.1=n
  ·simp[hp]
  ·have hn:¬n=p.1:=λe=>hp e.symm;rw[if_neg hp,List.map_cons,abz n v r];simp only[List.map_cons,List.mem_cons,hn,false_or];split<;>rfl
theorem alO{α:Type}{n:Int}{v:α}{l:List (Int×α)}(h:(l.map (·.1)).Nodup):((bN l n v).map (·.1)).Nodup:=by
 rw[abz];split
 ·exact h
 ·rename_i hn;rw[List.nodup_append];exact⟨h,by simp,λa ha b hb=>by rw[List.mem_singleton.1 hb];exact λe=>hn (e▸ha)⟩
theorem yA{α:Type}{n:Int}{v:α}:∀{l:List (Int×α)},(l.map (·.1)).Nodup→(n,v)∈l→aY l n=some v
 |[],_,h=>by cases h
 |p::r,hn,h=>by
  rw[gD];simp only[List.map_cons,List.nodup_cons]at hn;rcases List.mem_cons.1 h with h|h
  ·rw[←h];simp
  ·have:¬p.1=n:=λe=>hn.1 (List.mem_map.2 ⟨(n,v),h,e.symm⟩);rw[if_neg this];exact yA hn.2 h
theorem yB{α:Type}{n:Int}{v:α}:∀{l:List (Int×α)},aY l n=some v→(n,v)∈l
 |[],h=>by simp[aY]at h
 |p::r,h=>by
  rw[gD]at h;split at h
  ·rename_i hp;cases h;exact List.mem_cons.2 (.inl (by rw[←hp]))
  ·exact List.mem_cons.2 (.inr (yB h))
structure jk(ay:List ah)(ts:List Int)(rows:List (List (Int×Int)))(S:Nat)(D:Nat→Int→Prop)(m1:List (Int×Int))(m2:List (Int×(Int×Int))):Prop where
 ok:∀v c,aY m1 v=some c→(0≤c∧c<2305843009213693951)∧qP ay ts rows S m1 v c ((aY m2 v).getD (0,0))
 part:∀P v,D P v→atM m1 v≤atM (dK rows P) v+atM (dK rows (fS S P)) v
 nd:(m1.map (·.1)).Nodup
variable {m1:List (Int×Int)}{m2:List (Int×(Int×Int))}
theorem jk.bd{D:Nat→Int→Prop}(h:jk ay ts rows S D m1 m2)(r:Int):0≤atM m1 r∧atM m1 r≤2305843009213693951:=by
 unfold atM;cases hg:aY m1 r with
 |none=>simp
 |some c=>have:=(h.ok r c hg).1;exact⟨this.1,by show c≤_;omega⟩
theorem jk.put{D:Nat→Int→Prop}(h:jk ay ts rows S D m1 m2){v:Int}(h0:0≤c)(hlt:c<atM m1 v)
  (hx:qP ay ts rows S (bN m1 v c) v c x):jk ay ts rows S D (bN m1 v c) (bN m2 v x):=by
 have hle:∀r,atM (bN m1 v c) r≤atM m1 r:=λr=>by
  rw[nQ];split
  ·rename_i hr;subst hr;omega
  ·omega
 refine⟨λu d hu=>?_,λP u hD=>Int.le_trans (hle u) (h.part P u hD),alO h.nd⟩;by_cases huv:u=v
 ·subst huv;rw[qM]at hu ⊢;cases hu;exact⟨⟨h0,by have:=(h.bd u).2;omega⟩,hx⟩
 ·rw[tU _ huv]at hu ⊢;obtain⟨g1,g2⟩:=h.ok u d hu;exact⟨g1,g2.mono hle⟩
theorem jk.nil(ay:List ah)(ts:List Int)(rows:List (List (Int×Int)))(S:Nat):jk ay ts rows S (λ_ _=>False) [] []:=⟨λv c h=>by simp[aY]at h,λ_ _ h=>h.elim,by simp⟩
theorem jk.more{D D':Nat→Int→Prop}(h:jk ay ts rows S D m1 m2)(hp:∀P v,D' P v→atM m1 v≤atM (dK rows P) v+atM (dK rows (fS S P)) v):jk ay ts rows S D' m1 m2:=⟨h.ok,hp,h.nd⟩
structure aaQ(ay:List ah)(ts:List Int)(rows:List (List (Int×Int)))(S:Nat)(m1:List (Int×Int))(m2:List (Int×(Int×Int))):Prop where
 j:jk ay ts rows S (λP _=>0<P∧P<S∧P &&& S=P) m1 m2
 one:∀i v,ts[i]?=some v→S=2 ^ i→atM m1 v≤0
 hop:∀a∈ay,atM m1 a.Hop.aD≤a.dx+atM m1 a.Hop.To
structure rU(ay:List ah)(ts:List Int)(rows:List (List (Int×Int)))(steps:List (List (Int×(Int×Int)))):Prop where
 len:steps.length=rows.length
 row:∀S m1 m2,rows[S]?=some m1→steps[S]?=some m2→aaQ ay ts rows S m1 m2
theorem vK(h:S<rows.length):dK (rows++[m]) S=dK rows S:=by
 unfold dK;rw[List.getD_eq_getElem?_getD,List.getD_eq_getElem?_getD,List.getElem?_append_left h]
theorem qP.app{v:Int}(hS:S≤rows.length)(h60:S<2 ^ 60)(h:qP ay ts rows S m v c x):qP ay ts (rows++[m']) S m v c x:=by
 rcases h with h|⟨h1,P,h2,h3,h4,h5,h6,h7,h8⟩|h
 ·exact .inl h
 ·have hr:fS S P<S:=by
   have h9:=aaP (a:=S) (b:=P) h60;rcases Nat.lt_or_eq_of_le h9 with h9|h9
   ·exact h9
   ·exfalso;obtain⟨i,hi⟩:∃i,P.testBit i=true:=Nat.exists_testBit_of_ne_zero (by omega);have b1:=vG (a:=S) (b:=P) h60 (by omega) i;have b2:(P &&& S).testBit i=P.testBit i:=by rw[h5]
    rw[h9,hi]at b1;rw[Nat.testBit_and,hi]at b2;simp at b1 b2;rw[b1]at b2;cases b2
  refine .inr (.inl ⟨h1,P,h2,h3,h4,h5,?_⟩);rw[vK (by omega),vK (by omega)];exact⟨h6,h7,h8⟩
 ·exact .inr (.inr h)
theorem aaR{P:Nat}(h60:S<2 ^ 60)(h3:0<P)(h4:P<S)(h5:P &&& S=P):fS S P<S:=by
 have h9:=aaP (a:=S) (b:=P) h60;rcases Nat.lt_or_eq_of_le h9 with h9|h9
 ·exact h9
 ·exfalso;obtain⟨i,hi⟩:∃i,P.testBit i=true:=Nat.exists_testBit_of_ne_zero (by omega);have b1:=vG (a:=S) (b:=P) h60 (by omega) i;have b2:(P &&& S).testBit i=P.testBit i:=by rw[h5]
  rw[h9,hi]at b1;rw[Nat.testBit_and,hi]at b2;simp at b1 b2;rw[b1]at b2;cases b2
theorem aaQ.app{ay:List ah}{ts:List Int}{rows:List (List (Int×Int))}{S:Nat}{m1:List (Int×Int)}{m2:List (Int×(Int×Int))}{m':List (Int×Int)}(hS:S≤rows.length)(h60:S<2 ^ 60)(h:aaQ ay ts rows S m1 m2):aaQ ay ts (rows++[m']) S m1 m2:=by
 refine⟨⟨λv c hv=>?_,λP v hD=>?_,h.j.nd⟩,h.one,h.hop⟩
 ·obtain⟨g1,g2⟩:=h.j.ok v c hv;exact⟨g1,g2.app hS h60⟩
 ·have:=aaR h60 hD.1 hD.2.1 hD.2.2;rw[vK (by omega),vK (by omega)];exact h.j.part P v hD
theorem rU.snoc{steps:List (List (Int×(Int×Int)))}(h:rU ay ts rows steps)(h60:rows.length<2 ^ 60)(hm:aaQ ay ts rows rows.length m1 m2):rU ay ts (rows++[m1]) (steps++[m2]):=by
 refine⟨by simp[h.len],λS n1 n2 h1 h2=>?_⟩;by_cases hS:S<rows.length
 ·rw[List.getElem?_append_left hS]at h1;rw[List.getElem?_append_left (by rw[h.len];exact hS)]at h2;exact(h.row S n1 n2 h1 h2).app (by omega) (by omega)
 ·have hl:=(List.getElem?_eq_some_iff.1 h1).1;simp only[List.length_append,List.length_singleton]at hl;have hS:S=rows.length:=by omega
  subst hS;rw[List.getElem?_append_right (Nat.le_refl _)]at h1;rw[List.getElem?_append_right (by rw[h.len];exact Nat.le_refl _),h.len]at h2;simp at h1 h2;subst h1 h2;exact hm.app (Nat.le_refl _) h60
end Go.Proofs.YtmnbolcmepihlaaGreat
