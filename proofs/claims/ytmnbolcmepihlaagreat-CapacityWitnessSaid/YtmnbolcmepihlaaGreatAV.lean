/- The walk of pS. No condition but aT aH stand in each. -/
import Derived.Test.YtmnbolcmepihlaaGreatAU
import Derived.Test.YtmnbolcmepihlaaGreatSF
namespace Go.Proofs.YtmnbolcmepihlaaGreat
set_option linter.all false
set_option maxRecDepth 100000
open Go Go.Proofs.Tryz
structure ChP(ai:List af)(root:Int)(ts:List Int)(r:List aF×Int×Bool):Prop where
 nil:ts=[]→r=([],0,true)
 rows:ts≠[]→∃rows steps,rows.length=2 ^ ts.length∧oS ai ts rows steps∧((2305843009213693951≤atM (cW rows (2 ^ ts.length-1)) root∧r=([],0,false))∨
  (atM (cW rows (2 ^ ts.length-1)) root<2305843009213693951∧∃H,Col steps ((2 ^ ts.length-1:Nat):Int) root H∧iM (cD [λx:aF=>x.aJ,λx:aF=>x.To]) H=some r.1∧r.2=(atM (cW rows (2 ^ ts.length-1)) root,true)))
variable {ai:List af}
theorem alO{rows:List (List (Int×Int))}{steps:List (List (Int×(Int×Int)))}{s:Int}{m:List (Int×Int)}(r:Int)(hs:elO rows s=some m):
  RO prog 120 [] [.cH [.lst false (ml az ai),.lst false (ml eMI rows),.lst false (ml eMS steps)],.int .i64 s,.int .i64 r] (.int .i64 (atM m r)):=by
 refine bg func120 rfl rfl ?_
 refine A.RS W0 [] [] [(0,.cH [.lst false (ml az ai),.lst false (ml eMI rows),.lst false (ml eMS steps)]),(1,.int .i64 s),(2,.int .i64 r)] [] (by kernel_rfl) ?_
 refine A.seq ?_
 refine A.RS W0 [] [(5,hix (ix eMI hs)),(8,hlf (k:=.i64) m r (vI .i64) 0 wM zI3)] [(7,.int .i64 ((aO m r).getD 0)),(8,.bool (aO m r).isSome)] [] (by kernel_rfl) ?_
 refine A.RS W0 [] [] [(7,.int .i64 ((aO m r).getD 0)),(21,.bool (aO m r).isSome)] [] (by kernel_rfl) ?_
 cases hg:aO m r with
 |some c=>
  refine A.cT rfl rfl ?_
  refine A.RS W0 [] [] [(6,.int .i64 c)] [] (by kernel_rfl) ?_
  refine A.ret ?_
  have e:atM m r=c:=by unfold atM;rw[hg];rfl
  rw[e]
  exact A.fin W0 [] rfl (by kernel_rfl)
 |none=>
  refine A.cF rfl rfl ?_
  refine A.skip ?_
  show aj _ _ _ _ _
  refine A.RS W0 [] [] [(6,.int .i64 2305843009213693951)] [] (by kernel_rfl) ?_
  refine A.ret ?_
  have e:atM m r=2305843009213693951:=by unfold atM;rw[hg];rfl
  rw[e]
  exact A.fin W0 [] rfl (by kernel_rfl)
theorem A.JP{G:Gl}{α:Type}{x y:Code}{Q:Exit→Env→Sto→Prop}{env:Env}{σ:Sto}(P:α→Prop)(bT:α→Env)(cK:α→Sto)(h:aj G x (lW (λenv' σ'=>∃g,P g∧aU G env' σ' (bT g) (cK g)) Q) env σ)(k:∀g,P g→aj G y Q (bT g) (cK g)):aj G (.seq x y) Q env σ:=by
 refine A.seq (h.mono ?_)
 intro e env' σ' hq
 cases e with
 |normal=>
  obtain⟨g,hg,hw⟩:=hq
  exact A.weak hw (k g hg)
 |_=>exact hq
theorem aaK{root:Int}{ts:List Int}(hk:ts.length≤6)(ha:∀a∈ai,(1≤a.cV∧a.cV≤1000000)∧a.Hop.To≠0)
  (alP:∀rows steps,rows.length=2 ^ ts.length→oS ai ts rows steps→atM (cW rows (2 ^ ts.length-1)) root<2305843009213693951→∃H,Col steps ((2 ^ ts.length-1:Nat):Int) root H∧H.length≤1000000∧∃H',iM (cD [λx:aF=>x.aJ,λx:aF=>x.To]) H=some H') :
  bM prog 63 [] [.lst false (ml az ai),.int .i64 root,.lst false (ml aB ts)] (λa σ'=>σ'=[]∧∃r,ChP ai root ts r∧a=.tup [.lst false (ml aQ r.1),.int .i64 r.2.1,.bool r.2.2]):=by
 refine bg func63 rfl rfl ?_
 refine A.RS W0 [] [] [(0,.lst false (ml az ai)),(1,.int .i64 root),(2,.lst false (ml aB ts))] [] (by kernel_rfl) ?_
 refine A.seq ?_
 refine A.RS W0 [] [(1,hto (lnE aB ts))] [(0,.lst false (ml az ai)),(1,.int .i64 root),(2,.lst false (ml aB ts)),(21,.bool (decide ((ts.length:Int)=(0:Int))))] [] (by kernel_rfl) ?_
 by_cases hts:ts=[]
 ·subst hts
  refine A.cT rfl rfl ?_
  refine A.RS W0 [] [] [(6,.bw),(7,.int .i64 0),(8,.bool true)] [] (by kernel_rfl) ?_
  refine A.ret ?_
  refine lY.mono (A.fin W0 [] (R:=.tup [.lst false (ml aQ []),.int .i64 0,.bool true]) (σ2:=[]) rfl (by kernel_rfl)) ?_
  rintro a s ⟨rfl,rfl⟩
  exact⟨rfl,([],0,true),⟨λ_=>rfl,λh=>absurd rfl h⟩,rfl⟩
 have hlen:1≤ts.length:=by cases ts with|nil=>exact absurd rfl hts|cons _ _=>simp
 refine A.cF rfl (decide_eq_false (by omega)) ?_
 refine A.skip ?_
 show aj _ _ _ _ _
 have h64:2 ^ ts.length≤64:=Nat.le_trans (Nat.pow_le_pow_right (by omega) hk) (by decide)
 have agz:IntKind.wrap .i64 (1*2 ^ min (ts.length:Int).toNat 64)=((2 ^ ts.length:Nat):Int):=by
  rw[Int.toNat_natCast,Nat.min_eq_left (by omega),Int.one_mul]
  have e:((2:Int) ^ ts.length)=((2 ^ ts.length:Nat):Int):=by simp
  rw[e]
  generalize 2 ^ ts.length=z at h64 ⊢
  exact dh (by omega) (by omega)
 generalize hsz:2 ^ ts.length=sets at agz h64 alP
 refine A.RS W0 [] [(1,hto (lnE aB ts)),(2,.to (.sh (ts.length:Int) (by omega)) (.int .i64 (IntKind.wrap .i64 (1*2 ^ min (ts.length:Int).toNat 64))) (.int .i64 (sets:Int)) (by rw[agz]))] [(0,.lst false (ml az ai)),(1,.int .i64 root),(2,.lst false (ml aB ts)),(9,.int .i64 (sets:Int))] [] (by kernel_rfl) ?_
 refine A.RS W0 [] [(2,.al 910000000)] [(1,.int .i64 root),(2,.lst false (ml aB ts)),(9,.int .i64 (sets:Int)),(10,.ptr 910000000 0)] [(910000000,.cells 165 [.lst false (ml az ai),.bw,.bw])] (by kernel_rfl) ?_
 refine A.seq ?_
 refine A.RS W0 [.ac 910000000 910000021 144 1 1,.ac 910000000 910000023 166 1 2] [] [(1,.int .i64 root),(2,.lst false (ml aB ts)),(9,.int .i64 (sets:Int)),(10,.ptr 910000000 0),(28,.int .i64 (sets:Int)),(29,.int .i64 0)] [(910000000,.cells 165 [.lst false (ml az ai),.own 910000021,.own 910000023]),(910000021,.slice 144 1 (ml eMI []) 0 false),(910000023,.slice 166 1 (ml eMS []) 0 false)] (by kernel_rfl) ?_
 refine A.block ?_
 refine A.loop (α:=List (List (Int×Int))×List (List (Int×(Int×Int)))) (λg=>[(1,.int .i64 root),(2,.lst false (ml aB ts)),(9,.int .i64 (sets:Int)),(10,.ptr 910000000 0),(28,.int .i64 (sets:Int)),(29,.int .i64 (g.1.length:Int))])
  (λg=>[(910000000,.cells 165 [.lst false (ml az ai),.own 910000021,.own 910000023]),(910000021,.slice 144 1 (ml eMI g.1) 0 false),(910000023,.slice 166 1 (ml eMS g.2) 0 false)])
  (λg=>g.1.length≤sets∧oS ai ts g.1 g.2) (λg=>sets-g.1.length) ([],[]) ⟨Nat.zero_le _,rfl,λS m1 m2 h=>by simp at h⟩ (aU.go [] [] (by kernel_rfl)) ?_
 rintro⟨rows,steps⟩ ⟨hrl,hrf⟩
 simp only at hrl hrf
 refine A.RS W0 [] [] [(1,.int .i64 root),(2,.lst false (ml aB ts)),(9,.int .i64 (sets:Int)),(10,.ptr 910000000 0),(28,.int .i64 (sets:Int)),(29,.int .i64 (rows.length:Int)),(30,.bool (decide ((rows.length:Int)<(sets:Int))))] [(910000000,.cells 165 [.lst false (ml az ai),.own 910000021,.own 910000023]),(910000021,.slice 144 1 (ml eMI rows) 0 false),(910000023,.slice 166 1 (ml eMS steps) 0 false)] (by kernel_rfl) ?_
 refine A.seq ?_
 by_cases hS:rows.length<sets
 ·refine A.cT rfl (decide_eq_true (by omega)) ?_
  refine A.skip ?_
  show aj _ _ _ _ _
  have hrl6:rows.length<64:=by omega
  have hst:steps.length=rows.length:=hrf.len
  generalize hSn:rows.length=S at hS hrl6 hst
  refine A.seq ?_
  refine A.block ?_
  refine A.RS W0 [] [] [(1,.int .i64 root),(2,.lst false (ml aB ts)),(9,.int .i64 (sets:Int)),(10,.ptr 910000000 0),(28,.int .i64 (sets:Int)),(29,.int .i64 (S:Int)),(11,.int .i64 (S:Int))] [(910000000,.cells 165 [.lst false (ml az ai),.own 910000021,.own 910000023]),(910000021,.slice 144 1 (ml eMI rows) 0 false),(910000023,.slice 166 1 (ml eMS steps) 0 false)] (by kernel_rfl) ?_
  refine A.RS W0 [] [(6,.al 910000002),(7,aj1 W0 910000031),(8,hxa 910000001 (xs:=ml eMI rows) acS (by rw[dW];omega) (by rw[dW];simp only[maxLen];omega)),(13,.al 910000004),(14,aj1 W0 910000033),(15,hxa 910000003 (xs:=ml eMS steps) acT (by rw[dW];omega) (by rw[dW];simp only[maxLen];omega))] [(1,.int .i64 root),(2,.lst false (ml aB ts)),(9,.int .i64 (sets:Int)),(10,.ptr 910000000 0),(28,.int .i64 (sets:Int)),(29,.int .i64 (S:Int)),(11,.int .i64 (S:Int))] (sol ai (ml eMI rows) [] (ml eMS steps) []) (by kernel_rfl) ?_
  have hl1:(ml eMI rows).length=S:=by rw[dW];exact hSn
  have hl2:(ml eMS steps).length=(ml eMI rows).length:=by rw[dW,hl1];exact hst
  refine A.JP (λg:List (Int×Int)×List (Int×(Int×Int))=>ir ai ts rows S (λ_ _=>False) g.1 g.2∧∀i v,ts[i]?=some v→S=2 ^ i→atM g.1 v≤0) (λ_=>[(1,.int .i64 root),(2,.lst false (ml aB ts)),(9,.int .i64 (sets:Int)),(10,.ptr 910000000 0),(28,.int .i64 (sets:Int)),(29,.int .i64 (S:Int)),(11,.int .i64 (S:Int))]) (λg=>sol ai (ml eMI rows) g.1 (ml eMS steps) g.2) ?_ ?_
  ·
   have hpw:∀i,i<ts.length→S=2 ^ i→decide (fR .and .i64 (S:Int) (w64 ((S:Int)-(1:Int)))=(0:Int))=true∧0<S:=λi hi h=>by
    have hp:0<S:=by rw[h];exact Nat.two_pow_pos i
    refine⟨decide_eq_true ?_,hp⟩
    rw[dh (by omega) (by omega),show(S:Int)-1=((S-1:Nat):Int)by omega,v7 (by omega) (by omega),h,afc]
    rfl
   have hnone:∀(c:¬(decide (fR .and .i64 (S:Int) (w64 ((S:Int)-(1:Int)))=(0:Int))=true∧0<S)),∃g:List (Int×Int)×List (Int×(Int×Int)),(ir ai ts rows S (λ_ _=>False) g.1 g.2∧∀i v,ts[i]?=some v→S=2 ^ i→atM g.1 v≤0)∧g=([],[]):=λc=>
    ⟨([],[]),⟨ir.nil _ _ _ _,λi v hv he=>absurd (hpw i (List.getElem?_eq_some_iff.1 hv).1 he) c⟩,rfl⟩
   rcases tf (decide (fR .and .i64 (S:Int) (w64 ((S:Int)-(1:Int)))=(0:Int)))with c|c
   rotate_left
   ·refine A.RS W0 [] [(4,hto (bE c))] [(1,.int .i64 root),(2,.lst false (ml aB ts)),(9,.int .i64 (sets:Int)),(10,.ptr 910000000 0),(28,.int .i64 (sets:Int)),(29,.int .i64 (S:Int)),(11,.int .i64 (S:Int)),(60,.bool false)] (sol ai (ml eMI rows) [] (ml eMS steps) []) (by kernel_rfl) ?_
    refine A.cF rfl rfl ?_
    refine A.skip ?_
    obtain⟨g,hg,rfl⟩:=hnone (λh=>by rw[h.1]at c;cases c)
    exact⟨([],[]),hg,aU.go [] [] (by kernel_rfl)⟩
   refine A.RS W0 [] [(4,hto (bE c))] [(1,.int .i64 root),(2,.lst false (ml aB ts)),(9,.int .i64 (sets:Int)),(10,.ptr 910000000 0),(28,.int .i64 (sets:Int)),(29,.int .i64 (S:Int)),(11,.int .i64 (S:Int)),(60,.bool (decide ((0:Int)<(S:Int))))] (sol ai (ml eMI rows) [] (ml eMS steps) []) (by kernel_rfl) ?_
   by_cases hS0:0<S
   rotate_left
   ·refine A.cF rfl (decide_eq_false (by omega)) ?_
    refine A.skip ?_
    obtain⟨g,hg,rfl⟩:=hnone (λh=>hS0 h.2)
    exact⟨([],[]),hg,aU.go [] [] (by kernel_rfl)⟩
   refine A.cT rfl (decide_eq_true (by omega)) ?_
   refine A.RS W0 [] [(1,hto (lnE aB ts))] [(1,.int .i64 root),(2,.lst false (ml aB ts)),(9,.int .i64 (sets:Int)),(10,.ptr 910000000 0),(28,.int .i64 (sets:Int)),(29,.int .i64 (S:Int)),(11,.int .i64 (S:Int)),(61,.lst false (ml aB ts)),(62,.int .i64 (ts.length:Int)),(63,.int .i64 0)] (sol ai (ml eMI rows) [] (ml eMS steps) []) (by kernel_rfl) ?_
   refine A.block ?_
   refine A.bS 61 rfl λhbn=>?_
   refine A.loop (α:=Nat×List (Int×Int)×List (Int×(Int×Int))) (λg=>[(1,.int .i64 root),(2,.lst false (ml aB ts)),(9,.int .i64 (sets:Int)),(10,.ptr 910000000 0),(28,.int .i64 (sets:Int)),(29,.int .i64 (S:Int)),(11,.int .i64 (S:Int)),(61,.lst false (ml aB ts)),(62,.int .i64 (ts.length:Int)),(63,.int .i64 (g.1:Int))]) (λg=>sol ai (ml eMI rows) g.2.1 (ml eMS steps) g.2.2)
    (λg=>g.1≤ts.length∧ir ai ts rows S (λ_ _=>False) g.2.1 g.2.2∧∀i v,i<g.1→ts[i]?=some v→S=2 ^ i→atM g.2.1 v≤0) (λg=>ts.length-g.1) (0,[],[]) ⟨Nat.zero_le _,ir.nil _ _ _ _,λi v hi=>by omega⟩ (aU.go [] [] (by kernel_rfl)) ?_
   rintro⟨j,m1,m2⟩ ⟨hj,hrj,hon⟩
   simp only at hj hrj hon
   refine A.RS W0 [] [] [(1,.int .i64 root),(2,.lst false (ml aB ts)),(9,.int .i64 (sets:Int)),(10,.ptr 910000000 0),(28,.int .i64 (sets:Int)),(29,.int .i64 (S:Int)),(11,.int .i64 (S:Int)),(61,.lst false (ml aB ts)),(62,.int .i64 (ts.length:Int)),(63,.int .i64 (j:Int)),(64,.bool (decide ((j:Int)<(ts.length:Int))))] (sol ai (ml eMI rows) m1 (ml eMS steps) m2) (by kernel_rfl) ?_
   refine A.seq ?_
   by_cases hjl:j<ts.length
   rotate_left
   ·refine A.cF rfl (ltF (by omega)) ?_
    refine A.exit ?_
    exact⟨(m1,m2),⟨hrj,λi v hv he=>hon i v (by have:=(List.getElem?_eq_some_iff.1 hv).1;omega) hv he⟩,aU.go [] [] (by kernel_rfl)⟩
   have hx:ts[j]?=some ts[j]:=List.getElem?_eq_getElem hjl
   generalize ts[j]=t at hx
   refine A.cT rfl (ltT hx) ?_
   refine A.skip ?_
   show aj _ _ _ _ _
   have hsh:IntKind.wrap .i64 (1*2 ^ min (j:Int).toNat 64)=((2 ^ j:Nat):Int):=by
    rw[Int.toNat_natCast,Nat.min_eq_left (by omega),Int.one_mul]
    have h6:2 ^ j≤64:=Nat.le_trans (Nat.pow_le_pow_right (by omega) (show j≤6 by omega)) (by decide)
    have e:((2:Int) ^ j)=((2 ^ j:Nat):Int):=by simp
    rw[e]
    generalize 2 ^ j=z at h6 ⊢
    exact dh (by omega) (by omega)
   refine A.JP (λg:List (Int×Int)×List (Int×(Int×Int))=>ir ai ts rows S (λ_ _=>False) g.1 g.2∧(∀x,atM g.1 x≤atM m1 x)∧(S=2 ^ j→atM g.1 t≤0)) (λ_=>[(1,.int .i64 root),(2,.lst false (ml aB ts)),(9,.int .i64 (sets:Int)),(10,.ptr 910000000 0),(28,.int .i64 (sets:Int)),(29,.int .i64 (S:Int)),(11,.int .i64 (S:Int)),(61,.lst false (ml aB ts)),(62,.int .i64 (ts.length:Int)),(63,.int .i64 (j:Int))]) (λg=>sol ai (ml eMI rows) g.1 (ml eMS steps) g.2) ?_ ?_
   ·refine A.block ?_
    refine A.RS W0 [] [(1,hix (ix aB (cw hx)))] [(1,.int .i64 root),(2,.lst false (ml aB ts)),(9,.int .i64 (sets:Int)),(10,.ptr 910000000 0),(28,.int .i64 (sets:Int)),(29,.int .i64 (S:Int)),(11,.int .i64 (S:Int)),(61,.lst false (ml aB ts)),(62,.int .i64 (ts.length:Int)),(63,.int .i64 (j:Int)),(12,.int .i64 (j:Int)),(13,.int .i64 t)] (sol ai (ml eMI rows) m1 (ml eMS steps) m2) (by kernel_rfl) ?_
    refine A.RS W0 [] [(2,.to (.sh (j:Int) (by omega)) (.int .i64 (IntKind.wrap .i64 (1*2 ^ min (j:Int).toNat 64))) (.int .i64 ((2 ^ j:Nat):Int)) (by rw[hsh]))] [(1,.int .i64 root),(2,.lst false (ml aB ts)),(9,.int .i64 (sets:Int)),(10,.ptr 910000000 0),(28,.int .i64 (sets:Int)),(29,.int .i64 (S:Int)),(11,.int .i64 (S:Int)),(61,.lst false (ml aB ts)),(62,.int .i64 (ts.length:Int)),(63,.int .i64 (j:Int)),(13,.int .i64 t),(71,.bool (decide ((S:Int)=((2 ^ j:Nat):Int))))] (sol ai (ml eMI rows) m1 (ml eMS steps) m2) (by kernel_rfl) ?_
    by_cases he:S=2 ^ j
    ·refine A.cT rfl (decide_eq_true (by rw[he])) ?_
     by_cases h0:0<atM m1 t
     ·have hput:=hrj.put (v:=t) (c:=0) (x:=(0,0)) (Int.le_refl _) h0 (.inr (.inr ⟨rfl,j,hx,he,rfl⟩))
      have hty:=xP (ai:=ai) (xs1:=ml eMI rows) (m1:=m1) (xs2:=ml eMS steps) (m2:=m2) t 0 0 0 hl2 h0
      rw[hl1]at hty
      refine A.R W0 [] [(4,hdc [] hty uQ)] [(1,.int .i64 root),(2,.lst false (ml aB ts)),(9,.int .i64 (sets:Int)),(10,.ptr 910000000 0),(28,.int .i64 (sets:Int)),(29,.int .i64 (S:Int)),(11,.int .i64 (S:Int)),(61,.lst false (ml aB ts)),(62,.int .i64 (ts.length:Int)),(63,.int .i64 (j:Int))] (sol ai (ml eMI rows) (bt m1 t 0) (ml eMS steps) (bt m2 t (0,0))) (by kernel_rfl) ?_
      refine⟨(bt m1 t 0,bt m2 t (0,0)),⟨hput,λx=>?_,λ_=>by rw[lG,if_pos rfl];exact Int.le_refl _⟩,aU.go [] [] (by kernel_rfl)⟩
      rw[lG]
      split
      ·rename_i hxt;subst hxt;omega
      ·omega
     ·have htn:=xO (ai:=ai) (xs1:=ml eMI rows) (m1:=m1) (xs2:=ml eMS steps) (m2:=m2) t 0 0 0 (by omega)
      rw[hl1]at htn
      refine A.R W0 [] [(4,hdc [] htn uQ)] [(1,.int .i64 root),(2,.lst false (ml aB ts)),(9,.int .i64 (sets:Int)),(10,.ptr 910000000 0),(28,.int .i64 (sets:Int)),(29,.int .i64 (S:Int)),(11,.int .i64 (S:Int)),(61,.lst false (ml aB ts)),(62,.int .i64 (ts.length:Int)),(63,.int .i64 (j:Int))] (sol ai (ml eMI rows) m1 (ml eMS steps) m2) (by kernel_rfl) ?_
      exact⟨(m1,m2),⟨hrj,λx=>Int.le_refl _,λ_=>by show atM m1 t≤0;omega⟩,aU.go [] [] (by kernel_rfl)⟩
    ·refine A.cF rfl (decide_eq_false λh=>he (by omega)) ?_
     refine A.skip ?_
     exact⟨(m1,m2),⟨hrj,λx=>Int.le_refl _,λh=>absurd h he⟩,aU.go [] [] (by kernel_rfl)⟩
   rintro⟨n1,n2⟩ ⟨g1,g2,g3⟩
   simp only at g1 g2 g3
   refine A.R W0 [] [(0,hto (inc hx hbn))] [(1,.int .i64 root),(2,.lst false (ml aB ts)),(9,.int .i64 (sets:Int)),(10,.ptr 910000000 0),(28,.int .i64 (sets:Int)),(29,.int .i64 (S:Int)),(11,.int .i64 (S:Int)),(61,.lst false (ml aB ts)),(62,.int .i64 (ts.length:Int)),(63,.int .i64 ((j+1:Nat):Int))] (sol ai (ml eMI rows) n1 (ml eMS steps) n2) (by kernel_rfl) ?_
   refine⟨(j+1,n1,n2),⟨hjl,g1,λi v hi hv he=>?_⟩,by simp only;omega,aU.go [] [] (by kernel_rfl)⟩
   rcases Nat.lt_or_eq_of_le (Nat.le_of_lt_succ hi)with hi|hi
   ·exact Int.le_trans (g2 v) (hon i v hi hv he)
   ·subst hi
    rw[hx]at hv;cases hv
    exact g3 he
  rintro⟨m1,m2⟩ ⟨hj,hone⟩
  simp only at hj hone
  have hp0:fR .and .i64 (w64 ((S:Int)-(1:Int))) (S:Int)=(((S-1) &&& S:Nat):Int):=by
   rcases Nat.eq_zero_or_pos S with h0|h0
   ·rw[h0];decide
   ·rw[dh (by omega) (by omega),show(S:Int)-1=((S-1:Nat):Int)by omega,v7 (by omega) (by omega)]
  refine A.JP (λg:List (Int×Int)×List (Int×(Int×Int))=>ir ai ts rows S (λP _=>0<P∧P<S∧P &&& S=P) g.1 g.2∧∀i v,ts[i]?=some v→S=2 ^ i→atM g.1 v≤0) (λ_=>[(1,.int .i64 root),(2,.lst false (ml aB ts)),(9,.int .i64 (sets:Int)),(10,.ptr 910000000 0),(28,.int .i64 (sets:Int)),(29,.int .i64 (S:Int)),(11,.int .i64 (S:Int))]) (λg=>sol ai (ml eMI rows) g.1 (ml eMS steps) g.2) ?_ ?_
  ·
   refine A.RS W0 [] [(3,hto (show AV.int .i64 (fR .and .i64 (w64 ((S:Int)-(1:Int))) (S:Int))=AV.int .i64 (((S-1) &&& S:Nat):Int)by rw[hp0]))] [(1,.int .i64 root),(2,.lst false (ml aB ts)),(9,.int .i64 (sets:Int)),(10,.ptr 910000000 0),(28,.int .i64 (sets:Int)),(29,.int .i64 (S:Int)),(11,.int .i64 (S:Int)),(14,.int .i64 (((S-1) &&& S:Nat):Int))] (sol ai (ml eMI rows) m1 (ml eMS steps) m2) (by kernel_rfl) ?_
   refine A.block ?_
   refine A.loop (α:=Nat×List (Int×Int)×List (Int×(Int×Int))) (λg=>[(1,.int .i64 root),(2,.lst false (ml aB ts)),(9,.int .i64 (sets:Int)),(10,.ptr 910000000 0),(28,.int .i64 (sets:Int)),(29,.int .i64 (S:Int)),(11,.int .i64 (S:Int)),(14,.int .i64 (g.1:Int))]) (λg=>sol ai (ml eMI rows) g.2.1 (ml eMS steps) g.2.2)
    (λg=>(g.1 &&& S=g.1∧(0<g.1→g.1<S))∧ir ai ts rows S (λP _=>g.1<P∧P<S∧P &&& S=P) g.2.1 g.2.2∧∀i v,ts[i]?=some v→S=2 ^ i→atM g.2.1 v≤0) (λg=>g.1) ((S-1) &&& S,m1,m2) ⟨⟨yy 0,λh=>?_⟩,hj.more λP v hD=>?_,hone⟩ (aU.go [] [] (by kernel_rfl)) ?_
   ·have:=Nat.and_le_left (n:=S-1) (m:=S)
    simp only at h ⊢
    omega
   ·exfalso
    have:=aac S S P (Nat.and_self S) hD.2.2 hD.2.1
    simp only at hD
    omega
   rintro⟨p,u1,u2⟩ ⟨⟨hpS,alQ⟩,hrj,hon⟩
   simp only at hpS alQ hrj hon
   have done:∀(hp:p=0∨S=0),ir ai ts rows S (λP _=>0<P∧P<S∧P &&& S=P) u1 u2:=λhp=>hrj.more λP v hD=>hrj.part P v ⟨by omega,hD.2⟩
   refine A.seq ?_
   rcases tf (decide ((0:Int)<(S:Int)))with c|c
   rotate_left
   ·have c':=of_decide_eq_false c
    refine A.RS W0 [] [(1,hto (bE c))] [(1,.int .i64 root),(2,.lst false (ml aB ts)),(9,.int .i64 (sets:Int)),(10,.ptr 910000000 0),(28,.int .i64 (sets:Int)),(29,.int .i64 (S:Int)),(11,.int .i64 (S:Int)),(14,.int .i64 (p:Int)),(87,.bool false)] (sol ai (ml eMI rows) u1 (ml eMS steps) u2) (by kernel_rfl) ?_
    refine A.cF rfl rfl ?_
    refine A.exit ?_
    exact⟨(u1,u2),⟨done (by omega),hon⟩,aU.go [] [] (by kernel_rfl)⟩
   have c':=of_decide_eq_true c
   refine A.RS W0 [] [(1,hto (bE c))] [(1,.int .i64 root),(2,.lst false (ml aB ts)),(9,.int .i64 (sets:Int)),(10,.ptr 910000000 0),(28,.int .i64 (sets:Int)),(29,.int .i64 (S:Int)),(11,.int .i64 (S:Int)),(14,.int .i64 (p:Int)),(87,.bool (decide ((0:Int)<(p:Int))))] (sol ai (ml eMI rows) u1 (ml eMS steps) u2) (by kernel_rfl) ?_
   by_cases hp:0<p
   rotate_left
   ·refine A.cF rfl (decide_eq_false (by omega)) ?_
    refine A.exit ?_
    exact⟨(u1,u2),⟨done (by omega),hon⟩,aU.go [] [] (by kernel_rfl)⟩
   refine A.cT rfl (decide_eq_true (by omega)) ?_
   refine A.skip ?_
   show aj _ _ _ _ _
   have hpl:=alQ hp
   have hrow:rows[p]?=some (cW rows p):=by
    unfold cW
    rw[List.getD_eq_getElem?_getD,List.getElem?_eq_getElem (by omega)];rfl
   generalize hm:cW rows p=m at hrow
   have hxs:(ml eMI rows)[(p:Int).toNat]?=some [.mpf (bB .i64 (vI .i64) m)]:=by
    rw[Int.toNat_natCast];simp[ml,hrow,eMI]
   refine A.JP (λg:List (Int×Int)×List (Int×(Int×Int))=>ir ai ts rows S (λP _=>p≤P∧P<S∧P &&& S=P) g.1 g.2∧∀i v,ts[i]?=some v→S=2 ^ i→atM g.1 v≤0) (λ_=>[(1,.int .i64 root),(2,.lst false (ml aB ts)),(9,.int .i64 (sets:Int)),(10,.ptr 910000000 0),(28,.int .i64 (sets:Int)),(29,.int .i64 (S:Int)),(11,.int .i64 (S:Int)),(14,.int .i64 (p:Int))]) (λg=>sol ai (ml eMI rows) g.1 (ml eMS steps) g.2) ?_ ?_
   ·refine A.block ?_
    have hRlt:eX S p<S:=xS (by omega) hp hpl hpS
    have alR:elO rows ((eX S p:Nat):Int)=some (cW rows (eX S p)):=by
     unfold elO cW
     rw[if_pos (by omega),Int.toNat_natCast,List.getD_eq_getElem?_getD,List.getElem?_eq_getElem (by omega)];rfl
    have alS:∀Q,Q<S→∃n2,ir ai ts rows Q (λP _=>0<P∧P<Q∧P &&& Q=P) (cW rows Q) n2:=λQ hQ=>by
     have h1:rows[Q]?=some (cW rows Q):=by
      unfold cW
      rw[List.getD_eq_getElem?_getD,List.getElem?_eq_getElem (by omega)];rfl
     exact⟨_,(hrf.row Q _ _ h1 (List.getElem?_eq_getElem (by omega))).j⟩
    obtain⟨np,hjp⟩:=alS p hpl
    obtain⟨nR,hjR⟩:=alS (eX S p) hRlt
    rw[hm]at hjp
    refine A.seq (A.RX W0 7 [] [(5,hxi (xs:=ml eMI rows) (i:=(p:Int)) wN ⟨by omega,by rw[hl1];omega⟩),(6,hxo (xs:=ml eMI rows) (p:=(p:Int).toNat) wL hxs)]
     [(98,.mpf (bB .i64 (vI .i64) m)),(97,.ptr 910000001 (p:Int).toNat),(96,.int .i64 (p:Int)),(95,.own 910000001),(94,.ptr 910000000 1),(93,.ptr 910000000 0),(92,.ptr 910000000 0),(1,.int .i64 root),(2,.lst false (ml aB ts)),(9,.int .i64 (sets:Int)),(10,.ptr 910000000 0),(28,.int .i64 (sets:Int)),(29,.int .i64 (S:Int)),(11,.int .i64 (S:Int)),(14,.int .i64 (p:Int)),(87,.bool (decide ((0:Int)<(p:Int))))] (sol ai (ml eMI rows) u1 (ml eMS steps) u2)
     (by kernel_rfl) (by kernel_rfl) (by kernel_rfl) rfl rfl (D.adh (di:=910000040) (x:=.tmp 98) (aC:=bB .i64 (vI .i64) m) rfl rfl underlying144 rfl rfl) rfl rfl ?_)
    rintro av σ' ⟨rfl,es,clock,rfl⟩
    refine⟨[],_,_,rfl,?_⟩
    show aj _ _ _ _ _
    refine A.block ?_
    refine A.rngF (k:=.i64) (enc:=vI .i64) (l:=m) (di:=910000040) (clock:=clock) (es:=es) (λq (g:List (Int×Int)×List (Int×(Int×Int)))=>ir ai ts rows S (λP v=>(p<P∧P<S∧P &&& S=P)∨(P=p∧∃c,(v,c)∈q)) g.1 g.2∧∀i v,ts[i]?=some v→S=2 ^ i→atM g.1 v≤0) (u1,u2)
     (λ_=>[(1,.int .i64 root),(2,.lst false (ml aB ts)),(9,.int .i64 (sets:Int)),(10,.ptr 910000000 0),(28,.int .i64 (sets:Int)),(29,.int .i64 (S:Int)),(11,.int .i64 (S:Int)),(14,.int .i64 (p:Int)),(99,.ptr 910000040 0)]) (λseen g=>sol ai (ml eMI rows) g.1 (ml eMS steps) g.2++[(910000040,.dL es clock (bB .i64 (vI .i64) m) seen)]) ⟨rfl,rfl,rfl⟩ ⟨rfl,rfl,rfl⟩ (by kernel_rfl)
     ⟨hrj.more λP v hD=>hrj.part P v (by rcases hD with h|⟨_,c,hc⟩;exact h;cases hc),hon⟩ (λ_=>rfl) (λ_ _=>rfl) (λ_ _ _=>rfl) (aU.go [] [] (by kernel_rfl)) ?_ ?_
    ·rintro seen e i n v q ⟨w1,w2⟩ he hli ⟨hw,hwo⟩
     simp only at hw hwo
     refine A.block ?_
     refine A.RS W0 [] [(0,hxe 910000040 clock .i64 seen (vI .i64) he hli)] [(1,.int .i64 root),(2,.lst false (ml aB ts)),(9,.int .i64 (sets:Int)),(10,.ptr 910000000 0),(28,.int .i64 (sets:Int)),(29,.int .i64 (S:Int)),(11,.int .i64 (S:Int)),(14,.int .i64 (p:Int)),(99,.ptr 910000040 0),(15,.int .i64 n),(16,.int .i64 v)] (sol ai (ml eMI rows) w1 (ml eMS steps) w2++[(910000040,.dL es clock (bB .i64 (vI .i64) m) (seen.push e.born))]) (by kernel_rfl) ?_
     have hgv:aO m n=some v:=vz hjp.nd (List.mem_of_getElem? hli)
     have hv:=(hjp.ok n v hgv).1
     have acd:atM m n=v:=by unfold atM;rw[hgv];rfl
     have hR:=hjR.bd n
     have hW:=hw.bd n
     have alT:w64 (v+atM (cW rows (eX S p)) n)=v+atM (cW rows (eX S p)) n:=dh (by omega) (by omega)
     have hin:∀{x:Int} {c:Int},(x,c)∈q++[(n,v)]→(∃c,(x,c)∈q)∨x=n:=λ{x c} h=>by
      rcases List.mem_append.1 h with h|h
      ·exact .inl ⟨c,h⟩
      ·simp at h;exact .inr h.1
     by_cases hlt:v+atM (cW rows (eX S p)) n<atM w1 n
     ·have hty:=xP (ai:=ai) (xs1:=ml eMI rows) (m1:=w1) (xs2:=ml eMS steps) (m2:=w2) n (v+atM (cW rows (eX S p)) n) 0 (p:Int) hl2 hlt
      rw[hl1]at hty
      have hput:=hw.put (v:=n) (c:=v+atM (cW rows (eX S p)) n) (x:=(0,(p:Int))) (by omega) hlt (.inr (.inl ⟨rfl,p,rfl,hp,hpl,hpS,by rw[hm,acd],by rw[hm,acd];exact hv.2,by omega⟩))
      refine A.R W0 [] [(7,hto (show AV.int .i64 (fR .andNot .i64 (S:Int) (p:Int))=AV.int .i64 ((eX S p:Nat):Int)by rw[ud (by omega)])),(9,hro (adn (ai:=ai) (rows:=rows) (m1:=w1) (xs2:=ml eMS steps) (m2:=w2) n alR) sB),(10,hto (show AV.int .i64 (w64 (v+atM (cW rows (eX S p)) n))=AV.int .i64 (v+atM (cW rows (eX S p)) n)by rw[alT])),(13,hdc [] hty uQ)]
       [(1,.int .i64 root),(2,.lst false (ml aB ts)),(9,.int .i64 (sets:Int)),(10,.ptr 910000000 0),(28,.int .i64 (sets:Int)),(29,.int .i64 (S:Int)),(11,.int .i64 (S:Int)),(14,.int .i64 (p:Int)),(99,.ptr 910000040 0)] (sol ai (ml eMI rows) (bt w1 n (v+atM (cW rows (eX S p)) n)) (ml eMS steps) (bt w2 n (0,(p:Int)))++[(910000040,.dL es clock (bB .i64 (vI .i64) m) (seen.push e.born))]) (by kernel_rfl) ?_
      have hle:∀x,atM (bt w1 n (v+atM (cW rows (eX S p)) n)) x≤atM w1 x:=λx=>by
       rw[lG]
       split
       ·rename_i hx;subst hx;omega
       ·omega
      refine⟨(bt w1 n (v+atM (cW rows (eX S p)) n),bt w2 n (0,(p:Int))),⟨hput.more λP x hD=>?_,λi x hx hi=>Int.le_trans (hle x) (hwo i x hx hi)⟩,aU.go [] [] (by kernel_rfl)⟩
      rcases hD with hD|⟨rfl,c,hc⟩
      ·exact hput.part P x (.inl hD)
      ·rcases hin hc with hc|rfl
       ·exact hput.part _ x (.inr ⟨rfl,hc⟩)
       ·rw[hm,acd,lG,if_pos rfl];exact Int.le_refl _
     ·have htn:=xO (ai:=ai) (xs1:=ml eMI rows) (m1:=w1) (xs2:=ml eMS steps) (m2:=w2) n (v+atM (cW rows (eX S p)) n) 0 (p:Int) (by omega)
      rw[hl1]at htn
      refine A.R W0 [] [(7,hto (show AV.int .i64 (fR .andNot .i64 (S:Int) (p:Int))=AV.int .i64 ((eX S p:Nat):Int)by rw[ud (by omega)])),(9,hro (adn (ai:=ai) (rows:=rows) (m1:=w1) (xs2:=ml eMS steps) (m2:=w2) n alR) sB),(10,hto (show AV.int .i64 (w64 (v+atM (cW rows (eX S p)) n))=AV.int .i64 (v+atM (cW rows (eX S p)) n)by rw[alT])),(13,hdc [] htn uQ)]
       [(1,.int .i64 root),(2,.lst false (ml aB ts)),(9,.int .i64 (sets:Int)),(10,.ptr 910000000 0),(28,.int .i64 (sets:Int)),(29,.int .i64 (S:Int)),(11,.int .i64 (S:Int)),(14,.int .i64 (p:Int)),(99,.ptr 910000040 0)] (sol ai (ml eMI rows) w1 (ml eMS steps) w2++[(910000040,.dL es clock (bB .i64 (vI .i64) m) (seen.push e.born))]) (by kernel_rfl) ?_
      refine⟨(w1,w2),⟨hw.more λP x hD=>?_,hwo⟩,aU.go [] [] (by kernel_rfl)⟩
      rcases hD with hD|⟨rfl,c,hc⟩
      ·exact hw.part P x (.inl hD)
      ·rcases hin hc with hc|rfl
       ·exact hw.part _ x (.inr ⟨rfl,hc⟩)
       ·rw[hm,acd];omega
    ·rintro seen q ⟨w1,w2⟩ ace ⟨hw,hwo⟩
     simp only at hw hwo
     refine⟨(w1,w2),⟨hw.more λP x hD=>?_,hwo⟩,aU.go [] [] (by kernel_rfl)⟩
     rcases Nat.lt_or_eq_of_le hD.1 with h|h
     ·exact hw.part P x (.inl ⟨h,hD.2⟩)
     ·subst h
      cases hg:aO m x with
      |some c=>exact hw.part _ x (.inr ⟨rfl,c,ace.mem_iff.2 (vA hg)⟩)
      |none=>
       have h1:atM m x=2305843009213693951:=by unfold atM;rw[hg];rfl
       have h2:=(hw.bd x).2
       have h3:=(hjR.bd x).1
       rw[hm,h1];omega
   rintro⟨n1,n2⟩ ⟨hrn,aad⟩
   simp only at hrn aad
   have hp1:fR .and .i64 (w64 ((p:Int)-(1:Int))) (S:Int)=(((p-1) &&& S:Nat):Int):=by
    rw[dh (by omega) (by omega),show(p:Int)-1=((p-1:Nat):Int)by omega,v7 (by omega) (by omega)]
   refine A.R W0 [] [(3,hto (show AV.int .i64 (fR .and .i64 (w64 ((p:Int)-(1:Int))) (S:Int))=AV.int .i64 (((p-1) &&& S:Nat):Int)by rw[hp1]))] [(1,.int .i64 root),(2,.lst false (ml aB ts)),(9,.int .i64 (sets:Int)),(10,.ptr 910000000 0),(28,.int .i64 (sets:Int)),(29,.int .i64 (S:Int)),(11,.int .i64 (S:Int)),(14,.int .i64 (((p-1) &&& S:Nat):Int))] (sol ai (ml eMI rows) n1 (ml eMS steps) n2) (by kernel_rfl) ?_
   have hle:=Nat.and_le_left (n:=p-1) (m:=S)
   refine⟨((p-1) &&& S,n1,n2),⟨⟨yy 0,λ_=>by show(p-1) &&& S<S;omega⟩,hrn.more λP v hD=>hrn.part P v ⟨?_,hD.2⟩,aad⟩,by simp only;omega,aU.go [] [] (by kernel_rfl)⟩
   have hD1:(p-1) &&& S<P:=hD.1
   apply Classical.byContradiction
   intro hn
   have:=aac p S P hpS hD.2.2 (by omega)
   omega
  rintro⟨n1,n2⟩ ⟨hrn,aad⟩
  simp only at hrn aad
  have hrx:=ae9 (ai:=ai) (xs1:=ml eMI rows) (m1:=n1) (xs2:=ml eMS steps) (m2:=n2) hl2 (λa b=>ir ai ts rows S (λP _=>0<P∧P<S∧P &&& S=P) a b∧∀i v,ts[i]?=some v→S=2 ^ i→atM a v≤0) ⟨hrn,aad⟩ (λa b h r=>h.1.bd r) (λa h=>by have:=(ha a h).1;omega) (λa b e h he hlt=>by
   have hC:=(ha e he).1
   have hT:=h.1.bd e.Hop.To
   have hft:e.Hop.To≠e.Hop.aJ:=λheq=>by rw[heq]at hlt;omega
   refine⟨h.1.put (by omega) hlt (.inl ⟨(ha e he).2,e,he,rfl,rfl,?_⟩),λi v hv hi=>?_⟩
   ·show e.cV+atM (bt a e.Hop.aJ (e.cV+atM a e.Hop.To)) e.Hop.To≤_
    rw[lG,if_neg hft];exact Int.le_refl _
   ·have:=h.2 i v hv hi
    rw[lG]
    split
    ·rename_i hx;subst hx;omega
    ·exact this)
  rw[hl1]at hrx
  refine A.RX W0 2 [] [] [(120,.int .i64 (S:Int)),(119,.ptr 910000000 0),(1,.int .i64 root),(2,.lst false (ml aB ts)),(9,.int .i64 (sets:Int)),(10,.ptr 910000000 0),(28,.int .i64 (sets:Int)),(29,.int .i64 (S:Int)),(11,.int .i64 (S:Int))] (sol ai (ml eMI rows) n1 (ml eMS steps) n2) (by kernel_rfl) (by kernel_rfl) (by kernel_rfl) rfl rfl (D.abW [] rfl rfl rfl rfl rfl rfl ?_ hrx an6) rfl rfl ?_
  ·rintro r σ2 ⟨rfl,k1,k2,_,_,rfl⟩
   exact⟨rfl,rfl⟩
  rintro av σ' ⟨σ2,⟨rfl,k1,k2,⟨hk,hko⟩,hst2,rfl⟩,rfl⟩
  refine⟨[],_,_,rfl,?_⟩
  show aj _ _ _ _ _
  refine A.R W0 [] [(0,hto (show AV.int .i64 (w64 ((S:Int)+(1:Int)))=AV.int .i64 (((rows++[k1]).length:Nat):Int)by rw[dh (by omega) (by omega),List.length_append,hSn];simp))] [(1,.int .i64 root),(2,.lst false (ml aB ts)),(9,.int .i64 (sets:Int)),(10,.ptr 910000000 0),(28,.int .i64 (sets:Int)),(29,.int .i64 (((rows++[k1]).length:Nat):Int))] (sol ai (ml eMI rows) k1 (ml eMS steps) k2) (by kernel_rfl) ?_
  have e1:ml eMI (rows++[k1])=ml eMI rows++[[.mpf (bB .i64 (vI .i64) k1)]]:=by simp[ml,eMI]
  have e2:ml eMS (steps++[k2])=ml eMS steps++[[.mpf (bB .i64 vS k2)]]:=by simp[ml,eMS]
  refine⟨(rows++[k1],steps++[k2]),⟨by simp only[List.length_append,List.length_singleton];omega,hrf.snoc (by omega) (by rw[hSn];exact⟨hk,hko,hst2⟩)⟩,by simp only[List.length_append,List.length_singleton];omega,?_⟩
  show aU _ _ _ _ [(910000000,.cells 165 [.lst false (ml az ai),.own 910000021,.own 910000023]),(910000021,.slice 144 1 (ml eMI (rows++[k1])) 0 false),(910000023,.slice 166 1 (ml eMS (steps++[k2])) 0 false)]
  rw[e1,e2]
  exact(aU.go (bA:=[(1,.int .i64 root),(2,.lst false (ml aB ts)),(9,.int .i64 (sets:Int)),(10,.ptr 910000000 0),(28,.int .i64 (sets:Int)),(29,.int .i64 (((rows++[k1]).length:Nat):Int))]) (σ2:=[(910000000,.cells 165 [.lst false (ml az ai),.own 910000001,.own 910000003]),(910000001,.slm 144 (ml eMI rows) 910000002),(910000002,.iC 3 3 (bB .i64 (vI .i64) k1)),(910000003,.slm 166 (ml eMS steps) 910000004),(910000004,.iC 3 169 (bB .i64 vS k2))]) [.fz [910000002,910000004]] [] (by kernel_rfl)).trans
   ((aU.akG 910000001 910000002 rfl rfl).trans ((aU.akG 910000003 910000004 rfl rfl).trans (aU.go [.sw 910000001 910000021,.sw 910000003 910000023] [] (by kernel_rfl))))
 ·refine A.cF rfl (decide_eq_false (by omega)) ?_
  refine A.exit ?_
  show aj _ _ _ _ _
  have hrs:rows.length=sets:=by omega
  have hs1:1≤sets:=by rw[←hsz];exact Nat.two_pow_pos _
  have aoF:elO rows ((sets-1:Nat):Int)=some (cW rows (sets-1)):=by
   unfold elO cW
   rw[if_pos (by omega),Int.toNat_natCast,List.getD_eq_getElem?_getD,List.getElem?_eq_getElem (by omega)];rfl
  have alU:w64 ((sets:Int)-(1:Int))=((sets-1:Nat):Int):=by rw[dh (by omega) (by omega)];omega
  refine A.weak ((aU.go (bA:=[(1,.int .i64 root),(9,.int .i64 (sets:Int)),(10,.ptr 910000000 0)]) (σ2:=[(910000000,.cells 165 [.lst false (ml az ai),.lst false (ml eMI rows),.lst false (ml eMS steps)])]) [.fz [910000021,910000023],.sc 910000000 []] [] (by kernel_rfl)).trans
   (aU.lp (T:=165) (cs:=[.lst false (ml az ai),.lst false (ml eMI rows),.lst false (ml eMS steps)]) 10 910000000 rfl rfl rfl)) ?_
  refine A.RS W0 [] [(2,hto (show AV.int .i64 (w64 ((sets:Int)-(1:Int)))=AV.int .i64 ((sets-1:Nat):Int)by rw[alU])),(4,hro (alO (ai:=ai) (rows:=rows) (steps:=steps) root aoF) sB)] [(1,.int .i64 root),(9,.int .i64 (sets:Int)),(10,.cH [.lst false (ml az ai),.lst false (ml eMI rows),.lst false (ml eMS steps)]),(17,.int .i64 (atM (cW rows (sets-1)) root))] [] (by kernel_rfl) ?_
  refine A.seq ?_
  refine A.RS W0 [] [] [(1,.int .i64 root),(9,.int .i64 (sets:Int)),(10,.cH [.lst false (ml az ai),.lst false (ml eMI rows),.lst false (ml eMS steps)]),(17,.int .i64 (atM (cW rows (sets-1)) root)),(129,.bool (decide ((2305843009213693951:Int)≤atM (cW rows (sets-1)) root)))] [] (by kernel_rfl) ?_
  by_cases afd:2305843009213693951≤atM (cW rows (sets-1)) root
  ·refine A.cT rfl (decide_eq_true afd) ?_
   refine A.RS W0 [] [] [(6,.bw),(7,.int .i64 0),(8,.bool false)] [] (by kernel_rfl) ?_
   refine A.ret ?_
   refine lY.mono (A.fin W0 [] (R:=.tup [.lst false (ml aQ []),.int .i64 0,.bool false]) (σ2:=[]) rfl (by kernel_rfl)) ?_
   rintro a s ⟨rfl,rfl⟩
   exact⟨rfl,([],0,false),⟨λh=>absurd h hts,λ_=>⟨rows,steps,by rw[hsz];exact hrs,hrf,by rw[hsz];exact .inl ⟨afd,rfl⟩⟩⟩,rfl⟩
  ·refine A.cF rfl (decide_eq_false afd) ?_
   refine A.skip ?_
   show aj _ _ _ _ _
   obtain⟨H,hC,hHl,H',hsort⟩:=alP rows steps hrs hrf (by omega)
   have hcl:=ab9 (ai:=ai) (st1:=rows) hC (l:=[]) (by simp;omega)
   rw[List.nil_append]at hcl
   refine A.RS W0 [] [(0,.al 910000010)] [(1,.int .i64 root),(9,.int .i64 (sets:Int)),(10,.cH [.lst false (ml az ai),.lst false (ml eMI rows),.lst false (ml eMS steps)]),(17,.int .i64 (atM (cW rows (sets-1)) root)),(18,.ptr 910000010 0)] [(910000010,.cells 34 [.bw])] (by kernel_rfl) ?_
   refine A.RS W0 [.ac 910000010 910000011 84 2 0] [(2,hto (show AV.int .i64 (w64 ((sets:Int)-(1:Int)))=AV.int .i64 ((sets-1:Nat):Int)by rw[alU])),(5,hdc [910000012] hcl yZ)] [(17,.int .i64 (atM (cW rows (sets-1)) root)),(18,.ptr 910000010 0)] (bag 910000012 H) (by kernel_rfl) ?_
   refine A.RS W0 [] [(1,hdc [] (ae3 (d:=910000012) (T:=84) hsort) an8)] [(17,.int .i64 (atM (cW rows (sets-1)) root)),(18,.ptr 910000010 0)] (bag 910000012 H') (by kernel_rfl) ?_
   refine A.RS W0 [] [] [(6,.own 910000012),(7,.int .i64 (atM (cW rows (sets-1)) root)),(8,.bool true)] [(910000012,.slice 84 2 (ml aQ H') 0 false)] (by kernel_rfl) ?_
   refine A.ret ?_
   refine lY.mono (A.fin W0 [.fz [910000012]] (R:=.tup [.lst false (ml aQ H'),.int .i64 (atM (cW rows (sets-1)) root),.bool true]) (σ2:=[]) rfl (by kernel_rfl)) ?_
   rintro a s ⟨rfl,rfl⟩
   exact⟨rfl,(H',atM (cW rows (sets-1)) root,true),⟨λh=>absurd h hts,λ_=>⟨rows,steps,by rw[hsz];exact hrs,hrf,by rw[hsz];exact .inr ⟨by omega,H,hC,hsort,rfl⟩⟩⟩,rfl⟩
end Go.Proofs.YtmnbolcmepihlaaGreat
