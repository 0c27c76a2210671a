/- The walk of sO. No condition but bf aM stand in each. -/
import Derived.Test.YtmnbolcmepihlaaGreatAY
import Derived.Test.YtmnbolcmepihlaaGreatSF
namespace Go.Proofs.YtmnbolcmepihlaaGreat
set_option linter.all false
set_option maxRecDepth 100000
open Go Go.Proofs.Tryz
structure ChP(ay:List ah)(root:Int)(ts:List Int)(r:List az×Int×Bool):Prop where
 nil:ts=[]→r=([],0,true)
 rows:ts≠[]→∃rows steps,rows.length=2 ^ ts.length∧rU ay ts rows steps∧((2305843009213693951≤atM (dK rows (2 ^ ts.length-1)) root∧r=([],0,false))∨
  (atM (dK rows (2 ^ ts.length-1)) root<2305843009213693951∧∃H,Col steps ((2 ^ ts.length-1:Nat):Int) root H∧jO (cZ [λx:az=>x.aD,λx:az=>x.To]) H=some r.1∧r.2=(atM (dK rows (2 ^ ts.length-1)) root,true)))
variable {ay:List ah}
theorem apz{rows:List (List (Int×Int))}{steps:List (List (Int×(Int×Int)))}{s:Int}{m:List (Int×Int)}(r:Int)(hs:elO rows s=some m):
  RO prog 120 [] [.cV [.lst false (ml aH ay),.lst false (ml eMI rows),.lst false (ml eMS steps)],.int .i64 s,.int .i64 r] (.int .i64 (atM m r)):=by
 refine aZ func120 rfl rfl ?_;refine A.RS W0 [] [] [(0,.cV [.lst false (ml aH ay),.lst false (ml eMI rows),.lst false (ml eMS steps)]),(1,.int .i64 s),(2,.int .i64 r)] [] (by kernel_rfl) ?_;refine A.seq ?_;refine A.RS W0 [] [(5,hix (ix eMI hs)),(8,hlf (k:=.i64) m r (vI .i64) 0 zN zI3)] [(7,.int .i64 ((aY m r).getD 0)),(8,.bool (aY m r).isSome)] [] (by kernel_rfl) ?_;refine A.RS W0 [] [] [(7,.int .i64 ((aY m r).getD 0)),(21,.bool (aY m r).isSome)] [] (by kernel_rfl) ?_;cases hg:aY m r with
 |some c=>
  refine A.cT rfl rfl ?_;refine A.RS W0 [] [] [(6,.int .i64 c)] [] (by kernel_rfl) ?_;refine A.ret ?_;have e:atM m r=c:=by unfold atM;rw[hg];rfl
  rw[e];exact A.fin W0 [] rfl (by kernel_rfl)
 |none=>
  refine A.cF rfl rfl ?_;refine A.skip ?_;show af _ _ _ _ _;refine A.RS W0 [] [] [(6,.int .i64 2305843009213693951)] [] (by kernel_rfl) ?_;refine A.ret ?_;have e:atM m r=2305843009213693951:=by unfold atM;rw[hg];rfl
  rw[e];exact A.fin W0 [] rfl (by kernel_rfl)
theorem A.JP{G:Gl}{α:Type}{x y:Code}{Q:Exit→Env→Sto→Prop}{env:Env}{σ:Sto}(P:α→Prop)(cn:α→Env)(dh:α→Sto)(h:af G x (l8 (λenv' σ'=>∃g,P g∧aU G env' σ' (cn g) (dh g)) Q) env σ)(k:∀g,P g→af G y Q (cn g) (dh g)):af G (.seq x y) Q env σ:=by
 refine A.seq (h.mono ?_);intro e env' σ' hq;cases e with
 |normal=>
  obtain⟨g,hg,hw⟩:=hq;exact A.weak hw (k g hg)
 |_=>exact hq
theorem adO{root:Int}{ts:List Int}(hk:ts.length≤6)(ha:∀a∈ay,(1≤a.dx∧a.dx≤1000000)∧a.Hop.To≠0)
  (apA:∀rows steps,rows.length=2 ^ ts.length→rU ay ts rows steps→atM (dK rows (2 ^ ts.length-1)) root<2305843009213693951→∃H,Col steps ((2 ^ ts.length-1:Nat):Int) root H∧H.length≤1000000∧∃H',jO (cZ [λx:az=>x.aD,λx:az=>x.To]) H=some H') :
  b9 prog 63 [] [.lst false (ml aH ay),.int .i64 root,.lst false (ml ak ts)] (λa σ'=>σ'=[]∧∃r,ChP ay root ts r∧a=.tup [.lst false (ml aJ r.1),.int .i64 r.2.1,.bool r.2.2]):=by
 refine aZ func63 rfl rfl ?_;refine A.RS W0 [] [] [(0,.lst false (ml aH ay)),(1,.int .i64 root),(2,.lst false (ml ak ts))] [] (by kernel_rfl) ?_;refine A.seq ?_;refine A.RS W0 [] [(1,hto (lnE ak ts))] [(0,.lst false (ml aH ay)),(1,.int .i64 root),(2,.lst false (ml ak ts)),(21,.bool (decide ((ts.length:Int)=(0:Int))))] [] (by kernel_rfl) ?_;by_cases hts:ts=[]
 ·subst hts;refine A.cT rfl rfl ?_;refine A.RS W0 [] [] [(6,.bI),(7,.int .i64 0),(8,.bool true)] [] (by kernel_rfl) ?_;refine A.ret ?_;refine nO.mono (A.fin W0 [] (R:=.tup [.lst false (ml aJ []),.int .i64 0,.bool true]) (σ2:=[]) rfl (by kernel_rfl)) ?_;rintro a s ⟨rfl,rfl⟩;exact⟨rfl,([],0,true),⟨λ_=>rfl,λh=>absurd rfl h⟩,rfl⟩
 have hlen:1≤ts.length:=by cases ts with|nil=>exact absurd rfl hts|cons _ _=>simp
 refine A.cF rfl (decide_eq_false (by omega)) ?_;refine A.skip ?_;show af _ _ _ _ _;have h64:2 ^ ts.length≤64:=Nat.le_trans (Nat.pow_le_pow_right (by omega) hk) (by decide);have aj4:IntKind.wrap .i64 (1*2 ^ min (ts.length:Int).toNat 64)=((2 ^ ts.length:Nat):Int):=by
  rw[Int.toNat_natCast,Nat.min_eq_left (by omega),Int.one_mul];have e:((2:Int) ^ ts.length)=((2 ^ ts.length:Nat):Int):=by simp
  rw[e];generalize 2 ^ ts.length=z at h64 ⊢;exact cH (by omega) (by omega)
 generalize hsz:2 ^ ts.length=sets at aj4 h64 apA;refine A.RS W0 [] [(1,hto (lnE ak ts)),(2,.to (.sh (ts.length:Int) (by omega)) (.int .i64 (IntKind.wrap .i64 (1*2 ^ min (ts.length:Int).toNat 64))) (.int .i64 (sets:Int)) (by rw[aj4]))] [(0,.lst false (ml aH ay)),(1,.int .i64 root),(2,.lst false (ml ak ts)),(9,.int .i64 (sets:Int))] [] (by kernel_rfl) ?_;refine A.RS W0 [] [(2,.al 910000000)] [(1,.int .i64 root),(2,.lst false (ml ak ts)),(9,.int .i64 (sets:Int)),(10,.ptr 910000000 0)] [(910000000,.cells 165 [.lst false (ml aH ay),.bI,.bI])] (by kernel_rfl) ?_;refine A.seq ?_;refine A.RS W0 [.ac 910000000 910000021 144 1 1,.ac 910000000 910000023 166 1 2] [] [(1,.int .i64 root),(2,.lst false (ml ak ts)),(9,.int .i64 (sets:Int)),(10,.ptr 910000000 0),(28,.int .i64 (sets:Int)),(29,.int .i64 0)] [(910000000,.cells 165 [.lst false (ml aH ay),.own 910000021,.own 910000023]),(910000021,.slice 144 1 (ml eMI []) 0 false),(910000023,.slice 166 1 (ml eMS []) 0 false)] (by kernel_rfl) ?_;refine A.block ?_
 refine A.loop (α:=List (List (Int×Int))×List (List (Int×(Int×Int)))) (λg=>[(1,.int .i64 root),(2,.lst false (ml ak ts)),(9,.int .i64 (sets:Int)),(10,.ptr 910000000 0),(28,.int .i64 (sets:Int)),(29,.int .i64 (g.1.length:Int))])
  (λg=>[(910000000,.cells 165 [.lst false (ml aH ay),.own 910000021,.own 910000023]),(910000021,.slice 144 1 (ml eMI g.1) 0 false),(910000023,.slice 166 1 (ml eMS g.2) 0 false)])
  (λg=>g.1.length≤sets∧rU ay ts g.1 g.2) (λg=>sets-g.1.length) ([],[]) ⟨Nat.zero_le _,rfl,λS m1 m2 h=>by simp at h⟩ (aU.go [] [] (by kernel_rfl)) ?_
 rintro⟨rows,steps⟩ ⟨hrl,hrf⟩;simp only at hrl hrf;refine A.RS W0 [] [] [(1,.int .i64 root),(2,.lst false (ml ak ts)),(9,.int .i64 (sets:Int)),(10,.ptr 910000000 0),(28,.int .i64 (sets:Int)),(29,.int .i64 (rows.length:Int)),(30,.bool (decide ((rows.length:Int)<(sets:Int))))] [(910000000,.cells 165 [.lst false (ml aH ay),.own 910000021,.own 910000023]),(910000021,.slice 144 1 (ml eMI rows) 0 false),(910000023,.slice 166 1 (ml eMS steps) 0 false)] (by kernel_rfl) ?_;refine A.seq ?_;by_cases hS:rows.length<sets
 ·refine A.cT rfl (decide_eq_true (by omega)) ?_;refine A.skip ?_;show af _ _ _ _ _;have hrl6:rows.length<64:=by omega
  have hst:steps.length=rows.length:=hrf.len;generalize hSn:rows.length=S at hS hrl6 hst;refine A.seq ?_;refine A.block ?_;refine A.RS W0 [] [] [(1,.int .i64 root),(2,.lst false (ml ak ts)),(9,.int .i64 (sets:Int)),(10,.ptr 910000000 0),(28,.int .i64 (sets:Int)),(29,.int .i64 (S:Int)),(11,.int .i64 (S:Int))] [(910000000,.cells 165 [.lst false (ml aH ay),.own 910000021,.own 910000023]),(910000021,.slice 144 1 (ml eMI rows) 0 false),(910000023,.slice 166 1 (ml eMS steps) 0 false)] (by kernel_rfl) ?_;refine A.RS W0 [] [(6,.al 910000002),(7,anC W0 910000031),(8,hxa 910000001 (xs:=ml eMI rows) afY (by rw[eF];omega) (by rw[eF];simp only[maxLen];omega)),(13,.al 910000004),(14,anC W0 910000033),(15,hxa 910000003 (xs:=ml eMS steps) afZ (by rw[eF];omega) (by rw[eF];simp only[maxLen];omega))] [(1,.int .i64 root),(2,.lst false (ml ak ts)),(9,.int .i64 (sets:Int)),(10,.ptr 910000000 0),(28,.int .i64 (sets:Int)),(29,.int .i64 (S:Int)),(11,.int .i64 (S:Int))] (sol ay (ml eMI rows) [] (ml eMS steps) []) (by kernel_rfl) ?_;have hl1:(ml eMI rows).length=S:=by rw[eF];exact hSn
  have hl2:(ml eMS steps).length=(ml eMI rows).length:=by rw[eF,hl1];exact hst
  refine A.JP (λg:List (Int×Int)×List (Int×(Int×Int))=>jk ay ts rows S (λ_ _=>False) g.1 g.2∧∀i v,ts[i]?=some v→S=2 ^ i→atM g.1 v≤0) (λ_=>[(1,.int .i64 root),(2,.lst false (ml ak ts)),(9,.int .i64 (sets:Int)),(10,.ptr 910000000 0),(28,.int .i64 (sets:Int)),(29,.int .i64 (S:Int)),(11,.int .i64 (S:Int))]) (λg=>sol ay (ml eMI rows) g.1 (ml eMS steps) g.2) ?_ ?_
  ·
   have hpw:∀i,i<ts.length→S=2 ^ i→decide (fk .and .i64 (S:Int) (w64 ((S:Int)-(1:Int)))=(0:Int))=true∧0<S:=λi hi h=>by
    have hp:0<S:=by rw[h];exact Nat.two_pow_pos i
    refine⟨decide_eq_true ?_,hp⟩;rw[cH (by omega) (by omega),show(S:Int)-1=((S-1:Nat):Int)by omega,vH (by omega) (by omega),h,aiz];rfl
   have hnone:∀(c:¬(decide (fk .and .i64 (S:Int) (w64 ((S:Int)-(1:Int)))=(0:Int))=true∧0<S)),∃g:List (Int×Int)×List (Int×(Int×Int)),(jk ay ts rows S (λ_ _=>False) g.1 g.2∧∀i v,ts[i]?=some v→S=2 ^ i→atM g.1 v≤0)∧g=([],[]):=λc=>
    ⟨([],[]),⟨jk.nil _ _ _ _,λi v hv he=>absurd (hpw i (List.getElem?_eq_some_iff.1 hv).1 he) c⟩,rfl⟩
   rcases tf (decide (fk .and .i64 (S:Int) (w64 ((S:Int)-(1:Int)))=(0:Int)))with c|c
   rotate_left
   ·refine A.RS W0 [] [(4,hto (bE c))] [(1,.int .i64 root),(2,.lst false (ml ak ts)),(9,.int .i64 (sets:Int)),(10,.ptr 910000000 0),(28,.int .i64 (sets:Int)),(29,.int .i64 (S:Int)),(11,.int .i64 (S:Int)),(60,.bool false)] (sol ay (ml eMI rows) [] (ml eMS steps) []) (by kernel_rfl) ?_;refine A.cF rfl rfl ?_;refine A.skip ?_;obtain⟨g,hg,rfl⟩:=hnone (λh=>by rw[h.1]at c;cases c);exact⟨([],[]),hg,aU.go [] [] (by kernel_rfl)⟩
   refine A.RS W0 [] [(4,hto (bE c))] [(1,.int .i64 root),(2,.lst false (ml ak ts)),(9,.int .i64 (sets:Int)),(10,.ptr 910000000 0),(28,.int .i64 (sets:Int)),(29,.int .i64 (S:Int)),(11,.int .i64 (S:Int)),(60,.bool (decide ((0:Int)<(S:Int))))] (sol ay (ml eMI rows) [] (ml eMS steps) []) (by kernel_rfl) ?_;by_cases hS0:0<S
   rotate_left
   ·refine A.cF rfl (decide_eq_false (by omega)) ?_;refine A.skip ?_;obtain⟨g,hg,rfl⟩:=hnone (λh=>hS0 h.2);exact⟨([],[]),hg,aU.go [] [] (by kernel_rfl)⟩
   refine A.cT rfl (decide_eq_true (by omega)) ?_;refine A.RS W0 [] [(1,hto (lnE ak ts))] [(1,.int .i64 root),(2,.lst false (ml ak ts)),(9,.int .i64 (sets:Int)),(10,.ptr 910000000 0),(28,.int .i64 (sets:Int)),(29,.int .i64 (S:Int)),(11,.int .i64 (S:Int)),(61,.lst false (ml ak ts)),(62,.int .i64 (ts.length:Int)),(63,.int .i64 0)] (sol ay (ml eMI rows) [] (ml eMS steps) []) (by kernel_rfl) ?_;refine A.block ?_;refine A.bS 61 rfl λhbn=>?_
   refine A.loop (α:=Nat×List (Int×Int)×List (Int×(Int×Int))) (λg=>[(1,.int .i64 root),(2,.lst false (ml ak ts)),(9,.int .i64 (sets:Int)),(10,.ptr 910000000 0),(28,.int .i64 (sets:Int)),(29,.int .i64 (S:Int)),(11,.int .i64 (S:Int)),(61,.lst false (ml ak ts)),(62,.int .i64 (ts.length:Int)),(63,.int .i64 (g.1:Int))]) (λg=>sol ay (ml eMI rows) g.2.1 (ml eMS steps) g.2.2)
    (λg=>g.1≤ts.length∧jk ay ts rows S (λ_ _=>False) g.2.1 g.2.2∧∀i v,i<g.1→ts[i]?=some v→S=2 ^ i→atM g.2.1 v≤0) (λg=>ts.length-g.1) (0,[],[]) ⟨Nat.zero_le _,jk.nil _ _ _ _,λi v hi=>by omega⟩ (aU.go [] [] (by kernel_rfl)) ?_
   rintro⟨j,m1,m2⟩ ⟨hj,hrj,hon⟩;simp only at hj hrj hon;refine A.RS W0 [] [] [(1,.int .i64 root),(2,.lst false (ml ak ts)),(9,.int .i64 (sets:Int)),(10,.ptr 910000000 0),(28,.int .i64 (sets:Int)),(29,.int .i64 (S:Int)),(11,.int .i64 (S:Int)),(61,.lst false (ml ak ts)),(62,.int .i64 (ts.length:Int)),(63,.int .i64 (j:Int)),(64,.bool (decide ((j:Int)<(ts.length:Int))))] (sol ay (ml eMI rows) m1 (ml eMS steps) m2) (by kernel_rfl) ?_;refine A.seq ?_;by_cases hjl:j<ts.length
   rotate_left
   ·refine A.cF rfl (ltF (by omega)) ?_;refine A.exit ?_;exact⟨(m1,m2),⟨hrj,λi v hv he=>hon i v (by have:=(List.getElem?_eq_some_iff.1 hv).1;omega) hv he⟩,aU.go [] [] (by kernel_rfl)⟩
   have hx:ts[j]?=some ts[j]:=List.getElem?_eq_getElem hjl;generalize ts[j]=t at hx;refine A.cT rfl (ltT hx) ?_;refine A.skip ?_;show af _ _ _ _ _;have hsh:IntKind.wrap .i64 (1*2 ^ min (j:Int).toNat 64)=((2 ^ j:Nat):Int):=by
    rw[Int.toNat_natCast,Nat.min_eq_left (by omega),Int.one_mul];have h6:2 ^ j≤64:=Nat.le_trans (Nat.pow_le_pow_right (by omega) (show j≤6 by omega)) (by decide);have e:((2:Int) ^ j)=((2 ^ j:Nat):Int):=by simp
    rw[e];generalize 2 ^ j=z at h6 ⊢;exact cH (by omega) (by omega)
   refine A.JP (λg:List (Int×Int)×List (Int×(Int×Int))=>jk ay ts rows S (λ_ _=>False) g.1 g.2∧(∀x,atM g.1 x≤atM m1 x)∧(S=2 ^ j→atM g.1 t≤0)) (λ_=>[(1,.int .i64 root),(2,.lst false (ml ak ts)),(9,.int .i64 (sets:Int)),(10,.ptr 910000000 0),(28,.int .i64 (sets:Int)),(29,.int .i64 (S:Int)),(11,.int .i64 (S:Int)),(61,.lst false (ml ak ts)),(62,.int .i64 (ts.length:Int)),(63,.int .i64 (j:Int))]) (λg=>sol ay (ml eMI rows) g.1 (ml eMS steps) g.2) ?_ ?_
   ·refine A.block ?_;refine A.RS W0 [] [(1,hix (ix ak (bu hx)))] [(1,.int .i64 root),(2,.lst false (ml ak ts)),(9,.int .i64 (sets:Int)),(10,.ptr 910000000 0),(28,.int .i64 (sets:Int)),(29,.int .i64 (S:Int)),(11,.int .i64 (S:Int)),(61,.lst false (ml ak ts)),(62,.int .i64 (ts.length:Int)),(63,.int .i64 (j:Int)),(12,.int .i64 (j:Int)),(13,.int .i64 t)] (sol ay (ml eMI rows) m1 (ml eMS steps) m2) (by kernel_rfl) ?_;refine A.RS W0 [] [(2,.to (.sh (j:Int) (by omega)) (.int .i64 (IntKind.wrap .i64 (1*2 ^ min (j:Int).toNat 64))) (.int .i64 ((2 ^ j:Nat):Int)) (by rw[hsh]))] [(1,.int .i64 root),(2,.lst false (ml ak ts)),(9,.int .i64 (sets:Int)),(10,.ptr 910000000 0),(28,.int .i64 (sets:Int)),(29,.int .i64 (S:Int)),(11,.int .i64 (S:Int)),(61,.lst false (ml ak ts)),(62,.int .i64 (ts.length:Int)),(63,.int .i64 (j:Int)),(13,.int .i64 t),(71,.bool (decide ((S:Int)=((2 ^ j:Nat):Int))))] (sol ay (ml eMI rows) m1 (ml eMS steps) m2) (by kernel_rfl) ?_;by_cases he:S=2 ^ j
    ·refine A.cT rfl (decide_eq_true (by rw[he])) ?_;by_cases h0:0<atM m1 t
     ·have hput:=hrj.put (v:=t) (c:=0) (x:=(0,0)) (Int.le_refl _) h0 (.inr (.inr ⟨rfl,j,hx,he,rfl⟩));have hty:=aaO (ay:=ay) (xs1:=ml eMI rows) (m1:=m1) (xs2:=ml eMS steps) (m2:=m2) t 0 0 0 hl2 h0;rw[hl1]at hty;refine A.R W0 [] [(4,hdc [] hty xV)] [(1,.int .i64 root),(2,.lst false (ml ak ts)),(9,.int .i64 (sets:Int)),(10,.ptr 910000000 0),(28,.int .i64 (sets:Int)),(29,.int .i64 (S:Int)),(11,.int .i64 (S:Int)),(61,.lst false (ml ak ts)),(62,.int .i64 (ts.length:Int)),(63,.int .i64 (j:Int))] (sol ay (ml eMI rows) (bN m1 t 0) (ml eMS steps) (bN m2 t (0,0))) (by kernel_rfl) ?_;refine⟨(bN m1 t 0,bN m2 t (0,0)),⟨hput,λx=>?_,λ_=>by rw[nQ,if_pos rfl];exact Int.le_refl _⟩,aU.go [] [] (by kernel_rfl)⟩;rw[nQ];split
      ·rename_i hxt;subst hxt;omega
      ·omega
     ·have htn:=aaN (ay:=ay) (xs1:=ml eMI rows) (m1:=m1) (xs2:=ml eMS steps) (m2:=m2) t 0 0 0 (by omega);rw[hl1]at htn;refine A.R W0 [] [(4,hdc [] htn xV)] [(1,.int .i64 root),(2,.lst false (ml ak ts)),(9,.int .i64 (sets:Int)),(10,.ptr 910000000 0),(28,.int .i64 (sets:Int)),(29,.int .i64 (S:Int)),(11,.int .i64 (S:Int)),(61,.lst false (ml ak ts)),(62,.int .i64 (ts.length:Int)),(63,.int .i64 (j:Int))] (sol ay (ml eMI rows) m1 (ml eMS steps) m2) (by kernel_rfl) ?_;exact⟨(m1,m2),⟨hrj,λx=>Int.le_refl _,λ_=>by show atM m1 t≤0;omega⟩,aU.go [] [] (by kernel_rfl)⟩
    ·refine A.cF rfl (decide_eq_false λh=>he (by omega)) ?_;refine A.skip ?_;exact⟨(m1,m2),⟨hrj,λx=>Int.le_refl _,λh=>absurd h he⟩,aU.go [] [] (by kernel_rfl)⟩
   rintro⟨n1,n2⟩ ⟨g1,g2,g3⟩;simp only at g1 g2 g3;refine A.R W0 [] [(0,hto (inc hx hbn))] [(1,.int .i64 root),(2,.lst false (ml ak ts)),(9,.int .i64 (sets:Int)),(10,.ptr 910000000 0),(28,.int .i64 (sets:Int)),(29,.int .i64 (S:Int)),(11,.int .i64 (S:Int)),(61,.lst false (ml ak ts)),(62,.int .i64 (ts.length:Int)),(63,.int .i64 ((j+1:Nat):Int))] (sol ay (ml eMI rows) n1 (ml eMS steps) n2) (by kernel_rfl) ?_;refine⟨(j+1,n1,n2),⟨hjl,g1,λi v hi hv he=>?_⟩,by simp only;omega,aU.go [] [] (by kernel_rfl)⟩;rcases Nat.lt_or_eq_of_le (Nat.le_of_lt_succ hi)with hi|hi
   ·exact Int.le_trans (g2 v) (hon i v hi hv he)
   ·subst hi;rw[hx]at hv;cases hv
    exact g3 he
  rintro⟨m1,m2⟩ ⟨hj,hone⟩;simp only at hj hone;have hp0:fk .and .i64 (w64 ((S:Int)-(1:Int))) (S:Int)=(((S-1) &&& S:Nat):Int):=by
   rcases Nat.eq_zero_or_pos S with h0|h0
   ·rw[h0];decide
   ·rw[cH (by omega) (by omega),show(S:Int)-1=((S-1:Nat):Int)by omega,vH (by omega) (by omega)]
  refine A.JP (λg:List (Int×Int)×List (Int×(Int×Int))=>jk ay ts rows S (λP _=>0<P∧P<S∧P &&& S=P) g.1 g.2∧∀i v,ts[i]?=some v→S=2 ^ i→atM g.1 v≤0) (λ_=>[(1,.int .i64 root),(2,.lst false (ml ak ts)),(9,.int .i64 (sets:Int)),(10,.ptr 910000000 0),(28,.int .i64 (sets:Int)),(29,.int .i64 (S:Int)),(11,.int .i64 (S:Int))]) (λg=>sol ay (ml eMI rows) g.1 (ml eMS steps) g.2) ?_ ?_
  ·
   refine A.RS W0 [] [(3,hto (show AV.int .i64 (fk .and .i64 (w64 ((S:Int)-(1:Int))) (S:Int))=AV.int .i64 (((S-1) &&& S:Nat):Int)by rw[hp0]))] [(1,.int .i64 root),(2,.lst false (ml ak ts)),(9,.int .i64 (sets:Int)),(10,.ptr 910000000 0),(28,.int .i64 (sets:Int)),(29,.int .i64 (S:Int)),(11,.int .i64 (S:Int)),(14,.int .i64 (((S-1) &&& S:Nat):Int))] (sol ay (ml eMI rows) m1 (ml eMS steps) m2) (by kernel_rfl) ?_;refine A.block ?_
   refine A.loop (α:=Nat×List (Int×Int)×List (Int×(Int×Int))) (λg=>[(1,.int .i64 root),(2,.lst false (ml ak ts)),(9,.int .i64 (sets:Int)),(10,.ptr 910000000 0),(28,.int .i64 (sets:Int)),(29,.int .i64 (S:Int)),(11,.int .i64 (S:Int)),(14,.int .i64 (g.1:Int))]) (λg=>sol ay (ml eMI rows) g.2.1 (ml eMS steps) g.2.2)
    (λg=>(g.1 &&& S=g.1∧(0<g.1→g.1<S))∧jk ay ts rows S (λP _=>g.1<P∧P<S∧P &&& S=P) g.2.1 g.2.2∧∀i v,ts[i]?=some v→S=2 ^ i→atM g.2.1 v≤0) (λg=>g.1) ((S-1) &&& S,m1,m2) ⟨⟨tq 0,λh=>?_⟩,hj.more λP v hD=>?_,hone⟩ (aU.go [] [] (by kernel_rfl)) ?_
   ·have:=Nat.and_le_left (n:=S-1) (m:=S);simp only at h ⊢;omega
   ·exfalso;have:=vJ S S P (Nat.and_self S) hD.2.2 hD.2.1;simp only at hD;omega
   rintro⟨p,u1,u2⟩ ⟨⟨hpS,apB⟩,hrj,hon⟩;simp only at hpS apB hrj hon;have done:∀(hp:p=0∨S=0),jk ay ts rows S (λP _=>0<P∧P<S∧P &&& S=P) u1 u2:=λhp=>hrj.more λP v hD=>hrj.part P v ⟨by omega,hD.2⟩;refine A.seq ?_;rcases tf (decide ((0:Int)<(S:Int)))with c|c
   rotate_left
   ·have c':=of_decide_eq_false c;refine A.RS W0 [] [(1,hto (bE c))] [(1,.int .i64 root),(2,.lst false (ml ak ts)),(9,.int .i64 (sets:Int)),(10,.ptr 910000000 0),(28,.int .i64 (sets:Int)),(29,.int .i64 (S:Int)),(11,.int .i64 (S:Int)),(14,.int .i64 (p:Int)),(87,.bool false)] (sol ay (ml eMI rows) u1 (ml eMS steps) u2) (by kernel_rfl) ?_;refine A.cF rfl rfl ?_;refine A.exit ?_;exact⟨(u1,u2),⟨done (by omega),hon⟩,aU.go [] [] (by kernel_rfl)⟩
   have c':=of_decide_eq_true c;refine A.RS W0 [] [(1,hto (bE c))] [(1,.int .i64 root),(2,.lst false (ml ak ts)),(9,.int .i64 (sets:Int)),(10,.ptr 910000000 0),(28,.int .i64 (sets:Int)),(29,.int .i64 (S:Int)),(11,.int .i64 (S:Int)),(14,.int .i64 (p:Int)),(87,.bool (decide ((0:Int)<(p:Int))))] (sol ay (ml eMI rows) u1 (ml eMS steps) u2) (by kernel_rfl) ?_;by_cases hp:0<p
   rotate_left
   ·refine A.cF rfl (decide_eq_false (by omega)) ?_;refine A.exit ?_;exact⟨(u1,u2),⟨done (by omega),hon⟩,aU.go [] [] (by kernel_rfl)⟩
   refine A.cT rfl (decide_eq_true (by omega)) ?_;refine A.skip ?_;show af _ _ _ _ _;have hpl:=apB hp;have hrow:rows[p]?=some (dK rows p):=by
    unfold dK;rw[List.getD_eq_getElem?_getD,List.getElem?_eq_getElem (by omega)];rfl
   generalize hm:dK rows p=m at hrow;have hxs:(ml eMI rows)[(p:Int).toNat]?=some [.mpf (bU .i64 (vI .i64) m)]:=by
    rw[Int.toNat_natCast];simp[ml,hrow,eMI]
   refine A.JP (λg:List (Int×Int)×List (Int×(Int×Int))=>jk ay ts rows S (λP _=>p≤P∧P<S∧P &&& S=P) g.1 g.2∧∀i v,ts[i]?=some v→S=2 ^ i→atM g.1 v≤0) (λ_=>[(1,.int .i64 root),(2,.lst false (ml ak ts)),(9,.int .i64 (sets:Int)),(10,.ptr 910000000 0),(28,.int .i64 (sets:Int)),(29,.int .i64 (S:Int)),(11,.int .i64 (S:Int)),(14,.int .i64 (p:Int))]) (λg=>sol ay (ml eMI rows) g.1 (ml eMS steps) g.2) ?_ ?_
   ·refine A.block ?_;have aiA:fS S p<S:=aaR (by omega) hp hpl hpS;have apC:elO rows ((fS S p:Nat):Int)=some (dK rows (fS S p)):=by
     unfold elO dK;rw[if_pos (by omega),Int.toNat_natCast,List.getD_eq_getElem?_getD,List.getElem?_eq_getElem (by omega)];rfl
    have apD:∀Q,Q<S→∃n2,jk ay ts rows Q (λP _=>0<P∧P<Q∧P &&& Q=P) (dK rows Q) n2:=λQ hQ=>by
     have h1:rows[Q]?=some (dK rows Q):=by
      unfold dK;rw[List.getD_eq_getElem?_getD,List.getElem?_eq_getElem (by omega)];rfl
     exact⟨_,(hrf.row Q _ _ h1 (List.getElem?_eq_getElem (by omega))).j⟩
    obtain⟨np,hjp⟩:=apD p hpl;obtain⟨nR,hjR⟩:=apD (fS S p) aiA;rw[hm]at hjp
    refine A.seq (A.RX W0 7 [] [(5,hxi (xs:=ml eMI rows) (i:=(p:Int)) zO ⟨by omega,by rw[hl1];omega⟩),(6,hxo (xs:=ml eMI rows) (p:=(p:Int).toNat) zM hxs)]
     [(98,.mpf (bU .i64 (vI .i64) m)),(97,.ptr 910000001 (p:Int).toNat),(96,.int .i64 (p:Int)),(95,.own 910000001),(94,.ptr 910000000 1),(93,.ptr 910000000 0),(92,.ptr 910000000 0),(1,.int .i64 root),(2,.lst false (ml ak ts)),(9,.int .i64 (sets:Int)),(10,.ptr 910000000 0),(28,.int .i64 (sets:Int)),(29,.int .i64 (S:Int)),(11,.int .i64 (S:Int)),(14,.int .i64 (p:Int)),(87,.bool (decide ((0:Int)<(p:Int))))] (sol ay (ml eMI rows) u1 (ml eMS steps) u2)
     (by kernel_rfl) (by kernel_rfl) (by kernel_rfl) rfl rfl (D.agn (di:=910000040) (x:=.tmp 98) (aL:=bU .i64 (vI .i64) m) rfl rfl underlying144 rfl rfl) rfl rfl ?_)
    rintro av σ' ⟨rfl,es,clock,rfl⟩;refine⟨[],_,_,rfl,?_⟩;show af _ _ _ _ _;refine A.block ?_
    refine A.rngF (k:=.i64) (enc:=vI .i64) (l:=m) (di:=910000040) (clock:=clock) (es:=es) (λq (g:List (Int×Int)×List (Int×(Int×Int)))=>jk ay ts rows S (λP v=>(p<P∧P<S∧P &&& S=P)∨(P=p∧∃c,(v,c)∈q)) g.1 g.2∧∀i v,ts[i]?=some v→S=2 ^ i→atM g.1 v≤0) (u1,u2)
     (λ_=>[(1,.int .i64 root),(2,.lst false (ml ak ts)),(9,.int .i64 (sets:Int)),(10,.ptr 910000000 0),(28,.int .i64 (sets:Int)),(29,.int .i64 (S:Int)),(11,.int .i64 (S:Int)),(14,.int .i64 (p:Int)),(99,.ptr 910000040 0)]) (λseen g=>sol ay (ml eMI rows) g.1 (ml eMS steps) g.2++[(910000040,.ei es clock (bU .i64 (vI .i64) m) seen)]) ⟨rfl,rfl,rfl⟩ ⟨rfl,rfl,rfl⟩ (by kernel_rfl)
     ⟨hrj.more λP v hD=>hrj.part P v (by rcases hD with h|⟨_,c,hc⟩;exact h;cases hc),hon⟩ (λ_=>rfl) (λ_ _=>rfl) (λ_ _ _=>rfl) (aU.go [] [] (by kernel_rfl)) ?_ ?_
    ·rintro seen e i n v q ⟨w1,w2⟩ he hli ⟨hw,hwo⟩;simp only at hw hwo;refine A.block ?_;refine A.RS W0 [] [(0,hxe 910000040 clock .i64 seen (vI .i64) he hli)] [(1,.int .i64 root),(2,.lst false (ml ak ts)),(9,.int .i64 (sets:Int)),(10,.ptr 910000000 0),(28,.int .i64 (sets:Int)),(29,.int .i64 (S:Int)),(11,.int .i64 (S:Int)),(14,.int .i64 (p:Int)),(99,.ptr 910000040 0),(15,.int .i64 n),(16,.int .i64 v)] (sol ay (ml eMI rows) w1 (ml eMS steps) w2++[(910000040,.ei es clock (bU .i64 (vI .i64) m) (seen.push e.born))]) (by kernel_rfl) ?_;have hgv:aY m n=some v:=yA hjp.nd (List.mem_of_getElem? hli);have hv:=(hjp.ok n v hgv).1;have afj:atM m n=v:=by unfold atM;rw[hgv];rfl
     have hR:=hjR.bd n;have hW:=hw.bd n;have apF:w64 (v+atM (dK rows (fS S p)) n)=v+atM (dK rows (fS S p)) n:=cH (by omega) (by omega)
     have hin:∀{x:Int} {c:Int},(x,c)∈q++[(n,v)]→(∃c,(x,c)∈q)∨x=n:=λ{x c} h=>by
      rcases List.mem_append.1 h with h|h
      ·exact .inl ⟨c,h⟩
      ·simp at h;exact .inr h.1
     by_cases hlt:v+atM (dK rows (fS S p)) n<atM w1 n
     ·have hty:=aaO (ay:=ay) (xs1:=ml eMI rows) (m1:=w1) (xs2:=ml eMS steps) (m2:=w2) n (v+atM (dK rows (fS S p)) n) 0 (p:Int) hl2 hlt;rw[hl1]at hty;have hput:=hw.put (v:=n) (c:=v+atM (dK rows (fS S p)) n) (x:=(0,(p:Int))) (by omega) hlt (.inr (.inl ⟨rfl,p,rfl,hp,hpl,hpS,by rw[hm,afj],by rw[hm,afj];exact hv.2,by omega⟩))
      refine A.R W0 [] [(7,hto (show AV.int .i64 (fk .andNot .i64 (S:Int) (p:Int))=AV.int .i64 ((fS S p:Nat):Int)by rw[w9 (by omega)])),(9,hro (agu (ay:=ay) (rows:=rows) (m1:=w1) (xs2:=ml eMS steps) (m2:=w2) n apC) vn),(10,hto (show AV.int .i64 (w64 (v+atM (dK rows (fS S p)) n))=AV.int .i64 (v+atM (dK rows (fS S p)) n)by rw[apF])),(13,hdc [] hty xV)]
       [(1,.int .i64 root),(2,.lst false (ml ak ts)),(9,.int .i64 (sets:Int)),(10,.ptr 910000000 0),(28,.int .i64 (sets:Int)),(29,.int .i64 (S:Int)),(11,.int .i64 (S:Int)),(14,.int .i64 (p:Int)),(99,.ptr 910000040 0)] (sol ay (ml eMI rows) (bN w1 n (v+atM (dK rows (fS S p)) n)) (ml eMS steps) (bN w2 n (0,(p:Int)))++[(910000040,.ei es clock (bU .i64 (vI .i64) m) (seen.push e.born))]) (by kernel_rfl) ?_
      have hle:∀x,atM (bN w1 n (v+atM (dK rows (fS S p)) n)) x≤atM w1 x:=λx=>by
       rw[nQ];split
       ·rename_i hx;subst hx;omega
       ·omega
      refine⟨(bN w1 n (v+atM (dK rows (fS S p)) n),bN w2 n (0,(p:Int))),⟨hput.more λP x hD=>?_,λi x hx hi=>Int.le_trans (hle x) (hwo i x hx hi)⟩,aU.go [] [] (by kernel_rfl)⟩;rcases hD with hD|⟨rfl,c,hc⟩
      ·exact hput.part P x (.inl hD)
      ·rcases hin hc with hc|rfl
       ·exact hput.part _ x (.inr ⟨rfl,hc⟩)
       ·rw[hm,afj,nQ,if_pos rfl];exact Int.le_refl _
     ·have htn:=aaN (ay:=ay) (xs1:=ml eMI rows) (m1:=w1) (xs2:=ml eMS steps) (m2:=w2) n (v+atM (dK rows (fS S p)) n) 0 (p:Int) (by omega);rw[hl1]at htn
      refine A.R W0 [] [(7,hto (show AV.int .i64 (fk .andNot .i64 (S:Int) (p:Int))=AV.int .i64 ((fS S p:Nat):Int)by rw[w9 (by omega)])),(9,hro (agu (ay:=ay) (rows:=rows) (m1:=w1) (xs2:=ml eMS steps) (m2:=w2) n apC) vn),(10,hto (show AV.int .i64 (w64 (v+atM (dK rows (fS S p)) n))=AV.int .i64 (v+atM (dK rows (fS S p)) n)by rw[apF])),(13,hdc [] htn xV)]
       [(1,.int .i64 root),(2,.lst false (ml ak ts)),(9,.int .i64 (sets:Int)),(10,.ptr 910000000 0),(28,.int .i64 (sets:Int)),(29,.int .i64 (S:Int)),(11,.int .i64 (S:Int)),(14,.int .i64 (p:Int)),(99,.ptr 910000040 0)] (sol ay (ml eMI rows) w1 (ml eMS steps) w2++[(910000040,.ei es clock (bU .i64 (vI .i64) m) (seen.push e.born))]) (by kernel_rfl) ?_
      refine⟨(w1,w2),⟨hw.more λP x hD=>?_,hwo⟩,aU.go [] [] (by kernel_rfl)⟩;rcases hD with hD|⟨rfl,c,hc⟩
      ·exact hw.part P x (.inl hD)
      ·rcases hin hc with hc|rfl
       ·exact hw.part _ x (.inr ⟨rfl,hc⟩)
       ·rw[hm,afj];omega
    ·rintro seen q ⟨w1,w2⟩ afk ⟨hw,hwo⟩;simp only at hw hwo;refine⟨(w1,w2),⟨hw.more λP x hD=>?_,hwo⟩,aU.go [] [] (by kernel_rfl)⟩;rcases Nat.lt_or_eq_of_le hD.1 with h|h
     ·exact hw.part P x (.inl ⟨h,hD.2⟩)
     ·subst h;cases hg:aY m x with
      |some c=>exact hw.part _ x (.inr ⟨rfl,c,afk.mem_iff.2 (yB hg)⟩)
      |none=>
       have h1:atM m x=2305843009213693951:=by unfold atM;rw[hg];rfl
       have h2:=(hw.bd x).2;have h3:=(hjR.bd x).1;rw[hm,h1];omega
   rintro⟨n1,n2⟩ ⟨hrn,ac3⟩;simp only at hrn ac3;have hp1:fk .and .i64 (w64 ((p:Int)-(1:Int))) (S:Int)=(((p-1) &&& S:Nat):Int):=by
    rw[cH (by omega) (by omega),show(p:Int)-1=((p-1:Nat):Int)by omega,vH (by omega) (by omega)]
   refine A.R W0 [] [(3,hto (show AV.int .i64 (fk .and .i64 (w64 ((p:Int)-(1:Int))) (S:Int))=AV.int .i64 (((p-1) &&& S:Nat):Int)by rw[hp1]))] [(1,.int .i64 root),(2,.lst false (ml ak ts)),(9,.int .i64 (sets:Int)),(10,.ptr 910000000 0),(28,.int .i64 (sets:Int)),(29,.int .i64 (S:Int)),(11,.int .i64 (S:Int)),(14,.int .i64 (((p-1) &&& S:Nat):Int))] (sol ay (ml eMI rows) n1 (ml eMS steps) n2) (by kernel_rfl) ?_;have hle:=Nat.and_le_left (n:=p-1) (m:=S);refine⟨((p-1) &&& S,n1,n2),⟨⟨tq 0,λ_=>by show(p-1) &&& S<S;omega⟩,hrn.more λP v hD=>hrn.part P v ⟨?_,hD.2⟩,ac3⟩,by simp only;omega,aU.go [] [] (by kernel_rfl)⟩;have hD1:(p-1) &&& S<P:=hD.1;apply Classical.byContradiction;intro hn;have:=vJ p S P hpS hD.2.2 (by omega);omega
  rintro⟨n1,n2⟩ ⟨hrn,ac3⟩;simp only at hrn ac3
  have hrx:=aiw (ay:=ay) (xs1:=ml eMI rows) (m1:=n1) (xs2:=ml eMS steps) (m2:=n2) hl2 (λa b=>jk ay ts rows S (λP _=>0<P∧P<S∧P &&& S=P) a b∧∀i v,ts[i]?=some v→S=2 ^ i→atM a v≤0) ⟨hrn,ac3⟩ (λa b h r=>h.1.bd r) (λa h=>by have:=(ha a h).1;omega) (λa b e h he hlt=>by
   have hC:=(ha e he).1;have hT:=h.1.bd e.Hop.To;have hft:e.Hop.To≠e.Hop.aD:=λheq=>by rw[heq]at hlt;omega
   refine⟨h.1.put (by omega) hlt (.inl ⟨(ha e he).2,e,he,rfl,rfl,?_⟩),λi v hv hi=>?_⟩
   ·show e.dx+atM (bN a e.Hop.aD (e.dx+atM a e.Hop.To)) e.Hop.To≤_;rw[nQ,if_neg hft];exact Int.le_refl _
   ·have:=h.2 i v hv hi;rw[nQ];split
    ·rename_i hx;subst hx;omega
    ·exact this)
  rw[hl1]at hrx;refine A.RX W0 2 [] [] [(120,.int .i64 (S:Int)),(119,.ptr 910000000 0),(1,.int .i64 root),(2,.lst false (ml ak ts)),(9,.int .i64 (sets:Int)),(10,.ptr 910000000 0),(28,.int .i64 (sets:Int)),(29,.int .i64 (S:Int)),(11,.int .i64 (S:Int))] (sol ay (ml eMI rows) n1 (ml eMS steps) n2) (by kernel_rfl) (by kernel_rfl) (by kernel_rfl) rfl rfl (D.aeW [] rfl rfl rfl rfl rfl rfl ?_ hrx ar4) rfl rfl ?_
  ·rintro r σ2 ⟨rfl,k1,k2,_,_,rfl⟩;exact⟨rfl,rfl⟩
  rintro av σ' ⟨σ2,⟨rfl,k1,k2,⟨hk,hko⟩,hst2,rfl⟩,rfl⟩;refine⟨[],_,_,rfl,?_⟩;show af _ _ _ _ _;refine A.R W0 [] [(0,hto (show AV.int .i64 (w64 ((S:Int)+(1:Int)))=AV.int .i64 (((rows++[k1]).length:Nat):Int)by rw[cH (by omega) (by omega),List.length_append,hSn];simp))] [(1,.int .i64 root),(2,.lst false (ml ak ts)),(9,.int .i64 (sets:Int)),(10,.ptr 910000000 0),(28,.int .i64 (sets:Int)),(29,.int .i64 (((rows++[k1]).length:Nat):Int))] (sol ay (ml eMI rows) k1 (ml eMS steps) k2) (by kernel_rfl) ?_;have e1:ml eMI (rows++[k1])=ml eMI rows++[[.mpf (bU .i64 (vI .i64) k1)]]:=by simp[ml,eMI]
  have e2:ml eMS (steps++[k2])=ml eMS steps++[[.mpf (bU .i64 vS k2)]]:=by simp[ml,eMS]
  refine⟨(rows++[k1],steps++[k2]),⟨by simp only[List.length_append,List.length_singleton];omega,hrf.snoc (by omega) (by rw[hSn];exact⟨hk,hko,hst2⟩)⟩,by simp only[List.length_append,List.length_singleton];omega,?_⟩;show aU _ _ _ _ [(910000000,.cells 165 [.lst false (ml aH ay),.own 910000021,.own 910000023]),(910000021,.slice 144 1 (ml eMI (rows++[k1])) 0 false),(910000023,.slice 166 1 (ml eMS (steps++[k2])) 0 false)];rw[e1,e2]
  exact(aU.go (bT:=[(1,.int .i64 root),(2,.lst false (ml ak ts)),(9,.int .i64 (sets:Int)),(10,.ptr 910000000 0),(28,.int .i64 (sets:Int)),(29,.int .i64 (((rows++[k1]).length:Nat):Int))]) (σ2:=[(910000000,.cells 165 [.lst false (ml aH ay),.own 910000001,.own 910000003]),(910000001,.slm 144 (ml eMI rows) 910000002),(910000002,.jA 3 3 (bU .i64 (vI .i64) k1)),(910000003,.slm 166 (ml eMS steps) 910000004),(910000004,.jA 3 169 (bU .i64 vS k2))]) [.fz [910000002,910000004]] [] (by kernel_rfl)).trans
   ((aU.aog 910000001 910000002 rfl rfl).trans ((aU.aog 910000003 910000004 rfl rfl).trans (aU.go [.sw 910000001 910000021,.sw 910000003 910000023] [] (by kernel_rfl))))
 ·refine A.cF rfl (decide_eq_false (by omega)) ?_;refine A.exit ?_;show af _ _ _ _ _;have hrs:rows.length=sets:=by omega
  have hs1:1≤sets:=by rw[←hsz];exact Nat.two_pow_pos _
  have afl:elO rows ((sets-1:Nat):Int)=some (dK rows (sets-1)):=by
   unfold elO dK;rw[if_pos (by omega),Int.toNat_natCast,List.getD_eq_getElem?_getD,List.getElem?_eq_getElem (by omega)];rfl
  have apG:w64 ((sets:Int)-(1:Int))=((sets-1:Nat):Int):=by rw[cH (by omega) (by omega)];omega
  refine A.weak ((aU.go (bT:=[(1,.int .i64 root),(9,.int .i64 (sets:Int)),(10,.ptr 910000000 0)]) (σ2:=[(910000000,.cells 165 [.lst false (ml aH ay),.lst false (ml eMI rows),.lst false (ml eMS steps)])]) [.fz [910000021,910000023],.sc 910000000 []] [] (by kernel_rfl)).trans
   (aU.lp (T:=165) (cs:=[.lst false (ml aH ay),.lst false (ml eMI rows),.lst false (ml eMS steps)]) 10 910000000 rfl rfl rfl)) ?_
  refine A.RS W0 [] [(2,hto (show AV.int .i64 (w64 ((sets:Int)-(1:Int)))=AV.int .i64 ((sets-1:Nat):Int)by rw[apG])),(4,hro (apz (ay:=ay) (rows:=rows) (steps:=steps) root afl) vn)] [(1,.int .i64 root),(9,.int .i64 (sets:Int)),(10,.cV [.lst false (ml aH ay),.lst false (ml eMI rows),.lst false (ml eMS steps)]),(17,.int .i64 (atM (dK rows (sets-1)) root))] [] (by kernel_rfl) ?_;refine A.seq ?_;refine A.RS W0 [] [] [(1,.int .i64 root),(9,.int .i64 (sets:Int)),(10,.cV [.lst false (ml aH ay),.lst false (ml eMI rows),.lst false (ml eMS steps)]),(17,.int .i64 (atM (dK rows (sets-1)) root)),(129,.bool (decide ((2305843009213693951:Int)≤atM (dK rows (sets-1)) root)))] [] (by kernel_rfl) ?_;by_cases aiB:2305843009213693951≤atM (dK rows (sets-1)) root
  ·refine A.cT rfl (decide_eq_true aiB) ?_;refine A.RS W0 [] [] [(6,.bI),(7,.int .i64 0),(8,.bool false)] [] (by kernel_rfl) ?_;refine A.ret ?_;refine nO.mono (A.fin W0 [] (R:=.tup [.lst false (ml aJ []),.int .i64 0,.bool false]) (σ2:=[]) rfl (by kernel_rfl)) ?_;rintro a s ⟨rfl,rfl⟩;exact⟨rfl,([],0,false),⟨λh=>absurd h hts,λ_=>⟨rows,steps,by rw[hsz];exact hrs,hrf,by rw[hsz];exact .inl ⟨aiB,rfl⟩⟩⟩,rfl⟩
  ·refine A.cF rfl (decide_eq_false aiB) ?_;refine A.skip ?_;show af _ _ _ _ _;obtain⟨H,hC,hHl,H',hsort⟩:=apA rows steps hrs hrf (by omega);have hcl:=afi (ay:=ay) (st1:=rows) hC (l:=[]) (by simp;omega);rw[List.nil_append]at hcl;refine A.RS W0 [] [(0,.al 910000010)] [(1,.int .i64 root),(9,.int .i64 (sets:Int)),(10,.cV [.lst false (ml aH ay),.lst false (ml eMI rows),.lst false (ml eMS steps)]),(17,.int .i64 (atM (dK rows (sets-1)) root)),(18,.ptr 910000010 0)] [(910000010,.cells 34 [.bI])] (by kernel_rfl) ?_;refine A.RS W0 [.ac 910000010 910000011 84 2 0] [(2,hto (show AV.int .i64 (w64 ((sets:Int)-(1:Int)))=AV.int .i64 ((sets-1:Nat):Int)by rw[apG])),(5,hdc [910000012] hcl ab3)] [(17,.int .i64 (atM (dK rows (sets-1)) root)),(18,.ptr 910000010 0)] (bag 910000012 H) (by kernel_rfl) ?_;refine A.RS W0 [] [(1,hdc [] (ain (d:=910000012) (T:=84) hsort) ar6)] [(17,.int .i64 (atM (dK rows (sets-1)) root)),(18,.ptr 910000010 0)] (bag 910000012 H') (by kernel_rfl) ?_;refine A.RS W0 [] [] [(6,.own 910000012),(7,.int .i64 (atM (dK rows (sets-1)) root)),(8,.bool true)] [(910000012,.slice 84 2 (ml aJ H') 0 false)] (by kernel_rfl) ?_;refine A.ret ?_;refine nO.mono (A.fin W0 [.fz [910000012]] (R:=.tup [.lst false (ml aJ H'),.int .i64 (atM (dK rows (sets-1)) root),.bool true]) (σ2:=[]) rfl (by kernel_rfl)) ?_;rintro a s ⟨rfl,rfl⟩;exact⟨rfl,(H',atM (dK rows (sets-1)) root,true),⟨λh=>absurd h hts,λ_=>⟨rows,steps,by rw[hsz];exact hrs,hrf,by rw[hsz];exact .inr ⟨by omega,H,hC,hsort,rfl⟩⟩⟩,rfl⟩
end Go.Proofs.YtmnbolcmepihlaaGreat
