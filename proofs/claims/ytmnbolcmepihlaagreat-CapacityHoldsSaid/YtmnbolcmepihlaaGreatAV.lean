/- gw yN of C4. bM bN cu cg bz cv in ck. -/
import Derived.Test.YtmnbolcmepihlaaGreatAY
import Derived.Test.YtmnbolcmepihlaaGreatSF
namespace Go.Proofs.YtmnbolcmepihlaaGreat
set_option linter.all false
set_option maxRecDepth 100000
open Go Go.Proofs.Tryz
structure U4(aL:List bL)(root:Int)(ts:List Int)(r:List bh×Int×Bool):Prop where
 nil:ts=[]→r=([],0,true)
 rows:ts≠[]→∃rows steps,rows.length=2 ^ ts.length∧uL aL ts rows steps∧((2305843009213693951≤ch (gu rows (2 ^ ts.length-1)) root∧r=([],0,false))∨
  (ch (gu rows (2 ^ ts.length-1)) root<2305843009213693951∧∃H,nQ steps ((2 ^ ts.length-1:Nat):Int) root H∧m0 (fL [λx:bh=>x.bg,λx:bh=>x.aQ]) H=some r.1∧r.2=(ch (gu rows (2 ^ ts.length-1)) root,true)))
variable {aL:List bL}
theorem ab4{rows:List (List (Int×Int))}{steps:List (List (Int×(Int×Int)))}{s:Int}{m:List (Int×Int)}(r:Int)(W:dj rows s=some m):
  ef prog 120 [] [.fP [.aX false (aD eo aL),.aX false (aD fM rows),.aX false (aD fQ steps)],.int .i64 s,.int .i64 r] (.int .i64 (ch m r)):=by
 refine eu func120 rfl rfl ?_;refine A.eB cm [] [] [(0,.fP [.aX false (aD eo aL),.aX false (aD fM rows),.aX false (aD fQ steps)]),(1,.int .i64 s),(2,.int .i64 r)] [] (by kernel_rfl) ?_;refine A.seq ?_;refine A.eB cm [] [(5,eg (ix fM W)),(8,zo (k:=.i64) m r (c5 .i64) 0 Hf MS)] [(7,.int .i64 ((bT m r).getD 0)),(8,.bool (bT m r).isSome)] [] (by kernel_rfl) ?_;refine A.eB cm [] [] [(7,.int .i64 ((bT m r).getD 0)),(21,.bool (bT m r).isSome)] [] (by kernel_rfl) ?_;cases bl:bT m r with
 |some c=>
  refine A.kX rfl rfl ?_;refine A.eB cm [] [] [(6,.int .i64 c)] [] (by kernel_rfl) ?_;refine A.ret ?_;have e:ch m r=c:=by unfold ch;rw[bl];rfl
  rw[e];exact A.fin cm [] rfl (by kernel_rfl)
 |none=>
  refine A.jV rfl rfl ?_;refine A.skip ?_;show aY _ _ _ _ _;refine A.eB cm [] [] [(6,.int .i64 2305843009213693951)] [] (by kernel_rfl) ?_;refine A.ret ?_;have e:ch m r=2305843009213693951:=by unfold ch;rw[bl];rfl
  rw[e];exact A.fin cm [] rfl (by kernel_rfl)
theorem A.DO{G:cq}{α:Type}{x y:Code}{Q:Exit→ai→Y→Prop}{env:ai}{σ:Y}(P:α→Prop)(fJ:α→ai)(fS:α→Y)(h:aY G x (q8 (λgm az=>∃g,P g∧b8 G gm az (fJ g) (fS g)) Q) env σ)(k:∀g,P g→aY G y Q (fJ g) (fS g)):aY G (.seq x y) Q env σ:=by
 refine A.seq (h.mono ?_);intro e gm az bR;cases e with
 |normal=>
  obtain⟨g,bl,aq⟩:=bR;exact A.weak aq (k g bl)
 |_=>exact bR
theorem VE{root:Int}{ts:List Int}(hk:ts.length≤6)(aC:∀a∈aL,(1≤a.gr∧a.gr≤1000000)∧a.Hop.aQ≠0)
  (QY:∀rows steps,rows.length=2 ^ ts.length→uL aL ts rows steps→ch (gu rows (2 ^ ts.length-1)) root<2305843009213693951→∃H,nQ steps ((2 ^ ts.length-1:Nat):Int) root H∧H.length≤1000000∧∃qB,m0 (fL [λx:bh=>x.bg,λx:bh=>x.aQ]) H=some qB) :
  gi prog 63 [] [.aX false (aD eo aL),.int .i64 root,.aX false (aD bq ts)] (λa az=>az=[]∧∃r,U4 aL root ts r∧a=.cD [.aX false (aD b1 r.1),.int .i64 r.2.1,.bool r.2.2]):=by
 refine eu func63 rfl rfl ?_;refine A.eB cm [] [] [(0,.aX false (aD eo aL)),(1,.int .i64 root),(2,.aX false (aD bq ts))] [] (by kernel_rfl) ?_;refine A.seq ?_;refine A.eB cm [] [(1,aZ (ew bq ts))] [(0,.aX false (aD eo aL)),(1,.int .i64 root),(2,.aX false (aD bq ts)),(21,.bool (decide ((ts.length:Int)=(0:Int))))] [] (by kernel_rfl) ?_;by_cases r9:ts=[]
 ·subst r9;refine A.kX rfl rfl ?_;refine A.eB cm [] [] [(6,.cV),(7,.int .i64 0),(8,.bool true)] [] (by kernel_rfl) ?_;refine A.ret ?_;refine ri.mono (A.fin cm [] (R:=.cD [.aX false (aD b1 []),.int .i64 0,.bool true]) (σ2:=[]) rfl (by kernel_rfl)) ?_;rintro a s ⟨rfl,rfl⟩;exact⟨rfl,([],0,true),⟨λ_=>rfl,λh=>absurd rfl h⟩,rfl⟩
 have eF:1≤ts.length:=by cases ts with|nil=>exact absurd rfl r9|cons _ _=>simp
 refine A.jV rfl (decide_eq_false (by omega)) ?_;refine A.skip ?_;show aY _ _ _ _ _;have xG:2 ^ ts.length≤64:=Nat.le_trans (Nat.pow_le_pow_right (by omega) hk) (by decide);have P3:IntKind.wrap .i64 (1*2 ^ min (ts.length:Int).toNat 64)=((2 ^ ts.length:Nat):Int):=by
  rw[Int.toNat_natCast,Nat.min_eq_left (by omega),Int.one_mul];have e:((2:Int) ^ ts.length)=((2 ^ ts.length:Nat):Int):=by simp
  rw[e];generalize 2 ^ ts.length=z at xG ⊢;exact hW (by omega) (by omega)
 generalize jH:2 ^ ts.length=dH at P3 xG QY;refine A.eB cm [] [(1,aZ (ew bq ts)),(2,.to (.sh (ts.length:Int) (by omega)) (.int .i64 (IntKind.wrap .i64 (1*2 ^ min (ts.length:Int).toNat 64))) (.int .i64 (dH:Int)) (by rw[P3]))] [(0,.aX false (aD eo aL)),(1,.int .i64 root),(2,.aX false (aD bq ts)),(9,.int .i64 (dH:Int))] [] (by kernel_rfl) ?_;refine A.eB cm [] [(2,.al 910000000)] [(1,.int .i64 root),(2,.aX false (aD bq ts)),(9,.int .i64 (dH:Int)),(10,.ptr 910000000 0)] [(910000000,.cells 165 [.aX false (aD eo aL),.cV,.cV])] (by kernel_rfl) ?_;refine A.seq ?_;refine A.eB cm [.ac 910000000 910000021 144 1 1,.ac 910000000 910000023 166 1 2] [] [(1,.int .i64 root),(2,.aX false (aD bq ts)),(9,.int .i64 (dH:Int)),(10,.ptr 910000000 0),(28,.int .i64 (dH:Int)),(29,.int .i64 0)] [(910000000,.cells 165 [.aX false (aD eo aL),.own 910000021,.own 910000023]),(910000021,.slice 144 1 (aD fM []) 0 false),(910000023,.slice 166 1 (aD fQ []) 0 false)] (by kernel_rfl) ?_;refine A.block ?_
 refine A.loop (α:=List (List (Int×Int))×List (List (Int×(Int×Int)))) (λg=>[(1,.int .i64 root),(2,.aX false (aD bq ts)),(9,.int .i64 (dH:Int)),(10,.ptr 910000000 0),(28,.int .i64 (dH:Int)),(29,.int .i64 (g.1.length:Int))])
  (λg=>[(910000000,.cells 165 [.aX false (aD eo aL),.own 910000021,.own 910000023]),(910000021,.slice 144 1 (aD fM g.1) 0 false),(910000023,.slice 166 1 (aD fQ g.2) 0 false)])
  (λg=>g.1.length≤dH∧uL aL ts g.1 g.2) (λg=>dH-g.1.length) ([],[]) ⟨Nat.zero_le _,rfl,λS m1 m2 h=>by simp at h⟩ (b8.go [] [] (by kernel_rfl)) ?_
 rintro⟨rows,steps⟩ ⟨Cf,n3⟩;simp only at Cf n3;refine A.eB cm [] [] [(1,.int .i64 root),(2,.aX false (aD bq ts)),(9,.int .i64 (dH:Int)),(10,.ptr 910000000 0),(28,.int .i64 (dH:Int)),(29,.int .i64 (rows.length:Int)),(30,.bool (decide ((rows.length:Int)<(dH:Int))))] [(910000000,.cells 165 [.aX false (aD eo aL),.own 910000021,.own 910000023]),(910000021,.slice 144 1 (aD fM rows) 0 false),(910000023,.slice 166 1 (aD fQ steps) 0 false)] (by kernel_rfl) ?_;refine A.seq ?_;by_cases fc:rows.length<dH
 ·refine A.kX rfl (decide_eq_true (by omega)) ?_;refine A.skip ?_;show aY _ _ _ _ _;have ahD:rows.length<64:=by omega
  have ki:steps.length=rows.length:=n3.len;generalize JI:rows.length=S at fc ahD ki;refine A.seq ?_;refine A.block ?_;refine A.eB cm [] [] [(1,.int .i64 root),(2,.aX false (aD bq ts)),(9,.int .i64 (dH:Int)),(10,.ptr 910000000 0),(28,.int .i64 (dH:Int)),(29,.int .i64 (S:Int)),(11,.int .i64 (S:Int))] [(910000000,.cells 165 [.aX false (aD eo aL),.own 910000021,.own 910000023]),(910000021,.slice 144 1 (aD fM rows) 0 false),(910000023,.slice 166 1 (aD fQ steps) 0 false)] (by kernel_rfl) ?_;refine A.eB cm [] [(6,.al 910000002),(7,Qp cm 910000031),(8,SG 910000001 (xs:=aD fM rows) Ou (by rw[mD];omega) (by rw[mD];simp only[maxLen];omega)),(13,.al 910000004),(14,Qp cm 910000033),(15,SG 910000003 (xs:=aD fQ steps) Ov (by rw[mD];omega) (by rw[mD];simp only[maxLen];omega))] [(1,.int .i64 root),(2,.aX false (aD bq ts)),(9,.int .i64 (dH:Int)),(10,.ptr 910000000 0),(28,.int .i64 (dH:Int)),(29,.int .i64 (S:Int)),(11,.int .i64 (S:Int))] (fB aL (aD fM rows) [] (aD fQ steps) []) (by kernel_rfl) ?_;have gO:(aD fM rows).length=S:=by rw[mD];exact JI
  have kg:(aD fQ steps).length=(aD fM rows).length:=by rw[mD,gO];exact ki
  refine A.DO (λg:List (Int×Int)×List (Int×(Int×Int))=>kS aL ts rows S (λ_ _=>False) g.1 g.2∧∀i v,ts[i]?=some v→S=2 ^ i→ch g.1 v≤0) (λ_=>[(1,.int .i64 root),(2,.aX false (aD bq ts)),(9,.int .i64 (dH:Int)),(10,.ptr 910000000 0),(28,.int .i64 (dH:Int)),(29,.int .i64 (S:Int)),(11,.int .i64 (S:Int))]) (λg=>fB aL (aD fM rows) g.1 (aD fQ steps) g.2) ?_ ?_
  ·
   have zy:∀i,i<ts.length→S=2 ^ i→decide (kN .and .i64 (S:Int) (bK ((S:Int)-(1:Int)))=(0:Int))=true∧0<S:=λi hi h=>by
    have aB:0<S:=by rw[h];exact Nat.two_pow_pos i
    refine⟨decide_eq_true ?_,aB⟩;rw[hW (by omega) (by omega),show(S:Int)-1=((S-1:Nat):Int)by omega,Md (by omega) (by omega),h,Xl];rfl
   have B9:∀(c:¬(decide (kN .and .i64 (S:Int) (bK ((S:Int)-(1:Int)))=(0:Int))=true∧0<S)),∃g:List (Int×Int)×List (Int×(Int×Int)),(kS aL ts rows S (λ_ _=>False) g.1 g.2∧∀i v,ts[i]?=some v→S=2 ^ i→ch g.1 v≤0)∧g=([],[]):=λc=>
    ⟨([],[]),⟨kS.nil _ _ _ _,λi v af he=>absurd (zy i (List.getElem?_eq_some_iff.1 af).1 he) c⟩,rfl⟩
   rcases mx (decide (kN .and .i64 (S:Int) (bK ((S:Int)-(1:Int)))=(0:Int)))with c|c
   rotate_left
   ·refine A.eB cm [] [(4,aZ (c9 c))] [(1,.int .i64 root),(2,.aX false (aD bq ts)),(9,.int .i64 (dH:Int)),(10,.ptr 910000000 0),(28,.int .i64 (dH:Int)),(29,.int .i64 (S:Int)),(11,.int .i64 (S:Int)),(60,.bool false)] (fB aL (aD fM rows) [] (aD fQ steps) []) (by kernel_rfl) ?_;refine A.jV rfl rfl ?_;refine A.skip ?_;obtain⟨g,bl,rfl⟩:=B9 (λh=>by rw[h.1]at c;cases c);exact⟨([],[]),bl,b8.go [] [] (by kernel_rfl)⟩
   refine A.eB cm [] [(4,aZ (c9 c))] [(1,.int .i64 root),(2,.aX false (aD bq ts)),(9,.int .i64 (dH:Int)),(10,.ptr 910000000 0),(28,.int .i64 (dH:Int)),(29,.int .i64 (S:Int)),(11,.int .i64 (S:Int)),(60,.bool (decide ((0:Int)<(S:Int))))] (fB aL (aD fM rows) [] (aD fQ steps) []) (by kernel_rfl) ?_;by_cases agf:0<S
   rotate_left
   ·refine A.jV rfl (decide_eq_false (by omega)) ?_;refine A.skip ?_;obtain⟨g,bl,rfl⟩:=B9 (λh=>agf h.2);exact⟨([],[]),bl,b8.go [] [] (by kernel_rfl)⟩
   refine A.kX rfl (decide_eq_true (by omega)) ?_;refine A.eB cm [] [(1,aZ (ew bq ts))] [(1,.int .i64 root),(2,.aX false (aD bq ts)),(9,.int .i64 (dH:Int)),(10,.ptr 910000000 0),(28,.int .i64 (dH:Int)),(29,.int .i64 (S:Int)),(11,.int .i64 (S:Int)),(61,.aX false (aD bq ts)),(62,.int .i64 (ts.length:Int)),(63,.int .i64 0)] (fB aL (aD fM rows) [] (aD fQ steps) []) (by kernel_rfl) ?_;refine A.block ?_;refine A.jx 61 rfl λEN=>?_
   refine A.loop (α:=Nat×List (Int×Int)×List (Int×(Int×Int))) (λg=>[(1,.int .i64 root),(2,.aX false (aD bq ts)),(9,.int .i64 (dH:Int)),(10,.ptr 910000000 0),(28,.int .i64 (dH:Int)),(29,.int .i64 (S:Int)),(11,.int .i64 (S:Int)),(61,.aX false (aD bq ts)),(62,.int .i64 (ts.length:Int)),(63,.int .i64 (g.1:Int))]) (λg=>fB aL (aD fM rows) g.2.1 (aD fQ steps) g.2.2)
    (λg=>g.1≤ts.length∧kS aL ts rows S (λ_ _=>False) g.2.1 g.2.2∧∀i v,i<g.1→ts[i]?=some v→S=2 ^ i→ch g.2.1 v≤0) (λg=>ts.length-g.1) (0,[],[]) ⟨Nat.zero_le _,kS.nil _ _ _ _,λi v hi=>by omega⟩ (b8.go [] [] (by kernel_rfl)) ?_
   rintro⟨j,m1,m2⟩ ⟨aM,r6,vN⟩;simp only at aM r6 vN;refine A.eB cm [] [] [(1,.int .i64 root),(2,.aX false (aD bq ts)),(9,.int .i64 (dH:Int)),(10,.ptr 910000000 0),(28,.int .i64 (dH:Int)),(29,.int .i64 (S:Int)),(11,.int .i64 (S:Int)),(61,.aX false (aD bq ts)),(62,.int .i64 (ts.length:Int)),(63,.int .i64 (j:Int)),(64,.bool (decide ((j:Int)<(ts.length:Int))))] (fB aL (aD fM rows) m1 (aD fQ steps) m2) (by kernel_rfl) ?_;refine A.seq ?_;by_cases mh:j<ts.length
   rotate_left
   ·refine A.jV rfl (h8 (by omega)) ?_;refine A.exit ?_;exact⟨(m1,m2),⟨r6,λi v af he=>vN i v (by have:=(List.getElem?_eq_some_iff.1 af).1;omega) af he⟩,b8.go [] [] (by kernel_rfl)⟩
   have u:ts[j]?=some ts[j]:=List.getElem?_eq_getElem mh;generalize ts[j]=t at u;refine A.kX rfl (ih u) ?_;refine A.skip ?_;show aY _ _ _ _ _;have ahI:IntKind.wrap .i64 (1*2 ^ min (j:Int).toNat 64)=((2 ^ j:Nat):Int):=by
    rw[Int.toNat_natCast,Nat.min_eq_left (by omega),Int.one_mul];have dV:2 ^ j≤64:=Nat.le_trans (Nat.pow_le_pow_right (by omega) (show j≤6 by omega)) (by decide);have e:((2:Int) ^ j)=((2 ^ j:Nat):Int):=by simp
    rw[e];generalize 2 ^ j=z at dV ⊢;exact hW (by omega) (by omega)
   refine A.DO (λg:List (Int×Int)×List (Int×(Int×Int))=>kS aL ts rows S (λ_ _=>False) g.1 g.2∧(∀x,ch g.1 x≤ch m1 x)∧(S=2 ^ j→ch g.1 t≤0)) (λ_=>[(1,.int .i64 root),(2,.aX false (aD bq ts)),(9,.int .i64 (dH:Int)),(10,.ptr 910000000 0),(28,.int .i64 (dH:Int)),(29,.int .i64 (S:Int)),(11,.int .i64 (S:Int)),(61,.aX false (aD bq ts)),(62,.int .i64 (ts.length:Int)),(63,.int .i64 (j:Int))]) (λg=>fB aL (aD fM rows) g.1 (aD fQ steps) g.2) ?_ ?_
   ·refine A.block ?_;refine A.eB cm [] [(1,eg (ix bq (hN u)))] [(1,.int .i64 root),(2,.aX false (aD bq ts)),(9,.int .i64 (dH:Int)),(10,.ptr 910000000 0),(28,.int .i64 (dH:Int)),(29,.int .i64 (S:Int)),(11,.int .i64 (S:Int)),(61,.aX false (aD bq ts)),(62,.int .i64 (ts.length:Int)),(63,.int .i64 (j:Int)),(12,.int .i64 (j:Int)),(13,.int .i64 t)] (fB aL (aD fM rows) m1 (aD fQ steps) m2) (by kernel_rfl) ?_;refine A.eB cm [] [(2,.to (.sh (j:Int) (by omega)) (.int .i64 (IntKind.wrap .i64 (1*2 ^ min (j:Int).toNat 64))) (.int .i64 ((2 ^ j:Nat):Int)) (by rw[ahI]))] [(1,.int .i64 root),(2,.aX false (aD bq ts)),(9,.int .i64 (dH:Int)),(10,.ptr 910000000 0),(28,.int .i64 (dH:Int)),(29,.int .i64 (S:Int)),(11,.int .i64 (S:Int)),(61,.aX false (aD bq ts)),(62,.int .i64 (ts.length:Int)),(63,.int .i64 (j:Int)),(13,.int .i64 t),(71,.bool (decide ((S:Int)=((2 ^ j:Nat):Int))))] (fB aL (aD fM rows) m1 (aD fQ steps) m2) (by kernel_rfl) ?_;by_cases he:S=2 ^ j
    ·refine A.kX rfl (decide_eq_true (by rw[he])) ?_;by_cases bJ:0<ch m1 t
     ·have vO:=r6.put (v:=t) (c:=0) (x:=(0,0)) (Int.le_refl _) bJ (.inr (.inr ⟨rfl,j,u,he,rfl⟩));have Cg:=MO (aL:=aL) (dW:=aD fM rows) (m1:=m1) (fC:=aD fQ steps) (m2:=m2) t 0 0 0 kg bJ;rw[gO]at Cg;refine A.R cm [] [(4,gN [] Cg AD)] [(1,.int .i64 root),(2,.aX false (aD bq ts)),(9,.int .i64 (dH:Int)),(10,.ptr 910000000 0),(28,.int .i64 (dH:Int)),(29,.int .i64 (S:Int)),(11,.int .i64 (S:Int)),(61,.aX false (aD bq ts)),(62,.int .i64 (ts.length:Int)),(63,.int .i64 (j:Int))] (fB aL (aD fM rows) (c6 m1 t 0) (aD fQ steps) (c6 m2 t (0,0))) (by kernel_rfl) ?_;refine⟨(c6 m1 t 0,c6 m2 t (0,0)),⟨vO,λx=>?_,λ_=>by rw[uv,if_pos rfl];exact Int.le_refl _⟩,b8.go [] [] (by kernel_rfl)⟩;rw[uv];split
      ·rename_i Cj;subst Cj;omega
      ·omega
     ·have r8:=MN (aL:=aL) (dW:=aD fM rows) (m1:=m1) (fC:=aD fQ steps) (m2:=m2) t 0 0 0 (by omega);rw[gO]at r8;refine A.R cm [] [(4,gN [] r8 AD)] [(1,.int .i64 root),(2,.aX false (aD bq ts)),(9,.int .i64 (dH:Int)),(10,.ptr 910000000 0),(28,.int .i64 (dH:Int)),(29,.int .i64 (S:Int)),(11,.int .i64 (S:Int)),(61,.aX false (aD bq ts)),(62,.int .i64 (ts.length:Int)),(63,.int .i64 (j:Int))] (fB aL (aD fM rows) m1 (aD fQ steps) m2) (by kernel_rfl) ?_;exact⟨(m1,m2),⟨r6,λx=>Int.le_refl _,λ_=>by show ch m1 t≤0;omega⟩,b8.go [] [] (by kernel_rfl)⟩
    ·refine A.jV rfl (decide_eq_false λh=>he (by omega)) ?_;refine A.skip ?_;exact⟨(m1,m2),⟨r6,λx=>Int.le_refl _,λh=>absurd h he⟩,b8.go [] [] (by kernel_rfl)⟩
   rintro⟨hG,iC⟩ ⟨cF,cW,ht⟩;simp only at cF cW ht;refine A.R cm [] [(0,aZ (hV u EN))] [(1,.int .i64 root),(2,.aX false (aD bq ts)),(9,.int .i64 (dH:Int)),(10,.ptr 910000000 0),(28,.int .i64 (dH:Int)),(29,.int .i64 (S:Int)),(11,.int .i64 (S:Int)),(61,.aX false (aD bq ts)),(62,.int .i64 (ts.length:Int)),(63,.int .i64 ((j+1:Nat):Int))] (fB aL (aD fM rows) hG (aD fQ steps) iC) (by kernel_rfl) ?_;refine⟨(j+1,hG,iC),⟨mh,cF,λi v hi af he=>?_⟩,by simp only;omega,b8.go [] [] (by kernel_rfl)⟩;rcases Nat.lt_or_eq_of_le (Nat.le_of_lt_succ hi)with hi|hi
   ·exact Int.le_trans (cW v) (vN i v hi af he)
   ·subst hi;rw[u]at af;cases af
    exact ht he
  rintro⟨m1,m2⟩ ⟨aM,pa⟩;simp only at aM pa;have ahu:kN .and .i64 (bK ((S:Int)-(1:Int))) (S:Int)=(((S-1) &&& S:Nat):Int):=by
   rcases Nat.eq_zero_or_pos S with bJ|bJ
   ·rw[bJ];decide
   ·rw[hW (by omega) (by omega),show(S:Int)-1=((S-1:Nat):Int)by omega,Md (by omega) (by omega)]
  refine A.DO (λg:List (Int×Int)×List (Int×(Int×Int))=>kS aL ts rows S (λP _=>0<P∧P<S∧P &&& S=P) g.1 g.2∧∀i v,ts[i]?=some v→S=2 ^ i→ch g.1 v≤0) (λ_=>[(1,.int .i64 root),(2,.aX false (aD bq ts)),(9,.int .i64 (dH:Int)),(10,.ptr 910000000 0),(28,.int .i64 (dH:Int)),(29,.int .i64 (S:Int)),(11,.int .i64 (S:Int))]) (λg=>fB aL (aD fM rows) g.1 (aD fQ steps) g.2) ?_ ?_
  ·
   refine A.eB cm [] [(3,aZ (show U.int .i64 (kN .and .i64 (bK ((S:Int)-(1:Int))) (S:Int))=U.int .i64 (((S-1) &&& S:Nat):Int)by rw[ahu]))] [(1,.int .i64 root),(2,.aX false (aD bq ts)),(9,.int .i64 (dH:Int)),(10,.ptr 910000000 0),(28,.int .i64 (dH:Int)),(29,.int .i64 (S:Int)),(11,.int .i64 (S:Int)),(14,.int .i64 (((S-1) &&& S:Nat):Int))] (fB aL (aD fM rows) m1 (aD fQ steps) m2) (by kernel_rfl) ?_;refine A.block ?_
   refine A.loop (α:=Nat×List (Int×Int)×List (Int×(Int×Int))) (λg=>[(1,.int .i64 root),(2,.aX false (aD bq ts)),(9,.int .i64 (dH:Int)),(10,.ptr 910000000 0),(28,.int .i64 (dH:Int)),(29,.int .i64 (S:Int)),(11,.int .i64 (S:Int)),(14,.int .i64 (g.1:Int))]) (λg=>fB aL (aD fM rows) g.2.1 (aD fQ steps) g.2.2)
    (λg=>(g.1 &&& S=g.1∧(0<g.1→g.1<S))∧kS aL ts rows S (λP _=>g.1<P∧P<S∧P &&& S=P) g.2.1 g.2.2∧∀i v,ts[i]?=some v→S=2 ^ i→ch g.2.1 v≤0) (λg=>g.1) ((S-1) &&& S,m1,m2) ⟨⟨UN 0,λh=>?_⟩,aM.more λP v g1=>?_,pa⟩ (b8.go [] [] (by kernel_rfl)) ?_
   ·have:=Nat.and_le_left (n:=S-1) (m:=S);simp only at h ⊢;omega
   ·exfalso;have:=Nr S S P (Nat.and_self S) g1.2.2 g1.2.1;simp only at g1;omega
   rintro⟨p,iT,jK⟩ ⟨⟨EW,QZ⟩,r6,vN⟩;simp only at EW QZ r6 vN;have done:∀(aB:p=0∨S=0),kS aL ts rows S (λP _=>0<P∧P<S∧P &&& S=P) iT jK:=λaB=>r6.more λP v g1=>r6.part P v ⟨by omega,g1.2⟩;refine A.seq ?_;rcases mx (decide ((0:Int)<(S:Int)))with c|c
   rotate_left
   ·have qG:=of_decide_eq_false c;refine A.eB cm [] [(1,aZ (c9 c))] [(1,.int .i64 root),(2,.aX false (aD bq ts)),(9,.int .i64 (dH:Int)),(10,.ptr 910000000 0),(28,.int .i64 (dH:Int)),(29,.int .i64 (S:Int)),(11,.int .i64 (S:Int)),(14,.int .i64 (p:Int)),(87,.bool false)] (fB aL (aD fM rows) iT (aD fQ steps) jK) (by kernel_rfl) ?_;refine A.jV rfl rfl ?_;refine A.exit ?_;exact⟨(iT,jK),⟨done (by omega),vN⟩,b8.go [] [] (by kernel_rfl)⟩
   have qG:=of_decide_eq_true c;refine A.eB cm [] [(1,aZ (c9 c))] [(1,.int .i64 root),(2,.aX false (aD bq ts)),(9,.int .i64 (dH:Int)),(10,.ptr 910000000 0),(28,.int .i64 (dH:Int)),(29,.int .i64 (S:Int)),(11,.int .i64 (S:Int)),(14,.int .i64 (p:Int)),(87,.bool (decide ((0:Int)<(p:Int))))] (fB aL (aD fM rows) iT (aD fQ steps) jK) (by kernel_rfl) ?_;by_cases aB:0<p
   rotate_left
   ·refine A.jV rfl (decide_eq_false (by omega)) ?_;refine A.exit ?_;exact⟨(iT,jK),⟨done (by omega),vN⟩,b8.go [] [] (by kernel_rfl)⟩
   refine A.kX rfl (decide_eq_true (by omega)) ?_;refine A.skip ?_;show aY _ _ _ _ _;have ml:=QZ aB;have h0:rows[p]?=some (gu rows p):=by
    unfold gu;rw[List.getD_eq_getElem?_getD,List.getElem?_eq_getElem (by omega)];rfl
   generalize hm:gu rows p=m at h0;have xV:(aD fM rows)[(p:Int).toNat]?=some [.de (dy .i64 (c5 .i64) m)]:=by
    rw[Int.toNat_natCast];simp[aD,h0,fM]
   refine A.DO (λg:List (Int×Int)×List (Int×(Int×Int))=>kS aL ts rows S (λP _=>p≤P∧P<S∧P &&& S=P) g.1 g.2∧∀i v,ts[i]?=some v→S=2 ^ i→ch g.1 v≤0) (λ_=>[(1,.int .i64 root),(2,.aX false (aD bq ts)),(9,.int .i64 (dH:Int)),(10,.ptr 910000000 0),(28,.int .i64 (dH:Int)),(29,.int .i64 (S:Int)),(11,.int .i64 (S:Int)),(14,.int .i64 (p:Int))]) (λg=>fB aL (aD fM rows) g.1 (aD fQ steps) g.2) ?_ ?_
   ·refine A.block ?_;have age:iA S p<S:=Mu (by omega) aB ml EW;have Q0:dj rows ((iA S p:Nat):Int)=some (gu rows (iA S p)):=by
     unfold dj gu;rw[if_pos (by omega),Int.toNat_natCast,List.getD_eq_getElem?_getD,List.getElem?_eq_getElem (by omega)];rfl
    have Q1:∀Q,Q<S→∃iC,kS aL ts rows Q (λP _=>0<P∧P<Q∧P &&& Q=P) (gu rows Q) iC:=λQ xH=>by
     have h1:rows[Q]?=some (gu rows Q):=by
      unfold gu;rw[List.getD_eq_getElem?_getD,List.getElem?_eq_getElem (by omega)];rfl
     exact⟨_,(n3.row Q _ _ h1 (List.getElem?_eq_getElem (by omega))).j⟩
    obtain⟨aow,n0⟩:=Q1 p ml;obtain⟨aop,Sa⟩:=Q1 (iA S p) age;rw[hm]at n0
    refine A.seq (A.DR cm 7 [] [(5,Ci (xs:=aD fM rows) (i:=(p:Int)) Dv ⟨by omega,by rw[gO];omega⟩),(6,SH (xs:=aD fM rows) (p:=(p:Int).toNat) DI xV)]
     [(98,.de (dy .i64 (c5 .i64) m)),(97,.ptr 910000001 (p:Int).toNat),(96,.int .i64 (p:Int)),(95,.own 910000001),(94,.ptr 910000000 1),(93,.ptr 910000000 0),(92,.ptr 910000000 0),(1,.int .i64 root),(2,.aX false (aD bq ts)),(9,.int .i64 (dH:Int)),(10,.ptr 910000000 0),(28,.int .i64 (dH:Int)),(29,.int .i64 (S:Int)),(11,.int .i64 (S:Int)),(14,.int .i64 (p:Int)),(87,.bool (decide ((0:Int)<(p:Int))))] (fB aL (aD fM rows) iT (aD fQ steps) jK)
     (by kernel_rfl) (by kernel_rfl) (by kernel_rfl) rfl rfl (en.Oi (cp:=910000040) (x:=.tmp 98) (bx:=dy .i64 (c5 .i64) m) rfl rfl underlying144 rfl rfl) rfl rfl ?_)
    rintro bE az ⟨rfl,es,clock,rfl⟩;refine⟨[],_,_,rfl,?_⟩;show aY _ _ _ _ _;refine A.block ?_
    refine A.aja (k:=.i64) (enc:=c5 .i64) (l:=m) (cp:=910000040) (clock:=clock) (es:=es) (λq (g:List (Int×Int)×List (Int×(Int×Int)))=>kS aL ts rows S (λP v=>(p<P∧P<S∧P &&& S=P)∨(P=p∧∃c,(v,c)∈q)) g.1 g.2∧∀i v,ts[i]?=some v→S=2 ^ i→ch g.1 v≤0) (iT,jK)
     (λ_=>[(1,.int .i64 root),(2,.aX false (aD bq ts)),(9,.int .i64 (dH:Int)),(10,.ptr 910000000 0),(28,.int .i64 (dH:Int)),(29,.int .i64 (S:Int)),(11,.int .i64 (S:Int)),(14,.int .i64 (p:Int)),(99,.ptr 910000040 0)]) (λseen g=>fB aL (aD fM rows) g.1 (aD fQ steps) g.2++[(910000040,.ig es clock (dy .i64 (c5 .i64) m) seen)]) ⟨rfl,rfl,rfl⟩ ⟨rfl,rfl,rfl⟩ (by kernel_rfl)
     ⟨r6.more λP v g1=>r6.part P v (by rcases g1 with h|⟨_,c,aa⟩;exact h;cases aa),vN⟩ (λ_=>rfl) (λ_ _=>rfl) (λ_ _ _=>rfl) (b8.go [] [] (by kernel_rfl)) ?_ ?_
    ·rintro seen e i n v q ⟨g5,ng⟩ he vG ⟨aq,zC⟩;simp only at aq zC;refine A.block ?_;refine A.eB cm [] [(0,ahW 910000040 clock .i64 seen (c5 .i64) he vG)] [(1,.int .i64 root),(2,.aX false (aD bq ts)),(9,.int .i64 (dH:Int)),(10,.ptr 910000000 0),(28,.int .i64 (dH:Int)),(29,.int .i64 (S:Int)),(11,.int .i64 (S:Int)),(14,.int .i64 (p:Int)),(99,.ptr 910000040 0),(15,.int .i64 n),(16,.int .i64 v)] (fB aL (aD fM rows) g5 (aD fQ steps) ng++[(910000040,.ig es clock (dy .i64 (c5 .i64) m) (seen.push e.born))]) (by kernel_rfl) ?_;have R9:bT m n=some v:=T0 n0.nd (List.mem_of_getElem? vG);have af:=(n0.ok n v R9).1;have D8:ch m n=v:=by unfold ch;rw[R9];rfl
     have b2:=Sa.bd n;have i4:=aq.bd n;have Q2:bK (v+ch (gu rows (iA S p)) n)=v+ch (gu rows (iA S p)) n:=hW (by omega) (by omega)
     have fA:∀{x:Int} {c:Int},(x,c)∈q++[(n,v)]→(∃c,(x,c)∈q)∨x=n:=λ{x c} h=>by
      rcases List.mem_append.1 h with h|h
      ·exact .inl ⟨c,h⟩
      ·simp at h;exact .inr h.1
     by_cases bQ:v+ch (gu rows (iA S p)) n<ch g5 n
     ·have Cg:=MO (aL:=aL) (dW:=aD fM rows) (m1:=g5) (fC:=aD fQ steps) (m2:=ng) n (v+ch (gu rows (iA S p)) n) 0 (p:Int) kg bQ;rw[gO]at Cg;have vO:=aq.put (v:=n) (c:=v+ch (gu rows (iA S p)) n) (x:=(0,(p:Int))) (by omega) bQ (.inr (.inl ⟨rfl,p,rfl,aB,ml,EW,by rw[hm,D8],by rw[hm,D8];exact af.2,by omega⟩))
      refine A.R cm [] [(7,aZ (show U.int .i64 (kN .andNot .i64 (S:Int) (p:Int))=U.int .i64 ((iA S p:Nat):Int)by rw[LI (by omega)])),(9,cE (Om (aL:=aL) (rows:=rows) (m1:=g5) (fC:=aD fQ steps) (m2:=ng) n Q0) yG),(10,aZ (show U.int .i64 (bK (v+ch (gu rows (iA S p)) n))=U.int .i64 (v+ch (gu rows (iA S p)) n)by rw[Q2])),(13,gN [] Cg AD)]
       [(1,.int .i64 root),(2,.aX false (aD bq ts)),(9,.int .i64 (dH:Int)),(10,.ptr 910000000 0),(28,.int .i64 (dH:Int)),(29,.int .i64 (S:Int)),(11,.int .i64 (S:Int)),(14,.int .i64 (p:Int)),(99,.ptr 910000040 0)] (fB aL (aD fM rows) (c6 g5 n (v+ch (gu rows (iA S p)) n)) (aD fQ steps) (c6 ng n (0,(p:Int)))++[(910000040,.ig es clock (dy .i64 (c5 .i64) m) (seen.push e.born))]) (by kernel_rfl) ?_
      have hle:∀x,ch (c6 g5 n (v+ch (gu rows (iA S p)) n)) x≤ch g5 x:=λx=>by
       rw[uv];split
       ·rename_i u;subst u;omega
       ·omega
      refine⟨(c6 g5 n (v+ch (gu rows (iA S p)) n),c6 ng n (0,(p:Int))),⟨vO.more λP x g1=>?_,λi x u hi=>Int.le_trans (hle x) (zC i x u hi)⟩,b8.go [] [] (by kernel_rfl)⟩;rcases g1 with g1|⟨rfl,c,aa⟩
      ·exact vO.part P x (.inl g1)
      ·rcases fA aa with aa|rfl
       ·exact vO.part _ x (.inr ⟨rfl,aa⟩)
       ·rw[hm,D8,uv,if_pos rfl];exact Int.le_refl _
     ·have r8:=MN (aL:=aL) (dW:=aD fM rows) (m1:=g5) (fC:=aD fQ steps) (m2:=ng) n (v+ch (gu rows (iA S p)) n) 0 (p:Int) (by omega);rw[gO]at r8
      refine A.R cm [] [(7,aZ (show U.int .i64 (kN .andNot .i64 (S:Int) (p:Int))=U.int .i64 ((iA S p:Nat):Int)by rw[LI (by omega)])),(9,cE (Om (aL:=aL) (rows:=rows) (m1:=g5) (fC:=aD fQ steps) (m2:=ng) n Q0) yG),(10,aZ (show U.int .i64 (bK (v+ch (gu rows (iA S p)) n))=U.int .i64 (v+ch (gu rows (iA S p)) n)by rw[Q2])),(13,gN [] r8 AD)]
       [(1,.int .i64 root),(2,.aX false (aD bq ts)),(9,.int .i64 (dH:Int)),(10,.ptr 910000000 0),(28,.int .i64 (dH:Int)),(29,.int .i64 (S:Int)),(11,.int .i64 (S:Int)),(14,.int .i64 (p:Int)),(99,.ptr 910000040 0)] (fB aL (aD fM rows) g5 (aD fQ steps) ng++[(910000040,.ig es clock (dy .i64 (c5 .i64) m) (seen.push e.born))]) (by kernel_rfl) ?_
      refine⟨(g5,ng),⟨aq.more λP x g1=>?_,zC⟩,b8.go [] [] (by kernel_rfl)⟩;rcases g1 with g1|⟨rfl,c,aa⟩
      ·exact aq.part P x (.inl g1)
      ·rcases fA aa with aa|rfl
       ·exact aq.part _ x (.inr ⟨rfl,aa⟩)
       ·rw[hm,D8];omega
    ·rintro seen q ⟨g5,ng⟩ HU ⟨aq,zC⟩;simp only at aq zC;refine⟨(g5,ng),⟨aq.more λP x g1=>?_,zC⟩,b8.go [] [] (by kernel_rfl)⟩;rcases Nat.lt_or_eq_of_le g1.1 with h|h
     ·exact aq.part P x (.inl ⟨h,g1.2⟩)
     ·subst h;cases bl:bT m x with
      |some c=>exact aq.part _ x (.inr ⟨rfl,c,HU.mem_iff.2 (T1 bl)⟩)
      |none=>
       have h1:ch m x=2305843009213693951:=by unfold ch;rw[bl];rfl
       have D:=(aq.bd x).2;have ak:=(Sa.bd x).1;rw[hm,h1];omega
   rintro⟨hG,iC⟩ ⟨p5,Bi⟩;simp only at p5 Bi;have p4:kN .and .i64 (bK ((p:Int)-(1:Int))) (S:Int)=(((p-1) &&& S:Nat):Int):=by
    rw[hW (by omega) (by omega),show(p:Int)-1=((p-1:Nat):Int)by omega,Md (by omega) (by omega)]
   refine A.R cm [] [(3,aZ (show U.int .i64 (kN .and .i64 (bK ((p:Int)-(1:Int))) (S:Int))=U.int .i64 (((p-1) &&& S:Nat):Int)by rw[p4]))] [(1,.int .i64 root),(2,.aX false (aD bq ts)),(9,.int .i64 (dH:Int)),(10,.ptr 910000000 0),(28,.int .i64 (dH:Int)),(29,.int .i64 (S:Int)),(11,.int .i64 (S:Int)),(14,.int .i64 (((p-1) &&& S:Nat):Int))] (fB aL (aD fM rows) hG (aD fQ steps) iC) (by kernel_rfl) ?_;have hle:=Nat.and_le_left (n:=p-1) (m:=S);refine⟨((p-1) &&& S,hG,iC),⟨⟨UN 0,λ_=>by show(p-1) &&& S<S;omega⟩,p5.more λP v g1=>p5.part P v ⟨?_,g1.2⟩,Bi⟩,by simp only;omega,b8.go [] [] (by kernel_rfl)⟩;have anv:(p-1) &&& S<P:=g1.1;apply Classical.byContradiction;intro aT;have:=Nr p S P EW g1.2.2 (by omega);omega
  rintro⟨hG,iC⟩ ⟨p5,Bi⟩;simp only at p5 Bi
  have Sw:=Xi (aL:=aL) (dW:=aD fM rows) (m1:=hG) (fC:=aD fQ steps) (m2:=iC) kg (λa b=>kS aL ts rows S (λP _=>0<P∧P<S∧P &&& S=P) a b∧∀i v,ts[i]?=some v→S=2 ^ i→ch a v≤0) ⟨p5,Bi⟩ (λa b h r=>h.1.bd r) (λa h=>by have:=(aC a h).1;omega) (λa b e h he bQ=>by
   have s0:=(aC e he).1;have aH:=h.1.bd e.Hop.aQ;have agQ:e.Hop.aQ≠e.Hop.bg:=λBZ=>by rw[BZ]at bQ;omega
   refine⟨h.1.put (by omega) bQ (.inl ⟨(aC e he).2,e,he,rfl,rfl,?_⟩),λi v af hi=>?_⟩
   ·show e.gr+ch (c6 a e.Hop.bg (e.gr+ch a e.Hop.aQ)) e.Hop.aQ≤_;rw[uv,if_neg agQ];exact Int.le_refl _
   ·have:=h.2 i v af hi;rw[uv];split
    ·rename_i u;subst u;omega
    ·exact this)
  rw[gO]at Sw;refine A.DR cm 2 [] [] [(120,.int .i64 (S:Int)),(119,.ptr 910000000 0),(1,.int .i64 root),(2,.aX false (aD bq ts)),(9,.int .i64 (dH:Int)),(10,.ptr 910000000 0),(28,.int .i64 (dH:Int)),(29,.int .i64 (S:Int)),(11,.int .i64 (S:Int))] (fB aL (aD fM rows) hG (aD fQ steps) iC) (by kernel_rfl) (by kernel_rfl) (by kernel_rfl) rfl rfl (en.H7 [] rfl rfl rfl rfl rfl rfl ?_ Sw adk) rfl rfl ?_
  ·rintro r σ2 ⟨rfl,gK,dN,_,_,rfl⟩;exact⟨rfl,rfl⟩
  rintro bE az ⟨σ2,⟨rfl,gK,dN,⟨hk,ahc⟩,ahJ,rfl⟩,rfl⟩;refine⟨[],_,_,rfl,?_⟩;show aY _ _ _ _ _;refine A.R cm [] [(0,aZ (show U.int .i64 (bK ((S:Int)+(1:Int)))=U.int .i64 (((rows++[gK]).length:Nat):Int)by rw[hW (by omega) (by omega),List.length_append,JI];simp))] [(1,.int .i64 root),(2,.aX false (aD bq ts)),(9,.int .i64 (dH:Int)),(10,.ptr 910000000 0),(28,.int .i64 (dH:Int)),(29,.int .i64 (((rows++[gK]).length:Nat):Int))] (fB aL (aD fM rows) gK (aD fQ steps) dN) (by kernel_rfl) ?_;have aA:aD fM (rows++[gK])=aD fM rows++[[.de (dy .i64 (c5 .i64) gK)]]:=by simp[aD,fM]
  have e2:aD fQ (steps++[dN])=aD fQ steps++[[.de (dy .i64 qz dN)]]:=by simp[aD,fQ]
  refine⟨(rows++[gK],steps++[dN]),⟨by simp only[List.length_append,List.length_singleton];omega,n3.snoc (by omega) (by rw[JI];exact⟨hk,ahc,ahJ⟩)⟩,by simp only[List.length_append,List.length_singleton];omega,?_⟩;show b8 _ _ _ _ [(910000000,.cells 165 [.aX false (aD eo aL),.own 910000021,.own 910000023]),(910000021,.slice 144 1 (aD fM (rows++[gK])) 0 false),(910000023,.slice 166 1 (aD fQ (steps++[dN])) 0 false)];rw[aA,e2]
  exact(b8.go (dx:=[(1,.int .i64 root),(2,.aX false (aD bq ts)),(9,.int .i64 (dH:Int)),(10,.ptr 910000000 0),(28,.int .i64 (dH:Int)),(29,.int .i64 (((rows++[gK]).length:Nat):Int))]) (σ2:=[(910000000,.cells 165 [.aX false (aD eo aL),.own 910000001,.own 910000003]),(910000001,.gZ 144 (aD fM rows) 910000002),(910000002,.k4 3 3 (dy .i64 (c5 .i64) gK)),(910000003,.gZ 166 (aD fQ steps) 910000004),(910000004,.k4 3 169 (dy .i64 qz dN))]) [.cU [910000002,910000004]] [] (by kernel_rfl)).trans
   ((b8.QG 910000001 910000002 rfl rfl).trans ((b8.QG 910000003 910000004 rfl rfl).trans (b8.go [.kV 910000001 910000021,.kV 910000003 910000023] [] (by kernel_rfl))))
 ·refine A.jV rfl (decide_eq_false (by omega)) ?_;refine A.exit ?_;show aY _ _ _ _ _;have qT:rows.length=dH:=by omega
  have eP:1≤dH:=by rw[←jH];exact Nat.two_pow_pos _
  have ael:dj rows ((dH-1:Nat):Int)=some (gu rows (dH-1)):=by
   unfold dj gu;rw[if_pos (by omega),Int.toNat_natCast,List.getD_eq_getElem?_getD,List.getElem?_eq_getElem (by omega)];rfl
  have Q3:bK ((dH:Int)-(1:Int))=((dH-1:Nat):Int):=by rw[hW (by omega) (by omega)];omega
  refine A.weak ((b8.go (dx:=[(1,.int .i64 root),(9,.int .i64 (dH:Int)),(10,.ptr 910000000 0)]) (σ2:=[(910000000,.cells 165 [.aX false (aD eo aL),.aX false (aD fM rows),.aX false (aD fQ steps)])]) [.cU [910000021,910000023],.sc 910000000 []] [] (by kernel_rfl)).trans
   (b8.KC (T:=165) (cs:=[.aX false (aD eo aL),.aX false (aD fM rows),.aX false (aD fQ steps)]) 10 910000000 rfl rfl rfl)) ?_
  refine A.eB cm [] [(2,aZ (show U.int .i64 (bK ((dH:Int)-(1:Int)))=U.int .i64 ((dH-1:Nat):Int)by rw[Q3])),(4,cE (ab4 (aL:=aL) (rows:=rows) (steps:=steps) root ael) yG)] [(1,.int .i64 root),(9,.int .i64 (dH:Int)),(10,.fP [.aX false (aD eo aL),.aX false (aD fM rows),.aX false (aD fQ steps)]),(17,.int .i64 (ch (gu rows (dH-1)) root))] [] (by kernel_rfl) ?_;refine A.seq ?_;refine A.eB cm [] [] [(1,.int .i64 root),(9,.int .i64 (dH:Int)),(10,.fP [.aX false (aD eo aL),.aX false (aD fM rows),.aX false (aD fQ steps)]),(17,.int .i64 (ch (gu rows (dH-1)) root)),(129,.bool (decide ((2305843009213693951:Int)≤ch (gu rows (dH-1)) root)))] [] (by kernel_rfl) ?_;by_cases IF:2305843009213693951≤ch (gu rows (dH-1)) root
  ·refine A.kX rfl (decide_eq_true IF) ?_;refine A.eB cm [] [] [(6,.cV),(7,.int .i64 0),(8,.bool false)] [] (by kernel_rfl) ?_;refine A.ret ?_;refine ri.mono (A.fin cm [] (R:=.cD [.aX false (aD b1 []),.int .i64 0,.bool false]) (σ2:=[]) rfl (by kernel_rfl)) ?_;rintro a s ⟨rfl,rfl⟩;exact⟨rfl,([],0,false),⟨λh=>absurd h r9,λ_=>⟨rows,steps,by rw[jH];exact qT,n3,by rw[jH];exact .inl ⟨IF,rfl⟩⟩⟩,rfl⟩
  ·refine A.jV rfl (decide_eq_false IF) ?_;refine A.skip ?_;show aY _ _ _ _ _;obtain⟨H,s0,anw,qB,SA⟩:=QY rows steps qT n3 (by omega);have hJ:=VS (aL:=aL) (u0:=rows) s0 (l:=[]) (by simp;omega);rw[List.nil_append]at hJ;refine A.eB cm [] [(0,.al 910000010)] [(1,.int .i64 root),(9,.int .i64 (dH:Int)),(10,.fP [.aX false (aD eo aL),.aX false (aD fM rows),.aX false (aD fQ steps)]),(17,.int .i64 (ch (gu rows (dH-1)) root)),(18,.ptr 910000010 0)] [(910000010,.cells 34 [.cV])] (by kernel_rfl) ?_;refine A.eB cm [.ac 910000010 910000011 84 2 0] [(2,aZ (show U.int .i64 (bK ((dH:Int)-(1:Int)))=U.int .i64 ((dH-1:Nat):Int)by rw[Q3])),(5,gN [910000012] hJ Hp)] [(17,.int .i64 (ch (gu rows (dH-1)) root)),(18,.ptr 910000010 0)] (l6 910000012 H) (by kernel_rfl) ?_;refine A.eB cm [] [(1,gN [] (Xc (d:=910000012) (T:=84) SA) adm)] [(17,.int .i64 (ch (gu rows (dH-1)) root)),(18,.ptr 910000010 0)] (l6 910000012 qB) (by kernel_rfl) ?_;refine A.eB cm [] [] [(6,.own 910000012),(7,.int .i64 (ch (gu rows (dH-1)) root)),(8,.bool true)] [(910000012,.slice 84 2 (aD b1 qB) 0 false)] (by kernel_rfl) ?_;refine A.ret ?_;refine ri.mono (A.fin cm [.cU [910000012]] (R:=.cD [.aX false (aD b1 qB),.int .i64 (ch (gu rows (dH-1)) root),.bool true]) (σ2:=[]) rfl (by kernel_rfl)) ?_;rintro a s ⟨rfl,rfl⟩;exact⟨rfl,(qB,ch (gu rows (dH-1)) root,true),⟨λh=>absurd h r9,λ_=>⟨rows,steps,by rw[jH];exact qT,n3,by rw[jH];exact .inr ⟨by omega,H,s0,SA,rfl⟩⟩⟩,rfl⟩
end Go.Proofs.YtmnbolcmepihlaaGreat
