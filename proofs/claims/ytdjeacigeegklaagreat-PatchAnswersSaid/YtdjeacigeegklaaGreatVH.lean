/- The iD of er of the program. No condition but bO bx stand in each. -/
import Derived.Test.YtdjeacigeegklaaGreatVK
namespace Go.Proofs.YtdjeacigeegklaaGreat
open Go Go.Proofs.Tryz
set_option maxRecDepth 100000
set_option linter.all false
variable {r:(List Int)}
theorem tV{sa0:List Int}(apy:ml aA sa0≠[])(hm:gO sa0=some r):dG prog 140 [] [lf aA sa0] (λa σ'=>a=.own 500014000∧σ'=[(500014000,.slice 3 1 (ml aA r) 0 false)]):=by
 refine bf func140 rfl rfl ?_
 unfold gO at hm
 refine qS [] [(0,lf aA sa0)] []<|A.seq<|qDs [(1,.sn false (lf aA sa0) (ako apy))] [] [(4,.bool false)]<|A.cF rfl rfl<|A.skip ?_
 obtain⟨l_1,h1,hm⟩:=af hm
 refine qS [(0,.al 140005),(2,hap 140507 (ap aA (bytes:=8) (by decide) h1))] [(2,.own 140507)] [(140507,.slice 3 1 (ml aA l_1) 0 false)]<|A.ret ?_
 obtain rfl:=some_inj hm
 exact A.fin W0 [.sw 140507 500014000] rfl (by kernel_rfl)
theorem tW(hm:pQ=some r):dG prog 140 [] [.sl0] (λa σ'=>a=.own 500014000∧σ'=[(500014000,.slice 3 1 (ml aA r) 0 false)]):=by
 refine bf func140 rfl rfl ?_
 unfold pQ at hm
 refine qS [] [(0,.sl0)] []<|A.seq<|qDs [(1,.sn false .sl0 (akp))] [] [(4,.bool false)]<|A.cF rfl rfl<|A.skip ?_
 obtain⟨l_1,h1,hm⟩:=af hm
 refine qS [(0,.al 140005),(2,hap 140507 (ap aA (bytes:=8) (by decide) h1))] [(2,.own 140507)] [(140507,.slice 3 1 (ml aA l_1) 0 false)]<|A.ret ?_
 obtain rfl:=some_inj hm
 exact A.fin W0 [.sw 140507 500014000] rfl (by kernel_rfl)
theorem vo(n c:Nat)(w:World):Calls prog 140 #[.slice none n c] w λe w'=>e=.returned (.slice none 0 0)∧w'=w:=by
 have q:∀(w:World) (a:Option Addr) (n c n' c':Nat),(binOp .eql 22 (.slice a n c) (.slice none n' c')).run prog w=.ok (.bool a.isNone) w:=λw a n c n' c'=>Lib.run_eql_slice_nil w _ _ a n c n' c' underlying22
 go_enter func140,Tryz.ntmps140
 go_wp2
 go_ret
 exact⟨rfl,rfl⟩
theorem uN{s r:List Int}(hm:j9 s=some r):dG prog 140 [] [.lst false (ml aA s)] (λa σ'=>a=.own 500014000∧σ'=[(500014000,.slice 3 1 (ml aA r) 0 false)]):=by
 obtain rfl:s=r:=by
  unfold j9 gO at hm
  obtain⟨l,h,hm⟩:=af hm
  have:=(apn h).symm
  simp at this;subst this
  exact some_inj hm
 refine ait vo (λh=>tV h hm) (λh=>?_) (λh=>h)
 have h0:s=[]:=by cases s with|nil=>rfl|cons a b=>simp[ml]at h
 subst h0
 exact tW hm
variable {f:aO}
theorem aac{a:Int}{b:Int}{r:Bool}(hm:pR f a b=some r):RO prog 156 [] [.agg (k4 f),i6 a,i6 b] (.bool r):=by
 refine bf func156 rfl rfl ?_
 unfold pR at hm
 refine qS [(0,.al 156003)] [(1,i6 a),(2,i6 b),(3,.ptr 156003 0)] [(156003,.cells 100 (k4 f))] ?_
 obtain⟨ai,h1,hm⟩:=af hm
 rcases aq hm with⟨c1,hm⟩|⟨c1,hm⟩
 ·refine qS [(5,hro (eo h1) aaP),(6,hto (bE c1))] [(6,.bool true)] [] ?_
  cases hm
  exact A.ret qE
 obtain⟨aK,h2,hm⟩:=af hm
 refine qS [(5,hro (eo h1) aaP),(6,hto (bE c1)),(12,hro (eo h2) aaP)] [(6,.bool aK)] [] ?_
 cases hm
 exact A.ret qE
variable {aD:Int}{t:aa}
theorem aa2(hm:oL t f aD=some r):RO prog 131 [] [.agg (k2 t),.agg (k4 f),i6 aD] (lf aA r):=by
 refine bf func131 rfl rfl ?_
 unfold oL at hm
 refine qS [(0,.al 131003),(1,.al 131004)] [(2,i6 aD),(3,.ptr 131003 0),(4,.ptr 131004 0)] [(131003,.cells 28 (k2 t)),(131004,.cells 100 (k4 f))]<|qDs [] [] [(7,.aM)]<|A.seq ?_
 obtain⟨ai,h1,hm⟩:=af hm
 refine qD [(2,hro (wz h1) aw4),(3,hto (lnE aA ai))] [3] [(12,lf aA ai),(13,i6 (ai.length:Int)),(14,i6 0)] [131003] []<|A.block<|A.bS 12 rfl λhb1=>?_
 obtain⟨B1,K1,hB1,hK1,hm⟩:=aW hm
 refine A.lpI (l:=ai) (j0:=0) (B:=B1) (K:=K1) hm (λj1=>λaR=>[(2,i6 aD),(4,.ptr 131004 0),(7,.own 600131007),(12,lf aA ai),(13,i6 (ai.length:Int)),(14,i6 (j1:Int))]) (λj1=>λaR=>[(131004,.cells 100 (k4 f)),(600131007,.slice 3 1 (ml aA aR) 0 false)]) ?_ ?_ ?_
 ·exact bt.go [.ad 7 600131007 3 1] [] (by kernel_rfl)
 ·rintro j1 e1 Z1 aR hj1 hx1 hm
  rw[hB1]at hm
  refine qDs [] [] [(15,.bool (decide ((j1:Int)<(ai.length:Int))))]<|A.seq<|qT (ltT hx1)<|A.skip ?_
  obtain⟨J1,hJ1,hm⟩:=bG hm
  refine A.J (J:=J1) (r:=r) (λcv=>[(2,i6 aD),(4,.ptr 131004 0),(7,.own 600131007),(12,lf aA ai),(13,i6 (ai.length:Int)),(14,i6 (j1:Int))]) (λcv=>[(131004,.cells 100 (k4 f)),(600131007,.slice 3 1 (ml aA cv) 0 false)]) ?_ ?_
  ·refine A.block<|qDs [(0,hix (ix aA (aY hx1)))] [15] [(9,i6 e1)] ?_
   obtain⟨J2,hJ2,hm⟩:=bG hm
   refine A.J (J:=J2) (r:=r) (λv_1=>[(2,i6 aD),(4,.ptr 131004 0),(7,.own 600131007),(9,i6 e1),(12,lf aA ai),(13,i6 (ai.length:Int)),(14,i6 (j1:Int)),(27,.bool v_1)]) (λv_1=>[(131004,.cells 100 (k4 f)),(600131007,.slice 3 1 (ml aA aR) 0 false)]) ?_ ?_
   ·obtain⟨aK,h2,hm⟩:=af hm
    rcases aq hm with⟨c1,hm⟩|⟨c1,hm⟩
    ·exact qGs [(3,hro (bX h2) qK),(4,hto (bE c1))] [] [(27,.bool true)]<|qX true hm
    obtain⟨aV,h3,hm⟩:=af hm
    exact qGs [(3,hro (bX h2) qK),(4,hto (bE c1)),(8,hro (aac h3) aw5)] [] [(27,.bool aV)]<|qX aV hm
   rintro v_1 hm
   rw[hJ2]at hm
   rcases aq hm with⟨c2,hm⟩|⟨c2,hm⟩
   ·refine qT c2 ?_
    obtain⟨l_1,h4,hm⟩:=af hm
    exact qG [(3,hap 131531 (ap aA (bytes:=8) (by decide) h4))] [7,9,27] [(7,.own 131531)] [600131007] [(131531,.slice 3 1 (ml aA l_1) 0 false)]<|Exists.intro l_1 (And.intro hm (bt.go [.sw 131531 600131007] [] (by kernel_rfl)))
   exact qF c2<|A.skip<|qX aR hm
  rintro cv hm
  rw[hJ1]at hm
  exact qGs [(0,hto (inc hx1 hb1))] [14] [(14,i6 ((j1+1:Nat):Int))]<|qX cv hm
 rintro j1 aR hj1 hl1 hm
 rw[hK1]at hm
 refine qDs [] [] [(15,.bool (decide ((j1:Int)<(ai.length:Int))))]<|A.seq<|qF (ltF hl1)<|A.exit<|qD [] [2,4,7,12,13,14,15] [(6,.own 600131007)] [131004] []<|A.ret ?_
 obtain rfl:=some_inj hm
 exact A.fin W0 [.fz [600131007]] rfl (by kernel_rfl)
theorem aad{a:az}{r:Bool}(hm:pS a=some r):RO prog 80 [] [.agg (k5 a)] (.bool r):=by
 refine bf func80 rfl rfl ?_
 unfold pS at hm
 refine qS [(0,.al 80001)] [(1,.ptr 80001 0)] [(80001,.cells 38 (k5 a))]<|qS [] [(2,.bool (decide (a.Kind=2)))] [] ?_
 cases hm
 exact A.ret qE
theorem kM{e:aF}{r:Bool}(hm:lT e=some r):RO prog 41 [] [.agg (k7 e)] (.bool r):=by
 refine bf func41 rfl rfl ?_
 unfold lT at hm
 refine qS [(0,.al 41001)] [(1,.ptr 41001 0)] [(41001,.cells 32 (k7 e))] ?_
 obtain⟨ai,h1,hm⟩:=af hm
 rcases aq hm with⟨c1,hm⟩|⟨c1,hm⟩
 ·obtain⟨aK,h2,hm⟩:=af hm
  refine qS [(1,hro (ir h1) afg),(3,hto (bE c1)),(6,hro (lG (f_g:=80) (f_c:=[]) (f_k:=ck80) (f_f:=λ_ _ h=>aad h) h2) ck79)] [(2,.bool (!aK))] [] ?_
  cases hm
  exact A.ret qE
 refine qS [(1,hro (ir h1) afg),(3,hto (bE c1))] [(2,.bool false)] [] ?_
 cases hm
 exact A.ret qE
variable {c:bh}
theorem wE{gT:List Int}{bits:Int}{r:bh}(hm:jV c gT bits=some r):RO prog 107 [] [.agg (k11 c),lf aA gT,.int .u64 bits] (.agg (k11 r)):=by
 refine bf func107 rfl rfl ?_
 unfold jV at hm
 refine qS [(0,.al 107003),(1,.al 107006)] [(1,lf aA gT),(2,.int .u64 bits),(3,.ptr 107003 0),(6,.ptr 107006 0)] [(107003,.cells 54 (k11 c)),(107006,.cells 54 [i6 0,.aM,i6 0,i6 0,i6 0,i6 0,i6 0,i6 0,i6 0,i6 0,.int .u64 (0:Int),.str (⟨#[]⟩:ByteArray)])] ?_
 obtain⟨e_1,h1,hm⟩:=af hm
 refine qD [(1,hix (ix aA h1))] [] [] [107003] [(107003,.cells 54 [i6 e_1,lf aA c.Frame.dZ,i6 c.Frame.ay.Mode,i6 c.Frame.ay.bQ,i6 c.Frame.ay.Set,i6 c.Frame.ay.Length,i6 c.Frame.ay.TTL,i6 c.Frame.ay.cI,i6 c.Frame.ay.cK,i6 c.Frame.ay.dU,.int .u64 c.Frame.ay.Bits,.str c.Frame.ay.cD])] ?_
 obtain⟨l_1,h2,hm⟩:=af hm
 obtain⟨ai,h3,hm⟩:=af hm
 refine qD [(1,hsl (adb aA h2)),(2,hdc [500014000] (uN h3) awV)] [1] [] [107003] [(107003,.cells 54 [i6 e_1,.own 500014000,i6 c.Frame.ay.Mode,i6 c.Frame.ay.bQ,i6 c.Frame.ay.Set,i6 c.Frame.ay.Length,i6 c.Frame.ay.TTL,i6 c.Frame.ay.cI,i6 c.Frame.ay.cK,i6 c.Frame.ay.dU,.int .u64 c.Frame.ay.Bits,.str c.Frame.ay.cD]),(500014000,.slice 3 1 (ml aA ai) 0 false)]<|qD [] [2] [] [107003] [(107003,.cells 54 [i6 e_1,.own 500014000,i6 c.Frame.ay.Mode,i6 c.Frame.ay.bQ,i6 c.Frame.ay.Set,i6 c.Frame.ay.Length,i6 c.Frame.ay.TTL,i6 c.Frame.ay.cI,i6 c.Frame.ay.cK,i6 c.Frame.ay.dU,.int .u64 bits,.str c.Frame.ay.cD])]<|qD [] [3] [] [107003,107006] [(107006,.cells 54 [i6 e_1,.own 500014000,i6 c.Frame.ay.Mode,i6 c.Frame.ay.bQ,i6 c.Frame.ay.Set,i6 c.Frame.ay.Length,i6 c.Frame.ay.TTL,i6 c.Frame.ay.cI,i6 c.Frame.ay.cK,i6 c.Frame.ay.dU,.int .u64 bits,.str c.Frame.ay.cD])]<|A.ret ?_
 obtain rfl:=some_inj hm
 exact A.fin W0 [.fz [500014000]] rfl (by kernel_rfl)
theorem aa3{e:aF}{r:(List bh)×Int}(hm:oM e t aD c=some r):RO prog 60 [] [.agg (k7 e),.agg (k2 t),i6 aD,.agg (k11 c)] (.tup [lf bP r.1,.int .u64 r.2]):=by
 refine bf func60 rfl rfl ?_
 unfold oM at hm
 refine qS [(0,.al 60004),(1,.al 60005),(2,.al 60007)] [(2,i6 aD),(4,.ptr 60004 0),(5,.ptr 60005 0),(7,.ptr 60007 0),(8,.aM)] [(60004,.cells 32 (k7 e)),(60005,.cells 28 (k2 t)),(60007,.cells 54 (k11 c))]<|qDs [] [] [(10,.int .u64 c.Frame.ay.Bits),(11,i6 c.To)] ?_
 obtain⟨ai,h1,hm⟩:=af hm
 refine qDs [(3,hro (uA h1) amj)] [] [(12,.int .u64 (aU .andNot .u64 c.Frame.ay.Bits ai))] ?_
 obtain⟨aK,h2,hm⟩:=af hm
 refine qD [(4,hro (oB h2) akL),(5,.al 60013)] [] [(13,.ptr 60013 0)] [] [(60013,.cells 28 (k2 aK))]<|qDs [] [] [(14,.int .u64 (0:Int)),(15,.int .u64 (0:Int))]<|A.seq<|qD [(2,hto (lnE ak e.List))] [4] [(38,lf ak e.List),(39,i6 (e.List.length:Int)),(40,i6 0)] [60004] []<|A.block<|A.bS 38 rfl λhb1=>?_
 obtain⟨B1,K1,hB1,hK1,hm⟩:=aW hm
 refine A.lpI (l:=e.List) (j0:=0) (B:=B1) (K:=K1) hm (λj1=>λ(aR,dK,dI)=>[(2,i6 aD),(5,.ptr 60005 0),(7,.ptr 60007 0),(8,.own 600060008),(10,.int .u64 c.Frame.ay.Bits),(11,i6 c.To),(12,.int .u64 (aU .andNot .u64 c.Frame.ay.Bits ai)),(13,.ptr 60013 0),(14,.int .u64 dK),(15,.int .u64 dI),(38,lf ak e.List),(39,i6 (e.List.length:Int)),(40,i6 (j1:Int))]) (λj1=>λ(aR,dK,dI)=>[(60005,.cells 28 (k2 t)),(60007,.cells 54 (k11 c)),(60013,.cells 28 (k2 aK)),(600060008,.slice 54 12 (ml bP aR) 0 false)]) ?_ ?_ ?_
 ·exact bt.go [.ad 8 600060008 54 12] [] (by kernel_rfl)
 ·rintro j1 e1 Z1 ⟨aR,dK,dI⟩ hj1 hx1 hm
  rw[hB1]at hm
  refine qDs [] [] [(41,.bool (decide ((j1:Int)<(e.List.length:Int))))]<|A.seq<|qT (ltT hx1)<|A.skip ?_
  obtain⟨J1,hJ1,hm⟩:=bG hm
  refine A.J (J:=J1) (r:=r) (λ(cv,qz,mD)=>[(2,i6 aD),(5,.ptr 60005 0),(7,.ptr 60007 0),(8,.own 600060008),(10,.int .u64 c.Frame.ay.Bits),(11,i6 c.To),(12,.int .u64 (aU .andNot .u64 c.Frame.ay.Bits ai)),(13,.ptr 60013 0),(14,.int .u64 qz),(15,.int .u64 mD),(38,lf ak e.List),(39,i6 (e.List.length:Int)),(40,i6 (j1:Int))]) (λ(cv,qz,mD)=>[(60005,.cells 28 (k2 t)),(60007,.cells 54 (k11 c)),(60013,.cells 28 (k2 aK)),(600060008,.slice 54 12 (ml bP cv) 0 false)]) ?_ ?_
  ·refine A.block<|qD [(0,hix (ix ak (aY hx1))),(2,.al 60017)] [41] [(17,.ptr 60017 0)] [] [(60017,.cells 38 (k5 e1))] ?_
   obtain⟨h3,hm⟩:=eB hm
   refine qDs [(2,.sh e1.Bit (of_decide_eq_true h3))] [] [(18,.int .u64 (IntKind.wrap .u64 ((1:Int)*2 ^ min e1.Bit.toNat 64)))]<|A.seq<|A.mid [(2,i6 aD),(5,.ptr 60005 0),(7,.ptr 60007 0),(8,.own 600060008),(10,.int .u64 c.Frame.ay.Bits),(11,i6 c.To),(12,.int .u64 (aU .andNot .u64 c.Frame.ay.Bits ai)),(13,.ptr 60013 0),(14,.int .u64 dK),(15,.int .u64 dI),(38,lf ak e.List),(39,i6 (e.List.length:Int)),(40,i6 (j1:Int)),(17,.ptr 60017 0),(18,.int .u64 (IntKind.wrap .u64 ((1:Int)*2 ^ min e1.Bit.toNat 64))),(56,.bool ((!decide (e1.br=c.To))||(decide (aU .and .u64 c.Frame.ay.Bits (IntKind.wrap .u64 ((1:Int)*2 ^ min e1.Bit.toNat 64))=(0:Int)))))] [(60005,.cells 28 (k2 t)),(60007,.cells 54 (k11 c)),(60013,.cells 28 (k2 aK)),(600060008,.slice 54 12 (ml bP aR) 0 false),(60017,.cells 38 (k5 e1))] (λhk=>?_) ?_
   ·rcases tf (!decide (e1.br=c.To))with c1|c1
    ·exact qS [(4,hto (bE c1)),(9,hto (orT (q:=decide (aU .and .u64 c.Frame.ay.Bits (IntKind.wrap .u64 ((1:Int)*2 ^ min e1.Bit.toNat 64))=(0:Int))) c1))] _ _ hk
    exact qS [(4,hto (bE c1)),(9,hto (orF (q:=decide (aU .and .u64 c.Frame.ay.Bits (IntKind.wrap .u64 ((1:Int)*2 ^ min e1.Bit.toNat 64))=(0:Int))) c1))] _ _ hk
   rcases aq hm with⟨c2,hm⟩|⟨c2,hm⟩
   ·exact qT c2<|A.exit<|qX (aR,dK,dI) hm
   refine qF c2<|A.skip<|A.block<|qDs [] [56] [(57,.bool (decide (e1.Kind=3)))] ?_
   rcases aq hm with⟨c3,hm⟩|⟨c3,hm⟩
   ·exact qT c3<|qG [] [14,17,18,57] [(14,.int .u64 (aU .or .u64 dK (IntKind.wrap .u64 ((1:Int)*2 ^ min e1.Bit.toNat 64))))] [60017] []<|qX (aR,aU .or .u64 dK (IntKind.wrap .u64 ((1:Int)*2 ^ min e1.Bit.toNat 64)),dI) hm
   refine qF c3<|qDs [] [57] [(64,.bool (decide (e1.To=aD)))] ?_
   rcases aq hm with⟨c4,hm⟩|⟨c4,hm⟩
   ·exact qT c4<|A.skip<|qX (aR,dK,dI) hm
   refine qF c4 ?_
   obtain⟨aV,h4,hm⟩:=af hm
   refine qDs [(4,hro (wU h4) awK)] [64] [(69,.bool (!aV))] ?_
   rcases aq hm with⟨c5,hm⟩|⟨c5,hm⟩
   ·exact qT c5<|qG [] [14,15,17,18,69] [(14,.int .u64 (aU .or .u64 dK (IntKind.wrap .u64 ((1:Int)*2 ^ min e1.Bit.toNat 64)))),(15,.int .u64 (aU .or .u64 dI (IntKind.wrap .u64 ((1:Int)*2 ^ min e1.Bit.toNat 64))))] [60017] []<|qX (aR,aU .or .u64 dK (IntKind.wrap .u64 ((1:Int)*2 ^ min e1.Bit.toNat 64)),aU .or .u64 dI (IntKind.wrap .u64 ((1:Int)*2 ^ min e1.Bit.toNat 64))) hm
   refine qF c5<|qDs [] [18,69] [(82,.bool (!decide (aU .andNot .u64 c.Frame.ay.Bits ai=0)))] ?_
   rcases aq hm with⟨c6,hm⟩|⟨c6,hm⟩
   ·refine qT c6 ?_
    obtain⟨bq,h5,hm⟩:=af hm
    obtain⟨aT,h6,hm⟩:=af hm
    obtain⟨l_1,h7,hm⟩:=af hm
    exact qG [(6,hro (tE h5) aml),(8,hro (wE h6) amk),(10,hap 60595 (ap bP (bytes:=120) (by decide) h7))] [8,17,82] [(8,.own 60595)] [600060008,60017] [(60595,.slice 54 12 (ml bP l_1) 0 false)]<|Exists.intro (l_1,dK,dI) (And.intro hm (bt.go [.sw 60595 600060008] [] (by kernel_rfl)))
   exact qF c6<|A.skip<|qX (aR,dK,dI) hm
  rintro⟨cv,qz,mD⟩ hm
  rw[hJ1]at hm
  exact qGs [(0,hto (inc hx1 hb1))] [40] [(40,i6 ((j1+1:Nat):Int))]<|qX (cv,qz,mD) hm
 rintro j1 ⟨aR,dK,dI⟩ hj1 hl1 hm
 rw[hK1]at hm
 refine qDs [] [] [(41,.bool (decide ((j1:Int)<(e.List.length:Int))))]<|A.seq<|qF (ltF hl1)<|A.exit<|A.seq<|qD [] [10,13,38,39,40,41] [(98,.bool (decide (dK=0)))] [60013] [] ?_
 rcases aq hm with⟨c7,hm⟩|⟨c7,hm⟩
 ·refine qT c7<|qD [] [2,5,7,11,12,14,15,98] [(9,.int .u64 (0:Int))] [60005,60007] []<|A.ret ?_
  obtain rfl:=some_inj hm
  exact A.fin W0 [.fz [600060008]] rfl (by kernel_rfl)
 refine qF c7<|A.skip ?_
 obtain⟨cu,h8,hm⟩:=af hm
 refine qD [(6,hro (oB h8) akL),(7,.al 60019)] [5,98] [(19,.ptr 60019 0)] [60005] [(60019,.cells 28 (k2 cu))] ?_
 obtain⟨bA,h9,hm⟩:=af hm
 refine qD [(3,hro (tE h9) aml)] [2,11,19] [(20,lf aA bA)] [60019] []<|A.seq<|qDs [(1,hto (lnE aA bA))] [] [(113,.bool (decide ((bA.length:Int)=(0:Int))))] ?_
 rcases aq hm with⟨c8,hm⟩|⟨c8,hm⟩
 ·refine qT c8<|qD [] [7,12,14,15,20,113] [(9,.int .u64 dK)] [60007] []<|A.ret ?_
  obtain rfl:=some_inj hm
  exact A.fin W0 [.fz [600060008]] rfl (by kernel_rfl)
 refine qF c8<|A.skip ?_
 obtain⟨J2,hJ2,hm⟩:=bG hm
 refine A.J (J:=J2) (r:=r) (λacy=>[(7,.ptr 60007 0),(8,.own 600060008),(14,.int .u64 acy),(20,lf aA bA)]) (λacy=>[(60007,.cells 54 (k11 c)),(600060008,.slice 54 12 (ml bP aR) 0 false)]) ?_ ?_
 ·refine qDs [] [15,113] [(117,.bool (!decide (dI=0)))] ?_
  rcases aq hm with⟨c9,hm⟩|⟨c9,hm⟩
  ·exact qT c9<|qGs [] [12,14,117] [(14,.int .u64 (aU .or .u64 dK (aU .andNot .u64 c.Frame.ay.Bits ai)))]<|qX (aU .or .u64 dK (aU .andNot .u64 c.Frame.ay.Bits ai)) hm
  exact qF c9<|A.skip<|qX dK hm
 rintro acy hm
 rw[hJ2]at hm
 obtain⟨fE,h10,hm⟩:=af hm
 obtain⟨l_2,h11,hm⟩:=af hm
 refine qS [(4,hro (wE h10) amk),(6,hap 60627 (ap bP (bytes:=120) (by decide) h11))] [(8,.own 60627),(9,.int .u64 (0:Int))] [(60627,.slice 54 12 (ml bP l_2) 0 false)]<|A.ret ?_
 obtain rfl:=some_inj hm
 exact A.fin W0 [.fz [60627]] rfl (by kernel_rfl)
variable {p:aH}
theorem ql{e:aF}{down:List Int}{r:cg×Int}(hm:jG e t aD p down=some r):RO prog 15 [] [.agg (k7 e),.agg (k2 t),i6 aD,.agg (k10 p),lf aA down] (.tup [.agg (k12 r.1),i6 r.2]):=by
 refine bf func15 rfl rfl ?_
 unfold jG at hm
 refine qS [(0,.al 15005),(1,.al 15006),(2,.al 15008),(3,.al 15010)] [(2,i6 aD),(4,lf aA down),(5,.ptr 15005 0),(6,.ptr 15006 0),(8,.ptr 15008 0),(10,.ptr 15010 0)] [(15005,.cells 32 (k7 e)),(15006,.cells 28 (k2 t)),(15008,.cells 36 (k10 p)),(15010,.cells 46 [.int .u64 (0:Int),.int .u64 (0:Int),.aM])] ?_
 obtain⟨ai,h1,hm⟩:=af hm
 refine qD [(3,hro (wX h1) ck35),(7,.al 15012)] [8] [(12,.ptr 15012 0),(13,i6 ai.2)] [15008] [(15012,.cells 46 (k12 ai.1))]<|A.seq<|qDs [] [] [(27,.bool (!decide (ai.2=0)))] ?_
 rcases aq hm with⟨c1,hm⟩|⟨c1,hm⟩
 ·refine qT c1<|qD [] [2,4,5,6,12,13,27] [(11,i6 ai.2)] [15005,15006,15012] [] ?_
  cases hm
  exact A.ret qE
 refine qF c1<|A.skip<|A.seq ?_
 obtain⟨J1,hJ1,hm⟩:=bG hm
 refine A.J (J:=J1) (r:=r) (λv_1=>[(2,i6 aD),(4,lf aA down),(5,.ptr 15005 0),(6,.ptr 15006 0),(10,.ptr 15010 0),(12,.ptr 15012 0),(37,.bool v_1)]) (λv_1=>[(15005,.cells 32 (k7 e)),(15006,.cells 28 (k2 t)),(15010,.cells 46 [.int .u64 (0:Int),.int .u64 (0:Int),.aM]),(15012,.cells 46 (k12 ai.1))]) ?_ ?_
 ·obtain⟨aK,h2,hm⟩:=af hm
  rcases aq hm with⟨c2,hm⟩|⟨c2,hm⟩
  ·exact qGs [(1,hro (kM h2) adg),(3,hto (bE c2))] [13,27] [(37,.bool true)]<|qX true hm
  obtain⟨aV,h3,hm⟩:=af hm
  exact qGs [(1,hro (kM h2) adg),(3,hto (bE c2)),(5,hro (kf h3) aff)] [13,27] [(37,.bool (!decide (aV=0)))]<|qX (!decide (aV=0)) hm
 rintro v_1 hm
 rw[hJ1]at hm
 rcases aq hm with⟨c3,hm⟩|⟨c3,hm⟩
 ·refine qT c3<|qD [] [2,4,5,6,12,37] [(11,i6 1)] [15005,15006,15012] [] ?_
  cases hm
  exact A.ret qE
 refine qF c3<|A.skip<|qD [(5,.al 15014)] [37] [(14,.ptr 15014 0)] [] [(15014,.cells 46 [.int .u64 ai.1.Local,.int .u64 ai.1.gw,.aM])]<|A.seq<|qD [(2,hto (lnE bP ai.1.bz))] [12] [(45,lf bP ai.1.bz),(46,i6 (ai.1.bz.length:Int)),(47,i6 0)] [15012] []<|A.block<|A.bS 45 rfl λhb1=>?_
 obtain⟨B1,K1,hB1,hK1,hm⟩:=aW hm
 refine A.lpI (l:=ai.1.bz) (j0:=0) (B:=B1) (K:=K1) hm (λj1=>λ(m_1,m_2)=>[(2,i6 aD),(4,lf aA down),(5,.ptr 15005 0),(6,.ptr 15006 0),(10,.ptr 15010 0),(14,.ptr 15014 0),(45,lf bP ai.1.bz),(46,i6 (ai.1.bz.length:Int)),(47,i6 (j1:Int))]) (λj1=>λ(m_1,m_2)=>[(15005,.cells 32 (k7 e)),(15006,.cells 28 (k2 t)),(15010,.cells 46 [.int .u64 (0:Int),.int .u64 (0:Int),.aM]),(15014,.cells 46 [.int .u64 ai.1.Local,.int .u64 m_1,.own 701501402]),(701501402,.slice 54 12 (ml bP m_2) 0 false)]) ?_ ?_ ?_
 ·exact bt.go [.ac 15014 701501402 54 12 2] [] (by kernel_rfl)
 ·rintro j1 e1 Z1 ⟨m_1,m_2⟩ hj1 hx1 hm
  rw[hB1]at hm
  refine qDs [] [] [(48,.bool (decide ((j1:Int)<(ai.1.bz.length:Int))))]<|A.seq<|qT (ltT hx1)<|A.skip ?_
  obtain⟨J2,hJ2,hm⟩:=bG hm
  refine A.J (J:=J2) (r:=r) (λ(m_3,m_4)=>[(2,i6 aD),(4,lf aA down),(5,.ptr 15005 0),(6,.ptr 15006 0),(10,.ptr 15010 0),(14,.ptr 15014 0),(45,lf bP ai.1.bz),(46,i6 (ai.1.bz.length:Int)),(47,i6 (j1:Int))]) (λ(m_3,m_4)=>[(15005,.cells 32 (k7 e)),(15006,.cells 28 (k2 t)),(15010,.cells 46 [.int .u64 (0:Int),.int .u64 (0:Int),.aM]),(15014,.cells 46 [.int .u64 ai.1.Local,.int .u64 m_3,.own 701501402]),(701501402,.slice 54 12 (ml bP m_4) 0 false)]) ?_ ?_
  ·refine A.block<|qD [(0,hix (ix bP (aY hx1))),(2,.al 15016)] [48] [(16,.ptr 15016 0)] [] [(15016,.cells 54 (k11 e1))] ?_
   refine A.seq ?_
   obtain⟨bq,h4,hm⟩:=af hm
   refine qDs [(3,hro (bX h4) qK)] [] [(55,.bool (!bq))] ?_
   rcases aq hm with⟨c4,hm⟩|⟨c4,hm⟩
   ·refine qT c4 ?_
    obtain⟨l_1,h5,hm⟩:=af hm
    exact qD [(4,hap 15560 (ap bP (bytes:=120) (by decide) h5))] [55] [] [15014,701501402] [(15014,.cells 46 [.int .u64 ai.1.Local,.int .u64 m_1,.own 15560]),(15560,.slice 54 12 (ml bP l_1) 0 false)]<|A.exit<|Exists.intro (m_1,l_1) (And.intro hm (bt.go [.sw 15560 701501402] [] (by kernel_rfl)))
   refine qF c4<|A.skip ?_
   obtain⟨aT,h6,hm⟩:=af hm
   refine qD [(4,hro (aa3 h6) ck60)] [16,55] [(17,lf bP aT.1),(18,.int .u64 aT.2)] [15016] [] ?_
   obtain⟨l_2,h7,hm⟩:=af hm
   exact qG [(3,hap 15573 (ap bP (bytes:=120) (by decide) h7))] [17,18] [] [15014,701501402] [(15014,.cells 46 [.int .u64 ai.1.Local,.int .u64 (aU .or .u64 m_1 aT.2),.own 15573]),(15573,.slice 54 12 (ml bP l_2) 0 false)]<|Exists.intro (aU .or .u64 m_1 aT.2,l_2) (And.intro hm (bt.go [.sw 15573 701501402] [] (by kernel_rfl)))
  rintro⟨m_3,m_4⟩ hm
  rw[hJ2]at hm
  exact qGs [(0,hto (inc hx1 hb1))] [47] [(47,i6 ((j1+1:Nat):Int))]<|qX (m_3,m_4) hm
 rintro j1 ⟨m_1,m_2⟩ hj1 hl1 hm
 rw[hK1]at hm
 refine qDs [] [] [(48,.bool (decide ((j1:Int)<(ai.1.bz.length:Int))))]<|A.seq<|qF (ltF hl1)<|A.exit<|qD [] [2,4,5,6,14,45,46,47,48] [(11,i6 0)] [15005,15006,15010,15014] [(15010,.cells 46 [.int .u64 ai.1.Local,.int .u64 m_1,.own 701501402])]<|A.ret ?_
 obtain rfl:=some_inj hm
 exact A.fin W0 [.fz [701501402]] rfl (by kernel_rfl)
variable {d:dh}
theorem rz{r:dh}(hm:gJ d aD c=some r):dG prog 130 [(505013000,.slice 78 11 (ml cM d.cR.cG) 0 false),(505013002,.slice 81 3 (ml dw d.cR.cr) 0 false),(505013004,.slice 141 2 (ml eU d.cR.dR) 0 false),(505013006,.win 154 12 (ml dS d.iZ)),(900000157,.cells 157 [i6 d.cz.Length,lf ak d.cz.List,lf aC d.dg.ah,lf aS d.dg.Links,lf aC d.ez.ah,lf aS d.ez.Links,lf bM d.cH.Links,lf aA d.cH.ah,.own 505013000,.own 505013002,.own 505013004,.own 505013006])] [.ptr 900000157 0,i6 aD,.agg (k11 c)] (λa σ'=>a=.tup []∧σ'=[(900000157,.cells 157 [i6 r.cz.Length,lf ak r.cz.List,lf aC r.dg.ah,lf aS r.dg.Links,lf aC r.ez.ah,lf aS r.ez.Links,lf bM r.cH.Links,lf aA r.cH.ah,.own 505013001,.own 505013003,.own 505013005,.own 505013007]),(505013001,.slice 78 11 (ml cM r.cR.cG) 0 false),(505013003,.slice 81 3 (ml dw r.cR.cr) 0 false),(505013005,.slice 141 2 (ml eU r.cR.dR) 0 false),(505013007,.win 154 12 (ml dS r.iZ))]):=by
 refine bf func130 rfl rfl ?_
 unfold gJ at hm
 refine qS [(0,.al 130005)] [(0,.ptr 900000157 0),(1,i6 aD),(5,.ptr 130005 0)] [(505013000,.slice 78 11 (ml cM d.cR.cG) 0 false),(505013002,.slice 81 3 (ml dw d.cR.cr) 0 false),(505013004,.slice 141 2 (ml eU d.cR.dR) 0 false),(505013006,.win 154 12 (ml dS d.iZ)),(900000157,.cells 157 [i6 d.cz.Length,lf ak d.cz.List,lf aC d.dg.ah,lf aS d.dg.Links,lf aC d.ez.ah,lf aS d.ez.Links,lf bM d.cH.Links,lf aA d.cH.ah,.own 505013000,.own 505013002,.own 505013004,.own 505013006]),(130005,.cells 54 (k11 c))]<|qDs [] [] [(6,.int .u64 c.Frame.ay.Bits)]<|A.seq ?_
 obtain⟨ai,h1,hm⟩:=af hm
 refine qDs [(7,hro (z6 h1) awN)] [] [(8,.bool ai.2)]<|qDs [] [8] [(25,.bool (!ai.2))] ?_
 rcases aq hm with⟨c1,hm⟩|⟨c1,hm⟩
 ·refine qT c1 ?_
  obtain⟨l_1,h2,hm⟩:=af hm
  refine qD [(10,hap 130536 (ap eU (bytes:=16) (by decide) h2))] [0,1,5,6,25] [] [505013004,900000157,130005] [(900000157,.cells 157 [i6 d.cz.Length,lf ak d.cz.List,lf aC d.dg.ah,lf aS d.dg.Links,lf aC d.ez.ah,lf aS d.ez.Links,lf bM d.cH.Links,lf aA d.cH.ah,.own 505013000,.own 505013002,.own 130536,.own 505013006]),(130536,.slice 141 2 (ml eU l_1) 0 false)]<|A.ret ?_
  obtain rfl:=some_inj hm
  exact A.fin W0 [.rn 505013000 505013001,.rn 505013002 505013003,.sw 130536 505013005,.rn 505013006 505013007] rfl (by kernel_rfl)
 refine qF c1<|A.skip ?_
 obtain⟨l_2,h3,hm⟩:=af hm
 refine qD [(12,hap 130552 (ap dw (bytes:=24) (by decide) h3))] [1,6,25] [] [505013002,900000157] [(900000157,.cells 157 [i6 d.cz.Length,lf ak d.cz.List,lf aC d.dg.ah,lf aS d.dg.Links,lf aC d.ez.ah,lf aS d.ez.Links,lf bM d.cH.Links,lf aA d.cH.ah,.own 505013000,.own 130552,.own 505013004,.own 505013006]),(130552,.slice 81 3 (ml dw l_2) 0 false)] ?_
 obtain⟨l_3,h4,hm⟩:=af hm
 refine qG [(11,hap 130567 (ap dS (bytes:=120) (by decide) h4))] [0,5] [] [505013006,900000157,130005] [(900000157,.cells 157 [i6 d.cz.Length,lf ak d.cz.List,lf aC d.dg.ah,lf aS d.dg.Links,lf aC d.ez.ah,lf aS d.ez.Links,lf bM d.cH.Links,lf aA d.cH.ah,.own 505013000,.own 130552,.own 505013004,.own 130567]),(130567,.win 154 12 (ml dS l_3))] ?_
 obtain rfl:=some_inj hm
 exact A.fin W0 [.rn 505013000 505013001,.sw 130552 505013003,.rn 505013004 505013005,.sw 130567 505013007] rfl (by kernel_rfl)
theorem wF{v:bg}{r:dh}(hm:ji d v=some r):dG prog 84 [(505008400,.slice 78 11 (ml cM d.cR.cG) 0 false),(505008402,.slice 81 3 (ml dw d.cR.cr) 0 false),(505008404,.slice 141 2 (ml eU d.cR.dR) 0 false),(505008406,.win 154 12 (ml dS d.iZ)),(900000157,.cells 157 [i6 d.cz.Length,lf ak d.cz.List,lf aC d.dg.ah,lf aS d.dg.Links,lf aC d.ez.ah,lf aS d.ez.Links,lf bM d.cH.Links,lf aA d.cH.ah,.own 505008400,.own 505008402,.own 505008404,.own 505008406])] [.ptr 900000157 0,.agg (k14 v)] (λa σ'=>a=.tup []∧σ'=[(900000157,.cells 157 [i6 r.cz.Length,lf ak r.cz.List,lf aC r.dg.ah,lf aS r.dg.Links,lf aC r.ez.ah,lf aS r.ez.Links,lf bM r.cH.Links,lf aA r.cH.ah,.own 505008401,.own 505008403,.own 505008405,.own 505008407]),(505008401,.slice 78 11 (ml cM r.cR.cG) 0 false),(505008403,.slice 81 3 (ml dw r.cR.cr) 0 false),(505008405,.slice 141 2 (ml eU r.cR.dR) 0 false),(505008407,.win 154 12 (ml dS r.iZ))]):=by
 refine bf func84 rfl rfl ?_
 unfold ji at hm
 refine qS [(0,.al 84003)] [(0,.ptr 900000157 0),(3,.ptr 84003 0)] [(505008400,.slice 78 11 (ml cM d.cR.cG) 0 false),(505008402,.slice 81 3 (ml dw d.cR.cr) 0 false),(505008404,.slice 141 2 (ml eU d.cR.dR) 0 false),(505008406,.win 154 12 (ml dS d.iZ)),(900000157,.cells 157 [i6 d.cz.Length,lf ak d.cz.List,lf aC d.dg.ah,lf aS d.dg.Links,lf aC d.ez.ah,lf aS d.ez.Links,lf bM d.cH.Links,lf aA d.cH.ah,.own 505008400,.own 505008402,.own 505008404,.own 505008406]),(84003,.cells 154 (k14 v))]<|A.seq<|qD [(2,.al 84004)] [] [(4,.ptr 84004 0)] [] [(84004,.cells 52 [lf aA v.dn.dZ,i6 v.dn.ay.Mode,i6 v.dn.ay.bQ,i6 v.dn.ay.Set,i6 v.dn.ay.Length,i6 v.dn.ay.TTL,i6 v.dn.ay.cI,i6 v.dn.ay.cK,i6 v.dn.ay.dU,.int .u64 v.dn.ay.Bits,.str v.dn.ay.cD])]<|qDs [(2,hto (lnE aA v.dn.dZ))] [] [(17,.bool (decide (0<(v.dn.dZ.length:Int))))] ?_
 rcases aq hm with⟨c1,hm⟩|⟨c1,hm⟩
 ·refine qT c1 ?_
  obtain⟨e_1,h1,hm⟩:=af hm
  obtain⟨l_1,h2,hm⟩:=af hm
  obtain⟨ai,h3,hm⟩:=af hm
  refine qS [(5,hix (ix aA h1)),(9,hsl (adb aA h2)),(14,hdc [520084001,520084002,520084003,520084004] (SC.at [(505013000,505008400),(505013002,505008402),(505013004,505008404),(505013006,505008406),(505013001,520084001),(505013003,520084002),(505013005,520084003),(505013007,520084004)] (rz h3)) amq)] [] [(900000157,.cells 157 [i6 ai.cz.Length,lf ak ai.cz.List,lf aC ai.dg.ah,lf aS ai.dg.Links,lf aC ai.ez.ah,lf aS ai.ez.Links,lf bM ai.cH.Links,lf aA ai.cH.ah,.own 520084001,.own 520084002,.own 520084003,.own 520084004]),(520084001,.slice 78 11 (ml cM ai.cR.cG) 0 false),(520084002,.slice 81 3 (ml dw ai.cR.cr) 0 false),(520084003,.slice 141 2 (ml eU ai.cR.dR) 0 false),(520084004,.win 154 12 (ml dS ai.iZ))]<|A.ret ?_
  obtain rfl:=some_inj hm
  exact A.fin W0 [.sw 520084001 505008401,.sw 520084002 505008403,.sw 520084003 505008405,.sw 520084004 505008407] rfl (by kernel_rfl)
 refine qF c1<|A.skip<|qD [(3,.al 84005)] [4,17] [(5,.ptr 84005 0)] [84004] [(84005,.cells 36 (k10 v.dn.ay))] ?_
 obtain⟨aK,h4,hm⟩:=af hm
 obtain⟨aV,h5,hm⟩:=af hm
 refine qD [(21,hro (aa2 h4) awP),(22,hro (ql h5) akG),(26,.al 84006)] [] [(6,.ptr 84006 0)] [] [(84006,.cells 46 (k12 aV.1))]<|A.seq<|qDs [(5,hto (lnE ak d.cz.List))] [] [(66,lf ak d.cz.List),(67,i6 (d.cz.List.length:Int)),(68,i6 0)]<|A.block<|A.bS 66 rfl λhb1=>?_
 obtain⟨B1,K1,hB1,hK1,hm⟩:=aW hm
 refine A.lpI (l:=d.cz.List) (j0:=0) (B:=B1) (K:=K1) hm (λj1=>λm_1=>[(0,.ptr 900000157 0),(3,.ptr 84003 0),(5,.ptr 84005 0),(6,.ptr 84006 0),(66,lf ak d.cz.List),(67,i6 (d.cz.List.length:Int)),(68,i6 (j1:Int))]) (λj1=>λm_1=>[(505008402,.slice 81 3 (ml dw d.cR.cr) 0 false),(505008404,.slice 141 2 (ml eU d.cR.dR) 0 false),(505008406,.win 154 12 (ml dS d.iZ)),(900000157,.cells 157 [i6 d.cz.Length,lf ak d.cz.List,lf aC d.dg.ah,lf aS d.dg.Links,lf aC d.ez.ah,lf aS d.ez.Links,lf bM d.cH.Links,lf aA d.cH.ah,.own 700015708,.own 505008402,.own 505008404,.own 505008406]),(84003,.cells 154 (k14 v)),(84005,.cells 36 (k10 v.dn.ay)),(84006,.cells 46 (k12 aV.1)),(700015708,.slice 78 11 (ml cM m_1) 0 false)]) ?_ ?_ ?_
 ·exact bt.go [.rn 505008400 700015708] [] (by kernel_rfl)
 ·rintro j1 e1 Z1 m_1 hj1 hx1 hm
  rw[hB1]at hm
  refine qDs [] [] [(69,.bool (decide ((j1:Int)<(d.cz.List.length:Int))))]<|A.seq<|qT (ltT hx1)<|A.skip ?_
  obtain⟨J1,hJ1,hm⟩:=bG hm
  refine A.J (J:=J1) (r:=r) (λm_2=>[(0,.ptr 900000157 0),(3,.ptr 84003 0),(5,.ptr 84005 0),(6,.ptr 84006 0),(66,lf ak d.cz.List),(67,i6 (d.cz.List.length:Int)),(68,i6 (j1:Int))]) (λm_2=>[(505008402,.slice 81 3 (ml dw d.cR.cr) 0 false),(505008404,.slice 141 2 (ml eU d.cR.dR) 0 false),(505008406,.win 154 12 (ml dS d.iZ)),(900000157,.cells 157 [i6 d.cz.Length,lf ak d.cz.List,lf aC d.dg.ah,lf aS d.dg.Links,lf aC d.ez.ah,lf aS d.ez.Links,lf bM d.cH.Links,lf aA d.cH.ah,.own 700015708,.own 505008402,.own 505008404,.own 505008406]),(84003,.cells 154 (k14 v)),(84005,.cells 36 (k10 v.dn.ay)),(84006,.cells 46 (k12 aV.1)),(700015708,.slice 78 11 (ml cM m_2) 0 false)]) ?_ ?_
  ·refine A.block<|qD [(0,hix (ix ak (aY hx1))),(2,.al 84009)] [69] [(9,.ptr 84009 0)] [] [(84009,.cells 38 (k5 e1))] ?_
   obtain⟨h6,hm⟩:=eB hm
   refine qDs [(4,.sh e1.Bit (of_decide_eq_true h6))] [] [(78,.bool (decide (aU .and .u64 (Int.fdiv aV.1.Local (2 ^ min e1.Bit.toNat 64)) (1:Int)=(1:Int))))] ?_
   rcases aq hm with⟨c2,hm⟩|⟨c2,hm⟩
   ·refine qT c2 ?_
    obtain⟨bq,h7,hm⟩:=af hm
    obtain⟨l_2,h8,hm⟩:=af hm
    exact qG [(11,hro (abJ h7) ck73),(14,hap 84593 (ap cM (bytes:=96) (by decide) h8))] [9,78] [] [900000157,700015708,84009] [(900000157,.cells 157 [i6 d.cz.Length,lf ak d.cz.List,lf aC d.dg.ah,lf aS d.dg.Links,lf aC d.ez.ah,lf aS d.ez.Links,lf bM d.cH.Links,lf aA d.cH.ah,.own 84593,.own 505008402,.own 505008404,.own 505008406]),(84593,.slice 78 11 (ml cM l_2) 0 false)]<|Exists.intro l_2 (And.intro hm (bt.go [.sw 84593 700015708] [] (by kernel_rfl)))
   exact qF c2<|A.skip<|qX m_1 hm
  rintro m_2 hm
  rw[hJ1]at hm
  exact qGs [(0,hto (inc hx1 hb1))] [68] [(68,i6 ((j1+1:Nat):Int))]<|qX m_2 hm
 rintro j1 m_1 hj1 hl1 hm
 rw[hK1]at hm
 refine qDs [] [] [(69,.bool (decide ((j1:Int)<(d.cz.List.length:Int))))]<|A.seq<|qF (ltF hl1)<|A.exit ?_
 obtain⟨J2,hJ2,hm⟩:=bG hm
 refine A.J (J:=J2) (r:=r) (λm_3=>[(0,.ptr 900000157 0),(3,.ptr 84003 0),(6,.ptr 84006 0)]) (λm_3=>[(505008402,.slice 81 3 (ml dw d.cR.cr) 0 false),(505008406,.win 154 12 (ml dS d.iZ)),(900000157,.cells 157 [i6 d.cz.Length,lf ak d.cz.List,lf aC d.dg.ah,lf aS d.dg.Links,lf aC d.ez.ah,lf aS d.ez.Links,lf bM d.cH.Links,lf aA d.cH.ah,.own 700015708,.own 505008402,.own 700015710,.own 505008406]),(84003,.cells 154 (k14 v)),(84006,.cells 46 (k12 aV.1)),(700015708,.slice 78 11 (ml cM m_1) 0 false),(700015710,.slice 141 2 (ml eU m_3) 0 false)]) ?_ ?_
 ·refine qD [] [5,66,67,68,69] [(100,.bool (!decide (aV.1.gw=0)))] [84005] [] ?_
  rcases aq hm with⟨c3,hm⟩|⟨c3,hm⟩
  ·refine qT c3 ?_
   obtain⟨l_3,h9,hm⟩:=af hm
   exact qG [(12,hap 84613 (ap eU (bytes:=16) (by decide) h9))] [100] [] [505008404,900000157] [(900000157,.cells 157 [i6 d.cz.Length,lf ak d.cz.List,lf aC d.dg.ah,lf aS d.dg.Links,lf aC d.ez.ah,lf aS d.ez.Links,lf bM d.cH.Links,lf aA d.cH.ah,.own 700015708,.own 505008402,.own 84613,.own 505008406]),(84613,.slice 141 2 (ml eU l_3) 0 false)]<|Exists.intro l_3 (And.intro hm (bt.go [.sw 84613 700015710] [] (by kernel_rfl)))
  exact qF c3<|A.skip<|Exists.intro d.cR.dR (And.intro hm (bt.go [.rn 505008404 700015710] [] (by kernel_rfl)))
 rintro m_3 hm
 rw[hJ2]at hm
 refine qD [(2,hto (lnE bP aV.1.bz))] [6] [(118,lf bP aV.1.bz),(119,i6 (aV.1.bz.length:Int)),(120,i6 0)] [84006] []<|A.block<|A.bS 118 rfl λhb2=>?_
 obtain⟨B2,K2,hB2,hK2,hm⟩:=aW hm
 refine A.lpI (l:=aV.1.bz) (j0:=0) (B:=B2) (K:=K2) hm (λj2=>λ(m_4,m_5,m_6,m_7,m_8,m_9,fI,gC,eM,dN,gD,iO)=>[(0,.ptr 900000157 0),(3,.ptr 84003 0),(118,lf bP aV.1.bz),(119,i6 (aV.1.bz.length:Int)),(120,i6 (j2:Int))]) (λj2=>λ(m_4,m_5,m_6,m_7,m_8,m_9,fI,gC,eM,dN,gD,iO)=>[(900000157,.cells 157 [i6 m_4,lf ak m_5,lf aC m_6,lf aS m_7,lf aC m_8,lf aS m_9,lf bM fI,lf aA gC,.own 700015708,.own 700015709,.own 700015710,.own 700015711]),(84003,.cells 154 (k14 v)),(700015708,.slice 78 11 (ml cM eM) 0 false),(700015710,.slice 141 2 (ml eU gD) 0 false),(700015709,.slice 81 3 (ml dw dN) 0 false),(700015711,.win 154 12 (ml dS iO))]) ?_ ?_ ?_
 ·exact bt.go [.rn 505008402 700015709,.rn 505008406 700015711] [] (by kernel_rfl)
 ·rintro j2 e2 Z2 ⟨m_4,m_5,m_6,m_7,m_8,m_9,fI,gC,eM,dN,gD,iO⟩ hj2 hx2 hm
  rw[hB2]at hm
  refine qDs [] [] [(121,.bool (decide ((j2:Int)<(aV.1.bz.length:Int))))]<|A.seq<|qT (ltT hx2)<|A.skip<|A.seq<|A.block<|qD [(0,hix (ix bP (aY hx2))),(2,.al 84011)] [121] [(11,.ptr 84011 0)] [] [(84011,.cells 54 (k11 e2))] ?_
  obtain⟨aT,h10,hm⟩:=af hm
  exact qG [(4,hdc [520084005,520084006,520084007,520084008] (SC.at [(505013000,700015708),(505013002,700015709),(505013004,700015710),(505013006,700015711),(505013001,520084005),(505013003,520084006),(505013005,520084007),(505013007,520084008)] (rz h10)) amq)] [11] [] [900000157,700015708,700015710,700015709,700015711,84011] [(900000157,.cells 157 [i6 aT.cz.Length,lf ak aT.cz.List,lf aC aT.dg.ah,lf aS aT.dg.Links,lf aC aT.ez.ah,lf aS aT.ez.Links,lf bM aT.cH.Links,lf aA aT.cH.ah,.own 520084005,.own 520084006,.own 520084007,.own 520084008]),(520084005,.slice 78 11 (ml cM aT.cR.cG) 0 false),(520084006,.slice 81 3 (ml dw aT.cR.cr) 0 false),(520084007,.slice 141 2 (ml eU aT.cR.dR) 0 false),(520084008,.win 154 12 (ml dS aT.iZ))]<|qGs [(0,hto (inc hx2 hb2))] [120] [(120,i6 ((j2+1:Nat):Int))]<|Exists.intro (aT.cz.Length,aT.cz.List,aT.dg.ah,aT.dg.Links,aT.ez.ah,aT.ez.Links,aT.cH.Links,aT.cH.ah,aT.cR.cG,aT.cR.cr,aT.cR.dR,aT.iZ) (And.intro hm (bt.go [.sw 520084005 700015708,.sw 520084006 700015709,.sw 520084007 700015710,.sw 520084008 700015711] [] (by kernel_rfl)))
 rintro j2 ⟨m_4,m_5,m_6,m_7,m_8,m_9,fI,gC,eM,dN,gD,iO⟩ hj2 hl2 hm
 rw[hK2]at hm
 refine qDs [] [] [(121,.bool (decide ((j2:Int)<(aV.1.bz.length:Int))))]<|A.seq<|qF (ltF hl2)<|A.exit ?_
 obtain rfl:=some_inj hm
 exact A.fin W0 [.sw 700015708 505008401,.sw 700015709 505008403,.sw 700015710 505008405,.sw 700015711 505008407] rfl (by kernel_rfl)
theorem ado{e:aF}{r:dy×Int}(hm:jo e t f p aD=some r):RO prog 45 [] [.agg (k7 e),.agg (k2 t),.agg (k4 f),.agg (k10 p),i6 aD] (.tup [.agg (k13 r.1),i6 r.2]):=by
 refine bf func45 rfl rfl ?_
 unfold jo at hm
 refine qS [(0,.al 45005),(1,.al 45006),(2,.al 45007),(3,.al 45008),(4,.al 45010)] [(4,i6 aD),(5,.ptr 45005 0),(6,.ptr 45006 0),(7,.ptr 45007 0),(8,.ptr 45008 0),(10,.ptr 45010 0)] [(45005,.cells 32 (k7 e)),(45006,.cells 28 (k2 t)),(45007,.cells 100 (k4 f)),(45008,.cells 36 (k10 p)),(45010,.cells 74 [.aM,.aM,.aM])]<|A.seq<|A.block ?_
 obtain⟨J1,hJ1,hm⟩:=bG hm
 refine A.J (J:=J1) (r:=r) (λv_1=>[(4,i6 aD),(5,.ptr 45005 0),(6,.ptr 45006 0),(7,.ptr 45007 0),(8,.ptr 45008 0),(10,.ptr 45010 0),(14,.bool v_1)]) (λv_1=>[(45005,.cells 32 (k7 e)),(45006,.cells 28 (k2 t)),(45007,.cells 100 (k4 f)),(45008,.cells 36 (k10 p)),(45010,.cells 74 [.aM,.aM,.aM])]) ?_ ?_
 ·obtain⟨ai,h1,hm⟩:=af hm
  rcases aq hm with⟨c1,hm⟩|⟨c1,hm⟩
  ·exact qGs [(1,hro (kM h1) adg),(3,hto (bE c1))] [] [(14,.bool true)]<|qX true hm
  obtain⟨aK,h2,hm⟩:=af hm
  rcases aq hm with⟨c2,hm⟩|⟨c2,hm⟩
  ·exact qGs [(1,hro (kM h1) adg),(3,hto (bE c1)),(5,hro (kf h2) aff),(8,hto (bE c2))] [] [(14,.bool true)]<|qX true hm
  obtain⟨aV,h3,hm⟩:=af hm
  exact qGs [(1,hro (kM h1) adg),(3,hto (bE c1)),(5,hro (kf h2) aff),(8,hto (bE c2)),(10,hro (jR h3) adj)] [] [(14,.bool (!aV))]<|qX (!aV) hm
 rintro v_1 hm
 rw[hJ1]at hm
 rcases aq hm with⟨c3,hm⟩|⟨c3,hm⟩
 ·refine qT c3<|qD [] [4,5,6,7,8,14] [(11,i6 1)] [45005,45006,45007,45008] [] ?_
  cases hm
  exact A.ret qE
 refine qF c3 ?_
 obtain⟨bq,h4,hm⟩:=af hm
 refine qDs [(2,hro (jO h4) adk)] [14] [(29,.bool (!bq))] ?_
 rcases aq hm with⟨c4,hm⟩|⟨c4,hm⟩
 ·refine qT c4<|qD [] [4,5,6,7,8,29] [(11,i6 4)] [45005,45006,45007,45008] [] ?_
  cases hm
  exact A.ret qE
 refine qF c4<|qDs [] [29] [(35,.bool (!decide (p.Mode=2)))] ?_
 rcases aq hm with⟨c5,hm⟩|⟨c5,hm⟩
 ·refine qT c5<|qD [] [4,5,6,7,8,35] [(11,i6 7)] [45005,45006,45007,45008] [] ?_
  cases hm
  exact A.ret qE
 refine qF c5<|qDs [] [35] [(40,.bool (!decide (p.Length=e.Length)))] ?_
 rcases aq hm with⟨c6,hm⟩|⟨c6,hm⟩
 ·refine qT c6<|qD [] [4,5,6,7,8,40] [(11,i6 8)] [45005,45006,45007,45008] [] ?_
  cases hm
  exact A.ret qE
 refine qF c6 ?_
 obtain⟨aT,h5,hm⟩:=af hm
 refine qDs [(3,hro (bX h5) qK)] [40] [(47,.bool aT)] ?_
 rcases aq hm with⟨c7,hm⟩|⟨c7,hm⟩
 ·refine qT c7<|qS [(4,.al 45056)] [(10,.ptr 45010 0),(11,i6 0)] [(45010,.cells 74 [.aM,.aM,.own 45056]),(45056,.slice 141 2 (ml eU ([(cC.mk aD p.Bits)]:List cC)) 0 false)]<|A.ret ?_
  obtain rfl:=some_inj hm
  exact A.fin W0 [.fz [45056]] rfl (by kernel_rfl)
 refine qF c7<|A.skip ?_
 obtain⟨cu,h6,hm⟩:=af hm
 refine qD [(4,hro (oB h6) akL),(10,.al 45068),(12,.al 45012)] [4,5,6,7,8,47] [(12,.ptr 45012 0)] [45005,45006,45007,45008] [(45068,.slice 154 12 (ml dS ([(bg.mk aD (dP.mk [] p))]:List bg)) 0 false),(45012,.cells 157 [i6 e.Length,lf ak e.List,lf aC t.ah,lf aS t.Links,lf aC cu.ah,lf aS cu.Links,lf bM f.Links,lf aA f.ah,.aM,.aM,.aM,.own 45068])]<|A.seq<|A.block ?_
 obtain⟨F1,n1,hF1,hm⟩:=iR hm
 refine A.lpW (F:=F1) hm (λ(m_1,m_2,m_3,m_4,m_5,m_6,m_7,m_8,m_9,fI,gC,eM)=>[(10,.ptr 45010 0),(12,.ptr 45012 0)]) (λ(m_1,m_2,m_3,m_4,m_5,m_6,m_7,m_8,m_9,fI,gC,eM)=>[(45010,.cells 74 [.aM,.aM,.aM]),(45012,.cells 157 [i6 m_1,lf ak m_2,lf aC m_3,lf aS m_4,lf aC m_5,lf aS m_6,lf bM m_7,lf aA m_8,.own 704501208,.own 704501209,.own 704501210,.own 704501211]),(704501208,.slice 78 11 (ml cM m_9) 0 false),(704501209,.slice 81 3 (ml dw fI) 0 false),(704501210,.slice 141 2 (ml eU gC) 0 false),(704501211,.win 154 12 (ml dS eM))]) ?_ ?_
 ·exact bt.go [.wi 45068,.sw 45068 704501211,.ac 45012 704501208 78 11 8,.ac 45012 704501209 81 3 9,.ac 45012 704501210 141 2 10] [] (by kernel_rfl)
 rintro Z1 ⟨m_1,m_2,m_3,m_4,m_5,m_6,m_7,m_8,m_9,fI,gC,eM⟩ hm
 rw[hF1]at hm
 refine A.seq<|qDs [(2,hto (lnE dS eM))] [] [(73,.bool (decide (0<(eM.length:Int))))] ?_
 rcases aq hm with⟨c8,hm⟩|⟨c8,hm⟩
 ·refine qT c8<|A.skip<|A.block ?_
  obtain⟨e_1,h7,hm⟩:=af hm
  refine qD [(2,hix (ix dS h7)),(4,.al 45013)] [73] [(13,.ptr 45013 0)] [] [(45013,.cells 154 (k14 e_1))] ?_
  obtain⟨l_1,h8,hm⟩:=af hm
  refine qD [(2,hws 45580 (adb dS h8))] [] [] [45012,704501211] [(45012,.cells 157 [i6 m_1,lf ak m_2,lf aC m_3,lf aS m_4,lf aC m_5,lf aS m_6,lf bM m_7,lf aA m_8,.own 704501208,.own 704501209,.own 704501210,.own 45580]),(45580,.win 154 12 (ml dS l_1))] ?_
  obtain⟨bA,h9,hm⟩:=af hm
  refine qD [(1,hdc [520045001,520045002,520045003,520045004] (SC.at [(505008400,704501208),(505008402,704501209),(505008404,704501210),(505008406,45580),(900000157,45012),(505008401,520045001),(505008403,520045002),(505008405,520045003),(505008407,520045004)] (wF h9)) ck84)] [13] [] [45012,704501208,704501209,704501210,45013,45580] [(45012,.cells 157 [i6 bA.cz.Length,lf ak bA.cz.List,lf aC bA.dg.ah,lf aS bA.dg.Links,lf aC bA.ez.ah,lf aS bA.ez.Links,lf bM bA.cH.Links,lf aA bA.cH.ah,.own 520045001,.own 520045002,.own 520045003,.own 520045004]),(520045001,.slice 78 11 (ml cM bA.cR.cG) 0 false),(520045002,.slice 81 3 (ml dw bA.cR.cr) 0 false),(520045003,.slice 141 2 (ml eU bA.cR.dR) 0 false),(520045004,.win 154 12 (ml dS bA.iZ))]<|qDs [(3,hto (lnE dw bA.cR.cr))] [] [(88,.bool (decide (2000<(bA.cR.cr.length:Int))))] ?_
  rcases aq hm with⟨c9,hm⟩|⟨c9,hm⟩
  ·refine qT c9<|qS [] [(10,.ptr 45010 0),(11,i6 11)] [(45010,.cells 74 [.aM,.aM,.aM])] ?_
   cases hm
   exact A.ret qE
  exact qF c9<|A.skip<|Exists.intro (bA.cz.Length,bA.cz.List,bA.dg.ah,bA.dg.Links,bA.ez.ah,bA.ez.Links,bA.cH.Links,bA.cH.ah,bA.cR.cG,bA.cR.cr,bA.cR.dR,bA.iZ) (And.intro hm (bt.go [.sw 520045001 704501208,.sw 520045002 704501209,.sw 520045003 704501210,.sw 520045004 704501211] [] (by kernel_rfl)))
 refine qF c8<|A.exit<|qD [] [12,73] [(11,i6 0)] [45010,45012,704501211] [(45010,.cells 74 [.own 704501208,.own 704501209,.own 704501210])]<|A.ret ?_
 obtain rfl:=some_inj hm
 exact A.fin W0 [.fz [704501208,704501209,704501210]] rfl (by kernel_rfl)
end Go.Proofs.YtdjeacigeegklaaGreat
