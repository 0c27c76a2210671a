/- The iJ of ee of the program. No condition but bJ aY stand in each. -/
import Derived.Test.YtdjeacigeegklaaGreatVK
namespace Go.Proofs.YtdjeacigeegklaaGreat
open Go Go.Proofs.Tryz
set_option maxRecDepth 100000
set_option linter.all false
variable {r:(List Int)}
theorem tP{sa0:List Int}(aqD:ml aA sa0≠[])(hm:gQ sa0=some r):dA prog 140 [] [lf aA sa0] (λa σ'=>a=.own 500014000∧σ'=[(500014000,.slice 3 1 (ml aA r) 0 false)]):=by
 refine bh func140 rfl rfl ?_
 unfold gQ at hm
 refine qS [] [(0,lf aA sa0)] []<|A.seq<|qDs [(1,.sn false (lf aA sa0) (alo aqD))] [] [(4,.bool false)]<|A.cF rfl rfl<|A.skip ?_
 obtain⟨l_1,h1,hm⟩:=af hm
 refine qS [(0,.al 140005),(2,hap 140507 (ap aA (bytes:=8) (by decide) h1))] [(2,.own 140507)] [(140507,.slice 3 1 (ml aA l_1) 0 false)]<|A.ret ?_
 obtain rfl:=some_inj hm
 exact A.fin W0 [.sw 140507 500014000] rfl (by kernel_rfl)
theorem tQ(hm:pI=some r):dA prog 140 [] [.sl0] (λa σ'=>a=.own 500014000∧σ'=[(500014000,.slice 3 1 (ml aA r) 0 false)]):=by
 refine bh func140 rfl rfl ?_
 unfold pI at hm
 refine qS [] [(0,.sl0)] []<|A.seq<|qDs [(1,.sn false .sl0 (alp))] [] [(4,.bool false)]<|A.cF rfl rfl<|A.skip ?_
 obtain⟨l_1,h1,hm⟩:=af hm
 refine qS [(0,.al 140005),(2,hap 140507 (ap aA (bytes:=8) (by decide) h1))] [(2,.own 140507)] [(140507,.slice 3 1 (ml aA l_1) 0 false)]<|A.ret ?_
 obtain rfl:=some_inj hm
 exact A.fin W0 [.sw 140507 500014000] rfl (by kernel_rfl)
theorem uZ(n c:Nat)(w:World):Calls prog 140 #[.slice none n c] w λe w'=>e=.returned (.slice none 0 0)∧w'=w:=by
 have q:∀(w:World) (a:Option Addr) (n c n' c':Nat),(binOp .eql 22 (.slice a n c) (.slice none n' c')).run prog w=.ok (.bool a.isNone) w:=λw a n c n' c'=>Lib.run_eql_slice_nil w _ _ a n c n' c' underlying22
 go_enter func140,Tryz.ntmps140
 go_wp2
 go_ret
 exact⟨rfl,rfl⟩
theorem uF{s r:List Int}(hm:ki s=some r):dA prog 140 [] [.lst false (ml aA s)] (λa σ'=>a=.own 500014000∧σ'=[(500014000,.slice 3 1 (ml aA r) 0 false)]):=by
 obtain rfl:s=r:=by
  unfold ki gQ at hm
  obtain⟨l,h,hm⟩:=af hm
  have:=(aqt h).symm
  simp at this;subst this
  exact some_inj hm
 refine ajs uZ (λh=>tP h hm) (λh=>?_) (λh=>h)
 have h0:s=[]:=by cases s with|nil=>rfl|cons a b=>simp[ml]at h
 subst h0
 exact tQ hm
variable {f:bg}
theorem aan{a:Int}{b:Int}{r:Bool}(hm:pJ f a b=some r):RO prog 156 [] [.agg (k4 f),i6 a,i6 b] (.bool r):=by
 refine bh func156 rfl rfl ?_
 unfold pJ at hm
 refine qS [(0,.al 156003)] [(1,i6 a),(2,i6 b),(3,.ptr 156003 0)] [(156003,.cells 100 (k4 f))] ?_
 obtain⟨ai,h1,hm⟩:=af hm
 rcases ak hm with⟨c1,hm⟩|⟨c1,hm⟩
 ·refine qS [(5,hro (ec h1) aa4),(6,hto (bE c1))] [(6,.bool true)] [] ?_
  cases hm
  exact A.ret qE
 obtain⟨aI,h2,hm⟩:=af hm
 refine qS [(5,hro (ec h1) aa4),(6,hto (bE c1)),(12,hro (ec h2) aa4)] [(6,.bool aI)] [] ?_
 cases hm
 exact A.ret qE
variable {aS:Int}{t:aa}
theorem abr(hm:oB t f aS=some r):RO prog 131 [] [.agg (k2 t),.agg (k4 f),i6 aS] (lf aA r):=by
 refine bh func131 rfl rfl ?_
 unfold oB at hm
 refine qS [(0,.al 131003),(1,.al 131004)] [(2,i6 aS),(3,.ptr 131003 0),(4,.ptr 131004 0)] [(131003,.cells 28 (k2 t)),(131004,.cells 100 (k4 f))]<|qDs [] [] [(7,.aQ)]<|A.seq ?_
 obtain⟨ai,h1,hm⟩:=af hm
 refine qD [(2,hro (vW h1) axM),(3,hto (lnE aA ai))] [3] [(12,lf aA ai),(13,i6 (ai.length:Int)),(14,i6 0)] [131003] []<|A.block<|A.bS 12 rfl λhb1=>?_
 obtain⟨B1,K1,hB1,hK1,hm⟩:=bu hm
 refine A.lpI (l:=ai) (j0:=0) (B:=B1) (K:=K1) hm (λj1=>λbp=>[(2,i6 aS),(4,.ptr 131004 0),(7,.own 600131007),(12,lf aA ai),(13,i6 (ai.length:Int)),(14,i6 (j1:Int))]) (λj1=>λbp=>[(131004,.cells 100 (k4 f)),(600131007,.slice 3 1 (ml aA bp) 0 false)]) ?_ ?_ ?_
 ·exact bx.go [.ad 7 600131007 3 1] [] (by kernel_rfl)
 ·rintro j1 e1 Z1 bp hj1 hx1 hm
  rw[hB1]at hm
  refine qDs [] [] [(15,.bool (decide ((j1:Int)<(ai.length:Int))))]<|A.seq<|qT (ltT hx1)<|A.skip ?_
  obtain⟨J1,hJ1,hm⟩:=cw hm
  refine A.J (J:=J1) (r:=r) (λcZ=>[(2,i6 aS),(4,.ptr 131004 0),(7,.own 600131007),(12,lf aA ai),(13,i6 (ai.length:Int)),(14,i6 (j1:Int))]) (λcZ=>[(131004,.cells 100 (k4 f)),(600131007,.slice 3 1 (ml aA cZ) 0 false)]) ?_ ?_
  ·refine A.block<|qDs [(0,hix (ix aA (bt hx1)))] [15] [(9,i6 e1)] ?_
   obtain⟨J2,hJ2,hm⟩:=cw hm
   refine A.J (J:=J2) (r:=r) (λv_1=>[(2,i6 aS),(4,.ptr 131004 0),(7,.own 600131007),(9,i6 e1),(12,lf aA ai),(13,i6 (ai.length:Int)),(14,i6 (j1:Int)),(27,.bool v_1)]) (λv_1=>[(131004,.cells 100 (k4 f)),(600131007,.slice 3 1 (ml aA bp) 0 false)]) ?_ ?_
   ·obtain⟨aI,h2,hm⟩:=af hm
    rcases ak hm with⟨c1,hm⟩|⟨c1,hm⟩
    ·exact qGs [(3,hro (bR h2) qz),(4,hto (bE c1))] [] [(27,.bool true)]<|qX true hm
    obtain⟨bf,h3,hm⟩:=af hm
    exact qGs [(3,hro (bR h2) qz),(4,hto (bE c1)),(8,hro (aan h3) axN)] [] [(27,.bool bf)]<|qX bf hm
   rintro v_1 hm
   rw[hJ2]at hm
   rcases ak hm with⟨c2,hm⟩|⟨c2,hm⟩
   ·refine qT c2 ?_
    obtain⟨l_1,h4,hm⟩:=af hm
    exact qG [(3,hap 131531 (ap aA (bytes:=8) (by decide) h4))] [7,9,27] [(7,.own 131531)] [600131007] [(131531,.slice 3 1 (ml aA l_1) 0 false)]<|Exists.intro l_1 (And.intro hm (bx.go [.sw 131531 600131007] [] (by kernel_rfl)))
   exact qF c2<|A.skip<|qX bp hm
  rintro cZ hm
  rw[hJ1]at hm
  exact qGs [(0,hto (inc hx1 hb1))] [14] [(14,i6 ((j1+1:Nat):Int))]<|qX cZ hm
 rintro j1 bp hj1 hl1 hm
 rw[hK1]at hm
 refine qDs [] [] [(15,.bool (decide ((j1:Int)<(ai.length:Int))))]<|A.seq<|qF (ltF hl1)<|A.exit<|qD [] [2,4,7,12,13,14,15] [(6,.own 600131007)] [131004] []<|A.ret ?_
 obtain rfl:=some_inj hm
 exact A.fin W0 [.fz [600131007]] rfl (by kernel_rfl)
theorem aao{a:aq}{r:Bool}(hm:pK a=some r):RO prog 80 [] [.agg (k5 a)] (.bool r):=by
 refine bh func80 rfl rfl ?_
 unfold pK at hm
 refine qS [(0,.al 80001)] [(1,.ptr 80001 0)] [(80001,.cells 38 (k5 a))]<|qS [] [(2,.bool (decide (a.Kind=2)))] [] ?_
 cases hm
 exact A.ret qE
theorem mP{e:aC}{r:Bool}(hm:nt e=some r):RO prog 41 [] [.agg (k7 e)] (.bool r):=by
 refine bh func41 rfl rfl ?_
 unfold nt at hm
 refine qS [(0,.al 41001)] [(1,.ptr 41001 0)] [(41001,.cells 32 (k7 e))] ?_
 obtain⟨ai,h1,hm⟩:=af hm
 rcases ak hm with⟨c1,hm⟩|⟨c1,hm⟩
 ·obtain⟨aI,h2,hm⟩:=af hm
  refine qS [(1,hro (iB h1) af8),(3,hto (bE c1)),(6,hro (lJ (f_g:=80) (f_c:=[]) (f_k:=ck80) (f_f:=λ_ _ h=>aao h) h2) ck79)] [(2,.bool (!aI))] [] ?_
  cases hm
  exact A.ret qE
 refine qS [(1,hro (iB h1) af8),(3,hto (bE c1))] [(2,.bool false)] [] ?_
 cases hm
 exact A.ret qE
variable {c:aZ}
theorem v7{iL:List Int}{bits:Int}{r:aZ}(hm:jT c iL bits=some r):RO prog 107 [] [.agg (k11 c),lf aA iL,.int .u64 bits] (.agg (k11 r)):=by
 refine bh func107 rfl rfl ?_
 unfold jT at hm
 refine qS [(0,.al 107003),(1,.al 107006)] [(1,lf aA iL),(2,.int .u64 bits),(3,.ptr 107003 0),(6,.ptr 107006 0)] [(107003,.cells 54 (k11 c)),(107006,.cells 54 [i6 0,.aQ,i6 0,i6 0,i6 0,i6 0,i6 0,i6 0,i6 0,i6 0,.int .u64 (0:Int),.str (⟨#[]⟩:ByteArray)])] ?_
 obtain⟨e_1,h1,hm⟩:=af hm
 refine qD [(1,hix (ix aA h1))] [] [] [107003] [(107003,.cells 54 [i6 e_1,lf aA c.Frame.fU,i6 c.Frame.aB.Mode,i6 c.Frame.aB.cC,i6 c.Frame.aB.Set,i6 c.Frame.aB.Length,i6 c.Frame.aB.TTL,i6 c.Frame.aB.dG,i6 c.Frame.aB.dH,i6 c.Frame.aB.eO,.int .u64 c.Frame.aB.Bits,.str c.Frame.aB.cM])] ?_
 obtain⟨l_1,h2,hm⟩:=af hm
 obtain⟨ai,h3,hm⟩:=af hm
 refine qD [(1,hsl (adN aA h2)),(2,hdc [500014000] (uF h3) axF)] [1] [] [107003] [(107003,.cells 54 [i6 e_1,.own 500014000,i6 c.Frame.aB.Mode,i6 c.Frame.aB.cC,i6 c.Frame.aB.Set,i6 c.Frame.aB.Length,i6 c.Frame.aB.TTL,i6 c.Frame.aB.dG,i6 c.Frame.aB.dH,i6 c.Frame.aB.eO,.int .u64 c.Frame.aB.Bits,.str c.Frame.aB.cM]),(500014000,.slice 3 1 (ml aA ai) 0 false)]<|qD [] [2] [] [107003] [(107003,.cells 54 [i6 e_1,.own 500014000,i6 c.Frame.aB.Mode,i6 c.Frame.aB.cC,i6 c.Frame.aB.Set,i6 c.Frame.aB.Length,i6 c.Frame.aB.TTL,i6 c.Frame.aB.dG,i6 c.Frame.aB.dH,i6 c.Frame.aB.eO,.int .u64 bits,.str c.Frame.aB.cM])]<|qD [] [3] [] [107003,107006] [(107006,.cells 54 [i6 e_1,.own 500014000,i6 c.Frame.aB.Mode,i6 c.Frame.aB.cC,i6 c.Frame.aB.Set,i6 c.Frame.aB.Length,i6 c.Frame.aB.TTL,i6 c.Frame.aB.dG,i6 c.Frame.aB.dH,i6 c.Frame.aB.eO,.int .u64 bits,.str c.Frame.aB.cM])]<|A.ret ?_
 obtain rfl:=some_inj hm
 exact A.fin W0 [.fz [500014000]] rfl (by kernel_rfl)
theorem abt{e:aC}{r:(List aZ)×Int}(hm:oC e t aS c=some r):RO prog 60 [] [.agg (k7 e),.agg (k2 t),i6 aS,.agg (k11 c)] (.tup [lf dQ r.1,.int .u64 r.2]):=by
 refine bh func60 rfl rfl ?_
 unfold oC at hm
 refine qS [(0,.al 60004),(1,.al 60005),(2,.al 60007)] [(2,i6 aS),(4,.ptr 60004 0),(5,.ptr 60005 0),(7,.ptr 60007 0),(8,.aQ)] [(60004,.cells 32 (k7 e)),(60005,.cells 28 (k2 t)),(60007,.cells 54 (k11 c))]<|qDs [] [] [(10,.int .u64 c.Frame.aB.Bits),(11,i6 c.To)] ?_
 obtain⟨ai,h1,hm⟩:=af hm
 refine qDs [(3,hro (uv h1) anr)] [] [(12,.int .u64 (br .andNot .u64 c.Frame.aB.Bits ai))] ?_
 obtain⟨aI,h2,hm⟩:=af hm
 refine qD [(4,hro (ou h2) alM),(5,.al 60013)] [] [(13,.ptr 60013 0)] [] [(60013,.cells 28 (k2 aI))]<|qDs [] [] [(14,.int .u64 (0:Int)),(15,.int .u64 (0:Int))]<|A.seq<|qD [(2,hto (lnE aF e.List))] [4] [(38,lf aF e.List),(39,i6 (e.List.length:Int)),(40,i6 0)] [60004] []<|A.block<|A.bS 38 rfl λhb1=>?_
 obtain⟨B1,K1,hB1,hK1,hm⟩:=bu hm
 refine A.lpI (l:=e.List) (j0:=0) (B:=B1) (K:=K1) hm (λj1=>λ(bp,eY,eP)=>[(2,i6 aS),(5,.ptr 60005 0),(7,.ptr 60007 0),(8,.own 600060008),(10,.int .u64 c.Frame.aB.Bits),(11,i6 c.To),(12,.int .u64 (br .andNot .u64 c.Frame.aB.Bits ai)),(13,.ptr 60013 0),(14,.int .u64 eY),(15,.int .u64 eP),(38,lf aF e.List),(39,i6 (e.List.length:Int)),(40,i6 (j1:Int))]) (λj1=>λ(bp,eY,eP)=>[(60005,.cells 28 (k2 t)),(60007,.cells 54 (k11 c)),(60013,.cells 28 (k2 aI)),(600060008,.slice 54 12 (ml dQ bp) 0 false)]) ?_ ?_ ?_
 ·exact bx.go [.ad 8 600060008 54 12] [] (by kernel_rfl)
 ·rintro j1 e1 Z1 ⟨bp,eY,eP⟩ hj1 hx1 hm
  rw[hB1]at hm
  refine qDs [] [] [(41,.bool (decide ((j1:Int)<(e.List.length:Int))))]<|A.seq<|qT (ltT hx1)<|A.skip ?_
  obtain⟨J1,hJ1,hm⟩:=cw hm
  refine A.J (J:=J1) (r:=r) (λ(cZ,w9,rW)=>[(2,i6 aS),(5,.ptr 60005 0),(7,.ptr 60007 0),(8,.own 600060008),(10,.int .u64 c.Frame.aB.Bits),(11,i6 c.To),(12,.int .u64 (br .andNot .u64 c.Frame.aB.Bits ai)),(13,.ptr 60013 0),(14,.int .u64 w9),(15,.int .u64 rW),(38,lf aF e.List),(39,i6 (e.List.length:Int)),(40,i6 (j1:Int))]) (λ(cZ,w9,rW)=>[(60005,.cells 28 (k2 t)),(60007,.cells 54 (k11 c)),(60013,.cells 28 (k2 aI)),(600060008,.slice 54 12 (ml dQ cZ) 0 false)]) ?_ ?_
  ·refine A.block<|qD [(0,hix (ix aF (bt hx1))),(2,.al 60017)] [41] [(17,.ptr 60017 0)] [] [(60017,.cells 38 (k5 e1))] ?_
   obtain⟨h3,hm⟩:=fI hm
   refine qDs [(2,.sh e1.Bit (of_decide_eq_true h3))] [] [(18,.int .u64 (IntKind.wrap .u64 ((1:Int)*2 ^ min e1.Bit.toNat 64)))]<|A.seq<|A.mid [(2,i6 aS),(5,.ptr 60005 0),(7,.ptr 60007 0),(8,.own 600060008),(10,.int .u64 c.Frame.aB.Bits),(11,i6 c.To),(12,.int .u64 (br .andNot .u64 c.Frame.aB.Bits ai)),(13,.ptr 60013 0),(14,.int .u64 eY),(15,.int .u64 eP),(38,lf aF e.List),(39,i6 (e.List.length:Int)),(40,i6 (j1:Int)),(17,.ptr 60017 0),(18,.int .u64 (IntKind.wrap .u64 ((1:Int)*2 ^ min e1.Bit.toNat 64))),(56,.bool ((!decide (e1.aO=c.To))||(decide (br .and .u64 c.Frame.aB.Bits (IntKind.wrap .u64 ((1:Int)*2 ^ min e1.Bit.toNat 64))=(0:Int)))))] [(60005,.cells 28 (k2 t)),(60007,.cells 54 (k11 c)),(60013,.cells 28 (k2 aI)),(600060008,.slice 54 12 (ml dQ bp) 0 false),(60017,.cells 38 (k5 e1))] (λhk=>?_) ?_
   ·rcases tf (!decide (e1.aO=c.To))with c1|c1
    ·exact qS [(4,hto (bE c1)),(9,hto (orT (q:=decide (br .and .u64 c.Frame.aB.Bits (IntKind.wrap .u64 ((1:Int)*2 ^ min e1.Bit.toNat 64))=(0:Int))) c1))] _ _ hk
    exact qS [(4,hto (bE c1)),(9,hto (orF (q:=decide (br .and .u64 c.Frame.aB.Bits (IntKind.wrap .u64 ((1:Int)*2 ^ min e1.Bit.toNat 64))=(0:Int))) c1))] _ _ hk
   rcases ak hm with⟨c2,hm⟩|⟨c2,hm⟩
   ·exact qT c2<|A.exit<|qX (bp,eY,eP) hm
   refine qF c2<|A.skip<|A.block<|qDs [] [56] [(57,.bool (decide (e1.Kind=3)))] ?_
   rcases ak hm with⟨c3,hm⟩|⟨c3,hm⟩
   ·exact qT c3<|qG [] [14,17,18,57] [(14,.int .u64 (br .or .u64 eY (IntKind.wrap .u64 ((1:Int)*2 ^ min e1.Bit.toNat 64))))] [60017] []<|qX (bp,br .or .u64 eY (IntKind.wrap .u64 ((1:Int)*2 ^ min e1.Bit.toNat 64)),eP) hm
   refine qF c3<|qDs [] [57] [(64,.bool (decide (e1.To=aS)))] ?_
   rcases ak hm with⟨c4,hm⟩|⟨c4,hm⟩
   ·exact qT c4<|A.skip<|qX (bp,eY,eP) hm
   refine qF c4 ?_
   obtain⟨bf,h4,hm⟩:=af hm
   refine qDs [(4,hro (wJ h4) axt)] [64] [(69,.bool (!bf))] ?_
   rcases ak hm with⟨c5,hm⟩|⟨c5,hm⟩
   ·exact qT c5<|qG [] [14,15,17,18,69] [(14,.int .u64 (br .or .u64 eY (IntKind.wrap .u64 ((1:Int)*2 ^ min e1.Bit.toNat 64)))),(15,.int .u64 (br .or .u64 eP (IntKind.wrap .u64 ((1:Int)*2 ^ min e1.Bit.toNat 64))))] [60017] []<|qX (bp,br .or .u64 eY (IntKind.wrap .u64 ((1:Int)*2 ^ min e1.Bit.toNat 64)),br .or .u64 eP (IntKind.wrap .u64 ((1:Int)*2 ^ min e1.Bit.toNat 64))) hm
   refine qF c5<|qDs [] [18,69] [(82,.bool (!decide (br .andNot .u64 c.Frame.aB.Bits ai=0)))] ?_
   rcases ak hm with⟨c6,hm⟩|⟨c6,hm⟩
   ·refine qT c6 ?_
    obtain⟨bB,h5,hm⟩:=af hm
    obtain⟨bD,h6,hm⟩:=af hm
    obtain⟨l_1,h7,hm⟩:=af hm
    exact qG [(6,hro (tw h5) ant),(8,hro (v7 h6) ans),(10,hap 60595 (ap dQ (bytes:=120) (by decide) h7))] [8,17,82] [(8,.own 60595)] [600060008,60017] [(60595,.slice 54 12 (ml dQ l_1) 0 false)]<|Exists.intro (l_1,eY,eP) (And.intro hm (bx.go [.sw 60595 600060008] [] (by kernel_rfl)))
   exact qF c6<|A.skip<|qX (bp,eY,eP) hm
  rintro⟨cZ,w9,rW⟩ hm
  rw[hJ1]at hm
  exact qGs [(0,hto (inc hx1 hb1))] [40] [(40,i6 ((j1+1:Nat):Int))]<|qX (cZ,w9,rW) hm
 rintro j1 ⟨bp,eY,eP⟩ hj1 hl1 hm
 rw[hK1]at hm
 refine qDs [] [] [(41,.bool (decide ((j1:Int)<(e.List.length:Int))))]<|A.seq<|qF (ltF hl1)<|A.exit<|A.seq<|qD [] [10,13,38,39,40,41] [(98,.bool (decide (eY=0)))] [60013] [] ?_
 rcases ak hm with⟨c7,hm⟩|⟨c7,hm⟩
 ·refine qT c7<|qD [] [2,5,7,11,12,14,15,98] [(9,.int .u64 (0:Int))] [60005,60007] []<|A.ret ?_
  obtain rfl:=some_inj hm
  exact A.fin W0 [.fz [600060008]] rfl (by kernel_rfl)
 refine qF c7<|A.skip ?_
 obtain⟨cW,h8,hm⟩:=af hm
 refine qD [(6,hro (ou h8) alM),(7,.al 60019)] [5,98] [(19,.ptr 60019 0)] [60005] [(60019,.cells 28 (k2 cW))] ?_
 obtain⟨bH,h9,hm⟩:=af hm
 refine qD [(3,hro (tw h9) ant)] [2,11,19] [(20,lf aA bH)] [60019] []<|A.seq<|qDs [(1,hto (lnE aA bH))] [] [(113,.bool (decide ((bH.length:Int)=(0:Int))))] ?_
 rcases ak hm with⟨c8,hm⟩|⟨c8,hm⟩
 ·refine qT c8<|qD [] [7,12,14,15,20,113] [(9,.int .u64 eY)] [60007] []<|A.ret ?_
  obtain rfl:=some_inj hm
  exact A.fin W0 [.fz [600060008]] rfl (by kernel_rfl)
 refine qF c8<|A.skip ?_
 obtain⟨J2,hJ2,hm⟩:=cw hm
 refine A.J (J:=J2) (r:=r) (λac8=>[(7,.ptr 60007 0),(8,.own 600060008),(14,.int .u64 ac8),(20,lf aA bH)]) (λac8=>[(60007,.cells 54 (k11 c)),(600060008,.slice 54 12 (ml dQ bp) 0 false)]) ?_ ?_
 ·refine qDs [] [15,113] [(117,.bool (!decide (eP=0)))] ?_
  rcases ak hm with⟨c9,hm⟩|⟨c9,hm⟩
  ·exact qT c9<|qGs [] [12,14,117] [(14,.int .u64 (br .or .u64 eY (br .andNot .u64 c.Frame.aB.Bits ai)))]<|qX (br .or .u64 eY (br .andNot .u64 c.Frame.aB.Bits ai)) hm
  exact qF c9<|A.skip<|qX eY hm
 rintro ac8 hm
 rw[hJ2]at hm
 obtain⟨jY,h10,hm⟩:=af hm
 obtain⟨l_2,h11,hm⟩:=af hm
 refine qS [(4,hro (v7 h10) ans),(6,hap 60627 (ap dQ (bytes:=120) (by decide) h11))] [(8,.own 60627),(9,.int .u64 (0:Int))] [(60627,.slice 54 12 (ml dQ l_2) 0 false)]<|A.ret ?_
 obtain rfl:=some_inj hm
 exact A.fin W0 [.fz [60627]] rfl (by kernel_rfl)
variable {p:aH}
theorem uw{e:aC}{down:List Int}{r:cE×Int}(hm:lQ e t aS p down=some r):RO prog 15 [] [.agg (k7 e),.agg (k2 t),i6 aS,.agg (k10 p),lf aA down] (.tup [.agg (k12 r.1),i6 r.2]):=by
 refine bh func15 rfl rfl ?_
 unfold lQ at hm
 refine qS [(0,.al 15005),(1,.al 15006),(2,.al 15008),(3,.al 15010)] [(2,i6 aS),(4,lf aA down),(5,.ptr 15005 0),(6,.ptr 15006 0),(8,.ptr 15008 0),(10,.ptr 15010 0)] [(15005,.cells 32 (k7 e)),(15006,.cells 28 (k2 t)),(15008,.cells 36 (k10 p)),(15010,.cells 46 [.int .u64 (0:Int),.int .u64 (0:Int),.aQ])] ?_
 obtain⟨ai,h1,hm⟩:=af hm
 refine qD [(3,hro (wL h1) ck35),(7,.al 15012)] [8] [(12,.ptr 15012 0),(13,i6 ai.2)] [15008] [(15012,.cells 46 (k12 ai.1))]<|A.seq<|qDs [] [] [(27,.bool (!decide (ai.2=0)))] ?_
 rcases ak hm with⟨c1,hm⟩|⟨c1,hm⟩
 ·refine qT c1<|qD [] [2,4,5,6,12,13,27] [(11,i6 ai.2)] [15005,15006,15012] [] ?_
  cases hm
  exact A.ret qE
 refine qF c1<|A.skip<|A.seq ?_
 obtain⟨J1,hJ1,hm⟩:=cw hm
 refine A.J (J:=J1) (r:=r) (λv_1=>[(2,i6 aS),(4,lf aA down),(5,.ptr 15005 0),(6,.ptr 15006 0),(10,.ptr 15010 0),(12,.ptr 15012 0),(37,.bool v_1)]) (λv_1=>[(15005,.cells 32 (k7 e)),(15006,.cells 28 (k2 t)),(15010,.cells 46 [.int .u64 (0:Int),.int .u64 (0:Int),.aQ]),(15012,.cells 46 (k12 ai.1))]) ?_ ?_
 ·obtain⟨aI,h2,hm⟩:=af hm
  rcases ak hm with⟨c2,hm⟩|⟨c2,hm⟩
  ·exact qGs [(1,hro (mP h2) af6),(3,hto (bE c2))] [13,27] [(37,.bool true)]<|qX true hm
  obtain⟨bf,h3,hm⟩:=af hm
  exact qGs [(1,hro (mP h2) af6),(3,hto (bE c2)),(5,hro (kr h3) af7)] [13,27] [(37,.bool (!decide (bf=0)))]<|qX (!decide (bf=0)) hm
 rintro v_1 hm
 rw[hJ1]at hm
 rcases ak hm with⟨c3,hm⟩|⟨c3,hm⟩
 ·refine qT c3<|qD [] [2,4,5,6,12,37] [(11,i6 1)] [15005,15006,15012] [] ?_
  cases hm
  exact A.ret qE
 refine qF c3<|A.skip<|qD [(5,.al 15014)] [37] [(14,.ptr 15014 0)] [] [(15014,.cells 46 [.int .u64 ai.1.Local,.int .u64 ai.1.mL,.aQ])]<|A.seq<|qD [(2,hto (lnE dQ ai.1.cg))] [12] [(45,lf dQ ai.1.cg),(46,i6 (ai.1.cg.length:Int)),(47,i6 0)] [15012] []<|A.block<|A.bS 45 rfl λhb1=>?_
 obtain⟨B1,K1,hB1,hK1,hm⟩:=bu hm
 refine A.lpI (l:=ai.1.cg) (j0:=0) (B:=B1) (K:=K1) hm (λj1=>λ(m_1,m_2)=>[(2,i6 aS),(4,lf aA down),(5,.ptr 15005 0),(6,.ptr 15006 0),(10,.ptr 15010 0),(14,.ptr 15014 0),(45,lf dQ ai.1.cg),(46,i6 (ai.1.cg.length:Int)),(47,i6 (j1:Int))]) (λj1=>λ(m_1,m_2)=>[(15005,.cells 32 (k7 e)),(15006,.cells 28 (k2 t)),(15010,.cells 46 [.int .u64 (0:Int),.int .u64 (0:Int),.aQ]),(15014,.cells 46 [.int .u64 ai.1.Local,.int .u64 m_1,.own 701501402]),(701501402,.slice 54 12 (ml dQ m_2) 0 false)]) ?_ ?_ ?_
 ·exact bx.go [.ac 15014 701501402 54 12 2] [] (by kernel_rfl)
 ·rintro j1 e1 Z1 ⟨m_1,m_2⟩ hj1 hx1 hm
  rw[hB1]at hm
  refine qDs [] [] [(48,.bool (decide ((j1:Int)<(ai.1.cg.length:Int))))]<|A.seq<|qT (ltT hx1)<|A.skip ?_
  obtain⟨J2,hJ2,hm⟩:=cw hm
  refine A.J (J:=J2) (r:=r) (λ(m_3,m_4)=>[(2,i6 aS),(4,lf aA down),(5,.ptr 15005 0),(6,.ptr 15006 0),(10,.ptr 15010 0),(14,.ptr 15014 0),(45,lf dQ ai.1.cg),(46,i6 (ai.1.cg.length:Int)),(47,i6 (j1:Int))]) (λ(m_3,m_4)=>[(15005,.cells 32 (k7 e)),(15006,.cells 28 (k2 t)),(15010,.cells 46 [.int .u64 (0:Int),.int .u64 (0:Int),.aQ]),(15014,.cells 46 [.int .u64 ai.1.Local,.int .u64 m_3,.own 701501402]),(701501402,.slice 54 12 (ml dQ m_4) 0 false)]) ?_ ?_
  ·refine A.block<|qD [(0,hix (ix dQ (bt hx1))),(2,.al 15016)] [48] [(16,.ptr 15016 0)] [] [(15016,.cells 54 (k11 e1))] ?_
   refine A.seq ?_
   obtain⟨bB,h4,hm⟩:=af hm
   refine qDs [(3,hro (bR h4) qz)] [] [(55,.bool (!bB))] ?_
   rcases ak hm with⟨c4,hm⟩|⟨c4,hm⟩
   ·refine qT c4 ?_
    obtain⟨l_1,h5,hm⟩:=af hm
    exact qD [(4,hap 15560 (ap dQ (bytes:=120) (by decide) h5))] [55] [] [15014,701501402] [(15014,.cells 46 [.int .u64 ai.1.Local,.int .u64 m_1,.own 15560]),(15560,.slice 54 12 (ml dQ l_1) 0 false)]<|A.exit<|Exists.intro (m_1,l_1) (And.intro hm (bx.go [.sw 15560 701501402] [] (by kernel_rfl)))
   refine qF c4<|A.skip ?_
   obtain⟨bD,h6,hm⟩:=af hm
   refine qD [(4,hro (abt h6) ck60)] [16,55] [(17,lf dQ bD.1),(18,.int .u64 bD.2)] [15016] [] ?_
   obtain⟨l_2,h7,hm⟩:=af hm
   exact qG [(3,hap 15573 (ap dQ (bytes:=120) (by decide) h7))] [17,18] [] [15014,701501402] [(15014,.cells 46 [.int .u64 ai.1.Local,.int .u64 (br .or .u64 m_1 bD.2),.own 15573]),(15573,.slice 54 12 (ml dQ l_2) 0 false)]<|Exists.intro (br .or .u64 m_1 bD.2,l_2) (And.intro hm (bx.go [.sw 15573 701501402] [] (by kernel_rfl)))
  rintro⟨m_3,m_4⟩ hm
  rw[hJ2]at hm
  exact qGs [(0,hto (inc hx1 hb1))] [47] [(47,i6 ((j1+1:Nat):Int))]<|qX (m_3,m_4) hm
 rintro j1 ⟨m_1,m_2⟩ hj1 hl1 hm
 rw[hK1]at hm
 refine qDs [] [] [(48,.bool (decide ((j1:Int)<(ai.1.cg.length:Int))))]<|A.seq<|qF (ltF hl1)<|A.exit<|qD [] [2,4,5,6,14,45,46,47,48] [(11,i6 0)] [15005,15006,15010,15014] [(15010,.cells 46 [.int .u64 ai.1.Local,.int .u64 m_1,.own 701501402])]<|A.ret ?_
 obtain rfl:=some_inj hm
 exact A.fin W0 [.fz [701501402]] rfl (by kernel_rfl)
variable {d:cV}
theorem qU{r:cV}(hm:gK d aS c=some r):dA prog 130 [(505013000,.slice 78 11 (ml ep d.cL.dD) 0 false),(505013002,.slice 81 3 (ml eB d.cL.dI) 0 false),(505013004,.slice 141 2 (ml iX d.cL.iA) 0 false),(505013006,.win 154 12 (ml dO d.iY)),(900000157,.cells 157 [i6 d.ct.Length,lf aF d.ct.List,lf aJ d.cS.ah,lf aV d.cS.Links,lf aJ d.ei.ah,lf aV d.ei.Links,lf bz d.cB.Links,lf aA d.cB.ah,.own 505013000,.own 505013002,.own 505013004,.own 505013006])] [.ptr 900000157 0,i6 aS,.agg (k11 c)] (λa σ'=>a=.tup []∧σ'=[(900000157,.cells 157 [i6 r.ct.Length,lf aF r.ct.List,lf aJ r.cS.ah,lf aV r.cS.Links,lf aJ r.ei.ah,lf aV r.ei.Links,lf bz r.cB.Links,lf aA r.cB.ah,.own 505013001,.own 505013003,.own 505013005,.own 505013007]),(505013001,.slice 78 11 (ml ep r.cL.dD) 0 false),(505013003,.slice 81 3 (ml eB r.cL.dI) 0 false),(505013005,.slice 141 2 (ml iX r.cL.iA) 0 false),(505013007,.win 154 12 (ml dO r.iY))]):=by
 refine bh func130 rfl rfl ?_
 unfold gK at hm
 refine qS [(0,.al 130005)] [(0,.ptr 900000157 0),(1,i6 aS),(5,.ptr 130005 0)] [(505013000,.slice 78 11 (ml ep d.cL.dD) 0 false),(505013002,.slice 81 3 (ml eB d.cL.dI) 0 false),(505013004,.slice 141 2 (ml iX d.cL.iA) 0 false),(505013006,.win 154 12 (ml dO d.iY)),(900000157,.cells 157 [i6 d.ct.Length,lf aF d.ct.List,lf aJ d.cS.ah,lf aV d.cS.Links,lf aJ d.ei.ah,lf aV d.ei.Links,lf bz d.cB.Links,lf aA d.cB.ah,.own 505013000,.own 505013002,.own 505013004,.own 505013006]),(130005,.cells 54 (k11 c))]<|qDs [] [] [(6,.int .u64 c.Frame.aB.Bits)]<|A.seq ?_
 obtain⟨ai,h1,hm⟩:=af hm
 refine qDs [(7,hro (aah h1) axw)] [] [(8,.bool ai.2)]<|qDs [] [8] [(25,.bool (!ai.2))] ?_
 rcases ak hm with⟨c1,hm⟩|⟨c1,hm⟩
 ·refine qT c1 ?_
  obtain⟨l_1,h2,hm⟩:=af hm
  refine qD [(10,hap 130536 (ap iX (bytes:=16) (by decide) h2))] [0,1,5,6,25] [] [505013004,900000157,130005] [(900000157,.cells 157 [i6 d.ct.Length,lf aF d.ct.List,lf aJ d.cS.ah,lf aV d.cS.Links,lf aJ d.ei.ah,lf aV d.ei.Links,lf bz d.cB.Links,lf aA d.cB.ah,.own 505013000,.own 505013002,.own 130536,.own 505013006]),(130536,.slice 141 2 (ml iX l_1) 0 false)]<|A.ret ?_
  obtain rfl:=some_inj hm
  exact A.fin W0 [.rn 505013000 505013001,.rn 505013002 505013003,.sw 130536 505013005,.rn 505013006 505013007] rfl (by kernel_rfl)
 refine qF c1<|A.skip ?_
 obtain⟨l_2,h3,hm⟩:=af hm
 refine qD [(12,hap 130552 (ap eB (bytes:=24) (by decide) h3))] [1,6,25] [] [505013002,900000157] [(900000157,.cells 157 [i6 d.ct.Length,lf aF d.ct.List,lf aJ d.cS.ah,lf aV d.cS.Links,lf aJ d.ei.ah,lf aV d.ei.Links,lf bz d.cB.Links,lf aA d.cB.ah,.own 505013000,.own 130552,.own 505013004,.own 505013006]),(130552,.slice 81 3 (ml eB l_2) 0 false)] ?_
 obtain⟨l_3,h4,hm⟩:=af hm
 refine qG [(11,hap 130567 (ap dO (bytes:=120) (by decide) h4))] [0,5] [] [505013006,900000157,130005] [(900000157,.cells 157 [i6 d.ct.Length,lf aF d.ct.List,lf aJ d.cS.ah,lf aV d.cS.Links,lf aJ d.ei.ah,lf aV d.ei.Links,lf bz d.cB.Links,lf aA d.cB.ah,.own 505013000,.own 130552,.own 505013004,.own 130567]),(130567,.win 154 12 (ml dO l_3))] ?_
 obtain rfl:=some_inj hm
 exact A.fin W0 [.rn 505013000 505013001,.sw 130552 505013003,.rn 505013004 505013005,.sw 130567 505013007] rfl (by kernel_rfl)
theorem v8{v:az}{r:cV}(hm:je d v=some r):dA prog 84 [(505008400,.slice 78 11 (ml ep d.cL.dD) 0 false),(505008402,.slice 81 3 (ml eB d.cL.dI) 0 false),(505008404,.slice 141 2 (ml iX d.cL.iA) 0 false),(505008406,.win 154 12 (ml dO d.iY)),(900000157,.cells 157 [i6 d.ct.Length,lf aF d.ct.List,lf aJ d.cS.ah,lf aV d.cS.Links,lf aJ d.ei.ah,lf aV d.ei.Links,lf bz d.cB.Links,lf aA d.cB.ah,.own 505008400,.own 505008402,.own 505008404,.own 505008406])] [.ptr 900000157 0,.agg (k14 v)] (λa σ'=>a=.tup []∧σ'=[(900000157,.cells 157 [i6 r.ct.Length,lf aF r.ct.List,lf aJ r.cS.ah,lf aV r.cS.Links,lf aJ r.ei.ah,lf aV r.ei.Links,lf bz r.cB.Links,lf aA r.cB.ah,.own 505008401,.own 505008403,.own 505008405,.own 505008407]),(505008401,.slice 78 11 (ml ep r.cL.dD) 0 false),(505008403,.slice 81 3 (ml eB r.cL.dI) 0 false),(505008405,.slice 141 2 (ml iX r.cL.iA) 0 false),(505008407,.win 154 12 (ml dO r.iY))]):=by
 refine bh func84 rfl rfl ?_
 unfold je at hm
 refine qS [(0,.al 84003)] [(0,.ptr 900000157 0),(3,.ptr 84003 0)] [(505008400,.slice 78 11 (ml ep d.cL.dD) 0 false),(505008402,.slice 81 3 (ml eB d.cL.dI) 0 false),(505008404,.slice 141 2 (ml iX d.cL.iA) 0 false),(505008406,.win 154 12 (ml dO d.iY)),(900000157,.cells 157 [i6 d.ct.Length,lf aF d.ct.List,lf aJ d.cS.ah,lf aV d.cS.Links,lf aJ d.ei.ah,lf aV d.ei.Links,lf bz d.cB.Links,lf aA d.cB.ah,.own 505008400,.own 505008402,.own 505008404,.own 505008406]),(84003,.cells 154 (k14 v))]<|A.seq<|qD [(2,.al 84004)] [] [(4,.ptr 84004 0)] [] [(84004,.cells 52 [lf aA v.cK.fU,i6 v.cK.aB.Mode,i6 v.cK.aB.cC,i6 v.cK.aB.Set,i6 v.cK.aB.Length,i6 v.cK.aB.TTL,i6 v.cK.aB.dG,i6 v.cK.aB.dH,i6 v.cK.aB.eO,.int .u64 v.cK.aB.Bits,.str v.cK.aB.cM])]<|qDs [(2,hto (lnE aA v.cK.fU))] [] [(17,.bool (decide (0<(v.cK.fU.length:Int))))] ?_
 rcases ak hm with⟨c1,hm⟩|⟨c1,hm⟩
 ·refine qT c1 ?_
  obtain⟨e_1,h1,hm⟩:=af hm
  obtain⟨l_1,h2,hm⟩:=af hm
  obtain⟨ai,h3,hm⟩:=af hm
  refine qS [(5,hix (ix aA h1)),(9,hsl (adN aA h2)),(14,hdc [520084001,520084002,520084003,520084004] (SC.at [(505013000,505008400),(505013002,505008402),(505013004,505008404),(505013006,505008406),(505013001,520084001),(505013003,520084002),(505013005,520084003),(505013007,520084004)] (qU h3)) anw)] [] [(900000157,.cells 157 [i6 ai.ct.Length,lf aF ai.ct.List,lf aJ ai.cS.ah,lf aV ai.cS.Links,lf aJ ai.ei.ah,lf aV ai.ei.Links,lf bz ai.cB.Links,lf aA ai.cB.ah,.own 520084001,.own 520084002,.own 520084003,.own 520084004]),(520084001,.slice 78 11 (ml ep ai.cL.dD) 0 false),(520084002,.slice 81 3 (ml eB ai.cL.dI) 0 false),(520084003,.slice 141 2 (ml iX ai.cL.iA) 0 false),(520084004,.win 154 12 (ml dO ai.iY))]<|A.ret ?_
  obtain rfl:=some_inj hm
  exact A.fin W0 [.sw 520084001 505008401,.sw 520084002 505008403,.sw 520084003 505008405,.sw 520084004 505008407] rfl (by kernel_rfl)
 refine qF c1<|A.skip<|qD [(3,.al 84005)] [4,17] [(5,.ptr 84005 0)] [84004] [(84005,.cells 36 (k10 v.cK.aB))] ?_
 obtain⟨aI,h4,hm⟩:=af hm
 obtain⟨bf,h5,hm⟩:=af hm
 refine qD [(21,hro (abr h4) axy),(22,hro (uw h5) aug),(26,.al 84006)] [] [(6,.ptr 84006 0)] [] [(84006,.cells 46 (k12 bf.1))]<|A.seq<|qDs [(5,hto (lnE aF d.ct.List))] [] [(66,lf aF d.ct.List),(67,i6 (d.ct.List.length:Int)),(68,i6 0)]<|A.block<|A.bS 66 rfl λhb1=>?_
 obtain⟨B1,K1,hB1,hK1,hm⟩:=bu hm
 refine A.lpI (l:=d.ct.List) (j0:=0) (B:=B1) (K:=K1) hm (λj1=>λm_1=>[(0,.ptr 900000157 0),(3,.ptr 84003 0),(5,.ptr 84005 0),(6,.ptr 84006 0),(66,lf aF d.ct.List),(67,i6 (d.ct.List.length:Int)),(68,i6 (j1:Int))]) (λj1=>λm_1=>[(505008402,.slice 81 3 (ml eB d.cL.dI) 0 false),(505008404,.slice 141 2 (ml iX d.cL.iA) 0 false),(505008406,.win 154 12 (ml dO d.iY)),(900000157,.cells 157 [i6 d.ct.Length,lf aF d.ct.List,lf aJ d.cS.ah,lf aV d.cS.Links,lf aJ d.ei.ah,lf aV d.ei.Links,lf bz d.cB.Links,lf aA d.cB.ah,.own 700015708,.own 505008402,.own 505008404,.own 505008406]),(84003,.cells 154 (k14 v)),(84005,.cells 36 (k10 v.cK.aB)),(84006,.cells 46 (k12 bf.1)),(700015708,.slice 78 11 (ml ep m_1) 0 false)]) ?_ ?_ ?_
 ·exact bx.go [.rn 505008400 700015708] [] (by kernel_rfl)
 ·rintro j1 e1 Z1 m_1 hj1 hx1 hm
  rw[hB1]at hm
  refine qDs [] [] [(69,.bool (decide ((j1:Int)<(d.ct.List.length:Int))))]<|A.seq<|qT (ltT hx1)<|A.skip ?_
  obtain⟨J1,hJ1,hm⟩:=cw hm
  refine A.J (J:=J1) (r:=r) (λm_2=>[(0,.ptr 900000157 0),(3,.ptr 84003 0),(5,.ptr 84005 0),(6,.ptr 84006 0),(66,lf aF d.ct.List),(67,i6 (d.ct.List.length:Int)),(68,i6 (j1:Int))]) (λm_2=>[(505008402,.slice 81 3 (ml eB d.cL.dI) 0 false),(505008404,.slice 141 2 (ml iX d.cL.iA) 0 false),(505008406,.win 154 12 (ml dO d.iY)),(900000157,.cells 157 [i6 d.ct.Length,lf aF d.ct.List,lf aJ d.cS.ah,lf aV d.cS.Links,lf aJ d.ei.ah,lf aV d.ei.Links,lf bz d.cB.Links,lf aA d.cB.ah,.own 700015708,.own 505008402,.own 505008404,.own 505008406]),(84003,.cells 154 (k14 v)),(84005,.cells 36 (k10 v.cK.aB)),(84006,.cells 46 (k12 bf.1)),(700015708,.slice 78 11 (ml ep m_2) 0 false)]) ?_ ?_
  ·refine A.block<|qD [(0,hix (ix aF (bt hx1))),(2,.al 84009)] [69] [(9,.ptr 84009 0)] [] [(84009,.cells 38 (k5 e1))] ?_
   obtain⟨h6,hm⟩:=fI hm
   refine qDs [(4,.sh e1.Bit (of_decide_eq_true h6))] [] [(78,.bool (decide (br .and .u64 (Int.fdiv bf.1.Local (2 ^ min e1.Bit.toNat 64)) (1:Int)=(1:Int))))] ?_
   rcases ak hm with⟨c2,hm⟩|⟨c2,hm⟩
   ·refine qT c2 ?_
    obtain⟨bB,h7,hm⟩:=af hm
    obtain⟨l_2,h8,hm⟩:=af hm
    exact qG [(11,hro (ach h7) ck73),(14,hap 84593 (ap ep (bytes:=96) (by decide) h8))] [9,78] [] [900000157,700015708,84009] [(900000157,.cells 157 [i6 d.ct.Length,lf aF d.ct.List,lf aJ d.cS.ah,lf aV d.cS.Links,lf aJ d.ei.ah,lf aV d.ei.Links,lf bz d.cB.Links,lf aA d.cB.ah,.own 84593,.own 505008402,.own 505008404,.own 505008406]),(84593,.slice 78 11 (ml ep l_2) 0 false)]<|Exists.intro l_2 (And.intro hm (bx.go [.sw 84593 700015708] [] (by kernel_rfl)))
   exact qF c2<|A.skip<|qX m_1 hm
  rintro m_2 hm
  rw[hJ1]at hm
  exact qGs [(0,hto (inc hx1 hb1))] [68] [(68,i6 ((j1+1:Nat):Int))]<|qX m_2 hm
 rintro j1 m_1 hj1 hl1 hm
 rw[hK1]at hm
 refine qDs [] [] [(69,.bool (decide ((j1:Int)<(d.ct.List.length:Int))))]<|A.seq<|qF (ltF hl1)<|A.exit ?_
 obtain⟨J2,hJ2,hm⟩:=cw hm
 refine A.J (J:=J2) (r:=r) (λm_3=>[(0,.ptr 900000157 0),(3,.ptr 84003 0),(6,.ptr 84006 0)]) (λm_3=>[(505008402,.slice 81 3 (ml eB d.cL.dI) 0 false),(505008406,.win 154 12 (ml dO d.iY)),(900000157,.cells 157 [i6 d.ct.Length,lf aF d.ct.List,lf aJ d.cS.ah,lf aV d.cS.Links,lf aJ d.ei.ah,lf aV d.ei.Links,lf bz d.cB.Links,lf aA d.cB.ah,.own 700015708,.own 505008402,.own 700015710,.own 505008406]),(84003,.cells 154 (k14 v)),(84006,.cells 46 (k12 bf.1)),(700015708,.slice 78 11 (ml ep m_1) 0 false),(700015710,.slice 141 2 (ml iX m_3) 0 false)]) ?_ ?_
 ·refine qD [] [5,66,67,68,69] [(100,.bool (!decide (bf.1.mL=0)))] [84005] [] ?_
  rcases ak hm with⟨c3,hm⟩|⟨c3,hm⟩
  ·refine qT c3 ?_
   obtain⟨l_3,h9,hm⟩:=af hm
   exact qG [(12,hap 84613 (ap iX (bytes:=16) (by decide) h9))] [100] [] [505008404,900000157] [(900000157,.cells 157 [i6 d.ct.Length,lf aF d.ct.List,lf aJ d.cS.ah,lf aV d.cS.Links,lf aJ d.ei.ah,lf aV d.ei.Links,lf bz d.cB.Links,lf aA d.cB.ah,.own 700015708,.own 505008402,.own 84613,.own 505008406]),(84613,.slice 141 2 (ml iX l_3) 0 false)]<|Exists.intro l_3 (And.intro hm (bx.go [.sw 84613 700015710] [] (by kernel_rfl)))
  exact qF c3<|A.skip<|Exists.intro d.cL.iA (And.intro hm (bx.go [.rn 505008404 700015710] [] (by kernel_rfl)))
 rintro m_3 hm
 rw[hJ2]at hm
 refine qD [(2,hto (lnE dQ bf.1.cg))] [6] [(118,lf dQ bf.1.cg),(119,i6 (bf.1.cg.length:Int)),(120,i6 0)] [84006] []<|A.block<|A.bS 118 rfl λhb2=>?_
 obtain⟨B2,K2,hB2,hK2,hm⟩:=bu hm
 refine A.lpI (l:=bf.1.cg) (j0:=0) (B:=B2) (K:=K2) hm (λj2=>λ(m_4,m_5,m_6,m_7,m_8,m_9,nc,ng,lF,ff,rE,rF)=>[(0,.ptr 900000157 0),(3,.ptr 84003 0),(118,lf dQ bf.1.cg),(119,i6 (bf.1.cg.length:Int)),(120,i6 (j2:Int))]) (λj2=>λ(m_4,m_5,m_6,m_7,m_8,m_9,nc,ng,lF,ff,rE,rF)=>[(900000157,.cells 157 [i6 m_4,lf aF m_5,lf aJ m_6,lf aV m_7,lf aJ m_8,lf aV m_9,lf bz nc,lf aA ng,.own 700015708,.own 700015709,.own 700015710,.own 700015711]),(84003,.cells 154 (k14 v)),(700015708,.slice 78 11 (ml ep lF) 0 false),(700015710,.slice 141 2 (ml iX rE) 0 false),(700015709,.slice 81 3 (ml eB ff) 0 false),(700015711,.win 154 12 (ml dO rF))]) ?_ ?_ ?_
 ·exact bx.go [.rn 505008402 700015709,.rn 505008406 700015711] [] (by kernel_rfl)
 ·rintro j2 e2 Z2 ⟨m_4,m_5,m_6,m_7,m_8,m_9,nc,ng,lF,ff,rE,rF⟩ hj2 hx2 hm
  rw[hB2]at hm
  refine qDs [] [] [(121,.bool (decide ((j2:Int)<(bf.1.cg.length:Int))))]<|A.seq<|qT (ltT hx2)<|A.skip<|A.seq<|A.block<|qD [(0,hix (ix dQ (bt hx2))),(2,.al 84011)] [121] [(11,.ptr 84011 0)] [] [(84011,.cells 54 (k11 e2))] ?_
  obtain⟨bD,h10,hm⟩:=af hm
  exact qG [(4,hdc [520084005,520084006,520084007,520084008] (SC.at [(505013000,700015708),(505013002,700015709),(505013004,700015710),(505013006,700015711),(505013001,520084005),(505013003,520084006),(505013005,520084007),(505013007,520084008)] (qU h10)) anw)] [11] [] [900000157,700015708,700015710,700015709,700015711,84011] [(900000157,.cells 157 [i6 bD.ct.Length,lf aF bD.ct.List,lf aJ bD.cS.ah,lf aV bD.cS.Links,lf aJ bD.ei.ah,lf aV bD.ei.Links,lf bz bD.cB.Links,lf aA bD.cB.ah,.own 520084005,.own 520084006,.own 520084007,.own 520084008]),(520084005,.slice 78 11 (ml ep bD.cL.dD) 0 false),(520084006,.slice 81 3 (ml eB bD.cL.dI) 0 false),(520084007,.slice 141 2 (ml iX bD.cL.iA) 0 false),(520084008,.win 154 12 (ml dO bD.iY))]<|qGs [(0,hto (inc hx2 hb2))] [120] [(120,i6 ((j2+1:Nat):Int))]<|Exists.intro (bD.ct.Length,bD.ct.List,bD.cS.ah,bD.cS.Links,bD.ei.ah,bD.ei.Links,bD.cB.Links,bD.cB.ah,bD.cL.dD,bD.cL.dI,bD.cL.iA,bD.iY) (And.intro hm (bx.go [.sw 520084005 700015708,.sw 520084006 700015709,.sw 520084007 700015710,.sw 520084008 700015711] [] (by kernel_rfl)))
 rintro j2 ⟨m_4,m_5,m_6,m_7,m_8,m_9,nc,ng,lF,ff,rE,rF⟩ hj2 hl2 hm
 rw[hK2]at hm
 refine qDs [] [] [(121,.bool (decide ((j2:Int)<(bf.1.cg.length:Int))))]<|A.seq<|qF (ltF hl2)<|A.exit ?_
 obtain rfl:=some_inj hm
 exact A.fin W0 [.sw 700015708 505008401,.sw 700015709 505008403,.sw 700015710 505008405,.sw 700015711 505008407] rfl (by kernel_rfl)
theorem ad0{e:aC}{r:dB×Int}(hm:jq e t f p aS=some r):RO prog 45 [] [.agg (k7 e),.agg (k2 t),.agg (k4 f),.agg (k10 p),i6 aS] (.tup [.agg (k13 r.1),i6 r.2]):=by
 refine bh func45 rfl rfl ?_
 unfold jq at hm
 refine qS [(0,.al 45005),(1,.al 45006),(2,.al 45007),(3,.al 45008),(4,.al 45010)] [(4,i6 aS),(5,.ptr 45005 0),(6,.ptr 45006 0),(7,.ptr 45007 0),(8,.ptr 45008 0),(10,.ptr 45010 0)] [(45005,.cells 32 (k7 e)),(45006,.cells 28 (k2 t)),(45007,.cells 100 (k4 f)),(45008,.cells 36 (k10 p)),(45010,.cells 74 [.aQ,.aQ,.aQ])]<|A.seq<|A.block ?_
 obtain⟨J1,hJ1,hm⟩:=cw hm
 refine A.J (J:=J1) (r:=r) (λv_1=>[(4,i6 aS),(5,.ptr 45005 0),(6,.ptr 45006 0),(7,.ptr 45007 0),(8,.ptr 45008 0),(10,.ptr 45010 0),(14,.bool v_1)]) (λv_1=>[(45005,.cells 32 (k7 e)),(45006,.cells 28 (k2 t)),(45007,.cells 100 (k4 f)),(45008,.cells 36 (k10 p)),(45010,.cells 74 [.aQ,.aQ,.aQ])]) ?_ ?_
 ·obtain⟨ai,h1,hm⟩:=af hm
  rcases ak hm with⟨c1,hm⟩|⟨c1,hm⟩
  ·exact qGs [(1,hro (mP h1) af6),(3,hto (bE c1))] [] [(14,.bool true)]<|qX true hm
  obtain⟨aI,h2,hm⟩:=af hm
  rcases ak hm with⟨c2,hm⟩|⟨c2,hm⟩
  ·exact qGs [(1,hro (mP h1) af6),(3,hto (bE c1)),(5,hro (kr h2) af7),(8,hto (bE c2))] [] [(14,.bool true)]<|qX true hm
  obtain⟨bf,h3,hm⟩:=af hm
  exact qGs [(1,hro (mP h1) af6),(3,hto (bE c1)),(5,hro (kr h2) af7),(8,hto (bE c2)),(10,hro (jQ h3) adQ)] [] [(14,.bool (!bf))]<|qX (!bf) hm
 rintro v_1 hm
 rw[hJ1]at hm
 rcases ak hm with⟨c3,hm⟩|⟨c3,hm⟩
 ·refine qT c3<|qD [] [4,5,6,7,8,14] [(11,i6 1)] [45005,45006,45007,45008] [] ?_
  cases hm
  exact A.ret qE
 refine qF c3 ?_
 obtain⟨bB,h4,hm⟩:=af hm
 refine qDs [(2,hro (jN h4) adR)] [14] [(29,.bool (!bB))] ?_
 rcases ak hm with⟨c4,hm⟩|⟨c4,hm⟩
 ·refine qT c4<|qD [] [4,5,6,7,8,29] [(11,i6 4)] [45005,45006,45007,45008] [] ?_
  cases hm
  exact A.ret qE
 refine qF c4<|qDs [] [29] [(35,.bool (!decide (p.Mode=2)))] ?_
 rcases ak hm with⟨c5,hm⟩|⟨c5,hm⟩
 ·refine qT c5<|qD [] [4,5,6,7,8,35] [(11,i6 7)] [45005,45006,45007,45008] [] ?_
  cases hm
  exact A.ret qE
 refine qF c5<|qDs [] [35] [(40,.bool (!decide (p.Length=e.Length)))] ?_
 rcases ak hm with⟨c6,hm⟩|⟨c6,hm⟩
 ·refine qT c6<|qD [] [4,5,6,7,8,40] [(11,i6 8)] [45005,45006,45007,45008] [] ?_
  cases hm
  exact A.ret qE
 refine qF c6 ?_
 obtain⟨bD,h5,hm⟩:=af hm
 refine qDs [(3,hro (bR h5) qz)] [40] [(47,.bool bD)] ?_
 rcases ak hm with⟨c7,hm⟩|⟨c7,hm⟩
 ·refine qT c7<|qS [(4,.al 45056)] [(10,.ptr 45010 0),(11,i6 0)] [(45010,.cells 74 [.aQ,.aQ,.own 45056]),(45056,.slice 141 2 (ml iX ([(dY.mk aS p.Bits)]:List dY)) 0 false)]<|A.ret ?_
  obtain rfl:=some_inj hm
  exact A.fin W0 [.fz [45056]] rfl (by kernel_rfl)
 refine qF c7<|A.skip ?_
 obtain⟨cW,h6,hm⟩:=af hm
 refine qD [(4,hro (ou h6) alM),(10,.al 45068),(12,.al 45012)] [4,5,6,7,8,47] [(12,.ptr 45012 0)] [45005,45006,45007,45008] [(45068,.slice 154 12 (ml dO ([(az.mk aS (bL.mk [] p))]:List az)) 0 false),(45012,.cells 157 [i6 e.Length,lf aF e.List,lf aJ t.ah,lf aV t.Links,lf aJ cW.ah,lf aV cW.Links,lf bz f.Links,lf aA f.ah,.aQ,.aQ,.aQ,.own 45068])]<|A.seq<|A.block ?_
 obtain⟨F1,n1,hF1,hm⟩:=jA hm
 refine A.lpW (F:=F1) hm (λ(m_1,m_2,m_3,m_4,m_5,m_6,m_7,m_8,m_9,nc,ng,lF)=>[(10,.ptr 45010 0),(12,.ptr 45012 0)]) (λ(m_1,m_2,m_3,m_4,m_5,m_6,m_7,m_8,m_9,nc,ng,lF)=>[(45010,.cells 74 [.aQ,.aQ,.aQ]),(45012,.cells 157 [i6 m_1,lf aF m_2,lf aJ m_3,lf aV m_4,lf aJ m_5,lf aV m_6,lf bz m_7,lf aA m_8,.own 704501208,.own 704501209,.own 704501210,.own 704501211]),(704501208,.slice 78 11 (ml ep m_9) 0 false),(704501209,.slice 81 3 (ml eB nc) 0 false),(704501210,.slice 141 2 (ml iX ng) 0 false),(704501211,.win 154 12 (ml dO lF))]) ?_ ?_
 ·exact bx.go [.wi 45068,.sw 45068 704501211,.ac 45012 704501208 78 11 8,.ac 45012 704501209 81 3 9,.ac 45012 704501210 141 2 10] [] (by kernel_rfl)
 rintro Z1 ⟨m_1,m_2,m_3,m_4,m_5,m_6,m_7,m_8,m_9,nc,ng,lF⟩ hm
 rw[hF1]at hm
 refine A.seq<|qDs [(2,hto (lnE dO lF))] [] [(73,.bool (decide (0<(lF.length:Int))))] ?_
 rcases ak hm with⟨c8,hm⟩|⟨c8,hm⟩
 ·refine qT c8<|A.skip<|A.block ?_
  obtain⟨e_1,h7,hm⟩:=af hm
  refine qD [(2,hix (ix dO h7)),(4,.al 45013)] [73] [(13,.ptr 45013 0)] [] [(45013,.cells 154 (k14 e_1))] ?_
  obtain⟨l_1,h8,hm⟩:=af hm
  refine qD [(2,hws 45580 (adN dO h8))] [] [] [45012,704501211] [(45012,.cells 157 [i6 m_1,lf aF m_2,lf aJ m_3,lf aV m_4,lf aJ m_5,lf aV m_6,lf bz m_7,lf aA m_8,.own 704501208,.own 704501209,.own 704501210,.own 45580]),(45580,.win 154 12 (ml dO l_1))] ?_
  obtain⟨bH,h9,hm⟩:=af hm
  refine qD [(1,hdc [520045001,520045002,520045003,520045004] (SC.at [(505008400,704501208),(505008402,704501209),(505008404,704501210),(505008406,45580),(900000157,45012),(505008401,520045001),(505008403,520045002),(505008405,520045003),(505008407,520045004)] (v8 h9)) ck84)] [13] [] [45012,704501208,704501209,704501210,45013,45580] [(45012,.cells 157 [i6 bH.ct.Length,lf aF bH.ct.List,lf aJ bH.cS.ah,lf aV bH.cS.Links,lf aJ bH.ei.ah,lf aV bH.ei.Links,lf bz bH.cB.Links,lf aA bH.cB.ah,.own 520045001,.own 520045002,.own 520045003,.own 520045004]),(520045001,.slice 78 11 (ml ep bH.cL.dD) 0 false),(520045002,.slice 81 3 (ml eB bH.cL.dI) 0 false),(520045003,.slice 141 2 (ml iX bH.cL.iA) 0 false),(520045004,.win 154 12 (ml dO bH.iY))]<|qDs [(3,hto (lnE eB bH.cL.dI))] [] [(88,.bool (decide (2000<(bH.cL.dI.length:Int))))] ?_
  rcases ak hm with⟨c9,hm⟩|⟨c9,hm⟩
  ·refine qT c9<|qS [] [(10,.ptr 45010 0),(11,i6 11)] [(45010,.cells 74 [.aQ,.aQ,.aQ])] ?_
   cases hm
   exact A.ret qE
  exact qF c9<|A.skip<|Exists.intro (bH.ct.Length,bH.ct.List,bH.cS.ah,bH.cS.Links,bH.ei.ah,bH.ei.Links,bH.cB.Links,bH.cB.ah,bH.cL.dD,bH.cL.dI,bH.cL.iA,bH.iY) (And.intro hm (bx.go [.sw 520045001 704501208,.sw 520045002 704501209,.sw 520045003 704501210,.sw 520045004 704501211] [] (by kernel_rfl)))
 refine qF c8<|A.exit<|qD [] [12,73] [(11,i6 0)] [45010,45012,704501211] [(45010,.cells 74 [.own 704501208,.own 704501209,.own 704501210])]<|A.ret ?_
 obtain rfl:=some_inj hm
 exact A.fin W0 [.fz [704501208,704501209,704501210]] rfl (by kernel_rfl)
end Go.Proofs.YtdjeacigeegklaaGreat
