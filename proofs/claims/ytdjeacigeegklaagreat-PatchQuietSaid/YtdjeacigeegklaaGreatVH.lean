/- The iJ of ez of the program. No condition but bK bn stand in each. -/
import Derived.Test.YtdjeacigeegklaaGreatVK
namespace Go.Proofs.YtdjeacigeegklaaGreat
open Go Go.Proofs.Tryz
set_option maxRecDepth 100000
set_option linter.all false
variable {r:(List Int)}
theorem ua{sa0:List Int}(aqv:ml aA sa0≠[])(hm:gT sa0=some r):dN prog 140 [] [lf aA sa0] (λa σ'=>a=.own 500014000∧σ'=[(500014000,.slice 3 1 (ml aA r) 0 false)]):=by
 refine aY func140 rfl rfl ?_
 unfold gT at hm
 refine qS [] [(0,lf aA sa0)] []<|A.seq<|qDs [(1,.sn false (lf aA sa0) (alc aqv))] [] [(4,.bool false)]<|A.cF rfl rfl<|A.skip ?_
 obtain⟨l_1,h1,hm⟩:=af hm
 refine qS [(0,.al 140005),(2,hap 140507 (ap aA (bytes:=8) (by decide) h1))] [(2,.own 140507)] [(140507,.slice 3 1 (ml aA l_1) 0 false)]<|A.ret ?_
 obtain rfl:=some_inj hm
 exact A.fin W0 [.sw 140507 500014000] rfl (by kernel_rfl)
theorem uc(hm:pQ=some r):dN prog 140 [] [.sl0] (λa σ'=>a=.own 500014000∧σ'=[(500014000,.slice 3 1 (ml aA r) 0 false)]):=by
 refine aY func140 rfl rfl ?_
 unfold pQ at hm
 refine qS [] [(0,.sl0)] []<|A.seq<|qDs [(1,.sn false .sl0 (ald))] [] [(4,.bool false)]<|A.cF rfl rfl<|A.skip ?_
 obtain⟨l_1,h1,hm⟩:=af hm
 refine qS [(0,.al 140005),(2,hap 140507 (ap aA (bytes:=8) (by decide) h1))] [(2,.own 140507)] [(140507,.slice 3 1 (ml aA l_1) 0 false)]<|A.ret ?_
 obtain rfl:=some_inj hm
 exact A.fin W0 [.sw 140507 500014000] rfl (by kernel_rfl)
theorem vg(n c:Nat)(w:World):Calls prog 140 #[.slice none n c] w λe w'=>e=.returned (.slice none 0 0)∧w'=w:=by
 have q:∀(w:World) (a:Option Addr) (n c n' c':Nat),(binOp .eql 22 (.slice a n c) (.slice none n' c')).run prog w=.ok (.bool a.isNone) w:=λw a n c n' c'=>Lib.run_eql_slice_nil w _ _ a n c n' c' underlying22
 go_enter func140,Tryz.ntmps140
 go_wp2
 go_ret
 exact⟨rfl,rfl⟩
theorem uJ{s r:List Int}(hm:kG s=some r):dN prog 140 [] [.lst false (ml aA s)] (λa σ'=>a=.own 500014000∧σ'=[(500014000,.slice 3 1 (ml aA r) 0 false)]):=by
 obtain rfl:s=r:=by
  unfold kG gT at hm
  obtain⟨l,h,hm⟩:=af hm
  have:=(aql h).symm
  simp at this;subst this
  exact some_inj hm
 refine aja vg (λh=>ua h hm) (λh=>?_) (λh=>h)
 have h0:s=[]:=by cases s with|nil=>rfl|cons a b=>simp[ml]at h
 subst h0
 exact uc hm
variable {f:bF}
theorem aao{a:Int}{b:Int}{r:Bool}(hm:pR f a b=some r):RO prog 156 [] [.agg (k4 f),i6 a,i6 b] (.bool r):=by
 refine aY func156 rfl rfl ?_
 unfold pR at hm
 refine qS [(0,.al 156003)] [(1,i6 a),(2,i6 b),(3,.ptr 156003 0)] [(156003,.cells 100 (k4 f))] ?_
 obtain⟨ai,h1,hm⟩:=af hm
 rcases ak hm with⟨c1,hm⟩|⟨c1,hm⟩
 ·refine qS [(5,hro (en h1) aa5),(6,hto (bE c1))] [(6,.bool true)] [] ?_
  cases hm
  exact A.ret qE
 obtain⟨aD,h2,hm⟩:=af hm
 refine qS [(5,hro (en h1) aa5),(6,hto (bE c1)),(12,hro (en h2) aa5)] [(6,.bool aD)] [] ?_
 cases hm
 exact A.ret qE
variable {aN:Int}{t:aa}
theorem abm(hm:oB t f aN=some r):RO prog 131 [] [.agg (k2 t),.agg (k4 f),i6 aN] (lf aA r):=by
 refine aY func131 rfl rfl ?_
 unfold oB at hm
 refine qS [(0,.al 131003),(1,.al 131004)] [(2,i6 aN),(3,.ptr 131003 0),(4,.ptr 131004 0)] [(131003,.cells 28 (k2 t)),(131004,.cells 100 (k4 f))]<|qDs [] [] [(7,.aO)]<|A.seq ?_
 obtain⟨ai,h1,hm⟩:=af hm
 refine qD [(2,hro (v8 h1) axN),(3,hto (lnE aA ai))] [3] [(12,lf aA ai),(13,i6 (ai.length:Int)),(14,i6 0)] [131003] []<|A.block<|A.bS 12 rfl λhb1=>?_
 obtain⟨B1,K1,hB1,hK1,hm⟩:=bq hm
 refine A.lpI (l:=ai) (j0:=0) (B:=B1) (K:=K1) hm (λj1=>λaZ=>[(2,i6 aN),(4,.ptr 131004 0),(7,.own 600131007),(12,lf aA ai),(13,i6 (ai.length:Int)),(14,i6 (j1:Int))]) (λj1=>λaZ=>[(131004,.cells 100 (k4 f)),(600131007,.slice 3 1 (ml aA aZ) 0 false)]) ?_ ?_ ?_
 ·exact bt.go [.ad 7 600131007 3 1] [] (by kernel_rfl)
 ·rintro j1 e1 Z1 aZ hj1 hx1 hm
  rw[hB1]at hm
  refine qDs [] [] [(15,.bool (decide ((j1:Int)<(ai.length:Int))))]<|A.seq<|qT (ltT hx1)<|A.skip ?_
  obtain⟨J1,hJ1,hm⟩:=bZ hm
  refine A.J (J:=J1) (r:=r) (λcQ=>[(2,i6 aN),(4,.ptr 131004 0),(7,.own 600131007),(12,lf aA ai),(13,i6 (ai.length:Int)),(14,i6 (j1:Int))]) (λcQ=>[(131004,.cells 100 (k4 f)),(600131007,.slice 3 1 (ml aA cQ) 0 false)]) ?_ ?_
  ·refine A.block<|qDs [(0,hix (ix aA (bA hx1)))] [15] [(9,i6 e1)] ?_
   obtain⟨J2,hJ2,hm⟩:=bZ hm
   refine A.J (J:=J2) (r:=r) (λv_1=>[(2,i6 aN),(4,.ptr 131004 0),(7,.own 600131007),(9,i6 e1),(12,lf aA ai),(13,i6 (ai.length:Int)),(14,i6 (j1:Int)),(27,.bool v_1)]) (λv_1=>[(131004,.cells 100 (k4 f)),(600131007,.slice 3 1 (ml aA aZ) 0 false)]) ?_ ?_
   ·obtain⟨aD,h2,hm⟩:=af hm
    rcases ak hm with⟨c1,hm⟩|⟨c1,hm⟩
    ·exact qGs [(3,hro (bR h2) qC),(4,hto (bE c1))] [] [(27,.bool true)]<|qX true hm
    obtain⟨aX,h3,hm⟩:=af hm
    exact qGs [(3,hro (bR h2) qC),(4,hto (bE c1)),(8,hro (aao h3) axO)] [] [(27,.bool aX)]<|qX aX hm
   rintro v_1 hm
   rw[hJ2]at hm
   rcases ak hm with⟨c2,hm⟩|⟨c2,hm⟩
   ·refine qT c2 ?_
    obtain⟨l_1,h4,hm⟩:=af hm
    exact qG [(3,hap 131531 (ap aA (bytes:=8) (by decide) h4))] [7,9,27] [(7,.own 131531)] [600131007] [(131531,.slice 3 1 (ml aA l_1) 0 false)]<|Exists.intro l_1 (And.intro hm (bt.go [.sw 131531 600131007] [] (by kernel_rfl)))
   exact qF c2<|A.skip<|qX aZ hm
  rintro cQ hm
  rw[hJ1]at hm
  exact qGs [(0,hto (inc hx1 hb1))] [14] [(14,i6 ((j1+1:Nat):Int))]<|qX cQ hm
 rintro j1 aZ hj1 hl1 hm
 rw[hK1]at hm
 refine qDs [] [] [(15,.bool (decide ((j1:Int)<(ai.length:Int))))]<|A.seq<|qF (ltF hl1)<|A.exit<|qD [] [2,4,7,12,13,14,15] [(6,.own 600131007)] [131004] []<|A.ret ?_
 obtain rfl:=some_inj hm
 exact A.fin W0 [.fz [600131007]] rfl (by kernel_rfl)
theorem aap{a:ay}{r:Bool}(hm:pS a=some r):RO prog 80 [] [.agg (k5 a)] (.bool r):=by
 refine aY func80 rfl rfl ?_
 unfold pS at hm
 refine qS [(0,.al 80001)] [(1,.ptr 80001 0)] [(80001,.cells 38 (k5 a))]<|qS [] [(2,.bool (decide (a.Kind=2)))] [] ?_
 cases hm
 exact A.ret qE
theorem mR{e:aC}{r:Bool}(hm:nh e=some r):RO prog 41 [] [.agg (k7 e)] (.bool r):=by
 refine aY func41 rfl rfl ?_
 unfold nh at hm
 refine qS [(0,.al 41001)] [(1,.ptr 41001 0)] [(41001,.cells 32 (k7 e))] ?_
 obtain⟨ai,h1,hm⟩:=af hm
 rcases ak hm with⟨c1,hm⟩|⟨c1,hm⟩
 ·obtain⟨aD,h2,hm⟩:=af hm
  refine qS [(1,hro (iB h1) afW),(3,hto (bE c1)),(6,hro (lP (f_g:=80) (f_c:=[]) (f_k:=ck80) (f_f:=λ_ _ h=>aap h) h2) ck79)] [(2,.bool (!aD))] [] ?_
  cases hm
  exact A.ret qE
 refine qS [(1,hro (iB h1) afW),(3,hto (bE c1))] [(2,.bool false)] [] ?_
 cases hm
 exact A.ret qE
variable {c:bg}
theorem wm{iZ:List Int}{bits:Int}{r:bg}(hm:jZ c iZ bits=some r):RO prog 107 [] [.agg (k11 c),lf aA iZ,.int .u64 bits] (.agg (k11 r)):=by
 refine aY func107 rfl rfl ?_
 unfold jZ at hm
 refine qS [(0,.al 107003),(1,.al 107006)] [(1,lf aA iZ),(2,.int .u64 bits),(3,.ptr 107003 0),(6,.ptr 107006 0)] [(107003,.cells 54 (k11 c)),(107006,.cells 54 [i6 0,.aO,i6 0,i6 0,i6 0,i6 0,i6 0,i6 0,i6 0,i6 0,.int .u64 (0:Int),.str (⟨#[]⟩:ByteArray)])] ?_
 obtain⟨e_1,h1,hm⟩:=af hm
 refine qD [(1,hix (ix aA h1))] [] [] [107003] [(107003,.cells 54 [i6 e_1,lf aA c.Frame.gZ,i6 c.Frame.aq.Mode,i6 c.Frame.aq.bU,i6 c.Frame.aq.Set,i6 c.Frame.aq.Length,i6 c.Frame.aq.TTL,i6 c.Frame.aq.cR,i6 c.Frame.aq.cS,i6 c.Frame.aq.dV,.int .u64 c.Frame.aq.Bits,.str c.Frame.aq.cu])] ?_
 obtain⟨l_1,h2,hm⟩:=af hm
 obtain⟨ai,h3,hm⟩:=af hm
 refine qD [(1,hsl (afJ aA h2)),(2,hdc [500014000] (uJ h3) axE)] [1] [] [107003] [(107003,.cells 54 [i6 e_1,.own 500014000,i6 c.Frame.aq.Mode,i6 c.Frame.aq.bU,i6 c.Frame.aq.Set,i6 c.Frame.aq.Length,i6 c.Frame.aq.TTL,i6 c.Frame.aq.cR,i6 c.Frame.aq.cS,i6 c.Frame.aq.dV,.int .u64 c.Frame.aq.Bits,.str c.Frame.aq.cu]),(500014000,.slice 3 1 (ml aA ai) 0 false)]<|qD [] [2] [] [107003] [(107003,.cells 54 [i6 e_1,.own 500014000,i6 c.Frame.aq.Mode,i6 c.Frame.aq.bU,i6 c.Frame.aq.Set,i6 c.Frame.aq.Length,i6 c.Frame.aq.TTL,i6 c.Frame.aq.cR,i6 c.Frame.aq.cS,i6 c.Frame.aq.dV,.int .u64 bits,.str c.Frame.aq.cu])]<|qD [] [3] [] [107003,107006] [(107006,.cells 54 [i6 e_1,.own 500014000,i6 c.Frame.aq.Mode,i6 c.Frame.aq.bU,i6 c.Frame.aq.Set,i6 c.Frame.aq.Length,i6 c.Frame.aq.TTL,i6 c.Frame.aq.cR,i6 c.Frame.aq.cS,i6 c.Frame.aq.dV,.int .u64 bits,.str c.Frame.aq.cu])]<|A.ret ?_
 obtain rfl:=some_inj hm
 exact A.fin W0 [.fz [500014000]] rfl (by kernel_rfl)
theorem abn{e:aC}{r:(List bg)×Int}(hm:oC e t aN c=some r):RO prog 60 [] [.agg (k7 e),.agg (k2 t),i6 aN,.agg (k11 c)] (.tup [lf dn r.1,.int .u64 r.2]):=by
 refine aY func60 rfl rfl ?_
 unfold oC at hm
 refine qS [(0,.al 60004),(1,.al 60005),(2,.al 60007)] [(2,i6 aN),(4,.ptr 60004 0),(5,.ptr 60005 0),(7,.ptr 60007 0),(8,.aO)] [(60004,.cells 32 (k7 e)),(60005,.cells 28 (k2 t)),(60007,.cells 54 (k11 c))]<|qDs [] [] [(10,.int .u64 c.Frame.aq.Bits),(11,i6 c.To)] ?_
 obtain⟨ai,h1,hm⟩:=af hm
 refine qDs [(3,hro (uA h1) ani)] [] [(12,.int .u64 (aS .andNot .u64 c.Frame.aq.Bits ai))] ?_
 obtain⟨aD,h2,hm⟩:=af hm
 refine qD [(4,hro (ov h2) alC),(5,.al 60013)] [] [(13,.ptr 60013 0)] [] [(60013,.cells 28 (k2 aD))]<|qDs [] [] [(14,.int .u64 (0:Int)),(15,.int .u64 (0:Int))]<|A.seq<|qD [(2,hto (lnE aB e.List))] [4] [(38,lf aB e.List),(39,i6 (e.List.length:Int)),(40,i6 0)] [60004] []<|A.block<|A.bS 38 rfl λhb1=>?_
 obtain⟨B1,K1,hB1,hK1,hm⟩:=bq hm
 refine A.lpI (l:=e.List) (j0:=0) (B:=B1) (K:=K1) hm (λj1=>λ(aZ,fe,eV)=>[(2,i6 aN),(5,.ptr 60005 0),(7,.ptr 60007 0),(8,.own 600060008),(10,.int .u64 c.Frame.aq.Bits),(11,i6 c.To),(12,.int .u64 (aS .andNot .u64 c.Frame.aq.Bits ai)),(13,.ptr 60013 0),(14,.int .u64 fe),(15,.int .u64 eV),(38,lf aB e.List),(39,i6 (e.List.length:Int)),(40,i6 (j1:Int))]) (λj1=>λ(aZ,fe,eV)=>[(60005,.cells 28 (k2 t)),(60007,.cells 54 (k11 c)),(60013,.cells 28 (k2 aD)),(600060008,.slice 54 12 (ml dn aZ) 0 false)]) ?_ ?_ ?_
 ·exact bt.go [.ad 8 600060008 54 12] [] (by kernel_rfl)
 ·rintro j1 e1 Z1 ⟨aZ,fe,eV⟩ hj1 hx1 hm
  rw[hB1]at hm
  refine qDs [] [] [(41,.bool (decide ((j1:Int)<(e.List.length:Int))))]<|A.seq<|qT (ltT hx1)<|A.skip ?_
  obtain⟨J1,hJ1,hm⟩:=bZ hm
  refine A.J (J:=J1) (r:=r) (λ(cQ,w8,sv)=>[(2,i6 aN),(5,.ptr 60005 0),(7,.ptr 60007 0),(8,.own 600060008),(10,.int .u64 c.Frame.aq.Bits),(11,i6 c.To),(12,.int .u64 (aS .andNot .u64 c.Frame.aq.Bits ai)),(13,.ptr 60013 0),(14,.int .u64 w8),(15,.int .u64 sv),(38,lf aB e.List),(39,i6 (e.List.length:Int)),(40,i6 (j1:Int))]) (λ(cQ,w8,sv)=>[(60005,.cells 28 (k2 t)),(60007,.cells 54 (k11 c)),(60013,.cells 28 (k2 aD)),(600060008,.slice 54 12 (ml dn cQ) 0 false)]) ?_ ?_
  ·refine A.block<|qD [(0,hix (ix aB (bA hx1))),(2,.al 60017)] [41] [(17,.ptr 60017 0)] [] [(60017,.cells 38 (k5 e1))] ?_
   obtain⟨h3,hm⟩:=eE hm
   refine qDs [(2,.sh e1.Bit (of_decide_eq_true h3))] [] [(18,.int .u64 (IntKind.wrap .u64 ((1:Int)*2 ^ min e1.Bit.toNat 64)))]<|A.seq<|A.mid [(2,i6 aN),(5,.ptr 60005 0),(7,.ptr 60007 0),(8,.own 600060008),(10,.int .u64 c.Frame.aq.Bits),(11,i6 c.To),(12,.int .u64 (aS .andNot .u64 c.Frame.aq.Bits ai)),(13,.ptr 60013 0),(14,.int .u64 fe),(15,.int .u64 eV),(38,lf aB e.List),(39,i6 (e.List.length:Int)),(40,i6 (j1:Int)),(17,.ptr 60017 0),(18,.int .u64 (IntKind.wrap .u64 ((1:Int)*2 ^ min e1.Bit.toNat 64))),(56,.bool ((!decide (e1.aK=c.To))||(decide (aS .and .u64 c.Frame.aq.Bits (IntKind.wrap .u64 ((1:Int)*2 ^ min e1.Bit.toNat 64))=(0:Int)))))] [(60005,.cells 28 (k2 t)),(60007,.cells 54 (k11 c)),(60013,.cells 28 (k2 aD)),(600060008,.slice 54 12 (ml dn aZ) 0 false),(60017,.cells 38 (k5 e1))] (λhk=>?_) ?_
   ·rcases tf (!decide (e1.aK=c.To))with c1|c1
    ·exact qS [(4,hto (bE c1)),(9,hto (orT (q:=decide (aS .and .u64 c.Frame.aq.Bits (IntKind.wrap .u64 ((1:Int)*2 ^ min e1.Bit.toNat 64))=(0:Int))) c1))] _ _ hk
    exact qS [(4,hto (bE c1)),(9,hto (orF (q:=decide (aS .and .u64 c.Frame.aq.Bits (IntKind.wrap .u64 ((1:Int)*2 ^ min e1.Bit.toNat 64))=(0:Int))) c1))] _ _ hk
   rcases ak hm with⟨c2,hm⟩|⟨c2,hm⟩
   ·exact qT c2<|A.exit<|qX (aZ,fe,eV) hm
   refine qF c2<|A.skip<|A.block<|qDs [] [56] [(57,.bool (decide (e1.Kind=3)))] ?_
   rcases ak hm with⟨c3,hm⟩|⟨c3,hm⟩
   ·exact qT c3<|qG [] [14,17,18,57] [(14,.int .u64 (aS .or .u64 fe (IntKind.wrap .u64 ((1:Int)*2 ^ min e1.Bit.toNat 64))))] [60017] []<|qX (aZ,aS .or .u64 fe (IntKind.wrap .u64 ((1:Int)*2 ^ min e1.Bit.toNat 64)),eV) hm
   refine qF c3<|qDs [] [57] [(64,.bool (decide (e1.To=aN)))] ?_
   rcases ak hm with⟨c4,hm⟩|⟨c4,hm⟩
   ·exact qT c4<|A.skip<|qX (aZ,fe,eV) hm
   refine qF c4 ?_
   obtain⟨aX,h4,hm⟩:=af hm
   refine qDs [(4,hro (wM h4) axr)] [64] [(69,.bool (!aX))] ?_
   rcases ak hm with⟨c5,hm⟩|⟨c5,hm⟩
   ·exact qT c5<|qG [] [14,15,17,18,69] [(14,.int .u64 (aS .or .u64 fe (IntKind.wrap .u64 ((1:Int)*2 ^ min e1.Bit.toNat 64)))),(15,.int .u64 (aS .or .u64 eV (IntKind.wrap .u64 ((1:Int)*2 ^ min e1.Bit.toNat 64))))] [60017] []<|qX (aZ,aS .or .u64 fe (IntKind.wrap .u64 ((1:Int)*2 ^ min e1.Bit.toNat 64)),aS .or .u64 eV (IntKind.wrap .u64 ((1:Int)*2 ^ min e1.Bit.toNat 64))) hm
   refine qF c5<|qDs [] [18,69] [(82,.bool (!decide (aS .andNot .u64 c.Frame.aq.Bits ai=0)))] ?_
   rcases ak hm with⟨c6,hm⟩|⟨c6,hm⟩
   ·refine qT c6 ?_
    obtain⟨bu,h5,hm⟩:=af hm
    obtain⟨bz,h6,hm⟩:=af hm
    obtain⟨l_1,h7,hm⟩:=af hm
    exact qG [(6,hro (tI h5) ank),(8,hro (wm h6) anj),(10,hap 60595 (ap dn (bytes:=120) (by decide) h7))] [8,17,82] [(8,.own 60595)] [600060008,60017] [(60595,.slice 54 12 (ml dn l_1) 0 false)]<|Exists.intro (l_1,fe,eV) (And.intro hm (bt.go [.sw 60595 600060008] [] (by kernel_rfl)))
   exact qF c6<|A.skip<|qX (aZ,fe,eV) hm
  rintro⟨cQ,w8,sv⟩ hm
  rw[hJ1]at hm
  exact qGs [(0,hto (inc hx1 hb1))] [40] [(40,i6 ((j1+1:Nat):Int))]<|qX (cQ,w8,sv) hm
 rintro j1 ⟨aZ,fe,eV⟩ hj1 hl1 hm
 rw[hK1]at hm
 refine qDs [] [] [(41,.bool (decide ((j1:Int)<(e.List.length:Int))))]<|A.seq<|qF (ltF hl1)<|A.exit<|A.seq<|qD [] [10,13,38,39,40,41] [(98,.bool (decide (fe=0)))] [60013] [] ?_
 rcases ak hm with⟨c7,hm⟩|⟨c7,hm⟩
 ·refine qT c7<|qD [] [2,5,7,11,12,14,15,98] [(9,.int .u64 (0:Int))] [60005,60007] []<|A.ret ?_
  obtain rfl:=some_inj hm
  exact A.fin W0 [.fz [600060008]] rfl (by kernel_rfl)
 refine qF c7<|A.skip ?_
 obtain⟨cw,h8,hm⟩:=af hm
 refine qD [(6,hro (ov h8) alC),(7,.al 60019)] [5,98] [(19,.ptr 60019 0)] [60005] [(60019,.cells 28 (k2 cw))] ?_
 obtain⟨bN,h9,hm⟩:=af hm
 refine qD [(3,hro (tI h9) ank)] [2,11,19] [(20,lf aA bN)] [60019] []<|A.seq<|qDs [(1,hto (lnE aA bN))] [] [(113,.bool (decide ((bN.length:Int)=(0:Int))))] ?_
 rcases ak hm with⟨c8,hm⟩|⟨c8,hm⟩
 ·refine qT c8<|qD [] [7,12,14,15,20,113] [(9,.int .u64 fe)] [60007] []<|A.ret ?_
  obtain rfl:=some_inj hm
  exact A.fin W0 [.fz [600060008]] rfl (by kernel_rfl)
 refine qF c8<|A.skip ?_
 obtain⟨J2,hJ2,hm⟩:=bZ hm
 refine A.J (J:=J2) (r:=r) (λac3=>[(7,.ptr 60007 0),(8,.own 600060008),(14,.int .u64 ac3),(20,lf aA bN)]) (λac3=>[(60007,.cells 54 (k11 c)),(600060008,.slice 54 12 (ml dn aZ) 0 false)]) ?_ ?_
 ·refine qDs [] [15,113] [(117,.bool (!decide (eV=0)))] ?_
  rcases ak hm with⟨c9,hm⟩|⟨c9,hm⟩
  ·exact qT c9<|qGs [] [12,14,117] [(14,.int .u64 (aS .or .u64 fe (aS .andNot .u64 c.Frame.aq.Bits ai)))]<|qX (aS .or .u64 fe (aS .andNot .u64 c.Frame.aq.Bits ai)) hm
  exact qF c9<|A.skip<|qX fe hm
 rintro ac3 hm
 rw[hJ2]at hm
 obtain⟨fq,h10,hm⟩:=af hm
 obtain⟨l_2,h11,hm⟩:=af hm
 refine qS [(4,hro (wm h10) anj),(6,hap 60627 (ap dn (bytes:=120) (by decide) h11))] [(8,.own 60627),(9,.int .u64 (0:Int))] [(60627,.slice 54 12 (ml dn l_2) 0 false)]<|A.ret ?_
 obtain rfl:=some_inj hm
 exact A.fin W0 [.fz [60627]] rfl (by kernel_rfl)
variable {p:aH}
theorem uB{e:aC}{down:List Int}{r:cG×Int}(hm:lU e t aN p down=some r):RO prog 15 [] [.agg (k7 e),.agg (k2 t),i6 aN,.agg (k10 p),lf aA down] (.tup [.agg (k12 r.1),i6 r.2]):=by
 refine aY func15 rfl rfl ?_
 unfold lU at hm
 refine qS [(0,.al 15005),(1,.al 15006),(2,.al 15008),(3,.al 15010)] [(2,i6 aN),(4,lf aA down),(5,.ptr 15005 0),(6,.ptr 15006 0),(8,.ptr 15008 0),(10,.ptr 15010 0)] [(15005,.cells 32 (k7 e)),(15006,.cells 28 (k2 t)),(15008,.cells 36 (k10 p)),(15010,.cells 46 [.int .u64 (0:Int),.int .u64 (0:Int),.aO])] ?_
 obtain⟨ai,h1,hm⟩:=af hm
 refine qD [(3,hro (wO h1) ck35),(7,.al 15012)] [8] [(12,.ptr 15012 0),(13,i6 ai.2)] [15008] [(15012,.cells 46 (k12 ai.1))]<|A.seq<|qDs [] [] [(27,.bool (!decide (ai.2=0)))] ?_
 rcases ak hm with⟨c1,hm⟩|⟨c1,hm⟩
 ·refine qT c1<|qD [] [2,4,5,6,12,13,27] [(11,i6 ai.2)] [15005,15006,15012] [] ?_
  cases hm
  exact A.ret qE
 refine qF c1<|A.skip<|A.seq ?_
 obtain⟨J1,hJ1,hm⟩:=bZ hm
 refine A.J (J:=J1) (r:=r) (λv_1=>[(2,i6 aN),(4,lf aA down),(5,.ptr 15005 0),(6,.ptr 15006 0),(10,.ptr 15010 0),(12,.ptr 15012 0),(37,.bool v_1)]) (λv_1=>[(15005,.cells 32 (k7 e)),(15006,.cells 28 (k2 t)),(15010,.cells 46 [.int .u64 (0:Int),.int .u64 (0:Int),.aO]),(15012,.cells 46 (k12 ai.1))]) ?_ ?_
 ·obtain⟨aD,h2,hm⟩:=af hm
  rcases ak hm with⟨c2,hm⟩|⟨c2,hm⟩
  ·exact qGs [(1,hro (mR h2) afU),(3,hto (bE c2))] [13,27] [(37,.bool true)]<|qX true hm
  obtain⟨aX,h3,hm⟩:=af hm
  exact qGs [(1,hro (mR h2) afU),(3,hto (bE c2)),(5,hro (kI h3) afV)] [13,27] [(37,.bool (!decide (aX=0)))]<|qX (!decide (aX=0)) hm
 rintro v_1 hm
 rw[hJ1]at hm
 rcases ak hm with⟨c3,hm⟩|⟨c3,hm⟩
 ·refine qT c3<|qD [] [2,4,5,6,12,37] [(11,i6 1)] [15005,15006,15012] [] ?_
  cases hm
  exact A.ret qE
 refine qF c3<|A.skip<|qD [(5,.al 15014)] [37] [(14,.ptr 15014 0)] [] [(15014,.cells 46 [.int .u64 ai.1.Local,.int .u64 ai.1.jF,.aO])]<|A.seq<|qD [(2,hto (lnE dn ai.1.bY))] [12] [(45,lf dn ai.1.bY),(46,i6 (ai.1.bY.length:Int)),(47,i6 0)] [15012] []<|A.block<|A.bS 45 rfl λhb1=>?_
 obtain⟨B1,K1,hB1,hK1,hm⟩:=bq hm
 refine A.lpI (l:=ai.1.bY) (j0:=0) (B:=B1) (K:=K1) hm (λj1=>λ(m_1,m_2)=>[(2,i6 aN),(4,lf aA down),(5,.ptr 15005 0),(6,.ptr 15006 0),(10,.ptr 15010 0),(14,.ptr 15014 0),(45,lf dn ai.1.bY),(46,i6 (ai.1.bY.length:Int)),(47,i6 (j1:Int))]) (λj1=>λ(m_1,m_2)=>[(15005,.cells 32 (k7 e)),(15006,.cells 28 (k2 t)),(15010,.cells 46 [.int .u64 (0:Int),.int .u64 (0:Int),.aO]),(15014,.cells 46 [.int .u64 ai.1.Local,.int .u64 m_1,.own 701501402]),(701501402,.slice 54 12 (ml dn m_2) 0 false)]) ?_ ?_ ?_
 ·exact bt.go [.ac 15014 701501402 54 12 2] [] (by kernel_rfl)
 ·rintro j1 e1 Z1 ⟨m_1,m_2⟩ hj1 hx1 hm
  rw[hB1]at hm
  refine qDs [] [] [(48,.bool (decide ((j1:Int)<(ai.1.bY.length:Int))))]<|A.seq<|qT (ltT hx1)<|A.skip ?_
  obtain⟨J2,hJ2,hm⟩:=bZ hm
  refine A.J (J:=J2) (r:=r) (λ(m_3,m_4)=>[(2,i6 aN),(4,lf aA down),(5,.ptr 15005 0),(6,.ptr 15006 0),(10,.ptr 15010 0),(14,.ptr 15014 0),(45,lf dn ai.1.bY),(46,i6 (ai.1.bY.length:Int)),(47,i6 (j1:Int))]) (λ(m_3,m_4)=>[(15005,.cells 32 (k7 e)),(15006,.cells 28 (k2 t)),(15010,.cells 46 [.int .u64 (0:Int),.int .u64 (0:Int),.aO]),(15014,.cells 46 [.int .u64 ai.1.Local,.int .u64 m_3,.own 701501402]),(701501402,.slice 54 12 (ml dn m_4) 0 false)]) ?_ ?_
  ·refine A.block<|qD [(0,hix (ix dn (bA hx1))),(2,.al 15016)] [48] [(16,.ptr 15016 0)] [] [(15016,.cells 54 (k11 e1))] ?_
   refine A.seq ?_
   obtain⟨bu,h4,hm⟩:=af hm
   refine qDs [(3,hro (bR h4) qC)] [] [(55,.bool (!bu))] ?_
   rcases ak hm with⟨c4,hm⟩|⟨c4,hm⟩
   ·refine qT c4 ?_
    obtain⟨l_1,h5,hm⟩:=af hm
    exact qD [(4,hap 15560 (ap dn (bytes:=120) (by decide) h5))] [55] [] [15014,701501402] [(15014,.cells 46 [.int .u64 ai.1.Local,.int .u64 m_1,.own 15560]),(15560,.slice 54 12 (ml dn l_1) 0 false)]<|A.exit<|Exists.intro (m_1,l_1) (And.intro hm (bt.go [.sw 15560 701501402] [] (by kernel_rfl)))
   refine qF c4<|A.skip ?_
   obtain⟨bz,h6,hm⟩:=af hm
   refine qD [(4,hro (abn h6) ck60)] [16,55] [(17,lf dn bz.1),(18,.int .u64 bz.2)] [15016] [] ?_
   obtain⟨l_2,h7,hm⟩:=af hm
   exact qG [(3,hap 15573 (ap dn (bytes:=120) (by decide) h7))] [17,18] [] [15014,701501402] [(15014,.cells 46 [.int .u64 ai.1.Local,.int .u64 (aS .or .u64 m_1 bz.2),.own 15573]),(15573,.slice 54 12 (ml dn l_2) 0 false)]<|Exists.intro (aS .or .u64 m_1 bz.2,l_2) (And.intro hm (bt.go [.sw 15573 701501402] [] (by kernel_rfl)))
  rintro⟨m_3,m_4⟩ hm
  rw[hJ2]at hm
  exact qGs [(0,hto (inc hx1 hb1))] [47] [(47,i6 ((j1+1:Nat):Int))]<|qX (m_3,m_4) hm
 rintro j1 ⟨m_1,m_2⟩ hj1 hl1 hm
 rw[hK1]at hm
 refine qDs [] [] [(48,.bool (decide ((j1:Int)<(ai.1.bY.length:Int))))]<|A.seq<|qF (ltF hl1)<|A.exit<|qD [] [2,4,5,6,14,45,46,47,48] [(11,i6 0)] [15005,15006,15010,15014] [(15010,.cells 46 [.int .u64 ai.1.Local,.int .u64 m_1,.own 701501402])]<|A.ret ?_
 obtain rfl:=some_inj hm
 exact A.fin W0 [.fz [701501402]] rfl (by kernel_rfl)
variable {d:dy}
theorem rq{r:dy}(hm:gN d aN c=some r):dN prog 130 [(505013000,.slice 78 11 (ml cO d.cV.cK) 0 false),(505013002,.slice 81 3 (ml dz d.cV.cn) 0 false),(505013004,.slice 141 2 (ml fc d.cV.dP) 0 false),(505013006,.win 154 12 (ml dQ d.je)),(900000157,.cells 157 [i6 d.cA.Length,lf aB d.cA.List,lf aI d.dh.aj,lf aT d.dh.Links,lf aI d.eA.aj,lf aT d.eA.Links,lf bJ d.cL.Links,lf aA d.cL.aj,.own 505013000,.own 505013002,.own 505013004,.own 505013006])] [.ptr 900000157 0,i6 aN,.agg (k11 c)] (λa σ'=>a=.tup []∧σ'=[(900000157,.cells 157 [i6 r.cA.Length,lf aB r.cA.List,lf aI r.dh.aj,lf aT r.dh.Links,lf aI r.eA.aj,lf aT r.eA.Links,lf bJ r.cL.Links,lf aA r.cL.aj,.own 505013001,.own 505013003,.own 505013005,.own 505013007]),(505013001,.slice 78 11 (ml cO r.cV.cK) 0 false),(505013003,.slice 81 3 (ml dz r.cV.cn) 0 false),(505013005,.slice 141 2 (ml fc r.cV.dP) 0 false),(505013007,.win 154 12 (ml dQ r.je))]):=by
 refine aY func130 rfl rfl ?_
 unfold gN at hm
 refine qS [(0,.al 130005)] [(0,.ptr 900000157 0),(1,i6 aN),(5,.ptr 130005 0)] [(505013000,.slice 78 11 (ml cO d.cV.cK) 0 false),(505013002,.slice 81 3 (ml dz d.cV.cn) 0 false),(505013004,.slice 141 2 (ml fc d.cV.dP) 0 false),(505013006,.win 154 12 (ml dQ d.je)),(900000157,.cells 157 [i6 d.cA.Length,lf aB d.cA.List,lf aI d.dh.aj,lf aT d.dh.Links,lf aI d.eA.aj,lf aT d.eA.Links,lf bJ d.cL.Links,lf aA d.cL.aj,.own 505013000,.own 505013002,.own 505013004,.own 505013006]),(130005,.cells 54 (k11 c))]<|qDs [] [] [(6,.int .u64 c.Frame.aq.Bits)]<|A.seq ?_
 obtain⟨ai,h1,hm⟩:=af hm
 refine qDs [(7,hro (aaf h1) axv)] [] [(8,.bool ai.2)]<|qDs [] [8] [(25,.bool (!ai.2))] ?_
 rcases ak hm with⟨c1,hm⟩|⟨c1,hm⟩
 ·refine qT c1 ?_
  obtain⟨l_1,h2,hm⟩:=af hm
  refine qD [(10,hap 130536 (ap fc (bytes:=16) (by decide) h2))] [0,1,5,6,25] [] [505013004,900000157,130005] [(900000157,.cells 157 [i6 d.cA.Length,lf aB d.cA.List,lf aI d.dh.aj,lf aT d.dh.Links,lf aI d.eA.aj,lf aT d.eA.Links,lf bJ d.cL.Links,lf aA d.cL.aj,.own 505013000,.own 505013002,.own 130536,.own 505013006]),(130536,.slice 141 2 (ml fc l_1) 0 false)]<|A.ret ?_
  obtain rfl:=some_inj hm
  exact A.fin W0 [.rn 505013000 505013001,.rn 505013002 505013003,.sw 130536 505013005,.rn 505013006 505013007] rfl (by kernel_rfl)
 refine qF c1<|A.skip ?_
 obtain⟨l_2,h3,hm⟩:=af hm
 refine qD [(12,hap 130552 (ap dz (bytes:=24) (by decide) h3))] [1,6,25] [] [505013002,900000157] [(900000157,.cells 157 [i6 d.cA.Length,lf aB d.cA.List,lf aI d.dh.aj,lf aT d.dh.Links,lf aI d.eA.aj,lf aT d.eA.Links,lf bJ d.cL.Links,lf aA d.cL.aj,.own 505013000,.own 130552,.own 505013004,.own 505013006]),(130552,.slice 81 3 (ml dz l_2) 0 false)] ?_
 obtain⟨l_3,h4,hm⟩:=af hm
 refine qG [(11,hap 130567 (ap dQ (bytes:=120) (by decide) h4))] [0,5] [] [505013006,900000157,130005] [(900000157,.cells 157 [i6 d.cA.Length,lf aB d.cA.List,lf aI d.dh.aj,lf aT d.dh.Links,lf aI d.eA.aj,lf aT d.eA.Links,lf bJ d.cL.Links,lf aA d.cL.aj,.own 505013000,.own 130552,.own 505013004,.own 130567]),(130567,.win 154 12 (ml dQ l_3))] ?_
 obtain rfl:=some_inj hm
 exact A.fin W0 [.rn 505013000 505013001,.sw 130552 505013003,.rn 505013004 505013005,.sw 130567 505013007] rfl (by kernel_rfl)
theorem wq{v:bh}{r:dy}(hm:jl d v=some r):dN prog 84 [(505008400,.slice 78 11 (ml cO d.cV.cK) 0 false),(505008402,.slice 81 3 (ml dz d.cV.cn) 0 false),(505008404,.slice 141 2 (ml fc d.cV.dP) 0 false),(505008406,.win 154 12 (ml dQ d.je)),(900000157,.cells 157 [i6 d.cA.Length,lf aB d.cA.List,lf aI d.dh.aj,lf aT d.dh.Links,lf aI d.eA.aj,lf aT d.eA.Links,lf bJ d.cL.Links,lf aA d.cL.aj,.own 505008400,.own 505008402,.own 505008404,.own 505008406])] [.ptr 900000157 0,.agg (k15 v)] (λa σ'=>a=.tup []∧σ'=[(900000157,.cells 157 [i6 r.cA.Length,lf aB r.cA.List,lf aI r.dh.aj,lf aT r.dh.Links,lf aI r.eA.aj,lf aT r.eA.Links,lf bJ r.cL.Links,lf aA r.cL.aj,.own 505008401,.own 505008403,.own 505008405,.own 505008407]),(505008401,.slice 78 11 (ml cO r.cV.cK) 0 false),(505008403,.slice 81 3 (ml dz r.cV.cn) 0 false),(505008405,.slice 141 2 (ml fc r.cV.dP) 0 false),(505008407,.win 154 12 (ml dQ r.je))]):=by
 refine aY func84 rfl rfl ?_
 unfold jl at hm
 refine qS [(0,.al 84003)] [(0,.ptr 900000157 0),(3,.ptr 84003 0)] [(505008400,.slice 78 11 (ml cO d.cV.cK) 0 false),(505008402,.slice 81 3 (ml dz d.cV.cn) 0 false),(505008404,.slice 141 2 (ml fc d.cV.dP) 0 false),(505008406,.win 154 12 (ml dQ d.je)),(900000157,.cells 157 [i6 d.cA.Length,lf aB d.cA.List,lf aI d.dh.aj,lf aT d.dh.Links,lf aI d.eA.aj,lf aT d.eA.Links,lf bJ d.cL.Links,lf aA d.cL.aj,.own 505008400,.own 505008402,.own 505008404,.own 505008406]),(84003,.cells 154 (k15 v))]<|A.seq<|qD [(2,.al 84004)] [] [(4,.ptr 84004 0)] [] [(84004,.cells 52 [lf aA v.dA.gZ,i6 v.dA.aq.Mode,i6 v.dA.aq.bU,i6 v.dA.aq.Set,i6 v.dA.aq.Length,i6 v.dA.aq.TTL,i6 v.dA.aq.cR,i6 v.dA.aq.cS,i6 v.dA.aq.dV,.int .u64 v.dA.aq.Bits,.str v.dA.aq.cu])]<|qDs [(2,hto (lnE aA v.dA.gZ))] [] [(17,.bool (decide (0<(v.dA.gZ.length:Int))))] ?_
 rcases ak hm with⟨c1,hm⟩|⟨c1,hm⟩
 ·refine qT c1 ?_
  obtain⟨e_1,h1,hm⟩:=af hm
  obtain⟨l_1,h2,hm⟩:=af hm
  obtain⟨ai,h3,hm⟩:=af hm
  refine qS [(5,hix (ix aA h1)),(9,hsl (afJ aA h2)),(14,hdc [520084001,520084002,520084003,520084004] (SC.at [(505013000,505008400),(505013002,505008402),(505013004,505008404),(505013006,505008406),(505013001,520084001),(505013003,520084002),(505013005,520084003),(505013007,520084004)] (rq h3)) anm)] [] [(900000157,.cells 157 [i6 ai.cA.Length,lf aB ai.cA.List,lf aI ai.dh.aj,lf aT ai.dh.Links,lf aI ai.eA.aj,lf aT ai.eA.Links,lf bJ ai.cL.Links,lf aA ai.cL.aj,.own 520084001,.own 520084002,.own 520084003,.own 520084004]),(520084001,.slice 78 11 (ml cO ai.cV.cK) 0 false),(520084002,.slice 81 3 (ml dz ai.cV.cn) 0 false),(520084003,.slice 141 2 (ml fc ai.cV.dP) 0 false),(520084004,.win 154 12 (ml dQ ai.je))]<|A.ret ?_
  obtain rfl:=some_inj hm
  exact A.fin W0 [.sw 520084001 505008401,.sw 520084002 505008403,.sw 520084003 505008405,.sw 520084004 505008407] rfl (by kernel_rfl)
 refine qF c1<|A.skip<|qD [(3,.al 84005)] [4,17] [(5,.ptr 84005 0)] [84004] [(84005,.cells 36 (k10 v.dA.aq))] ?_
 obtain⟨aD,h4,hm⟩:=af hm
 obtain⟨aX,h5,hm⟩:=af hm
 refine qD [(21,hro (abm h4) axy),(22,hro (uB h5) auc),(26,.al 84006)] [] [(6,.ptr 84006 0)] [] [(84006,.cells 46 (k12 aX.1))]<|A.seq<|qDs [(5,hto (lnE aB d.cA.List))] [] [(66,lf aB d.cA.List),(67,i6 (d.cA.List.length:Int)),(68,i6 0)]<|A.block<|A.bS 66 rfl λhb1=>?_
 obtain⟨B1,K1,hB1,hK1,hm⟩:=bq hm
 refine A.lpI (l:=d.cA.List) (j0:=0) (B:=B1) (K:=K1) hm (λj1=>λm_1=>[(0,.ptr 900000157 0),(3,.ptr 84003 0),(5,.ptr 84005 0),(6,.ptr 84006 0),(66,lf aB d.cA.List),(67,i6 (d.cA.List.length:Int)),(68,i6 (j1:Int))]) (λj1=>λm_1=>[(505008402,.slice 81 3 (ml dz d.cV.cn) 0 false),(505008404,.slice 141 2 (ml fc d.cV.dP) 0 false),(505008406,.win 154 12 (ml dQ d.je)),(900000157,.cells 157 [i6 d.cA.Length,lf aB d.cA.List,lf aI d.dh.aj,lf aT d.dh.Links,lf aI d.eA.aj,lf aT d.eA.Links,lf bJ d.cL.Links,lf aA d.cL.aj,.own 700015708,.own 505008402,.own 505008404,.own 505008406]),(84003,.cells 154 (k15 v)),(84005,.cells 36 (k10 v.dA.aq)),(84006,.cells 46 (k12 aX.1)),(700015708,.slice 78 11 (ml cO m_1) 0 false)]) ?_ ?_ ?_
 ·exact bt.go [.rn 505008400 700015708] [] (by kernel_rfl)
 ·rintro j1 e1 Z1 m_1 hj1 hx1 hm
  rw[hB1]at hm
  refine qDs [] [] [(69,.bool (decide ((j1:Int)<(d.cA.List.length:Int))))]<|A.seq<|qT (ltT hx1)<|A.skip ?_
  obtain⟨J1,hJ1,hm⟩:=bZ hm
  refine A.J (J:=J1) (r:=r) (λm_2=>[(0,.ptr 900000157 0),(3,.ptr 84003 0),(5,.ptr 84005 0),(6,.ptr 84006 0),(66,lf aB d.cA.List),(67,i6 (d.cA.List.length:Int)),(68,i6 (j1:Int))]) (λm_2=>[(505008402,.slice 81 3 (ml dz d.cV.cn) 0 false),(505008404,.slice 141 2 (ml fc d.cV.dP) 0 false),(505008406,.win 154 12 (ml dQ d.je)),(900000157,.cells 157 [i6 d.cA.Length,lf aB d.cA.List,lf aI d.dh.aj,lf aT d.dh.Links,lf aI d.eA.aj,lf aT d.eA.Links,lf bJ d.cL.Links,lf aA d.cL.aj,.own 700015708,.own 505008402,.own 505008404,.own 505008406]),(84003,.cells 154 (k15 v)),(84005,.cells 36 (k10 v.dA.aq)),(84006,.cells 46 (k12 aX.1)),(700015708,.slice 78 11 (ml cO m_2) 0 false)]) ?_ ?_
  ·refine A.block<|qD [(0,hix (ix aB (bA hx1))),(2,.al 84009)] [69] [(9,.ptr 84009 0)] [] [(84009,.cells 38 (k5 e1))] ?_
   obtain⟨h6,hm⟩:=eE hm
   refine qDs [(4,.sh e1.Bit (of_decide_eq_true h6))] [] [(78,.bool (decide (aS .and .u64 (Int.fdiv aX.1.Local (2 ^ min e1.Bit.toNat 64)) (1:Int)=(1:Int))))] ?_
   rcases ak hm with⟨c2,hm⟩|⟨c2,hm⟩
   ·refine qT c2 ?_
    obtain⟨bu,h7,hm⟩:=af hm
    obtain⟨l_2,h8,hm⟩:=af hm
    exact qG [(11,hro (ab9 h7) ck73),(14,hap 84593 (ap cO (bytes:=96) (by decide) h8))] [9,78] [] [900000157,700015708,84009] [(900000157,.cells 157 [i6 d.cA.Length,lf aB d.cA.List,lf aI d.dh.aj,lf aT d.dh.Links,lf aI d.eA.aj,lf aT d.eA.Links,lf bJ d.cL.Links,lf aA d.cL.aj,.own 84593,.own 505008402,.own 505008404,.own 505008406]),(84593,.slice 78 11 (ml cO l_2) 0 false)]<|Exists.intro l_2 (And.intro hm (bt.go [.sw 84593 700015708] [] (by kernel_rfl)))
   exact qF c2<|A.skip<|qX m_1 hm
  rintro m_2 hm
  rw[hJ1]at hm
  exact qGs [(0,hto (inc hx1 hb1))] [68] [(68,i6 ((j1+1:Nat):Int))]<|qX m_2 hm
 rintro j1 m_1 hj1 hl1 hm
 rw[hK1]at hm
 refine qDs [] [] [(69,.bool (decide ((j1:Int)<(d.cA.List.length:Int))))]<|A.seq<|qF (ltF hl1)<|A.exit ?_
 obtain⟨J2,hJ2,hm⟩:=bZ hm
 refine A.J (J:=J2) (r:=r) (λm_3=>[(0,.ptr 900000157 0),(3,.ptr 84003 0),(6,.ptr 84006 0)]) (λm_3=>[(505008402,.slice 81 3 (ml dz d.cV.cn) 0 false),(505008406,.win 154 12 (ml dQ d.je)),(900000157,.cells 157 [i6 d.cA.Length,lf aB d.cA.List,lf aI d.dh.aj,lf aT d.dh.Links,lf aI d.eA.aj,lf aT d.eA.Links,lf bJ d.cL.Links,lf aA d.cL.aj,.own 700015708,.own 505008402,.own 700015710,.own 505008406]),(84003,.cells 154 (k15 v)),(84006,.cells 46 (k12 aX.1)),(700015708,.slice 78 11 (ml cO m_1) 0 false),(700015710,.slice 141 2 (ml fc m_3) 0 false)]) ?_ ?_
 ·refine qD [] [5,66,67,68,69] [(100,.bool (!decide (aX.1.jF=0)))] [84005] [] ?_
  rcases ak hm with⟨c3,hm⟩|⟨c3,hm⟩
  ·refine qT c3 ?_
   obtain⟨l_3,h9,hm⟩:=af hm
   exact qG [(12,hap 84613 (ap fc (bytes:=16) (by decide) h9))] [100] [] [505008404,900000157] [(900000157,.cells 157 [i6 d.cA.Length,lf aB d.cA.List,lf aI d.dh.aj,lf aT d.dh.Links,lf aI d.eA.aj,lf aT d.eA.Links,lf bJ d.cL.Links,lf aA d.cL.aj,.own 700015708,.own 505008402,.own 84613,.own 505008406]),(84613,.slice 141 2 (ml fc l_3) 0 false)]<|Exists.intro l_3 (And.intro hm (bt.go [.sw 84613 700015710] [] (by kernel_rfl)))
  exact qF c3<|A.skip<|Exists.intro d.cV.dP (And.intro hm (bt.go [.rn 505008404 700015710] [] (by kernel_rfl)))
 rintro m_3 hm
 rw[hJ2]at hm
 refine qD [(2,hto (lnE dn aX.1.bY))] [6] [(118,lf dn aX.1.bY),(119,i6 (aX.1.bY.length:Int)),(120,i6 0)] [84006] []<|A.block<|A.bS 118 rfl λhb2=>?_
 obtain⟨B2,K2,hB2,hK2,hm⟩:=bq hm
 refine A.lpI (l:=aX.1.bY) (j0:=0) (B:=B2) (K:=K2) hm (λj2=>λ(m_4,m_5,m_6,m_7,m_8,m_9,mY,mw,lH,fm,rJ,rK)=>[(0,.ptr 900000157 0),(3,.ptr 84003 0),(118,lf dn aX.1.bY),(119,i6 (aX.1.bY.length:Int)),(120,i6 (j2:Int))]) (λj2=>λ(m_4,m_5,m_6,m_7,m_8,m_9,mY,mw,lH,fm,rJ,rK)=>[(900000157,.cells 157 [i6 m_4,lf aB m_5,lf aI m_6,lf aT m_7,lf aI m_8,lf aT m_9,lf bJ mY,lf aA mw,.own 700015708,.own 700015709,.own 700015710,.own 700015711]),(84003,.cells 154 (k15 v)),(700015708,.slice 78 11 (ml cO lH) 0 false),(700015710,.slice 141 2 (ml fc rJ) 0 false),(700015709,.slice 81 3 (ml dz fm) 0 false),(700015711,.win 154 12 (ml dQ rK))]) ?_ ?_ ?_
 ·exact bt.go [.rn 505008402 700015709,.rn 505008406 700015711] [] (by kernel_rfl)
 ·rintro j2 e2 Z2 ⟨m_4,m_5,m_6,m_7,m_8,m_9,mY,mw,lH,fm,rJ,rK⟩ hj2 hx2 hm
  rw[hB2]at hm
  refine qDs [] [] [(121,.bool (decide ((j2:Int)<(aX.1.bY.length:Int))))]<|A.seq<|qT (ltT hx2)<|A.skip<|A.seq<|A.block<|qD [(0,hix (ix dn (bA hx2))),(2,.al 84011)] [121] [(11,.ptr 84011 0)] [] [(84011,.cells 54 (k11 e2))] ?_
  obtain⟨bz,h10,hm⟩:=af hm
  exact qG [(4,hdc [520084005,520084006,520084007,520084008] (SC.at [(505013000,700015708),(505013002,700015709),(505013004,700015710),(505013006,700015711),(505013001,520084005),(505013003,520084006),(505013005,520084007),(505013007,520084008)] (rq h10)) anm)] [11] [] [900000157,700015708,700015710,700015709,700015711,84011] [(900000157,.cells 157 [i6 bz.cA.Length,lf aB bz.cA.List,lf aI bz.dh.aj,lf aT bz.dh.Links,lf aI bz.eA.aj,lf aT bz.eA.Links,lf bJ bz.cL.Links,lf aA bz.cL.aj,.own 520084005,.own 520084006,.own 520084007,.own 520084008]),(520084005,.slice 78 11 (ml cO bz.cV.cK) 0 false),(520084006,.slice 81 3 (ml dz bz.cV.cn) 0 false),(520084007,.slice 141 2 (ml fc bz.cV.dP) 0 false),(520084008,.win 154 12 (ml dQ bz.je))]<|qGs [(0,hto (inc hx2 hb2))] [120] [(120,i6 ((j2+1:Nat):Int))]<|Exists.intro (bz.cA.Length,bz.cA.List,bz.dh.aj,bz.dh.Links,bz.eA.aj,bz.eA.Links,bz.cL.Links,bz.cL.aj,bz.cV.cK,bz.cV.cn,bz.cV.dP,bz.je) (And.intro hm (bt.go [.sw 520084005 700015708,.sw 520084006 700015709,.sw 520084007 700015710,.sw 520084008 700015711] [] (by kernel_rfl)))
 rintro j2 ⟨m_4,m_5,m_6,m_7,m_8,m_9,mY,mw,lH,fm,rJ,rK⟩ hj2 hl2 hm
 rw[hK2]at hm
 refine qDs [] [] [(121,.bool (decide ((j2:Int)<(aX.1.bY.length:Int))))]<|A.seq<|qF (ltF hl2)<|A.exit ?_
 obtain rfl:=some_inj hm
 exact A.fin W0 [.sw 700015708 505008401,.sw 700015709 505008403,.sw 700015710 505008405,.sw 700015711 505008407] rfl (by kernel_rfl)
theorem ye{e:aC}{r:cC×Int}(hm:iV e t f p aN=some r):RO prog 45 [] [.agg (k7 e),.agg (k2 t),.agg (k4 f),.agg (k10 p),i6 aN] (.tup [.agg (k14 r.1),i6 r.2]):=by
 refine aY func45 rfl rfl ?_
 unfold iV at hm
 refine qS [(0,.al 45005),(1,.al 45006),(2,.al 45007),(3,.al 45008),(4,.al 45010)] [(4,i6 aN),(5,.ptr 45005 0),(6,.ptr 45006 0),(7,.ptr 45007 0),(8,.ptr 45008 0),(10,.ptr 45010 0)] [(45005,.cells 32 (k7 e)),(45006,.cells 28 (k2 t)),(45007,.cells 100 (k4 f)),(45008,.cells 36 (k10 p)),(45010,.cells 74 [.aO,.aO,.aO])]<|A.seq<|A.block ?_
 obtain⟨J1,hJ1,hm⟩:=bZ hm
 refine A.J (J:=J1) (r:=r) (λv_1=>[(4,i6 aN),(5,.ptr 45005 0),(6,.ptr 45006 0),(7,.ptr 45007 0),(8,.ptr 45008 0),(10,.ptr 45010 0),(14,.bool v_1)]) (λv_1=>[(45005,.cells 32 (k7 e)),(45006,.cells 28 (k2 t)),(45007,.cells 100 (k4 f)),(45008,.cells 36 (k10 p)),(45010,.cells 74 [.aO,.aO,.aO])]) ?_ ?_
 ·obtain⟨ai,h1,hm⟩:=af hm
  rcases ak hm with⟨c1,hm⟩|⟨c1,hm⟩
  ·exact qGs [(1,hro (mR h1) afU),(3,hto (bE c1))] [] [(14,.bool true)]<|qX true hm
  obtain⟨aD,h2,hm⟩:=af hm
  rcases ak hm with⟨c2,hm⟩|⟨c2,hm⟩
  ·exact qGs [(1,hro (mR h1) afU),(3,hto (bE c1)),(5,hro (kI h2) afV),(8,hto (bE c2))] [] [(14,.bool true)]<|qX true hm
  obtain⟨aX,h3,hm⟩:=af hm
  exact qGs [(1,hro (mR h1) afU),(3,hto (bE c1)),(5,hro (kI h2) afV),(8,hto (bE c2)),(10,hro (jV h3) adI)] [] [(14,.bool (!aX))]<|qX (!aX) hm
 rintro v_1 hm
 rw[hJ1]at hm
 rcases ak hm with⟨c3,hm⟩|⟨c3,hm⟩
 ·refine qT c3<|qD [] [4,5,6,7,8,14] [(11,i6 1)] [45005,45006,45007,45008] [] ?_
  cases hm
  exact A.ret qE
 refine qF c3 ?_
 obtain⟨bu,h4,hm⟩:=af hm
 refine qDs [(2,hro (jS h4) adJ)] [14] [(29,.bool (!bu))] ?_
 rcases ak hm with⟨c4,hm⟩|⟨c4,hm⟩
 ·refine qT c4<|qD [] [4,5,6,7,8,29] [(11,i6 4)] [45005,45006,45007,45008] [] ?_
  cases hm
  exact A.ret qE
 refine qF c4<|qDs [] [29] [(35,.bool (!decide (p.Mode=2)))] ?_
 rcases ak hm with⟨c5,hm⟩|⟨c5,hm⟩
 ·refine qT c5<|qD [] [4,5,6,7,8,35] [(11,i6 7)] [45005,45006,45007,45008] [] ?_
  cases hm
  exact A.ret qE
 refine qF c5<|qDs [] [35] [(40,.bool (!decide (p.Length=e.Length)))] ?_
 rcases ak hm with⟨c6,hm⟩|⟨c6,hm⟩
 ·refine qT c6<|qD [] [4,5,6,7,8,40] [(11,i6 8)] [45005,45006,45007,45008] [] ?_
  cases hm
  exact A.ret qE
 refine qF c6 ?_
 obtain⟨bz,h5,hm⟩:=af hm
 refine qDs [(3,hro (bR h5) qC)] [40] [(47,.bool bz)] ?_
 rcases ak hm with⟨c7,hm⟩|⟨c7,hm⟩
 ·refine qT c7<|qS [(4,.al 45056)] [(10,.ptr 45010 0),(11,i6 0)] [(45010,.cells 74 [.aO,.aO,.own 45056]),(45056,.slice 141 2 (ml fc ([(cz.mk aN p.Bits)]:List cz)) 0 false)]<|A.ret ?_
  obtain rfl:=some_inj hm
  exact A.fin W0 [.fz [45056]] rfl (by kernel_rfl)
 refine qF c7<|A.skip ?_
 obtain⟨cw,h6,hm⟩:=af hm
 refine qD [(4,hro (ov h6) alC),(10,.al 45068),(12,.al 45012)] [4,5,6,7,8,47] [(12,.ptr 45012 0)] [45005,45006,45007,45008] [(45068,.slice 154 12 (ml dQ ([(bh.mk aN (eP.mk [] p))]:List bh)) 0 false),(45012,.cells 157 [i6 e.Length,lf aB e.List,lf aI t.aj,lf aT t.Links,lf aI cw.aj,lf aT cw.Links,lf bJ f.Links,lf aA f.aj,.aO,.aO,.aO,.own 45068])]<|A.seq<|A.block ?_
 obtain⟨F1,n1,hF1,hm⟩:=iE hm
 refine A.lpW (F:=F1) hm (λ(m_1,m_2,m_3,m_4,m_5,m_6,m_7,m_8,m_9,mY,mw,lH)=>[(10,.ptr 45010 0),(12,.ptr 45012 0)]) (λ(m_1,m_2,m_3,m_4,m_5,m_6,m_7,m_8,m_9,mY,mw,lH)=>[(45010,.cells 74 [.aO,.aO,.aO]),(45012,.cells 157 [i6 m_1,lf aB m_2,lf aI m_3,lf aT m_4,lf aI m_5,lf aT m_6,lf bJ m_7,lf aA m_8,.own 704501208,.own 704501209,.own 704501210,.own 704501211]),(704501208,.slice 78 11 (ml cO m_9) 0 false),(704501209,.slice 81 3 (ml dz mY) 0 false),(704501210,.slice 141 2 (ml fc mw) 0 false),(704501211,.win 154 12 (ml dQ lH))]) ?_ ?_
 ·exact bt.go [.wi 45068,.sw 45068 704501211,.ac 45012 704501208 78 11 8,.ac 45012 704501209 81 3 9,.ac 45012 704501210 141 2 10] [] (by kernel_rfl)
 rintro Z1 ⟨m_1,m_2,m_3,m_4,m_5,m_6,m_7,m_8,m_9,mY,mw,lH⟩ hm
 rw[hF1]at hm
 refine A.seq<|qDs [(2,hto (lnE dQ lH))] [] [(73,.bool (decide (0<(lH.length:Int))))] ?_
 rcases ak hm with⟨c8,hm⟩|⟨c8,hm⟩
 ·refine qT c8<|A.skip<|A.block ?_
  obtain⟨e_1,h7,hm⟩:=af hm
  refine qD [(2,hix (ix dQ h7)),(4,.al 45013)] [73] [(13,.ptr 45013 0)] [] [(45013,.cells 154 (k15 e_1))] ?_
  obtain⟨l_1,h8,hm⟩:=af hm
  refine qD [(2,hws 45580 (afJ dQ h8))] [] [] [45012,704501211] [(45012,.cells 157 [i6 m_1,lf aB m_2,lf aI m_3,lf aT m_4,lf aI m_5,lf aT m_6,lf bJ m_7,lf aA m_8,.own 704501208,.own 704501209,.own 704501210,.own 45580]),(45580,.win 154 12 (ml dQ l_1))] ?_
  obtain⟨bN,h9,hm⟩:=af hm
  refine qD [(1,hdc [520045001,520045002,520045003,520045004] (SC.at [(505008400,704501208),(505008402,704501209),(505008404,704501210),(505008406,45580),(900000157,45012),(505008401,520045001),(505008403,520045002),(505008405,520045003),(505008407,520045004)] (wq h9)) ck84)] [13] [] [45012,704501208,704501209,704501210,45013,45580] [(45012,.cells 157 [i6 bN.cA.Length,lf aB bN.cA.List,lf aI bN.dh.aj,lf aT bN.dh.Links,lf aI bN.eA.aj,lf aT bN.eA.Links,lf bJ bN.cL.Links,lf aA bN.cL.aj,.own 520045001,.own 520045002,.own 520045003,.own 520045004]),(520045001,.slice 78 11 (ml cO bN.cV.cK) 0 false),(520045002,.slice 81 3 (ml dz bN.cV.cn) 0 false),(520045003,.slice 141 2 (ml fc bN.cV.dP) 0 false),(520045004,.win 154 12 (ml dQ bN.je))]<|qDs [(3,hto (lnE dz bN.cV.cn))] [] [(88,.bool (decide (2000<(bN.cV.cn.length:Int))))] ?_
  rcases ak hm with⟨c9,hm⟩|⟨c9,hm⟩
  ·refine qT c9<|qS [] [(10,.ptr 45010 0),(11,i6 11)] [(45010,.cells 74 [.aO,.aO,.aO])] ?_
   cases hm
   exact A.ret qE
  exact qF c9<|A.skip<|Exists.intro (bN.cA.Length,bN.cA.List,bN.dh.aj,bN.dh.Links,bN.eA.aj,bN.eA.Links,bN.cL.Links,bN.cL.aj,bN.cV.cK,bN.cV.cn,bN.cV.dP,bN.je) (And.intro hm (bt.go [.sw 520045001 704501208,.sw 520045002 704501209,.sw 520045003 704501210,.sw 520045004 704501211] [] (by kernel_rfl)))
 refine qF c8<|A.exit<|qD [] [12,73] [(11,i6 0)] [45010,45012,704501211] [(45010,.cells 74 [.own 704501208,.own 704501209,.own 704501210])]<|A.ret ?_
 obtain rfl:=some_inj hm
 exact A.fin W0 [.fz [704501208,704501209,704501210]] rfl (by kernel_rfl)
end Go.Proofs.YtdjeacigeegklaaGreat
