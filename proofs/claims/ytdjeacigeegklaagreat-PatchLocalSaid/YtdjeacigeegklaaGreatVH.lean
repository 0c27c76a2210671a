/- The gn of dg of the program. No condition but bB aX stand in each. -/
import Derived.Test.YtdjeacigeegklaaGreatDA
import Derived.Test.YtdjeacigeegklaaGreatVK
namespace Go.Proofs.YtdjeacigeegklaaGreat
open Go Go.Proofs.Tryz
set_option maxRecDepth 100000
set_option linter.all false
variable {r:(List Int)}
theorem qt{sa0:List Int}(apH:ml aF sa0≠[])(hm:fP sa0=some r):cQ prog 140 [] [lf aF sa0] (λa σ'=>a=.own 500014000∧σ'=[(500014000,.slice 3 1 (ml aF r) 0 false)]):=by
 refine bf func140 rfl rfl ?_
 unfold fP at hm
 refine qS [] [(0,lf aF sa0)] []<|A.seq<|qDs [(1,.sn false (lf aF sa0) (ajv apH))] [] [(4,.bool false)]<|A.cF rfl rfl<|A.skip ?_
 show ah _ _ _ _ _
 obtain⟨l_1,h1,hm⟩:=af hm
 refine qS [(0,.al 140005),(2,hap 140507 (ap aF (bytes:=8) (by decide) h1))] [(2,.own 140507)] [(140507,.slice 3 1 (ml aF l_1) 0 false)]<|A.ret ?_
 obtain rfl:=some_inj hm
 exact A.fin W0 [.sw 140507 500014000] rfl (by kernel_rfl)
theorem qu(hm:mU=some r):cQ prog 140 [] [.sl0] (λa σ'=>a=.own 500014000∧σ'=[(500014000,.slice 3 1 (ml aF r) 0 false)]):=by
 refine bf func140 rfl rfl ?_
 unfold mU at hm
 refine qS [] [(0,.sl0)] []<|A.seq<|qDs [(1,.sn false .sl0 (ajw))] [] [(4,.bool false)]<|A.cF rfl rfl<|A.skip ?_
 show ah _ _ _ _ _
 obtain⟨l_1,h1,hm⟩:=af hm
 refine qS [(0,.al 140005),(2,hap 140507 (ap aF (bytes:=8) (by decide) h1))] [(2,.own 140507)] [(140507,.slice 3 1 (ml aF l_1) 0 false)]<|A.ret ?_
 obtain rfl:=some_inj hm
 exact A.fin W0 [.sw 140507 500014000] rfl (by kernel_rfl)
theorem sA(n c:Nat)(w:World):Calls prog 140 #[.slice none n c] w λe w'=>e=.returned (.slice none 0 0)∧w'=w:=by
 have q:∀(w:World) (a:Option Addr) (n c n' c':Nat),(binOp .eql 22 (.slice a n c) (.slice none n' c')).run prog w=.ok (.bool a.isNone) w:=λw a n c n' c'=>Lib.run_eql_slice_nil w _ _ a n c n' c' underlying22
 go_enter func140,Tryz.ntmps140
 go_wp2
 go_ret
 exact⟨rfl,rfl⟩
theorem rL{s r:List Int}(hm:iG s=some r):cQ prog 140 [] [.lst false (ml aF s)] (λa σ'=>a=.own 500014000∧σ'=[(500014000,.slice 3 1 (ml aF r) 0 false)]):=by
 obtain rfl:s=r:=by
  unfold iG fP at hm
  obtain⟨l,h,hm⟩:=af hm
  have:=(apw h).symm
  simp at this;subst this
  exact some_inj hm
 refine afI sA (λh=>qt h hm) (λh=>?_) (λh=>h)
 have h0:s=[]:=by cases s with|nil=>rfl|cons a b=>simp[ml]at h
 subst h0
 exact qu hm
theorem xu{a:aj}{r:Bool}(hm:mV a=some r):RO prog 80 [] [.agg (k5 a)] (.bool r):=by
 refine bf func80 rfl rfl ?_
 unfold mV at hm
 refine qS [(0,.al 80001)] [(1,.ptr 80001 0)] [(80001,.cells 38 (k5 a))]<|qS [] [(2,.bool (decide (a.Kind=2)))] [] ?_
 cases hm
 exact A.ret qE
theorem tD{e:aK}{r:Bool}(hm:mH e=some r):RO prog 41 [] [.agg (k7 e)] (.bool r):=by
 refine bf func41 rfl rfl ?_
 unfold mH at hm
 refine qS [(0,.al 41001)] [(1,.ptr 41001 0)] [(41001,.cells 32 (k7 e))] ?_
 obtain⟨ai,h1,hm⟩:=af hm
 rcases az hm with⟨c1,hm⟩|⟨c1,hm⟩
 ·obtain⟨aL,h2,hm⟩:=af hm
  refine qS [(1,hro (gd h1) acD),(3,hto (bE c1)),(6,hro (jk (f_g:=80) (f_c:=[]) (f_k:=ck80) (f_f:=λ_ _ h=>xu h) h2) ck79)] [(2,.bool (!aL))] [] ?_
  cases hm
  exact A.ret qE
 refine qS [(1,hro (gd h1) acD),(3,hto (bE c1))] [(2,.bool false)] [] ?_
 cases hm
 exact A.ret qE
variable {c:bp}
theorem tE{gR:List Int}{bits:Int}{r:bp}(hm:iz c gR bits=some r):RO prog 107 [] [.agg (k11 c),lf aF gR,.int .u64 bits] (.agg (k11 r)):=by
 refine bf func107 rfl rfl ?_
 unfold iz at hm
 refine qS [(0,.al 107003),(1,.al 107006)] [(1,lf aF gR),(2,.int .u64 bits),(3,.ptr 107003 0),(6,.ptr 107006 0)] [(107003,.cells 54 (k11 c)),(107006,.cells 54 [i6 0,.aU,i6 0,i6 0,i6 0,i6 0,i6 0,i6 0,i6 0,i6 0,.int .u64 (0:Int),.str (⟨#[]⟩:ByteArray)])] ?_
 obtain⟨e_1,h1,hm⟩:=af hm
 refine qD [(1,hix (ix aF h1))] [] [] [107003] [(107003,.cells 54 [i6 e_1,lf aF c.Frame.eF,i6 c.Frame.aI.Mode,i6 c.Frame.aI.cA,i6 c.Frame.aI.Set,i6 c.Frame.aI.Length,i6 c.Frame.aI.TTL,i6 c.Frame.aI.cZ,i6 c.Frame.aI.de,i6 c.Frame.aI.eE,.int .u64 c.Frame.aI.Bits,.str c.Frame.aI.cS])] ?_
 obtain⟨l_1,h2,hm⟩:=af hm
 obtain⟨ai,h3,hm⟩:=af hm
 refine qD [(1,hsl (asf aF h2)),(2,hdc [500014000] (rL h3) ayY)] [1] [] [107003] [(107003,.cells 54 [i6 e_1,.own 500014000,i6 c.Frame.aI.Mode,i6 c.Frame.aI.cA,i6 c.Frame.aI.Set,i6 c.Frame.aI.Length,i6 c.Frame.aI.TTL,i6 c.Frame.aI.cZ,i6 c.Frame.aI.de,i6 c.Frame.aI.eE,.int .u64 c.Frame.aI.Bits,.str c.Frame.aI.cS]),(500014000,.slice 3 1 (ml aF ai) 0 false)]<|qD [] [2] [] [107003] [(107003,.cells 54 [i6 e_1,.own 500014000,i6 c.Frame.aI.Mode,i6 c.Frame.aI.cA,i6 c.Frame.aI.Set,i6 c.Frame.aI.Length,i6 c.Frame.aI.TTL,i6 c.Frame.aI.cZ,i6 c.Frame.aI.de,i6 c.Frame.aI.eE,.int .u64 bits,.str c.Frame.aI.cS])]<|qD [] [3] [] [107003,107006] [(107006,.cells 54 [i6 e_1,.own 500014000,i6 c.Frame.aI.Mode,i6 c.Frame.aI.cA,i6 c.Frame.aI.Set,i6 c.Frame.aI.Length,i6 c.Frame.aI.TTL,i6 c.Frame.aI.cZ,i6 c.Frame.aI.de,i6 c.Frame.aI.eE,.int .u64 bits,.str c.Frame.aI.cS])]<|A.ret ?_
 obtain rfl:=some_inj hm
 exact A.fin W0 [.fz [500014000]] rfl (by kernel_rfl)
variable {aY:Int}{t:aa}
theorem yj{e:aK}{r:(List bp)×Int}(hm:l8 e t aY c=some r):RO prog 60 [] [.agg (k7 e),.agg (k2 t),i6 aY,.agg (k11 c)] (.tup [lf cm r.1,.int .u64 r.2]):=by
 refine bf func60 rfl rfl ?_
 unfold l8 at hm
 refine qS [(0,.al 60004),(1,.al 60005),(2,.al 60007)] [(2,i6 aY),(4,.ptr 60004 0),(5,.ptr 60005 0),(7,.ptr 60007 0),(8,.aU)] [(60004,.cells 32 (k7 e)),(60005,.cells 28 (k2 t)),(60007,.cells 54 (k11 c))]<|qDs [] [] [(10,.int .u64 c.Frame.aI.Bits),(11,i6 c.To)] ?_
 obtain⟨ai,h1,hm⟩:=af hm
 refine qDs [(3,hro (qV h1) alO)] [] [(12,.int .u64 (aS .andNot .u64 c.Frame.aI.Bits ai))] ?_
 obtain⟨aL,h2,hm⟩:=af hm
 refine qD [(4,hro (oM h2) at3),(5,.al 60013)] [] [(13,.ptr 60013 0)] [] [(60013,.cells 28 (k2 aL))]<|qDs [] [] [(14,.int .u64 (0:Int)),(15,.int .u64 (0:Int))]<|A.seq<|qD [(2,hto (lnE ak e.List))] [4] [(38,lf ak e.List),(39,i6 (e.List.length:Int)),(40,i6 0)] [60004] []<|A.block<|A.bS 38 rfl λhb1=>?_
 obtain⟨B1,K1,hB1,hK1,hm⟩:=bn hm
 refine A.lpI (l:=e.List) (j0:=0) (B:=B1) (K:=K1) hm (λj1=>λ(bg,dS,dM)=>[(2,i6 aY),(5,.ptr 60005 0),(7,.ptr 60007 0),(8,.own 600060008),(10,.int .u64 c.Frame.aI.Bits),(11,i6 c.To),(12,.int .u64 (aS .andNot .u64 c.Frame.aI.Bits ai)),(13,.ptr 60013 0),(14,.int .u64 dS),(15,.int .u64 dM),(38,lf ak e.List),(39,i6 (e.List.length:Int)),(40,i6 (j1:Int))]) (λj1=>λ(bg,dS,dM)=>[(60005,.cells 28 (k2 t)),(60007,.cells 54 (k11 c)),(60013,.cells 28 (k2 aL)),(600060008,.slice 54 12 (ml cm bg) 0 false)]) ?_ ?_ ?_
 ·exact bq.go [.ad 8 600060008 54 12] [] (by kernel_rfl)
 ·rintro j1 e1 Z1 ⟨bg,dS,dM⟩ hj1 hx1 hm
  rw[hB1]at hm
  refine qDs [] [] [(41,.bool (decide ((j1:Int)<(e.List.length:Int))))]<|A.seq<|qT (ltT hx1)<|A.skip ?_
  show ah _ _ _ _ _
  obtain⟨J1,hJ1,hm⟩:=cg hm
  refine A.J (J:=J1) (r:=r) (λ(cK,ue,oQ)=>[(2,i6 aY),(5,.ptr 60005 0),(7,.ptr 60007 0),(8,.own 600060008),(10,.int .u64 c.Frame.aI.Bits),(11,i6 c.To),(12,.int .u64 (aS .andNot .u64 c.Frame.aI.Bits ai)),(13,.ptr 60013 0),(14,.int .u64 ue),(15,.int .u64 oQ),(38,lf ak e.List),(39,i6 (e.List.length:Int)),(40,i6 (j1:Int))]) (λ(cK,ue,oQ)=>[(60005,.cells 28 (k2 t)),(60007,.cells 54 (k11 c)),(60013,.cells 28 (k2 aL)),(600060008,.slice 54 12 (ml cm cK) 0 false)]) ?_ ?_
  ·refine A.block<|qD [(0,hix (ix ak (bH hx1))),(2,.al 60017)] [41] [(17,.ptr 60017 0)] [] [(60017,.cells 38 (k5 e1))] ?_
   obtain⟨h3,hm⟩:=er hm
   refine qDs [(2,.sh e1.Bit (of_decide_eq_true h3))] [] [(18,.int .u64 (IntKind.wrap .u64 ((1:Int)*2 ^ min e1.Bit.toNat 64)))]<|A.seq<|A.mid [(2,i6 aY),(5,.ptr 60005 0),(7,.ptr 60007 0),(8,.own 600060008),(10,.int .u64 c.Frame.aI.Bits),(11,i6 c.To),(12,.int .u64 (aS .andNot .u64 c.Frame.aI.Bits ai)),(13,.ptr 60013 0),(14,.int .u64 dS),(15,.int .u64 dM),(38,lf ak e.List),(39,i6 (e.List.length:Int)),(40,i6 (j1:Int)),(17,.ptr 60017 0),(18,.int .u64 (IntKind.wrap .u64 ((1:Int)*2 ^ min e1.Bit.toNat 64))),(56,.bool ((!decide (e1.bx=c.To))||(decide (aS .and .u64 c.Frame.aI.Bits (IntKind.wrap .u64 ((1:Int)*2 ^ min e1.Bit.toNat 64))=(0:Int)))))] [(60005,.cells 28 (k2 t)),(60007,.cells 54 (k11 c)),(60013,.cells 28 (k2 aL)),(600060008,.slice 54 12 (ml cm bg) 0 false),(60017,.cells 38 (k5 e1))] (λhk=>?_) ?_
   ·rcases tf (!decide (e1.bx=c.To))with c1|c1
    ·exact qS [(4,hto (bE c1)),(9,hto (orT (q:=decide (aS .and .u64 c.Frame.aI.Bits (IntKind.wrap .u64 ((1:Int)*2 ^ min e1.Bit.toNat 64))=(0:Int))) c1))] _ _ hk
    exact qS [(4,hto (bE c1)),(9,hto (orF (q:=decide (aS .and .u64 c.Frame.aI.Bits (IntKind.wrap .u64 ((1:Int)*2 ^ min e1.Bit.toNat 64))=(0:Int))) c1))] _ _ hk
   rcases az hm with⟨c2,hm⟩|⟨c2,hm⟩
   ·exact qT c2<|A.exit<|qX (bg,dS,dM) hm
   refine qF c2<|A.skip ?_
   show ah _ _ _ _ _
   refine A.block<|qDs [] [56] [(57,.bool (decide (e1.Kind=3)))] ?_
   rcases az hm with⟨c3,hm⟩|⟨c3,hm⟩
   ·exact qT c3<|qG [] [14,17,18,57] [(14,.int .u64 (aS .or .u64 dS (IntKind.wrap .u64 ((1:Int)*2 ^ min e1.Bit.toNat 64))))] [60017] []<|qX (bg,aS .or .u64 dS (IntKind.wrap .u64 ((1:Int)*2 ^ min e1.Bit.toNat 64)),dM) hm
   refine qF c3<|qDs [] [57] [(64,.bool (decide (e1.To=aY)))] ?_
   rcases az hm with⟨c4,hm⟩|⟨c4,hm⟩
   ·exact qT c4<|A.skip<|qX (bg,dS,dM) hm
   refine qF c4 ?_
   obtain⟨aV,h4,hm⟩:=af hm
   refine qDs [(4,hro (tP h4) ayP)] [64] [(69,.bool (!aV))] ?_
   rcases az hm with⟨c5,hm⟩|⟨c5,hm⟩
   ·exact qT c5<|qG [] [14,15,17,18,69] [(14,.int .u64 (aS .or .u64 dS (IntKind.wrap .u64 ((1:Int)*2 ^ min e1.Bit.toNat 64)))),(15,.int .u64 (aS .or .u64 dM (IntKind.wrap .u64 ((1:Int)*2 ^ min e1.Bit.toNat 64))))] [60017] []<|qX (bg,aS .or .u64 dS (IntKind.wrap .u64 ((1:Int)*2 ^ min e1.Bit.toNat 64)),aS .or .u64 dM (IntKind.wrap .u64 ((1:Int)*2 ^ min e1.Bit.toNat 64))) hm
   refine qF c5<|qDs [] [18,69] [(82,.bool (!decide (aS .andNot .u64 c.Frame.aI.Bits ai=0)))] ?_
   rcases az hm with⟨c6,hm⟩|⟨c6,hm⟩
   ·refine qT c6 ?_
    obtain⟨bz,h5,hm⟩:=af hm
    obtain⟨cq,h6,hm⟩:=af hm
    obtain⟨l_1,h7,hm⟩:=af hm
    exact qG [(6,hro (qb h5) alQ),(8,hro (tE h6) alP),(10,hap 60595 (ap cm (bytes:=120) (by decide) h7))] [8,17,82] [(8,.own 60595)] [600060008,60017] [(60595,.slice 54 12 (ml cm l_1) 0 false)]<|Exists.intro (l_1,dS,dM) (And.intro hm (bq.go [.sw 60595 600060008] [] (by kernel_rfl)))
   exact qF c6<|A.skip<|qX (bg,dS,dM) hm
  rintro⟨cK,ue,oQ⟩ hm
  rw[hJ1]at hm
  exact qGs [(0,hto (inc hx1 hb1))] [40] [(40,i6 ((j1+1:Nat):Int))]<|qX (cK,ue,oQ) hm
 rintro j1 ⟨bg,dS,dM⟩ hj1 hl1 hm
 rw[hK1]at hm
 refine qDs [] [] [(41,.bool (decide ((j1:Int)<(e.List.length:Int))))]<|A.seq<|qF (ltF hl1)<|A.exit ?_
 show ah _ _ _ _ _
 refine A.seq<|qD [] [10,13,38,39,40,41] [(98,.bool (decide (dS=0)))] [60013] [] ?_
 rcases az hm with⟨c7,hm⟩|⟨c7,hm⟩
 ·refine qT c7<|qD [] [2,5,7,11,12,14,15,98] [(9,.int .u64 (0:Int))] [60005,60007] []<|A.ret ?_
  obtain rfl:=some_inj hm
  exact A.fin W0 [.fz [600060008]] rfl (by kernel_rfl)
 refine qF c7<|A.skip ?_
 show ah _ _ _ _ _
 obtain⟨cH,h8,hm⟩:=af hm
 refine qD [(6,hro (oM h8) at3),(7,.al 60019)] [5,98] [(19,.ptr 60019 0)] [60005] [(60019,.cells 28 (k2 cH))] ?_
 obtain⟨bZ,h9,hm⟩:=af hm
 refine qD [(3,hro (qb h9) alQ)] [2,11,19] [(20,lf aF bZ)] [60019] []<|A.seq<|qDs [(1,hto (lnE aF bZ))] [] [(113,.bool (decide ((bZ.length:Int)=(0:Int))))] ?_
 rcases az hm with⟨c8,hm⟩|⟨c8,hm⟩
 ·refine qT c8<|qD [] [7,12,14,15,20,113] [(9,.int .u64 dS)] [60007] []<|A.ret ?_
  obtain rfl:=some_inj hm
  exact A.fin W0 [.fz [600060008]] rfl (by kernel_rfl)
 refine qF c8<|A.skip ?_
 show ah _ _ _ _ _
 obtain⟨J2,hJ2,hm⟩:=cg hm
 refine A.J (J:=J2) (r:=r) (λaac=>[(7,.ptr 60007 0),(8,.own 600060008),(14,.int .u64 aac),(20,lf aF bZ)]) (λaac=>[(60007,.cells 54 (k11 c)),(600060008,.slice 54 12 (ml cm bg) 0 false)]) ?_ ?_
 ·refine qDs [] [15,113] [(117,.bool (!decide (dM=0)))] ?_
  rcases az hm with⟨c9,hm⟩|⟨c9,hm⟩
  ·exact qT c9<|qGs [] [12,14,117] [(14,.int .u64 (aS .or .u64 dS (aS .andNot .u64 c.Frame.aI.Bits ai)))]<|qX (aS .or .u64 dS (aS .andNot .u64 c.Frame.aI.Bits ai)) hm
  exact qF c9<|A.skip<|qX dS hm
 rintro aac hm
 rw[hJ2]at hm
 obtain⟨dw,h10,hm⟩:=af hm
 obtain⟨l_2,h11,hm⟩:=af hm
 refine qS [(4,hro (tE h10) alP),(6,hap 60627 (ap cm (bytes:=120) (by decide) h11))] [(8,.own 60627),(9,.int .u64 (0:Int))] [(60627,.slice 54 12 (ml cm l_2) 0 false)]<|A.ret ?_
 obtain rfl:=some_inj hm
 exact A.fin W0 [.fz [60627]] rfl (by kernel_rfl)
theorem qY{e:aK}{p:aT}{down:List Int}{r:bQ×Int}(hm:jt e t aY p down=some r):RO prog 15 [] [.agg (k7 e),.agg (k2 t),i6 aY,.agg (k10 p),lf aF down] (.tup [.agg (k12 r.1),i6 r.2]):=by
 refine bf func15 rfl rfl ?_
 unfold jt at hm
 refine qS [(0,.al 15005),(1,.al 15006),(2,.al 15008),(3,.al 15010)] [(2,i6 aY),(4,lf aF down),(5,.ptr 15005 0),(6,.ptr 15006 0),(8,.ptr 15008 0),(10,.ptr 15010 0)] [(15005,.cells 32 (k7 e)),(15006,.cells 28 (k2 t)),(15008,.cells 36 (k10 p)),(15010,.cells 46 [.int .u64 (0:Int),.int .u64 (0:Int),.aU])] ?_
 obtain⟨ai,h1,hm⟩:=af hm
 refine qD [(3,hro (tT h1) ck35),(7,.al 15012)] [8] [(12,.ptr 15012 0),(13,i6 ai.2)] [15008] [(15012,.cells 46 (k12 ai.1))]<|A.seq<|qDs [] [] [(27,.bool (!decide (ai.2=0)))] ?_
 rcases az hm with⟨c1,hm⟩|⟨c1,hm⟩
 ·refine qT c1<|qD [] [2,4,5,6,12,13,27] [(11,i6 ai.2)] [15005,15006,15012] [] ?_
  cases hm
  exact A.ret qE
 refine qF c1<|A.skip ?_
 show ah _ _ _ _ _
 refine A.seq ?_
 obtain⟨J1,hJ1,hm⟩:=cg hm
 refine A.J (J:=J1) (r:=r) (λv_1=>[(2,i6 aY),(4,lf aF down),(5,.ptr 15005 0),(6,.ptr 15006 0),(10,.ptr 15010 0),(12,.ptr 15012 0),(37,.bool v_1)]) (λv_1=>[(15005,.cells 32 (k7 e)),(15006,.cells 28 (k2 t)),(15010,.cells 46 [.int .u64 (0:Int),.int .u64 (0:Int),.aU]),(15012,.cells 46 (k12 ai.1))]) ?_ ?_
 ·obtain⟨aL,h2,hm⟩:=af hm
  rcases az hm with⟨c2,hm⟩|⟨c2,hm⟩
  ·exact qGs [(1,hro (tD h2) atX),(3,hto (bE c2))] [13,27] [(37,.bool true)]<|qX true hm
  obtain⟨aV,h3,hm⟩:=af hm
  exact qGs [(1,hro (tD h2) atX),(3,hto (bE c2)),(5,hro (mP h3) ajN)] [13,27] [(37,.bool (!decide (aV=0)))]<|qX (!decide (aV=0)) hm
 rintro v_1 hm
 rw[hJ1]at hm
 rcases az hm with⟨c3,hm⟩|⟨c3,hm⟩
 ·refine qT c3<|qD [] [2,4,5,6,12,37] [(11,i6 1)] [15005,15006,15012] [] ?_
  cases hm
  exact A.ret qE
 refine qF c3<|A.skip ?_
 show ah _ _ _ _ _
 refine qD [(5,.al 15014)] [37] [(14,.ptr 15014 0)] [] [(15014,.cells 46 [.int .u64 ai.1.Local,.int .u64 ai.1.lQ,.aU])]<|A.seq<|qD [(2,hto (lnE cm ai.1.bu))] [12] [(45,lf cm ai.1.bu),(46,i6 (ai.1.bu.length:Int)),(47,i6 0)] [15012] []<|A.block<|A.bS 45 rfl λhb1=>?_
 obtain⟨B1,K1,hB1,hK1,hm⟩:=bn hm
 refine A.lpI (l:=ai.1.bu) (j0:=0) (B:=B1) (K:=K1) hm (λj1=>λ(m_1,m_2)=>[(2,i6 aY),(4,lf aF down),(5,.ptr 15005 0),(6,.ptr 15006 0),(10,.ptr 15010 0),(14,.ptr 15014 0),(45,lf cm ai.1.bu),(46,i6 (ai.1.bu.length:Int)),(47,i6 (j1:Int))]) (λj1=>λ(m_1,m_2)=>[(15005,.cells 32 (k7 e)),(15006,.cells 28 (k2 t)),(15010,.cells 46 [.int .u64 (0:Int),.int .u64 (0:Int),.aU]),(15014,.cells 46 [.int .u64 ai.1.Local,.int .u64 m_1,.own 701501402]),(701501402,.slice 54 12 (ml cm m_2) 0 false)]) ?_ ?_ ?_
 ·exact bq.go [.ac 15014 701501402 54 12 2] [] (by kernel_rfl)
 ·rintro j1 e1 Z1 ⟨m_1,m_2⟩ hj1 hx1 hm
  rw[hB1]at hm
  refine qDs [] [] [(48,.bool (decide ((j1:Int)<(ai.1.bu.length:Int))))]<|A.seq<|qT (ltT hx1)<|A.skip ?_
  show ah _ _ _ _ _
  obtain⟨J2,hJ2,hm⟩:=cg hm
  refine A.J (J:=J2) (r:=r) (λ(m_3,m_4)=>[(2,i6 aY),(4,lf aF down),(5,.ptr 15005 0),(6,.ptr 15006 0),(10,.ptr 15010 0),(14,.ptr 15014 0),(45,lf cm ai.1.bu),(46,i6 (ai.1.bu.length:Int)),(47,i6 (j1:Int))]) (λ(m_3,m_4)=>[(15005,.cells 32 (k7 e)),(15006,.cells 28 (k2 t)),(15010,.cells 46 [.int .u64 (0:Int),.int .u64 (0:Int),.aU]),(15014,.cells 46 [.int .u64 ai.1.Local,.int .u64 m_3,.own 701501402]),(701501402,.slice 54 12 (ml cm m_4) 0 false)]) ?_ ?_
  ·refine A.block<|qD [(0,hix (ix cm (bH hx1))),(2,.al 15016)] [48] [(16,.ptr 15016 0)] [] [(15016,.cells 54 (k11 e1))] ?_
   refine A.seq ?_
   obtain⟨bz,h4,hm⟩:=af hm
   refine qDs [(3,hro (bY h4) qn)] [] [(55,.bool (!bz))] ?_
   rcases az hm with⟨c4,hm⟩|⟨c4,hm⟩
   ·refine qT c4 ?_
    obtain⟨l_1,h5,hm⟩:=af hm
    exact qD [(4,hap 15560 (ap cm (bytes:=120) (by decide) h5))] [55] [] [15014,701501402] [(15014,.cells 46 [.int .u64 ai.1.Local,.int .u64 m_1,.own 15560]),(15560,.slice 54 12 (ml cm l_1) 0 false)]<|A.exit<|Exists.intro (m_1,l_1) (And.intro hm (bq.go [.sw 15560 701501402] [] (by kernel_rfl)))
   refine qF c4<|A.skip ?_
   show ah _ _ _ _ _
   obtain⟨cq,h6,hm⟩:=af hm
   refine qD [(4,hro (yj h6) ck60)] [16,55] [(17,lf cm cq.1),(18,.int .u64 cq.2)] [15016] [] ?_
   obtain⟨l_2,h7,hm⟩:=af hm
   exact qG [(3,hap 15573 (ap cm (bytes:=120) (by decide) h7))] [17,18] [] [15014,701501402] [(15014,.cells 46 [.int .u64 ai.1.Local,.int .u64 (aS .or .u64 m_1 cq.2),.own 15573]),(15573,.slice 54 12 (ml cm l_2) 0 false)]<|Exists.intro (aS .or .u64 m_1 cq.2,l_2) (And.intro hm (bq.go [.sw 15573 701501402] [] (by kernel_rfl)))
  rintro⟨m_3,m_4⟩ hm
  rw[hJ2]at hm
  exact qGs [(0,hto (inc hx1 hb1))] [47] [(47,i6 ((j1+1:Nat):Int))]<|qX (m_3,m_4) hm
 rintro j1 ⟨m_1,m_2⟩ hj1 hl1 hm
 rw[hK1]at hm
 refine qDs [] [] [(48,.bool (decide ((j1:Int)<(ai.1.bu.length:Int))))]<|A.seq<|qF (ltF hl1)<|A.exit ?_
 show ah _ _ _ _ _
 refine qD [] [2,4,5,6,14,45,46,47,48] [(11,i6 0)] [15005,15006,15010,15014] [(15010,.cells 46 [.int .u64 ai.1.Local,.int .u64 m_1,.own 701501402])]<|A.ret ?_
 obtain rfl:=some_inj hm
 exact A.fin W0 [.fz [701501402]] rfl (by kernel_rfl)
end Go.Proofs.YtdjeacigeegklaaGreat
