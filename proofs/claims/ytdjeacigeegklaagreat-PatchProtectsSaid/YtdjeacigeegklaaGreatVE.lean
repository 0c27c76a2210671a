/- The iJ of ee of the program. No condition but bJ aY stand in each. -/
import Derived.Test.YtdjeacigeegklaaGreatVX
namespace Go.Proofs.YtdjeacigeegklaaGreat
open Go Go.Proofs.Tryz
set_option maxRecDepth 100000
set_option linter.all false
variable {r:Bool}
theorem nS{n:Int}(hm:mY n=some r):RO prog 133 [] [i6 n] (.bool r):=by
 refine bh func133 rfl rfl ?_
 unfold mY at hm
 refine qS [] [(0,i6 n)] []<|A.mid [(2,.bool ((decide (n=8))||((decide (n=16))||((decide (n=32))||(decide (n=64))))))] [] (λhk=>?_) ?_
 ·rcases tf (decide (n=8))with c1|c1
  ·exact qS [(2,hto (bE c1)),(14,hto (orT (q:=((decide (n=16))||((decide (n=32))||(decide (n=64))))) c1))] _ _ hk
  rcases tf (decide (n=16))with c2|c2
  ·exact qS [(2,hto (bE c1)),(6,hto (bE c2)),(14,hto ((orT (q:=((decide (n=32))||(decide (n=64)))) c2).trans (orF (q:=((decide (n=16))||((decide (n=32))||(decide (n=64))))) c1)))] _ _ hk
  rcases tf (decide (n=32))with c3|c3
  ·exact qS [(2,hto (bE c1)),(6,hto (bE c2)),(10,hto (bE c3)),(14,hto (((orT (q:=decide (n=64)) c3).trans (orF (q:=((decide (n=32))||(decide (n=64)))) c2)).trans (orF (q:=((decide (n=16))||((decide (n=32))||(decide (n=64))))) c1)))] _ _ hk
  exact qS [(2,hto (bE c1)),(6,hto (bE c2)),(10,hto (bE c3)),(14,hto (((orF (q:=decide (n=64)) c3).trans (orF (q:=((decide (n=32))||(decide (n=64)))) c2)).trans (orF (q:=((decide (n=16))||((decide (n=32))||(decide (n=64))))) c1)))] _ _ hk
 cases hm
 exact A.ret qE
theorem adZ{k:Int}{r:Int}(hm:xG k=some r):RO prog 157 [] [i6 k] (.int .u64 r):=by
 refine bh func157 rfl rfl ?_
 unfold xG at hm
 refine qS [] [(0,i6 k)] []<|A.seq<|A.mid [(0,i6 k),(8,.bool ((decide (k<0))||(decide (63<k))))] [] (λhk=>?_) ?_
 ·rcases tf (decide (k<0))with c1|c1
  ·exact qS [(2,hto (bE c1)),(5,hto (orT (q:=decide (63<k)) c1))] _ _ hk
  exact qS [(2,hto (bE c1)),(5,hto (orF (q:=decide (63<k)) c1))] _ _ hk
 rcases ak hm with⟨c2,hm⟩|⟨c2,hm⟩
 ·refine qT c2<|qS [] [(2,.int .u64 (0:Int))] [] ?_
  cases hm
  exact A.ret qE
 refine qF c2<|A.skip ?_
 obtain⟨h1,hm⟩:=fI hm
 refine qS [(2,.sh (IntKind.wrap .u64 k) (of_decide_eq_true h1))] [(2,.int .u64 (IntKind.wrap .u64 ((1:Int)*2 ^ min (IntKind.wrap .u64 k).toNat 64)))] [] ?_
 cases hm
 exact A.ret qE
theorem ac7{length:Int}{r:Int}(hm:sZ length=some r):RO prog 134 [] [i6 length] (.int .u64 r):=by
 refine bh func134 rfl rfl ?_
 unfold sZ at hm
 refine qS [] [(0,i6 length)] []<|A.seq ?_
 obtain⟨ai,h1,hm⟩:=af hm
 refine qDs [(1,hro (nS h1) aiE)] [] [(7,.bool (!ai))] ?_
 rcases ak hm with⟨c1,hm⟩|⟨c1,hm⟩
 ·refine qT c1<|qS [] [(2,.int .u64 (0:Int))] [] ?_
  cases hm
  exact A.ret qE
 refine qF c1<|A.skip<|qDs [] [7] [(3,.int .u64 (0:Int))]<|A.seq<|qDs [] [] [(4,i6 0)]<|A.block ?_
 obtain⟨hh1,hm⟩:=fI hm
 obtain⟨B1,K1,hB1,hK1,hm⟩:=pR hm
 refine A.lpN (hi:=length) (B:=B1) (K:=K1) hm rfl (λj1=>λb_1=>[(0,i6 length),(3,.int .u64 b_1),(4,i6 (j1:Int))]) (λj1=>λb_1=>[]) ?_ ?_ ?_
 ·exact qW
 ·rintro j1 Z1 b_1 hj1 hx1 hm
  rw[hB1]at hm
  refine A.seq<|qDs [] [] [(10,.bool (decide ((j1:Int)<length)))] ?_
  refine A.cT rfl (decide_eq_true hx1)<|A.skip<|A.seq<|A.block ?_
  obtain⟨aI,h2,hm⟩:=af hm
  exact qGs [(2,hro (adZ h2) axO)] [3,10] [(3,.int .u64 (br .or .u64 b_1 aI))]<|qGs [(1,hto (abX (by omega) hx1 (of_decide_eq_true hh1)))] [4] [(4,i6 (j1+1:Int))]<|qX (br .or .u64 b_1 aI) hm
 rintro j1 b_1 hj1 hl1 hm
 rw[hK1]at hm
 refine A.seq<|qDs [] [] [(10,.bool (decide ((j1:Int)<length)))] ?_
 refine A.cF rfl (geF hl1)<|A.exit<|qS [] [(2,.int .u64 b_1)] [] ?_
 cases hm
 exact A.ret qE
theorem kQ{b:Int}{length:Int}(hm:o4 b length=some r):RO prog 92 [] [.int .u64 b,i6 length] (.bool r):=by
 refine bh func92 rfl rfl ?_
 unfold o4 at hm
 refine qS [] [(0,.int .u64 b),(1,i6 length)] [] ?_
 obtain⟨ai,h1,hm⟩:=af hm
 rcases ak hm with⟨c1,hm⟩|⟨c1,hm⟩
 ·obtain⟨aI,h2,hm⟩:=af hm
  refine qS [(1,hro (nS h1) aiE),(2,hto (bE c1)),(5,hro (ac7 h2) axA)] [(4,.bool (decide (br .andNot .u64 b aI=0)))] [] ?_
  cases hm
  exact A.ret qE
 refine qS [(1,hro (nS h1) aiE),(2,hto (bE c1))] [(4,.bool false)] [] ?_
 cases hm
 exact A.ret qE
theorem bQ{n:Int}{most:Int}(hm:iw n most=some r):RO prog 91 [] [i6 n,i6 most] (.bool r):=by
 refine bh func91 rfl rfl ?_
 unfold iw at hm
 refine qS [] [(0,i6 n),(1,i6 most)] []<|A.mid [(4,.bool ((decide (0≤n))&&(decide (n≤most))))] [] (λhk=>?_) ?_
 ·rcases tf (decide (0≤n))with c1|c1
  ·exact qS [(2,hto (bE c1)),(7,hto (nO (q:=decide (n≤most)) c1))] _ _ hk
  exact qS [(2,hto (bE c1)),(7,hto (oK (q:=decide (n≤most)) c1))] _ _ hk
 cases hm
 exact A.ret qE
variable {p:aH}
theorem aci(hm:nk p=some r):RO prog 55 [] [.agg (k10 p)] (.bool r):=by
 refine bh func55 rfl rfl ?_
 unfold nk at hm
 refine qS [(0,.al 55001)] [(1,.ptr 55001 0)] [(55001,.cells 36 (k10 p))] ?_
 rcases ak hm with⟨c1,hm⟩|⟨c1,hm⟩
 ·rcases ak hm with⟨c2,hm⟩|⟨c2,hm⟩
  ·obtain⟨ai,h1,hm⟩:=af hm
   rcases ak hm with⟨c3,hm⟩|⟨c3,hm⟩
   ·obtain⟨aI,h2,hm⟩:=af hm
    rcases ak hm with⟨c4,hm⟩|⟨c4,hm⟩
    ·obtain⟨bf,h3,hm⟩:=af hm
     rcases ak hm with⟨c5,hm⟩|⟨c5,hm⟩
     ·obtain⟨bB,h4,hm⟩:=af hm
      rcases ak hm with⟨c6,hm⟩|⟨c6,hm⟩
      ·obtain⟨bD,h5,hm⟩:=af hm
       rcases ak hm with⟨c7,hm⟩|⟨c7,hm⟩
       ·obtain⟨cW,h6,hm⟩:=af hm
        rcases ak hm with⟨c8,hm⟩|⟨c8,hm⟩
        ·obtain⟨bH,h7,hm⟩:=af hm
         rcases ak hm with⟨c9,hm⟩|⟨c9,hm⟩
         ·refine qS [(3,hto (bE c1)),(8,hto (bE c2)),(11,hro (bQ h1) jD),(13,hto (bE c3)),(16,hro (bQ h2) jD),(18,hto (bE c4)),(23,hro (kQ h3) adS),(25,hto (bE c5)),(28,hro (bQ h4) jD),(30,hto (bE c6)),(33,hro (bQ h5) jD),(35,hto (bE c7)),(38,hro (bQ h6) jD),(40,hto (bE c8)),(43,hro (bQ h7) jD),(45,hto (bE c9))] [(2,.bool (decide ((p.cM.size:Int)≤(64:Int))))] [] ?_
          cases hm
          exact A.ret qE
         refine qS [(3,hto (bE c1)),(8,hto (bE c2)),(11,hro (bQ h1) jD),(13,hto (bE c3)),(16,hro (bQ h2) jD),(18,hto (bE c4)),(23,hro (kQ h3) adS),(25,hto (bE c5)),(28,hro (bQ h4) jD),(30,hto (bE c6)),(33,hro (bQ h5) jD),(35,hto (bE c7)),(38,hro (bQ h6) jD),(40,hto (bE c8)),(43,hro (bQ h7) jD),(45,hto (bE c9))] [(2,.bool false)] [] ?_
         cases hm
         exact A.ret qE
        refine qS [(3,hto (bE c1)),(8,hto (bE c2)),(11,hro (bQ h1) jD),(13,hto (bE c3)),(16,hro (bQ h2) jD),(18,hto (bE c4)),(23,hro (kQ h3) adS),(25,hto (bE c5)),(28,hro (bQ h4) jD),(30,hto (bE c6)),(33,hro (bQ h5) jD),(35,hto (bE c7)),(38,hro (bQ h6) jD),(40,hto (bE c8))] [(2,.bool false)] [] ?_
        cases hm
        exact A.ret qE
       refine qS [(3,hto (bE c1)),(8,hto (bE c2)),(11,hro (bQ h1) jD),(13,hto (bE c3)),(16,hro (bQ h2) jD),(18,hto (bE c4)),(23,hro (kQ h3) adS),(25,hto (bE c5)),(28,hro (bQ h4) jD),(30,hto (bE c6)),(33,hro (bQ h5) jD),(35,hto (bE c7))] [(2,.bool false)] [] ?_
       cases hm
       exact A.ret qE
      refine qS [(3,hto (bE c1)),(8,hto (bE c2)),(11,hro (bQ h1) jD),(13,hto (bE c3)),(16,hro (bQ h2) jD),(18,hto (bE c4)),(23,hro (kQ h3) adS),(25,hto (bE c5)),(28,hro (bQ h4) jD),(30,hto (bE c6))] [(2,.bool false)] [] ?_
      cases hm
      exact A.ret qE
     refine qS [(3,hto (bE c1)),(8,hto (bE c2)),(11,hro (bQ h1) jD),(13,hto (bE c3)),(16,hro (bQ h2) jD),(18,hto (bE c4)),(23,hro (kQ h3) adS),(25,hto (bE c5))] [(2,.bool false)] [] ?_
     cases hm
     exact A.ret qE
    refine qS [(3,hto (bE c1)),(8,hto (bE c2)),(11,hro (bQ h1) jD),(13,hto (bE c3)),(16,hro (bQ h2) jD),(18,hto (bE c4))] [(2,.bool false)] [] ?_
    cases hm
    exact A.ret qE
   refine qS [(3,hto (bE c1)),(8,hto (bE c2)),(11,hro (bQ h1) jD),(13,hto (bE c3))] [(2,.bool false)] [] ?_
   cases hm
   exact A.ret qE
  refine qS [(3,hto (bE c1)),(8,hto (bE c2))] [(2,.bool false)] [] ?_
  cases hm
  exact A.ret qE
 refine qS [(3,hto (bE c1))] [(2,.bool false)] [] ?_
 cases hm
 exact A.ret qE
theorem abq{e:aC}{t:dz}{receivers:List Int}{r:aH×Int}(hm:qp e t receivers p=some r):RO prog 38 [] [.agg (k7 e),.agg (k8 t),lf aA receivers,.agg (k10 p)] (.tup [.agg (k10 r.1),i6 r.2]):=by
 refine bh func38 rfl rfl ?_
 unfold qp at hm
 refine qS [(0,.al 38004),(1,.al 38005),(2,.al 38007),(3,.al 38008)] [(2,lf aA receivers),(4,.ptr 38004 0),(5,.ptr 38005 0),(7,.ptr 38007 0),(8,.ptr 38008 0)] [(38004,.cells 32 (k7 e)),(38005,.cells 63 (k8 t)),(38007,.cells 36 (k10 p)),(38008,.cells 36 [i6 0,i6 0,i6 0,i6 0,i6 0,i6 0,i6 0,i6 0,.int .u64 (0:Int),.str (⟨#[]⟩:ByteArray)])] ?_
 obtain⟨ai,h1,hm⟩:=af hm
 refine qD [(3,hro (w8 h1) aum)] [2,5] [(10,.int .u64 ai.1),(11,i6 ai.2)] [38005] []<|A.seq<|qDs [] [] [(20,.bool (!decide (ai.2=0)))] ?_
 rcases ak hm with⟨c1,hm⟩|⟨c1,hm⟩
 ·refine qT c1<|qD [] [4,7,10,11,20] [(9,i6 ai.2)] [38004,38007] [] ?_
  cases hm
  exact A.ret qE
 refine qF c1<|A.skip<|qD [] [4,10,11,20] [] [38004,38007] [(38007,.cells 36 [i6 2,i6 p.cC,i6 p.Set,i6 e.Length,i6 p.TTL,i6 p.dG,i6 p.dH,i6 p.eO,.int .u64 ai.1,.str p.cM])]<|A.seq ?_
 obtain⟨aI,h2,hm⟩:=af hm
 refine qDs [(1,hro (aci h2) ck55)] [] [(31,.bool (!aI))] ?_
 rcases ak hm with⟨c2,hm⟩|⟨c2,hm⟩
 ·refine qT c2<|qD [] [7,31] [(9,i6 1)] [38007] [] ?_
  cases hm
  exact A.ret qE
 refine qF c2<|A.skip<|qS [] [(8,.ptr 38008 0),(9,i6 0)] [(38008,.cells 36 [i6 2,i6 p.cC,i6 p.Set,i6 e.Length,i6 p.TTL,i6 p.dG,i6 p.dH,i6 p.eO,.int .u64 ai.1,.str p.cM])] ?_
 cases hm
 exact A.ret qE
end Go.Proofs.YtdjeacigeegklaaGreat
