/- A part of the proof; the last text says of what. No condition but those that stand in each. -/
import Derived.Test.YtemmkpdjmgafoaaGreatDoorZ5
import Derived.Test.YtemmkpdjmgafoaaGreatDoorZ4
namespace Go.Proofs.YtemmkpdjmgafoaaGreatDoor
set_option linter.all false
set_option maxRecDepth 100000
section
open Go Go.Proofs.Tryz
variable {au:Bool}
variable {i:Int}{m r:ea}
def D5(a:qL m i=some r):cz au prog 70 [(153,.s 37 bF m.bp.aM),(201,.s 161 b2 m.bp.bg),(12,.c 156 [an aW m.bp.Links,.own 153,.own 201])] [.ptr 12 0,H i] (eH (.bO []) [(12,.c 156 [an aW r.bp.Links,.own 306,.own 307]),(306,.s 37 bF r.bp.aM),(307,.s 161 b2 r.bp.bg)]):=by
 refine a5 func70 rfl rfl ?_;unfold qL at a;obtain⟨k,c,a⟩:=az a;refine aj [(6,be (ix bF c))] [(0,.ptr 12 0),(4,.ptr 153 (i.toNat*5))] [(153,.s 37 bF m.bp.aM),(201,.s 161 b2 m.bp.bg),(12,.c 156 [an aW m.bp.Links,.own 153,.own 201])] ?_;obtain⟨b,f,a⟩:=az a;refine aV [(6,fK 153 0 (ix bF c)),(7,kA [153,201] [187,188] (AW f) zQ ⟨jM dO (λ_=>rfl) _,jM dL (λ_=>rfl) _,trivial⟩),(11,.al 443)] [0] [(5,.ptr 443 0),(6,.bool b.2)] [] [(443,.c 167 [H b.1.ai,H b.1.Seq,.bool b.1.bK,.own 187,.own 188]),(187,.s 185 dO b.1.Links),(188,.s 141 dL b.1.Claims)]<|ak [] [6] [(25,.bool b.2)] ?_
 rcases aC a with⟨d,a⟩|⟨d,a⟩
 .refine aI d ?_;obtain⟨e,g,j,h,a⟩:=er a;refine A.R fN [.bL [187,188]] [(4,fK 153 4 (ix bF c)),(6,aB (Vp g) S8),(12,mY 153 (st bF (off:=4) (ca:=(fZ e.1)) c h rfl) (oU c).1.1)] [] [(153,.s 37 bF j),(201,.s 161 b2 m.bp.bg),(12,.c 156 [an aW m.bp.Links,.own 153,.own 201])] (by kernel_rfl) ?_;obtain rfl:=cy a;exact c0 [.rn 153 306,.rn 201 307]
 refine aH d<|aK ?_
 obtain rfl:=cy a;exact c0 [.rn 153 306,.rn 201 307]
def P3(a:wZ m i=some r):cz au prog 81 [(154,.s 37 bF m.bp.aM),(280,.s 161 b2 m.bp.bg),(12,.c 156 [an aW m.bp.Links,.own 154,.own 280])] [.ptr 12 0,H i] (eH (.bO []) [(12,.c 156 [an aW r.bp.Links,.own 425,.own 426]),(425,.s 37 bF r.bp.aM),(426,.s 161 b2 r.bp.bg)]):=by
 refine a5 func81 rfl rfl ?_;unfold wZ at a;obtain⟨f,h,a⟩:=az a;refine aj [(6,be (ix bF h)),(7,fK 154 0 (ix bF h)),(8,.al 208)] [(0,.ptr 12 0),(4,.ptr 208 0)] [(154,.s 37 bF m.bp.aM),(280,.s 161 b2 m.bp.bg),(12,.c 156 [an aW m.bp.Links,.own 154,.own 280]),(208,.cells 37 (kQ f))] ?_;obtain⟨w,j,b,k,a⟩:=er a;refine aV [(4,kA [154,280] [29,30] (uC j) tY ⟨jM bJ (λ_=>rfl) _,jM aW (λ_=>rfl) _,trivial⟩),(7,kA [29,30] [173] (Ul k) Td ⟨jM aJ (λ_=>rfl) _,trivial⟩),(8,Y (bk aJ b))] [] [(24,H 0),(22,.own 173),(23,H b.length)] [] [(173,.s 3 aJ b)]<|aX<|aF2 22 rfl rfl λl=>?_
 obtain⟨y,z,p,q,a⟩:=cG a;refine cO a (λc=>λd=>[(0,.ptr 12 0),(4,.ptr 208 0),(22,.own 173),(23,H b.length),(24,H c)]) (λc=>λd=>[(154,.s 37 bF m.bp.aM),(12,.c 156 [an aW m.bp.Links,.own 154,.own 115]),(208,.cells 37 (kQ f)),(173,.s 3 aJ b),(115,.s 161 b2 d)]) ?_ ?_ ?_
 .exact cr [.rn 280 115] []
 .rintro c u x d o e a;rw[p]at a;refine ak [] [] [(25,.d ((c:Int)<b.length))]<|aq<|aI (cL e)<|aK<|aq<|aX<|ak [(0,be (ix aJ (bU e))),(1,fK 173 0 (ix aJ (bU e)))] [25] [(6,H u)] ?_
  obtain⟨v,s,g,t,a⟩:=er a;exact b0 [(11,aB (IY s) HH),(14,dS 387 (ap b2 (bytes:=40) (by decide) t))] [6] [] [12,115] [(12,.c 156 [an aW m.bp.Links,.own 154,.own 387]),(387,.s 161 b2 g)]<|a7 [(0,Y (cI e l))] [24] [(24,H ((c+1:Nat):Int))]<|Exists.intro g (And.intro a (cr [.b8 387 115] []))
 rintro c d o n a;rw[q]at a;refine ak [] [] [(25,.d ((c:Int)<b.length))]<|aq<|aH (cK n)<|bQ ?_
 obtain rfl:=cy a;exact c0 [.rn 154 425,.b8 115 426]
def PV{k}(a:oH m k=some r):cz au prog 84 [(43,.s 37 bF m.bp.aM),(505008402,.s 161 b2 m.bp.bg),(12,.c 156 [an aW m.bp.Links,.own 43,.own 505008402])] [.ptr 12 0,H k] (eH (.bO []) [(12,.c 156 [an aW r.bp.Links,.own 330,.own 331]),(330,.s 37 bF r.bp.aM),(331,.s 161 b2 r.bp.bg)]):=by
 refine a5 func84 rfl rfl ?_;unfold oH at a;obtain⟨B,v,a⟩:=az a;refine aj [(6,be (ix b2 v)),(7,fK 505008402 0 (ix b2 v)),(8,.al 245)] [(0,.ptr 12 0),(1,H k),(4,.ptr 245 0)] [(43,.s 37 bF m.bp.aM),(505008402,.s 161 b2 m.bp.bg),(12,.c 156 [an aW m.bp.Links,.own 43,.own 505008402]),(245,.cells 161 (qV B))] ?_;obtain⟨t,w,a⟩:=az a;refine aV [(9,b3 [520084001] (Md (d:=505008402) (D:=520084001) w (by decide)) Jn)] [1] [] [505008402,12] [(12,.c 156 [an aW m.bp.Links,.own 43,.own 520084001]),(520084001,.s 161 b2 t)]<|aq ?_
 obtain⟨N,x,q,A,a⟩:=er a;refine ak [(4,kA [43,520084001] [29,30] (uC x) tY ⟨jM bJ (λ_=>rfl) _,jM aW (λ_=>rfl) _,trivial⟩),(9,bt [29,30] (J8 A) Jl)] [] [(6,.bool q.2)]<|ak [] [6] [(49,.bool (!q.2))] ?_
 rcases aC a with⟨j,a⟩|⟨j,a⟩
 .refine aI j<|c2 ?_
  obtain rfl:=cy a;exact c0 [.rn 43 330,.b8 520084001 331]
 refine aH j<|aK ?_
 obtain⟨g,E,a⟩:=az a;refine ak [(6,bt [43,520084001] (AO E) zF)] [49] [(7,H g.1)] ?_;obtain⟨O,h,a⟩:=az a;refine ak [(6,be (ix bF h))] [] [(9,.ptr 43 (g.1.toNat*5))] ?_;obtain⟨C,F,s,G,a⟩:=er a;refine aV [(4,fK 43 4 (ix bF h)),(7,aB (UR F) Te),(13,mY 43 (st bF (off:=4) (ca:=(fZ C.1)) h G rfl) (oU h).1.1)] [4] [] [43,245] [(43,.s 37 bF s)] ?_;obtain⟨Q,f,b,J,a⟩:=er a;refine aV [(3,fK 43 4 (ix bF f)),(7,fK 43 0 (ix bF f)),(8,aB (AM J) zH),(12,.al 225)] [] [(10,.ptr 225 0),(11,.bool b.2)] [] [(225,.cells 167 (ej b.1))] ?_;obtain⟨c,K,a⟩:=az a;refine aV [(6,fK 43 0 (ix bF f)),(7,kA [43,520084001] [187,188] (AW K) zQ ⟨jM dO (λ_=>rfl) _,jM dL (λ_=>rfl) _,trivial⟩),(11,.al 567)] [] [(12,.ptr 567 0),(13,.bool c.2)] [] [(567,.c 167 [H c.1.ai,H c.1.Seq,.bool c.1.bK,.own 187,.own 188]),(187,.s 185 dO c.1.Links),(188,.s 141 dL c.1.Claims)] ?_;obtain⟨z,y,a⟩:=cV a;refine cW z r (λn=>[(0,.ptr 12 0),(7,H g.1),(9,.ptr 43 (g.1.toNat*5)),(10,.ptr 225 0),(118,.bool n)]) (λn=>[(43,.s 37 bF s),(12,.c 156 [an aW m.bp.Links,.own 43,.own 520084001]),(520084001,.s 161 b2 t),(225,.cells 167 (ej b.1))]) ?_ ?_
 .rcases aC a with⟨e,a⟩|⟨e,a⟩
  .rcases aC a with⟨i,a⟩|⟨i,a⟩
   .exact b0 [(1,Y (ax e)),(4,Y (ax i))] [11,12,13] [(118,.d (b.1.Seq<1000000))] [567,187,188] []<|aT (decide (b.1.Seq<1000000)) a
   obtain⟨P,u,a⟩:=az a;rcases aC a with⟨o,a⟩|⟨o,a⟩
   .exact b0 [(1,Y (ax e)),(4,Y (ax i)),(7,bt [187,188] (xk u) wK),(11,Y (ax o))] [11,12,13] [(118,.d (b.1.Seq<1000000))] [567,187,188] []<|aT (decide (b.1.Seq<1000000)) a
   exact b0 [(1,Y (ax e)),(4,Y (ax i)),(7,bt [187,188] (xk u) wK),(11,Y (ax o))] [11,12,13] [(118,.bool false)] [567,187,188] []<|aT false a
  exact b0 [(1,Y (ax e))] [11,12,13] [(118,.bool false)] [567,187,188] []<|aT false a
 rintro n a;rw[y]at a;rcases aC a with⟨l,a⟩|⟨l,a⟩
 .refine aI l ?_;obtain⟨I,L,a⟩:=az a;refine aV [(6,mY 43 (st bF (off:=1) (ca:=[H (a2 (b.1.Seq+1))]) f L rfl) (oU f).1.1)] [9,10,118] [] [43,225] [(43,.s 37 bF I)] ?_;obtain⟨p,M,a⟩:=az a;refine lU [(2,b3 [436,437] (e0.at [(153,43),(201,520084001),(306,436),(307,437)] (D5 M)) Dk)] [] [(12,.c 156 [an aW p.bp.Links,.own 436,.own 437]),(436,.s 37 bF p.bp.aM),(437,.s 161 b2 p.bp.bg)] ?_;obtain rfl:=cy a;exact c0 [.b8 436 330,.b8 437 331]
 refine aH l<|aK ?_
 obtain rfl:=cy a;exact c0 [.rn 43 330,.b8 520084001 331]
def PZ(a:wX m=some r):cz au prog 85 [(427,.s 37 bF m.bp.aM),(429,.s 161 b2 m.bp.bg),(12,.c 156 [an aW m.bp.Links,.own 427,.own 429])] [.ptr 12 0] (eH (.bO []) [(12,.c 156 [an aW r.bp.Links,.own 428,.own 430]),(428,.s 37 bF r.bp.aM),(430,.s 161 b2 r.bp.bg)]):=by
 refine a5 func85 rfl rfl ?_;unfold wX at a;refine aX ?_;obtain⟨k,j,g,a⟩:=jL a;refine aFn a (λ(d,f,c)=>[(0,.ptr 12 0)]) (λ(d,f,c)=>[(12,.c 156 [an aW d,.own 175,.own 115]),(175,.s 37 bF f),(115,.s 161 b2 c)]) ?_ ?_
 .exact cr [.rn 427 175,.rn 429 115] []
 rintro i ⟨d,f,c⟩ a;rw[g]at a;refine aq<|ak [(5,Y (bk b2 c))] [] [(8,.d (0<(c.length:Int)))] ?_
 rcases aC a with⟨e,a⟩|⟨e,a⟩
 .refine aI e<|aK<|aX ?_
  obtain⟨b,h,a⟩:=az a;exact lU [(1,b3 [438,439] (e0.at [(43,175),(505008402,115),(330,438),(331,439)] (PV h)) Jo)] [(0,.ptr 12 0)] [(12,.c 156 [an aW b.bp.Links,.own 438,.own 439]),(438,.s 37 bF b.bp.aM),(439,.s 161 b2 b.bp.bg)]<|Exists.intro (b.bp.Links,b.bp.aM,b.bp.bg) (And.intro a (cr [.b8 438 175,.b8 439 115] []))
 refine aH e<|bQ ?_
 obtain rfl:=cy a;exact c0 [.b8 175 428,.b8 115 430]
def Ub(a:Ay m=some r):cz au prog 86 [(371,.s 37 bF m.bp.aM),(372,.s 161 b2 m.bp.bg),(12,.c 156 [an aW m.bp.Links,.own 371,.own 372])] [.ptr 12 0] (eH (.bO []) [(12,.c 156 [an aW r.bp.Links,.own 481,.own 482]),(481,.s 37 bF r.bp.aM),(482,.s 161 b2 r.bp.bg)]):=by
 refine a5 func86 rfl rfl ?_;unfold Ay at a;refine aj [(5,Y (bk bF m.bp.aM))] [(0,.ptr 12 0),(8,H m.bp.aM.length),(9,H 0)] [(371,.s 37 bF m.bp.aM),(372,.s 161 b2 m.bp.bg),(12,.c 156 [an aW m.bp.Links,.own 371,.own 372])]<|aX<|aF1 0 1 rfl rfl rfl rfl λh=>?_
 obtain⟨p,q,k,l,a⟩:=cG a;refine cO a (λb(d,f,e)=>[(0,.ptr 12 0),(8,H m.bp.aM.length),(9,H b)]) (λb(d,f,e)=>[(12,.c 156 [an aW d,.own 175,.own 115]),(175,.s 37 bF f),(115,.s 161 b2 e)]) ?_ ?_ ?_
 .exact cr [.rn 371 175,.rn 372 115] []
 .rintro b s o ⟨d,f,e⟩ j g a;rw[k]at a;refine ak [] [] [(10,.d ((b:Int)<m.bp.aM.length))]<|aq<|aI (cL g)<|aK<|aq<|aX<|ak [] [10] [(2,H b)] ?_
  obtain⟨c,n,a⟩:=az a;exact b0 [(2,b3 [341,342] (e0.at [(154,175),(280,115),(425,341),(426,342)] (P3 n)) Jm)] [2] [] [12,175,115] [(12,.c 156 [an aW c.bp.Links,.own 341,.own 342]),(341,.s 37 bF c.bp.aM),(342,.s 161 b2 c.bp.bg)]<|a7 [(0,Y (cI g h))] [9] [(9,H ((b+1:Nat):Int))]<|Exists.intro (c.bp.Links,c.bp.aM,c.bp.bg) (And.intro a (cr [.b8 341 175,.b8 342 115] []))
 rintro b ⟨d,f,e⟩ j i a;rw[l]at a;refine ak [] [] [(10,.d ((b:Int)<m.bp.aM.length))]<|aq<|aH (cK i)<|bQ ?_
 obtain rfl:=cy a;exact c0 [.b8 175 481,.b8 115 482]
def ac4{k:sD}{t:cF->dw}{rO:Nat}{tT:List U}(HU:a3 prog rO)(HV:∀(s:cF) (q:Bool),t s=some q->bb au prog rO [] ([.agg (qV s)]++tT) (.bool q)){r:(sD)}(a:wQ k t=some r):cz au prog 73 [(216,.s 161 b2 k)] [.own 216,.cD rO tT] (eH (.own 278) [(278,.s 161 b2 r)]):=by
 refine a5 func73 rfl rfl ?_;unfold wQ at a;refine aj [] [(0,.own 216),(1,.cD rO tT)] [(216,.s 161 b2 k)] ?_;obtain⟨h,D,a⟩:=az a;refine ak [(2,bt [216] (ac5 (dQ:=HU) (dP:=HV) D) S9)] [] [(5,H h)]<|aq<|ak [] [] [(12,.d (h=(-1:Int)))] ?_
 rcases aC a with⟨i,a⟩|⟨i,a⟩
 .refine aI i<|ak [] [0,1,5,12] [(4,.own 216)]<|c2 ?_
  obtain rfl:=cy a;exact c0 [.rn 216 278]
 refine aH i<|aK<|aq<|ak [] [12] [(6,H (a2 (h+1)))]<|aX ?_
 obtain⟨I,G,C,a⟩:=jL a;refine aFn a (λ(c,b,d)=>[(0,.own 160),(1,.cD rO tT),(5,H b),(6,H d)]) (λ(c,b,d)=>[(160,.s 161 b2 c)]) ?_ ?_
 .exact cr [.rn 216 160] []
 rintro E ⟨c,b,d⟩ a;rw[C]at a;refine aq<|ak [(2,Y (bk b2 c))] [] [(19,.d (d<(c.length:Int)))] ?_
 rcases aC a with⟨g,a⟩|⟨g,a⟩
 .refine aI g<|aK ?_
  obtain⟨z,y,a⟩:=cV a;refine cW z r (λ(f,e)=>[(0,.own 160),(1,.cD rO tT),(5,H e),(6,H d)]) (λ(f,e)=>[(160,.s 161 b2 f)]) ?_ ?_
  .refine aX ?_;obtain⟨o,n,a⟩:=az a;refine aV [(2,be (ix b2 n)),(3,fK 160 0 (ix b2 n)),(4,.al 447)] [19] [(7,.ptr 447 0)] [] [(447,.cells 161 (qV o))] ?_;obtain⟨v,w,a⟩:=az a;refine ak [(2,jH (HV _ _ w) HU)] [] [(29,.bool (!v))] ?_;rcases aC a with⟨m,a⟩|⟨m,a⟩
   .refine aI m ?_;obtain⟨F,l,p,A,a⟩:=er a;exact aV [(3,be (ix b2 l)),(4,mY 160 (st b2 (off:=0) (ca:=(qV o)) l A rfl) (oU l).1.1)] [7,29] [] [160,447] [(160,.s 161 b2 p)]<|a7 [] [5] [(5,H (a2 (b+1)))]<|aT (p,a2 (b+1)) a
   exact aH m<|aK<|aT (c,b) a
  rintro⟨f,e⟩ a;rw[y]at a;exact a7 [] [6] [(6,H (a2 (d+1)))]<|aT (f,e,a2 (d+1)) a
 refine aH g<|bQ ?_
 obtain⟨j,a⟩:=g0 a;have j:=fF j;refine aq (aGS (T:=27) 0 5 36 37 38 161 3 160 (zr:=b2.enc (cF.mk (0:Int) (0:Int) (bM.mk []))) ⟨rfl,rfl,rfl⟩ ⟨rfl,rfl,rfl⟩ ⟨rfl,rfl,rfl⟩ ⟨rfl,rfl,rfl⟩ ⟨qu rfl,qu rfl,qu rfl⟩ (by decide) Ju zeroValue161 (by decide) (λu=>by show bP u [H ((cF.mk (0:Int) (0:Int) (bM.mk [])).dx),H ((cF.mk (0:Int) (0:Int) (bM.mk [])).bS),an cN (((cF.mk (0:Int) (0:Int) (bM.mk [])).Database).bq)] _;simp only[bP,a1];exact⟨_,_,rfl,rfl,⟨_,_,rfl,rfl,⟨_,_,rfl,⟨none,0,rfl,eb _,Nat.zero_le _,λ_=>rfl,.inl rfl⟩,rfl⟩⟩⟩) rfl rfl rfl rfl (RO b2 j) ⟨rfl,rfl,rfl⟩ (Qz b2 c b.toNat (cF.mk (0:Int) (0:Int) (bM.mk []))) ?_);show ar _ _ _ [(0,.own 160),(1,.cD rO tT),(5,H b),(6,H d),(19,.d (d<(c.length:Int)))] [(160,.s 161 b2 (c.take b.toNat++List.replicate (c.length-b.toNat) (cF.mk (0:Int) (0:Int) (bM.mk []))))];obtain⟨x,B,a⟩:=az a;refine aj [(2,acD 485 Ju (sl b2 B))] [(4,.own 485)] [(485,.s 161 b2 x)]<|c2 ?_
 obtain rfl:=cy a;exact c0 [.b8 485 278]
variable {au:Bool}
variable {aey:Int}{f:aQ}
def IZ{r}(a:qN f aey=some r):cz au prog 69 [] [.agg (c6 f),H aey] (eH (.bO [.ptr 12 0,H r.2.1,H r.2.2]) [(108,.s 37 bF r.1.bp.aM),(134,.s 161 b2 r.1.bp.bg),(12,.c 156 [an aW r.1.bp.Links,.own 108,.own 134])]):=by
 refine a5 func69 rfl rfl ?_;unfold qN at a;refine aj [(0,.al 189)] [(1,H aey),(2,.ptr 189 0)] [(189,.cells 29 (c6 f))]<|aq ?_
 obtain⟨h,j,a⟩:=az a;refine ak [(1,aB (oJ j) oF)] [] [(11,.bool (!decide (h=0)))] ?_;rcases aC a with⟨e,a⟩|⟨e,a⟩
 .refine aI e<|aj [] [(4,.gT),(5,H 0),(6,H 1)] []<|c2 ?_
  cases a
 refine aH e<|aK ?_
 obtain⟨b,g,a⟩:=az a;refine ak [(2,aB (AO g) zF)] [1,11] [(7,H b.1),(8,.bool b.2)]<|aq<|ak [] [8] [(19,.bool (!b.2))] ?_
 rcases aC a with⟨c,a⟩|⟨c,a⟩
 .refine aI c<|aj [] [(4,.gT),(5,H 0),(6,H 4)] []<|c2 ?_
  cases a
 refine aH c<|aK ?_
 obtain⟨d,i,a⟩:=az a;refine aj [(1,b3 [123,51,65] (w9 i) wJ),(3,.al 351)] [(4,.ptr 351 0),(5,H b.1),(6,H 0)] [(123,.s 139 aW d.Links),(51,.s 37 bF d.aM),(65,.s 161 b2 d.bg),(351,.c 156 [.own 123,.own 51,.own 65])]<|c2 ?_
 obtain rfl:=cy a;exact c0 [.bL [123],.b8 351 12,.b8 51 108,.b8 65 134,.sc 12 [108,134]]
def I4{r}(a:uE f aey=some r):bb au prog 69 [] [.agg (c6 f),H aey] (.bO [.gT,H r.1,H r.2]):=by
 refine a5 func69 rfl rfl ?_;unfold uE at a;refine aj [(0,.al 189)] [(1,H aey),(2,.ptr 189 0)] [(189,.cells 29 (c6 f))]<|aq ?_
 obtain⟨h,j,a⟩:=az a;refine ak [(1,aB (oJ j) oF)] [] [(11,.bool (!decide (h=0)))] ?_;rcases aC a with⟨e,a⟩|⟨e,a⟩
 .exact aI e<|aj [] [(4,.gT),(5,H 0),(6,H 1)] []<|aN
 refine aH e<|aK ?_
 obtain⟨b,g,a⟩:=az a;refine ak [(2,aB (AO g) zF)] [1,11] [(7,H b.1),(8,.bool b.2)]<|aq<|ak [] [8] [(19,.bool (!b.2))] ?_
 rcases aC a with⟨c,a⟩|⟨c,a⟩
 .exact aI c<|aj [] [(4,.gT),(5,H 0),(6,H 4)] []<|aN
 refine aH c<|aK ?_
 obtain⟨d,i,a⟩:=az a;refine aj [(1,b3 [123,51,65] (w9 i) wJ),(3,.al 351)] [(4,.ptr 351 0),(5,H b.1),(6,H 0)] [(123,.s 139 aW d.Links),(51,.s 37 bF d.aM),(65,.s 161 b2 d.bg),(351,.c 156 [.own 123,.own 51,.own 65])]<|c2 ?_
 cases a
variable {k:Int}
def P7{r}(a:sw f k=some r):cz au prog 82 [] [.agg (c6 f),H k] (eH (.bO [.ptr 12 0,H r.2]) [(174,.s 37 bF r.1.bp.aM),(507008201,.s 161 b2 r.1.bp.bg),(12,.c 156 [an aW r.1.bp.Links,.own 174,.own 507008201])]):=by
 refine a5 func82 rfl rfl ?_;unfold sw at a;refine aj [(0,.al 228)] [(1,H k),(2,.ptr 228 0)] [(228,.cells 29 (c6 f))]<|aq<|aX ?_
 obtain⟨i,j,a⟩:=az a;refine ak [(1,aB (oJ j) oF)] [] [(6,.bool (!decide (i=0)))] ?_;rcases aC a with⟨d,a⟩|⟨d,a⟩
 .refine aI d<|aj [] [(4,.gT),(5,H 1)] []<|c2 ?_
  cases a
 refine aH d<|aFe [(2,.ptr 228 0),(10,.bool ((decide (k<0))||(decide ((f.bg.length:Int)<=k))))] [(228,.cells 29 (c6 f))] (λg=>?_) ?_
 .rcases eU (decide (k<0))with b|b
  .exact aj [(2,Y (ax b)),(9,Y (hj (q:=decide ((f.bg.length:Int)<=k)) b))] _ _ g
  exact aj [(2,Y (ax b)),(6,Y (bk b2 f.bg)),(9,Y (eW (q:=decide ((f.bg.length:Int)<=k)) b))] _ _ g
 rcases aC a with⟨e,a⟩|⟨e,a⟩
 .refine aI e<|aj [] [(4,.gT),(5,H 4)] []<|c2 ?_
  cases a
 refine aH e<|aK ?_
 obtain⟨c,h,a⟩:=az a;refine aj [(1,b3 [123,51,65] (w9 h) wJ),(3,.al 354)] [(4,.ptr 354 0),(5,H 0)] [(123,.s 139 aW c.Links),(51,.s 37 bF c.aM),(65,.s 161 b2 c.bg),(354,.c 156 [.own 123,.own 51,.own 65])]<|c2 ?_
 obtain rfl:=cy a;exact c0 [.bL [123],.b8 354 12,.b8 51 174,.b8 65 507008201,.sc 12 [174,507008201]]
def P5{r}(a:w4 f k=some r):bb au prog 82 [] [.agg (c6 f),H k] (.bO [.gT,H r]):=by
 refine a5 func82 rfl rfl ?_;unfold w4 at a;refine aj [(0,.al 228)] [(1,H k),(2,.ptr 228 0)] [(228,.cells 29 (c6 f))]<|aq<|aX ?_
 obtain⟨i,j,a⟩:=az a;refine ak [(1,aB (oJ j) oF)] [] [(6,.bool (!decide (i=0)))] ?_;rcases aC a with⟨d,a⟩|⟨d,a⟩
 .exact aI d<|aj [] [(4,.gT),(5,H 1)] []<|aN
 refine aH d<|aFe [(2,.ptr 228 0),(10,.bool ((decide (k<0))||(decide ((f.bg.length:Int)<=k))))] [(228,.cells 29 (c6 f))] (λg=>?_) ?_
 .rcases eU (decide (k<0))with b|b
  .exact aj [(2,Y (ax b)),(9,Y (hj (q:=decide ((f.bg.length:Int)<=k)) b))] _ _ g
  exact aj [(2,Y (ax b)),(6,Y (bk b2 f.bg)),(9,Y (eW (q:=decide ((f.bg.length:Int)<=k)) b))] _ _ g
 rcases aC a with⟨e,a⟩|⟨e,a⟩
 .exact aI e<|aj [] [(4,.gT),(5,H 4)] []<|aN
 refine aH e<|aK ?_
 obtain⟨c,h,a⟩:=az a;refine aj [(1,b3 [123,51,65] (w9 h) wJ),(3,.al 354)] [(4,.ptr 354 0),(5,H 0)] [(123,.s 139 aW c.Links),(51,.s 37 bF c.aM),(65,.s 161 b2 c.bg),(354,.c 156 [.own 123,.own 51,.own 65])]<|c2 ?_
 cases a
variable {afV:aS}
def UA{a r}(b:uG a afV=some r):bb au prog 63 [] [.agg (nQ a),.dI (bz afV)] (.bool r):=by
 refine a5 func63 rfl rfl ?_;unfold uG at b;refine aj [(0,.al 557)] [(1,.dI (bz afV)),(2,.ptr 557 0)] [(557,.cells 143 (nQ a))] ?_;obtain⟨c,d,b⟩:=az b;exact aj [(3,aB (nK d) nC)] [(3,.bool (!c))] []<|aN
variable {r:aQ×Int}
def JW{t b}(a:uL t b=some r):bb au prog 17 [] [.agg (bz t),an dM b] (.bO [.agg (c6 r.1),H r.2]):=by
 refine a5 func17 rfl rfl ?_;unfold uL at a;refine aj [(0,.al 131),(1,.al 19)] [(1,an dM b),(2,.ptr 131 0),(4,.ptr 19 0)] [(131,.cells 41 (bz t)),(19,.c 29 [.aF,.aF,.aF])]<|aq ?_
 obtain⟨E,aA,a⟩:=az a;refine ak [(1,aB (kP aA) kX)] [] [(15,.bool (!decide (E=0)))] ?_;rcases aC a with⟨m,a⟩|⟨m,a⟩
 .exact aI m<|aV [] [1,2,15] [(5,H 1)] [131] []<|aN
 refine aH m<|aK<|aq ?_
 obtain⟨C,D,a⟩:=az a;refine ak [(2,bt [131] (PG (bZ:=63) (cp:=[.dI (bz t)]) (dQ:=ace) (dP:=λ_ _ ay=>UA ay) D) JI)] [15] [(19,.bool C)] ?_;rcases aC a with⟨l,a⟩|⟨l,a⟩
 .exact aI l<|aV [] [1,2,19] [(5,H 4)] [131] []<|aN
 refine aH l<|aK<|aq<|ak [(1,Y (bk dM b))] [19] [(22,H b.length),(23,H 0)]<|aX<|aFd 1 rfl λI=>?_
 obtain⟨aL,aR,L,M,a⟩:=cG a;refine cO a (λe()=>[(1,an dM b),(2,.ptr 131 0),(4,.ptr 19 0),(22,H b.length),(23,H e)]) (λe()=>[(131,.cells 41 (bz t)),(19,.c 29 [.aF,.aF,.aF])]) ?_ ?_ ?_
 .exact c8
 .rintro e ba aG ⟨⟩ K k a;rw[L]at a;refine ak [] [] [(24,.d ((e:Int)<b.length))]<|aq<|aI (cL k)<|aK<|aq<|aX<|ak [] [24] [(6,H e)] ?_
  obtain⟨O,N,a⟩:=cV a;refine cW O r (λq=>[(1,an dM b),(2,.ptr 131 0),(4,.ptr 19 0),(22,H b.length),(23,H e),(58,.bool q)]) (λq=>[(131,.cells 41 (bz t)),(19,.c 29 [.aF,.aF,.aF])]) ?_ ?_
  .rcases aC a with⟨p,a⟩|⟨p,a⟩
   .obtain⟨aE,x,aD,P,aJ,Q,a⟩:=mT a;obtain⟨y,G,a⟩:=az a;exact a7 [(2,Y (ax p)),(6,be (ix dM x)),(11,be (ix dM (bU k))),(14,aB (mW P) mL),(18,be (ix dM x)),(24,be (ix dM (bU k))),(28,aB (mW Q) mL),(30,aB (E4 G) Dy)] [6] [(58,.d (0<=y))]<|aT (decide (0<=y)) a
   exact a7 [(2,Y (ax p))] [6] [(58,.bool false)]<|aT false a
  rintro q a;rw[N]at a;rcases aC a with⟨s,a⟩|⟨s,a⟩
  .exact aI s<|aV [] [1,2,22,23,58] [(5,H 25)] [131] []<|aN
  exact aH s<|aK<|a7 [(0,Y (cI k I))] [23,58] [(23,H ((e+1:Nat):Int))]<|aT () a
 rintro e ⟨⟩ K J a;rw[M]at a;refine ak [] [] [(24,.d ((e:Int)<b.length))]<|aq<|aH (cK J)<|bQ ?_
 obtain⟨h,U,a⟩:=az a;refine aV [(2,b3 [13] (D3 U) Dj),(4,.al 79)] [22,23,24] [(7,.ptr 79 0)] [] [(13,.s 139 aW h),(79,.c 29 [.own 13,.aF,.aF])]<|aq<|aV [(2,Y (bk bJ t.bf))] [2] [(66,an bJ t.bf),(67,H t.bf.length),(68,H 0)] [131] []<|aX<|aFd 66 rfl λT=>?_
 obtain⟨a2,aY,W,X,a⟩:=cG a;refine cO a (λd=>λg=>[(1,an dM b),(4,.ptr 19 0),(7,.ptr 79 0),(66,an bJ t.bf),(67,H t.bf.length),(68,H d)]) (λd=>λg=>[(19,.c 29 [.aF,.aF,.aF]),(13,.s 139 aW h),(79,.c 29 [.own 13,.own 99,.aF]),(99,.s 37 bF g)]) ?_ ?_ ?_
 .exact cr [.ac 79 99 37 5 1] []
 .rintro d c aU g Z u a;rw[W]at a;refine ak [] [] [(69,.d ((d:Int)<t.bf.length))]<|aq<|aI (cL u)<|aK<|aq<|aX<|aV [(0,be (ix bJ (bU u))),(2,.al 146)] [69] [(9,.ptr 146 0)] [] [(146,.cells 82 (jl c))]<|aV [(5,.al 147)] [] [(10,.ptr 147 0)] [] [(147,.c 37 [H c.aP,H 0,.bool c.bK,.aF,.aF])]<|aq<|ak [(1,Y (bk dM b))] [] [(77,an dM b),(78,H b.length),(79,H 0)]<|aX<|aFd 1 rfl λag=>?_
  obtain⟨a4,a9,ao,ar,a⟩:=cG a;refine cO a (λf=>λi=>[(1,an dM b),(4,.ptr 19 0),(7,.ptr 79 0),(9,.ptr 146 0),(10,.ptr 147 0),(66,an bJ t.bf),(67,H t.bf.length),(68,H d),(77,an dM b),(78,H b.length),(79,H f)]) (λf=>λi=>[(19,.c 29 [.aF,.aF,.aF]),(13,.s 139 aW h),(79,.c 29 [.own 13,.own 99,.aF]),(99,.s 37 bF g),(146,.cells 82 (jl c)),(147,.c 37 [H c.aP,H 0,.bool c.bK,.own 205,.aF]),(205,.s 141 dL i)]) ?_ ?_ ?_
  .exact cr [.ac 147 205 141 3 3] []
  .rintro f B aZ i aw w a;rw[ao]at a;refine ak [] [] [(80,.d ((f:Int)<b.length))]<|aq<|aI (cL w)<|aK ?_
   obtain⟨F,R,a⟩:=cV a;refine cW F r (λj=>[(1,an dM b),(4,.ptr 19 0),(7,.ptr 79 0),(9,.ptr 146 0),(10,.ptr 147 0),(66,an bJ t.bf),(67,H t.bf.length),(68,H d),(77,an dM b),(78,H b.length),(79,H f)]) (λj=>[(19,.c 29 [.aF,.aF,.aF]),(13,.s 139 aW h),(79,.c 29 [.own 13,.own 99,.aF]),(99,.s 37 bF g),(146,.cells 82 (jl c)),(147,.c 37 [H c.aP,H 0,.bool c.bK,.own 205,.aF]),(205,.s 141 dL j)]) ?_ ?_
   .refine aX<|aV [(0,be (ix dM (bU w))),(2,.al 402)] [80] [(12,.ptr 402 0)] [] [(402,.cells 143 (nQ B))] ?_
    refine ak [] [] [(87,.d (B.ai=c.aP))] ?_;rcases aC a with⟨n,a⟩|⟨n,a⟩
    .refine aI n ?_;obtain⟨z,aa,a⟩:=az a;exact b0 [(5,dS 463 (ap dL (bytes:=24) (by decide) aa))] [12,87] [] [147,205,402] [(147,.c 37 [H c.aP,H 0,.bool c.bK,.own 463,.aF]),(463,.s 141 dL z)]<|Exists.intro z (And.intro a (cr [.b8 463 205] []))
    exact aH n<|aK<|aT i a
   rintro j a;rw[R]at a;exact a7 [(0,Y (cI w ag))] [79] [(79,H ((f+1:Nat):Int))]<|aT j a
  rintro f i aw am a;rw[ar]at a;refine ak [] [] [(80,.d ((f:Int)<b.length))]<|aq<|aH (cK am)<|bQ ?_
  obtain⟨o,ab,a⟩:=az a;exact A.R fN [.bL [205],.sc 147 [19,13,79,99,146,147]] [(4,dS 363 (ap bF (bytes:=72) (by decide) ab))] [(1,an dM b),(4,.ptr 19 0),(7,.ptr 79 0),(66,an bJ t.bf),(67,H t.bf.length),(68,H d)] [(19,.c 29 [.aF,.aF,.aF]),(13,.s 139 aW h),(79,.c 29 [.own 13,.own 363,.aF]),(363,.s 37 bF o)] (by kernel_rfl)<|lU [(0,Y (cI u T))] [(1,an dM b),(4,.ptr 19 0),(7,.ptr 79 0),(66,an bJ t.bf),(67,H t.bf.length),(68,H ((d+1:Nat):Int))] [(19,.c 29 [.aF,.aF,.aF]),(13,.s 139 aW h),(79,.c 29 [.own 13,.own 363,.aF]),(363,.s 37 bF o)]<|Exists.intro o (And.intro a (cr [.b8 363 99] []))
 rintro d g Z S a;rw[X]at a;refine ak [] [] [(69,.d ((d:Int)<t.bf.length))]<|aq<|aH (cK S)<|bQ<|aq ?_
 obtain⟨V,ae,a⟩:=az a;refine ak [(1,bt [13,99] (oJ ae) oF)] [1,66,67,68,69] [(105,.bool (!decide (V=0)))] ?_;rcases aC a with⟨v,a⟩|⟨v,a⟩
 .exact aI v<|aV [] [7,105] [(5,H 1)] [13,79,99] []<|aN
 refine aH v<|aK<|aV [] [7,105] [(5,H 0)] [19,79] [(19,.c 29 [.own 13,.own 99,.aF])]<|c2 ?_
 obtain rfl:=cy a;exact c0 [.bL [13,99]]
def I1(a:pU f aey=some r):cz au prog 19 [] [.agg (c6 f),H aey] (eH (.bO [.agg [an aW r.1.Links,.own 249,.own 250],H r.2]) [(249,.s 37 bF r.1.aM),(250,.s 161 b2 r.1.bg)]):=by
 refine a5 func19 rfl rfl ?_;unfold pU at a;refine aj [(0,.al 525),(1,.al 112)] [(1,H aey),(2,.ptr 525 0),(4,.ptr 112 0)] [(525,.cells 29 (c6 f)),(112,.c 29 [.aF,.aF,.aF])] ?_;rcases yT a with⟨c,o,a⟩|a
 .refine aj [(2,b3 [12,108,134] (IZ o) wI)] [(4,.ptr 112 0),(6,.ptr 12 0),(7,H c.2.1),(8,H c.2.2)] [(112,.c 29 [.aF,.aF,.aF]),(108,.s 37 bF c.1.bp.aM),(134,.s 161 b2 c.1.bp.bg),(12,.c 156 [an aW c.1.bp.Links,.own 108,.own 134])]<|aq<|ak [] [] [(17,.bool (!decide (c.2.2=0)))] ?_
  rcases aC a with⟨h,a⟩|⟨h,a⟩
  .refine aI h<|aV [] [6,7,8,17] [(5,H c.2.2)] [108,134,12] []<|c2 ?_
   obtain rfl:=cy a;exact c0 [.ac 112 249 37 5 1,.ac 112 250 161 3 2]
  refine aH h<|aK<|aq ?_
  obtain⟨j,b,a⟩:=az a;refine ak [(6,be (ix bF b)),(8,fK 108 1 (ix bF b))] [8,17] [(29,.d (j.Seq=1000000))] ?_;rcases aC a with⟨g,a⟩|⟨g,a⟩
  .refine aI g<|aV [] [6,7,29] [(5,H 7)] [108,134,12] []<|c2 ?_
   obtain rfl:=cy a;exact c0 [.ac 112 249 37 5 1,.ac 112 250 161 3 2]
  refine aH g<|aK ?_
  obtain⟨m,k,a⟩:=az a;refine aV [(6,be (ix bF b)),(8,fK 108 1 (ix bF b)),(10,be (ix bF b)),(12,mY 108 (st bF (off:=1) (ca:=[H (a2 (j.Seq+1))]) b k rfl) (oU b).1.1)] [29] [] [108] [(108,.s 37 bF m)] ?_;obtain⟨d,l,a⟩:=az a;refine aV [(2,b3 [335,336] (e0.at [(153,108),(201,134),(306,335),(307,336)] (D5 l)) Dk)] [7] [] [108,134,12] [(12,.c 156 [an aW d.bp.Links,.own 335,.own 336]),(335,.s 37 bF d.bp.aM),(336,.s 161 b2 d.bp.bg)]<|aV [] [6] [(5,H 0)] [112,12] [(112,.c 29 [an aW d.bp.Links,.own 335,.own 336])]<|c2 ?_
  obtain rfl:=cy a;exact c0 [.b8 335 249,.b8 336 250]
 obtain⟨e,n,a⟩:=az a;refine aj [(2,aB (I4 n) wI)] [(4,.ptr 112 0),(6,.gT),(7,H e.1),(8,H e.2)] [(112,.c 29 [.aF,.aF,.aF])]<|aq<|ak [] [] [(17,.bool (!decide (e.2=0)))] ?_
 rcases aC a with⟨i,a⟩|⟨i,a⟩
 .refine aI i<|ak [] [6,7,8,17] [(5,H e.2)]<|c2 ?_
  obtain rfl:=cy a;exact c0 [.ac 112 249 37 5 1,.ac 112 250 161 3 2]
 refine aH i<|aK<|aq ?_
 cases a
def UB(a:AP f aey=some r):bb au prog 23 [] [.agg (c6 f),H aey] (.bO [.agg (c6 r.1),H r.2]):=by
 refine a5 func23 rfl rfl ?_;unfold AP at a;refine aj [(0,.al 530),(1,.al 162)] [(1,H aey),(2,.ptr 530 0),(4,.ptr 162 0)] [(530,.cells 29 (c6 f)),(162,.c 29 [.aF,.aF,.aF])] ?_;rcases yT a with⟨b,o,a⟩|a
 .refine aj [(2,b3 [12,108,134] (IZ o) wI)] [(4,.ptr 162 0),(6,.ptr 12 0),(7,H b.2.1),(8,H b.2.2)] [(162,.c 29 [.aF,.aF,.aF]),(108,.s 37 bF b.1.bp.aM),(134,.s 161 b2 b.1.bp.bg),(12,.c 156 [an aW b.1.bp.Links,.own 108,.own 134])]<|aq<|ak [] [] [(17,.bool (!decide (b.2.2=0)))] ?_
  rcases aC a with⟨h,a⟩|⟨h,a⟩
  .exact aI h<|aV [] [6,7,8,17] [(5,H b.2.2)] [108,134,12] []<|aN
  refine aH h<|aK ?_
  obtain⟨p,g,q,j,s,i,a⟩:=mT a;obtain⟨l,m,a⟩:=az a;refine aV [(13,be (ix bF g)),(15,mY 108 (st bF (off:=4) (ca:=[.bn false []]) g j rfl) (oU g).1.1),(16,be (ix bF i)),(18,mY 108 (st bF (off:=1) (ca:=[H 1]) i m rfl) (oU i).1.1)] [8,17] [] [108] [(108,.s 37 bF l)] ?_;obtain⟨c,k,a⟩:=az a;refine aV [(2,b3 [337,338] (e0.at [(153,108),(201,134),(306,337),(307,338)] (D5 k)) Dk)] [7] [] [108,134,12] [(12,.c 156 [an aW c.bp.Links,.own 337,.own 338]),(337,.s 37 bF c.bp.aM),(338,.s 161 b2 c.bp.bg)]<|aV [] [6] [(5,H 0)] [162,12] [(162,.c 29 [an aW c.bp.Links,.own 337,.own 338])]<|c2 ?_
  obtain rfl:=cy a;exact c0 [.bL [337,338]]
 obtain⟨d,n,a⟩:=az a;refine aj [(2,aB (I4 n) wI)] [(4,.ptr 162 0),(6,.gT),(7,H d.1),(8,H d.2)] [(162,.c 29 [.aF,.aF,.aF])]<|aq<|ak [] [] [(17,.bool (!decide (d.2=0)))] ?_
 rcases aC a with⟨e,a⟩|⟨e,a⟩
 .exact aI e<|ak [] [6,7,8,17] [(5,H d.2)]<|aN
 refine aH e<|aK ?_
 cases a
def U9(a:Bg f aey=some r):bb au prog 25 [] [.agg (c6 f),H aey] (.bO [.agg (c6 r.1),H r.2]):=by
 refine a5 func25 rfl rfl ?_;unfold Bg at a;refine aj [(0,.al 533),(1,.al 151)] [(1,H aey),(2,.ptr 533 0),(4,.ptr 151 0)] [(533,.cells 29 (c6 f)),(151,.c 29 [.aF,.aF,.aF])] ?_;rcases yT a with⟨b,k,a⟩|a
 .refine aj [(2,b3 [12,108,134] (IZ k) wI)] [(4,.ptr 151 0),(6,.ptr 12 0),(7,H b.2.1),(8,H b.2.2)] [(151,.c 29 [.aF,.aF,.aF]),(108,.s 37 bF b.1.bp.aM),(134,.s 161 b2 b.1.bp.bg),(12,.c 156 [an aW b.1.bp.Links,.own 108,.own 134])]<|aq<|ak [] [] [(17,.bool (!decide (b.2.2=0)))] ?_
  rcases aC a with⟨g,a⟩|⟨g,a⟩
  .exact aI g<|aV [] [6,7,8,17] [(5,H b.2.2)] [108,134,12] []<|aN
  refine aH g<|aK ?_
  obtain⟨c,i,a⟩:=az a;refine aV [(2,b3 [296,297] (e0.at [(154,108),(280,134),(425,296),(426,297)] (P3 i)) Jm)] [7,8,17] [] [108,134,12] [(12,.c 156 [an aW c.bp.Links,.own 296,.own 297]),(296,.s 37 bF c.bp.aM),(297,.s 161 b2 c.bp.bg)]<|aq<|ak [(5,Y (bk b2 c.bp.bg))] [] [(29,.d (400<(c.bp.bg.length:Int)))] ?_
  rcases aC a with⟨e,a⟩|⟨e,a⟩
  .exact aI e<|aV [] [6,29] [(5,H 3)] [12,296,297] []<|aN
  refine aH e<|aK<|aV [] [6,29] [(5,H 0)] [151,12] [(151,.c 29 [an aW c.bp.Links,.own 296,.own 297])]<|c2 ?_
  obtain rfl:=cy a;exact c0 [.bL [296,297]]
 obtain⟨d,j,a⟩:=az a;refine aj [(2,aB (I4 j) wI)] [(4,.ptr 151 0),(6,.gT),(7,H d.1),(8,H d.2)] [(151,.c 29 [.aF,.aF,.aF])]<|aq<|ak [] [] [(17,.bool (!decide (d.2=0)))] ?_
 rcases aC a with⟨h,a⟩|⟨h,a⟩
 .exact aI h<|ak [] [6,7,8,17] [(5,H d.2)]<|aN
 refine aH h<|aK ?_
 cases a
def UC(a:AQ f k=some r):bb au prog 27 [] [.agg (c6 f),H k] (.bO [.agg (c6 r.1),H r.2]):=by
 refine a5 func27 rfl rfl ?_;unfold AQ at a;refine aj [(0,.al 538),(1,.al 183)] [(1,H k),(2,.ptr 538 0),(4,.ptr 183 0)] [(538,.cells 29 (c6 f)),(183,.c 29 [.aF,.aF,.aF])] ?_;rcases yT a with⟨b,j,a⟩|a
 .refine aj [(2,b3 [12,174,507008201] (P7 j) Dl)] [(1,H k),(4,.ptr 183 0),(6,.ptr 12 0),(7,H b.2)] [(183,.c 29 [.aF,.aF,.aF]),(174,.s 37 bF b.1.bp.aM),(507008201,.s 161 b2 b.1.bp.bg),(12,.c 156 [an aW b.1.bp.Links,.own 174,.own 507008201])]<|aq<|ak [] [] [(15,.bool (!decide (b.2=0)))] ?_
  rcases aC a with⟨g,a⟩|⟨g,a⟩
  .exact aI g<|aV [] [1,6,7,15] [(5,H b.2)] [174,507008201,12] []<|aN
  refine aH g<|aK ?_
  obtain⟨c,h,a⟩:=az a;refine aV [(2,b3 [339,340] (e0.at [(43,174),(505008402,507008201),(330,339),(331,340)] (PV h)) Jo)] [1,7,15] [] [174,507008201,12] [(12,.c 156 [an aW c.bp.Links,.own 339,.own 340]),(339,.s 37 bF c.bp.aM),(340,.s 161 b2 c.bp.bg)]<|aV [] [6] [(5,H 0)] [183,12] [(183,.c 29 [an aW c.bp.Links,.own 339,.own 340])]<|c2 ?_
  obtain rfl:=cy a;exact c0 [.bL [339,340]]
 obtain⟨e,i,a⟩:=az a;refine aj [(2,aB (P5 i) Dl)] [(1,H k),(4,.ptr 183 0),(6,.gT),(7,H e)] [(183,.c 29 [.aF,.aF,.aF])]<|aq<|ak [] [] [(15,.bool (!decide (e=0)))] ?_
 rcases aC a with⟨d,a⟩|⟨d,a⟩
 .exact aI d<|ak [] [1,6,7,15] [(5,H e)]<|aN
 refine aH d<|aK ?_
 cases a
def Va(a:Bb f k=some r):bb au prog 26 [] [.agg (c6 f),H k] (.bO [.agg (c6 r.1),H r.2]):=by
 refine a5 func26 rfl rfl ?_;unfold Bb at a;refine aj [(0,.al 536),(1,.al 182)] [(1,H k),(2,.ptr 536 0),(4,.ptr 182 0)] [(536,.cells 29 (c6 f)),(182,.c 29 [.aF,.aF,.aF])] ?_;rcases yT a with⟨b,l,a⟩|a
 .refine aj [(2,b3 [12,174,507008201] (P7 l) Dl)] [(1,H k),(4,.ptr 182 0),(6,.ptr 12 0),(7,H b.2)] [(182,.c 29 [.aF,.aF,.aF]),(174,.s 37 bF b.1.bp.aM),(507008201,.s 161 b2 b.1.bp.bg),(12,.c 156 [an aW b.1.bp.Links,.own 174,.own 507008201])]<|aq<|ak [] [] [(15,.bool (!decide (b.2=0)))] ?_
  rcases aC a with⟨g,a⟩|⟨g,a⟩
  .exact aI g<|aV [] [1,6,7,15] [(5,H b.2)] [174,507008201,12] []<|aN
  refine aH g<|aK ?_
  obtain⟨j,h,a⟩:=az a;refine aV [(9,b3 [520026001] (Md (d:=507008201) (D:=520026001) h (by decide)) Jn)] [1,7,15] [] [507008201,12] [(12,.c 156 [an aW b.1.bp.Links,.own 174,.own 520026001]),(520026001,.s 161 b2 j)]<|aV [] [6] [(5,H 0)] [182,12] [(182,.c 29 [an aW b.1.bp.Links,.own 174,.own 520026001])]<|c2 ?_
  obtain rfl:=cy a;exact c0 [.bL [174,520026001]]
 obtain⟨c,i,a⟩:=az a;refine aj [(2,aB (P5 i) Dl)] [(1,H k),(4,.ptr 182 0),(6,.gT),(7,H c)] [(182,.c 29 [.aF,.aF,.aF])]<|aq<|ak [] [] [(15,.bool (!decide (c=0)))] ?_
 rcases aC a with⟨e,a⟩|⟨e,a⟩
 .exact aI e<|ak [] [1,6,7,15] [(5,H c)]<|aN
 refine aH e<|aK ?_
 cases a
def Uu{a r}(b:AH a afV=some r):bb au prog 74 [] [.agg (qV a),.dI (bz afV)] (.bool r):=by
 refine a5 func74 rfl rfl ?_;unfold AH at b;refine aj [(0,.al 560)] [(1,.dI (bz afV)),(2,.ptr 560 0)] [(560,.cells 161 (qV a))] ?_;obtain⟨c,d,b⟩:=az b;exact aj [(5,aB (J8 d) Jl)] [(5,.bool c.2)] []<|aj [] [(3,.bool (!c.2))] []<|aN
def J2{z}(a:qT f z=some r):bb au prog 20 [] [.agg (c6 f),an aW z] (.bO [.agg (c6 r.1),H r.2]):=by
 refine a5 func20 rfl rfl ?_;unfold qT at a;refine aj [(0,.al 47),(1,.al 39)] [(1,an aW z),(2,.ptr 47 0),(4,.ptr 39 0)] [(47,.cells 29 (c6 f)),(39,.c 29 [.aF,.aF,.aF])] ?_;obtain⟨b,am,a⟩:=az a;refine aV [(1,b3 [123,51,65] (w9 am) wJ),(3,.al 48)] [] [(6,.ptr 48 0)] [] [(123,.s 139 aW b.Links),(51,.s 37 bF b.aM),(65,.s 161 b2 b.bg),(48,.c 156 [.own 123,.own 51,.own 65])] ?_;obtain⟨m,E,a⟩:=az a;refine aV [(2,b3 [13] (D3 E) Dj)] [1] [] [123,48] [(48,.c 156 [.own 13,.own 51,.own 65]),(13,.s 139 aW m)]<|aq ?_
 obtain⟨P,N,a⟩:=cV a;refine cW P r (λw=>[(2,.ptr 47 0),(4,.ptr 39 0),(6,.ptr 48 0),(34,.bool w)]) (λw=>[(47,.cells 29 (c6 f)),(39,.c 29 [.aF,.aF,.aF]),(51,.s 37 bF b.aM),(65,.s 161 b2 b.bg),(48,.c 156 [.own 13,.own 51,.own 65]),(13,.s 139 aW m)]) ?_ ?_
 .obtain⟨ao,A,a⟩:=az a;rcases aC a with⟨t,a⟩|⟨t,a⟩
  .exact a7 [(1,aB (oJ A) oF),(3,Y (ax t))] [] [(34,.bool true)]<|aT true a
  obtain⟨C,Q,a⟩:=az a;exact a7 [(1,aB (oJ A) oF),(3,Y (ax t)),(8,bt [13,51,65] (oJ Q) oF)] [] [(34,.bool (!decide (C=0)))]<|aT (!decide (C=0)) a
 rintro w a;rw[N]at a;rcases aC a with⟨s,a⟩|⟨s,a⟩
 .exact aI s<|aV [] [2,6,34] [(5,H 1)] [47,51,65,48,13] []<|aN
 refine aH s<|aK ?_
 obtain⟨d,S,a⟩:=az a;refine aV [(4,kA [13,51,65] [29,30] (uC S) tY ⟨jM bJ (λ_=>rfl) _,jM aW (λ_=>rfl) _,trivial⟩),(5,.al 319)] [34] [(7,.ptr 319 0)] [] [(29,.s 82 bJ d.bf),(30,.s 139 aW d.Links),(319,.c 41 [.own 29,.own 30])]<|aFs ((cZ.go (dc:=[(2,.ptr 47 0),(4,.ptr 39 0),(6,.ptr 48 0),(7,.ptr 319 0)]) (σ2:=[(47,.cells 29 (c6 f)),(39,.c 29 [.aF,.aF,.aF]),(51,.s 37 bF b.aM),(65,.s 161 b2 b.bg),(48,.c 156 [.own 13,.own 51,.own 65]),(13,.s 139 aW m),(29,.slice 82 2 (bc bJ d.bf) (bc bJ d.bf).length true),(30,.slice 139 5 (bc aW d.Links) (bc aW d.Links).length true),(319,.cells 41 (bz d))]) [.bL [29,30],.sc 319 []] [] (by kernel_rfl)).trans (aGQ (T:=41) (cs:=(bz d)) 7 319 (by kernel_rfl) (by kernel_rfl) (by kernel_rfl))) ?_
 obtain⟨O,G,a⟩:=az a;refine aj [(6,acE),(7,b3 [278] (e0.at [(216,65)] (ac4 (rO:=74) (tT:=[.dI (bz d)]) (HU:=ach) (HV:=λ_ _ ag=>Uu ag) G)) acg)] [(2,.ptr 47 0),(4,.ptr 39 0),(6,.ptr 48 0)] [(47,.cells 29 (c6 f)),(39,.c 29 [.aF,.aF,.aF]),(51,.s 37 bF b.aM),(48,.c 156 [.own 13,.own 51,.own 278]),(13,.s 139 aW m),(278,.s 161 b2 O)]<|aq<|ak [(5,Y (bk bF b.aM))] [] [(57,H b.aM.length),(58,H 0)]<|aX<|aF1 6 1 rfl rfl rfl rfl λI=>?_
 obtain⟨aw,ay,L,M,a⟩:=cG a;refine cO a (λc(e,h,g)=>[(2,.ptr 47 0),(4,.ptr 39 0),(6,.ptr 48 0),(57,H b.aM.length),(58,H c)]) (λc(e,h,g)=>[(47,.cells 29 (c6 f)),(39,.c 29 [.aF,.aF,.aF]),(48,.c 156 [an aW e,.own 64,.own 102]),(64,.s 37 bF h),(102,.s 161 b2 g)]) ?_ ?_ ?_
 .exact cr [.bL [13],.b8 51 64,.b8 278 102,.sc 48 [47,39,48,64,102]] []
 .rintro c aE ar ⟨e,h,g⟩ K B a;rw[L]at a;refine ak [] [] [(59,.d ((c:Int)<b.aM.length))]<|aq<|aI (cL B)<|aK ?_
  obtain⟨F,U,a⟩:=cV a;refine cW F r (λ(p,n,q)=>[(2,.ptr 47 0),(4,.ptr 39 0),(6,.ptr 48 0),(57,H b.aM.length),(58,H c)]) (λ(p,n,q)=>[(47,.cells 29 (c6 f)),(39,.c 29 [.aF,.aF,.aF]),(48,.c 156 [an aW p,.own 64,.own 102]),(64,.s 37 bF n),(102,.s 161 b2 q)]) ?_ ?_
  .refine aX<|ak [] [59] [(8,H c)] ?_
   obtain⟨v,j,a⟩:=az a;refine ak [(6,be (ix bF j))] [] [(9,.ptr 64 ((c:Int).toNat*5))] ?_;obtain⟨aA,W,l,X,a⟩:=er a;refine aV [(4,be (ix bF W)),(6,b3 [309,310] (e0.at [(187,309),(188,310)] (AW X)) zQ),(10,.al 406)] [] [(10,.ptr 406 0)] [] [(406,.c 167 [H l.1.ai,H l.1.Seq,.bool l.1.bK,.own 309,.own 310]),(309,.s 185 dO l.1.Links),(310,.s 141 dL l.1.Claims)] ?_;obtain⟨i,Z,a⟩:=az a;refine aV [(6,fK 64 0 (ix bF j)),(7,kA [64,102] [374,375] (e0.at [(187,374),(188,375)] (AW Z)) zQ ⟨jM dO (λ_=>rfl) _,jM dL (λ_=>rfl) _,trivial⟩),(11,.al 527)] [] [(12,.ptr 527 0),(13,.bool i.2)] [] [(527,.c 167 [H i.1.ai,H i.1.Seq,.bool i.1.bK,.own 374,.own 375]),(374,.s 185 dO i.1.Links),(375,.s 141 dL i.1.Claims)] ?_;obtain⟨V,aa,a⟩:=cV a;refine cW V r (λy=>[(2,.ptr 47 0),(4,.ptr 39 0),(6,.ptr 48 0),(8,H c),(9,.ptr 64 ((c:Int).toNat*5)),(57,H b.aM.length),(58,H c),(102,.bool y)]) (λy=>[(47,.cells 29 (c6 f)),(39,.c 29 [.aF,.aF,.aF]),(48,.c 156 [an aW e,.own 64,.own 102]),(64,.s 37 bF h),(102,.s 161 b2 g)]) ?_ ?_
   .rcases aC a with⟨o,a⟩|⟨o,a⟩
    .obtain⟨aD,D,a⟩:=az a;rcases aC a with⟨x,a⟩|⟨x,a⟩
     .exact b0 [(1,Y (ax o)),(4,bt [309,310,374,375] (xk D) wK),(7,Y (ax x)),(11,fK 64 1 (ix bF j))] [10,12,13] [(102,.d (v.Seq<1000000))] [406,309,310,527,374,375] []<|aT (decide (v.Seq<1000000)) a
     exact b0 [(1,Y (ax o)),(4,bt [309,310,374,375] (xk D) wK),(7,Y (ax x))] [10,12,13] [(102,.bool false)] [406,309,310,527,374,375] []<|aT false a
    exact b0 [(1,Y (ax o))] [10,12,13] [(102,.bool false)] [406,309,310,527,374,375] []<|aT false a
   rintro y a;rw[aa]at a;rcases aC a with⟨u,a⟩|⟨u,a⟩
   .refine aI u ?_;obtain⟨R,ab,a⟩:=az a;refine aV [(3,fK 64 1 (ix bF j)),(7,mY 64 (st bF (off:=1) (ca:=[H (a2 (v.Seq+1))]) j ab rfl) (oU j).1.1)] [9,102] [] [64] [(64,.s 37 bF R)] ?_;obtain⟨k,ae,a⟩:=az a;exact b0 [(2,b3 [434,435] (e0.at [(153,64),(201,102),(12,48),(306,434),(307,435)] (D5 ae)) Dk)] [8] [] [48,64,102] [(48,.c 156 [an aW k.bp.Links,.own 434,.own 435]),(434,.s 37 bF k.bp.aM),(435,.s 161 b2 k.bp.bg)]<|Exists.intro (k.bp.Links,k.bp.aM,k.bp.bg) (And.intro a (cr [.b8 434 64,.b8 435 102] []))
   exact aH u<|aK<|aT (e,h,g) a
  rintro⟨p,n,q⟩ a;rw[U]at a;exact a7 [(0,Y (cI B I))] [58] [(58,H ((c+1:Nat):Int))]<|aT (p,n,q) a
 rintro c ⟨e,h,g⟩ K J a;rw[M]at a;refine ak [] [] [(59,.d ((c:Int)<b.aM.length))]<|aq<|aH (cK J)<|bQ<|aV [] [2,6,57,58,59] [(5,H 0)] [47,39,48] [(39,.c 29 [an aW e,.own 64,.own 102])]<|c2 ?_
 obtain rfl:=cy a;exact c0 [.bL [64,102]]
def JX(a:qR f=some r):bb au prog 29 [] [.agg (c6 f)] (.bO [.agg (c6 r.1),H r.2]):=by
 refine a5 func29 rfl rfl ?_;unfold qR at a;refine aj [(0,.al 414),(1,.al 83)] [(1,.ptr 414 0),(2,.ptr 83 0)] [(414,.cells 29 (c6 f)),(83,.c 29 [.aF,.aF,.aF])]<|aq ?_
 obtain⟨i,m,a⟩:=az a;refine ak [(1,aB (oJ m) oF)] [] [(9,.bool (!decide (i=0)))] ?_;rcases aC a with⟨g,a⟩|⟨g,a⟩
 .exact aI g<|aV [] [1,9] [(3,H 1)] [414] []<|aN
 refine aH g<|aK ?_
 obtain⟨d,h,a⟩:=az a;refine aV [(1,b3 [123,51,65] (w9 h) wJ),(3,.al 18)] [1,9] [(4,.ptr 18 0)] [414] [(123,.s 139 aW d.Links),(51,.s 37 bF d.aM),(65,.s 161 b2 d.bg),(18,.c 156 [.own 123,.own 51,.own 65])]<|aq<|aV [(1,Al),(3,Al),(5,Al),(6,acC fN 122),(7,acI fN)] [] [(21,.cU (.mU 3) 122),(22,H 3),(23,H 0)] [] [(122,.c 1 [.cU (.ia 85) 18,.cU (.ia 86) 18,.cU (.ia 85) 18])]<|aX<|aGR 4<|aFV<|aj [] [(2,.ptr 83 0),(4,.ptr 18 0),(21,.cU (.mU 3) 122),(22,H 3),(23,H 0),(24,.bool true)] [(83,.c 29 [.aF,.aF,.aF]),(123,.s 139 aW d.Links),(51,.s 37 bF d.aM),(65,.s 161 b2 d.bg),(18,.c 156 [.own 123,.own 51,.own 65]),(122,.c 1 [.cU (.ia 85) 18,.cU (.ia 86) 18,.cU (.ia 85) 18])]<|aq<|aFu rfl rfl<|aK<|aq<|aX<|ak [(0,Ia fN)] [24] [(6,.cU (.ia 85) 18)] ?_
 obtain⟨b,j,a⟩:=az a;refine A.R fN [.bL [123],.sc 18 [83,51,65,18,122]] [(1,IB [265,266] (e0.at [(427,51),(429,65),(12,18),(428,265),(430,266)] (PZ j)) Jp)] [(2,.ptr 83 0),(4,.ptr 18 0),(21,.cU (.mU 3) 122),(22,H 3),(23,H 0)] [(83,.c 29 [.aF,.aF,.aF]),(18,.c 156 [an aW b.bp.Links,.own 265,.own 266]),(122,.c 1 [.cU (.ia 85) 18,.cU (.ia 86) 18,.cU (.ia 85) 18]),(265,.s 37 bF b.bp.aM),(266,.s 161 b2 b.bp.bg)] (by kernel_rfl)<|lU [] [(2,.ptr 83 0),(4,.ptr 18 0),(21,.cU (.mU 3) 122),(22,H 3),(23,H 1)] [(83,.c 29 [.aF,.aF,.aF]),(18,.c 156 [an aW b.bp.Links,.own 265,.own 266]),(122,.c 1 [.cU (.ia 85) 18,.cU (.ia 86) 18,.cU (.ia 85) 18]),(265,.s 37 bF b.bp.aM),(266,.s 161 b2 b.bp.bg)] ?_
 show s8 _ _ _ _ _ _;refine aFV<|aj [] [(2,.ptr 83 0),(4,.ptr 18 0),(21,.cU (.mU 3) 122),(22,H 3),(23,H 1),(24,.bool true)] [(83,.c 29 [.aF,.aF,.aF]),(18,.c 156 [an aW b.bp.Links,.own 265,.own 266]),(122,.c 1 [.cU (.ia 85) 18,.cU (.ia 86) 18,.cU (.ia 85) 18]),(265,.s 37 bF b.bp.aM),(266,.s 161 b2 b.bp.bg)] ?_
 refine aq<|aFu rfl rfl ?_
 refine aK<|aq ?_
 refine aX<|ak [(0,Ia fN)] [24] [(6,.cU (.ia 86) 18)] ?_
 obtain⟨e,k,a⟩:=az a;refine b0 [(1,IB [267,268] (e0.at [(371,265),(372,266),(12,18),(481,267),(482,268)] (Ub k)) ack)] [6] [] [18,265,266] [(18,.c 156 [an aW e.bp.Links,.own 267,.own 268]),(267,.s 37 bF e.bp.aM),(268,.s 161 b2 e.bp.bg)]<|a7 [] [23] [(23,H 2)] ?_
 show s8 _ _ _ _ _ _;refine aFV<|aj [] [(2,.ptr 83 0),(4,.ptr 18 0),(21,.cU (.mU 3) 122),(22,H 3),(23,H 2),(24,.bool true)] [(83,.c 29 [.aF,.aF,.aF]),(18,.c 156 [an aW e.bp.Links,.own 267,.own 268]),(122,.c 1 [.cU (.ia 85) 18,.cU (.ia 86) 18,.cU (.ia 85) 18]),(267,.s 37 bF e.bp.aM),(268,.s 161 b2 e.bp.bg)] ?_
 refine aq<|aFu rfl rfl ?_
 refine aK<|aq ?_
 refine aX<|ak [(0,Ia fN)] [24] [(6,.cU (.ia 85) 18)] ?_
 obtain⟨c,l,a⟩:=az a;refine b0 [(1,IB [269,270] (e0.at [(427,267),(429,268),(12,18),(428,269),(430,270)] (PZ l)) Jp)] [6] [] [18,267,268] [(18,.c 156 [an aW c.bp.Links,.own 269,.own 270]),(269,.s 37 bF c.bp.aM),(270,.s 161 b2 c.bp.bg)]<|a7 [] [23] [(23,H 3)] ?_
 show s8 _ _ _ _ _ _;refine aFV<|aj [] [(2,.ptr 83 0),(4,.ptr 18 0),(21,.cU (.mU 3) 122),(22,H 3),(23,H 3),(24,.bool false)] [(83,.c 29 [.aF,.aF,.aF]),(18,.c 156 [an aW c.bp.Links,.own 269,.own 270]),(122,.c 1 [.cU (.ia 85) 18,.cU (.ia 86) 18,.cU (.ia 85) 18]),(269,.s 37 bF c.bp.aM),(270,.s 161 b2 c.bp.bg)] ?_
 refine aq<|aFl rfl rfl ?_
 refine bQ<|aV [] [4,21,22,23,24] [(3,H 0)] [83,18,122] [(83,.c 29 [an aW c.bp.Links,.own 269,.own 270])] ?_
 refine c2 ?_;obtain rfl:=cy a;exact c0 [.bL [269,270]]
def UZ{n r}(a:AX n=some r):bb au prog 28 [] [H n] (H r):=by
 refine a5 func28 rfl rfl ?_;unfold AX at a;exact aj [] [(0,H n)] []<|aj [] [(2,H (a2 ((2:Int)*(if(1099511627776:Int)<(if(0:Int)>n then(0:Int)else n)then(1099511627776:Int)else(if(0:Int)>n then(0:Int)else n)))))] []<|aN
variable {au:Bool}
def EA{f r}(a:sA f=some r):bb au prog 11 [] [.agg (c6 f)] (.agg (bz r)):=by
 refine a5 func11 rfl rfl ?_;unfold sA at a;refine aj [(0,.al 194),(1,.al 177)] [(1,.ptr 194 0),(2,.ptr 177 0)] [(194,.cells 29 (c6 f)),(177,.c 41 [.aF,.aF])]<|aV [(3,.al 211)] [] [(3,.ptr 211 0)] [] [(211,.c 41 [.aF,an aW f.Links])]<|aq<|ak [] [] [(4,H 0)]<|aX<|aFm 1 1 rfl rfl rfl λg=>?_
 obtain⟨n,o,j,k,a⟩:=cG a;refine cO a (λb=>λc=>[(1,.ptr 194 0),(2,.ptr 177 0),(3,.ptr 211 0),(4,H b)]) (λb=>λc=>[(194,.cells 29 (c6 f)),(177,.c 41 [.aF,.aF]),(211,.c 41 [.own 271,an aW f.Links]),(271,.s 82 bJ c)]) ?_ ?_ ?_
 .exact cr [.ac 211 271 82 2 0] []
 .rintro b p m c i d a;rw[j]at a;refine aq<|ak [(3,Y (bk bF f.aM))] [] [(12,.d ((b:Int)<f.aM.length))] ?_
  refine aI (cL d)<|aK<|aq<|aX ?_
  obtain⟨e,l,a⟩:=az a;exact b0 [(5,be (ix bF (bU d))),(11,be (ix bF (bU d))),(16,dS 356 (ap bJ (bytes:=16) (by decide) l))] [12] [] [211,271] [(211,.c 41 [.own 356,an aW f.Links]),(356,.s 82 bJ e)]<|a7 [(1,Y (cI d g))] [4] [(4,H ((b+1:Nat):Int))]<|Exists.intro e (And.intro a (cr [.b8 356 271] []))
 rintro b c i h a;rw[k]at a;refine aq<|ak [(3,Y (bk bF f.aM))] [] [(12,.d ((b:Int)<f.aM.length))] ?_
 refine aH (cK h)<|bQ<|aV [] [1,3,4,12] [] [194,177,211] [(177,.c 41 [.own 271,an aW f.Links])]<|c2 ?_
 obtain rfl:=cy a;exact c0 [.bL [271]]
variable {au:Bool}
variable {t:aS}
def UH{r}(a:A6 t=some r):bb au prog 249 [] [.agg (bz t)] (.bool r):=by
 refine a5 func249 rfl rfl ?_;unfold A6 at a;refine aj [(0,.al 531)] [(1,.ptr 531 0)] [(531,.cells 41 (bz t))] ?_;obtain⟨b,c,a⟩:=az a;exact aj [(1,aB (kP c) kX)] [(2,.d (b=0))] []<|aN
def Vb{r}(a:Bc t=some r):bb au prog 250 [] [.agg (bz t)] (.agg [.dK (bo .i64 (ep c3) r.jd),.dK (bo .i64 (ep c3) r.nc)]):=by
 refine a5 func250 rfl rfl ?_;unfold Bc at a;refine aj [(0,.al 181),(1,.al 53)] [(1,.ptr 181 0),(2,.ptr 53 0)] [(181,.cells 41 (bz t)),(53,.c 317 [.dH,.dH])]<|aV [(0,.al 250009),(1,.al 250010),(3,.al 67)] [] [(3,.ptr 67 0)] [] [(250009,.map 3 346 (bo .i64 (ep c3) [])),(250010,.map 3 346 (bo .i64 (ep c3) [])),(67,.c 317 [.cc 250009,.cc 250010])]<|aFs ((aGd (d:=250009) (e:=450250009) rfl rfl rfl rfl rfl))<|aFs ((aGd (d:=250010) (e:=450250010) rfl rfl rfl rfl rfl))<|aq<|aj [(2,Y (bk bJ t.bf))] [(1,.ptr 181 0),(2,.ptr 53 0),(3,.ptr 67 0),(13,an bJ t.bf),(14,H t.bf.length),(15,H 0)] [(181,.cells 41 (bz t)),(53,.c 317 [.dH,.dH]),(250009,.eo 3 346 450250009 (dR .i64 ([]:List (Int×zg))) none none),(450250009,.de (eV 348 2 c3.enc ([]:List (Int×zg)))),(250010,.eo 3 346 450250010 (dR .i64 ([]:List (Int×zg))) none none),(450250010,.de (eV 348 2 c3.enc ([]:List (Int×zg)))),(67,.c 317 [.cc 250009,.cc 250010])]<|aX<|aFd 13 rfl λG=>?_
 obtain⟨ar,aw,J,K,a⟩:=cG a;refine cO a (λm(h,i)=>[(1,.ptr 181 0),(2,.ptr 53 0),(3,.ptr 67 0),(13,an bJ t.bf),(14,H t.bf.length),(15,H m)]) (λm(h,i)=>[(181,.cells 41 (bz t)),(53,.c 317 [.dH,.dH]),(250009,.eo 3 346 450250009 (dR .i64 h) none none),(450250009,.de (eV 348 2 c3.enc h)),(250010,.eo 3 346 450250010 (dR .i64 i) none none),(450250010,.de (eV 348 2 c3.enc i)),(67,.c 317 [.cc 250009,.cc 250010])]) ?_ ?_ ?_
 .exact c8
 .rintro m j am ⟨h,i⟩ I x a;rw[J]at a;exact ak [] [] [(16,.d ((m:Int)<t.bf.length))]<|aq<|aI (cL x)<|aK<|aq<|aX<|aV [(0,be (ix bJ (bU x))),(2,.al 532)] [16] [(5,.ptr 532 0)] [] [(532,.cells 82 (jl j))]<|b0 [(8,PA 348 2 377 h j.aP c3.enc [] lf),(9,PA 348 2 378 i j.aP c3.enc [] lf)] [5] [] [250009,450250009,250010,450250010,532] [(250009,.eo 3 346 377 (dR .i64 (bW h j.aP [])) none none),(377,.de (eV 348 2 c3.enc (bW h j.aP []))),(250010,.eo 3 346 378 (dR .i64 (bW i j.aP [])) none none),(378,.de (eV 348 2 c3.enc (bW i j.aP [])))]<|a7 [(0,Y (cI x G))] [15] [(15,H ((m+1:Nat):Int))]<|Exists.intro (bW h j.aP [],bW i j.aP []) (And.intro a (cr [.rn 377 450250009,.rn 378 450250010] []))
 rintro m ⟨h,i⟩ I w a;rw[K]at a;refine ak [] [] [(16,.d ((m:Int)<t.bf.length))]<|aq<|aH (cK w)<|bQ<|aq<|aV [(2,Y (bk aW t.Links))] [1,13,14,15,16] [(29,an aW t.Links),(30,H t.Links.length),(31,H 0)] [181] []<|aX<|aFd 29 rfl λO=>?_
 obtain⟨aB,aA,P,Q,a⟩:=cG a;refine cO a (λn(c,b)=>[(2,.ptr 53 0),(3,.ptr 67 0),(29,an aW t.Links),(30,H t.Links.length),(31,H n)]) (λn(c,b)=>[(53,.c 317 [.dH,.dH]),(250009,.eo 3 346 450250009 (dR .i64 c) none none),(450250009,.de (eV 348 2 c3.enc c)),(250010,.eo 3 346 450250010 (dR .i64 b) none none),(450250010,.de (eV 348 2 c3.enc b)),(67,.c 317 [.cc 250009,.cc 250010])]) ?_ ?_ ?_
 .exact c8
 .rintro n e2 ay ⟨c,b⟩ S y a;rw[P]at a;refine ak [] [] [(32,.d ((n:Int)<t.Links.length))]<|aq<|aI (cL y)<|aK<|aq<|aX<|aV [(0,be (ix aW (bU y))),(2,.al 289)] [32] [(7,.ptr 289 0)] [] [(289,.cells 139 (dJ e2))] ?_
  obtain⟨k,ab,a⟩:=az a;refine aV [(8,Am 348 2 530250004 530250003 c e2.A c3.enc lf zeroValue346),(15,dS 250550 (ap c3 (bytes:=16) (by decide) ab)),(16,Dt 348 2 551 c e2.A c3.enc k 530250003 lf)] [] [] [250009,450250009] [(250009,.eo 3 346 551 (dR .i64 (bW c e2.A k)) none none),(551,.de (eV 348 2 c3.enc (bW c e2.A k)))] ?_;obtain⟨u,C,a⟩:=az a;refine aV [(8,Am 348 2 530250007 530250006 (bW c e2.A k) e2.B c3.enc lf zeroValue346),(15,dS 250566 (ap c3 (bytes:=16) (by decide) C)),(16,Dt 348 2 281 (bW c e2.A k) e2.B c3.enc u 530250006 lf)] [] [] [250009,551] [(250009,.eo 3 346 281 (dR .i64 (bW (bW c e2.A k) e2.B u)) none none),(281,.de (eV 348 2 c3.enc (bW (bW c e2.A k) e2.B u)))] ?_;obtain⟨l,E,a⟩:=az a;refine aV [(8,Am 348 2 530250010 530250009 b e2.B c3.enc lf zeroValue346),(15,dS 250582 (ap c3 (bytes:=16) (by decide) E)),(16,Dt 348 2 552 b e2.B c3.enc l 530250009 lf)] [] [] [250010,450250010] [(250010,.eo 3 346 552 (dR .i64 (bW b e2.B l)) none none),(552,.de (eV 348 2 c3.enc (bW b e2.B l)))] ?_;obtain⟨v,L,a⟩:=az a;exact b0 [(8,Am 348 2 530250013 530250012 (bW b e2.B l) e2.A c3.enc lf zeroValue346),(15,dS 250598 (ap c3 (bytes:=16) (by decide) L)),(16,Dt 348 2 379 (bW b e2.B l) e2.A c3.enc v 530250012 lf)] [7] [] [250010,552,289] [(250010,.eo 3 346 379 (dR .i64 (bW (bW b e2.B l) e2.A v)) none none),(379,.de (eV 348 2 c3.enc (bW (bW b e2.B l) e2.A v)))]<|a7 [(0,Y (cI y O))] [31] [(31,H ((n+1:Nat):Int))]<|Exists.intro (bW (bW c e2.A k) e2.B u,bW (bW b e2.B l) e2.A v) (And.intro a (cr [.rn 281 450250009,.rn 379 450250010] []))
 rintro n ⟨c,b⟩ S N a;rw[Q]at a;refine ak [] [] [(32,.d ((n:Int)<t.Links.length))]<|aq<|aH (cK N)<|bQ<|aq<|aGU (d:=250009) rfl λo f=>?_
 refine aj [(2,IC 250102 o f lf)] [(2,.ptr 53 0),(3,.ptr 67 0),(102,.ptr 250102 0)] [(53,.c 317 [.dH,.dH]),(250009,.eo 3 346 450250009 (dR .i64 c) none (some (o,f))),(450250009,.de (eV 348 2 c3.enc c)),(250010,.eo 3 346 450250010 (dR .i64 b) none none),(450250010,.de (eV 348 2 c3.enc b)),(67,.c 317 [.cc 250009,.cc 250010]),(250102,.iter 250009 f f (#[]))]<|aX ?_
 obtain⟨A,V,a⟩:=az a;refine aGm (cB:=250009) (dh:=250102) (it:=102) (clock:=f) (es:=o) V (λD=>D.map (·.1)=c.map (·.1)) (λg=>[(2,.ptr 53 0),(3,.ptr 67 0),(102,.ptr 250102 0)]) (λs=>λg=>[(53,.c 317 [.dH,.dH]),(250009,.eo 3 346 450250009 (dR .i64 g) none (some (o,f))),(450250009,.de (eV 348 2 c3.enc g)),(250010,.eo 3 346 450250010 (dR .i64 b) none none),(450250010,.de (eV 348 2 c3.enc b)),(67,.c 317 [.cc 250009,.cc 250010]),(250102,.iter 250009 f f s)]) ⟨rfl,rfl,rfl⟩ ⟨rfl,rfl,rfl⟩ (by kernel_rfl) rfl (by intro aG aJ aE ax q z;obtain⟨aa,q⟩:=g0 q;obtain⟨ae,ag,q⟩:=az q;obtain rfl:=cy q;exact(F4 ae aa).trans z) (λ_=>rfl) (λ_ _=>rfl) (λ_ _=>⟨_,rfl,rfl⟩) (λ_ _ _=>rfl) (λ_ _ z _ _ _ _ R Z=>H6 R rfl Z z) ?_ ?_ ?_
 .exact c8
 .rintro s W aC p ao g aD X w U a;refine aX<|aj [(0,acG 250102 250009 f .i64 s X (Qx U w))] [(2,.ptr 53 0),(3,.ptr 67 0),(102,.ptr 250102 0),(8,H p)] [(53,.c 317 [.dH,.dH]),(250009,.eo 3 346 450250009 (dR .i64 g) none (some (o,f))),(450250009,.de (eV 348 2 c3.enc g)),(250010,.eo 3 346 450250010 (dR .i64 b) none none),(450250010,.de (eV 348 2 c3.enc b)),(67,.c 317 [.cc 250009,.cc 250010]),(250102,.iter 250009 f f (s.push W.born))] ?_
  obtain⟨M,a⟩:=g0 a;obtain⟨B,F,a⟩:=az a;refine b0 [(3,Am 348 2 530250016 530250015 g p c3.enc lf zeroValue346),(4,b3 [] (YS (d:=530250015) (T:=348) F) TH)] [8] [] [250009,450250009] [(250009,.eo 3 346 530250016 (dR .i64 g) (j7 g p 530250015) (some (o,f))),(530250016,.de (eV 348 2 c3.enc (iE g p))),(530250015,.s 348 c3 B)] ?_;obtain rfl:=cy a;exact((aHp (d:=250009) (e:=530250016) (e2:=530250017) (t:=530250015) g p c3.enc B M rfl rfl rfl rfl rfl rfl rfl).trans (cr [.rn 530250017 450250009] []))
 intro s;exact aFs (cZ.refl _ _ _)<|aFs (aGe (d:=250009) (e:=450250009) A c3.enc rfl rfl)<|aFs (aGe (d:=250010) (e:=450250010) b c3.enc rfl rfl)<|aj [] [(2,.ptr 53 0)] [(53,.c 317 [.cc 250009,.cc 250010]),(250009,.jY 3 346 (bo .i64 (ep c3) A)),(250010,.jY 3 346 (bo .i64 (ep c3) b))]<|aN
def Uj{f p r}(b:pV f p=some r):cz au prog 251 [] [.dK (bo .i64 (ep c3) f),H p] (eH (.cc 500025100) [(500025100,.map 3 3 (bo .i64 (dZ .i64) r))]):=by
 refine a5 func251 rfl rfl ?_;unfold pV at b;refine aj [] [(0,.dK (bo .i64 (ep c3) f)),(1,H p)] []<|A.scope<|aj [(0,.al 25)] [(0,.dK (bo .i64 (ep c3) f)),(1,H p),(5,.cc 25)] [(25,.map 3 3 (bo .i64 (dZ .i64) []))]<|aq<|ak [(2,oK f p (ep c3) [] lf (BV c3 zeroValue346))] [] [(7,.bool ((aO f p).isSome))]<|ak [] [7] [(27,.bool (!((aO f p).isSome)))] ?_
 rcases aC b with⟨D,b⟩|⟨D,b⟩
 .refine aI D<|ak [] [0,1,5,27] [(4,.cc 25)]<|c2 ?_
  obtain rfl:=cy b;exact c0 [.b8 25 500025100]
 refine aH D<|aK<|aV [(0,.al 251029),(2,sv (nh (k:=.i64) (enc:=(dZ .i64)) [] p (0:Int) rfl))] [1,27] [(8,.cc 251029)] [] [(251029,.map 3 3 (bo .i64 (dZ .i64) (bW [] p (0:Int))))]<|aq<|A.label ?_
 obtain⟨R,Q,b⟩:=cV b;refine cW R r (λ(C,M)=>[(5,.cc 25)]) (λ(C,M)=>[(25,.map 3 3 (bo .i64 (dZ .i64) C))]) ?_ ?_
 .refine aX ?_;obtain⟨aB,ay,aa,b⟩:=jL b;refine aFn b (λ(h,a)=>[(0,.dK (bo .i64 (ep c3) f)),(5,.cc 25),(8,.cc 251029)]) (λ(h,a)=>[(25,.map 3 3 (bo .i64 (dZ .i64) h)),(251029,.map 3 3 (bo .i64 (dZ .i64) a))]) ?_ ?_
  .exact c8
  rintro am ⟨h,a⟩ b;rw[aa]at b;refine aq<|ak [(1,Py (lm (k:=.i64) (enc:=(dZ .i64)) a))] [] [(34,.d (0<(a.length:Int)))] ?_
  rcases aC b with⟨B,b⟩|⟨B,b⟩
  .refine aI B<|aK<|aX<|ak [] [34] [(9,H 0)]<|aq<|aGn (d:=251029) rfl λu l=>?_
   refine aj [(1,IC 251036 u l qg)] [(0,.dK (bo .i64 (ep c3) f)),(5,.cc 25),(8,.cc 251029),(9,H 0),(36,.ptr 251036 0)] [(25,.map 3 3 (bo .i64 (dZ .i64) h)),(251029,.gl u l 3 3 (bo .i64 (dZ .i64) a)),(251036,.iter 251029 l l (#[]))]<|aX ?_
   obtain⟨c,ab,b⟩:=az b;refine aGm (cB:=251029) (dh:=251036) (it:=36) (clock:=l) (es:=u) ab (λ_=>True) (λe=>[(0,.dK (bo .i64 (ep c3) f)),(5,.cc 25),(8,.cc 251029),(9,H e),(36,.ptr 251036 0)]) (λv=>λe=>[(25,.map 3 3 (bo .i64 (dZ .i64) h)),(251029,.gl u l 3 3 (bo .i64 (dZ .i64) a)),(251036,.iter 251029 l l v)]) ⟨rfl,rfl,rfl⟩ ⟨rfl,rfl,rfl⟩ (by kernel_rfl) trivial (λ_ _ _ _ _ _=>trivial) (λ_=>rfl) (λ_ _=>rfl) (λ_ _=>⟨_,rfl,rfl⟩) (λ_ _ _=>rfl) (λ_ _ _ _ _ _ _ X ag=>JJ X rfl ag) ?_ ?_ ?_
   .exact c8
   .rintro v N aD m j e aE ae P aA b;refine aX<|aj [(0,Aj 251036 251029 l .i64 v (dZ .i64) ae P)] [(0,.dK (bo .i64 (ep c3) f)),(5,.cc 25),(8,.cc 251029),(9,H e),(36,.ptr 251036 0),(10,H m),(11,H j)] [(25,.map 3 3 (bo .i64 (dZ .i64) h)),(251029,.gl u l 3 3 (bo .i64 (dZ .i64) a)),(251036,.iter 251029 l l (v.push N.born))] ?_
    refine aFe [(0,.dK (bo .i64 (ep c3) f)),(5,.cc 25),(8,.cc 251029),(9,H e),(36,.ptr 251036 0),(10,H m),(62,.bool ((decide (e=0))||((decide (j<((aO a e).getD (0:Int))))||((decide (j=((aO a e).getD (0:Int))))&&(decide (m<e))))))] [(25,.map 3 3 (bo .i64 (dZ .i64) h)),(251029,.gl u l 3 3 (bo .i64 (dZ .i64) a)),(251036,.iter 251029 l l (v.push N.born))] (λt=>?_) ?_
    .rcases eU (decide (e=0))with n|n
     .exact aj [(2,Y (ax n)),(20,Y (hj (q:=((decide (j<((aO a e).getD (0:Int))))||((decide (j=((aO a e).getD (0:Int))))&&(decide (m<e))))) n))] _ _ t
     rcases eU (decide (j<((aO a e).getD (0:Int))))with s|s
     .exact aj [(2,Y (ax n)),(6,oK a e (dZ .i64) (0:Int) qg (s5 (k:=.i64) zeroValue3)),(9,Y (ax s)),(20,Y ((hj (q:=((decide (j=((aO a e).getD (0:Int))))&&(decide (m<e)))) s).trans (eW (q:=((decide (j<((aO a e).getD (0:Int))))||((decide (j=((aO a e).getD (0:Int))))&&(decide (m<e))))) n)))] _ _ t
     rcases eU (decide (j=((aO a e).getD (0:Int))))with w|w
     .exact aj [(2,Y (ax n)),(6,oK a e (dZ .i64) (0:Int) qg (s5 (k:=.i64) zeroValue3)),(9,Y (ax s)),(13,oK a e (dZ .i64) (0:Int) qg (s5 (k:=.i64) zeroValue3)),(15,Y (ax w)),(20,Y (((ko (q:=decide (m<e)) w).trans (eW (q:=((decide (j=((aO a e).getD (0:Int))))&&(decide (m<e)))) s)).trans (eW (q:=((decide (j<((aO a e).getD (0:Int))))||((decide (j=((aO a e).getD (0:Int))))&&(decide (m<e))))) n)))] _ _ t
     exact aj [(2,Y (ax n)),(6,oK a e (dZ .i64) (0:Int) qg (s5 (k:=.i64) zeroValue3)),(9,Y (ax s)),(13,oK a e (dZ .i64) (0:Int) qg (s5 (k:=.i64) zeroValue3)),(15,Y (ax w)),(20,Y (((kK (q:=decide (m<e)) w).trans (eW (q:=((decide (j=((aO a e).getD (0:Int))))&&(decide (m<e)))) s)).trans (eW (q:=((decide (j<((aO a e).getD (0:Int))))||((decide (j=((aO a e).getD (0:Int))))&&(decide (m<e))))) n)))] _ _ t
    rcases aC b with⟨J,b⟩|⟨J,b⟩
    .refine aI J<|a7 [] [9,10,62] [(9,H m)] ?_
     obtain rfl:=cy b;exact(c8)
    refine aH J<|aK ?_
    obtain rfl:=cy b;exact(c8)
   intro v;refine aFs (aGc (d:=251029) rfl)<|aj [(2,jj (lk (E:=3) (k:=.i64) (enc:=(dZ .i64)) a c (0:Int) (λy=>⟨_,zeroValue3 y,λL=>by simp[a1,dZ,h6]⟩)))] [(0,.dK (bo .i64 (ep c3) f)),(5,.cc 25),(8,.cc 251029),(9,H c),(12,H ((aO a c).getD (0:Int)))] [(25,.map 3 3 (bo .i64 (dZ .i64) h)),(251029,.map 3 3 (bo .i64 (dZ .i64) a))]<|aV [(2,ib a c (dZ .i64) qg)] [] [] [251029] [(251029,.map 3 3 (bo .i64 (dZ .i64) (kL a c)))]<|aV [(3,sv (nh (k:=.i64) (enc:=(dZ .i64)) h c ((aO a c).getD (0:Int)) rfl))] [] [] [25] [(25,.map 3 3 (bo .i64 (dZ .i64) (bW h c ((aO a c).getD (0:Int)))))]<|aq<|ak [(1,Py (lm (k:=.i64) (enc:=(dZ .i64)) (bW h c ((aO a c).getD (0:Int))))),(3,acJ f (ep c3) lf)] [] [(76,.d (((bW h c ((aO a c).getD (0:Int))).length:Int)=(f.length:Int)))] ?_
   rcases aC b with⟨G,b⟩|⟨G,b⟩
   .exact aI G<|bQ<|aT (bW h c ((aO a c).getD (0:Int)),kL a c) b
   refine aH G<|aK<|ak [(2,oK f c (ep c3) [] lf (BV c3 zeroValue346)),(3,Y (bk c3 ((aO f c).getD [])))] [9,76] [(79,an c3 ((aO f c).getD [])),(80,H (((aO f c).getD []).length:Int)),(81,H 0)]<|aX<|aFd 79 rfl λU=>?_
   obtain⟨aw,ar,V,W,b⟩:=cG b;refine cO b (λo=>λi=>[(0,.dK (bo .i64 (ep c3) f)),(5,.cc 25),(8,.cc 251029),(12,H ((aO a c).getD (0:Int))),(79,an c3 ((aO f c).getD [])),(80,H (((aO f c).getD []).length:Int)),(81,H o)]) (λo=>λi=>[(25,.map 3 3 (bo .i64 (dZ .i64) (bW h c ((aO a c).getD (0:Int))))),(251029,.map 3 3 (bo .i64 (dZ .i64) i))]) ?_ ?_ ?_
   .exact c8
   .rintro o g ao i Z I b;rw[V]at b;refine ak [] [] [(82,.d ((o:Int)<(((aO f c).getD []).length:Int)))]<|aq<|aI (cL I)<|aK ?_
    obtain⟨O,S,b⟩:=cV b;refine cW O r (λz=>[(0,.dK (bo .i64 (ep c3) f)),(5,.cc 25),(8,.cc 251029),(12,H ((aO a c).getD (0:Int))),(79,an c3 ((aO f c).getD [])),(80,H (((aO f c).getD []).length:Int)),(81,H o)]) (λz=>[(25,.map 3 3 (bo .i64 (dZ .i64) (bW h c ((aO a c).getD (0:Int))))),(251029,.map 3 3 (bo .i64 (dZ .i64) z))]) ?_ ?_
    .refine aX<|aV [(0,be (ix c3 (bU I))),(2,.al 259)] [82] [(14,.ptr 259 0)] [] [(259,.cells 348 (sx g))] ?_
     refine aq<|ak [(3,jj (lk (E:=3) (k:=.i64) (enc:=(dZ .i64)) (bW h c ((aO a c).getD (0:Int))) g.ec (0:Int) (λy=>⟨_,zeroValue3 y,λL=>by simp[a1,dZ,h6]⟩)))] [] [(16,.bool ((aO (bW h c ((aO a c).getD (0:Int))) g.ec).isSome))] ?_
     refine ak [] [16] [(92,.bool ((aO (bW h c ((aO a c).getD (0:Int))) g.ec).isSome))] ?_;rcases aC b with⟨F,b⟩|⟨F,b⟩
     .exact aI F<|bQ<|aT i b
     refine aH F<|aK<|ak [(3,jj (lk (E:=3) (k:=.i64) (enc:=(dZ .i64)) i g.ec (0:Int) (λy=>⟨_,zeroValue3 y,λL=>by simp[a1,dZ,h6]⟩)))] [92] [(17,H ((aO i g.ec).getD (0:Int))),(18,.bool ((aO i g.ec).isSome))]<|aFe [(0,.dK (bo .i64 (ep c3) f)),(5,.cc 25),(8,.cc 251029),(12,H ((aO a c).getD (0:Int))),(79,an c3 ((aO f c).getD [])),(80,H (((aO f c).getD []).length:Int)),(81,H o),(14,.ptr 259 0),(109,.bool ((!((aO i g.ec).isSome))||(decide (a2 (((aO a c).getD (0:Int))+g.hU)<((aO i g.ec).getD (0:Int))))))] [(25,.map 3 3 (bo .i64 (dZ .i64) (bW h c ((aO a c).getD (0:Int))))),(251029,.map 3 3 (bo .i64 (dZ .i64) i)),(259,.cells 348 (sx g))] (λt=>?_) ?_
     .rcases eU (!((aO i g.ec).isSome))with x|x
      .exact aj [(2,Y (ax x)),(9,Y (hj (q:=decide (a2 (((aO a c).getD (0:Int))+g.hU)<((aO i g.ec).getD (0:Int)))) x))] _ _ t
      exact aj [(2,Y (ax x)),(9,Y (eW (q:=decide (a2 (((aO a c).getD (0:Int))+g.hU)<((aO i g.ec).getD (0:Int)))) x))] _ _ t
     rcases aC b with⟨K,b⟩|⟨K,b⟩
     .exact aI K<|b0 [(7,sv (nh (k:=.i64) (enc:=(dZ .i64)) i g.ec (a2 (((aO a c).getD (0:Int))+g.hU)) rfl))] [14,109] [] [251029,259] [(251029,.map 3 3 (bo .i64 (dZ .i64) (bW i g.ec (a2 (((aO a c).getD (0:Int))+g.hU)))))]<|aT (bW i g.ec (a2 (((aO a c).getD (0:Int))+g.hU))) b
     exact aH K<|aK<|aT i b
    rintro z b;rw[S]at b;exact a7 [(0,Y (cI I U))] [81] [(81,H ((o+1:Nat):Int))]<|aT z b
   rintro o i Z T b;rw[W]at b;exact ak [] [] [(82,.d ((o:Int)<(((aO f c).getD []).length:Int)))]<|aq<|aH (cK T)<|bQ<|aT (bW h c ((aO a c).getD (0:Int)),i) b
  exact aH B<|bQ<|aT (h,a) b
 rintro⟨C,M⟩ b;rw[Q]at b;refine ak [] [5] [(4,.cc 25)]<|c2 ?_
 obtain rfl:=cy b;exact c0 [.b8 25 500025100]
def Um{g c a r}(b:w5 g c a=some r):cz au prog 252 [] [.agg [.dK (bo .i64 (ep c3) g.jd),.dK (bo .i64 (ep c3) g.nc)],.dK (bo .i64 (dZ .i64) c),H a] (eH (.own 420) [(420,.s 3 aJ r)]):=by
 refine a5 func252 rfl rfl ?_;unfold w5 at b;refine aj [(0,.al 290)] [(1,.dK (bo .i64 (dZ .i64) c)),(2,H a),(3,.ptr 290 0)] [(290,.c 317 [.dK (bo .i64 (ep c3) g.jd),.dK (bo .i64 (ep c3) g.nc)])]<|ak [] [] [(7,.aF)]<|ak [(2,oK c a (dZ .i64) (0:Int) qg (s5 (k:=.i64) zeroValue3))] [] [(8,H ((aO c a).getD (0:Int))),(9,.bool ((aO c a).isSome))]<|aq<|ak [] [9] [(21,.bool (!((aO c a).isSome)))] ?_
 rcases aC b with⟨j,b⟩|⟨j,b⟩
 .refine aI j<|aj [] [(6,.aF)] []<|c2 ?_
  obtain rfl:=cy b;exact c0 [.ad 6 420 3 1]
 refine aH j<|aK<|aq<|aV [(3,oK g.jd a (ep c3) [] lf (BV c3 zeroValue346)),(4,Y (bk c3 ((aO g.jd a).getD [])))] [2,3,21] [(25,an c3 ((aO g.jd a).getD [])),(26,H (((aO g.jd a).getD []).length:Int)),(27,H 0)] [290] []<|aX<|aFd 25 rfl λp=>?_
 obtain⟨A,B,u,v,b⟩:=cG b;refine cO b (λe=>λf=>[(1,.dK (bo .i64 (dZ .i64) c)),(7,.own 166),(8,H ((aO c a).getD (0:Int))),(25,an c3 ((aO g.jd a).getD [])),(26,H (((aO g.jd a).getD []).length:Int)),(27,H e)]) (λe=>λf=>[(166,.s 3 aJ f)]) ?_ ?_ ?_
 .exact cr [.ad 7 166 3 1] []
 .rintro e d z f t l b;rw[u]at b;refine ak [] [] [(28,.d ((e:Int)<(((aO g.jd a).getD []).length:Int)))]<|aq<|aI (cL l)<|aK ?_
  obtain⟨x,w,b⟩:=cV b;refine cW x r (λi=>[(1,.dK (bo .i64 (dZ .i64) c)),(7,.own 166),(8,H ((aO c a).getD (0:Int))),(25,an c3 ((aO g.jd a).getD [])),(26,H (((aO g.jd a).getD []).length:Int)),(27,H e)]) (λi=>[(166,.s 3 aJ i)]) ?_ ?_
  .refine aX<|aV [(0,be (ix c3 (bU l))),(2,.al 321)] [28] [(11,.ptr 321 0)] [] [(321,.cells 348 (sx d))] ?_
   refine ak [(3,oK c d.ec (dZ .i64) (0:Int) qg (s5 (k:=.i64) zeroValue3))] [] [(12,H ((aO c d.ec).getD (0:Int))),(13,.bool ((aO c d.ec).isSome))]<|aFe [(1,.dK (bo .i64 (dZ .i64) c)),(7,.own 166),(8,H ((aO c a).getD (0:Int))),(25,an c3 ((aO g.jd a).getD [])),(26,H (((aO g.jd a).getD []).length:Int)),(27,H e),(11,.ptr 321 0),(46,.bool (((aO c d.ec).isSome)&&(decide (a2 (d.hU+((aO c d.ec).getD (0:Int)))=((aO c a).getD (0:Int))))))] [(166,.s 3 aJ f),(321,.cells 348 (sx d))] (λo=>?_) ?_
   .rcases eU ((aO c d.ec).isSome)with h|h
    .exact aj [(1,Y (ax h)),(8,Y (ko (q:=decide (a2 (d.hU+((aO c d.ec).getD (0:Int)))=((aO c a).getD (0:Int)))) h))] _ _ o
    exact aj [(1,Y (ax h)),(8,Y (kK (q:=decide (a2 (d.hU+((aO c d.ec).getD (0:Int)))=((aO c a).getD (0:Int)))) h))] _ _ o
   rcases aC b with⟨m,b⟩|⟨m,b⟩
   .refine aI m ?_;obtain⟨n,y,b⟩:=az b;exact b0 [(4,dS 472 (ap aJ (bytes:=8) (by decide) y))] [7,11,46] [(7,.own 472)] [166,321] [(472,.s 3 aJ n)]<|Exists.intro n (And.intro b (cr [.b8 472 166] []))
   exact aH m<|aK<|aT f b
  rintro i b;rw[w]at b;exact a7 [(0,Y (cI l p))] [27] [(27,H ((e+1:Nat):Int))]<|aT i b
 rintro e f t s b;rw[v]at b;refine ak [] [] [(28,.d ((e:Int)<(((aO g.jd a).getD []).length:Int)))]<|aq<|aH (cK s)<|bQ<|aj [] [(6,.own 166)] [(166,.s 3 aJ f)]<|c2 ?_
 obtain rfl:=cy b;exact c0 [.b8 166 420]
def J3{s r}(a:qU t s=some r):bb au prog 175 [] [.agg (bz t),H s] (.gr (bo .i64 (ep aJ) r)):=by
 refine aHs (Post:=λi l=>∃m,r.Perm m/\(r.map (·.1)).Nodup/\i=.dK (bo .i64 (ep aJ) m)/\l=[]) ?_ (by rintro i l ⟨m,u,n,rfl,rfl⟩;exact⟨_,⟨rfl,rfl⟩,λO V U w=>Zv u n w⟩);refine a5 func175 rfl rfl ?_;unfold qU at a;refine aj [(0,.al 316)] [(1,H s),(2,.ptr 316 0)] [(316,.cells 41 (bz t))]<|aV [(0,.al 150)] [] [(5,.cc 150)] [] [(150,.map 3 22 (bo .i64 (ep aJ) []))]<|aq ?_
 obtain⟨y,u,a⟩:=az a;refine ak [(1,aB (UH u) SX)] [] [(12,.bool (!y))] ?_;rcases aC a with⟨o,a⟩|⟨o,a⟩
 .refine aI o<|aV [] [1,2,5,12] [(4,.cc 150)] [316] []<|c2 ?_
  obtain rfl:=cy a;exact(aFH fN [.bL [150]] rfl (by kernel_rfl)).mono λi l e=>⟨[],.refl _,nx,e.1,e.2⟩
 refine aH o<|aK ?_
 obtain⟨c,n,a⟩:=az a;refine aV [(1,aB (Vb n) SY),(2,.al 230)] [2,12] [(6,.ptr 230 0)] [316] [(230,.c 317 [.dK (bo .i64 (ep c3) c.jd),.dK (bo .i64 (ep c3) c.nc)])] ?_;obtain⟨j,z,a⟩:=az a;refine aV [(3,b3 [500025100] (Uj z) SZ)] [1] [(7,.cc 500025100)] [] [(500025100,.map 3 3 (bo .i64 (dZ .i64) j))]<|aq<|aGn (d:=500025100) rfl λg b=>?_
 refine aj [(1,IC 175021 g b qg)] [(5,.cc 150),(6,.ptr 230 0),(7,.cc 500025100),(21,.ptr 175021 0)] [(150,.map 3 22 (bo .i64 (ep aJ) [])),(230,.c 317 [.dK (bo .i64 (ep c3) c.jd),.dK (bo .i64 (ep c3) c.nc)]),(500025100,.gl g b 3 3 (bo .i64 (dZ .i64) j)),(175021,.iter 500025100 b b (#[]))]<|aX<|aGo (cB:=500025100) (dh:=175021) (it:=21) (clock:=b) (es:=g) (λE e=>(by obtain⟨v,N,_⟩:=(FF a).1 E e;exact⟨v,N⟩)) (λ_=>True) (λf=>[(5,.cc 150),(6,.ptr 230 0),(7,.cc 500025100),(21,.ptr 175021 0)]) (λh=>λf=>[(150,.map 3 22 (bo .i64 (ep aJ) f)),(230,.c 317 [.dK (bo .i64 (ep c3) c.jd),.dK (bo .i64 (ep c3) c.nc)]),(500025100,.gl g b 3 3 (bo .i64 (dZ .i64) j)),(175021,.iter 500025100 b b h)]) ⟨rfl,rfl,rfl⟩ ⟨rfl,rfl,rfl⟩ (by kernel_rfl) trivial (λ_ _ _ _ _ _=>trivial) (λ_=>rfl) (λ_ _=>rfl) (λ_ _=>⟨_,rfl,rfl⟩) (λ_ _ _=>rfl) (λ_ _ _ _ _ _ _ G M=>JJ G rfl M) ?_ ?_ ?_
 .exact c8
 .rintro h K S q P f T L B R a;refine aX<|aj [(0,Aj 175021 500025100 b .i64 h (dZ .i64) L B)] [(5,.cc 150),(6,.ptr 230 0),(7,.cc 500025100),(21,.ptr 175021 0),(8,H q)] [(150,.map 3 22 (bo .i64 (ep aJ) f)),(230,.c 317 [.dK (bo .i64 (ep c3) c.jd),.dK (bo .i64 (ep c3) c.nc)]),(500025100,.gl g b 3 3 (bo .i64 (dZ .i64) j)),(175021,.iter 500025100 b b (h.push K.born))] ?_
  obtain⟨p,D,a⟩:=az a;refine b0 [(5,Ak [500025100] [510175001] (an aJ p) (e0.at [(420,510175001)] (Um D)) Sn ⟨jM aJ (λ_=>rfl) _,trivial⟩),(6,sv (nh (k:=.i64) (enc:=(ep aJ)) f q p rfl))] [8] [] [150] [(150,.map 3 22 (bo .i64 (ep aJ) (bW f q p)))] ?_;obtain rfl:=cy a;exact(c8)
 intro h Q I J F;obtain⟨v,x,C⟩:=(FF a).1 I J;obtain rfl:=cy (x.symm.trans F);have A:=(FF a).2;refine aFs (aGc (d:=500025100) rfl)<|aj [] [(4,.cc 150)] [(150,.map 3 22 (bo .i64 (ep aJ) v))]<|c2 ?_
 exact(aFH fN [.bL [150]] rfl (by kernel_rfl)).mono λi l e=>⟨_,C,A,e.1,e.2⟩
variable {au:Bool}
def hE{n c a r}(e:lN n c a=some r):bb au prog 99 [] [H n,H c,H a] (.bool r):=by
 refine a5 func99 rfl rfl ?_;unfold lN at e;refine aj [] [(0,H n),(1,H c),(2,H a)] []<|aFe [(6,.bool ((decide (c<=n))&&(decide (n<=a))))] [] (λd=>?_) ?_
 .rcases eU (decide (c<=n))with b|b
  .exact aj [(3,Y (ax b)),(8,Y (ko (q:=decide (n<=a)) b))] _ _ d
  exact aj [(3,Y (ax b)),(8,Y (kK (q:=decide (n<=a)) b))] _ _ d
 exact aN
def UD{g r}(a:xe g=some r):bb au prog 173 [] [.agg (nQ g)] (.bool r):=by
 refine a5 func173 rfl rfl ?_;unfold xe at a;refine aj [(0,.al 520)] [(1,.ptr 520 0)] [(520,.cells 143 (nQ g))] ?_;obtain⟨m,d,a⟩:=az a;rcases aC a with⟨b,a⟩|⟨b,a⟩
 .exact aj [(2,aB (hE d) hN),(4,Y (ax b))] [(2,.bool true)] []<|aN
 obtain⟨k,e,a⟩:=az a;rcases aC a with⟨c,a⟩|⟨c,a⟩
 .exact aj [(2,aB (hE d) hN),(4,Y (ax b)),(8,aB (hE e) hN),(11,Y (ax c))] [(2,.bool true)] []<|aN
 obtain⟨l,h,a⟩:=az a;rcases aC a with⟨f,a⟩|⟨f,a⟩
 .exact aj [(2,aB (hE d) hN),(4,Y (ax b)),(8,aB (hE e) hN),(11,Y (ax c)),(15,aB (hE h) hN),(18,Y (ax f))] [(2,.bool true)] []<|aN
 obtain⟨j,i,a⟩:=az a;exact aj [(2,aB (hE d) hN),(4,Y (ax b)),(8,aB (hE e) hN),(11,Y (ax c)),(15,aB (hE h) hN),(18,Y (ax f)),(22,aB (j2 i) j8)] [(2,.bool (!j))] []<|aN
variable {l:p6}
def JY{r}(a:xn l=some r):bb au prog 98 [] [an dM l] (H r):=by
 refine a5 func98 rfl rfl ?_;unfold xn at a;refine aj [] [(0,an dM l)] []<|ak [] [] [(3,.fn 173 [])]<|aq<|aX<|ak [(1,Y (bk dM l))] [] [(5,.d (192<(l.length:Int)))] ?_
 rcases aC a with⟨e,a⟩|⟨e,a⟩
 .exact aI e<|aj [] [(2,H 3)] []<|aN
 refine aH e ?_;obtain⟨k,y,a⟩:=az a;refine ak [(2,aB (PG (bZ:=173) (cp:=[]) (dQ:=Tl) (dP:=λ_ _ x=>UD x) y) JI)] [3,5] [(9,.bool k)] ?_;rcases aC a with⟨d,a⟩|⟨d,a⟩
 .exact aI d<|aj [] [(2,H 2)] []<|aN
 refine aH d<|aK<|aq<|ak [(1,Y (bk dM l))] [9] [(14,H l.length),(15,H 0)]<|aX<|aFd 0 rfl λn=>?_
 obtain⟨D,E,q,s,a⟩:=cG a;refine cO a (λb()=>[(0,an dM l),(14,H l.length),(15,H b)]) (λb()=>[]) ?_ ?_ ?_
 .exact c8
 .rintro b F C ⟨⟩ p c a;rw[q]at a;refine ak [] [] [(16,.d ((b:Int)<l.length))]<|aq<|aI (cL c)<|aK<|aq<|aX<|ak [] [16] [(4,H b)] ?_
  obtain⟨u,t,a⟩:=cV a;refine cW u r (λg=>[(0,an dM l),(14,H l.length),(15,H b),(50,.bool g)]) (λg=>[]) ?_ ?_
  .rcases aC a with⟨f,a⟩|⟨f,a⟩
   .obtain⟨B,i,z,m,A,v,a⟩:=mT a;obtain⟨j,w,a⟩:=az a;exact a7 [(2,Y (ax f)),(6,be (ix dM i)),(11,be (ix dM (bU c))),(14,aB (mW m) mL),(18,be (ix dM i)),(24,be (ix dM (bU c))),(28,aB (mW v) mL),(30,aB (E4 w) Dy)] [4] [(50,.d (0<=j))]<|aT (decide (0<=j)) a
   exact a7 [(2,Y (ax f))] [4] [(50,.bool false)]<|aT false a
  rintro g a;rw[t]at a;rcases aC a with⟨h,a⟩|⟨h,a⟩
  .exact aI h<|aj [] [(2,H 25)] []<|aN
  exact aH h<|aK<|a7 [(0,Y (cI c n))] [15,50] [(15,H ((b+1:Nat):Int))]<|aT () a
 rintro b ⟨⟩ p o a;rw[s]at a;exact ak [] [] [(16,.d ((b:Int)<l.length))]<|aq<|aH (cK o)<|bQ<|aj [] [(2,H 0)] []<|aN
def Uf{y a r}(b:w2 y a=some r):bb au prog 139 [] [.agg (iK y),.dI (iK a)] (.bool r):=by
 refine a5 func139 rfl rfl ?_;unfold w2 at b;exact aj [(0,.al 505)] [(1,.dI (iK a)),(2,.ptr 505 0)] [(505,.cells 49 (iK y))]<|aj [] [(3,.d (y.ai=a.ai))] []<|aN
def AD{p r}(a:nI p=some r):bb au prog 54 [] [.agg (fh p)] (.bool r):=by
 refine a5 func54 rfl rfl ?_;unfold nI at a;refine aj [(0,.al 80)] [(1,.ptr 80 0)] [(80,.cells 44 (fh p))]<|aq ?_
 obtain⟨G,F,a⟩:=cV a;refine cW G r (λq=>[(1,.ptr 80 0),(32,.bool q)]) (λq=>[(80,.cells 44 (fh p))]) ?_ ?_
 .obtain⟨N,h,a⟩:=az a;rcases aC a with⟨c,a⟩|⟨c,a⟩
  .exact a7 [(2,aB (hE h) hN),(4,Y (ax c))] [] [(32,.bool true)]<|aT true a
  obtain⟨M,i,a⟩:=az a;rcases aC a with⟨e,a⟩|⟨e,a⟩
  .rcases aC a with⟨k,a⟩|⟨k,a⟩
   .exact a7 [(2,aB (hE h) hN),(4,Y (ax c)),(7,aB (j2 i) j8),(9,Y (ax e)),(13,Y (ax k))] [] [(32,.bool true)]<|aT true a
   rcases aC a with⟨s,a⟩|⟨s,a⟩
   .exact a7 [(2,aB (hE h) hN),(4,Y (ax c)),(7,aB (j2 i) j8),(9,Y (ax e)),(13,Y (ax k)),(16,Y (bk eM p.ck)),(21,Y (ax s))] [] [(32,.bool true)]<|aT true a
   exact a7 [(2,aB (hE h) hN),(4,Y (ax c)),(7,aB (j2 i) j8),(9,Y (ax e)),(13,Y (ax k)),(16,Y (bk eM p.ck)),(21,Y (ax s)),(24,Y (bk eM p.ck))] [] [(32,.d (24<(p.ck.length:Int)))]<|aT (decide (24<(p.ck.length:Int))) a
  exact a7 [(2,aB (hE h) hN),(4,Y (ax c)),(7,aB (j2 i) j8),(9,Y (ax e)),(24,Y (bk eM p.ck))] [] [(32,.d (24<(p.ck.length:Int)))]<|aT (decide (24<(p.ck.length:Int))) a
 rintro q a;rw[F]at a;rcases aC a with⟨n,a⟩|⟨n,a⟩
 .exact aI n<|aj [] [(2,.bool false)] []<|aN
 refine aH n<|aK<|aq<|ak [(2,Y (bk eM p.ck))] [32] [(34,an eM p.ck),(35,H p.ck.length),(36,H 0)]<|aX<|aFd 34 rfl λA=>?_
 obtain⟨S,T,D,E,a⟩:=cG a;refine cO a (λb()=>[(1,.ptr 80 0),(34,an eM p.ck),(35,H p.ck.length),(36,H b)]) (λb()=>[(80,.cells 44 (fh p))]) ?_ ?_ ?_
 .exact c8
 .rintro b m Q ⟨⟩ C o a;rw[D]at a;refine ak [] [] [(37,.d ((b:Int)<p.ck.length))]<|aq<|aI (cL o)<|aK<|aq<|aX<|aV [(1,be (ix eM (bU o))),(3,.al 380)] [37] [(4,.ptr 380 0),(3,H b)] [] [(380,.cells 49 (iK m))] ?_
  obtain⟨P,y,x,I,a⟩:=er a;refine ak [(3,fB (sl eM y)),(5,bt [380] (PJ (bZ:=139) (cp:=[.dI (iK m)]) (dQ:=S2) (dP:=λ_ _ L=>Uf L) I) OR)] [] [(5,.bool x)] ?_;obtain⟨z,J,a⟩:=cV a;refine cW z r (λt=>[(1,.ptr 80 0),(34,an eM p.ck),(35,H p.ck.length),(36,H b),(75,.bool t)]) (λt=>[(80,.cells 44 (fh p))]) ?_ ?_
  .obtain⟨R,f,a⟩:=az a;rcases aC a with⟨d,a⟩|⟨d,a⟩
   .exact b0 [(2,aB (hE f) hN),(4,Y (ax d))] [4,3,5] [(75,.bool true)] [380] []<|aT true a
   obtain⟨O,j,a⟩:=az a;rcases aC a with⟨g,a⟩|⟨g,a⟩
   .exact b0 [(2,aB (hE f) hN),(4,Y (ax d)),(7,aB (hE j) hN),(10,Y (ax g))] [4,3,5] [(75,.bool true)] [380] []<|aT true a
   rcases aC a with⟨l,a⟩|⟨l,a⟩
   .exact b0 [(2,aB (hE f) hN),(4,Y (ax d)),(7,aB (hE j) hN),(10,Y (ax g)),(13,Y (ax l))] [4,3,5] [(75,.bool true)] [380] []<|aT true a
   rcases aC a with⟨u,a⟩|⟨u,a⟩
   .obtain⟨w,K,a⟩:=az a;exact b0 [(2,aB (hE f) hN),(4,Y (ax d)),(7,aB (hE j) hN),(10,Y (ax g)),(13,Y (ax l)),(16,Y (ax u)),(21,be (ix eM K))] [4,3,5] [(75,.d (m.aP<=w.aP))] [380] []<|aT (decide (m.aP<=w.aP)) a
   exact b0 [(2,aB (hE f) hN),(4,Y (ax d)),(7,aB (hE j) hN),(10,Y (ax g)),(13,Y (ax l)),(16,Y (ax u))] [4,3,5] [(75,.bool false)] [380] []<|aT false a
  rintro t a;rw[J]at a;rcases aC a with⟨v,a⟩|⟨v,a⟩
  .exact aI v<|aj [] [(2,.bool false)] []<|aN
  exact aH v<|aK<|a7 [(0,Y (cI o A))] [36,75] [(36,H ((b+1:Nat):Int))]<|aT () a
 rintro b ⟨⟩ C B a;rw[E]at a;exact ak [] [] [(37,.d ((b:Int)<p.ck.length))]<|aq<|aH (cK B)<|bQ<|aj [] [(2,.bool true)] []<|aN
variable {agD:Int}
def UI{r}(a:A7 l agD=some r):bb au prog 101 [] [an dM l,H agD] (.arr r.l):=by
 refine a5 func101 rfl rfl ?_;unfold A7 at a;refine aj [(0,nM 101004 (gw.zero 257) HO (by kernel_rfl))] [(0,an dM l),(1,H agD),(4,.ptr 101004 0)] [(101004,.vec 196 (gw.zero 257).l)]<|aV [(0,nM 101005 (gw.zero 257) HO (by kernel_rfl))] [] [(5,.ptr 101005 0)] [] [(101005,.vec 196 (gw.zero 257).l)]<|aq<|ak [(1,Y (bk dM l))] [0] [(8,an dM l),(9,H l.length),(10,H 0)]<|aX<|aFd 8 rfl λi=>?_
 obtain⟨s,t,m,n,a⟩:=cG a;refine cO a (λc=>λb=>[(1,H agD),(4,.ptr 101004 0),(5,.ptr 101005 0),(8,an dM l),(9,H l.length),(10,H c)]) (λc=>λb=>[(101004,.vec 196 (gw.zero 257).l),(101005,.vec 196 b.l)]) ?_ ?_ ?_
 .exact c8
 .rintro c e1 q b k g a;rw[m]at a;refine ak [] [] [(11,.d ((c:Int)<l.length))]<|aq<|aI (cL g)<|aK ?_
  obtain⟨p,o,a⟩:=cV a;refine cW p r (λd=>[(1,H agD),(4,.ptr 101004 0),(5,.ptr 101005 0),(8,an dM l),(9,H l.length),(10,H c)]) (λd=>[(101004,.vec 196 (gw.zero 257).l),(101005,.vec 196 d.l)]) ?_ ?_
  .refine aX<|aV [(0,be (ix dM (bU g))),(2,.al 391)] [11] [(7,.ptr 391 0)] [] [(391,.cells 143 (nQ e1))] ?_
   refine ak [] [] [(18,.d (e1.Claim.bA=agD))] ?_;rcases aC a with⟨f,a⟩|⟨f,a⟩
   .refine aI f ?_;obtain⟨h,e,a⟩:=az a;exact b0 [(3,ID (v:=b) e underlying196 sizeOf3),(4,jI (v:=b) e I7),(6,ID (v:=b) e underlying196 sizeOf3),(7,acL (v:=b) (a2 (h+1)) e I7)] [7,18] [] [101005,391] [(101005,.vec 196 (gw.put b e1.Claim.aP.toNat (a2 (h+1))).l)]<|aT (gw.put b e1.Claim.aP.toNat (a2 (h+1))) a
   exact aH f<|aK<|aT b a
  rintro d a;rw[o]at a;exact a7 [(0,Y (cI g i))] [10] [(10,H ((c+1:Nat):Int))]<|aT d a
 rintro c b k j a;rw[n]at a;refine ak [] [] [(11,.d ((c:Int)<l.length))]<|aq<|aH (cK j)<|bQ<|aj [(0,acM b C9),(1,PB (gw.zero 257) b C9.size)] [(4,.ptr 101004 0)] [(101004,.vec 196 b.l)]<|c2 ?_
 obtain rfl:=cy a;exact aGT (x:=.arr b.l) (e1:=[(4,.ptr 101004 0)]) (s1:=[(101004,.vec 196 b.l)]) fN [] rfl (by kernel_rfl) (.one (.arr _ _ 101004 196 _ b.l rfl (by kernel_rfl) C9 (gw.h _))) (by kernel_rfl) (by kernel_rfl)
def U0{r}(a:AY l agD=some r):bb au prog 100 [] [an dM l,H agD] (H r):=by
 refine a5 func100 rfl rfl ?_;unfold AY at a;refine aj [] [(0,an dM l),(1,H agD)] []<|aq ?_
 obtain⟨m,w,a⟩:=az a;refine ak [(1,aB (JY w) Jr)] [] [(10,.bool (!decide (m=0)))] ?_;rcases aC a with⟨h,a⟩|⟨h,a⟩
 .exact aI h<|aj [] [(4,H 0)] []<|aN
 refine aH h<|aK<|ak [] [10] [(5,H 0)]<|aq<|ak [(1,Y (bk dM l))] [0] [(11,an dM l),(12,H l.length),(13,H 0)]<|aX<|aFd 11 rfl λn=>?_
 obtain⟨y,z,s,t,a⟩:=cG a;refine cO a (λd=>λb=>[(1,H agD),(5,H b),(11,an dM l),(12,H l.length),(13,H d)]) (λd=>λb=>[]) ?_ ?_ ?_
 .exact c8
 .rintro d c x b p i a;rw[s]at a;refine ak [] [] [(14,.d ((d:Int)<l.length))]<|aq<|aI (cL i)<|aK ?_
  obtain⟨v,u,a⟩:=cV a;refine cW v r (λg=>[(1,H agD),(5,H g),(11,an dM l),(12,H l.length),(13,H d)]) (λg=>[]) ?_ ?_
  .refine aX<|aV [(0,be (ix dM (bU i))),(2,.al 390)] [14] [(7,.ptr 390 0)] [] [(390,.cells 143 (nQ c))] ?_
   refine aFe [(1,H agD),(5,H b),(11,an dM l),(12,H l.length),(13,H d),(7,.ptr 390 0),(32,.bool ((decide (c.Claim.bA=agD))&&((decide (b=0))||(decide (c.Claim.Length<b)))))] [(390,.cells 143 (nQ c))] (λk=>?_) ?_
   .rcases eU (decide (c.Claim.bA=agD))with e|e
    .rcases eU (decide (b=0))with f|f
     .exact aj [(5,Y (ax e)),(8,Y (ax f)),(15,Y ((hj (q:=decide (c.Claim.Length<b)) f).trans (ko (q:=((decide (b=0))||(decide (c.Claim.Length<b)))) e)))] _ _ k
     exact aj [(5,Y (ax e)),(8,Y (ax f)),(15,Y ((eW (q:=decide (c.Claim.Length<b)) f).trans (ko (q:=((decide (b=0))||(decide (c.Claim.Length<b)))) e)))] _ _ k
    exact aj [(5,Y (ax e)),(15,Y (kK (q:=((decide (b=0))||(decide (c.Claim.Length<b)))) e))] _ _ k
   rcases aC a with⟨j,a⟩|⟨j,a⟩
   .exact aI j<|b0 [] [5,7,32] [(5,H c.Claim.Length)] [390] []<|aT c.Claim.Length a
   exact aH j<|aK<|aT b a
  rintro g a;rw[u]at a;exact a7 [(0,Y (cI i n))] [13] [(13,H ((d+1:Nat):Int))]<|aT g a
 rintro d b p o a;rw[t]at a;exact ak [] [] [(14,.d ((d:Int)<l.length))]<|aq<|aH (cK o)<|bQ<|aj [] [(4,H b)] []<|aN
def Ka{r}(a:uI l agD=some r):bb au prog 35 [] [an dM l,H agD] (.bO [.agg (fh r.1),H r.2]):=by
 refine a5 func35 rfl rfl ?_;unfold uI at a;refine aj [(0,.al 60)] [(0,an dM l),(1,H agD),(4,.ptr 60 0)] [(60,.c 44 [H 0,H 0,.aF])]<|aq ?_
 obtain⟨i,N,a⟩:=az a;refine ak [(1,aB (JY N) Jr)] [] [(6,H i)]<|ak [] [] [(14,.bool (!decide (i=0)))] ?_
 rcases aC a with⟨j,a⟩|⟨j,a⟩
 .exact aI j<|ak [] [0,1,6,14] [(5,H i)]<|aN
 refine aH j<|aK<|aq ?_
 obtain⟨w,x,a⟩:=az a;refine ak [(1,aB (hE x) hN)] [6,14] [(19,.bool (!w))] ?_;rcases aC a with⟨h,a⟩|⟨h,a⟩
 .exact aI h<|ak [] [0,1,19] [(5,H 2)]<|aN
 refine aH h<|aK ?_
 obtain⟨f,y,a⟩:=az a;refine aV [(3,aB (U0 y) RT),(5,.al 109)] [19] [(7,.ptr 109 0)] [] [(109,.c 44 [H agD,H f,.aF])] ?_;obtain⟨e,K,a⟩:=az a;refine aV [(2,aB (UI K) RU),(3,nM 35008 (gw.zero 257) HO (by kernel_rfl)),(4,PB (gw.zero 257) e C9.size)] [] [(8,.ptr 35008 0)] [] [(35008,.vec 196 e.l)]<|aq<|ak [(1,Y (bk dM l))] [0] [(29,an dM l),(30,H l.length),(31,H 0)]<|aX<|aFd 29 rfl λC=>?_
 obtain⟨P,Q,F,G,a⟩:=cG a;refine cO a (λb=>λc=>[(1,H agD),(4,.ptr 60 0),(7,.ptr 109 0),(8,.ptr 35008 0),(29,an dM l),(30,H l.length),(31,H b)]) (λb=>λc=>[(60,.c 44 [H 0,H 0,.aF]),(109,.c 44 [H agD,H f,.own 703500702]),(35008,.vec 196 e.l),(703500702,.s 49 eM c)]) ?_ ?_ ?_
 .exact cr [.ac 109 703500702 49 2 2] []
 .rintro b u O c E m a;rw[F]at a;refine ak [] [] [(32,.d ((b:Int)<l.length))]<|aq<|aI (cL m)<|aK ?_
  obtain⟨J,I,a⟩:=cV a;refine cW J r (λg=>[(1,H agD),(4,.ptr 60 0),(7,.ptr 109 0),(8,.ptr 35008 0),(29,an dM l),(30,H l.length),(31,H b)]) (λg=>[(60,.c 44 [H 0,H 0,.aF]),(109,.c 44 [H agD,H f,.own 703500702]),(35008,.vec 196 e.l),(703500702,.s 49 eM g)]) ?_ ?_
  .refine aX<|aV [(0,be (ix dM (bU m))),(2,.al 294)] [32] [(10,.ptr 294 0)] [] [(294,.cells 143 (nQ u))] ?_
   obtain⟨z,L,a⟩:=cV a;refine cW z r (λo=>[(1,H agD),(4,.ptr 60 0),(7,.ptr 109 0),(8,.ptr 35008 0),(10,.ptr 294 0),(29,an dM l),(30,H l.length),(31,H b),(47,.bool o)]) (λo=>[(60,.c 44 [H 0,H 0,.aF]),(109,.c 44 [H agD,H f,.own 703500702]),(35008,.vec 196 e.l),(703500702,.s 49 eM c),(294,.cells 143 (nQ u))]) ?_ ?_
   .rcases aC a with⟨n,a⟩|⟨n,a⟩
    .obtain⟨q,t,a⟩:=az a;exact a7 [(5,Y (ax n)),(9,ID (v:=e) t underlying196 sizeOf3),(10,jI (v:=e) t I7)] [] [(47,.d (q=1))]<|aT (decide (q=1)) a
    exact a7 [(5,Y (ax n))] [] [(47,.bool false)]<|aT false a
   rintro o a;rw[L]at a;rcases aC a with⟨p,a⟩|⟨p,a⟩
   .refine aI p ?_;obtain⟨s,A,a⟩:=az a;exact b0 [(9,dS 477 (ap eM (bytes:=16) (by decide) A))] [10,47] [] [109,703500702,294] [(109,.c 44 [H agD,H f,.own 477]),(477,.s 49 eM s)]<|Exists.intro s (And.intro a (cr [.b8 477 703500702] []))
   exact aH p<|aK<|aT c a
  rintro g a;rw[I]at a;exact a7 [(0,Y (cI m C))] [31] [(31,H ((b+1:Nat):Int))]<|aT g a
 rintro b c E D a;rw[G]at a;refine ak [] [] [(32,.d ((b:Int)<l.length))]<|aq<|aH (cK D)<|bQ<|aq<|aV [(2,Y (bk eM c))] [1,8,29,30,31,32] [(63,.d (24<(c.length:Int)))] [35008] [] ?_
 rcases aC a with⟨k,a⟩|⟨k,a⟩
 .exact aI k<|aV [] [7,63] [(5,H 3)] [109,703500702] []<|aN
 refine aH k<|aK ?_
 obtain⟨B,M,a⟩:=az a;refine aV [(2,b3 [] (YU (d:=703500702) (T:=49) M) RV)] [63] [] [703500702] [(703500702,.s 49 eM B)]<|aV [] [7] [(5,H 0)] [60,109] [(60,.c 44 [H agD,H f,.own 703500702])]<|c2 ?_
 obtain rfl:=cy a;exact c0 [.bL [703500702]]
variable {au:Bool}
def Vq:∀(o:Nat) {c:Int} {b:List (Int×bX)} {n:List (Int×Bool)} {f:uX} {g:mJ} {p:bX} {r:(List (Int×Bool))×(bX)} (a:xL o c b n f g p=some r),cz au prog 253 [(124,.c 266 [.gr (bo .i64 (ep aJ) b)]),(75,.c 183 [.cc 130]),(76,.c 41 [an bJ f,an aW g]),(77,.c 22 [.own 353]),(78,.c 157 [.fn 253 [.ptr 124 0,.ptr 75 0,.ptr 76 0,.ptr 77 0,.ptr 78 0]]),(353,.s 3 aJ p),(130,.map 3 4 (bo .i64 h6 n))] [H c,.ptr 124 0,.ptr 75 0,.ptr 76 0,.ptr 77 0,.ptr 78 0] (eH (.bO []) [(124,.c 266 [.gr (bo .i64 (ep aJ) b)]),(75,.c 183 [.cc 130]),(76,.c 41 [an bJ f,an aW g]),(77,.c 22 [.own 450]),(78,.c 157 [.fn 253 [.ptr 124 0,.ptr 75 0,.ptr 76 0,.ptr 77 0,.ptr 78 0]]),(450,.s 3 aJ r.2),(130,.map 3 4 (bo .i64 h6 r.1))]):=by
 intro o;induction o with
 |zero=>intros;rename_i a;cases a
 |succ o y=>
 intro c b n f g p r a;refine a5 func253 rfl rfl ?_;rw[xL]at a;refine aj [(2,Pz b c (ep aJ) [] Oc (BV aJ zeroValue22)),(3,Y (bk aJ ((aO b c).getD [])))] [(2,.ptr 75 0),(3,.ptr 76 0),(4,.ptr 77 0),(5,.ptr 78 0),(11,an aJ ((aO b c).getD [])),(12,H (((aO b c).getD []).length:Int)),(13,H 0)] [(124,.c 266 [.gr (bo .i64 (ep aJ) b)]),(75,.c 183 [.cc 130]),(76,.c 41 [an bJ f,an aW g]),(77,.c 22 [.own 353]),(78,.c 157 [.fn 253 [.ptr 124 0,.ptr 75 0,.ptr 76 0,.ptr 77 0,.ptr 78 0]]),(353,.s 3 aJ p),(130,.map 3 4 (bo .i64 h6 n))]<|aX<|aFd 11 rfl λz=>?_
 obtain⟨M,N,C,D,a⟩:=cG a;refine cO a (λe(i,d)=>[(2,.ptr 75 0),(3,.ptr 76 0),(4,.ptr 77 0),(5,.ptr 78 0),(11,an aJ ((aO b c).getD [])),(12,H (((aO b c).getD []).length:Int)),(13,H e)]) (λe(i,d)=>[(124,.c 266 [.gr (bo .i64 (ep aJ) b)]),(75,.c 183 [.cc 130]),(76,.c 41 [an bJ f,an aW g]),(77,.c 22 [.own 156]),(78,.c 157 [.fn 253 [.ptr 124 0,.ptr 75 0,.ptr 76 0,.ptr 77 0,.ptr 78 0]]),(130,.map 3 4 (bo .i64 h6 d)),(156,.s 3 aJ i)]) ?_ ?_ ?_
 .exact cr [.rn 353 156] []
 .rintro e h L ⟨i,d⟩ B t a;rw[C]at a;refine ak [] [] [(14,.d ((e:Int)<(((aO b c).getD []).length:Int)))]<|aq<|aI (cL t)<|aK ?_
  obtain⟨G,F,a⟩:=cV a;refine cW G r (λ(l,m)=>[(2,.ptr 75 0),(3,.ptr 76 0),(4,.ptr 77 0),(5,.ptr 78 0),(11,an aJ ((aO b c).getD [])),(12,H (((aO b c).getD []).length:Int)),(13,H e)]) (λ(l,m)=>[(124,.c 266 [.gr (bo .i64 (ep aJ) b)]),(75,.c 183 [.cc 130]),(76,.c 41 [an bJ f,an aW g]),(77,.c 22 [.own 156]),(78,.c 157 [.fn 253 [.ptr 124 0,.ptr 75 0,.ptr 76 0,.ptr 77 0,.ptr 78 0]]),(130,.map 3 4 (bo .i64 h6 l)),(156,.s 3 aJ m)]) ?_ ?_
  .refine aX<|ak [(0,be (ix aJ (bU t)))] [14] [(8,H h)] ?_
   refine aq<|ak [(2,jj (lk (E:=4) (k:=.i64) (enc:=h6) d h false (λJ=>⟨_,zeroValue4 J,λK=>by simp[a1,dZ,h6]⟩)))] [] [(19,.bool ((aO d h).getD false))] ?_
   rcases aC a with⟨s,a⟩|⟨s,a⟩
   .exact aI s<|bQ<|aT (d,i) a
   refine aH s<|aK<|aV [(2,sv (nh (k:=.i64) (enc:=h6) d h true rfl))] [19] [] [130] [(130,.map 3 4 (bo .i64 h6 (bW d h true)))]<|aq ?_
   obtain⟨w,I,a⟩:=az a;refine ak [(2,aB (AF I) zC)] [] [(24,.bool w)] ?_;rcases aC a with⟨q,a⟩|⟨q,a⟩
   .refine aI q ?_;obtain⟨u,v,a⟩:=az a;exact aV [(3,dS 473 (ap aJ (bytes:=8) (by decide) v))] [24] [] [77,156] [(77,.c 22 [.own 473]),(473,.s 3 aJ u)]<|bQ<|Exists.intro (bW d h true,u) (And.intro a (cr [.b8 473 156] []))
   refine aH q<|aK ?_
   obtain⟨j,x,a⟩:=az a;exact b0 [(2,b3 [441] (e0.at [(353,156),(450,441)] (y x)) OV)] [8,24] [] [77,130,156] [(77,.c 22 [.own 441]),(130,.map 3 4 (bo .i64 h6 j.1)),(441,.s 3 aJ j.2)]<|Exists.intro (j.1,j.2) (And.intro a (cr [.b8 441 156] []))
  rintro⟨l,m⟩ a;rw[F]at a;exact a7 [(0,Y (cI t z))] [13] [(13,H ((e+1:Nat):Int))]<|aT (m,l) a
 rintro e ⟨i,d⟩ B A a;rw[D]at a;refine ak [] [] [(14,.d ((e:Int)<(((aO b c).getD []).length:Int)))]<|aq<|aH (cK A)<|bQ ?_
 obtain rfl:=cy a;exact c0 [.b8 156 450]
variable {t:aS}
def VR{e c r}(a:xW t e c=some r):bb au prog 176 [] [.agg (bz t),.gr (bo .i64 (ep aJ) e),H c] (an aJ r):=by
 refine a5 func176 rfl rfl ?_;unfold xW at a;refine aj [(0,.al 247),(1,.al 248)] [(2,H c),(3,.ptr 247 0),(4,.ptr 248 0)] [(247,.cells 41 (bz t)),(248,.c 266 [.gr (bo .i64 (ep aJ) e)])]<|aV [(0,.al 212)] [] [(7,.ptr 212 0)] [] [(212,.c 22 [.aF])]<|aV [(0,.al 302),(1,.al 301)] [] [(8,.ptr 301 0)] [] [(302,.map 3 4 (bo .i64 h6 [])),(301,.c 183 [.cc 302])]<|aV [(0,.al 317)] [] [(9,.ptr 317 0)] [] [(317,.c 157 [.dH])]<|aV [] [3,4,8] [] [317] [(317,.c 157 [.fn 253 [.ptr 248 0,.ptr 301 0,.ptr 247 0,.ptr 212 0,.ptr 317 0]])] ?_
 obtain⟨b,g,a⟩:=az a;refine aFx fN [.ac 212 353 3 1 0] [(2,b3 [520176001] (e0.at [(124,248),(75,301),(130,302),(76,247),(77,212),(78,317),(450,520176001)] (Vq fuel g)) OV)] [(7,.ptr 212 0)] [(212,.c 22 [.own 520176001]),(520176001,.s 3 aJ b.2)] (by kernel_rfl) ?_;obtain⟨f,a⟩:=g0 a;refine aj [(1,b3 [] (CE (d:=520176001) (T:=3) b.2 (fF f)) Dx)] [(7,.ptr 212 0)] [(212,.c 22 [.own 520176001]),(520176001,.s 3 aJ (hS b.2))]<|aV [] [7] [(6,.own 520176001)] [212] []<|c2 ?_
 obtain rfl:=cy a;exact c0 [.bL [520176001]]
def kz:e9 cH:=⟨λx=>[.int .i64 x.ai,.int .i64 x.bA,.int .i64 x.Length,.aF],4,λ_=>rfl,λ_=>rfl,λ_=>rfl⟩
variable {l:yz}
def YW(h:(!l.isEmpty&&l.all λx=>x.Rows.isEmpty)=true):l≠[]/\List.replicate (bc kz l).length []=l.map (·.Rows):=by
 simp only[b9,gD,gE]at h;refine⟨λd=>by rw[d]at h;simp at h,?_⟩;have a:=h.2;clear h;induction l with
 |nil=>rfl
 |cons x l b=>
  simp only[bc,dr,fW,tH]at b ⊢;rw[show x.Rows=[]from by simpa using a x (by simp)];rw[b λe c=>a e (by simp[c])]
variable {G:bI}{env:av}{σ:ah}
def Rh{d e:Nat}(h:(!l.isEmpty&&l.all λx=>x.Rows.isEmpty)=true)(i:σ.get d=some (.s 101 kz l))(j:σ.get e=none)(hi:G.ids.contains e=false)(f:env.clean [e].contains=true)(c:σ.clean [e].contains=true):
  cZ G env σ env ((e,.de (encS 145 2 eL.enc (l.map (·.Rows))))::(d,.fL 101 4 (bc kz l) 3 e none)::σ.minus [d]):=by
 obtain⟨g,b⟩:=YW h;rw[<-b]
 exact aHo 145 2 3 eL.enc (by decide) (by simpa [bc]using g) (λk a=>by
  obtain⟨x,_,rfl⟩:=dg.1 a;rfl) i j hi f c
variable {i:Nat}{x:cH}
def Hh(h:b6 l (i:Int)=some x):((l.map (·.Rows))[(i:Int).toNat]?=some x.Rows)/\0<=(i:Int)/\(i:Int)<((bc kz l).length:Int):=by
 obtain⟨b,c,a⟩:=vu h;refine⟨by rw[l7,a];rfl,b,?_⟩;simp only[bc,iO];omega
def TZ{d e e2 t:Nat}{a:yz}{b:List eR}(n:b6 l (i:Int)=some x)(c:gB l (i:Int) (cH.mk x.ai x.bA x.Length b)=some a)(v:σ.get d=some (.fL 101 4 (bc kz l) 3 e (some (some (i:Int).toNat,t))))(w:σ.get e=some (.de (encS 145 2 eL.enc ((l.map (·.Rows)).set (i:Int).toNat []))))
  (m:σ.get t=some (.s 145 eL b)) (p:σ.get e2=none) (q:G.ids.contains e2=false) (o:env.clean [e2].contains=true) (j:σ.clean [e2].contains=true) :
  cZ G env σ env ((e2,.de (encS 145 2 eL.enc (a.map (·.Rows))))::(d,.fL 101 4 (bc kz a) 3 e2 none)::σ.minus [d,e,t]):=by
 have u:=aHq (l.map (·.Rows)) eL.enc b v w m p q o j;obtain⟨z,h,k⟩:=vu n;have g:a=l.set (i:Int).toNat (cH.mk x.ai x.bA x.Length b):=by
  unfold gB at c;split at c
  .exact(qw c).symm
  .cases c
 have s:bc kz a=bc kz l:=by
  rw[g];apply mF;intro y;simp only[bc,l7,r7];by_cases f:(i:Int).toNat=y
  .subst f;rw[bx rfl,bx h,k];rfl
  .rw[bw f]
 have r:(l.map (·.Rows)).set (i:Int).toNat b=a.map (·.Rows):=by rw[g,List.map_set]
 rw[s,<-r];exact u
def acB{d e:Nat}(b:σ.get d=some (.fL 101 4 (bc kz l) 3 e none))(c:σ.get e=some (.de (encS 145 2 eL.enc (l.map (·.Rows))))):cZ G env σ env ((d,.s 101 eA l)::σ.minus [d,e]):=
 aGP (l.map (·.Rows)) eL.enc (by decide) b c (bc eA l) (by
  clear b c;induction l with
  |nil=>rfl
  |cons x l a=>
   simp only[bc,dr,List.zipWith_cons_cons]at a ⊢;rw[<-a];rfl)
variable {p:en}
def VG{dn r}(a:BB t p dn=some r):bb au prog 105 [] [.agg (bz t),.agg (fh p),an aJ dn] (an eA r):=by
 refine a5 func105 rfl rfl ?_;unfold BB at a;refine aj [(0,.al 31),(1,.al 176)] [(2,an aJ dn),(3,.ptr 31 0),(4,.ptr 176 0)] [(31,.cells 41 (bz t)),(176,.cells 44 (fh p))]<|ak [] [] [(7,.aF)]<|aq<|ak [(1,Y (bk aJ dn))] [] [(16,an aJ dn),(17,H dn.length),(18,H 0)]<|aX<|aFd 2 rfl λC=>?_
 obtain⟨ag,am,F,G,a⟩:=cG a;refine cO a (λg=>λi=>[(2,an aJ dn),(3,.ptr 31 0),(4,.ptr 176 0),(7,.own 600105007),(16,an aJ dn),(17,H dn.length),(18,H g)]) (λg=>λi=>[(31,.cells 41 (bz t)),(176,.cells 44 (fh p)),(600105007,.s 101 kz i)]) ?_ ?_ ?_
 .exact cr [.ad 7 600105007 101 4] []
 .rintro g Z ae i E q a;rw[F]at a;refine ak [] [] [(19,.d ((g:Int)<dn.length))]<|aq<|aI (cL q)<|aK<|aq<|aX<|ak [(0,be (ix aJ (bU q)))] [19] [(9,H Z)] ?_
  obtain⟨w,aa,a⟩:=az a;exact b0 [(7,Px RS),(8,dS 355 (ap kz (bytes:=48) (by decide) aa))] [7,9] [(7,.own 355)] [600105007] [(355,.s 101 kz w)]<|a7 [(0,Y (cI q C))] [18] [(18,H ((g+1:Nat):Int))]<|Exists.intro w (And.intro a (cr [.b8 355 600105007] []))
 rintro g i E D a;rw[G]at a;obtain⟨S,a⟩:=g0 a;refine ak [] [] [(19,.d ((g:Int)<dn.length))]<|aq<|aH (cK D)<|bQ<|aq<|aV [(2,Y (bk eM p.ck))] [4,16,17,18,19] [(33,an eM p.ck),(34,H p.ck.length),(35,H 0)] [176] []<|aX<|aFd 33 rfl λM=>?_
 obtain⟨ax,ar,O,P,a⟩:=cG a;refine cO a (λf=>λh=>[(2,an aJ dn),(3,.ptr 31 0),(7,.own 600105007),(33,an eM p.ck),(34,H p.ck.length),(35,H f)]) (λf=>λh=>[(31,.cells 41 (bz t)),(600105007,.fL 101 4 (bc kz h) 3 601105007 none),(601105007,.de (encS 145 2 eL.enc (h.map (·.Rows))))]) ?_ ?_ ?_
 .exact(Rh (d:=600105007) (e:=601105007) S rfl rfl rfl rfl rfl).trans (c8)
 .rintro f e2 ao h Q s a;rw[O]at a;refine ak [] [] [(36,.d ((f:Int)<p.ck.length))]<|aq<|aI (cL s)<|aK<|aq<|aX<|aV [(0,be (ix eM (bU s))),(2,.al 105)] [36] [(11,.ptr 105 0)] [] [(105,.cells 49 (iK e2))] ?_
  obtain⟨n,y,a⟩:=az a;refine ak [(3,aB (J3 y) Ov)] [] [(12,.gr (bo .i64 (ep aJ) n))]<|ak [(1,Y (bk aJ dn))] [] [(43,an aJ dn),(44,H dn.length),(45,H 0)]<|aX<|aFd 2 rfl λT=>?_
  obtain⟨ay,aA,V,W,a⟩:=cG a;refine cO a (λb=>λc=>[(2,an aJ dn),(3,.ptr 31 0),(7,.own 600105007),(11,.ptr 105 0),(12,.gr (bo .i64 (ep aJ) n)),(33,an eM p.ck),(34,H p.ck.length),(35,H f),(43,an aJ dn),(44,H dn.length),(45,H b)]) (λb=>λc=>[(31,.cells 41 (bz t)),(600105007,.fL 101 4 (bc kz c) 3 601105007 none),(601105007,.de (encS 145 2 eL.enc (c.map (·.Rows)))),(105,.cells 49 (iK e2))]) ?_ ?_ ?_
  .exact c8
  .rintro b k aw c X u a;rw[V]at a;refine ak [] [] [(46,.d ((b:Int)<dn.length))]<|aq<|aI (cL u)<|aK<|aq<|aX<|ak [(1,be (ix aJ (bU u)))] [46] [(13,H b),(14,H k)]<|aV [(3,.al 193)] [] [(15,.ptr 193 0)] [] [(193,.c 145 [H e2.aP,.aF])] ?_
   obtain⟨J,I,a⟩:=cV a;refine cW J r (λm=>[(2,an aJ dn),(3,.ptr 31 0),(7,.own 600105007),(11,.ptr 105 0),(12,.gr (bo .i64 (ep aJ) n)),(13,H b),(15,.ptr 193 0),(33,an eM p.ck),(34,H p.ck.length),(35,H f),(43,an aJ dn),(44,H dn.length),(45,H b)]) (λm=>[(31,.cells 41 (bz t)),(600105007,.fL 101 4 (bc kz c) 3 601105007 none),(601105007,.de (encS 145 2 eL.enc (c.map (·.Rows)))),(105,.cells 49 (iK e2)),(193,.c 145 [H e2.aP,an aJ m])]) ?_ ?_
   .refine aX<|ak [] [] [(53,.d (k=e2.ai))] ?_
    rcases aC a with⟨o,a⟩|⟨o,a⟩
    .exact aI o<|b0 [(1,.al 454)] [14,53] [] [193] [(193,.c 145 [H e2.aP,.own 454]),(454,.s 3 aJ ([k]:bX))]<|Exists.intro ([k]:bX) (And.intro a (cr [.bL [454],.sc 193 [31,600105007,105,193,601105007]] []))
    refine aH o ?_;obtain⟨x,z,a⟩:=az a;refine ak [(3,aB (AF z) zC)] [53] [(61,.bool x)] ?_;rcases aC a with⟨l,a⟩|⟨l,a⟩
    .refine aI l ?_;obtain⟨v,K,a⟩:=az a;exact b0 [(3,aB (VR K) Tm)] [14,61] [] [193] [(193,.c 145 [H e2.aP,an aJ v])]<|aT v a
    exact aH l<|aK<|Exists.intro [] (And.intro a (cr [.sc 193 [31,600105007,105,193,601105007]] []))
   rintro m a;rw[I]at a;obtain⟨ab,j,B,A,R,N,a⟩:=mT a;exact b0 [(4,PC (b:Int) (bc kz c) Jv (Hh j).2),(6,acH 4 3 145 2 602105007 603105007 eL.enc Jw (Hh j).1),(9,dS 105580 (ap eL (bytes:=32) (by decide) A)),(10,PC (b:Int) (bc kz c) Jv (Hh j).2),(12,acK 4 3 (b:Int).toNat Jw)] [13,15] [] [600105007,601105007,193] [(600105007,.fL 101 4 (bc kz c) 3 602105007 (some (some (b:Int).toNat,105580))),(602105007,.de (encS 145 2 eL.enc ((c.map (·.Rows)).set (b:Int).toNat []))),(105580,.s 145 eL B)]<|a7 [(0,Y (cI u T))] [45] [(45,H ((b+1:Nat):Int))]<|Exists.intro R (And.intro a ((TZ (d:=600105007) (e:=602105007) (e2:=601105007) (t:=105580) j N rfl rfl rfl rfl rfl rfl rfl).trans (c8)))
  rintro b c X U a;rw[W]at a;exact ak [] [] [(46,.d ((b:Int)<dn.length))]<|aq<|aH (cK U)<|bQ<|b0 [(0,Y (cI s M))] [11,12,35,43,44,45,46] [(35,H ((f+1:Nat):Int))] [105] []<|aT c a
 rintro f h Q L a;rw[P]at a;refine ak [] [] [(36,.d ((f:Int)<p.ck.length))]<|aq<|aH (cK L)<|bQ<|aV [] [2,3,7,33,34,35,36] [(6,.own 600105007)] [31] []<|aFs (acB (d:=600105007) (e:=601105007) rfl rfl)<|c2 ?_
 obtain rfl:=cy a;exact c0 [.bL [600105007]]
def Kj{b r}(a:p3 t p b=some r):bb au prog 37 [] [.agg (bz t),.agg (fh p),H b] (.bO [.agg (eT r.1),H r.2]):=by
 refine a5 func37 rfl rfl ?_;unfold p3 at a;refine aj [(0,.al 234),(1,.al 235),(2,.al 165)] [(2,H b),(3,.ptr 234 0),(4,.ptr 235 0),(6,.ptr 165 0)] [(234,.cells 41 (bz t)),(235,.cells 44 (fh p)),(165,.c 101 [H 0,H 0,H 0,.aF])]<|aq<|aX ?_
 obtain⟨o,n,a⟩:=cV a;refine cW o r (λf=>[(2,H b),(3,.ptr 234 0),(4,.ptr 235 0),(6,.ptr 165 0),(8,.bool f)]) (λf=>[(234,.cells 41 (bz t)),(235,.cells 44 (fh p)),(165,.c 101 [H 0,H 0,H 0,.aF])]) ?_ ?_
 .obtain⟨w,i,a⟩:=az a;rcases aC a with⟨d,a⟩|⟨d,a⟩
  .exact a7 [(1,aB (kP i) kX),(3,Y (ax d))] [] [(8,.bool true)]<|aT true a
  obtain⟨h,k,a⟩:=az a;exact a7 [(1,aB (kP i) kX),(3,Y (ax d)),(5,aB (AD k) zP)] [] [(8,.bool (!h))]<|aT (!h) a
 rintro f a;rw[n]at a;rcases aC a with⟨c,a⟩|⟨c,a⟩
 .exact aI c<|aV [] [2,3,4,8] [(7,H 1)] [234,235] []<|aN
 refine aH c ?_;obtain⟨j,l,a⟩:=az a;refine ak [(2,aB (nK l) nC)] [8] [(18,.bool (!j))] ?_;rcases aC a with⟨e,a⟩|⟨e,a⟩
 .exact aI e<|aV [] [2,3,4,18] [(7,H 4)] [234,235] []<|aN
 refine aH e ?_;obtain⟨u,q,a⟩:=az a;refine ak [(2,aB (AF q) zC)] [18] [(24,.bool (!u))] ?_;rcases aC a with⟨g,a⟩|⟨g,a⟩
 .exact aI g<|aV [] [2,3,4,24] [(7,H 26)] [234,235] []<|aN
 refine aH g<|aK ?_
 obtain⟨x,v,s,m,a⟩:=er a;exact aj [(4,aB (VG v) RW),(5,be (ix eA m))] [(6,.ptr 165 0),(7,H 0)] [(165,.cells 101 (eT s))]<|aN
end
section
open Go
noncomputable section
def A8(t:cu)(dn:Int):Option ((p6)×cu):=
 eD (decide ((dn+1)<=9223372036854775807))<|iD ((dn+1)-(1:Int)).toNat (1:Int) (λ(k:Int) (p:((p6)×(bX)×Int)->Option _) (g,e,h)=>iD ((3:Int)-(0:Int)).toNat (0:Int) (λ(m:Int) (r:((p6)×(bX)×Int)->Option _) (c,f,i)=>jn (λ(a:(p6)×(bX)×Int)=>match a with|(s,n,q)=>r (s,n,q)) λl=>af (h7 (cu.mk f i) (3:Int)) λb=>bif decide (0<b.1)then af (p2 b.2 ([(1:Int),(2:Int),(3:Int),(4:Int),(5:Int),(8:Int),(9:Int),(256:Int)]:bX)) λj=>af (xg j.2) λd=>af (dm c ([(c1.mk (k:Int) (fx.mk (m:Int) j.1 d.1))]:p6)) λo=>l (o,d.2.L,d.2.At)else l (c,b.2.L,b.2.At)) (λ(m:Int) (a:(p6)×(bX)×Int)=>match a with|(c,f,i)=>p (c,f,i)) (g,e,h)) (λ(k:Int) (a:(p6)×(bX)×Int)=>match a with|(g,e,h)=>some (g,(cu.mk e h))) ([],t.L,t.At)
def BC: dw:=
 af (uL (aS.mk [(bV.mk 1 true),(bV.mk 2 true)] [(bm.mk 1 2 1 1 0)]) [(c1.mk 2 (fx.mk 0 3 8))]) λe=>af (pU e.1 1) λc=>af (pU c.1 2) λd=>af (qR d.1) λa=>bif ((!decide (e.2=0))||((!decide (c.2=0))||((!decide (d.2=0))||((!decide (a.2=0))||(!decide ((a.1.aM.length:Int)=2))))))then some false else af (b6 a.1.aM 0) λg=>af (sy g.Database 1) λh=>af (uI h 0) λf=>af (pX g.Database 1) λj=>af (p3 j f.1 1) λb=>(bif decide (f.2=0)then(bif decide (b.2=0)then(bif decide ((b.1.Rows.length:Int)=1)then af (b6 b.1.Rows 0) λi=>af (xV i.Next [2]) λk=>some k else some false)else some false)else some false)
def BD(K:cu)(dn:Int):Option (aQ×Bool×cu):=
 af (AJ K dn) λf=>af (A8 f.2 (f.1.bf.length:Int)) λv=>af (uL f.1 v.1) λh=>bC f.1.bf 0 (λag ae L (b:(mJ)×(ri)×(sD))=>match b with|(i,l,j)=>af (pU (aQ.mk i l j) ae.aP) λk=>bif !decide (k.2=0)then some ((aQ.mk i l j),false,v.2)else L (k.1.Links,k.1.aM,k.1.bg)) (λ(b:(mJ)×(ri)×(sD))=>match b with|(i,l,j)=>af (h7 v.2 8) λw=>gu (λO (b:Int×(mJ)×(ri)×(sD)×(bX)×Int)=>match b with|(F,d,c,e,x,z)=>bif ((decide (0<F))&&(decide (h.2=0)))then jn (λ(b:(bX)×Int×(mJ)×(ri)×(sD))=>match b with|(Q,U,R,S,V)=>O (a2 (F-1),R,S,V,Q,U)) λG=>jn (λ(b:Int×(bX)×Int×(mJ)×(ri)×(sD))=>match b with|(Z,I,J,W,X,Y)=>bif decide (Z=0)then G (I,J,W,X,Y)else G (I,J,d,c,e)) λg=>af (h7 (cu.mk x z) 6) λa=>bif decide (a.1=0)then af (sA (aQ.mk d c e)) λN=>af (sA (aQ.mk d c e)) λM=>af (AV a.2 M) λy=>af (Bf N y.1) λP=>af (qT (aQ.mk d c e) P.Links) λm=>g (m.2,y.2.L,y.2.At,m.1.Links,m.1.aM,m.1.bg)else bif decide (a.1=1)then af (qT (aQ.mk d c e) f.1.Links) λn=>g (n.2,a.2.L,a.2.At,n.1.Links,n.1.aM,n.1.bg)else bif decide (a.1=2)then af (xh a.2 f.1) λA=>af (AP (aQ.mk d c e) A.1) λo=>g (o.2,A.2.L,A.2.At,o.1.Links,o.1.aM,o.1.bg)else bif decide (a.1=3)then af (xh a.2 f.1) λB=>af (Bg (aQ.mk d c e) B.1) λs=>g (s.2,B.2.L,B.2.At,s.1.Links,s.1.aM,s.1.bg)else bif decide (a.1=4)then af (h7 a.2 3) λD=>af (Bb (aQ.mk d c e) D.1) λt=>g (t.2,D.2.L,D.2.At,t.1.Links,t.1.aM,t.1.bg)else af (h7 a.2 3) λE=>af (AQ (aQ.mk d c e) E.1) λu=>g (u.2,E.2.L,E.2.At,u.1.Links,u.1.aM,u.1.bg)else af (AX (c.length:Int)) λaa=>gu (λT (b:Int×(mJ)×(ri)×(sD))=>match b with|(H,p,q,r)=>bif decide (0<H)then af (qR (aQ.mk p q r)) λC=>T (a2 (H-1),C.1.Links,C.1.aM,C.1.bg)else(bif decide (h.2=0)then af (AN (aQ.mk p q r)) λab=>some ((aQ.mk p q r),ab,(cu.mk x z))else some ((aQ.mk p q r),false,(cu.mk x z)))) (aa,d,c,e)) (w.1,i,l,j,w.2.L,w.2.At)) (h.1.Links,h.1.aM,h.1.bg)
def BE(f:aQ)(o:Int)(w:Int):Option (aS×en×(yz)×Bool):=
 af (sA f) λq=>bC f.aM 0 (λG b s (a:(yz)×(uX)×(mJ)×Int×Int×(zw))=>match a with|(j,c,h,e,i,d)=>jn (λ(a:(yz)×(uX)×(mJ)×Int×Int×(zw))=>match a with|(r,u,v,y,z,C)=>s (r,u,v,y,z,C)) λn=>af (AU q o b.ai) λp=>bif !p then n (j,c,h,e,i,d)else af (pX b.Database b.ai) λk=>af (sy b.Database b.ai) λt=>af (uI t w) λg=>af (p3 k g.1 b.ai) λm=>bif ((!decide (g.2=0))||(!decide (m.2=0)))then some ((aS.mk c h),(en.mk e i d),[],false)else jn (λ(a:(uX)×(mJ)×Int×Int×(zw))=>match a with|(A,B,D,E,F)=>af (dm j [m.1]) λx=>n (x,A,B,D,E,F)) λl=>bif decide (b.ai=o)then l (k.bf,k.Links,g.1.bA,g.1.Length,g.1.ck)else l (c,h,e,i,d)) (λ(a:(yz)×(uX)×(mJ)×Int×Int×(zw))=>match a with|(j,c,h,e,i,d)=>some ((aS.mk c h),(en.mk e i d),j,true)) ([],[],[],0,0,[])
end
end
section
open Go Go.Proofs.Tryz
variable {au:Bool}
def UJ{t dn r}(a:A8 t dn=some r):cz au prog 18 [(1,.cells 74 (cw t))] [.ptr 1 0,H dn,H 0] (eH (an dM r.1) [(1,.cells 74 (cw r.2))]):=by
 refine a5 func18 rfl rfl ?_;unfold A8 at a;refine aj [] [(0,.ptr 1 0),(1,H dn),(2,H 0)] [(1,.cells 74 (cw t))]<|ak [] [] [(7,.aF)]<|aq<|ak [] [] [(8,H 1)]<|aX ?_
 obtain⟨I,a⟩:=g0 a;obtain⟨M,N,y,z,a⟩:=sR a;refine aFE (hi:=(dn+1)) a rfl (λb(j,g,k)=>[(0,.ptr 1 0),(1,H dn),(2,H 0),(7,.own 129),(8,H b)]) (λb(j,g,k)=>[(1,.c 74 [an aJ g,H k]),(129,.s 143 dM j)]) ?_ ?_ ?_
 .exact cr [.ad 7 129 143 4] []
 .rintro b L ⟨j,g,k⟩ x p a;rw[y]at a;refine aq<|ak [] [] [(12,.d ((b:Int)<=dn))] ?_
  refine aFu rfl (IQ p)<|aK<|aq<|aX<|ak [] [12] [(9,H 0)]<|aX ?_
  obtain⟨Q,P,E,F,a⟩:=sR a;refine aFE (hi:=(3:Int)) a rfl (λc(d,e,f)=>[(0,.ptr 1 0),(1,H dn),(2,H 0),(7,.own 129),(8,H b),(9,H c)]) (λc(d,e,f)=>[(1,.c 74 [an aJ e,H f]),(129,.s 143 dM d)]) ?_ ?_ ?_
  .exact c8
  .rintro c O ⟨d,e,f⟩ G s a;rw[E]at a;refine aq<|ak [] [] [(16,.d ((c:Int)<(3:Int)))] ?_
   refine aFu rfl (fU s)<|aK ?_
   obtain⟨B,A,a⟩:=cV a;refine cW B r (λ(m,i,l)=>[(0,.ptr 1 0),(1,H dn),(2,H 0),(7,.own 129),(8,H b),(9,H c)]) (λ(m,i,l)=>[(1,.c 74 [an aJ i,H l]),(129,.s 143 dM m)]) ?_ ?_
   .refine aX ?_;obtain⟨h,J,a⟩:=az a;refine aV [(1,b3 [] (jh J) jg)] [16] [(21,.d (0<h.1))] [1] [(1,.cells 74 (cw h.2))] ?_;rcases aC a with⟨o,a⟩|⟨o,a⟩
    .refine aI o ?_;obtain⟨K,u,n,v,q,C,a⟩:=mT a;exact b0 [(5,b3 [] (xw u) wH),(7,b3 [] (JT v) JE),(11,dS 464 (ap dM (bytes:=32) (by decide) C))] [7,21] [(7,.own 464)] [1,129] [(1,.cells 74 (cw n.2)),(464,.s 143 dM q)]<|Exists.intro (q,n.2.L,n.2.At) (And.intro a (cr [.b8 464 129] []))
    exact aH o<|aK<|aT (d,h.2.L,h.2.At) a
   rintro⟨m,i,l⟩ a;rw[A]at a;exact a7 [(1,Y (si (by omega) s (by decide)))] [9] [(9,H (c+1:Int))]<|aT (m,i,l) a
  rintro c ⟨d,e,f⟩ G D a;rw[F]at a;refine aq<|ak [] [] [(16,.d ((c:Int)<(3:Int)))] ?_
  exact aFl rfl (Ah D)<|bQ<|a7 [(1,Y (si (by omega) p (fF I)))] [8,9,16] [(8,H (b+1:Int))]<|aT (d,e,f) a
 rintro b ⟨j,g,k⟩ x w a;rw[z]at a;refine aq<|ak [] [] [(12,.d ((b:Int)<=dn))] ?_
 refine aFl rfl (IA w)<|bQ<|aq<|ak [] [1,2,8,12] [(40,.bool false)]<|aFl rfl rfl<|aK<|ak [] [0,7,40] [(6,.own 129)]<|c2 ?_
 obtain rfl:=cy a;exact c0 [.bL [129]]
def VH{r}(b:BC=some r):bb au prog 15 [] [] (.bool r):=by
 refine a5 func15 rfl rfl ?_;unfold BC at b;refine aj [] [] []<|aj [(6,.al 510)] [(1,.ptr 510 0)] [(510,.c 41 [.bn true (bc bJ ([(bV.mk (1:Int) true),(bV.mk (2:Int) true)]:uX)),.bn true (bc aW ([(bm.mk (1:Int) (2:Int) (1:Int) (1:Int) (0:Int))]:mJ))])] ?_
 obtain⟨h,D,b⟩:=az b;refine aj [(4,aB (JW D) Jx),(8,.al 229)] [(2,.ptr 229 0),(3,H h.2)] [(229,.cells 29 (c6 h.1))] ?_;obtain⟨d,t,b⟩:=az b;refine aV [(1,b3 [249,250] (I1 t) Ig)] [] [(4,H d.2)] [229] [(229,.c 29 [an aW d.1.Links,.own 249,.own 250]),(249,.s 37 bF d.1.aM),(250,.s 161 b2 d.1.bg)] ?_;obtain⟨c,u,b⟩:=az b;refine aFx fN [.bL [249,250]] [(1,b3 [431,432] (e0.at [(249,431),(250,432)] (I1 u)) Ig)] [(2,.ptr 229 0),(3,H h.2),(4,H d.2),(5,H c.2)] [(229,.c 29 [an aW c.1.Links,.own 431,.own 432]),(431,.s 37 bF c.1.aM),(432,.s 161 b2 c.1.bg)] (by kernel_rfl) ?_;obtain⟨a,w,b⟩:=az b;refine aFx fN [.bL [431,432]] [(1,aB (JX w) JA)] [(2,.ptr 229 0),(3,H h.2),(4,H d.2),(5,H c.2),(6,H a.2)] [(229,.cells 29 (c6 a.1))] (by kernel_rfl)<|aq<|aFe [(2,.ptr 229 0),(59,.bool ((!decide (h.2=0))||((!decide (d.2=0))||((!decide (c.2=0))||((!decide (a.2=0))||(!decide ((a.1.aM.length:Int)=(2:Int))))))))] [(229,.cells 29 (c6 a.1))] (λk=>?_) ?_
 .rcases eU (!decide (h.2=0))with e|e
  .exact aj [(2,Y (ax e)),(19,Y (hj (q:=((!decide (d.2=0))||((!decide (c.2=0))||((!decide (a.2=0))||(!decide ((a.1.aM.length:Int)=(2:Int))))))) e))] _ _ k
  rcases eU (!decide (d.2=0))with f|f
  .exact aj [(2,Y (ax e)),(6,Y (ax f)),(19,Y ((hj (q:=((!decide (c.2=0))||((!decide (a.2=0))||(!decide ((a.1.aM.length:Int)=(2:Int)))))) f).trans (eW (q:=((!decide (d.2=0))||((!decide (c.2=0))||((!decide (a.2=0))||(!decide ((a.1.aM.length:Int)=(2:Int))))))) e)))] _ _ k
  rcases eU (!decide (c.2=0))with g|g
  .exact aj [(2,Y (ax e)),(6,Y (ax f)),(10,Y (ax g)),(19,Y (((hj (q:=((!decide (a.2=0))||(!decide ((a.1.aM.length:Int)=(2:Int))))) g).trans (eW (q:=((!decide (c.2=0))||((!decide (a.2=0))||(!decide ((a.1.aM.length:Int)=(2:Int)))))) f)).trans (eW (q:=((!decide (d.2=0))||((!decide (c.2=0))||((!decide (a.2=0))||(!decide ((a.1.aM.length:Int)=(2:Int))))))) e)))] _ _ k
  rcases eU (!decide (a.2=0))with i|i
  .exact aj [(2,Y (ax e)),(6,Y (ax f)),(10,Y (ax g)),(14,Y (ax i)),(19,Y ((((hj (q:=!decide ((a.1.aM.length:Int)=(2:Int))) i).trans (eW (q:=((!decide (a.2=0))||(!decide ((a.1.aM.length:Int)=(2:Int))))) g)).trans (eW (q:=((!decide (c.2=0))||((!decide (a.2=0))||(!decide ((a.1.aM.length:Int)=(2:Int)))))) f)).trans (eW (q:=((!decide (d.2=0))||((!decide (c.2=0))||((!decide (a.2=0))||(!decide ((a.1.aM.length:Int)=(2:Int))))))) e)))] _ _ k
  exact aj [(2,Y (ax e)),(6,Y (ax f)),(10,Y (ax g)),(14,Y (ax i)),(17,Y (bk bF a.1.aM)),(19,Y ((((eW (q:=!decide ((a.1.aM.length:Int)=(2:Int))) i).trans (eW (q:=((!decide (a.2=0))||(!decide ((a.1.aM.length:Int)=(2:Int))))) g)).trans (eW (q:=((!decide (c.2=0))||((!decide (a.2=0))||(!decide ((a.1.aM.length:Int)=(2:Int)))))) f)).trans (eW (q:=((!decide (d.2=0))||((!decide (c.2=0))||((!decide (a.2=0))||(!decide ((a.1.aM.length:Int)=(2:Int))))))) e)))] _ _ k
 rcases aC b with⟨n,b⟩|⟨n,b⟩
 .exact aI n<|aj [] [(0,.bool false)] []<|aN
 refine aH n<|aK ?_
 obtain⟨F,s,E,v,o,x,b⟩:=mT b;refine aV [(2,be (ix bF s)),(5,aB (J1 v) JC),(6,aB (Ka x) JB),(10,.al 511)] [59] [(7,.ptr 511 0),(8,H o.2)] [] [(511,.cells 44 (fh o.1))] ?_;obtain⟨I,z,m,A,b⟩:=er b;refine aj [(2,be (ix bF s)),(5,aB (Jc z) Ii),(7,aB (Kj A) JD),(11,.al 512)] [(8,H o.2),(9,.ptr 512 0),(10,H m.2)] [(512,.cells 101 (eT m.1))] ?_;rcases aC b with⟨j,b⟩|⟨j,b⟩
 .rcases aC b with⟨l,b⟩|⟨l,b⟩
  .rcases aC b with⟨p,b⟩|⟨p,b⟩
   .obtain⟨G,B,y,C,b⟩:=er b;exact aj [(2,Y (ax j)),(6,Y (ax l)),(9,Y (bk eL m.1.Rows)),(12,Y (ax p)),(15,be (ix eL B)),(19,aB (Ft C) HY)] [(0,.bool y)] []<|aN
   exact aj [(2,Y (ax j)),(6,Y (ax l)),(9,Y (bk eL m.1.Rows)),(12,Y (ax p))] [(0,.bool false)] []<|aN
  exact aj [(2,Y (ax j)),(6,Y (ax l))] [(0,.bool false)] []<|aN
 exact aj [(2,Y (ax j))] [(0,.bool false)] []<|aN
def VI{U dn r}(a:BD U dn=some r):cz au prog 5 [(1,.cells 74 (cw U))] [.ptr 1 0,H dn] (eH (.bO [.agg (c6 r.1),.bool r.2.1]) [(1,.cells 74 (cw r.2.2))]):=by
 refine a5 func5 rfl rfl ?_;unfold BD at a;refine aj [(0,.al 17)] [(0,.ptr 1 0),(1,H dn),(4,.ptr 17 0)] [(1,.cells 74 (cw U)),(17,.c 29 [.aF,.aF,.aF])] ?_;obtain⟨b,cd,a⟩:=az a;refine aV [(2,b3 [23,24] (Un cd) abN),(3,.al 26)] [1] [(6,.ptr 26 0)] [1] [(1,.cells 74 (cw b.2)),(23,.s 82 bJ b.1.bf),(24,.s 139 aW b.1.Links),(26,.c 41 [.own 23,.own 24])] ?_;obtain⟨J,aD,c,aE,a⟩:=er a;refine aFx fN [.bL [23,24]] [(4,Y (bk bJ b.1.bf)),(5,b3 [] (UJ aD) abO),(6,aB (JW aE) Jx),(10,.al 20)] [(0,.ptr 1 0),(4,.ptr 17 0),(6,.ptr 26 0),(7,.ptr 20 0),(8,H c.2)] [(1,.cells 74 (cw J.2)),(17,.c 29 [.aF,.aF,.aF]),(23,.slice 82 2 (bc bJ b.1.bf) (bc bJ b.1.bf).length true),(24,.slice 139 5 (bc aW b.1.Links) (bc aW b.1.Links).length true),(26,.c 41 [.own 23,.own 24]),(20,.cells 29 (c6 c.1))] (by kernel_rfl)<|aq<|aj [] [(0,.ptr 1 0),(4,.ptr 17 0),(6,.ptr 26 0),(7,.ptr 20 0),(8,H c.2),(9,H 0)] [(1,.cells 74 (cw J.2)),(17,.c 29 [.aF,.aF,.aF]),(23,.slice 82 2 (bc bJ b.1.bf) (bc bJ b.1.bf).length true),(24,.slice 139 5 (bc aW b.1.Links) (bc aW b.1.Links).length true),(26,.c 41 [.own 23,.own 24]),(20,.cells 29 (c6 c.1))]<|aX<|aF1 6 0 rfl rfl rfl rfl λaR=>?_
 obtain⟨cf,ch,aZ,a4,a⟩:=cG a;refine cO a (λh(u,w,v)=>[(0,.ptr 1 0),(4,.ptr 17 0),(6,.ptr 26 0),(7,.ptr 20 0),(8,H c.2),(9,H h)]) (λh(u,w,v)=>[(1,.cells 74 (cw J.2)),(17,.c 29 [.aF,.aF,.aF]),(23,.slice 82 2 (bc bJ b.1.bf) (bc bJ b.1.bf).length true),(24,.slice 139 5 (bc aW b.1.Links) (bc aW b.1.Links).length true),(26,.c 41 [.own 23,.own 24]),(20,.c 29 [an aW u,an bF w,an b2 v])]) ?_ ?_ ?_
 .exact c8
 .rintro h cP ce ⟨u,w,v⟩ aY K a;rw[aZ]at a;refine aq<|ak [(3,Y (bk bJ b.1.bf))] [] [(33,.d ((h:Int)<b.1.bf.length))] ?_
  refine aI (cL K)<|aK<|aq<|aX ?_
  obtain⟨f,bb,a⟩:=az a;refine aV [(4,be (ix bJ (bU K))),(6,fK 23 0 (ix bJ (bU K))),(7,b3 [263,264] (e0.at [(249,263),(250,264)] (I1 bb)) Ig),(11,.al 424)] [33] [(10,.ptr 424 0),(11,H f.2)] [] [(424,.c 29 [an aW f.1.Links,.own 263,.own 264]),(263,.s 37 bF f.1.aM),(264,.s 161 b2 f.1.bg)]<|aq<|ak [] [11] [(48,.bool (!decide (f.2=0)))] ?_
  rcases aC a with⟨S,a⟩|⟨S,a⟩
  .exact aI S<|aj [] [(4,.ptr 17 0),(5,.bool false)] [(1,.cells 74 (cw J.2)),(17,.c 29 [an aW u,an bF w,an b2 v])]<|aN
  exact aH S<|aK<|b0 [] [10,48] [] [20,424] [(20,.c 29 [an aW f.1.Links,.own 263,.own 264])]<|a7 [(1,Y (cI K aR))] [9] [(9,H ((h+1:Nat):Int))]<|Exists.intro (f.1.Links,f.1.aM,f.1.bg) (And.intro a (cr [.bL [263,264],.sc 20 [1,17,23,24,26,20]] []))
 rintro h ⟨u,w,v⟩ aY aU a;rw[a4]at a;refine aq<|ak [(3,Y (bk bJ b.1.bf))] [] [(33,.d ((h:Int)<b.1.bf.length))] ?_
 refine aH (cK aU)<|bQ<|aq ?_
 obtain⟨ay,bh,a⟩:=az a;refine aV [(1,b3 [] (jh bh) jg)] [9,33] [(12,H ay.1)] [1] [(1,.cells 74 (cw ay.2))]<|aX ?_
 obtain⟨cB,cy,bR,a⟩:=jL a;refine aFn a (λ(d,i,g,j,x,z)=>[(0,.ptr 1 0),(4,.ptr 17 0),(6,.ptr 26 0),(7,.ptr 20 0),(8,H c.2),(12,H d)]) (λ(d,i,g,j,x,z)=>[(1,.c 74 [an aJ x,H z]),(17,.c 29 [.aF,.aF,.aF]),(23,.slice 82 2 (bc bJ b.1.bf) (bc bJ b.1.bf).length true),(24,.slice 139 5 (bc aW b.1.Links) (bc aW b.1.Links).length true),(26,.c 41 [.own 23,.own 24]),(20,.c 29 [an aW i,an bF g,an b2 j])]) ?_ ?_
 .exact c8
 rintro cm ⟨d,i,g,j,x,z⟩ a;rw[bR]at a;refine aq<|aFe [(0,.ptr 1 0),(4,.ptr 17 0),(6,.ptr 26 0),(7,.ptr 20 0),(8,H c.2),(12,H d),(58,.bool ((decide (0<d))&&(decide (c.2=0))))] [(1,.c 74 [an aJ x,H z]),(17,.c 29 [.aF,.aF,.aF]),(23,.slice 82 2 (bc bJ b.1.bf) (bc bJ b.1.bf).length true),(24,.slice 139 5 (bc aW b.1.Links) (bc aW b.1.Links).length true),(26,.c 41 [.own 23,.own 24]),(20,.c 29 [an aW i,an bF g,an b2 j])] (λaA=>?_) ?_
 .rcases eU (decide (0<d))with t|t
  .exact aj [(2,Y (ax t)),(5,Y (ko (q:=decide (c.2=0)) t))] _ _ aA
  exact aj [(2,Y (ax t)),(5,Y (kK (q:=decide (c.2=0)) t))] _ _ aA
 rcases aC a with⟨V,a⟩|⟨V,a⟩
 .refine aI V<|aK ?_
  obtain⟨ba,a9,a⟩:=cV a;refine cW ba r (λ(L,O,M,N,P)=>[(0,.ptr 1 0),(4,.ptr 17 0),(6,.ptr 26 0),(7,.ptr 20 0),(8,H c.2),(12,H d)]) (λ(L,O,M,N,P)=>[(1,.c 74 [an aJ L,H O]),(17,.c 29 [.aF,.aF,.aF]),(23,.slice 82 2 (bc bJ b.1.bf) (bc bJ b.1.bf).length true),(24,.slice 139 5 (bc aW b.1.Links) (bc aW b.1.Links).length true),(26,.c 41 [.own 23,.own 24]),(20,.c 29 [an aW M,an bF N,an b2 P])]) ?_ ?_
  .refine aX<|aV [(1,.al 113)] [58] [(13,.ptr 113 0)] [] [(113,.c 29 [an aW i,an bF g,an b2 j])] ?_
   obtain⟨aG,bi,a⟩:=cV a;refine cW aG r (λ(R,A,B,F,G,I)=>[(0,.ptr 1 0),(4,.ptr 17 0),(6,.ptr 26 0),(7,.ptr 20 0),(8,H c.2),(12,H d),(13,.ptr 113 0),(14,H R)]) (λ(R,A,B,F,G,I)=>[(1,.c 74 [an aJ A,H B]),(17,.c 29 [.aF,.aF,.aF]),(23,.slice 82 2 (bc bJ b.1.bf) (bc bJ b.1.bf).length true),(24,.slice 139 5 (bc aW b.1.Links) (bc aW b.1.Links).length true),(26,.c 41 [.own 23,.own 24]),(20,.c 29 [an aW i,an bF g,an b2 j]),(113,.c 29 [an aW F,an bF G,an b2 I])]) ?_ ?_
   .obtain⟨e,aL,a⟩:=az a;refine aV [(1,b3 [] (jh aL) jg)] [] [(63,H e.1)] [1] [(1,.cells 74 (cw e.2))]<|aX<|ak [] [] [(71,.d (e.1=0))] ?_
    rcases aC a with⟨W,a⟩|⟨W,a⟩
    .refine aI W ?_;obtain⟨cj,bj,ci,bo,y,bs,a⟩:=mT a;obtain⟨cp,bt,k,bv,a⟩:=er a;exact b0 [(2,aB (EA bj) Dv),(5,aB (EA bo) Dv),(6,b3 [] (aFJ (r':=.agg (nP y.1)) (σ3:=[(1,.cells 74 (cw y.2))]) [324,325] (Ux bs) (by kernel_rfl) (by kernel_rfl)) abQ),(7,aB (U5 bt) abP),(9,aB (J2 bv) Jy)] [63,71] [(14,H k.2)] [1,113] [(1,.cells 74 (cw y.2)),(113,.cells 29 (c6 k.1))]<|aT (k.2,y.2.L,y.2.At,k.1.Links,k.1.aM,k.1.bg) a
    refine aH W<|ak [] [71] [(86,.d (e.1=1))] ?_
    rcases aC a with⟨T,a⟩|⟨T,a⟩
    .refine aI T ?_;obtain⟨l,bw,a⟩:=az a;exact b0 [(3,aB (J2 bw) Jy)] [63,86] [(14,H l.2)] [113] [(113,.cells 29 (c6 l.1))]<|aT (l.2,e.2.L,e.2.At,l.1.Links,l.1.aM,l.1.bg) a
    refine aH T<|ak [] [86] [(95,.d (e.1=2))] ?_
    rcases aC a with⟨aa,a⟩|⟨aa,a⟩
    .refine aI aa ?_;obtain⟨am,bx,n,bz,a⟩:=er a;exact b0 [(3,b3 [] (JU bx) Jz),(4,aB (UB bz) abR)] [63,95] [(14,H n.2)] [1,113] [(1,.cells 74 (cw am.2)),(113,.cells 29 (c6 n.1))]<|aT (n.2,am.2.L,am.2.At,n.1.Links,n.1.aM,n.1.bg) a
    refine aH aa<|ak [] [95] [(105,.d (e.1=3))] ?_
    rcases aC a with⟨Z,a⟩|⟨Z,a⟩
    .refine aI Z ?_;obtain⟨ao,bB,o,b4,a⟩:=er a;exact b0 [(3,b3 [] (JU bB) Jz),(4,aB (U9 b4) abS)] [63,105] [(14,H o.2)] [1,113] [(1,.cells 74 (cw ao.2)),(113,.cells 29 (c6 o.1))]<|aT (o.2,ao.2.L,ao.2.At,o.1.Links,o.1.aM,o.1.bg) a
    refine aH Z<|ak [] [63,105] [(115,.d (e.1=4))] ?_
    rcases aC a with⟨X,a⟩|⟨X,a⟩
    .refine aI X ?_;obtain⟨ar,b6,p,b9,a⟩:=er a;exact b0 [(2,b3 [] (jh b6) jg),(3,aB (Va b9) abT)] [115] [(14,H p.2)] [1,113] [(1,.cells 74 (cw ar.2)),(113,.cells 29 (c6 p.1))]<|aT (p.2,ar.2.L,ar.2.At,p.1.Links,p.1.aM,p.1.bg) a
    refine aH X ?_;obtain⟨aw,ca,s,bD,a⟩:=er a;exact b0 [(2,b3 [] (jh ca) jg),(3,aB (UC bD) abU)] [115] [(14,H s.2)] [1,113] [(1,.cells 74 (cw aw.2)),(113,.cells 29 (c6 s.1))]<|aT (s.2,aw.2.L,aw.2.At,s.1.Links,s.1.aM,s.1.bg) a
   rintro⟨R,A,B,F,G,I⟩ a;rw[bi]at a;refine ak [] [14] [(125,.d (R=0))] ?_;rcases aC a with⟨ab,a⟩|⟨ab,a⟩
   .exact aI ab<|b0 [] [13,125] [] [20,113] [(20,.c 29 [an aW F,an bF G,an b2 I])]<|aT (A,B,F,G,I) a
   exact aH ab<|aK<|aT (A,B,i,g,j) a
  rintro⟨L,O,M,N,P⟩ a;rw[a9]at a;exact a7 [] [12] [(12,H (a2 (d-1)))]<|aT (a2 (d-1),M,N,P,L,O) a
 refine aH V<|bQ<|aq ?_
 obtain⟨bW,bG,a⟩:=az a;refine aV [(2,Y (bk bF g)),(3,aB (UZ bG) abV)] [0,6,12,58] [(15,H bW)] [23,24,26] []<|aX ?_
 obtain⟨cJ,cN,bT,a⟩:=jL a;refine aFn a (λ(m,C,D,E)=>[(4,.ptr 17 0),(7,.ptr 20 0),(8,H c.2),(15,H m)]) (λ(m,C,D,E)=>[(1,.c 74 [an aJ x,H z]),(17,.c 29 [.aF,.aF,.aF]),(20,.c 29 [an aW C,an bF D,an b2 E])]) ?_ ?_
 .exact c8
 rintro cv ⟨m,C,D,E⟩ a;rw[bT]at a;refine aq<|ak [] [] [(132,.d (0<m))] ?_
 rcases aC a with⟨ae,a⟩|⟨ae,a⟩
 .refine aI ae<|aK<|aq<|aX ?_
  obtain⟨Q,cb,a⟩:=az a;exact b0 [(1,aB (JX cb) JA)] [132] [] [20] [(20,.cells 29 (c6 Q.1))]<|a7 [] [15] [(15,H (a2 (m-1)))]<|aT (a2 (m-1),Q.1.Links,Q.1.aM,Q.1.bg) a
 refine aH ae<|bQ ?_
 rcases aC a with⟨ag,a⟩|⟨ag,a⟩
 .obtain⟨bZ,bH,a⟩:=az a;exact aV [(3,Y (ax ag)),(5,aB (Uz bH) abW)] [7,8,15,132] [(5,.bool bZ)] [17,20] [(17,.c 29 [an aW C,an bF D,an b2 E])]<|aN
 exact aV [(3,Y (ax ag))] [7,8,15,132] [(5,.bool false)] [17,20] [(17,.c 29 [an aW C,an bF D,an b2 E])]<|aN
def VJ{f k m r}(a:BE f k m=some r):bb au prog 7 [] [.agg (c6 f),H k,H m] (.bO [.agg (bz r.1),.agg (fh r.2.1),an eA r.2.2.1,.bool r.2.2.2]):=by
 refine a5 func7 rfl rfl ?_;unfold BE at a;refine aj [(0,.al 69),(1,.al 55),(2,.al 56)] [(1,H k),(2,H m),(3,.ptr 69 0),(6,.ptr 55 0),(7,.ptr 56 0)] [(69,.cells 29 (c6 f)),(55,.c 41 [.aF,.aF]),(56,.c 44 [H 0,H 0,.aF])] ?_;obtain⟨p,ae,a⟩:=az a;refine aV [(1,aB (EA ae) Dv),(2,.al 72)] [] [(10,.ptr 72 0)] [] [(72,.cells 41 (bz p))]<|ak [] [] [(11,.aF)]<|aV [(0,.al 85)] [] [(12,.ptr 85 0)] [] [(85,.c 41 [.aF,.aF])]<|aV [(0,.al 95)] [] [(13,.ptr 95 0)] [] [(95,.c 44 [H 0,H 0,.aF])]<|aq<|ak [] [] [(14,H 0)]<|aX<|aFm 3 1 rfl rfl rfl λQ=>?_
 obtain⟨ao,ar,T,U,a⟩:=cG a;refine cO a (λb(j,c,h,e,i,d)=>[(1,H k),(2,H m),(3,.ptr 69 0),(6,.ptr 55 0),(7,.ptr 56 0),(10,.ptr 72 0),(11,.own 103),(12,.ptr 85 0),(13,.ptr 95 0),(14,H b)]) (λb(j,c,h,e,i,d)=>[(69,.cells 29 (c6 f)),(55,.c 41 [.aF,.aF]),(56,.c 44 [H 0,H 0,.aF]),(72,.cells 41 (bz p)),(85,.c 41 [an bJ c,an aW h]),(95,.c 44 [H e,H i,an eM d]),(103,.s 101 eA j)]) ?_ ?_ ?_
 .exact cr [.ad 11 103 101 4,.sc 85 [69,55,56,72,85,95,103],.sc 95 [69,55,56,72,85,95,103]] []
 .rintro b I ag ⟨j,c,h,e,i,d⟩ S E a;rw[T]at a;refine aq<|ak [(3,Y (bk bF f.aM))] [] [(27,.d ((b:Int)<f.aM.length))] ?_
  refine aI (cL E)<|aK ?_
  obtain⟨W,V,a⟩:=cV a;refine cW W r (λ(s,t,u,v,w,z)=>[(1,H k),(2,H m),(3,.ptr 69 0),(6,.ptr 55 0),(7,.ptr 56 0),(10,.ptr 72 0),(11,.own 103),(12,.ptr 85 0),(13,.ptr 95 0),(14,H b)]) (λ(s,t,u,v,w,z)=>[(69,.cells 29 (c6 f)),(55,.c 41 [.aF,.aF]),(56,.c 44 [H 0,H 0,.aF]),(72,.cells 41 (bz p)),(85,.c 41 [an bJ t,an aW u]),(95,.c 44 [H v,H w,an eM z]),(103,.s 101 eA s)]) ?_ ?_
  .refine aX<|aV [(3,be (ix bF (bU E))),(5,.al 239)] [27] [(15,.ptr 239 0)] [] [(239,.cells 37 (kQ I))] ?_
   refine aq ?_;obtain⟨L,M,a⟩:=az a;refine ak [(4,aB (Uw M) abY)] [] [(40,.bool (!L))] ?_;rcases aC a with⟨D,a⟩|⟨D,a⟩
   .exact aI D<|bQ<|aT (j,c,h,e,i,d) a
   refine aH D<|aK ?_
   obtain⟨o,N,a⟩:=az a;refine aV [(4,aB (Jc N) Ii),(5,.al 272)] [40] [(16,.ptr 272 0)] [] [(272,.cells 41 (bz o))] ?_;obtain⟨am,X,g,Z,a⟩:=er a;refine aV [(4,aB (J1 X) JC),(6,aB (Ka Z) JB),(10,.al 299)] [] [(17,.ptr 299 0),(18,H g.2)] [] [(299,.cells 44 (fh g.1))] ?_;obtain⟨l,P,a⟩:=az a;refine aV [(4,aB (Kj P) JD),(8,.al 273)] [] [(19,.ptr 273 0),(20,H l.2)] [] [(273,.cells 101 (eT l.1))]<|aq<|aFe [(1,H k),(2,H m),(3,.ptr 69 0),(6,.ptr 55 0),(7,.ptr 56 0),(10,.ptr 72 0),(11,.own 103),(12,.ptr 85 0),(13,.ptr 95 0),(14,H b),(15,.ptr 239 0),(16,.ptr 272 0),(17,.ptr 299 0),(19,.ptr 273 0),(69,.bool ((!decide (g.2=0))||(!decide (l.2=0))))] [(69,.cells 29 (c6 f)),(55,.c 41 [.aF,.aF]),(56,.c 44 [H 0,H 0,.aF]),(72,.cells 41 (bz p)),(85,.c 41 [an bJ c,an aW h]),(95,.c 44 [H e,H i,an eM d]),(103,.s 101 eA j),(239,.cells 37 (kQ I)),(272,.cells 41 (bz o)),(299,.cells 44 (fh g.1)),(273,.cells 101 (eT l.1))] (λK=>?_) ?_
   .rcases eU (!decide (g.2=0))with n|n
    .exact aj [(2,Y (ax n)),(5,Y (hj (q:=!decide (l.2=0)) n))] _ _ K
    exact aj [(2,Y (ax n)),(5,Y (eW (q:=!decide (l.2=0)) n))] _ _ K
   rcases aC a with⟨F,a⟩|⟨F,a⟩
   .exact aI F<|aj [] [(6,.ptr 55 0),(7,.ptr 56 0),(8,.aF),(9,.bool false)] [(55,.c 41 [an bJ c,an aW h]),(56,.c 44 [H e,H i,an eM d])]<|aN
   refine aH F<|aK ?_
   obtain⟨O,aa,a⟩:=cV a;refine cW O r (λ(x,y,A,B,C)=>[(1,H k),(2,H m),(3,.ptr 69 0),(6,.ptr 55 0),(7,.ptr 56 0),(10,.ptr 72 0),(11,.own 103),(12,.ptr 85 0),(13,.ptr 95 0),(14,H b),(19,.ptr 273 0)]) (λ(x,y,A,B,C)=>[(69,.cells 29 (c6 f)),(55,.c 41 [.aF,.aF]),(56,.c 44 [H 0,H 0,.aF]),(72,.cells 41 (bz p)),(85,.c 41 [an bJ x,an aW y]),(95,.c 44 [H A,H B,an eM C]),(103,.s 101 eA j),(273,.cells 101 (eT l.1))]) ?_ ?_
   .refine aV [] [15,69] [(75,.d (I.ai=k))] [239] [] ?_;rcases aC a with⟨G,a⟩|⟨G,a⟩
    .exact aI G<|b0 [] [16,17,75] [] [85,95,272,299] [(85,.cells 41 (bz o)),(95,.cells 44 (fh g.1))]<|aT (o.bf,o.Links,g.1.bA,g.1.Length,g.1.ck) a
    exact aH G<|aK<|aT (c,h,e,i,d) a
   rintro⟨x,y,A,B,C⟩ a;rw[aa]at a;obtain⟨J,ab,a⟩:=az a;exact b0 [(3,dS 486 (ap eA (bytes:=48) (by decide) ab))] [11,19] [(11,.own 486)] [103,273] [(486,.s 101 eA J)]<|Exists.intro (J,x,y,A,B,C) (And.intro a (cr [.b8 486 103] []))
  rintro⟨s,t,u,v,w,z⟩ a;rw[V]at a;exact a7 [(1,Y (cI E Q))] [14] [(14,H ((b+1:Nat):Int))]<|aT (s,t,u,v,w,z) a
 rintro b ⟨j,c,h,e,i,d⟩ S R a;rw[U]at a;refine aq<|ak [(3,Y (bk bF f.aM))] [] [(27,.d ((b:Int)<f.aM.length))] ?_
 refine aH (cK R)<|bQ<|aj [] [(6,.ptr 55 0),(7,.ptr 56 0),(8,.own 103),(9,.bool true)] [(55,.c 41 [an bJ c,an aW h]),(56,.c 44 [H e,H i,an eM d]),(103,.s 101 eA j)]<|c2 ?_
 obtain rfl:=cy a;exact c0 [.bL [103]]
end
end Go.Proofs.YtemmkpdjmgafoaaGreatDoor
