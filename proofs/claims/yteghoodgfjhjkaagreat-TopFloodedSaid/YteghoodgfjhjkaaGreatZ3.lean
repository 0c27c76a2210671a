/- A part of the proof; the last text says of what. No condition but those that stand in each. -/
import Derived.Test.YteghoodgfjhjkaaGreatZ2
import Derived.Test.YteghoodgfjhjkaaGreatZ1
import Derived.Lib.BytesEntry
import Derived.Laws.Externs
namespace Go.Proofs.YteghoodgfjhjkaaGreat
section
open Go Go.Proofs.Tryz
set_option maxRecDepth 100000
set_option linter.all false
variable {r:Bool}
def nR{n:Int}(e:pq n=some r):bB prog 116 [] [u n] (.bool r):=by
 refine bq func116 rfl rfl ?_;unfold pq at e;refine ak [] [(0,u n)] []<|atA [(2,.bool ((decide (n=8))||((decide (n=16))||((decide (n=32))||(decide (n=64))))))] [] (λd=>?_) ?_
 .rcases eY (decide (n=8))with a|a
  .exact ak [(2,Z (ax a)),(14,Z (g0 (q:=((decide (n=16))||((decide (n=32))||(decide (n=64))))) a))] _ _ d
  rcases eY (decide (n=16))with b|b
  .exact ak [(2,Z (ax a)),(6,Z (ax b)),(14,Z ((g0 (q:=((decide (n=32))||(decide (n=64)))) b).trans (eS (q:=((decide (n=16))||((decide (n=32))||(decide (n=64))))) a)))] _ _ d
  rcases eY (decide (n=32))with c|c
  .exact ak [(2,Z (ax a)),(6,Z (ax b)),(10,Z (ax c)),(14,Z (((g0 (q:=decide (n=64)) c).trans (eS (q:=((decide (n=32))||(decide (n=64)))) b)).trans (eS (q:=((decide (n=16))||((decide (n=32))||(decide (n=64))))) a)))] _ _ d
  exact ak [(2,Z (ax a)),(6,Z (ax b)),(10,Z (ax c)),(14,Z (((eS (q:=decide (n=64)) c).trans (eS (q:=((decide (n=32))||(decide (n=64)))) b)).trans (eS (q:=((decide (n=16))||((decide (n=32))||(decide (n=64))))) a)))] _ _ d
 cases e;exact A.ret aX
def fS{n:Int}{c:Int}{a:Int}(e:l1 n c a=some r):bB prog 139 [] [u n,u c,u a] (.bool r):=by
 refine bq func139 rfl rfl ?_;unfold l1 at e;refine ak [] [(0,u n),(1,u c),(2,u a)] []<|atA [(6,.bool ((decide (c<=n))&&(decide (n<=a))))] [] (λd=>?_) ?_
 .rcases eY (decide (c<=n))with b|b
  .exact ak [(3,Z (ax b)),(8,Z (jy (q:=decide (n<=a)) b))] _ _ d
  exact ak [(3,Z (ax b)),(8,Z (jY (q:=decide (n<=a)) b))] _ _ d
 cases e;exact A.ret aX
variable {a:aO}
def q9(b:m1 a=some r):bB prog 73 [] [.agg (dB a)] (.bool r):=by
 refine bq func73 rfl rfl ?_;unfold m1 at b;refine ak [(0,.al 31)] [(1,.ptr 31 0)] [(31,.cells 109 (dB a))]<|A.seq ?_
 obtain⟨R,S,b⟩:=cW b;refine A.J (J:=R) (r:=r) (λw=>[(1,.ptr 31 0),(28,.bool w)]) (λw=>[(31,.cells 109 (dB a))]) ?_ ?_
 .obtain⟨aU,t,b⟩:=ah b;rcases aC b with⟨i,b⟩|⟨i,b⟩
  .exact bu [(2,aH (fS t) fU),(4,Z (ax i))] [] [(28,.bool true)]<|aV true b
  obtain⟨aW,z,b⟩:=ah b;rcases aC b with⟨o,b⟩|⟨o,b⟩
  .exact bu [(2,aH (fS t) fU),(4,Z (ax i)),(7,aH (fS z) fU),(10,Z (ax o))] [] [(28,.bool true)]<|aV true b
  rcases aC b with⟨y,b⟩|⟨y,b⟩
  .exact bu [(2,aH (fS t) fU),(4,Z (ax i)),(7,aH (fS z) fU),(10,Z (ax o)),(13,Z (bl dg a.Links)),(16,Z (ax y))] [] [(28,.bool true)]<|aV true b
  exact bu [(2,aH (fS t) fU),(4,Z (ax i)),(7,aH (fS z) fU),(10,Z (ax o)),(13,Z (bl dg a.Links)),(16,Z (ax y)),(19,Z (bl c8 a.Claims))] [] [(28,.d (8<(a.Claims.length:Int)))]<|aV (decide (8<(a.Claims.length:Int))) b
 rintro w b;rw[S]at b;rcases aC b with⟨D,b⟩|⟨D,b⟩
 .refine aJ D<|ak [] [(2,.bool false)] [] ?_
  cases b;exact A.ret aX
 refine aI D<|A.skip<|A.seq<|ai [(2,Z (bl dg a.Links))] [28] [(30,aj dg a.Links),(31,u a.Links.length),(32,u 0)]<|A.block<|atz 30 rfl λU=>?_
 obtain⟨Y,ab,ae,af,b⟩:=cO b;refine atx (l:=a.Links) (cD:=0) (B:=Y) (K:=ab) b (λd=>λ()=>[(1,.ptr 31 0),(30,aj dg a.Links),(31,u a.Links.length),(32,u d)]) (λd=>λ()=>[(31,.cells 109 (dB a))]) ?_ ?_ ?_
 .exact c5
 .rintro d N aQ ⟨⟩ X x b;rw[ae]at b;refine ai [] [] [(33,.d ((d:Int)<a.Links.length))]<|A.seq<|aJ (cT x)<|A.skip<|A.seq<|A.block<|aT [(1,bh (ix dg (b3 x))),(3,.al 452)] [33] [(4,.ptr 452 0),(3,u d)] [] [(452,.cells 152 (jo N))] ?_
  obtain⟨W,an,b⟩:=cW b;refine A.J (J:=W) (r:=r) (λE=>[(1,.ptr 31 0),(30,aj dg a.Links),(31,u a.Links.length),(32,u d),(75,.bool E)]) (λE=>[(31,.cells 109 (dB a))]) ?_ ?_
  .obtain⟨aG,f,b⟩:=ah b;rcases aC b with⟨e,b⟩|⟨e,b⟩
   .exact bX [(2,aH (fS f) fU),(4,Z (ax e))] [4,3] [(75,.bool true)] [452] []<|aV true b
   rcases aC b with⟨g,b⟩|⟨g,b⟩
   .exact bX [(2,aH (fS f) fU),(4,Z (ax e)),(11,Z (ax g))] [4,3] [(75,.bool true)] [452] []<|aV true b
   obtain⟨aM,n,b⟩:=ah b;rcases aC b with⟨k,b⟩|⟨k,b⟩
   .exact bX [(2,aH (fS f) fU),(4,Z (ax e)),(11,Z (ax g)),(14,aH (fS n) fU),(17,Z (ax k))] [4,3] [(75,.bool true)] [452] []<|aV true b
   obtain⟨a1,v,b⟩:=ah b;rcases aC b with⟨p,b⟩|⟨p,b⟩
   .exact bX [(2,aH (fS f) fU),(4,Z (ax e)),(11,Z (ax g)),(14,aH (fS n) fU),(17,Z (ax k)),(20,aH (fS v) fU),(23,Z (ax p))] [4,3] [(75,.bool true)] [452] []<|aV true b
   rcases aC b with⟨G,b⟩|⟨G,b⟩
   .obtain⟨P,T,b⟩:=ah b;exact bX [(2,aH (fS f) fU),(4,Z (ax e)),(11,Z (ax g)),(14,aH (fS n) fU),(17,Z (ax k)),(20,aH (fS v) fU),(23,Z (ax p)),(26,Z (ax G)),(31,bh (ix dg T))] [4,3] [(75,.d (N.dy<=P.dy))] [452] []<|aV (decide (N.dy<=P.dy)) b
   exact bX [(2,aH (fS f) fU),(4,Z (ax e)),(11,Z (ax g)),(14,aH (fS n) fU),(17,Z (ax k)),(20,aH (fS v) fU),(23,Z (ax p)),(26,Z (ax G))] [4,3] [(75,.bool false)] [452] []<|aV false b
  rintro E b;rw[an]at b;rcases aC b with⟨F,b⟩|⟨F,b⟩
  .refine aJ F<|ak [] [(2,.bool false)] [] ?_
   cases b;exact A.ret aX
  exact aI F<|A.skip<|bu [(0,Z (cQ x U))] [32,75] [(32,u ((d+1:Nat):Int))]<|aV () b
 rintro d ⟨⟩ X V b;rw[af]at b;refine ai [] [] [(33,.d ((d:Int)<a.Links.length))]<|A.seq<|aI (cS V)<|A.exit<|A.seq<|ai [(2,Z (bl c8 a.Claims))] [30,31,32,33] [(78,aj c8 a.Claims),(79,u a.Claims.length),(80,u 0)]<|A.block<|atz 78 rfl λaq=>?_
 obtain⟨au,aD,av,aw,b⟩:=cO b;refine atx (l:=a.Claims) (cD:=0) (B:=au) (K:=aD) b (λc=>λ()=>[(1,.ptr 31 0),(78,aj c8 a.Claims),(79,u a.Claims.length),(80,u c)]) (λc=>λ()=>[(31,.cells 109 (dB a))]) ?_ ?_ ?_
 .exact c5
 .rintro c O a5 ⟨⟩ ao C b;rw[av]at b;refine ai [] [] [(81,.d ((c:Int)<a.Claims.length))]<|A.seq<|aJ (cT C)<|A.skip<|A.seq<|A.block<|aT [(1,bh (ix c8 (b3 C))),(3,.al 453)] [81] [(6,.ptr 453 0),(5,u c)] [] [(453,.cells 103 (pF O))] ?_
  obtain⟨ar,aF,b⟩:=cW b;refine A.J (J:=ar) (r:=r) (λI=>[(1,.ptr 31 0),(78,aj c8 a.Claims),(79,u a.Claims.length),(80,u c),(116,.bool I)]) (λI=>[(31,.cells 109 (dB a))]) ?_ ?_
  .obtain⟨a0,j,b⟩:=ah b;rcases aC b with⟨h,b⟩|⟨h,b⟩
   .exact bX [(2,aH (fS j) fU),(4,Z (ax h))] [6,5] [(116,.bool true)] [453] []<|aV true b
   obtain⟨a4,q,b⟩:=ah b;rcases aC b with⟨m,b⟩|⟨m,b⟩
   .exact bX [(2,aH (fS j) fU),(4,Z (ax h)),(7,aH (fS q) fU),(10,Z (ax m))] [6,5] [(116,.bool true)] [453] []<|aV true b
   obtain⟨a3,H,b⟩:=ah b;rcases aC b with⟨s,b⟩|⟨s,b⟩
   .exact bX [(2,aH (fS j) fU),(4,Z (ax h)),(7,aH (fS q) fU),(10,Z (ax m)),(13,aH (nR H) oB),(16,Z (ax s))] [6,5] [(116,.bool true)] [453] []<|aV true b
   rcases aC b with⟨M,b⟩|⟨M,b⟩
   .obtain⟨Q,aE,b⟩:=ah b;exact bX [(2,aH (fS j) fU),(4,Z (ax h)),(7,aH (fS q) fU),(10,Z (ax m)),(13,aH (nR H) oB),(16,Z (ax s)),(19,Z (ax M)),(24,bh (ix c8 aE))] [6,5] [(116,.d (O.cg<=Q.cg))] [453] []<|aV (decide (O.cg<=Q.cg)) b
   exact bX [(2,aH (fS j) fU),(4,Z (ax h)),(7,aH (fS q) fU),(10,Z (ax m)),(13,aH (nR H) oB),(16,Z (ax s)),(19,Z (ax M))] [6,5] [(116,.bool false)] [453] []<|aV false b
  rintro I b;rw[aF]at b;rcases aC b with⟨L,b⟩|⟨L,b⟩
  .refine aJ L<|ak [] [(2,.bool false)] [] ?_
   cases b;exact A.ret aX
  exact aI L<|A.skip<|bu [(0,Z (cQ C aq))] [80,116] [(80,u ((c+1:Nat):Int))]<|aV () b
 rintro c ⟨⟩ ao am b;rw[aw]at b;refine ai [] [] [(81,.d ((c:Int)<a.Claims.length))]<|A.seq<|aI (cS am)<|A.exit<|ak [] [(2,.bool true)] [] ?_
 cases b;exact A.ret aX
variable {j0:Nat}{lG:List H}
def R4{s1:List fF}{c:List fF}{i:fF->fF->dK}(sX:be prog j0)(sY:∀(g:fF) (h:fF) (q:Bool),i g h=some q->bB prog j0 [] ([.agg (nZ g),.agg (nZ h)]++lG) (.bool q))(a:w6 s1 c i=some r):bB prog 49 [] [aj fD s1,aj fD c,.cL j0 lG] (.bool r):=by
 refine bq func49 rfl rfl ?_;unfold w6 at a;refine ak [] [(0,aj fD s1),(1,aj fD c),(2,.cL j0 lG)] []<|A.seq<|ai [(1,Z (bl fD s1)),(3,Z (bl fD c))] [] [(14,.bool (!decide ((s1.length:Int)=(c.length:Int))))] ?_
 rcases aC a with⟨e,a⟩|⟨e,a⟩
 .refine aJ e<|ak [] [(6,.bool false)] [] ?_
  cases a;exact A.ret aX
 refine aI e<|A.skip<|A.seq<|ai [(1,Z (bl fD s1))] [0,14] [(15,aj fD s1),(16,u s1.length),(17,u 0)]<|A.block<|atz 15 rfl λn=>?_
 obtain⟨s,t,v,w,a⟩:=cO a;refine atx (l:=s1) (cD:=0) (B:=s) (K:=t) a (λb=>λ()=>[(1,aj fD c),(2,.cL j0 lG),(15,aj fD s1),(16,u s1.length),(17,u b)]) (λb=>λ()=>[]) ?_ ?_ ?_
 .exact c5
 .rintro b x z ⟨⟩ p d a;rw[v]at a;refine ai [] [] [(18,.d ((b:Int)<s1.length))]<|A.seq<|aJ (cT d)<|A.skip<|A.seq<|A.block<|aT [(1,bh (ix fD (b3 d))),(3,.al 324)] [18] [(8,.ptr 324 0),(7,u b)] [] [(324,.cells 97 (nZ x))] ?_
  obtain⟨j,y,a⟩:=ah a;refine aT [(2,bh (ix fD y)),(4,.al 438)] [7] [(9,.ptr 438 0)] [] [(438,.cells 97 (nZ j))] ?_;obtain⟨m,k,a⟩:=ah a;refine aT [(3,iJ (sY _ _ _ k) sX)] [8,9] [(30,.bool (!m))] [324,438] [] ?_;rcases aC a with⟨f,a⟩|⟨f,a⟩
  .refine aJ f<|ak [] [(6,.bool false)] [] ?_
   cases a;exact A.ret aX
  exact aI f<|A.skip<|bu [(0,Z (cQ d n))] [17,30] [(17,u ((b+1:Nat):Int))]<|aV () a
 rintro b ⟨⟩ p o a;rw[w]at a;refine ai [] [] [(18,.d ((b:Int)<s1.length))]<|A.seq<|aI (cS o)<|A.exit<|ak [] [(6,.bool true)] [] ?_
 cases a;exact A.ret aX
def HC{a:uQ}{b:uQ}(c:tF a b=some r):bB prog 131 [] [aj dg a,aj dg b] (.bool r):=by
 refine bq func131 rfl rfl ?_;unfold tF at c;refine ak [] [(0,aj dg a),(1,aj dg b)] []<|A.seq<|ai [(1,Z (bl dg a)),(3,Z (bl dg b))] [] [(11,.bool (!decide ((a.length:Int)=(b.length:Int))))] ?_
 rcases aC c with⟨h,c⟩|⟨h,c⟩
 .refine aJ h<|ak [] [(4,.bool false)] [] ?_
  cases c;exact A.ret aX
 refine aI h<|A.skip<|A.seq<|ai [(1,Z (bl dg a))] [0,11] [(12,aj dg a),(13,u a.length),(14,u 0)]<|A.block<|atz 12 rfl λj=>?_
 obtain⟨n,o,p,q,c⟩:=cO c;refine atx (l:=a) (cD:=0) (B:=n) (K:=o) c (λd=>λ()=>[(1,aj dg b),(12,aj dg a),(13,u a.length),(14,u d)]) (λd=>λ()=>[]) ?_ ?_ ?_
 .exact c5
 .rintro d e x ⟨⟩ m f c;rw[p]at c;refine ai [] [] [(15,.d ((d:Int)<a.length))]<|A.seq<|aJ (cT f)<|A.skip<|A.seq<|A.block<|aT [(1,bh (ix dg (b3 f))),(3,.al 408)] [15] [(6,.ptr 408 0),(5,u d)] [] [(408,.cells 152 (jo e))] ?_
  obtain⟨g,s,c⟩:=ah c;refine aT [(3,bh (ix dg s)),(5,.uO true 152 (.agg (jo e)) (.agg (jo g)) (!(oc e g)) (λv w t=>KN v w _ _ _ _ _ _ t))] [6,5] [(24,.bool (!(oc e g)))] [408] [] ?_;rcases aC c with⟨i,c⟩|⟨i,c⟩
  .refine aJ i<|ak [] [(4,.bool false)] [] ?_
   cases c;exact A.ret aX
  exact aI i<|A.skip<|bu [(0,Z (cQ f j))] [14,24] [(14,u ((d+1:Nat):Int))]<|aV () c
 rintro d ⟨⟩ m k c;rw[q]at c;refine ai [] [] [(15,.d ((d:Int)<a.length))]<|A.seq<|aI (cS k)<|A.exit<|ak [] [(4,.bool true)] [] ?_
 cases c;exact A.ret aX
def SQ{a:sL}{b:sL}(c:tG a b=some r):bB prog 132 [] [aj c8 a,aj c8 b] (.bool r):=by
 refine bq func132 rfl rfl ?_;unfold tG at c;refine ak [] [(0,aj c8 a),(1,aj c8 b)] []<|A.seq<|ai [(1,Z (bl c8 a)),(3,Z (bl c8 b))] [] [(11,.bool (!decide ((a.length:Int)=(b.length:Int))))] ?_
 rcases aC c with⟨h,c⟩|⟨h,c⟩
 .refine aJ h<|ak [] [(4,.bool false)] [] ?_
  cases c;exact A.ret aX
 refine aI h<|A.skip<|A.seq<|ai [(1,Z (bl c8 a))] [0,11] [(12,aj c8 a),(13,u a.length),(14,u 0)]<|A.block<|atz 12 rfl λj=>?_
 obtain⟨n,o,p,q,c⟩:=cO c;refine atx (l:=a) (cD:=0) (B:=n) (K:=o) c (λd=>λ()=>[(1,aj c8 b),(12,aj c8 a),(13,u a.length),(14,u d)]) (λd=>λ()=>[]) ?_ ?_ ?_
 .exact c5
 .rintro d e x ⟨⟩ m f c;rw[p]at c;refine ai [] [] [(15,.d ((d:Int)<a.length))]<|A.seq<|aJ (cT f)<|A.skip<|A.seq<|A.block<|aT [(1,bh (ix c8 (b3 f))),(3,.al 409)] [15] [(6,.ptr 409 0),(5,u d)] [] [(409,.cells 103 (pF e))] ?_
  obtain⟨g,s,c⟩:=ah c;refine aT [(3,bh (ix c8 s)),(5,.uO true 103 (.agg (pF e)) (.agg (pF g)) (!(od e g)) (λv w t=>KM v w _ _ _ _ _ _ t))] [6,5] [(24,.bool (!(od e g)))] [409] [] ?_;rcases aC c with⟨i,c⟩|⟨i,c⟩
  .refine aJ i<|ak [] [(4,.bool false)] [] ?_
   cases c;exact A.ret aX
  exact aI i<|A.skip<|bu [(0,Z (cQ f j))] [14,24] [(14,u ((d+1:Nat):Int))]<|aV () c
 rintro d ⟨⟩ m k c;rw[q]at c;refine ai [] [] [(15,.d ((d:Int)<a.length))]<|A.seq<|aI (cS k)<|A.exit<|ak [] [(4,.bool true)] [] ?_
 cases c;exact A.ret aX
def R1{s1:pR}{c:pR}{i:aO->aO->dK}(sX:be prog j0)(sY:∀(g:aO) (h:aO) (q:Bool),i g h=some q->bB prog j0 [] ([.agg (dB g),.agg (dB h)]++lG) (.bool q))(a:xc s1 c i=some r):bB prog 147 [] [aj cm s1,aj cm c,.cL j0 lG] (.bool r):=by
 refine bq func147 rfl rfl ?_;unfold xc at a;refine ak [] [(0,aj cm s1),(1,aj cm c),(2,.cL j0 lG)] []<|A.seq<|ai [(1,Z (bl cm s1)),(3,Z (bl cm c))] [] [(14,.bool (!decide ((s1.length:Int)=(c.length:Int))))] ?_
 rcases aC a with⟨e,a⟩|⟨e,a⟩
 .refine aJ e<|ak [] [(6,.bool false)] [] ?_
  cases a;exact A.ret aX
 refine aI e<|A.skip<|A.seq<|ai [(1,Z (bl cm s1))] [0,14] [(15,aj cm s1),(16,u s1.length),(17,u 0)]<|A.block<|atz 15 rfl λn=>?_
 obtain⟨s,t,v,w,a⟩:=cO a;refine atx (l:=s1) (cD:=0) (B:=s) (K:=t) a (λb=>λ()=>[(1,aj cm c),(2,.cL j0 lG),(15,aj cm s1),(16,u s1.length),(17,u b)]) (λb=>λ()=>[]) ?_ ?_ ?_
 .exact c5
 .rintro b x z ⟨⟩ p d a;rw[v]at a;refine ai [] [] [(18,.d ((b:Int)<s1.length))]<|A.seq<|aJ (cT d)<|A.skip<|A.seq<|A.block<|aT [(1,bh (ix cm (b3 d))),(3,.al 313)] [18] [(8,.ptr 313 0),(7,u b)] [] [(313,.cells 109 (dB x))] ?_
  obtain⟨j,y,a⟩:=ah a;refine aT [(2,bh (ix cm y)),(4,.al 413)] [7] [(9,.ptr 413 0)] [] [(413,.cells 109 (dB j))] ?_;obtain⟨m,k,a⟩:=ah a;refine aT [(3,iJ (sY _ _ _ k) sX)] [8,9] [(30,.bool (!m))] [313,413] [] ?_;rcases aC a with⟨f,a⟩|⟨f,a⟩
  .refine aJ f<|ak [] [(6,.bool false)] [] ?_
   cases a;exact A.ret aX
  exact aI f<|A.skip<|bu [(0,Z (cQ d n))] [17,30] [(17,u ((b+1:Nat):Int))]<|aV () a
 rintro b ⟨⟩ p o a;rw[w]at a;refine ai [] [] [(18,.d ((b:Int)<s1.length))]<|A.seq<|aI (cS o)<|A.exit<|ak [] [(6,.bool true)] [] ?_
 cases a;exact A.ret aX
def ru{b:aO}(c:n2 a b=some r):bB prog 63 [] [.agg (dB a),.agg (dB b)] (.bool r):=by
 refine bq func63 rfl rfl ?_;unfold n2 at c;refine ak [(0,.al 446),(1,.al 447)] [(2,.ptr 446 0),(3,.ptr 447 0)] [(446,.cells 109 (dB a)),(447,.cells 109 (dB b))] ?_;rcases aC c with⟨d,c⟩|⟨d,c⟩
 .rcases aC c with⟨e,c⟩|⟨e,c⟩
  .rcases aC c with⟨f,c⟩|⟨f,c⟩
   .obtain⟨k,h,c⟩:=ah c;rcases aC c with⟨g,c⟩|⟨g,c⟩
    .obtain⟨j,i,c⟩:=ah c;refine ak [(5,Z (ax d)),(12,Z (ax e)),(19,Z (ax f)),(24,aH (HC h) Gm),(26,Z (ax g)),(31,aH (SQ i) PC)] [(4,.bool j)] [] ?_;cases c;exact A.ret aX
    refine ak [(5,Z (ax d)),(12,Z (ax e)),(19,Z (ax f)),(24,aH (HC h) Gm),(26,Z (ax g))] [(4,.bool false)] [] ?_;cases c;exact A.ret aX
   refine ak [(5,Z (ax d)),(12,Z (ax e)),(19,Z (ax f))] [(4,.bool false)] [] ?_;cases c;exact A.ret aX
  refine ak [(5,Z (ax d)),(12,Z (ax e))] [(4,.bool false)] [] ?_;cases c;exact A.ret aX
 refine ak [(5,Z (ax d))] [(4,.bool false)] [] ?_;cases c;exact A.ret aX
def Sx{b:jC}(f:af aD b≠[]){r:(jC)}(c:tq b=some r):cp prog 57 [] [aj aD b] (λa e=>a=.own 12/\e=[(12,.slice 101 5 (af aD r) 0 false)]):=by
 refine bq func57 rfl rfl ?_;unfold tq at c;refine ak [] [(0,aj aD b)] []<|A.seq<|ai [(1,.ni false (aj aD b) (zT f))] [] [(4,.bool false)]<|atI rfl rfl<|A.skip ?_
 obtain⟨d,g,c⟩:=ah c;refine ak [(0,.al 57005),(2,dH 245 (ap aD (bytes:=40) (by decide) g))] [(2,.own 245)] [(245,.slice 101 5 (af aD d) 0 false)]<|A.ret ?_
 obtain rfl:=cw c;exact atv b0 [.b5 245 12] rfl (by kernel_rfl)
def Sy{r:(jC)}(b:Hz=some r):cp prog 57 [] [.fc] (λa d=>a=.own 12/\d=[(12,.slice 101 5 (af aD r) 0 false)]):=by
 refine bq func57 rfl rfl ?_;unfold Hz at b;refine ak [] [(0,.fc)] []<|A.seq<|ai [(1,.ni false .fc (zD))] [] [(4,.bool false)]<|atI rfl rfl<|A.skip ?_
 obtain⟨c,e,b⟩:=ah b;refine ak [(0,.al 57005),(2,dH 245 (ap aD (bytes:=40) (by decide) e))] [(2,.own 245)] [(245,.slice 101 5 (af aD c) 0 false)]<|A.ret ?_
 obtain rfl:=cw b;exact atv b0 [.b5 245 12] rfl (by kernel_rfl)
def SB(n c:Nat)(w:World):Calls prog 57 #[.slice none n c] w λe w'=>e=.returned (.slice none 0 0)/\w'=w:=by
 have f:∀(w:World) (a:Option Addr) (n c d b:Nat),(binOp .eql 25 (.slice a n c) (.slice none d b)).run prog w=.ok (.bool a.isNone) w:=λw a n c d b=>Lib.run_eql_slice_nil w _ _ a n c d b underlying25
 go_enter func57,Tryz.ntmps57
 go_wp2
 go_ret
 exact⟨rfl,rfl⟩
def xh{s r:jC}(d:mO s=some r):cp prog 57 [] [.bn false (af aD s)] (λa e=>a=.own 12/\e=[(12,.slice 101 5 (af aD r) 0 false)]):=by
 obtain rfl:s=r:=by
  unfold mO tq at d;obtain⟨g,c,d⟩:=ah d;have:=(Av c).symm;simp at this;subst this
  exact cw d
 refine zj SB (λc=>Sx c d) (λc=>?_) (λc=>c);have f:s=[]:=by cases s with|nil=>rfl|cons a b=>simp[af]at c
 subst f;exact Sy d
def Ss{b:sL}(f:af c8 b≠[]){r:(sL)}(c:tr b=some r):cp prog 126 [] [aj c8 b] (λa e=>a=.own 166/\e=[(166,.slice 103 3 (af c8 r) 0 false)]):=by
 refine bq func126 rfl rfl ?_;unfold tr at c;refine ak [] [(0,aj c8 b)] []<|A.seq<|ai [(1,.ni false (aj c8 b) (zT f))] [] [(4,.bool false)]<|atI rfl rfl<|A.skip ?_
 obtain⟨d,g,c⟩:=ah c;refine ak [(0,.al 126005),(2,dH 239 (ap c8 (bytes:=24) (by decide) g))] [(2,.own 239)] [(239,.slice 103 3 (af c8 d) 0 false)]<|A.ret ?_
 obtain rfl:=cw c;exact atv b0 [.b5 239 166] rfl (by kernel_rfl)
def St{r:(sL)}(b:Hw=some r):cp prog 126 [] [.fc] (λa d=>a=.own 166/\d=[(166,.slice 103 3 (af c8 r) 0 false)]):=by
 refine bq func126 rfl rfl ?_;unfold Hw at b;refine ak [] [(0,.fc)] []<|A.seq<|ai [(1,.ni false .fc (zD))] [] [(4,.bool false)]<|atI rfl rfl<|A.skip ?_
 obtain⟨c,e,b⟩:=ah b;refine ak [(0,.al 126005),(2,dH 239 (ap c8 (bytes:=24) (by decide) e))] [(2,.own 239)] [(239,.slice 103 3 (af c8 c) 0 false)]<|A.ret ?_
 obtain rfl:=cw b;exact atv b0 [.b5 239 166] rfl (by kernel_rfl)
def Sz(n c:Nat)(w:World):Calls prog 126 #[.slice none n c] w λe w'=>e=.returned (.slice none 0 0)/\w'=w:=by
 have f:∀(w:World) (a:Option Addr) (n c d b:Nat),(binOp .eql 32 (.slice a n c) (.slice none d b)).run prog w=.ok (.bool a.isNone) w:=λw a n c d b=>Lib.run_eql_slice_nil w _ _ a n c d b underlying32
 go_enter func126,Tryz.ntmps126
 go_wp2
 go_ret
 exact⟨rfl,rfl⟩
def BC{s r:sL}(d:o9 s=some r):cp prog 126 [] [.bn false (af c8 s)] (λa e=>a=.own 166/\e=[(166,.slice 103 3 (af c8 r) 0 false)]):=by
 obtain rfl:s=r:=by
  unfold o9 tr at d;obtain⟨g,c,d⟩:=ah d;have:=(Av c).symm;simp at this;subst this
  exact cw d
 refine zj Sz (λc=>Ss c d) (λc=>?_) (λc=>c);have f:s=[]:=by cases s with|nil=>rfl|cons a b=>simp[af]at c
 subst f;exact St d
def Su{b:uQ}(f:af dg b≠[]){r:(uQ)}(c:ts b=some r):cp prog 137 [] [aj dg b] (λa e=>a=.own 170/\e=[(170,.slice 152 3 (af dg r) 0 false)]):=by
 refine bq func137 rfl rfl ?_;unfold ts at c;refine ak [] [(0,aj dg b)] []<|A.seq<|ai [(1,.ni false (aj dg b) (zT f))] [] [(4,.bool false)]<|atI rfl rfl<|A.skip ?_
 obtain⟨d,g,c⟩:=ah c;refine ak [(0,.al 137005),(2,dH 240 (ap dg (bytes:=24) (by decide) g))] [(2,.own 240)] [(240,.slice 152 3 (af dg d) 0 false)]<|A.ret ?_
 obtain rfl:=cw c;exact atv b0 [.b5 240 170] rfl (by kernel_rfl)
def Sv{r:(uQ)}(b:Hy=some r):cp prog 137 [] [.fc] (λa d=>a=.own 170/\d=[(170,.slice 152 3 (af dg r) 0 false)]):=by
 refine bq func137 rfl rfl ?_;unfold Hy at b;refine ak [] [(0,.fc)] []<|A.seq<|ai [(1,.ni false .fc (zD))] [] [(4,.bool false)]<|atI rfl rfl<|A.skip ?_
 obtain⟨c,e,b⟩:=ah b;refine ak [(0,.al 137005),(2,dH 240 (ap dg (bytes:=24) (by decide) e))] [(2,.own 240)] [(240,.slice 152 3 (af dg c) 0 false)]<|A.ret ?_
 obtain rfl:=cw b;exact atv b0 [.b5 240 170] rfl (by kernel_rfl)
def SA(n c:Nat)(w:World):Calls prog 137 #[.slice none n c] w λe w'=>e=.returned (.slice none 0 0)/\w'=w:=by
 have f:∀(w:World) (a:Option Addr) (n c d b:Nat),(binOp .eql 107 (.slice a n c) (.slice none d b)).run prog w=.ok (.bool a.isNone) w:=λw a n c d b=>Lib.run_eql_slice_nil w _ _ a n c d b underlying107
 go_enter func137,Tryz.ntmps137
 go_wp2
 go_ret
 exact⟨rfl,rfl⟩
def Hv{s r:uQ}(d:qU s=some r):cp prog 137 [] [.bn false (af dg s)] (λa e=>a=.own 170/\e=[(170,.slice 152 3 (af dg r) 0 false)]):=by
 obtain rfl:s=r:=by
  unfold qU ts at d;obtain⟨g,c,d⟩:=ah d;have:=(Av c).symm;simp at this;subst this
  exact cw d
 refine zj SA (λc=>Su c d) (λc=>?_) (λc=>c);have f:s=[]:=by cases s with|nil=>rfl|cons a b=>simp[af]at c
 subst f;exact Sv d
def xM{r:aO}(b:mR a=some r):bB prog 144 [] [.agg (dB a)] (.agg (dB r)):=by
 refine bq func144 rfl rfl ?_;unfold mR at b;refine ak [(0,.al 312),(1,.al 249)] [(1,.ptr 312 0),(2,.ptr 249 0)] [(312,.cells 109 (dB a)),(249,.c 109 [u 0,u 0,.bool false,.az,.az])] ?_;obtain⟨d,f,b⟩:=ah b;obtain⟨e,c,b⟩:=ah b;refine aT [(2,bV [170] (Hv f) Gn),(5,bV [166] (BC c) A0)] [] [] [312] [(312,.c 109 [u a.Router,u a.Seq,.bool a.bw,.own 170,.own 166]),(170,.slice 152 3 (af dg d) 0 false),(166,.slice 103 3 (af c8 e) 0 false)]<|aT [] [1] [] [312,249] [(249,.c 109 [u a.Router,u a.Seq,.bool a.bw,.own 170,.own 166])]<|A.ret ?_
 obtain rfl:=cw b;exact atv b0 [.bN [170,166]] rfl (by kernel_rfl)
def S7(b:xR a=some r):bB prog 141 [] [.agg (dB a)] (.bool r):=by
 refine bq func141 rfl rfl ?_;unfold xR at b;refine ak [(0,.al 411)] [(1,.ptr 411 0)] [(411,.cells 109 (dB a))] ?_;obtain⟨c,d,b⟩:=ah b;refine ak [(1,aH (q9 d) qO)] [(2,.bool (!c))] [] ?_;cases b;exact A.ret aX
def mU{d:bF}{r:Int}(a:lR d=some r):bB prog 74 [] [.agg (eF d)] (u r):=by
 refine bq func74 rfl rfl ?_;unfold lR at a;refine ak [(0,.al 114)] [(1,.ptr 114 0)] [(114,.cells 35 (eF d))]<|A.seq<|A.block<|ai [(2,Z (bl cm d.bf))] [] [(4,.d (99<(d.bf.length:Int)))] ?_
 rcases aC a with⟨g,a⟩|⟨g,a⟩
 .refine aJ g<|ak [] [(2,u 3)] [] ?_
  cases a;exact A.ret aX
 refine aI g ?_;obtain⟨o,C,a⟩:=ah a;refine ai [(2,aH (Sd (c3:=141) (dF:=[]) (eO:=PI) (eN:=λ_ _ z=>S7 z) C) PG)] [4] [(9,.bool o)] ?_;rcases aC a with⟨h,a⟩|⟨h,a⟩
 .refine aJ h<|ak [] [(2,u 1)] [] ?_
  cases a;exact A.ret aX
 refine aI h<|A.skip<|A.seq<|ai [(2,Z (bl cm d.bf))] [9] [(15,u d.bf.length),(16,u 0)]<|A.block<|atM 1 0 rfl rfl rfl λq=>?_
 obtain⟨v,w,x,y,a⟩:=cO a;refine atx (l:=d.bf) (cD:=0) (B:=v) (K:=w) a (λb=>λ()=>[(1,.ptr 114 0),(15,u d.bf.length),(16,u b)]) (λb=>λ()=>[(114,.cells 35 (eF d))]) ?_ ?_ ?_
 .exact c5
 .rintro b k D ⟨⟩ t e a;rw[x]at a;refine ai [] [] [(17,.d ((b:Int)<d.bf.length))]<|A.seq<|aJ (cT e)<|A.skip<|A.seq<|A.block<|ai [] [17] [(3,u b)] ?_
  obtain⟨m,p,a⟩:=cW a;refine A.J (J:=m) (r:=r) (λc=>[(1,.ptr 114 0),(15,u d.bf.length),(16,u b),(36,.bool c)]) (λc=>[(114,.cells 35 (eF d))]) ?_ ?_
  .rcases aC a with⟨f,a⟩|⟨f,a⟩
   .obtain⟨j,n,a⟩:=ah a;exact bu [(2,Z (ax f)),(7,bh (ix cm n)),(13,bh (ix cm (b3 e)))] [3] [(36,.d (k.Router<=j.Router))]<|aV (decide (k.Router<=j.Router)) a
   exact bu [(2,Z (ax f))] [3] [(36,.bool false)]<|aV false a
  rintro c a;rw[p]at a;rcases aC a with⟨i,a⟩|⟨i,a⟩
  .refine aJ i<|ak [] [(2,u 25)] [] ?_
   cases a;exact A.ret aX
  exact aI i<|A.skip<|bu [(0,Z (cQ e q))] [16,36] [(16,u ((b+1:Nat):Int))]<|aV () a
 rintro b ⟨⟩ t s a;rw[y]at a;refine ai [] [] [(17,.d ((b:Int)<d.bf.length))]<|A.seq<|aI (cS s)<|A.exit<|ak [] [(2,u 0)] [] ?_
 cases a;exact A.ret aX
def IC{a:bF}{b:bF}(c:rD a b=some r):bB prog 78 [] [.agg (eF a),.agg (eF b)] (.bool r):=by
 refine bq func78 rfl rfl ?_;unfold rD at c;refine ak [(0,.al 457),(1,.al 458)] [(2,.ptr 457 0),(3,.ptr 458 0)] [(457,.cells 35 (eF a)),(458,.cells 35 (eF b))] ?_;obtain⟨d,f,c⟩:=ah c;refine ak [(4,aH (R1 (j0:=63) (lG:=[]) (sX:=qM) (sY:=λ_ _ _ e=>ru e) f) PM)] [(4,.bool d)] [] ?_;cases c;exact A.ret aX
def tY{d:bF}{c:Int}{r:aO×Bool}(a:mW d c=some r):bB prog 76 [] [.agg (eF d),u c] (.bP [.agg (dB r.1),.bool r.2]):=by
 refine bq func76 rfl rfl ?_;unfold mW at a;refine ak [(0,.al 455),(1,.al 134)] [(1,u c),(2,.ptr 455 0),(4,.ptr 134 0)] [(455,.cells 35 (eF d)),(134,.c 109 [u 0,u 0,.bool false,.az,.az])]<|A.seq<|aT [(2,Z (bl cm d.bf))] [2] [(9,aj cm d.bf),(10,u d.bf.length),(11,u 0)] [455] []<|A.block<|atz 9 rfl λi=>?_
 obtain⟨m,n,o,p,a⟩:=cO a;refine atx (l:=d.bf) (cD:=0) (B:=m) (K:=n) a (λb=>λ()=>[(1,u c),(4,.ptr 134 0),(9,aj cm d.bf),(10,u d.bf.length),(11,u b)]) (λb=>λ()=>[(134,.c 109 [u 0,u 0,.bool false,.az,.az])]) ?_ ?_ ?_
 .exact c5
 .rintro b g s ⟨⟩ k e a;rw[o]at a;refine ai [] [] [(12,.d ((b:Int)<d.bf.length))]<|A.seq<|aJ (cT e)<|A.skip<|A.seq<|A.block<|aT [(0,bh (ix cm (b3 e))),(2,.al 351)] [12] [(7,.ptr 351 0)] [] [(351,.cells 109 (dB g))]<|ai [] [] [(18,.d (g.Router=c))] ?_
  rcases aC a with⟨f,a⟩|⟨f,a⟩
  .refine aJ f ?_;obtain⟨h,q,a⟩:=ah a;refine ak [(1,aH (xM q) wD)] [(4,.ptr 134 0),(5,.bool true)] [(134,.cells 109 (dB h))] ?_;cases a;exact A.ret aX
  exact aI f<|A.skip<|bX [(0,Z (cQ e i))] [11,7,18] [(11,u ((b+1:Nat):Int))] [351] []<|aV () a
 rintro b ⟨⟩ k j a;rw[p]at a;refine ai [] [] [(12,.d ((b:Int)<d.bf.length))]<|A.seq<|aI (cS j)<|A.exit<|ai [] [1,9,10,11,12] [(5,.bool false)] ?_
 cases a;exact A.ret aX
def IJ{d:Int}{r:cV×Bool}(b:ug a d=some r):bB prog 93 [] [.agg (dB a),u d] (.bP [.agg (jo r.1),.bool r.2]):=by
 refine bq func93 rfl rfl ?_;unfold ug at b;refine ak [(0,.al 463),(1,.al 135)] [(1,u d),(2,.ptr 463 0),(4,.ptr 135 0)] [(463,.cells 109 (dB a)),(135,.c 152 [u 0,u 0,u 0])]<|A.seq<|aT [(2,Z (bl dg a.Links))] [2] [(9,aj dg a.Links),(10,u a.Links.length),(11,u 0)] [463] []<|A.block<|atz 9 rfl λh=>?_
 obtain⟨k,m,n,o,b⟩:=cO b;refine atx (l:=a.Links) (cD:=0) (B:=k) (K:=m) b (λc=>λ()=>[(1,u d),(4,.ptr 135 0),(9,aj dg a.Links),(10,u a.Links.length),(11,u c)]) (λc=>λ()=>[(135,.c 152 [u 0,u 0,u 0])]) ?_ ?_ ?_
 .exact c5
 .rintro c g p ⟨⟩ j e b;rw[n]at b;refine ai [] [] [(12,.d ((c:Int)<a.Links.length))]<|A.seq<|aJ (cT e)<|A.skip<|A.seq<|A.block<|aT [(0,bh (ix dg (b3 e))),(2,.al 355)] [12] [(7,.ptr 355 0)] [] [(355,.cells 152 (jo g))]<|ai [] [] [(18,.d (g.dy=d))] ?_
  rcases aC b with⟨f,b⟩|⟨f,b⟩
  .refine aJ f<|ak [] [(4,.ptr 135 0),(5,.bool true)] [(135,.cells 152 (jo g))] ?_
   cases b;exact A.ret aX
  exact aI f<|A.skip<|bX [(0,Z (cQ e h))] [11,7,18] [(11,u ((c+1:Nat):Int))] [355] []<|aV () b
 rintro c ⟨⟩ j i b;rw[o]at b;refine ai [] [] [(12,.d ((c:Int)<a.Links.length))]<|A.seq<|aI (cS i)<|A.exit<|ai [] [1,9,10,11,12] [(5,.bool false)] ?_
 cases b;exact A.ret aX
variable {Z1:Int}
def BX{d:bF}{r:aK}(a:lT d Z1=some r):bB prog 39 [] [.agg (eF d),u Z1] (.agg (bE r)):=by
 refine bq func39 rfl rfl ?_;unfold lT at a;refine ak [(0,.al 33),(1,.al 23)] [(1,u Z1),(2,.ptr 33 0),(4,.ptr 23 0)] [(33,.cells 35 (eF d)),(23,.c 41 [.az,.az])] ?_;obtain⟨m,a8,a⟩:=ah a;refine aT [(2,aH (tY a8) s6),(6,.al 181)] [] [(5,.ptr 181 0),(6,.bool m.2)] [] [(181,.cells 109 (dB m.1))]<|A.seq ?_
 obtain⟨X,ab,a⟩:=cW a;refine A.J (J:=X) (r:=r) (λw=>[(1,u Z1),(2,.ptr 33 0),(4,.ptr 23 0),(5,.ptr 181 0),(29,.bool w)]) (λw=>[(33,.cells 35 (eF d)),(23,.c 41 [.az,.az]),(181,.cells 109 (dB m.1))]) ?_ ?_
 .obtain⟨bi,O,a⟩:=ah a;rcases aC a with⟨C,a⟩|⟨C,a⟩
  .exact bu [(1,aH (mU O) mG),(3,Z (ax C))] [6] [(29,.bool true)]<|aV true a
  exact bu [(1,aH (mU O) mG),(3,Z (ax C))] [6] [(29,.bool (!m.2))]<|aV (!m.2) a
 rintro w a;rw[ab]at a;rcases aC a with⟨D,a⟩|⟨D,a⟩
 .refine aJ D<|aT [] [1,2,5,29] [] [33,181] [] ?_
  cases a;exact A.ret aX
 refine aI D<|A.skip<|aT [(0,.al 35)] [29] [(7,.ptr 35 0)] [] [(35,.c 41 [.az,.az])]<|aT [(0,.al 51),(2,pl (ko (k:=.i64) (enc:=gL) [] Z1 true rfl))] [1] [(8,.b6 51)] [] [(51,.map 3 4 (bo .i64 gL (bM [] Z1 true)))]<|A.seq<|aT [(1,.al 323)] [5] [(9,.own 323)] [181] [(323,.slice 109 5 (af cm ([m.1]:pR)) 0 false)]<|A.block ?_
 obtain⟨a0,br,a1,a⟩:=iK a;refine atN (F:=a0) a (λ(p,x,z,I)=>[(2,.ptr 33 0),(4,.ptr 23 0),(7,.ptr 35 0),(8,.b6 51),(9,.own 600039009)]) (λ(p,x,z,I)=>[(33,.cells 35 (eF d)),(23,.c 41 [.az,.az]),(35,.c 41 [.own 703900700,.own 703900701]),(51,.map 3 4 (bo .i64 gL I)),(600039009,.win 109 5 (af cm p)),(703900700,.slice 79 2 (af bz x) 0 false),(703900701,.slice 101 5 (af aD z) 0 false)]) ?_ ?_
 .exact ct [.wi 323,.b5 323 600039009,.ac 35 703900700 79 2 0,.ac 35 703900701 101 5 1] []
 rintro bb ⟨p,x,z,I⟩ a;rw[a1]at a;refine A.seq<|ai [(1,Z (bl cm p))] [] [(38,.d (0<(p.length:Int)))] ?_
 rcases aC a with⟨y,a⟩|⟨y,a⟩
 .refine aJ y<|A.skip<|A.seq<|A.block ?_
  obtain⟨b,Y,a⟩:=ah a;refine aT [(1,bh (ix cm Y)),(3,.al 76)] [38] [(10,.ptr 76 0)] [] [(76,.cells 109 (dB b))] ?_;obtain⟨j,W,a⟩:=ah a;refine aT [(8,dH 74 (ap bz (bytes:=16) (by decide) W))] [] [] [35,703900700] [(35,.c 41 [.own 74,.own 703900701]),(74,.slice 79 2 (af bz j) 0 false)]<|ai [(2,Z (bl dg b.Links))] [] [(55,aj dg b.Links),(56,u b.Links.length),(57,u 0)]<|A.block<|atz 55 rfl λav=>?_
  obtain⟨aE,aQ,aF,aG,a⟩:=cO a;refine atx (l:=b.Links) (cD:=0) (B:=aE) (K:=aQ) a (λf=>λ(h,g,c)=>[(2,.ptr 33 0),(4,.ptr 23 0),(7,.ptr 35 0),(8,.b6 51),(9,.own 600039009),(10,.ptr 76 0),(55,aj dg b.Links),(56,u b.Links.length),(57,u f)]) (λf=>λ(h,g,c)=>[(33,.cells 35 (eF d)),(23,.c 41 [.az,.az]),(35,.c 41 [.own 74,.own 703900701]),(51,.map 3 4 (bo .i64 gL c)),(600039009,.win 109 5 (af cm h)),(703900701,.slice 101 5 (af aD g) 0 false),(76,.cells 109 (dB b)),(74,.slice 79 2 (af bz j) 0 false)]) ?_ ?_ ?_
  .exact c5
  .rintro f S bj ⟨h,g,c⟩ au G a;rw[aF]at a;refine ai [] [] [(58,.d ((f:Int)<b.Links.length))]<|A.seq<|aJ (cT G)<|A.skip ?_
   obtain⟨ao,ar,a⟩:=cW a;refine A.J (J:=ao) (r:=r) (λ(v,s,t)=>[(2,.ptr 33 0),(4,.ptr 23 0),(7,.ptr 35 0),(8,.b6 51),(9,.own 600039009),(10,.ptr 76 0),(55,aj dg b.Links),(56,u b.Links.length),(57,u f)]) (λ(v,s,t)=>[(33,.cells 35 (eF d)),(23,.c 41 [.az,.az]),(35,.c 41 [.own 74,.own 703900701]),(51,.map 3 4 (bo .i64 gL s)),(600039009,.win 109 5 (af cm v)),(703900701,.slice 101 5 (af aD t) 0 false),(76,.cells 109 (dB b)),(74,.slice 79 2 (af bz j) 0 false)]) ?_ ?_
   .refine A.block<|aT [(0,bh (ix dg (b3 G))),(2,.al 206)] [58] [(12,.ptr 206 0)] [] [(206,.cells 152 (jo S))] ?_
    obtain⟨e,V,a⟩:=ah a;refine aT [(3,aH (tY V) s6),(7,.al 158)] [] [(13,.ptr 158 0),(14,.bool e.2)] [] [(158,.cells 109 (dB e.1))] ?_;obtain⟨i,ae,a⟩:=ah a;refine aT [(3,aH (IJ ae) RF),(7,.al 256)] [] [(15,.ptr 256 0),(16,.bool i.2)] [] [(256,.cells 152 (jo i.1))]<|A.seq<|atA [(2,.ptr 33 0),(4,.ptr 23 0),(7,.ptr 35 0),(8,.b6 51),(9,.own 600039009),(10,.ptr 76 0),(55,aj dg b.Links),(56,u b.Links.length),(57,u f),(12,.ptr 206 0),(13,.ptr 158 0),(15,.ptr 256 0),(80,.bool ((!e.2)||(!i.2)))] [(33,.cells 35 (eF d)),(23,.c 41 [.az,.az]),(35,.c 41 [.own 74,.own 703900701]),(51,.map 3 4 (bo .i64 gL c)),(600039009,.win 109 5 (af cm h)),(703900701,.slice 101 5 (af aD g) 0 false),(76,.cells 109 (dB b)),(74,.slice 79 2 (af bz j) 0 false),(206,.cells 152 (jo S)),(158,.cells 109 (dB e.1)),(256,.cells 152 (jo i.1))] (λU=>?_) ?_
    .rcases eY (!e.2)with n|n
     .exact ak [(2,Z (ax n)),(5,Z (g0 (q:=!i.2) n))] _ _ U
     exact ak [(2,Z (ax n)),(5,Z (eS (q:=!i.2) n))] _ _ U
    rcases aC a with⟨H,a⟩|⟨H,a⟩
    .exact aJ H<|A.exit<|aV (h,c,g) a
    refine aI H<|A.skip ?_
    obtain⟨aw,a5,a⟩:=cW a;refine A.J (J:=aw) (r:=r) (λo=>[(2,.ptr 33 0),(4,.ptr 23 0),(7,.ptr 35 0),(8,.b6 51),(9,.own 600039009),(10,.ptr 76 0),(13,.ptr 158 0),(55,aj dg b.Links),(56,u b.Links.length),(57,u f)]) (λo=>[(33,.cells 35 (eF d)),(23,.c 41 [.az,.az]),(35,.c 41 [.own 74,.own 703900701]),(51,.map 3 4 (bo .i64 gL c)),(600039009,.win 109 5 (af cm h)),(703900701,.slice 101 5 (af aD o) 0 false),(76,.cells 109 (dB b)),(74,.slice 79 2 (af bz j) 0 false),(158,.cells 109 (dB e.1))]) ?_ ?_
    .refine ai [] [80] [(85,.d (b.Router<e.1.Router))] ?_;rcases aC a with⟨M,a⟩|⟨M,a⟩
     .refine aJ M ?_;obtain⟨P,am,a⟩:=ah a;exact bX [(17,dH 377 (ap aD (bytes:=40) (by decide) am))] [12,15,85] [] [35,703900701,206,256] [(35,.c 41 [.own 74,.own 377]),(377,.slice 101 5 (af aD P) 0 false)]<|Exists.intro P (And.intro a (ct [.b5 377 703900701] []))
     exact aI M<|A.skip<|aV g a
    rintro o a;rw[a5]at a;refine ai [(3,hB (lk (E:=4) (k:=.i64) (enc:=gL) c e.1.Router false (λa9=>⟨_,zeroValue4 a9,λba=>by simp[aS,dJ,gL]⟩)))] [] [(109,.bool (!((aB c e.1.Router).getD false)))] ?_;rcases aC a with⟨N,a⟩|⟨N,a⟩
    .refine aJ N<|aT [(3,pl (ko (k:=.i64) (enc:=gL) c e.1.Router true rfl))] [109] [] [51] [(51,.map 3 4 (bo .i64 gL (bM c e.1.Router true)))] ?_
     obtain⟨Q,aU,a⟩:=ah a;exact bX [(3,dH 39616 (ap cm (bytes:=72) (by decide) aU))] [9,13] [(9,.own 39616)] [600039009,158] [(39616,.win 109 5 (af cm Q))]<|Exists.intro (Q,bM c e.1.Router true,o) (And.intro a (ct [.b5 39616 600039009] []))
    exact aI N<|A.skip<|aV (h,c,o) a
   rintro⟨v,s,t⟩ a;rw[ar]at a;exact bu [(0,Z (cQ G av))] [57] [(57,u ((f+1:Nat):Int))]<|aV (v,t,s) a
  rintro f ⟨h,g,c⟩ au aq a;rw[aG]at a;refine ai [] [] [(58,.d ((f:Int)<b.Links.length))]<|A.seq<|aI (cS aq)<|A.exit ?_
  obtain⟨R,aM,a⟩:=ah a;exact bX [(1,mV 39540 (Ba cm aM))] [9,10,55,56,57,58] [(9,.own 39540)] [600039009,76] [(39540,.win 109 5 (af cm R))]<|Exists.intro (R,j,g,c) (And.intro a (ct [.b5 39540 600039009,.b5 74 703900700] []))
 refine aI y<|A.exit ?_
 obtain⟨a3,aW,a⟩:=ah a;refine aT [(2,bV [] (M7 (d:=703900700) (T:=79) aW) RG)] [2,8,9,38] [] [33,51,600039009,703900700] [(703900700,.slice 79 2 (af bz a3) 0 false)] ?_;obtain⟨a7,a4,a⟩:=ah a;refine aT [(2,bV [] (M9 (d:=703900701) (T:=101) a4) RH)] [] [] [703900701] [(703900701,.slice 101 5 (af aD a7) 0 false)]<|A.seq ?_
 obtain⟨an,a6,a⟩:=ah a;refine ai [(1,bp [703900700,703900701] (kV a6) lF)] [] [(126,.bool (!decide (an=0)))] ?_;rcases aC a with⟨L,a⟩|⟨L,a⟩
 .refine aJ L<|aT [] [7,126] [] [35,703900700,703900701] [] ?_
  cases a;exact A.ret aX
 refine aI L<|A.skip<|aT [] [7,126] [] [23,35] [(23,.c 41 [.own 703900700,.own 703900701])]<|A.ret ?_
 obtain rfl:=cw a;exact atv b0 [.bN [703900700,703900701]] rfl (by kernel_rfl)
def HP{d:bF}{r:(l5)}(a:nU d Z1=some r):bB prog 41 [] [.agg (eF d),u Z1] (aj c1 r):=by
 refine bq func41 rfl rfl ?_;unfold nU at a;refine ak [(0,.al 77)] [(1,u Z1),(2,.ptr 77 0)] [(77,.cells 35 (eF d))]<|ai [] [] [(5,.az)]<|A.seq ?_
 obtain⟨b,O,a⟩:=ah a;refine ai [(2,aH (BX O) A4),(4,Z (bl bz b.aL))] [1] [(15,aj bz b.aL),(16,u b.aL.length),(17,u 0)]<|A.block<|atz 15 rfl λv=>?_
 obtain⟨y,z,C,D,a⟩:=cO a;refine atx (l:=b.aL) (cD:=0) (B:=y) (K:=z) a (λc=>λg=>[(2,.ptr 77 0),(5,.own 91),(15,aj bz b.aL),(16,u b.aL.length),(17,u c)]) (λc=>λg=>[(77,.cells 35 (eF d)),(91,.slice 105 4 (af c1 g) 0 false)]) ?_ ?_ ?_
 .exact ct [.ad 5 91 105 4] []
 .rintro c n P g x j a;rw[C]at a;refine ai [] [] [(18,.d ((c:Int)<b.aL.length))]<|A.seq<|aJ (cT j)<|A.skip ?_
  obtain⟨p,t,a⟩:=cW a;refine A.J (J:=p) (r:=r) (λi=>[(2,.ptr 77 0),(5,.own 91),(15,aj bz b.aL),(16,u b.aL.length),(17,u c)]) (λi=>[(77,.cells 35 (eF d)),(91,.slice 105 4 (af c1 i) 0 false)]) ?_ ?_
  .refine A.block<|aT [(0,bh (ix bz (b3 j))),(2,.al 129)] [18] [(7,.ptr 129 0)] [] [(129,.cells 79 (ha n))] ?_
   refine A.seq<|ai [] [] [(23,.bool (!n.bw))] ?_
   rcases aC a with⟨k,a⟩|⟨k,a⟩
   .exact aJ k<|A.exit<|aV g a
   refine aI k<|A.skip ?_
   obtain⟨e,q,a⟩:=ah a;refine aT [(3,aH (tY q) s6),(7,.al 434)] [23] [(8,.ptr 434 0)] [] [(434,.cells 109 (dB e.1))]<|aT [(2,Z (bl c8 e.1.Claims))] [8] [(32,aj c8 e.1.Claims),(33,u e.1.Claims.length),(34,u 0)] [434] []<|A.block<|atz 32 rfl λG=>?_
   obtain⟨H,M,I,L,a⟩:=cO a;refine atx (l:=e.1.Claims) (cD:=0) (B:=H) (K:=M) a (λf=>λh=>[(2,.ptr 77 0),(5,.own 91),(7,.ptr 129 0),(15,aj bz b.aL),(16,u b.aL.length),(17,u c),(32,aj c8 e.1.Claims),(33,u e.1.Claims.length),(34,u f)]) (λf=>λh=>[(77,.cells 35 (eF d)),(91,.slice 105 4 (af c1 h) 0 false),(129,.cells 79 (ha n))]) ?_ ?_ ?_
   .exact c5
   .rintro f N Q h F m a;rw[I]at a;refine ai [] [] [(35,.d ((f:Int)<e.1.Claims.length))]<|A.seq<|aJ (cT m)<|A.skip<|A.seq<|A.block<|aT [(0,bh (ix c8 (b3 m))),(2,.al 435)] [35] [(11,.ptr 435 0)] [] [(435,.cells 103 (pF N))] ?_
    obtain⟨o,s,a⟩:=ah a;exact bX [(6,dH 288 (ap c1 (bytes:=32) (by decide) s))] [5,11] [(5,.own 288)] [91,435] [(288,.slice 105 4 (af c1 o) 0 false)]<|bu [(0,Z (cQ m G))] [34] [(34,u ((f+1:Nat):Int))]<|Exists.intro o (And.intro a (ct [.b5 288 91] []))
   rintro f h F E a;rw[L]at a;exact ai [] [] [(35,.d ((f:Int)<e.1.Claims.length))]<|A.seq<|aI (cS E)<|A.exit<|aV h a
  rintro i a;rw[t]at a;exact bu [(0,Z (cQ j v))] [17] [(17,u ((c+1:Nat):Int))]<|aV i a
 rintro c g x w a;rw[D]at a;refine ai [] [] [(18,.d ((c:Int)<b.aL.length))]<|A.seq<|aI (cS w)<|A.exit<|aT [] [2,5,15,16,17,18] [(4,.own 91)] [77] []<|A.ret ?_
 obtain rfl:=cw a;exact atv b0 [.bN [91]] rfl (by kernel_rfl)
variable {r:Int}
def I6{n:Int}(a:uI n=some r):bB prog 267 [] [u n] (u r):=by
 refine bq func267 rfl rfl ?_;unfold uI at a;refine ak [] [(0,u n)] []<|ak [(2,.qr (8:Int) (by decide))] [(2,u (a1 (Int.tdiv (a1 (n+7)) (8:Int))))] [] ?_
 cases a;exact A.ret aX
variable {TM:dT}
def Ic{r:Bool}(a:rH TM=some r):bB prog 262 [] [.agg [aj (cZ .u8) TM.Data,u TM.Bits]] (.bool r):=by
 refine bq func262 rfl rfl ?_;unfold rH at a;refine ak [(0,.al 180)] [(1,.ptr 180 0)] [(180,.c 294 [aj (cZ .u8) TM.Data,u TM.Bits])]<|A.seq ?_
 obtain⟨h,l,a⟩:=cW a;refine A.J (J:=h) (r:=r) (λc=>[(1,.ptr 180 0),(20,.bool c)]) (λc=>[(180,.c 294 [aj (cZ .u8) TM.Data,u TM.Bits])]) ?_ ?_
 .rcases aC a with⟨b,a⟩|⟨b,a⟩
  .exact bu [(3,Z (ax b))] [] [(20,.bool true)]<|aV true a
  rcases aC a with⟨e,a⟩|⟨e,a⟩
  .exact bu [(3,Z (ax b)),(8,Z (ax e))] [] [(20,.bool true)]<|aV true a
  obtain⟨g,m,a⟩:=ah a;exact bu [(3,Z (ax b)),(8,Z (ax e)),(11,Z (bl (cZ .u8) TM.Data)),(14,aH (I6 m) QD)] [] [(20,.bool (!decide ((TM.Data.length:Int)=g)))]<|aV (!decide ((TM.Data.length:Int)=g)) a
 rintro c a;rw[l]at a;rcases aC a with⟨d,a⟩|⟨d,a⟩
 .refine aJ d<|ak [] [(2,.bool false)] [] ?_
  cases a;exact A.ret aX
 refine aI d<|A.skip<|ai [(2,Z (bl (cZ .u8) TM.Data))] [20] [(3,u (a1 ((a1 ((8:Int)*(TM.Data.length:Int)))-TM.Bits)))] ?_
 rcases aC a with⟨f,a⟩|⟨f,a⟩
 .refine ak [(2,Z (ax f))] [(2,.bool true)] [] ?_;cases a;exact A.ret aX
 obtain⟨i,j,a⟩:=ah a;obtain⟨k,a⟩:=hA a;refine ak [(2,Z (ax f)),(7,Z (bl (cZ .u8) TM.Data)),(9,bh (ix (cZ .u8) j)),(13,.sh (a1 ((8:Int)-(a1 ((a1 ((8:Int)*(TM.Data.length:Int)))-TM.Bits)))) (of_decide_eq_true k))] [(2,.d (IntKind.wrap .u8 (i*2 ^ min (a1 ((8:Int)-(a1 ((a1 ((8:Int)*(TM.Data.length:Int)))-TM.Bits)))).toNat 8)=(0:Int)))] [] ?_;cases a;exact A.ret aX
def Jl{i:Int}(a:uR TM i=some r):bB prog 263 [] [.agg [aj (cZ .u8) TM.Data,u TM.Bits],u i] (.int .u64 r):=by
 refine bq func263 rfl rfl ?_;unfold uR at a;refine ak [(0,.al 429)] [(1,u i),(2,.ptr 429 0)] [(429,.c 294 [aj (cZ .u8) TM.Data,u TM.Bits])] ?_;obtain⟨b,d,a⟩:=ah a;obtain⟨c,a⟩:=hA a;refine ak [(3,.qr (8:Int) (by decide)),(4,bh (ix (cZ .u8) d)),(7,.qr (8:Int) (by decide)),(9,.sh (a1 ((7:Int)-(Int.tmod i (8:Int)))) (of_decide_eq_true c))] [(4,.int .u64 (IntKind.wrap .u64 (fh .and .u8 (Int.fdiv b (2 ^ min (a1 ((7:Int)-(Int.tmod i (8:Int)))).toNat 8)) (1:Int))))] [] ?_;cases a;exact A.ret aX
variable {value:Int}
def I7{n:Int}{r:dT}(c:uJ TM value n=some r):cp prog 266 [(385,.slice 5 1 (af (cZ .u8) TM.Data) 0 false),(111,.c 294 [.own 385,u TM.Bits])] [.ptr 111 0,.int .u64 value,u n] (λa t=>a=.bP []/\t=[(111,.c 294 [.own 386,u r.Bits]),(386,.slice 5 1 (af (cZ .u8) r.Data) 0 false)]):=by
 refine bq func266 rfl rfl ?_;unfold uJ at c;refine A.block ?_;obtain⟨x,C,y,c⟩:=iK c;refine atN (F:=x) c (λ(b,f,e)=>[(0,.ptr 111 0),(1,.int .u64 value),(2,u b)]) (λ(b,f,e)=>[(111,.c 294 [.own 112,u e]),(112,.slice 5 1 (af (cZ .u8) f) 0 false)]) ?_ ?_
 .exact ct [.rn 385 112] []
 rintro B ⟨b,f,e⟩ c;rw[y]at c;refine A.seq<|ai [] [] [(10,.d (0<b))] ?_
 rcases aC c with⟨i,c⟩|⟨i,c⟩
 .refine aJ i<|A.skip<|A.block<|ai [(4,Z (bl (cZ .u8) f))] [10] [(6,u (a1 ((a1 ((8:Int)*(f.length:Int)))-e)))] ?_
  obtain⟨o,v,c⟩:=cW c;refine A.J (J:=o) (r:=r) (λ(d,h)=>[(0,.ptr 111 0),(1,.int .u64 value),(2,u b),(6,u d)]) (λ(d,h)=>[(111,.c 294 [.own 112,u e]),(112,.slice 5 1 (af (cZ .u8) h) 0 false)]) ?_ ?_
  .refine ai [] [] [(23,.d (a1 ((a1 ((8:Int)*(f.length:Int)))-e)=(0:Int)))] ?_;rcases aC c with⟨j,c⟩|⟨j,c⟩
   .refine aJ j ?_;obtain⟨k,z,c⟩:=ah c;exact bX [(6,dH 369 (ap (cZ .u8) (bytes:=1) (by decide) z))] [6,23] [(6,u 8)] [111,112] [(111,.c 294 [.own 369,u e]),(369,.slice 5 1 (af (cZ .u8) k) 0 false)]<|Exists.intro ((8:Int),k) (And.intro c (ct [.b5 369 112] []))
   exact aI j<|A.skip<|aV (a1 ((a1 ((8:Int)*(f.length:Int)))-e),f) c
  rintro⟨d,h⟩ c;rw[v]at c;refine ai [] [] [(7,u (if d<b then d else b))] ?_;obtain⟨q,c⟩:=hA c;obtain⟨s,c⟩:=hA c;refine ai [(4,.sh (a1 (b-(if d<b then d else b))) (of_decide_eq_true q)),(6,.sh (if d<b then d else b) (of_decide_eq_true s))] [] [(8,.int .u64 (fh .and .u64 (Int.fdiv value (2 ^ min (a1 (b-(if d<b then d else b))).toNat 64)) (IntKind.wrap .u64 ((IntKind.wrap .u64 ((1:Int)*2 ^ min (if d<b then d else b).toNat 64))-(1:Int)))))] ?_;obtain⟨p,g,c⟩:=ah c;obtain⟨m,c⟩:=hA c;obtain⟨l,w,c⟩:=ah c;exact aT [(8,Z (bl (cZ .u8) h)),(10,bh (ix (cZ .u8) g)),(11,eK 112 0 (ix (cZ .u8) g)),(16,.sh (a1 (d-(if d<b then d else b))) (of_decide_eq_true m)),(19,bh (ix (cZ .u8) g)),(20,iY 112 (st (cZ .u8) (off:=0) (ca:=[.int .u8 (fh .or .u8 p (IntKind.wrap .u8 (IntKind.wrap .u64 ((fh .and .u64 (Int.fdiv value (2 ^ min (a1 (b-(if d<b then d else b))).toNat 64)) (IntKind.wrap .u64 ((IntKind.wrap .u64 ((1:Int)*2 ^ min (if d<b then d else b).toNat 64))-(1:Int))))*2 ^ min (a1 (d-(if d<b then d else b))).toNat 64))))]) g w rfl) (jJ g).1.1)] [6,8] [] [112] [(112,.slice 5 1 (af (cZ .u8) l) 0 false)]<|aT [] [] [] [111] [(111,.c 294 [.own 112,u (a1 (e+(if d<b then d else b)))])]<|bu [] [2,7] [(2,u (a1 (b-(if d<b then d else b))))]<|aV (a1 (b-(if d<b then d else b)),l,a1 (e+(if d<b then d else b))) c
 refine aI i<|A.exit ?_
 obtain rfl:=cw c;exact atv b0 [.b5 112 386] rfl (by kernel_rfl)
def I8{r:dT}(b:yo TM=some r):cp prog 265 [] [.agg [aj (cZ .u8) TM.Data,u TM.Bits]] (λa d=>a=.agg [.own 259,u r.Bits]/\d=[(259,.slice 5 1 (af (cZ .u8) r.Data) 0 false)]):=by
 refine bq func265 rfl rfl ?_;unfold yo at b;refine ak [(0,.al 430),(1,.al 319)] [(1,.ptr 430 0),(2,.ptr 319 0)] [(430,.c 294 [aj (cZ .u8) TM.Data,u TM.Bits]),(319,.c 294 [.az,u 0])] ?_;obtain⟨c,e,b⟩:=ah b;refine ak [(2,dH 368 (ap (cZ .u8) (bytes:=1) (by decide) e))] [(2,.ptr 319 0)] [(319,.c 294 [.own 368,u TM.Bits]),(368,.slice 5 1 (af (cZ .u8) c) 0 false)]<|A.ret ?_
 obtain rfl:=cw b;exact atv b0 [.b5 368 259] rfl (by kernel_rfl)
def IX{n:Int}{r:dT×Int}(a:uv TM value n=some r):bB prog 261 [] [.agg [aj (cZ .u8) TM.Data,u TM.Bits],.int .u64 value,u n] (.bP [.agg [aj (cZ .u8) r.1.Data,u r.1.Bits],u r.2]):=by
 refine bq func261 rfl rfl ?_;unfold uv at a;refine ak [(0,.al 157),(1,.al 102)] [(1,.int .u64 value),(2,u n),(3,.ptr 157 0),(6,.ptr 102 0)] [(157,.c 294 [aj (cZ .u8) TM.Data,u TM.Bits]),(102,.c 294 [.az,u 0])]<|A.seq<|A.block ?_
 obtain⟨o,s,a⟩:=ah a;refine ai [(1,aH (Ic s) Gx)] [] [(9,.bool (!o))] ?_;rcases aC a with⟨f,a⟩|⟨f,a⟩
 .refine aJ f<|aT [] [1,2,3,9] [(7,u 1)] [157] [] ?_
  cases a;exact A.ret aX
 refine aI f ?_;obtain⟨l,q,a⟩:=cW a;refine A.J (J:=l) (r:=r) (λd=>[(1,.int .u64 value),(2,u n),(3,.ptr 157 0),(6,.ptr 102 0),(14,.bool d)]) (λd=>[(157,.c 294 [aj (cZ .u8) TM.Data,u TM.Bits]),(102,.c 294 [.az,u 0])]) ?_ ?_
 .rcases aC a with⟨b,a⟩|⟨b,a⟩
  .exact bu [(2,Z (ax b))] [9] [(14,.bool true)]<|aV true a
  rcases aC a with⟨c,a⟩|⟨c,a⟩
  .exact bu [(2,Z (ax b)),(6,Z (ax c))] [9] [(14,.bool true)]<|aV true a
  rcases aC a with⟨h,a⟩|⟨h,a⟩
  .obtain⟨m,a⟩:=hA a;exact bu [(2,Z (ax b)),(6,Z (ax c)),(9,Z (ax h)),(12,.sh n (of_decide_eq_true m))] [9] [(14,.bool (!decide (Int.fdiv value (2 ^ min n.toNat 64)=(0:Int))))]<|aV (!decide (Int.fdiv value (2 ^ min n.toNat 64)=(0:Int))) a
  exact bu [(2,Z (ax b)),(6,Z (ax c)),(9,Z (ax h))] [9] [(14,.bool false)]<|aV false a
 rintro d a;rw[q]at a;rcases aC a with⟨g,a⟩|⟨g,a⟩
 .refine aJ g<|aT [] [1,2,3,14] [(7,u 2)] [157] [] ?_
  cases a;exact A.ret aX
 refine aI g<|ai [] [14] [(32,.d (8192<a1 (TM.Bits+n)))] ?_
 rcases aC a with⟨i,a⟩|⟨i,a⟩
 .refine aJ i<|aT [] [1,2,3,32] [(7,u 3)] [157] [] ?_
  cases a;exact A.ret aX
 refine aI i<|A.skip ?_
 obtain⟨j,p,a⟩:=ah a;refine aT [(1,bV [259] (I8 p) QB),(2,.al 284)] [3,32] [(8,.ptr 284 0)] [157] [(259,.slice 5 1 (af (cZ .u8) j.Data) 0 false),(284,.c 294 [.own 259,u j.Bits])] ?_;obtain⟨e,k,a⟩:=ah a;refine aT [(2,bV [275] (ep.at [(385,259),(111,284),(386,275)] (I7 k)) QC)] [1,2] [] [259,284] [(284,.c 294 [.own 275,u e.Bits]),(275,.slice 5 1 (af (cZ .u8) e.Data) 0 false)]<|aT [] [8] [(7,u 0)] [102,284] [(102,.c 294 [.own 275,u e.Bits])]<|A.ret ?_
 obtain rfl:=cw a;exact atv b0 [.bN [275]] rfl (by kernel_rfl)
def I9{r:Int×Int}(a:uK TM=some r):bB prog 254 [] [.agg [aj (cZ .u8) TM.Data,u TM.Bits]] (.bP [.int .u64 r.1,u r.2]):=by
 refine bq func254 rfl rfl ?_;unfold uK at a;refine ak [(0,.al 101)] [(1,.ptr 101 0)] [(101,.c 294 [aj (cZ .u8) TM.Data,u TM.Bits])]<|A.scope<|A.seq ?_
 obtain⟨j,v,a⟩:=ah a;refine ak [(1,aH (Ic v) Gx)] [(1,.ptr 101 0),(9,.bool (!j))] [(101,.c 294 [aj (cZ .u8) TM.Data,u TM.Bits])] ?_;rcases aC a with⟨e,a⟩|⟨e,a⟩
 .refine aJ e<|ak [] [(2,.int .u64 (0:Int)),(3,u 1)] [] ?_
  cases a;exact A.ret aX
 refine aI e<|A.skip<|ai [] [9] [(4,.int .u64 (65535:Int))]<|A.seq<|A.label<|A.seq<|ak [] [(1,.ptr 101 0),(4,.int .u64 (65535:Int)),(11,u TM.Bits),(12,u 0)] [(101,.c 294 [aj (cZ .u8) TM.Data,u TM.Bits])]<|A.block ?_
 obtain⟨t,a⟩:=hA a;obtain⟨o,p,q,s,a⟩:=pS a;refine at2 (hi:=TM.Bits) (B:=o) (K:=p) a rfl (λc=>λb=>[(1,.ptr 101 0),(4,.int .u64 b),(11,u TM.Bits),(12,u c)]) (λc=>λb=>[(101,.c 294 [aj (cZ .u8) TM.Data,u TM.Bits])]) ?_ ?_ ?_
 .exact c5
 .rintro c w b n g a;rw[q]at a;refine ai [] [] [(13,.d ((c:Int)<TM.Bits))]<|A.seq<|atS rfl (decide_eq_true g)<|A.skip ?_
  obtain⟨h,l,a⟩:=cW a;refine A.J (J:=h) (r:=r) (λd=>[(1,.ptr 101 0),(4,.int .u64 d),(11,u TM.Bits),(12,u c)]) (λd=>[(101,.c 294 [aj (cZ .u8) TM.Data,u TM.Bits])]) ?_ ?_
  .refine A.block<|ai [] [13] [(5,u c)] ?_
   refine ai [(1,.sh (15:Int) (by decide))] [] [(6,.int .u64 (Int.fdiv b (2 ^ min (15:Int).toNat 64)))]<|ai [(1,.sh (1:Int) (by decide))] [4] [(4,.int .u64 (fh .and .u64 (IntKind.wrap .u64 (b*2 ^ min (1:Int).toNat 64)) (65535:Int)))]<|A.seq ?_
   obtain⟨k,i,a⟩:=ah a;refine ai [(3,aH (Jl i) QA)] [5,6] [(24,.d (Int.fdiv b (2 ^ min (15:Int).toNat 64)=k))] ?_;rcases aC a with⟨f,a⟩|⟨f,a⟩
   .exact aJ f<|A.exit<|aV (fh .and .u64 (IntKind.wrap .u64 (b*2 ^ min (1:Int).toNat 64)) (65535:Int)) a
   exact aI f<|A.skip<|bu [] [4,24] [(4,.int .u64 (fh .xor .u64 (fh .and .u64 (IntKind.wrap .u64 (b*2 ^ min (1:Int).toNat 64)) (65535:Int)) (4129:Int)))]<|aV (fh .xor .u64 (fh .and .u64 (IntKind.wrap .u64 (b*2 ^ min (1:Int).toNat 64)) (65535:Int)) (4129:Int)) a
  rintro d a;rw[l]at a;exact bu [(0,Z (o5 (by omega) g (of_decide_eq_true t)))] [12] [(12,u (c+1:Int))]<|aV d a
 rintro c b n m a;rw[s]at a;refine ai [] [] [(13,.d ((c:Int)<TM.Bits))]<|A.seq<|atI rfl (xk m)<|A.exit<|ak [] [(2,.int .u64 b),(3,u 0)] [] ?_
 cases a;exact A.ret aX
end
section
set_option linter.all false
open Go Go.Lib
def C8{I:aZ}{b:Nat}:∀(xs:bR) (o:Nat),eZ I b (af (cZ .u8) xs) o->∀(j:Nat) (x:Int),xs[j]?=some x->I b (o+j)=some (.int .u8 x)
 |[],_,_,j,x,h=>by simp at h
 |y::xs,o,h,0,x,a=>by
  simp at a;subst a
  simp only[af,List.map_cons,eZ]at h;obtain⟨⟨⟨c,f,d⟩,_⟩,_⟩:=h;have e:c=.int .u8 y:=by simpa [aS]using d
  subst e;simpa using f
 |y::xs,o,h,j+1,x,a=>by
  simp only[af,List.map_cons,eZ]at h;have:=C8 xs (o+1) (by simpa [af,cZ]using h.2) j x (by simpa using a);rw[show o+(j+1)=o+1+j by omega];exact this
variable {G:bG}{I:aZ}{P:Program}{cx:c0}{f:Bool}{w:World}{xs:bR}{β:Nat->Value}{σ:U}
theorem CQ(h:bx G cx I β σ w){v:Value}(e:aS I (.bn f (af (cZ .u8) xs)) v):
  (Extern.Bytes.bytesOf v).run P w=.ok ⟨(bytesOf xs).toArray⟩ w:=by
 simp only[aS]at e;obtain⟨i,o,rfl,p,m,n,a⟩:=e;have j:(af (cZ .u8) xs).length=xs.length:=by simp[af]
 rcases a with a|⟨c,b,rfl,a⟩
 .have:xs=[]:=by cases xs with|nil=>rfl|cons y ys=>simp[af]at a
  subst this;cases i<;>rfl
 .have:=run_loadBytesX (P:=P) w xs ⟨c,b,none⟩ .empty (λd l g=>by
   have k:(⟨c,b,none⟩:Addr).add d=⟨c,b+d,none⟩:=by unfold Addr.add;split<;>simp_all
   rw[k];exact h.good _ _ _ (C8 xs b a d l g))
  show(Extern.Bytes.loadBytes ⟨c,b,none⟩ (af (cZ .u8) xs).length .empty).run P w=_;rw[j,this];congr 1;apply ByteArray.ext;show(#[]:Array UInt8)++(bytesOf xs).toArray=(bytesOf xs).toArray;simp
variable {ys:bR}
def LZ(b:bx G cx I β σ w){g:Bool}{a v:Value}(h:aS I (.bn f (af (cZ .u8) xs)) a)(d:aS I (.bn g (af (cZ .u8) ys)) v):
  (Extern.BytealgCompare.compare #[a,v]).run P w=.ok (.int .i64 (Go.Extern.BytealgCompare.cmp ⟨(bytesOf xs).toArray⟩ ⟨(bytesOf ys).toArray⟩)) w:=by
 have e:=CQ (P:=P) b h;have c:=CQ (P:=P) b d
 change Sem.run P (do pure (goInt (Go.Extern.BytealgCompare.cmp (<-Extern.Bytes.bytesOf a) (<-Extern.Bytes.bytesOf v)))) w=_
 simp[Sem.run_bind,e,c,Result.andThen,goInt]
def Nc{f:Nat}(g:∀(a v:Value) (n:Int) (w:World),(Extern.BytealgCompare.compare #[a,v]).run P w=.ok (.int .i64 n) w->Calls P f #[a,v] w λe w'=>e=.returned (.int .i64 n)/\w'=w)
  {p q:Bool} :bB P f [] [.bn p (af (cZ .u8) xs),.bn q (af (cZ .u8) ys)] (.int .i64 (Go.Extern.BytealgCompare.cmp ⟨(bytesOf xs).toArray⟩ ⟨(bytesOf ys).toArray⟩)):=λcx w I β i c b=>by
 simp only[br]at b;obtain⟨a,_,rfl,h,v,_,rfl,d,rfl⟩:=b;refine(g a v _ w (LZ c (by simpa [au]using h) (by simpa [au]using d))).mono ?_;rintro e w' ⟨rfl,rfl⟩;exact⟨_,rfl,_,_,I,β,⟨rfl,rfl⟩,by simp[au,aS],c⟩
end
section
open Go Go.Proofs.Tryz
set_option maxRecDepth 100000
set_option linter.all false
def j5{w:fP}{n:Int}{bits:Int}{r:fP}(b:iH w n bits=some r):cp prog 253 [(168,.c 296 [aj (cZ .u8) w.ef.Data,u w.ef.Bits])] [.ptr 168 0,u n,u bits] (λa d=>a=.bP []/\d=[(168,.c 296 [aj (cZ .u8) r.ef.Data,u r.ef.Bits])]):=by
 refine bq func253 rfl rfl ?_;unfold iH at b;obtain⟨c,e,b⟩:=ah b;refine jP [(8,aH (IX e) Qz)] [] [(168,.c 296 [aj (cZ .u8) c.1.Data,u c.1.Bits])] ?_;obtain rfl:=cw b;exact atv b0 [] rfl (by kernel_rfl)
def O6(a v:Value)(n:Int)(w:World)(h:(Extern.BytealgCompare.compare #[a,v]).run prog w=.ok (.int .i64 n) w):Calls prog 237 #[a,v] w λe w'=>e=.returned (.int .i64 n)/\w'=w:=by
 have b:(callFunc 255 #[a,v]).run prog w=.ok (.value (.int .i64 n)) w:=by
  rw[run_callFunc_extern func255 (by kernel_rfl) (by kernel_rfl) (by kernel_rfl) (e:=Extern.BytealgCompare.compare) (by kernel_rfl),h];rfl
 go_enter func237,Tryz.ntmps237
 go_wp2
 go_ret
 exact⟨rfl,rfl⟩
def ID{a b:bR}{r:Int}(c:B5 a b=some r):bB prog 237 [] [.bn false (af (cZ .u8) a),.bn false (af (cZ .u8) b)] (.int .i64 r):=by
 cases c;exact Nc O6
def H2{a:aO}{r:(bR)×Int}(b:lV a=some r):bB prog 236 [] [.agg (dB a)] (.bP [aj (cZ .u8) r.1,u r.2]):=by
 refine bq func236 rfl rfl ?_;unfold lV at b;refine ak [(0,.al 59)] [(1,.ptr 59 0)] [(59,.cells 109 (dB a))]<|A.seq ?_
 obtain⟨O,a0,b⟩:=ah b;refine ai [(1,aH (q9 a0) qO)] [] [(15,.bool (!O))] ?_;rcases aC b with⟨p,b⟩|⟨p,b⟩
 .refine aJ p<|ak [] [(2,.az),(3,u 1)] [] ?_
  cases b;exact A.ret aX
 refine aI p<|A.skip<|aT [(0,.al 17)] [15] [(4,.ptr 17 0)] [] [(17,.c 296 [.az,u 0])] ?_
 obtain⟨y,N,b⟩:=ah b;refine atV b0 [.sc 17 [59,17]] [(2,bV [] (ep.at [(168,17)] (j5 N)) kH)] [(1,.ptr 59 0),(4,.ptr 17 0)] [(59,.cells 109 (dB a)),(17,.c 296 [aj (cZ .u8) y.ef.Data,u y.ef.Bits])] (by kernel_rfl) ?_;obtain⟨i,P,b⟩:=ah b;refine ak [(2,bV [] (ep.at [(168,17)] (j5 P)) kH)] [(1,.ptr 59 0),(4,.ptr 17 0)] [(59,.cells 109 (dB a)),(17,.c 296 [aj (cZ .u8) i.ef.Data,u i.ef.Bits])]<|ai [] [] [(5,u 0)] ?_
 obtain⟨M,Q,b⟩:=cW b;refine A.J (J:=M) (r:=r) (λv=>[(1,.ptr 59 0),(4,.ptr 17 0),(5,u v)]) (λv=>[(59,.cells 109 (dB a)),(17,.c 296 [aj (cZ .u8) i.ef.Data,u i.ef.Bits])]) ?_ ?_
 .refine ai [] [] [(23,.bool a.bw)] ?_;rcases aC b with⟨q,b⟩|⟨q,b⟩
  .exact aJ q<|bu [] [5,23] [(5,u 1)]<|aV (1:Int) b
  exact aI q<|A.skip<|aV (0:Int) b
 rintro v b;rw[Q]at b;obtain⟨x,L,b⟩:=ah b;refine aT [(1,bV [] (ep.at [(168,17)] (j5 L)) kH)] [5] [] [17] [(17,.c 296 [aj (cZ .u8) x.ef.Data,u x.ef.Bits])] ?_;obtain⟨C,I,b⟩:=ah b;refine aT [(2,Z (bl dg a.Links)),(3,bV [] (ep.at [(168,17)] (j5 I)) kH)] [] [] [17] [(17,.c 296 [aj (cZ .u8) C.ef.Data,u C.ef.Bits])]<|A.seq<|ai [(2,Z (bl dg a.Links))] [] [(31,aj dg a.Links),(32,u a.Links.length),(33,u 0)]<|A.block<|atz 31 rfl λT=>?_
 obtain⟨W,X,Y,ab,b⟩:=cO b;refine atx (l:=a.Links) (cD:=0) (B:=W) (K:=X) b (λd=>λ(h,j)=>[(1,.ptr 59 0),(4,.ptr 17 0),(31,aj dg a.Links),(32,u a.Links.length),(33,u d)]) (λd=>λ(h,j)=>[(59,.cells 109 (dB a)),(17,.c 296 [aj (cZ .u8) h,u j])]) ?_ ?_ ?_
 .exact c5
 .rintro d aW a3 ⟨h,j⟩ V n b;rw[Y]at b;refine ai [] [] [(34,.d ((d:Int)<a.Links.length))]<|A.seq<|aJ (cT n)<|A.skip<|A.seq<|A.block<|aT [(0,bh (ix dg (b3 n))),(2,.al 254)] [34] [(7,.ptr 254 0)] [] [(254,.cells 152 (jo aW))] ?_
  obtain⟨z,R,b⟩:=ah b;refine aT [(2,bV [] (ep.at [(168,17)] (j5 R)) kH)] [] [] [17] [(17,.c 296 [aj (cZ .u8) z.ef.Data,u z.ef.Bits])] ?_;obtain⟨D,S,b⟩:=ah b;refine aT [(2,bV [] (ep.at [(168,17)] (j5 S)) kH)] [] [] [17] [(17,.c 296 [aj (cZ .u8) D.ef.Data,u D.ef.Bits])] ?_;obtain⟨k,av,b⟩:=ah b;exact bX [(2,bV [] (ep.at [(168,17)] (j5 av)) kH)] [7] [] [17,254] [(17,.c 296 [aj (cZ .u8) k.ef.Data,u k.ef.Bits])]<|bu [(0,Z (cQ n T))] [33] [(33,u ((d+1:Nat):Int))]<|aV (k.ef.Data,k.ef.Bits) b
 rintro d ⟨h,j⟩ V U b;rw[ab]at b;refine ai [] [] [(34,.d ((d:Int)<a.Links.length))]<|A.seq<|aI (cS U)<|A.exit ?_
 obtain⟨G,ar,b⟩:=ah b;refine aT [(2,Z (bl c8 a.Claims)),(3,bV [] (ep.at [(168,17)] (j5 ar)) kH)] [31,32,33,34] [] [17] [(17,.c 296 [aj (cZ .u8) G.ef.Data,u G.ef.Bits])]<|A.seq<|aT [(2,Z (bl c8 a.Claims))] [1] [(52,aj c8 a.Claims),(53,u a.Claims.length),(54,u 0)] [59] []<|A.block<|atz 52 rfl λam=>?_
 obtain⟨an,au,ao,aq,b⟩:=cO b;refine atx (l:=a.Claims) (cD:=0) (B:=an) (K:=au) b (λc=>λ(g,f)=>[(4,.ptr 17 0),(52,aj c8 a.Claims),(53,u a.Claims.length),(54,u c)]) (λc=>λ(g,f)=>[(17,.c 296 [aj (cZ .u8) g,u f])]) ?_ ?_ ?_
 .exact c5
 .rintro c w a4 ⟨g,f⟩ af s b;rw[ao]at b;refine ai [] [] [(55,.d ((c:Int)<a.Claims.length))]<|A.seq<|aJ (cT s)<|A.skip<|A.seq<|A.block<|aT [(0,bh (ix c8 (b3 s))),(2,.al 179)] [55] [(9,.ptr 179 0)] [] [(179,.cells 103 (pF w))]<|ai [] [] [(10,u 0)]<|A.seq<|A.block ?_
  obtain⟨aQ,a6,aU,b⟩:=iK b;refine atN (F:=aQ) b (λe=>[(4,.ptr 17 0),(9,.ptr 179 0),(10,u e),(52,aj c8 a.Claims),(53,u a.Claims.length),(54,u c)]) (λe=>[(17,.c 296 [aj (cZ .u8) g,u f]),(179,.cells 103 (pF w))]) ?_ ?_
  .exact c5
  rintro a5 e b;rw[aU]at b;refine A.seq ?_;obtain⟨aw,b⟩:=hA b;refine ai [(1,.sh e (of_decide_eq_true aw))] [] [(62,.d (IntKind.wrap .i64 ((8:Int)*2 ^ min e.toNat 64)<w.Length))] ?_;rcases aC b with⟨o,b⟩|⟨o,b⟩
  .exact aJ o<|A.skip<|A.block<|bu [] [10,62] [(10,u (a1 (e+1)))]<|aV (a1 (e+1)) b
  refine aI o<|A.exit ?_
  obtain⟨E,aD,b⟩:=ah b;refine aT [(2,bV [] (ep.at [(168,17)] (j5 aD)) kH)] [62] [] [17] [(17,.c 296 [aj (cZ .u8) E.ef.Data,u E.ef.Bits])] ?_;obtain⟨H,aE,b⟩:=ah b;refine aT [(2,bV [] (ep.at [(168,17)] (j5 aE)) kH)] [9] [] [17,179] [(17,.c 296 [aj (cZ .u8) H.ef.Data,u H.ef.Bits])] ?_;obtain⟨m,aF,b⟩:=ah b;exact bX [(1,bV [] (ep.at [(168,17)] (j5 aF)) kH)] [10] [] [17] [(17,.c 296 [aj (cZ .u8) m.ef.Data,u m.ef.Bits])]<|bu [(0,Z (cQ s am))] [54] [(54,u ((c+1:Nat):Int))]<|aV (m.ef.Data,m.ef.Bits) b
 rintro c ⟨g,f⟩ af ae b;rw[aq]at b;refine ai [] [] [(55,.d ((c:Int)<a.Claims.length))]<|A.seq<|aI (cS ae)<|A.exit ?_
 obtain⟨ax,aG,b⟩:=ah b;refine ai [(2,aH (I9 aG) Qy)] [52,53,54,55] [(11,.int .u64 ax.1)] ?_;obtain⟨t,aM,b⟩:=ah b;refine aT [(2,bV [] (ep.at [(168,17)] (j5 aM)) kH)] [11] [] [17] [(17,.c 296 [aj (cZ .u8) t.ef.Data,u t.ef.Bits])]<|ak [] [(2,aj (cZ .u8) t.ef.Data),(3,u 0)] [] ?_
 cases b;exact A.ret aX
def IY{a:aO}{b:aO}{r:Bool}(c:uE a b=some r):bB prog 212 [] [.agg (dB a),.agg (dB b)] (.bool r):=by
 refine bq func212 rfl rfl ?_;unfold uE at c;refine ak [(0,.al 231),(1,.al 232)] [(2,.ptr 231 0),(3,.ptr 232 0)] [(231,.cells 109 (dB a)),(232,.cells 109 (dB b))] ?_;obtain⟨f,o,c⟩:=ah c;refine ai [(1,aH (H2 o) Gw)] [] [(5,aj (cZ .u8) f.1),(6,u f.2)] ?_;obtain⟨d,m,c⟩:=ah c;refine ai [(1,aH (H2 m) Gw)] [] [(7,aj (cZ .u8) d.1),(8,u d.2)]<|A.seq<|atA [(2,.ptr 231 0),(3,.ptr 232 0),(5,aj (cZ .u8) f.1),(7,aj (cZ .u8) d.1),(31,.bool ((!decide (f.2=0))||((!decide (d.2=0))||(!decide (a.Router=b.Router)))))] [(231,.cells 109 (dB a)),(232,.cells 109 (dB b))] (λk=>?_) ?_
 .rcases eY (!decide (f.2=0))with e|e
  .exact ak [(2,Z (ax e)),(12,Z (g0 (q:=((!decide (d.2=0))||(!decide (a.Router=b.Router)))) e))] _ _ k
  rcases eY (!decide (d.2=0))with g|g
  .exact ak [(2,Z (ax e)),(6,Z (ax g)),(12,Z ((g0 (q:=!decide (a.Router=b.Router)) g).trans (eS (q:=((!decide (d.2=0))||(!decide (a.Router=b.Router)))) e)))] _ _ k
  exact ak [(2,Z (ax e)),(6,Z (ax g)),(12,Z ((eS (q:=!decide (a.Router=b.Router)) g).trans (eS (q:=((!decide (d.2=0))||(!decide (a.Router=b.Router)))) e)))] _ _ k
 rcases aC c with⟨i,c⟩|⟨i,c⟩
 .refine aJ i<|ak [] [(4,.bool false)] [] ?_
  cases c;exact A.ret aX
 refine aI i<|A.skip ?_
 rcases aC c with⟨h,c⟩|⟨h,c⟩
 .refine ak [(5,Z (ax h))] [(4,.bool true)] [] ?_;cases c;exact A.ret aX
 rcases aC c with⟨j,c⟩|⟨j,c⟩
 .obtain⟨l,n,c⟩:=ah c;refine ak [(5,Z (ax h)),(11,Z (ax j)),(14,aH (ID n) Qx)] [(4,.d (0<l))] [] ?_;cases c;exact A.ret aX
 refine ak [(5,Z (ax h)),(11,Z (ax j))] [(4,.bool false)] [] ?_;cases c;exact A.ret aX
end
section
set_option linter.all false
open Go Go.Proofs.Tryz Go.Lib Go.RowKit Go.Shelf
set_option maxRecDepth 100000
set_option maxHeartbeats 4000000
def QT:Fq prog 71 120 3:=by
 intro d c f b a i g h N K S E p y v R;have ar:=o4;obtain⟨X,O,af,w,ah⟩:=info_parts (by kernel_rfl:(prog.info? 120).map (λb=>(b.zero,b.size,b.bytes))=some (some (.agg #[.int .i64 0,.int .i64 0,.slice none 0 0]),3,40));have T:c*3<=i.size:=by rw[y];exact Nat.mul_le_mul_right _ S
 have u:g.length=c*3:=by rw[<-v,List.length_take];simp;omega
 have aj:a*3<=c*3:=Nat.mul_le_mul_right _ K;have ae:b*3+3<=a*3:=by rw[<-Nat.succ_mul];exact Nat.mul_le_mul_right _ N
 have q:(g.drop (a*3)).length=(c-a)*3:=by rw[List.length_drop,u,Nat.sub_mul]
 obtain⟨A,M,F⟩:∃A:Addr,(if f=a then some (⟨d,0,none⟩:Addr)else some ⟨d,a*3,none⟩)=some A/\(∀n o,(g.drop (a*3))[n]?=some o->h.drew.cell? (A.add n)=some o):=by
  by_cases H:f=a
  .refine⟨⟨d,0,none⟩,by simp[H],λn o m=>?_⟩;rw[List.drop_eq_nil_of_le (by rw[u];exact Nat.mul_le_mul_right _ (by omega))]at m;simp at m
  .refine⟨⟨d,a*3,none⟩,by simp[H],λn o m=>?_⟩;rw[List.getElem?_drop]at m;have Z:a*3+n<g.length:=(List.getElem?_eq_some_iff.1 m).1;have U:i[a*3+n]?=some o:=by rw[<-m,<-v,List.getElem?_take,if_pos (by omega),Array.getElem?_toList]
   rw[Addr.add_lit];show h.cell? _=_;simp only[World.cell?,p,U];rfl
 obtain⟨e,s⟩:∃e:fz,e=(i.toList.take (0+b*3)++g.drop (a*3)++i.toList.drop (0+b*3+(g.drop (a*3)).length)).toArray:=⟨_,rfl⟩;have x:e.size=i.size:=by rw[s];simp;omega
 have dH:∀k,(Builtin.append_ #[27,27] k #[.slice (some ⟨d,0,none⟩) b f,.slice (some A) (c-a) (f-a)]).run prog h.drew=.ok (.slice (some ⟨d,0,none⟩) (b+(c-a)) f) (h.drew.setRow d e):=λk=>by
  have:=BV h.drew 27 k 120 X underlying27 O d 0 b f i p A (c-a) (f-a) (g.drop (a*3)) (by rw[w,q]) F (λY L=>R Y (List.mem_of_mem_drop L)) (by omega) (by rw[w,q,Nat.sub_mul];omega);rw[w,<-s]at this;exact this
 obtain⟨l,t⟩:∃l:cR,l=(Builtin.zeroCells (.agg #[.int .i64 0,.int .i64 0,.slice none 0 0]:Value).cells (c-(b+(c-a)))).toList:=⟨_,rfl⟩;have G:l.length=(a-b)*3:=by
  rw[t,Array.length_toList,yd];show(c-(b+(c-a)))*3=(a-b)*3;congr 1;omega
 obtain⟨j,r⟩:∃j:fz,j=(e.toList.take ((b+(c-a))*3)++l++e.toList.drop ((b+(c-a))*3+l.length)).toArray:=⟨_,rfl⟩;have Q:(b+(c-a))*3+(a-b)*3=c*3:=by rw[<-Nat.add_mul];congr 1;omega
 have ab:∀k,(Builtin.clear_ #[27] k #[.slice (some ⟨d,(b+(c-a))*3,none⟩) (c-(b+(c-a))) (f-(b+(c-a)))]).run prog (h.drew.setRow d e)=.ok (.tuple #[]) ((h.drew.setRow d e).setRow d j):=λk=>by
  have:=Ih (P:=prog) (h.drew.setRow d e) 27 120 k (.agg #[.int .i64 0,.int .i64 0,.slice none 0 0]) underlying27 zeroValue120 d ((b+(c-a))*3) (c-(b+(c-a))) (f-(b+(c-a))) e 120 (setRow_heap h.drew d i e 120 (0,0) p) (by omega) (by rw[<-t,G,x];omega) (CC (by decide) _);rw[<-t,<-r]at this;exact this
 have z:iN h d (b+(c-a)) 120 3 (g.take (b*3)++g.drop (a*3)) (.returned (.slice (some ⟨d,0,none⟩) (b+(c-a)) f)) ((h.drew.setRow d e).setRow d j):=by
  refine⟨d,f,j,rfl,by omega,E,setRow_heap _ d e j 120 (0,0) (setRow_heap h.drew d i e 120 (0,0) p),?_,?_,.inl rfl,λJ I am=>?_,?_,rfl,rfl,rfl,Nat.le_succ _⟩
  .rw[r,<-y,<-x];simp;omega
  .have D:(g.take (b*3)++g.drop (a*3)).length=(b+(c-a))*3:=by rw[List.length_append,q,List.length_take,u,Nat.min_eq_left (by omega),Nat.add_mul]
   have V:e.toList.take ((b+(c-a))*3)=g.take (b*3)++g.drop (a*3):=by
    rw[s,Nat.zero_add];have W:i.toList.take (b*3)=g.take (b*3):=by rw[<-v,List.take_take];congr 1;omega
    show List.take _ (i.toList.take (b*3)++g.drop (a*3)++_)=_;rw[W,List.take_left' D]
   rw[r];show List.take _ (e.toList.take ((b+(c-a))*3)++l++_)=_;rw[V,List.append_assoc,List.take_left' D]
  .rw[setRow_other _ d J j I,setRow_other _ d J e I];rfl
  .simp only[World.setRow,Array.size_modify];exact Nat.le_refl _
 obtain⟨B,C⟩:∃B,B=g.take (b*3)++g.drop (a*3):=⟨_,rfl⟩;rw[<-C]at z ⊢;have ao:¬((b:Int)=(a:Int)):=by omega
 have an:b<=f:=by omega
 have aq:a<=f:=by omega
 have ak:¬(f=b+(c-a)):=by omega
 have ai:f<=9223372036854775807:=by unfold maxLen at E;omega
 clear s x r t G C F q u T Q
 go_enter func71,Tryz.ntmps71
 go_wp2_with fail
 go_region_law_o (refine I2 rfl (.tmp 22) (.tmp 25) 27 27 rfl (.slice (some ⟨d,0,none⟩) b f) (.slice (some A) (c-a) (f-a)) (by simp[Act.eval,Act.put]) (by simp[Act.eval,Act.put,M]) (dH _) ?_)
 go_wp2
 go_ret
 exact z
def D9{d D:Nat}{l m:ng}{i j:Int}(h:mK l i j=some m)(c:D∉[d]):cp prog 71 [(d,.slice 120 3 (af bT l) 0 false)] [.own d,.int .i64 i,.int .i64 j] (λa b=>a=.own D/\b=[(D,.slice 120 3 (af bT m) 0 false)]):=by
 obtain⟨f,rfl⟩:=KS h;have g:=Kl QT (d:=d) (D:=D) (i:=i) (j:=j) (xs:=af bT l) (qC bT l) (AG bT l) (by rw[i1];exact f) c;have e:af bT (l.take i.toNat++l.drop j.toNat)=(af bT l).take i.toNat++(af bT l).drop j.toNat:=by simp[af,List.map_take,List.map_drop]
 rw[e];exact g
def Jt(b n c i f s:Nat)(arr j:fz)(B:TypeId)(cs row:cR)(w:World)(hi:i<n)(M:n+1<=c)(E:c<=maxLen)(N:f≠b)
  (q:w.heap[b]?=some (.cells arr 109 (0,0))) (K:arr.size=c*5) (z:arr.toList.take (n*5)=cs) (r:w.heap[f]?=some (.cells j B (0,0))) (L:j.toList.take 5=row) (A:row.length=5)
  (T:∀v∈cs,v.oneCell'=true) (S:∀v∈row,v.oneCell'=true) :
  Calls prog 211 #[.slice (some ⟨b,0,none⟩) n c,.int .i64 i,.slice (some ⟨f,0,none⟩) 1 s] w (iN w b (n+1) 109 5 (cs.take (i*5)++row++cs.drop (i*5))):=by
 obtain⟨C,D⟩:∃C,C=cs.take (i*5)++row++cs.drop (i*5):=⟨_,rfl⟩;rw[<-D];have au:=o4;have af:¬((1:Int)=0):=by omega
 have ae:¬((i:Int)=(n:Int)):=by omega
 have aj:n*5+5<=arr.size:=by rw[K,<-Nat.succ_mul];exact Nat.mul_le_mul_right _ M
 have y:cs.length=n*5:=by rw[<-z,List.length_take];simp;omega
 have jH:5<=j.size:=by
  have:row.length=min 5 j.size:=by rw[<-L,List.length_take];simp
  omega
 have Q:∀a,a<n*5->w.cell? ⟨b,a,none⟩=cs[a]?:=λa h=>by
  simp only[World.cell?,q];rw[<-z,List.getElem?_take,if_pos h,Array.getElem?_toList];rfl
 have U:∀(g:World),g.heap[f]?=some (.cells j B (0,0))->∀a v,row[a]?=some v->g.cell? ⟨f,a,none⟩=some v:=λg t a v h=>by
  have J:a<row.length:=(List.getElem?_eq_some_iff.1 h).1;have:j[a]?=some v:=by rw[<-h,<-L,List.getElem?_take,if_pos (by omega),Array.getElem?_toList]
  simp only[World.cell?,t,this];rfl
 have Z:i*5+5<=n*5:=by rw[<-Nat.succ_mul];exact Nat.mul_le_mul_right _ hi
 have hV:(cs.drop (i*5)).length=(n-i)*5:=by rw[List.length_drop,y,Nat.sub_mul]
 obtain⟨d,x⟩:∃d:fz,d=(arr.toList.take (i*5+5)++cs.drop (i*5)++arr.toList.drop (i*5+5+(cs.drop (i*5)).length)).toArray:=⟨_,rfl⟩;have F:d.size=arr.size:=by rw[x];simp;omega
 obtain⟨k,u⟩:∃k:fz,k=(d.toList.take (i*5)++row++d.toList.drop (i*5+row.length)).toArray:=⟨_,rfl⟩
 have V:∀o l I,(Builtin.copy_ #[33,33] o #[.slice (some ⟨b,(i+1)*5,none⟩) (n-i) l,.slice (some ⟨b,i*5,none⟩) (n+1-i) I]).run prog w.drew=.ok (goInt (n-i:Nat)) (w.drew.setRow b d):=λo l I=>by
  rw[x,Nat.succ_mul]
  exact yn w.drew 33 33 o 109 b (i*5+5) (n-i) l ⟨b,i*5,none⟩ (n+1-i) I 5 (n-i) arr 109 (cs.drop (i*5)) underlying33 sizeOf109 q (by simp only[Nat.min_def];split<;>omega) hV
   (λa v h=>by
    have J:a<(cs.drop (i*5)).length:=(List.getElem?_eq_some_iff.1 h).1;rw[Addr.add_lit];show w.cell? _=_;rw[Q (i*5+a) (by rw[List.length_drop,y]at J;omega),<-h,List.getElem?_drop])
   (by rw[hV,Nat.sub_mul];omega) (λv r=>T v (List.mem_of_mem_drop r))
 have ak:b<w.heap.size:=fv q
 have W:∀(g:World),g.heap=(w.drew.setRow b d).heap->∀o l,(Builtin.copy_ #[33,33] o #[.slice (some ⟨b,i*5,none⟩) (n+1-i) l,.slice (some ⟨f,0,none⟩) 1 s]).run prog g=.ok (goInt (1:Nat)) (g.setRow b k):=λg t o l=>by
  rw[u]
  exact yn g 33 33 o 109 b (i*5) (n+1-i) l ⟨f,0,none⟩ 1 s 5 1 d 109 row underlying33 sizeOf109 (by rw[t];exact setRow_heap w.drew b arr d 109 (0,0) q) (by simp only[Nat.min_def];split<;>omega) (by omega)
   (λa v h=>by rw[Addr.add_lit,Nat.zero_add];exact U g (by rw[t,setRow_other w.drew b f d N];exact r) a v h)
   (by rw[F];omega) S
 have X:∀H G,(callFunc 234 #[.slice (some ⟨f,0,none⟩) 1 s,.slice (some ⟨b,(i+1)*5,none⟩) H G]).run prog w=.ok (.value (.bool false)) w:=λH G=>by
  rw[run_callFunc_extern func234 (by kernel_rfl) (by kernel_rfl) (by kernel_rfl) (e:=Extern.SlicesOverlaps.overlaps #[33,33] #[4]) (by kernel_rfl),
   Lib.run_overlaps_apart w 33 4 109 underlying33 5 sizeOf109 ⟨f,0,none⟩ ⟨b,(i+1)*5,none⟩ 1 s H G N B 109 j.size arr.size (by simp[World.shape?,r]) (by simp[World.shape?,q]) (by omega) (by simp[World.frozen?,r]) (by simp[World.frozen?,r])]
  rfl
 have ah:IntKind.i64.wrap ((i:Int)+(1:Int))=(i:Int)+(1:Int):=by rw[IntKind.wrap_i64];unfold maxLen at E;omega
 have Y:(0:Int)<=(i:Int)+(1:Int):=by omega
 have ao:i<=n:=by omega
 have aq:((i:Int)+(1:Int)).toNat=i+1:=by omega
 have ab:¬(c=i+1):=by omega
 have ai:(i:Int)<=(n:Int)+(1:Int):=by omega
 have am:¬(c=i):=by omega
 have an:c<=9223372036854775807:=by unfold maxLen at E;omega
 have R:iN w b (n+1) 109 5 C (.returned (.slice (some ⟨b,0,none⟩) (n+1) c)) ((w.drew.setRow b d).setRow b k):=by
  refine⟨b,c,k,rfl,M,E,setRow_heap _ b d k 109 (0,0) (setRow_heap w.drew b arr d 109 (0,0) q),?_,?_,.inl rfl,λP O ar=>?_,?_,rfl,rfl,rfl,?_⟩
  .rw[u,<-K,<-F];simp;omega
  .rw[u,D,x];have:=Kv (arr:=arr.toList) (cs:=cs) (row:=row) (p:=i*5) (m:=n*5) z (by omega) (by rw[A];simp;omega) (by omega);rw[A]at this;rw[Nat.succ_mul,A];exact this
  .rw[setRow_other _ b P k O,setRow_other _ b P d O];rfl
  .simp only[World.setRow,Array.size_modify];exact Nat.le_refl _
  .exact Nat.le_succ _
 clear x u F D y hV
 go_enter func211,Tryz.ntmps211
 go_wp2_with (simp only[X])
 go_region_law_o (refine step_copy_runI rfl _ _ 33 33 rfl _ _ (by simp[Act.eval,Act.put]) (by simp[Act.eval,Act.put]) (V _ _ _) ?_)
 go_wp2_with (refine wpList_copy_runI _ rfl _ _ 33 33 rfl _ _ rfl rfl (W _ rfl _ _) ?_)
 go_ret
 exact R
def Jm(b n c a h:Nat)(arr i:fz)(C:TypeId)(cs row:cR)(w:World)(j:n+1<=c)(x:c<=maxLen)
  (p:w.heap[b]?=some (.cells arr 109 (0,0))) (q:arr.size=c*5) (r:arr.toList.take (n*5)=cs) (y:w.heap[a]?=some (.cells i C (0,0))) (B:i.toList.take 5=row) (f:row.length=5)
  (E:∀v∈row,v.oneCell'=true) :
  Calls prog 211 #[.slice (some ⟨b,0,none⟩) n c,.int .i64 n,.slice (some ⟨a,0,none⟩) 1 h] w (iN w b (n+1) 109 5 (cs++row)):=by
 have Q:=o4;obtain⟨I,D,M,k,N⟩:=info_parts (by kernel_rfl:(prog.info? 109).map (λl=>(l.zero,l.size,l.bytes))=some (some (.agg #[.int .i64 0,.int .i64 0,.bool false,.slice none 0 0,.slice none 0 0]),5,72));have G:n*5+5<=arr.size:=by rw[q,<-Nat.succ_mul];exact Nat.mul_le_mul_right _ j
 have g:cs.length=n*5:=by rw[<-r,List.length_take];simp;omega
 have F:∀d v,row[d]?=some v->w.cell? ((⟨a,0,none⟩:Addr).add d)=some v:=λd v o=>by
  have K:d<row.length:=(List.getElem?_eq_some_iff.1 o).1;have:i[d]?=some v:=by rw[<-o,<-B,List.getElem?_take,if_pos (by omega),Array.getElem?_toList]
  rw[Addr.add_lit,Nat.zero_add];simp only[World.cell?,y,this];rfl
 obtain⟨A,e⟩:∃A:fz,A=(arr.toList.take (0+n*5)++row++arr.toList.drop (0+n*5+row.length)).toArray:=⟨_,rfl⟩
 have z:∀m,(Builtin.append_ #[33,33] m #[.slice (some ⟨b,0,none⟩) n c,.slice (some ⟨a,0,none⟩) 1 h]).run prog w=.ok (.slice (some ⟨b,0,none⟩) (n+1) c) (w.setRow b A):=λm=>by
  have:=BV w 33 m 109 I underlying33 D b 0 n c arr p ⟨a,0,none⟩ 1 h row (by rw[k,f]) F E j (by rw[k,f];omega);rw[k,<-e]at this;exact this
 have s:iN w b (n+1) 109 5 (cs++row) (.returned (.slice (some ⟨b,0,none⟩) (n+1) c)) (w.setRow b A):=by
  refine⟨b,c,A,rfl,j,x,setRow_heap w b arr A 109 (0,0) p,?_,?_,.inl rfl,λJ H P=>setRow_other w b J A H,?_,rfl,rfl,rfl,Nat.le_refl _⟩
  .rw[e,<-q];simp;omega
  .rw[e,Nat.zero_add,r];show List.take _ (cs++row++_)=_;rw[List.take_append_of_le_length (by simp;rw[g,f];omega),List.take_of_length_le (by simp;rw[g,f];omega)]
  .simp only[World.setRow,Array.size_modify];exact Nat.le_refl _
 have L:¬((1:Int)=0):=by omega
 have O:c<=9223372036854775807:=by unfold maxLen at x;omega
 obtain⟨t,u⟩:∃t,t=cs++row:=⟨_,rfl⟩;rw[<-u]at s ⊢;clear e g G u
 go_enter func211,Tryz.ntmps211
 go_wp2_with (at_builtin;refine Lib.wpList_append_run _ rfl _ _ _ _ rfl _ _ rfl rfl _ _ (z _) ?_)
 go_ret
 exact s
def Jn(b n c g m:Nat)(arr o:fz)(E:TypeId)(cs row:cR)(w:World)(K:n<=c)(s:c<n+1)(J:(n+1)*72<=140737488355328)
  (y:w.heap[b]?=some (.cells arr 109 (0,0))) (C:arr.size=c*5) (r:arr.toList.take (n*5)=cs) (z:w.heap[g]?=some (.cells o E (0,0))) (D:o.toList.take 5=row) (j:row.length=5) :
  Calls prog 211 #[.slice (some ⟨b,0,none⟩) n c,.int .i64 n,.slice (some ⟨g,0,none⟩) 1 m] w (iN w b (n+1) 109 5 (cs++row)):=by
 have U:=o4;obtain⟨Q,G,H,x,I⟩:=info_parts (by kernel_rfl:(prog.info? 109).map (λp=>(p.zero,p.size,p.bytes))=some (some (.agg #[.int .i64 0,.int .i64 0,.bool false,.slice none 0 0,.slice none 0 0]),5,72));have M:n*5<=arr.size:=by rw[C];exact Nat.mul_le_mul_right _ K
 have h:cs.length=n*5:=by rw[<-r,List.length_take];simp;omega
 have L:∀a e,row[a]?=some e->w.cell? ((⟨g,0,none⟩:Addr).add a)=some e:=λa e f=>by
  have B:a<row.length:=(List.getElem?_eq_some_iff.1 f).1;have:o[a]?=some e:=by rw[<-f,<-D,List.getElem?_take,if_pos (by omega),Array.getElem?_toList]
  rw[Addr.add_lit,Nat.zero_add];simp only[World.cell?,z,this];rfl
 have F:∀a e,cs[a]?=some e->w.cell? ((⟨b,0,none⟩:Addr).add a)=some e:=λa e f=>by
  have B:a<cs.length:=(List.getElem?_eq_some_iff.1 f).1;have:arr[a]?=some e:=by rw[<-f,<-r,List.getElem?_take,if_pos (by omega),Array.getElem?_toList]
  rw[Addr.add_lit,Nat.zero_add];simp only[World.cell?,y,this];rfl
 obtain⟨d,k⟩:∃d,d=grownCap w (n+1) c 109:=⟨_,rfl⟩;have O:n+1<=d:=by rw[k];exact grownCap_ge w _ _ _
 have N:d<=maxLen:=by rw[k];exact grownCap_le_maxLen w _ _ _ (by unfold maxLen;omega)
 obtain⟨i,l⟩:∃i:fz,i=cs.toArray++row.toArray++Builtin.zeroCells (.agg #[.int .i64 0,.int .i64 0,.bool false,.slice none 0 0,.slice none 0 0]:Value).cells (d-(n+1)):=⟨_,rfl⟩
 have A:∀q,(Builtin.append_ #[33,33] q #[.slice (some ⟨b,0,none⟩) n c,.slice (some ⟨g,0,none⟩) 1 m]).run prog w=.ok (.slice (some ⟨w.heap.size,0,none⟩) (n+1) d) (w.drew.alloc (.cells i 109)):=λq=>by
  have:=run_append_grow w 33 q 109 Q _ underlying33 G H ⟨b,0,none⟩ n c cs (by rw[x,h]) F ⟨g,0,none⟩ 1 m row (by rw[x,j]) L s (by omega) (by rw[I];exact growslice_fits s J);rw[<-k,<-l]at this;exact this
 have t:iN w b (n+1) 109 5 (cs++row) (.returned (.slice (some ⟨w.heap.size,0,none⟩) (n+1) d)) (w.drew.alloc (.cells i 109)):=by
  refine zk O N (arr:=i) ?_ ?_ (vb w _) (λR P=>uU w _ R P) (by show w.heap.size<=(w.heap.push _).size;simp) rfl rfl rfl (Nat.le_succ _)
  .rw[l];simp only[Array.size_append,List.size_toArray,yd,h,j];show n*5+5+(d-(n+1))*5=d*5;rw[<-Nat.succ_mul,<-Nat.add_mul];congr 1;omega
  .rw[l];simp only[Array.toList_append];rw[List.take_append_of_le_length (by simp;rw[h,j];omega),List.take_of_length_le (by simp;rw[h,j];omega)]
 have S:¬((1:Int)=0):=by omega
 have T:c<=9223372036854775807:=by omega
 obtain⟨u,v⟩:∃u,u=cs++row:=⟨_,rfl⟩;rw[<-v]at t ⊢;clear l h M v k
 go_enter func211,Tryz.ntmps211
 go_wp2_with (at_builtin;refine Lib.wpList_append_run _ rfl _ _ _ _ rfl _ _ rfl rfl _ _ (A _) ?_)
 all_goals (go_ret;exact t)
def Ko(c j b:Nat)(k:fz)(r:TypeId)(row:cR)(w:World)(o:w.heap[c]?=some (.cells k r (0,0)))(q:k.toList.take 5=row)(f:row.length=5):
  Calls prog 211 #[.slice none 0 0,.int .i64 (0:Nat),.slice (some ⟨c,0,none⟩) 1 j] w (iN w b 1 109 5 row):=by
 have G:=o4;obtain⟨C,t,u,v,x⟩:=info_parts (by kernel_rfl:(prog.info? 109).map (λl=>(l.zero,l.size,l.bytes))=some (some (.agg #[.int .i64 0,.int .i64 0,.bool false,.slice none 0 0,.slice none 0 0]),5,72))
 have y:∀e i,row[e]?=some i->w.cell? ((⟨c,0,none⟩:Addr).add e)=some i:=λe i n=>by
  have E:e<row.length:=(List.getElem?_eq_some_iff.1 n).1;have:k[e]?=some i:=by rw[<-n,<-q,List.getElem?_take,if_pos (by omega),Array.getElem?_toList]
  rw[Addr.add_lit,Nat.zero_add];simp only[World.cell?,o,this];rfl
 obtain⟨a,g⟩:∃a,a=grownCap w 1 0 109:=⟨_,rfl⟩;have A:1<=a:=by rw[g];exact grownCap_ge w _ _ _
 have z:a<=maxLen:=by rw[g];exact grownCap_le_maxLen w _ _ _ (by unfold maxLen;omega)
 obtain⟨d,h⟩:∃d:fz,d=row.toArray++Builtin.zeroCells (.agg #[.int .i64 0,.int .i64 0,.bool false,.slice none 0 0,.slice none 0 0]:Value).cells (a-1):=⟨_,rfl⟩
 have p:∀m,(Builtin.append_ #[33,33] m #[.slice none 0 0,.slice (some ⟨c,0,none⟩) 1 j]).run prog w=.ok (.slice (some ⟨w.heap.size,0,none⟩) 1 a) (w.drew.alloc (.cells d 109)):=λm=>by
  have:=run_append_nil w 33 m 109 C _ underlying33 t u ⟨c,0,none⟩ 1 j row (by rw[v,f]) y (by omega) (by omega) (by rw[x];omega);rw[<-g,<-h]at this;exact this
 have s:iN w b 1 109 5 row (.returned (.slice (some ⟨w.heap.size,0,none⟩) 1 a)) (w.drew.alloc (.cells d 109)):=by
  refine zk A z (arr:=d) ?_ ?_ (vb w _) (λD B=>uU w _ D B) (by show w.heap.size<=(w.heap.push _).size;simp) rfl rfl rfl (Nat.le_succ _)
  .rw[h];simp only[Array.size_append,List.size_toArray,yd,f];show 5+(a-1)*5=a*5;rw[<-Nat.one_mul 5,<-Nat.mul_assoc,<-Nat.add_mul];congr 1;omega
  .rw[h];simp only[Array.toList_append];rw[List.take_append_of_le_length (by simp;rw[f];omega),List.take_of_length_le (by simp;rw[f];omega)]
 have F:¬((1:Int)=0):=by omega
 clear h g
 go_enter func211,Tryz.ntmps211
 go_wp2_with (at_builtin;refine Lib.wpList_append_run _ rfl _ _ _ _ rfl _ _ rfl rfl _ _ (p _) ?_)
 all_goals (go_ret;exact s)
def JO(b n c i l D:Nat)(arr u:fz)(N:TypeId)(cs row:cR)(w:World)(hi:i<n)(ar:n<=c)(ah:c<n+1)(aq:(n+1)*72<=140737488355328)
  (B:w.heap[b]?=some (.cells arr 109 (0,0))) (ae:arr.size=c*5) (M:arr.toList.take (n*5)=cs) (s:w.heap[l]?=some (.cells u N (0,0))) (af:u.toList.take 5=row) (E:row.length=5)
  (ao:∀v∈cs,v.oneCell'=true) (an:∀v∈row,v.oneCell'=true) :
  Calls prog 211 #[.slice (some ⟨b,0,none⟩) n c,.int .i64 i,.slice (some ⟨l,0,none⟩) 1 D] w (iN w b (n+1) 109 5 (cs.take (i*5)++row++cs.drop (i*5))):=by
 obtain⟨F,G⟩:∃F,F=cs.take (i*5)++row++cs.drop (i*5):=⟨_,rfl⟩;rw[<-G];have a6:=o4;obtain⟨W,aj,ak,am,R⟩:=info_parts (by kernel_rfl:(prog.info? 109).map (λi=>(i.zero,i.size,i.bytes))=some (some (.agg #[.int .i64 0,.int .i64 0,.bool false,.slice none 0 0,.slice none 0 0]),5,72));have aU:n*5<=arr.size:=by rw[ae];exact Nat.mul_le_mul_right _ ar
 have t:cs.length=n*5:=by rw[<-M,List.length_take];simp;omega
 have av:b<w.heap.size:=fv B;have jH:l<w.heap.size:=fv s;have aG:i*5+5<=n*5:=by rw[<-Nat.succ_mul];exact Nat.mul_le_mul_right _ hi
 have hV:(cs.drop (i*5)).length=(n-i)*5:=by rw[List.length_drop,t,Nat.sub_mul]
 have au:∀(a:World),a.heap[l]?=some (.cells u N (0,0))->∀f v,row[f]?=some v->a.cell? ((⟨l,0,none⟩:Addr).add f)=some v:=λa k f v h=>by
  have ab:f<row.length:=(List.getElem?_eq_some_iff.1 h).1;have:u[f]?=some v:=by rw[<-h,<-af,List.getElem?_take,if_pos (by omega),Array.getElem?_toList]
  rw[Addr.add_lit,Nat.zero_add];simp only[World.cell?,k,this];rfl
 have O:∀(a:World),a.heap[b]?=some (.cells arr 109 (0,0))->∀f v,cs[f]?=some v->a.cell? ⟨b,f,none⟩=some v:=λa k f v h=>by
  have ab:f<cs.length:=(List.getElem?_eq_some_iff.1 h).1;have:arr[f]?=some v:=by rw[<-h,<-M,List.getElem?_take,if_pos (by omega),Array.getElem?_toList]
  simp only[World.cell?,k,this];rfl
 obtain⟨d,x⟩:∃d,d=grownCap w (n+1) c 109:=⟨_,rfl⟩;have T:n+1<=d:=by rw[x];exact grownCap_ge w _ _ _
 have S:d<=maxLen:=by rw[x];exact grownCap_le_maxLen w _ _ _ (by unfold maxLen;omega)
 obtain⟨e,y⟩:∃e:fz,e=(cs.take (i*5)).toArray++Builtin.zeroCells (.agg #[.int .i64 0,.int .i64 0,.bool false,.slice none 0 0,.slice none 0 0]:Value).cells (n+1-i)++Builtin.zeroCells (.agg #[.int .i64 0,.int .i64 0,.bool false,.slice none 0 0,.slice none 0 0]:Value).cells (d-(n+1)):=⟨_,rfl⟩;have H:e.size=d*5:=by
  rw[y];simp only[Array.size_append,List.size_toArray,yd,List.length_take,t];show min (i*5) (n*5)+(n+1-i)*5+(d-(n+1))*5=d*5;rw[Nat.min_eq_left (by omega),<-Nat.add_mul,<-Nat.add_mul];congr 1;omega
 have a1:n*5+5<=d*5:=by rw[<-Nat.succ_mul];exact Nat.mul_le_mul_right _ T
 have U:e.toList.take (i*5)=cs.take (i*5):=by
  rw[y];simp only[Array.toList_append];rw[List.append_assoc,List.take_append_of_le_length (by simp;omega),List.take_of_length_le (by simp;omega)]
 have Q:(n:Int)+(1:Int)-(i:Int)=((n+1-i:Nat):Int):=by omega
 have I:i+(n+1-i)=n+1:=by omega
 have P:(Builtin.firstCells W.size i (.slice (some ⟨b,0,none⟩) i c)).run prog w.drew=.ok (cs.take (i*5)).toArray w.drew:=by
  rw[am]
  exact run_firstCells_some w.drew 5 i ⟨b,0,none⟩ i c (cs.take (i*5)) (by rw[List.length_take];omega) (λf v h=>by
   rw[Addr.add_lit,Nat.zero_add];rw[List.getElem?_take]at h;split at h
   .exact O w.drew B f v h
   .cases h)
 have aC:∀j,(Builtin.append_ #[33,3] j #[.slice (some ⟨b,0,none⟩) i c,.int .i64 ((n:Int)+(1:Int)-(i:Int))]).run prog w=.ok (.slice (some ⟨w.heap.size,0,none⟩) (n+1) d) (w.drew.alloc (.cells e 109)):=λj=>by
  have V:=Lib.run_append_grow_zeros w 33 3 j 109 W _ .i64 .i64 underlying33 underlying3 aj ak (some ⟨b,0,none⟩) i c (cs.take (i*5)) P (n+1-i) (by omega) (by omega) (by omega) (by omega) (by rw[R];omega) (by rw[R,I];exact growslice_fits ah aq);rw[I,<-x]at V;rw[Q,y];exact V
 obtain⟨g,z⟩:∃g:fz,g=(e.toList.take (i*5)++row++e.toList.drop (i*5+row.length)).toArray:=⟨_,rfl⟩;have J:g.size=e.size:=by rw[z];simp;omega
 obtain⟨r,A⟩:∃r:fz,r=(g.toList.take (i*5+5)++cs.drop (i*5)++g.toList.drop (i*5+5+(cs.drop (i*5)).length)).toArray:=⟨_,rfl⟩
 have aw:∀(a:World),a.heap=(w.drew.alloc (.cells e 109)).heap->∀j o,(Builtin.copy_ #[33,33] j #[.slice (some ⟨w.heap.size,i*5,none⟩) (n+1-i) o,.slice (some ⟨l,0,none⟩) 1 D]).run prog a=.ok (goInt (1:Nat)) (a.setRow w.heap.size g):=λa k j o=>by
  rw[z]
  exact yn a 33 33 j 109 w.heap.size (i*5) (n+1-i) o ⟨l,0,none⟩ 1 D 5 1 e 109 row underlying33 sizeOf109 (by rw[k];exact vb w _) (by simp only[Nat.min_def];split<;>omega) (by omega)
   (au a (by rw[k,uU w _ l jH];exact s)) (by omega) an
 have ax:∀(a:World),a.heap=((w.drew.alloc (.cells e 109)).setRow w.heap.size g).heap->∀j o L,(Builtin.copy_ #[33,33] j #[.slice (some ⟨w.heap.size,(i+1)*5,none⟩) (n-i) o,.slice (some ⟨b,i*5,none⟩) (n-i) L]).run prog a=.ok (goInt (n-i:Nat)) (a.setRow w.heap.size r):=λa k j o L=>by
  rw[A,Nat.succ_mul]
  exact yn a 33 33 j 109 w.heap.size (i*5+5) (n-i) o ⟨b,i*5,none⟩ (n-i) L 5 (n-i) g 109 (cs.drop (i*5)) underlying33 sizeOf109 (by rw[k];exact setRow_heap _ _ e g 109 (0,0) (vb w _)) (by simp only[Nat.min_def];split<;>omega) hV
   (λf v h=>by
    rw[Addr.add_lit];exact O a (by rw[k,setRow_other _ _ b _ (by omega),uU w _ b av];exact B) (i*5+f) v (by rwa [List.getElem?_drop]at h))
   (by rw[hV,J,H,Nat.sub_mul];omega) (λv s=>ao v (List.mem_of_mem_drop s))
 have ai:∀(q:World),q.heap=(((w.drew.alloc (.cells e 109)).setRow w.heap.size g).setRow w.heap.size r).heap->q.tape=w.tape->q.os=w.os->q.output=w.output->w.drawn<=q.drawn->iN w b (n+1) 109 5 F (.returned (.slice (some ⟨w.heap.size,0,none⟩) (n+1) d)) q:=λq C aD Y Z X=>by
  refine zk T S (arr:=r) ?_ ?_ (by rw[C];exact setRow_heap _ _ g r 109 (0,0) (setRow_heap _ _ e g 109 (0,0) (vb w _))) (λK aE=>by rw[C,setRow_other _ _ K _ (by omega),setRow_other _ _ K _ (by omega),uU w _ K aE]) ?_ aD Y Z X
  .rw[A,<-H,<-J];simp[hV,Nat.sub_mul];omega
  .rw[A,G,z];have:=Kj (iA:=e.toList) (cs:=cs) (row:=row) (p:=i*5) (m:=n*5) U t (by omega) (by rw[E];simp;omega);rw[E]at this;rw[Nat.succ_mul,E];exact this
  .rw[C];simp only[World.setRow,Array.size_modify];show w.heap.size<=(w.heap.push _).size;simp
 have aJ:¬((1:Int)=0):=by omega
 have aH:¬((i:Int)=(n:Int)):=by omega
 have aQ:(c:Int)<(n:Int)+(1:Int):=by omega
 have a3:d<=9223372036854775807:=by unfold maxLen at S;omega
 have a4:¬(d=i):=by omega
 have a5:¬(d=i+1):=by omega
 have aV:¬(c=i):=by omega
 have a0:b≠w.heap.size:=by omega
 have aM:IntKind.i64.wrap ((i:Int)+(1:Int))=(i:Int)+(1:Int):=by rw[IntKind.wrap_i64];omega
 have aI:IntKind.i64.wrap ((n:Int)+(1:Int))=(n:Int)+(1:Int):=by rw[IntKind.wrap_i64];omega
 have aF:(0:Int)<=(i:Int)+(1:Int):=by omega
 have aW:i<=n:=by omega
 have aX:((i:Int)+(1:Int)).toNat=i+1:=by omega
 have aT:(i:Int)<=(n:Int):=by omega
 clear Q I P y x H U z A J t hV G
 go_enter func211,Tryz.ntmps211
 go_wp2_with (first
  |(at_builtin;refine Lib.wpList_append_run _ rfl _ _ _ _ rfl _ _ rfl rfl _ _ (aC _) ?_)
  |(refine wpList_copy_runI _ rfl _ _ 33 33 rfl _ _ rfl rfl (aw _ rfl _ _) ?_))
 go_region_law_o (refine step_copy_runI rfl _ _ 33 33 rfl (.slice (some ⟨w.heap.size,(i+1)*5,none⟩) (n-i) (d-(i+1))) (.slice (some ⟨b,i*5,none⟩) (n-i) (c-i)) (by simp[Act.eval,Act.put]) (by simp[Act.eval,Act.put]) (ax (((w.alloc (.cells e 109)).drew.setRow w.heap.size g).drew) rfl 3 (d-(i+1)) (c-i)) ?_)
 go_wp2
 go_ret
 exact ai _ rfl rfl rfl rfl (Nat.le_add_right w.drawn 2)
def O7:Fp prog 211 109 5 72:=by
 refine⟨λh t i j b c q d g n k l B y z A x o p m a e f w s=>?_,λb c h d g k l a e f=>Ko b c h d g k l a e f⟩;rcases Nat.lt_or_eq_of_le B with u|rfl
 .by_cases r:t+1<=i
  .exact Jt h t i j b c q d g n k l u r z A o p m a e f w s
  .exact JO h t i j b c q d g n k l u y (by omega) x o p m a e f w s
 .have v:n.length<=j*5:=by rw[<-m,List.length_take];omega
  rw[List.take_of_length_le v,List.drop_eq_nil_of_le v,List.append_nil];by_cases r:j+1<=i
  .exact Jm h j i b c q d g n k l r z o p m a e f s
  .exact Jn h j i b c q d g n k l y (by omega) x o p m a e f
def KC{d d2 D:Nat}{l m:pR}{i:Int}{x:aO}(h:qK l i x=some m)(j:d2≠d)(e:D∉[d,d2]):cp prog 211 [(d,.slice 109 5 (af cm l) 0 false),(d2,.slice 109 5 (af cm [x]) 0 false)] [.own d,.int .i64 i,.own d2] (λa c=>a=.own D/\c=[(D,.slice 109 5 (af cm m) 0 false)]):=by
 obtain⟨g,b,rfl⟩:=KR h;have k:=Kk O7 (by decide) (d:=d) (d2:=d2) (D:=D) (i:=i) (xs:=af cm l) (row:=cm.enc x) (qC cm l) (cm.hz x) (AG cm l) (cm.one x) (by rw[i1];exact g) (by rw[i1];exact b) j e;have f:af cm (l.take i.toNat++x::l.drop i.toNat)=(af cm l).take i.toNat++cm.enc x::(af cm l).drop i.toNat:=by simp[af,List.map_take,List.map_drop]
 rw[f];exact k
end
section
open Go Go.Proofs.Tryz
set_option maxRecDepth 100000
set_option linter.all false
def IK{b:aO}{c:Int}{r:Int}(a:uh b c=some r):bB prog 210 [] [.agg (dB b),u c] (u r):=by
 refine bq func210 rfl rfl ?_;unfold uh at a;refine ak [(0,.al 422)] [(1,u c),(2,.ptr 422 0)] [(422,.cells 109 (dB b))] ?_;obtain⟨d,e,a⟩:=ah a;refine ak [(3,aH (jE e) jZ)] [(4,u d)] [] ?_;cases a;exact A.ret aX
def HT{d:bF}{r:bF}(b:ry d=some r):cp prog 169 [] [.agg (eF d)] (λa i=>a=.agg [.own 125]/\i=[(125,.slice 109 5 (af cm r.bf) 0 false)]):=by
 refine bq func169 rfl rfl ?_;unfold ry at b;refine ak [(0,.al 315),(1,.al 127)] [(1,.ptr 315 0),(2,.ptr 127 0)] [(315,.cells 35 (eF d)),(127,.c 35 [.az])]<|aT [(0,.al 149)] [] [(3,.ptr 149 0)] [] [(149,.c 35 [.az])]<|A.seq<|aT [(2,Z (bl cm d.bf))] [1] [(7,aj cm d.bf),(8,u d.bf.length),(9,u 0)] [315] []<|A.block<|atz 7 rfl λj=>?_
 obtain⟨n,o,p,q,b⟩:=cO b;refine atx (l:=d.bf) (cD:=0) (B:=n) (K:=o) b (λc=>λe=>[(2,.ptr 127 0),(3,.ptr 149 0),(7,aj cm d.bf),(8,u d.bf.length),(9,u c)]) (λc=>λe=>[(127,.c 35 [.az]),(149,.c 35 [.own 186]),(186,.slice 109 5 (af cm e) 0 false)]) ?_ ?_ ?_
 .exact ct [.ac 149 186 109 5 0] []
 .rintro c s v e m f b;rw[p]at b;refine ai [] [] [(10,.d ((c:Int)<d.bf.length))]<|A.seq<|aJ (cT f)<|A.skip<|A.seq<|A.block<|aT [(0,bh (ix cm (b3 f))),(2,.al 418)] [10] [(5,.ptr 418 0)] [] [(418,.cells 109 (dB s))] ?_
  obtain⟨w,t,b⟩:=ah b;obtain⟨g,h,b⟩:=ah b;exact bX [(3,aH (xM t) wD),(5,dH 282 (ap cm (bytes:=72) (by decide) h))] [5] [] [149,186,418] [(149,.c 35 [.own 282]),(282,.slice 109 5 (af cm g) 0 false)]<|bu [(0,Z (cQ f j))] [9] [(9,u ((c+1:Nat):Int))]<|Exists.intro g (And.intro b (ct [.b5 282 186] []))
 rintro c e m k b;rw[q]at b;refine ai [] [] [(10,.d ((c:Int)<d.bf.length))]<|A.seq<|aI (cS k)<|A.exit<|aT [] [3,7,8,9,10] [] [127,149] [(127,.c 35 [.own 186])]<|A.ret ?_
 obtain rfl:=cw b;exact atv b0 [.b5 186 125] rfl (by kernel_rfl)
def Ib{d:bF}{a:aO}{r:Bool×bF}(b:rE d a=some r):cp prog 170 [(505017000,.slice 109 5 (af cm d.bf) 0 false),(154,.c 35 [.own 505017000])] [.ptr 154 0,.agg (dB a)] (λa q=>a=.bool r.1/\q=[(154,.c 35 [.own 294]),(294,.slice 109 5 (af cm r.2.bf) 0 false)]):=by
 refine bq func170 rfl rfl ?_;unfold rE at b;refine ak [(0,.al 229)] [(0,.ptr 154 0),(3,.ptr 229 0)] [(505017000,.slice 109 5 (af cm d.bf) 0 false),(154,.c 35 [.own 505017000]),(229,.cells 109 (dB a))] ?_;obtain⟨f,x,b⟩:=ah b;refine ai [(6,bp [505017000] (R3 (ho:=210) (h0:=[]) (kI:=Pv) (kJ:=λ_ _ _ w=>IK w) x) Pu)] [] [(5,u f.1),(6,.bool f.2)] ?_;obtain⟨m,s,b⟩:=cW b;refine A.J (J:=m) (r:=r) (λe=>[]) (λe=>[(154,.c 35 [.own 278]),(278,.slice 109 5 (af cm e) 0 false)]) ?_ ?_
 .refine A.block<|ai [] [6] [(17,.bool (!f.2))] ?_
  rcases aC b with⟨g,b⟩|⟨g,b⟩
  .refine aJ g ?_;obtain⟨z,o,b⟩:=ah b;obtain⟨i,p,b⟩:=ah b;exact jP [(7,aH (xM o) wD),(8,.al 170028),(9,bV [520170001] (KC (d:=505017000) (d2:=170028) (D:=520170001) p (by decide) (by decide)) Pw)] [] [(154,.c 35 [.own 520170001]),(520170001,.slice 109 5 (af cm i) 0 false)]<|Exists.intro i (And.intro b (ct [.b5 520170001 278] []))
  refine aI g ?_;obtain⟨y,c,b⟩:=ah b;obtain⟨l,k,b⟩:=ah b;refine ai [(6,bh (ix cm c)),(7,eK 505017000 0 (ix cm c)),(8,aH (IY k) Px)] [17] [(32,.bool l)] ?_;rcases aC b with⟨h,b⟩|⟨h,b⟩
  .refine aJ h ?_;obtain⟨n,t,b⟩:=ah b;obtain⟨j,v,b⟩:=ah b;exact jP [(6,aH (xM t) wD),(7,bh (ix cm c)),(8,iY 505017000 (st cm (off:=0) (ca:=(dB n)) c v rfl) (jJ c).1.1)] [] [(505017000,.slice 109 5 (af cm j) 0 false),(154,.c 35 [.own 505017000])]<|Exists.intro j (And.intro b (ct [.rn 505017000 278] []))
  refine aI h<|aT [] [0,3,5,32] [(4,.bool false)] [229] []<|A.ret ?_
  obtain rfl:=cw b;exact atv b0 [.rn 505017000 294] rfl (by kernel_rfl)
 rintro e b;rw[s]at b;refine ai [] [] [(4,.bool true)]<|A.ret ?_
 obtain rfl:=cw b;exact atv b0 [.b5 278 294] rfl (by kernel_rfl)
def IZ{d:bF}{a:aO}{r:bF×Bool}(b:uF d a=some r):bB prog 133 [] [.agg (eF d),.agg (dB a)] (.bP [.agg (eF r.1),.bool r.2]):=by
 refine bq func133 rfl rfl ?_;unfold uF at b;refine ak [(0,.al 310),(1,.al 198),(2,.al 156)] [(2,.ptr 310 0),(3,.ptr 198 0),(4,.ptr 156 0)] [(310,.cells 35 (eF d)),(198,.cells 109 (dB a)),(156,.c 35 [.az])] ?_;obtain⟨j,o,b⟩:=ah b;refine aT [(1,bV [125] (HT o) Gs),(2,.al 192)] [] [(6,.ptr 192 0)] [] [(125,.slice 109 5 (af cm j.bf) 0 false),(192,.c 35 [.own 125])]<|A.seq ?_
 obtain⟨l,n,b⟩:=cW b;refine A.J (J:=l) (r:=r) (λc=>[(3,.ptr 198 0),(4,.ptr 156 0),(6,.ptr 192 0),(17,.bool c)]) (λc=>[(198,.cells 109 (dB a)),(156,.c 35 [.az]),(125,.slice 109 5 (af cm j.bf) 0 false),(192,.c 35 [.own 125])]) ?_ ?_
 .obtain⟨p,i,b⟩:=ah b;rcases aC b with⟨f,b⟩|⟨f,b⟩
  .exact bX [(1,aH (mU i) mG),(3,Z (ax f))] [2] [(17,.bool true)] [310] []<|aV true b
  obtain⟨h,m,b⟩:=ah b;exact bX [(1,aH (mU i) mG),(3,Z (ax f)),(5,aH (q9 m) qO)] [2] [(17,.bool (!h))] [310] []<|aV (!h) b
 rintro c b;rw[n]at b;rcases aC b with⟨g,b⟩|⟨g,b⟩
 .refine aJ g<|aT [] [3,6,17] [(5,.bool false)] [198,156,192] [(156,.c 35 [.own 125])]<|A.ret ?_
  obtain rfl:=cw b;exact atv b0 [.bN [125]] rfl (by kernel_rfl)
 refine aI g<|A.skip ?_
 obtain⟨e,k,b⟩:=ah b;refine aT [(1,bV [272] (ep.at [(505017000,125),(154,192),(294,272)] (Ib k)) Gt)] [3,17] [(7,.bool e.1)] [198,125,192] [(192,.c 35 [.own 272]),(272,.slice 109 5 (af cm e.2.bf) 0 false)]<|aT [] [6,7] [(5,.bool e.1)] [156,192] [(156,.c 35 [.own 272])]<|A.ret ?_
 obtain rfl:=cw b;exact atv b0 [.bN [272]] rfl (by kernel_rfl)
def IL{a:bF}{b:bF}{r:bF×Int}(c:uj a b=some r):bB prog 138 [] [.agg (eF a),.agg (eF b)] (.bP [.agg (eF r.1),u r.2]):=by
 refine bq func138 rfl rfl ?_;unfold uj at c;refine ak [(0,.al 226),(1,.al 199),(2,.al 100)] [(2,.ptr 226 0),(3,.ptr 199 0),(4,.ptr 100 0)] [(226,.cells 35 (eF a)),(199,.cells 35 (eF b)),(100,.c 35 [.az])]<|A.seq ?_
 obtain⟨p,t,c⟩:=cW c;refine A.J (J:=p) (r:=r) (λf=>[(2,.ptr 226 0),(3,.ptr 199 0),(4,.ptr 100 0),(16,.bool f)]) (λf=>[(226,.cells 35 (eF a)),(199,.cells 35 (eF b)),(100,.c 35 [.az])]) ?_ ?_
 .obtain⟨G,m,c⟩:=ah c;rcases aC c with⟨h,c⟩|⟨h,c⟩
  .exact bu [(1,aH (mU m) mG),(3,Z (ax h))] [] [(16,.bool true)]<|aV true c
  obtain⟨k,q,c⟩:=ah c;exact bu [(1,aH (mU m) mG),(3,Z (ax h)),(5,aH (mU q) mG)] [] [(16,.bool (!decide (k=0)))]<|aV (!decide (k=0)) c
 rintro f c;rw[t]at c;rcases aC c with⟨i,c⟩|⟨i,c⟩
 .refine aJ i<|aT [] [2,3,16] [(5,u 1)] [226,199] [] ?_
  cases c;exact A.ret aX
 refine aI i<|A.skip ?_
 obtain⟨n,s,c⟩:=ah c;refine aT [(1,bV [125] (HT s) Gs),(2,.al 148)] [2,16] [(6,.ptr 148 0)] [226] [(125,.slice 109 5 (af cm n.bf) 0 false),(148,.c 35 [.own 125])]<|A.seq<|aT [(2,Z (bl cm b.bf))] [3] [(21,aj cm b.bf),(22,u b.bf.length),(23,u 0)] [199] []<|A.block<|atz 21 rfl λv=>?_
 obtain⟨y,z,C,D,c⟩:=cO c;refine atx (l:=b.bf) (cD:=0) (B:=y) (K:=z) c (λd=>λe=>[(4,.ptr 100 0),(6,.ptr 148 0),(21,aj cm b.bf),(22,u b.bf.length),(23,u d)]) (λd=>λe=>[(100,.c 35 [.az]),(148,.c 35 [.own 176]),(176,.slice 109 5 (af cm e) 0 false)]) ?_ ?_ ?_
 .exact ct [.b5 125 176] []
 .rintro d E F e x g c;rw[C]at c;refine ai [] [] [(24,.d ((d:Int)<b.bf.length))]<|A.seq<|aJ (cT g)<|A.skip<|A.seq<|A.block<|aT [(0,bh (ix cm (b3 g))),(2,.al 410)] [24] [(8,.ptr 410 0)] [] [(410,.cells 109 (dB E))] ?_
  obtain⟨j,o,c⟩:=ah c;exact bX [(1,bV [273] (ep.at [(505017000,176),(154,148),(294,273)] (Ib o)) Gt)] [8] [] [148,176,410] [(148,.c 35 [.own 273]),(273,.slice 109 5 (af cm j.2.bf) 0 false)]<|bu [(0,Z (cQ g v))] [23] [(23,u ((d+1:Nat):Int))]<|Exists.intro j.2.bf (And.intro c (ct [.b5 273 176] []))
 rintro d e x w c;rw[D]at c;refine ai [] [] [(24,.d ((d:Int)<b.bf.length))]<|A.seq<|aI (cS w)<|A.exit<|aT [] [6,21,22,23,24] [(5,u 0)] [100,148] [(100,.c 35 [.own 176])]<|A.ret ?_
 obtain rfl:=cw c;exact atv b0 [.bN [176]] rfl (by kernel_rfl)
def Jo{t:aK}{c:Int}{seq:Int}{p:sL}{r:aO×Int}(b:uS t c seq p=some r):cp prog 130 [] [.agg (bE t),u c,u seq,aj c8 p] (λa F=>a=.bP [.agg [u r.1.Router,u r.1.Seq,.bool r.1.bw,.own 195,.own 196],u r.2]/\F=[(195,.slice 152 3 (af dg r.1.Links) 0 false),(196,.slice 103 3 (af c8 r.1.Claims) 0 false)]):=by
 refine bq func130 rfl rfl ?_;unfold uS at b;refine ak [(0,.al 224),(1,.al 45)] [(1,u c),(2,u seq),(3,aj c8 p),(4,.ptr 224 0),(8,.ptr 45 0)] [(224,.cells 41 (bE t)),(45,.c 109 [u 0,u 0,.bool false,.az,.az])]<|A.seq<|A.block ?_
 obtain⟨D,T,b⟩:=ah b;refine ai [(1,aH (kV T) lF)] [] [(13,.bool (!decide (D=0)))] ?_;rcases aC b with⟨k,b⟩|⟨k,b⟩
 .refine aJ k<|aT [] [1,2,3,4,13] [(9,u 1)] [224] []<|A.ret ?_
  obtain rfl:=cw b;exact atv b0 [.ac 45 195 152 3 3,.ac 45 196 103 3 4] rfl (by kernel_rfl)
 refine aI k ?_;obtain⟨G,C,b⟩:=ah b;refine ai [(2,aH (nT C) nI)] [13] [(18,.bool (!G))] ?_;rcases aC b with⟨m,b⟩|⟨m,b⟩
 .refine aJ m<|aT [] [1,2,3,4,18] [(9,u 4)] [224] []<|A.ret ?_
  obtain rfl:=cw b;exact atv b0 [.ac 45 195 152 3 3,.ac 45 196 103 3 4] rfl (by kernel_rfl)
 refine aI m<|A.skip ?_
 obtain⟨e,E,b⟩:=ah b;obtain⟨j,x,b⟩:=ah b;refine aT [(4,aH (xH E) wB),(6,dH 83 (ap c8 (bytes:=24) (by decide) x)),(8,.al 96)] [2,3,18] [(10,.ptr 96 0)] [] [(83,.slice 103 3 (af c8 j) 0 false),(96,.c 109 [u c,u seq,.bool e,.az,.own 83])]<|A.seq<|aT [(2,Z (bl aD t.Links))] [4] [(33,aj aD t.Links),(34,u t.Links.length),(35,u 0)] [224] []<|A.block<|atz 33 rfl λM=>?_
 obtain⟨P,Q,R,S,b⟩:=cO b;refine atx (l:=t.Links) (cD:=0) (B:=P) (K:=Q) b (λd=>λf=>[(1,u c),(8,.ptr 45 0),(10,.ptr 96 0),(33,aj aD t.Links),(34,u t.Links.length),(35,u d)]) (λd=>λf=>[(45,.c 109 [u 0,u 0,.bool false,.az,.az]),(83,.slice 103 3 (af c8 j) 0 false),(96,.c 109 [u c,u seq,.bool e,.own 110,.own 83]),(110,.slice 152 3 (af dg f) 0 false)]) ?_ ?_ ?_
 .exact ct [.ac 96 110 152 3 3] []
 .rintro d q U f O h b;rw[R]at b;refine ai [] [] [(36,.d ((d:Int)<t.Links.length))]<|A.seq<|aJ (cT h)<|A.skip ?_
  obtain⟨y,H,b⟩:=cW b;refine A.J (J:=y) (r:=r) (λg=>[(1,u c),(8,.ptr 45 0),(10,.ptr 96 0),(33,aj aD t.Links),(34,u t.Links.length),(35,u d)]) (λg=>[(45,.c 109 [u 0,u 0,.bool false,.az,.az]),(83,.slice 103 3 (af c8 j) 0 false),(96,.c 109 [u c,u seq,.bool e,.own 110,.own 83]),(110,.slice 152 3 (af dg g) 0 false)]) ?_ ?_
  .refine A.block<|aT [(0,bh (ix aD (b3 h))),(2,.al 225)] [36] [(12,.ptr 225 0)] [] [(225,.cells 101 (dG q))] ?_
   refine ai [] [] [(39,u c)]<|A.block<|ai [] [] [(40,.d (c=q.A))] ?_
   rcases aC b with⟨i,b⟩|⟨i,b⟩
   .refine aJ i ?_;obtain⟨s,w,b⟩:=ah b;exact bX [(10,dH 357 (ap dg (bytes:=24) (by decide) w))] [12,39,40] [] [96,110,225] [(96,.c 109 [u c,u seq,.bool e,.own 357,.own 83]),(357,.slice 152 3 (af dg s) 0 false)]<|Exists.intro s (And.intro b (ct [.b5 357 110] []))
   refine aI i<|ai [] [39,40] [(56,.d (c=q.B))] ?_
   rcases aC b with⟨o,b⟩|⟨o,b⟩
   .refine aJ o ?_;obtain⟨v,I,b⟩:=ah b;exact bX [(10,dH 358 (ap dg (bytes:=24) (by decide) I))] [12,56] [] [96,110,225] [(96,.c 109 [u c,u seq,.bool e,.own 358,.own 83]),(358,.slice 152 3 (af dg v) 0 false)]<|Exists.intro v (And.intro b (ct [.b5 358 110] []))
   exact aI o<|A.skip<|aV f b
  rintro g b;rw[H]at b;exact bu [(0,Z (cQ h M))] [35] [(35,u ((d+1:Nat):Int))]<|aV g b
 rintro d f O N b;rw[S]at b;refine ai [] [] [(36,.d ((d:Int)<t.Links.length))]<|A.seq<|aI (cS N)<|A.exit<|A.seq ?_
 obtain⟨z,L,b⟩:=ah b;refine ai [(1,bp [110,83] (q9 L) qO)] [1,33,34,35,36] [(75,.bool (!z))] ?_;rcases aC b with⟨n,b⟩|⟨n,b⟩
 .refine aJ n<|aT [] [10,75] [(9,u 2)] [83,96,110] []<|A.ret ?_
  obtain rfl:=cw b;exact atv b0 [.ac 45 195 152 3 3,.ac 45 196 103 3 4] rfl (by kernel_rfl)
 refine aI n<|A.skip<|aT [] [10,75] [(9,u 0)] [45,96] [(45,.c 109 [u c,u seq,.bool e,.own 110,.own 83])]<|A.ret ?_
 obtain rfl:=cw b;exact atv b0 [.b5 110 195,.b5 83 196] rfl (by kernel_rfl)
variable {f:aA}
def pf{r:aK}(b:kW f=some r):cp prog 58 [] [.agg (cK f)] (λa j=>a=.agg [.own 29,.own 30]/\j=[(29,.slice 79 2 (af bz r.aL) 0 false),(30,.slice 101 5 (af aD r.Links) 0 false)]):=by
 refine bq func58 rfl rfl ?_;unfold kW at b;refine ak [(0,.al 343),(1,.al 132)] [(1,.ptr 343 0),(2,.ptr 132 0)] [(343,.cells 29 (cK f)),(132,.c 41 [.az,.az])] ?_;obtain⟨h,v,b⟩:=ah b;refine aT [(2,bV [12] (xh v) wZ),(4,.al 152)] [] [(3,.ptr 152 0)] [] [(12,.slice 101 5 (af aD h) 0 false),(152,.c 41 [.az,.own 12])]<|A.seq<|aT [(2,Z (bl bA f.ay))] [1] [(11,aj bA f.ay),(12,u f.ay.length),(13,u 0)] [343] []<|A.block<|atz 11 rfl λk=>?_
 obtain⟨o,p,q,s,b⟩:=cO b;refine atx (l:=f.ay) (cD:=0) (B:=o) (K:=p) b (λc=>λd=>[(2,.ptr 132 0),(3,.ptr 152 0),(11,aj bA f.ay),(12,u f.ay.length),(13,u c)]) (λc=>λd=>[(132,.c 41 [.az,.az]),(12,.slice 101 5 (af aD h) 0 false),(152,.c 41 [.own 185,.own 12]),(185,.slice 79 2 (af bz d) 0 false)]) ?_ ?_ ?_
 .exact ct [.ac 152 185 79 2 0] []
 .rintro c t w d n e b;rw[q]at b;refine ai [] [] [(14,.d ((c:Int)<f.ay.length))]<|A.seq<|aJ (cT e)<|A.skip<|A.seq<|A.block<|aT [(0,bh (ix bA (b3 e))),(2,.al 443)] [14] [(5,.ptr 443 0)] [] [(443,.cells 37 (ir t))] ?_
  obtain⟨g,i,b⟩:=ah b;exact bX [(8,dH 302 (ap bz (bytes:=16) (by decide) i))] [5] [] [152,185,443] [(152,.c 41 [.own 302,.own 12]),(302,.slice 79 2 (af bz g) 0 false)]<|bu [(0,Z (cQ e k))] [13] [(13,u ((c+1:Nat):Int))]<|Exists.intro g (And.intro b (ct [.b5 302 185] []))
 rintro c d n m b;rw[s]at b;refine ai [] [] [(14,.d ((c:Int)<f.ay.length))]<|A.seq<|aI (cS m)<|A.exit<|aT [] [3,11,12,13,14] [] [132,152] [(132,.c 41 [.own 185,.own 12])]<|A.ret ?_
 obtain rfl:=cw b;exact atv b0 [.b5 185 29,.b5 12 30] rfl (by kernel_rfl)
variable {r:Bool}
def Iv{n:a2}{a:Int}(b:xZ n a=some r):bB prog 143 [] [.agg (ir n),.dR [u a]] (.bool r):=by
 refine bq func143 rfl rfl ?_;unfold xZ at b;refine ak [(0,.al 412)] [(1,.dR [u a]),(2,.ptr 412 0)] [(412,.cells 37 (ir n))]<|ak [] [(3,.d (n.Router=a))] [] ?_
 cases b;exact A.ret aX
def uc{a:Int}{r:Int×Bool}(b:mX f a=some r):bB prog 75 [] [.agg (cK f),u a] (.bP [u r.1,.bool r.2]):=by
 refine bq func75 rfl rfl ?_;unfold mX at b;refine ak [(0,.al 454),(1,.al 388)] [(2,.ptr 454 0),(3,.ptr 388 0)] [(454,.cells 29 (cK f)),(388,.c 3 [u a])] ?_;obtain⟨c,e,b⟩:=ah b;refine ak [(3,bp [388] (Sn (c3:=143) (dF:=[.dR [u a]]) (eO:=PK) (eN:=λ_ _ d=>Iv d) e) PJ)] [(6,u c)] []<|ak [] [(4,u c),(5,.d (0<=c))] [] ?_
 cases b;exact A.ret aX
def kX{r:Int}(a:ji f=some r):bB prog 25 [] [.agg (cK f)] (u r):=by
 refine bq func25 rfl rfl ?_;unfold ji at a;refine ak [(0,.al 34)] [(1,.ptr 34 0)] [(34,.cells 29 (cK f))]<|A.seq ?_
 obtain⟨F,G,a⟩:=cW a;refine A.J (J:=F) (r:=r) (λi=>[(1,.ptr 34 0),(20,.bool i)]) (λi=>[(34,.cells 29 (cK f))]) ?_ ?_
 .obtain⟨aw,C,a⟩:=ah a;obtain⟨aD,x,a⟩:=ah a;rcases aC a with⟨k,a⟩|⟨k,a⟩
  .exact bu [(1,bV [510025001,510025002] (ep.at [(29,510025001),(30,510025002)] (pf C)) oW),(2,bp [510025001,510025002] (kV x) lF),(4,Z (ax k))] [] [(20,.bool true)]<|aV true a
  exact bu [(1,bV [510025001,510025002] (ep.at [(29,510025001),(30,510025002)] (pf C)) oW),(2,bp [510025001,510025002] (kV x) lF),(4,Z (ax k)),(7,Z (bl bT f.aY))] [] [(20,.d (400<(f.aY.length:Int)))]<|aV (decide (400<(f.aY.length:Int))) a
 rintro i a;rw[G]at a;rcases aC a with⟨m,a⟩|⟨m,a⟩
 .refine aJ m<|ak [] [(2,u 1)] [] ?_
  cases a;exact A.ret aX
 refine aI m<|A.skip<|A.seq<|ai [(2,Z (bl bA f.ay))] [20] [(22,aj bA f.ay),(23,u f.ay.length),(24,u 0)]<|A.block<|atz 22 rfl λM=>?_
 obtain⟨R,S,T,U,a⟩:=cO a;refine atx (l:=f.ay) (cD:=0) (B:=R) (K:=S) a (λc=>λ()=>[(1,.ptr 34 0),(22,aj bA f.ay),(23,u f.ay.length),(24,u c)]) (λc=>λ()=>[(34,.cells 29 (cK f))]) ?_ ?_ ?_
 .exact c5
 .rintro c aq av ⟨⟩ Q j a;rw[T]at a;refine ai [] [] [(25,.d ((c:Int)<f.ay.length))]<|A.seq<|aJ (cT j)<|A.skip<|A.seq<|A.block<|aT [(0,bh (ix bA (b3 j))),(2,.al 426)] [25] [(4,.ptr 426 0)] [] [(426,.cells 37 (ir aq))] ?_
  obtain⟨P,W,a⟩:=cW a;refine A.J (J:=P) (r:=r) (λp=>[(1,.ptr 34 0),(22,aj bA f.ay),(23,u f.ay.length),(24,u c),(50,.bool p)]) (λp=>[(34,.cells 29 (cK f))]) ?_ ?_
  .rcases aC a with⟨d,a⟩|⟨d,a⟩
   .exact bX [(3,Z (ax d))] [4] [(50,.bool true)] [426] []<|aV true a
   rcases aC a with⟨g,a⟩|⟨g,a⟩
   .exact bX [(3,Z (ax d)),(8,Z (ax g))] [4] [(50,.bool true)] [426] []<|aV true a
   obtain⟨au,y,a⟩:=ah a;rcases aC a with⟨o,a⟩|⟨o,a⟩
   .exact bX [(3,Z (ax d)),(8,Z (ax g)),(14,aH (q9 y) qO),(17,Z (ax o))] [4] [(50,.bool true)] [426] []<|aV true a
   obtain⟨w,E,a⟩:=ah a;exact bX [(3,Z (ax d)),(8,Z (ax g)),(14,aH (q9 y) qO),(17,Z (ax o)),(20,aH (mU E) mG)] [4] [(50,.bool (!decide (w=0)))] [426] []<|aV (!decide (w=0)) a
  rintro p a;rw[W]at a;rcases aC a with⟨q,a⟩|⟨q,a⟩
  .refine aJ q<|ak [] [(2,u 1)] [] ?_
   cases a;exact A.ret aX
  exact aI q<|A.skip<|bu [(0,Z (cQ j M))] [24,50] [(24,u ((c+1:Nat):Int))]<|aV () a
 rintro c ⟨⟩ Q N a;rw[U]at a;refine ai [] [] [(25,.d ((c:Int)<f.ay.length))]<|A.seq<|aI (cS N)<|A.exit<|A.seq<|ai [(2,Z (bl bT f.aY))] [22,23,24,25] [(53,aj bT f.aY),(54,u f.aY.length),(55,u 0)]<|A.block<|atz 53 rfl λY=>?_
 obtain⟨ae,an,af,am,a⟩:=cO a;refine atx (l:=f.aY) (cD:=0) (B:=ae) (K:=an) a (λb=>λ()=>[(1,.ptr 34 0),(53,aj bT f.aY),(54,u f.aY.length),(55,u b)]) (λb=>λ()=>[(34,.cells 29 (cK f))]) ?_ ?_ ?_
 .exact c5
 .rintro b ar aE ⟨⟩ X n a;rw[af]at a;refine ai [] [] [(56,.d ((b:Int)<f.aY.length))]<|A.seq<|aJ (cT n)<|A.skip<|A.seq<|A.block<|aT [(0,bh (ix bT (b3 n))),(2,.al 255)] [56] [(6,.ptr 255 0)] [] [(255,.cells 120 (m3 ar))] ?_
  obtain⟨O,D,a⟩:=ah a;refine ai [(3,aH (uc D) s5)] [] [(8,.bool O.2)] ?_;obtain⟨I,H,a⟩:=ah a;refine ai [(3,aH (uc H) s5)] [] [(10,.bool I.2)] ?_;obtain⟨ab,ao,a⟩:=cW a;refine A.J (J:=ab) (r:=r) (λv=>[(1,.ptr 34 0),(53,aj bT f.aY),(54,u f.aY.length),(55,u b),(91,.bool v)]) (λv=>[(34,.cells 29 (cK f))]) ?_ ?_
  .rcases aC a with⟨e,a⟩|⟨e,a⟩
   .exact bX [(2,Z (ax e))] [6,8,10] [(91,.bool true)] [255] []<|aV true a
   rcases aC a with⟨h,a⟩|⟨h,a⟩
   .exact bX [(2,Z (ax e)),(6,Z (ax h))] [6,8,10] [(91,.bool true)] [255] []<|aV true a
   rcases aC a with⟨t,a⟩|⟨t,a⟩
   .exact bX [(2,Z (ax e)),(6,Z (ax h)),(13,Z (ax t))] [6,8,10] [(91,.bool true)] [255] []<|aV true a
   obtain⟨z,L,a⟩:=ah a;exact bX [(2,Z (ax e)),(6,Z (ax h)),(13,Z (ax t)),(16,aH (mU L) mG)] [6,8,10] [(91,.bool (!decide (z=0)))] [255] []<|aV (!decide (z=0)) a
  rintro v a;rw[ao]at a;rcases aC a with⟨s,a⟩|⟨s,a⟩
  .refine aJ s<|ak [] [(2,u 1)] [] ?_
   cases a;exact A.ret aX
  exact aI s<|A.skip<|bu [(0,Z (cQ n Y))] [55,91] [(55,u ((b+1:Nat):Int))]<|aV () a
 rintro b ⟨⟩ X V a;rw[am]at a;refine ai [] [] [(56,.d ((b:Int)<f.aY.length))]<|A.seq<|aI (cS V)<|A.exit<|ak [] [(2,u 0)] [] ?_
 cases a;exact A.ret aX
def tQ{n:a2}{r:aO×Bool}(c:m2 f n=some r):cp prog 62 [] [.agg (cK f),.agg (ir n)] (λa g=>a=.bP [.agg [u r.1.Router,u r.1.Seq,.bool r.1.bw,.own 150,.own 151],.bool r.2]/\g=[(150,.slice 152 3 (af dg r.1.Links) 0 false),(151,.slice 103 3 (af c8 r.1.Claims) 0 false)]):=by
 refine bq func62 rfl rfl ?_;unfold m2 at c;refine ak [(0,.al 346),(1,.al 347),(2,.al 184)] [(2,.ptr 346 0),(3,.ptr 347 0),(4,.ptr 184 0)] [(346,.cells 29 (cK f)),(347,.cells 37 (ir n)),(184,.c 109 [u 0,u 0,.bool false,.az,.az])]<|A.seq<|ai [] [] [(10,.d (n.Seq=0))] ?_
 rcases aC c with⟨d,c⟩|⟨d,c⟩
 .refine aJ d<|aT [] [2,3,10] [(5,.bool false)] [346,347] []<|A.ret ?_
  obtain rfl:=cw c;exact atv b0 [.ac 184 150 152 3 3,.ac 184 151 103 3 4] rfl (by kernel_rfl)
 refine aI d<|A.skip ?_
 obtain⟨i,h,c⟩:=ah c;obtain⟨b,e,c⟩:=ah c;refine aT [(1,bV [29,30] (pf h) oW),(8,hV [29,30] [195,196] (Jo e) PB ⟨iw dg (λ_=>rfl) _,iw c8 (λ_=>rfl) _,trivial⟩),(12,.al 445)] [2,3,10] [(6,.ptr 445 0),(7,u b.2)] [346,347] [(445,.c 109 [u b.1.Router,u b.1.Seq,.bool b.1.bw,.own 195,.own 196]),(195,.slice 152 3 (af dg b.1.Links) 0 false),(196,.slice 103 3 (af c8 b.1.Claims) 0 false)]<|aT [] [6,7] [(5,.d (b.2=0))] [184,445] [(184,.c 109 [u b.1.Router,u b.1.Seq,.bool b.1.bw,.own 195,.own 196])]<|A.ret ?_
 obtain rfl:=cw c;exact atv b0 [.b5 195 150,.b5 196 151] rfl (by kernel_rfl)
def BM{d:bF}{r:bF}(a:pg d=some r):bB prog 70 [] [.agg (eF d)] (.agg (eF r)):=by
 refine bq func70 rfl rfl ?_;unfold pg at a;refine ak [(0,.al 349),(1,.al 123)] [(1,.ptr 349 0),(2,.ptr 123 0)] [(349,.cells 35 (eF d)),(123,.c 35 [.az])]<|aT [(0,.al 139)] [] [(3,.ptr 139 0)] [] [(139,.c 35 [.az])]<|A.seq<|aT [(2,Z (bl cm d.bf))] [1] [(7,aj cm d.bf),(8,u d.bf.length),(9,u 0)] [349] []<|A.block<|atz 7 rfl λm=>?_
 obtain⟨p,q,s,t,a⟩:=cO a;refine atx (l:=d.bf) (cD:=0) (B:=p) (K:=q) a (λb=>λc=>[(2,.ptr 123 0),(3,.ptr 139 0),(7,aj cm d.bf),(8,u d.bf.length),(9,u b)]) (λb=>λc=>[(123,.c 35 [.az]),(139,.c 35 [.own 172]),(172,.slice 109 5 (af cm c) 0 false)]) ?_ ?_ ?_
 .exact ct [.ac 139 172 109 5 0] []
 .rintro b e w c o f a;rw[s]at a;refine ai [] [] [(10,.d ((b:Int)<d.bf.length))]<|A.seq<|aJ (cT f)<|A.skip<|A.seq<|A.block<|aT [(0,bh (ix cm (b3 f))),(2,.al 350)] [10] [(5,.ptr 350 0)] [] [(350,.cells 109 (dB e))] ?_
  obtain⟨h,v,a⟩:=ah a;obtain⟨i,j,a⟩:=ah a;refine aT [(2,aH (at8 (r':=aj dg h) (σ3:=[]) [170] (Hv v) (by kernel_rfl) (by kernel_rfl)) Gn),(5,aH (at8 (r':=aj c8 i) (σ3:=[]) [166] (BC j) (by kernel_rfl) (by kernel_rfl)) A0)] [] [] [350] [(350,.c 109 [u e.Router,u e.Seq,.bool e.bw,aj dg h,aj c8 i])] ?_;obtain⟨g,k,a⟩:=ah a;exact bX [(4,dH 304 (ap cm (bytes:=72) (by decide) k))] [5] [] [139,172,350] [(139,.c 35 [.own 304]),(304,.slice 109 5 (af cm g) 0 false)]<|bu [(0,Z (cQ f m))] [9] [(9,u ((b+1:Nat):Int))]<|Exists.intro g (And.intro a (ct [.b5 304 172] []))
 rintro b c o n a;rw[t]at a;refine ai [] [] [(10,.d ((b:Int)<d.bf.length))]<|A.seq<|aI (cS n)<|A.exit<|aT [] [3,7,8,9,10] [] [123,139] [(123,.c 35 [.own 172])]<|A.ret ?_
 obtain rfl:=cw a;exact atv b0 [.bN [172]] rfl (by kernel_rfl)
def q7{r:aA}(b:j6 f=some r):cp prog 56 [] [.agg (cK f)] (λa y=>a=.agg [.own 98,.own 44,.own 54]/\y=[(98,.slice 101 5 (af aD r.Links) 0 false),(44,.slice 37 5 (af bA r.ay) 0 false),(54,.slice 120 3 (af bT r.aY) 0 false)]):=by
 refine bq func56 rfl rfl ?_;unfold j6 at b;refine ak [(0,.al 131),(1,.al 72)] [(1,.ptr 131 0),(2,.ptr 72 0)] [(131,.cells 29 (cK f)),(72,.c 29 [.az,.az,.az])] ?_;obtain⟨j,R,b⟩:=ah b;refine aT [(2,bV [12] (xh R) wZ),(4,.al 78)] [] [(3,.ptr 78 0)] [] [(12,.slice 101 5 (af aD j) 0 false),(78,.c 29 [.own 12,.az,.az])]<|A.seq<|ai [(2,Z (bl bA f.ay))] [] [(13,aj bA f.ay),(14,u f.ay.length),(15,u 0)]<|A.block<|atz 13 rfl λC=>?_
 obtain⟨F,G,H,I,b⟩:=cO b;refine atx (l:=f.ay) (cD:=0) (B:=F) (K:=G) b (λd=>λe=>[(1,.ptr 131 0),(2,.ptr 72 0),(3,.ptr 78 0),(13,aj bA f.ay),(14,u f.ay.length),(15,u d)]) (λd=>λe=>[(131,.cells 29 (cK f)),(72,.c 29 [.az,.az,.az]),(12,.slice 101 5 (af aD j) 0 false),(78,.c 29 [.own 12,.own 94,.az]),(94,.slice 37 5 (af bA e) 0 false)]) ?_ ?_ ?_
 .exact ct [.ac 78 94 37 5 1] []
 .rintro d h S e E i b;rw[H]at b;refine ai [] [] [(16,.d ((d:Int)<f.ay.length))]<|A.seq<|aJ (cT i)<|A.skip<|A.seq<|A.block<|aT [(0,bh (ix bA (b3 i))),(2,.al 341)] [16] [(5,.ptr 341 0)] [] [(341,.cells 37 (ir h))] ?_
  obtain⟨o,w,b⟩:=ah b;obtain⟨s,x,b⟩:=ah b;refine aT [(2,aH (at8 (r':=aj c8 o) (σ3:=[]) [166] (BC w) (by kernel_rfl) (by kernel_rfl)) A0),(5,aH (BM x) A6)] [] [] [341] [(341,.c 37 [u h.Router,u h.Seq,.bool h.bw,aj c8 o,aj cm s.bf])] ?_;obtain⟨n,t,b⟩:=ah b;exact bX [(4,dH 300 (ap bA (bytes:=72) (by decide) t))] [5] [] [78,94,341] [(78,.c 29 [.own 12,.own 300,.az]),(300,.slice 37 5 (af bA n) 0 false)]<|bu [(0,Z (cQ i C))] [15] [(15,u ((d+1:Nat):Int))]<|Exists.intro n (And.intro b (ct [.b5 300 94] []))
 rintro d e E D b;rw[I]at b;refine ai [] [] [(16,.d ((d:Int)<f.ay.length))]<|A.seq<|aI (cS D)<|A.exit<|A.seq<|aT [(2,Z (bl bT f.aY))] [1,13,14,15,16] [(35,aj bT f.aY),(36,u f.aY.length),(37,u 0)] [131] []<|A.block<|atz 35 rfl λM=>?_
 obtain⟨N,Q,O,P,b⟩:=cO b;refine atx (l:=f.aY) (cD:=0) (B:=N) (K:=Q) b (λc=>λg=>[(2,.ptr 72 0),(3,.ptr 78 0),(35,aj bT f.aY),(36,u f.aY.length),(37,u c)]) (λc=>λg=>[(72,.c 29 [.az,.az,.az]),(12,.slice 101 5 (af aD j) 0 false),(78,.c 29 [.own 12,.own 94,.own 171]),(94,.slice 37 5 (af bA e) 0 false),(171,.slice 120 3 (af bT g) 0 false)]) ?_ ?_ ?_
 .exact ct [.ac 78 171 120 3 2] []
 .rintro c m T g L k b;rw[O]at b;refine ai [] [] [(38,.d ((c:Int)<f.aY.length))]<|A.seq<|aJ (cT k)<|A.skip<|A.seq<|A.block<|aT [(0,bh (ix bT (b3 k))),(2,.al 342)] [38] [(7,.ptr 342 0)] [] [(342,.cells 120 (m3 m))] ?_
  obtain⟨v,q,b⟩:=ah b;refine aT [(2,aH (BM q) A6)] [] [] [342] [(342,.c 120 [u m.c4,u m.bW,aj cm v.bf])] ?_;obtain⟨p,z,b⟩:=ah b;exact bX [(4,dH 301 (ap bT (bytes:=40) (by decide) z))] [7] [] [78,171,342] [(78,.c 29 [.own 12,.own 94,.own 301]),(301,.slice 120 3 (af bT p) 0 false)]<|bu [(0,Z (cQ k M))] [37] [(37,u ((c+1:Nat):Int))]<|Exists.intro p (And.intro b (ct [.b5 301 171] []))
 rintro c g L J b;rw[P]at b;refine ai [] [] [(38,.d ((c:Int)<f.aY.length))]<|A.seq<|aI (cS J)<|A.exit<|aT [] [3,35,36,37,38] [] [72,78] [(72,.c 29 [.own 12,.own 94,.own 171])]<|A.ret ?_
 obtain rfl:=cw b;exact atv b0 [.b5 12 98,.b5 94 44,.b5 171 54] rfl (by kernel_rfl)
def S8(a:tZ f=some r):bB prog 26 [] [.agg (cK f)] (.bool r):=by
 refine bq func26 rfl rfl ?_;unfold tZ at a;refine ak [(0,.al 39)] [(1,.ptr 39 0)] [(39,.cells 29 (cK f))]<|A.seq ?_
 obtain⟨G,L,a⟩:=cW a;refine A.J (J:=G) (r:=r) (λj=>[(1,.ptr 39 0),(20,.bool j)]) (λj=>[(39,.cells 29 (cK f))]) ?_ ?_
 .obtain⟨aw,D,a⟩:=ah a;rcases aC a with⟨m,a⟩|⟨m,a⟩
  .exact bu [(1,aH (kX D) lE),(3,Z (ax m))] [] [(20,.bool true)]<|aV true a
  exact bu [(1,aH (kX D) lE),(3,Z (ax m)),(6,Z (bl bT f.aY))] [] [(20,.d (0<(f.aY.length:Int)))]<|aV (decide (0<(f.aY.length:Int))) a
 rintro j a;rw[L]at a;rcases aC a with⟨n,a⟩|⟨n,a⟩
 .refine aJ n<|ak [] [(2,.bool false)] [] ?_
  cases a;exact A.ret aX
 refine aI n<|A.skip ?_
 obtain⟨d,H,a⟩:=ah a;refine aT [(1,bV [29,30] (pf H) oW),(2,.al 57)] [20] [(3,.ptr 57 0)] [] [(29,.slice 79 2 (af bz d.aL) 0 false),(30,.slice 101 5 (af aD d.Links) 0 false),(57,.c 41 [.own 29,.own 30])]<|A.seq<|ai [(2,Z (bl bA f.ay))] [] [(24,aj bA f.ay),(25,u f.ay.length),(26,u 0)]<|A.block<|atz 24 rfl λN=>?_
 obtain⟨R,S,T,U,a⟩:=cO a;refine atx (l:=f.ay) (cD:=0) (B:=R) (K:=S) a (λb=>λ()=>[(1,.ptr 39 0),(3,.ptr 57 0),(24,aj bA f.ay),(25,u f.ay.length),(26,u b)]) (λb=>λ()=>[(39,.cells 29 (cK f)),(29,.slice 79 2 (af bz d.aL) 0 false),(30,.slice 101 5 (af aD d.Links) 0 false),(57,.c 41 [.own 29,.own 30])]) ?_ ?_ ?_
 .exact c5
 .rintro b i av ⟨⟩ Q k a;rw[T]at a;refine ai [] [] [(27,.d ((b:Int)<f.ay.length))]<|A.seq<|aJ (cT k)<|A.skip<|A.seq<|A.block<|aT [(1,bh (ix bA (b3 k))),(3,.al 84)] [27] [(5,.ptr 84 0),(4,u b)] [] [(84,.cells 37 (ir i))] ?_
  obtain⟨g,I,a⟩:=ah a;refine aT [(2,bV [262,263] (ep.at [(150,262),(151,263)] (tQ I)) s2),(6,.al 318)] [] [(6,.ptr 318 0),(7,.bool g.2)] [] [(262,.slice 152 3 (af dg g.1.Links) 0 false),(263,.slice 103 3 (af c8 g.1.Claims) 0 false),(318,.c 109 [u g.1.Router,u g.1.Seq,.bool g.1.bw,.own 262,.own 263])] ?_;obtain⟨x,F,a⟩:=ah a;refine aT [(4,aH (tY F) s6),(8,.al 427)] [] [(8,.ptr 427 0),(9,.bool x.2)] [] [(427,.cells 109 (dB x.1))]<|A.seq ?_
  obtain⟨P,W,a⟩:=cW a;refine A.J (J:=P) (r:=r) (λs=>[(1,.ptr 39 0),(3,.ptr 57 0),(4,u b),(5,.ptr 84 0),(24,aj bA f.ay),(25,u f.ay.length),(26,u b),(56,.bool s)]) (λs=>[(39,.cells 29 (cK f)),(29,.slice 79 2 (af bz d.aL) 0 false),(30,.slice 101 5 (af aD d.Links) 0 false),(57,.c 41 [.own 29,.own 30]),(84,.cells 37 (ir i))]) ?_ ?_
  .rcases aC a with⟨h,a⟩|⟨h,a⟩
   .exact bX [(2,Z (ax h))] [6,7,8,9] [(56,.bool true)] [262,263,318,427] []<|aV true a
   rcases aC a with⟨q,a⟩|⟨q,a⟩
   .exact bX [(2,Z (ax h)),(6,Z (ax q))] [6,7,8,9] [(56,.bool true)] [262,263,318,427] []<|aV true a
   obtain⟨z,E,a⟩:=ah a;exact bX [(2,Z (ax h)),(6,Z (ax q)),(9,bp [262,263] (ru E) qM)] [6,7,8,9] [(56,.bool (!z))] [262,263,318,427] []<|aV (!z) a
  rintro s a;rw[W]at a;rcases aC a with⟨p,a⟩|⟨p,a⟩
  .refine aJ p<|ak [] [(2,.bool false)] [] ?_
   cases a;exact A.ret aX
  refine aI p<|A.skip ?_
  obtain⟨c,M,a⟩:=ah a;refine ai [(3,ey (sl bA M)),(4,Z (bl bA c))] [4,56] [(60,aj bA c),(61,u c.length),(62,u 0)]<|A.block<|atz 60 rfl λY=>?_
  obtain⟨ae,ao,am,an,a⟩:=cO a;refine atx (l:=c) (cD:=0) (B:=ae) (K:=ao) a (λe=>λ()=>[(1,.ptr 39 0),(3,.ptr 57 0),(5,.ptr 84 0),(24,aj bA f.ay),(25,u f.ay.length),(26,u b),(60,aj bA c),(61,u c.length),(62,u e)]) (λe=>λ()=>[(39,.cells 29 (cK f)),(29,.slice 79 2 (af bz d.aL) 0 false),(30,.slice 101 5 (af aD d.Links) 0 false),(57,.c 41 [.own 29,.own 30]),(84,.cells 37 (ir i))]) ?_ ?_ ?_
  .exact c5
  .rintro e au aF ⟨⟩ X o a;rw[am]at a;refine ai [] [] [(63,.d ((e:Int)<c.length))]<|A.seq<|aJ (cT o)<|A.skip<|A.seq<|A.block<|aT [(0,bh (ix bA (b3 o))),(2,.al 428)] [63] [(11,.ptr 428 0)] [] [(428,.cells 37 (ir au))] ?_
   obtain⟨ab,ar,a⟩:=cW a;refine A.J (J:=ab) (r:=r) (λw=>[(1,.ptr 39 0),(3,.ptr 57 0),(5,.ptr 84 0),(24,aj bA f.ay),(25,u f.ay.length),(26,u b),(60,aj bA c),(61,u c.length),(62,u e),(79,.bool w)]) (λw=>[(39,.cells 29 (cK f)),(29,.slice 79 2 (af bz d.aL) 0 false),(30,.slice 101 5 (af aD d.Links) 0 false),(57,.c 41 [.own 29,.own 30]),(84,.cells 37 (ir i))]) ?_ ?_
   .obtain⟨aE,y,a⟩:=ah a;rcases aC a with⟨t,a⟩|⟨t,a⟩
    .obtain⟨C,aq,a⟩:=ah a;exact bX [(5,bp [29,30] (HN y) GK),(6,Z (ax t)),(11,aH (IC aq) Ry)] [11] [(79,.bool (!C))] [428] []<|aV (!C) a
    exact bX [(5,bp [29,30] (HN y) GK),(6,Z (ax t))] [11] [(79,.bool false)] [428] []<|aV false a
   rintro w a;rw[ar]at a;rcases aC a with⟨v,a⟩|⟨v,a⟩
   .refine aJ v<|ak [] [(2,.bool false)] [] ?_
    cases a;exact A.ret aX
   exact aI v<|A.skip<|bu [(0,Z (cQ o Y))] [62,79] [(62,u ((e+1:Nat):Int))]<|aV () a
  rintro e ⟨⟩ X V a;rw[an]at a;exact ai [] [] [(63,.d ((e:Int)<c.length))]<|A.seq<|aI (cS V)<|A.exit<|bX [(0,Z (cQ k N))] [5,26,60,61,62,63] [(26,u ((b+1:Nat):Int))] [84] []<|aV () a
 rintro b ⟨⟩ Q O a;rw[U]at a;refine ai [] [] [(27,.d ((b:Int)<f.ay.length))]<|A.seq<|aI (cS O)<|A.exit<|ak [] [(2,.bool true)] [] ?_
 cases a;exact A.ret aX
variable {i:Int}{m r:cM}
def xx(b:mN m i=some r):cp prog 64 [(121,.slice 37 5 (af bA m.bg.ay) 0 false),(160,.slice 120 3 (af bT m.bg.aY) 0 false),(10,.c 116 [aj aD m.bg.Links,.own 121,.own 160])] [.ptr 10 0,u i] (λa k=>a=.bP []/\k=[(10,.c 116 [aj aD r.bg.Links,.own 241,.own 242]),(241,.slice 37 5 (af bA r.bg.ay) 0 false),(242,.slice 120 3 (af bT r.bg.aY) 0 false)]):=by
 refine bq func64 rfl rfl ?_;unfold mN at b;obtain⟨n,d,b⟩:=ah b;refine ak [(6,bh (ix bA d))] [(0,.ptr 10 0),(4,.ptr 121 (i.toNat*5))] [(121,.slice 37 5 (af bA m.bg.ay) 0 false),(160,.slice 120 3 (af bT m.bg.aY) 0 false),(10,.c 116 [aj aD m.bg.Links,.own 121,.own 160])] ?_;obtain⟨c,h,b⟩:=ah b;refine aT [(6,eK 121 0 (ix bA d)),(7,hV [121,160] [150,151] (tQ h) s2 ⟨iw dg (λ_=>rfl) _,iw c8 (λ_=>rfl) _,trivial⟩),(11,.al 348)] [0] [(5,.ptr 348 0),(6,.bool c.2)] [] [(348,.c 109 [u c.1.Router,u c.1.Seq,.bool c.1.bw,.own 150,.own 151]),(150,.slice 152 3 (af dg c.1.Links) 0 false),(151,.slice 103 3 (af c8 c.1.Claims) 0 false)]<|ai [] [6] [(25,.bool c.2)] ?_
 rcases aC b with⟨e,b⟩|⟨e,b⟩
 .refine aJ e ?_;obtain⟨l,j,b⟩:=ah b;obtain⟨g,f,b⟩:=ah b;refine A.R b0 [.bN [150,151]] [(4,eK 121 4 (ix bA d)),(6,aH (IZ j) PD),(12,iY 121 (st bA (off:=4) (ca:=(eF l.1)) d f rfl) (jJ d).1.1)] [] [(121,.slice 37 5 (af bA g) 0 false),(160,.slice 120 3 (af bT m.bg.aY) 0 false),(10,.c 116 [aj aD m.bg.Links,.own 121,.own 160])] (by kernel_rfl) ?_;obtain rfl:=cw b;exact atv b0 [.rn 121 241,.rn 160 242] rfl (by kernel_rfl)
 refine aI e<|A.skip ?_
 obtain rfl:=cw b;exact atv b0 [.rn 121 241,.rn 160 242] rfl (by kernel_rfl)
def HI(b:q1 m i=some r):cp prog 68 [(122,.slice 37 5 (af bA m.bg.ay) 0 false),(222,.slice 120 3 (af bT m.bg.aY) 0 false),(10,.c 116 [aj aD m.bg.Links,.own 122,.own 222])] [.ptr 10 0,u i] (λa q=>a=.bP []/\q=[(10,.c 116 [aj aD r.bg.Links,.own 326,.own 327]),(326,.slice 37 5 (af bA r.bg.ay) 0 false),(327,.slice 120 3 (af bT r.bg.aY) 0 false)]):=by
 refine bq func68 rfl rfl ?_;unfold q1 at b;obtain⟨g,j,b⟩:=ah b;refine ak [(6,bh (ix bA j)),(7,eK 122 0 (ix bA j)),(8,.al 162)] [(0,.ptr 10 0),(4,.ptr 162 0)] [(122,.slice 37 5 (af bA m.bg.ay) 0 false),(222,.slice 120 3 (af bT m.bg.aY) 0 false),(10,.c 116 [aj aD m.bg.Links,.own 122,.own 222]),(162,.cells 37 (ir g))] ?_;obtain⟨F,o,b⟩:=ah b;obtain⟨c,p,b⟩:=ah b;refine aT [(4,hV [122,222] [29,30] (pf o) oW ⟨iw bz (λ_=>rfl) _,iw aD (λ_=>rfl) _,trivial⟩),(7,hV [29,30] [136] (SY p) PE ⟨iw aW (λ_=>rfl) _,trivial⟩),(8,Z (bl aW c))] [] [(24,u 0),(22,.own 136),(23,u c.length)] [] [(136,.slice 3 1 (af aW c) 0 false)]<|A.block<|aun 22 rfl rfl λs=>?_
 obtain⟨w,x,y,z,b⟩:=cO b;refine atx (l:=c) (cD:=0) (B:=w) (K:=x) b (λd=>λe=>[(0,.ptr 10 0),(4,.ptr 162 0),(22,.own 136),(23,u c.length),(24,u d)]) (λd=>λe=>[(122,.slice 37 5 (af bA m.bg.ay) 0 false),(10,.c 116 [aj aD m.bg.Links,.own 122,.own 93]),(162,.cells 37 (ir g)),(136,.slice 3 1 (af aW c) 0 false),(93,.slice 120 3 (af bT e) 0 false)]) ?_ ?_ ?_
 .exact ct [.rn 222 93] []
 .rintro d C E e v f b;rw[y]at b;refine ai [] [] [(25,.d ((d:Int)<c.length))]<|A.seq<|aJ (cT f)<|A.skip<|A.seq<|A.block<|ai [(0,bh (ix aW (b3 f))),(1,eK 136 0 (ix aW (b3 f)))] [25] [(6,u C)] ?_
  obtain⟨D,n,b⟩:=ah b;obtain⟨h,k,b⟩:=ah b;exact bX [(11,aH (BM n) A6),(14,dH 303 (ap bT (bytes:=40) (by decide) k))] [6] [] [10,93] [(10,.c 116 [aj aD m.bg.Links,.own 122,.own 303]),(303,.slice 120 3 (af bT h) 0 false)]<|bu [(0,Z (cQ f s))] [24] [(24,u ((d+1:Nat):Int))]<|Exists.intro h (And.intro b (ct [.b5 303 93] []))
 rintro d e v t b;rw[z]at b;refine ai [] [] [(25,.d ((d:Int)<c.length))]<|A.seq<|aI (cS t)<|A.exit ?_
 obtain rfl:=cw b;exact atv b0 [.rn 122 326,.b5 93 327] rfl (by kernel_rfl)
def HB{k:Int}(b:kU m k=some r):cp prog 72 [(37,.slice 37 5 (af bA m.bg.ay) 0 false),(505007202,.slice 120 3 (af bT m.bg.aY) 0 false),(10,.c 116 [aj aD m.bg.Links,.own 37,.own 505007202])] [.ptr 10 0,u k] (λa H=>a=.bP []/\H=[(10,.c 116 [aj aD r.bg.Links,.own 260,.own 261]),(260,.slice 37 5 (af bA r.bg.ay) 0 false),(261,.slice 120 3 (af bT r.bg.aY) 0 false)]):=by
 refine bq func72 rfl rfl ?_;unfold kU at b;obtain⟨C,x,b⟩:=ah b;refine ak [(6,bh (ix bT x)),(7,eK 505007202 0 (ix bT x)),(8,.al 187)] [(0,.ptr 10 0),(1,u k),(4,.ptr 187 0)] [(37,.slice 37 5 (af bA m.bg.ay) 0 false),(505007202,.slice 120 3 (af bT m.bg.aY) 0 false),(10,.c 116 [aj aD m.bg.Links,.own 37,.own 505007202]),(187,.cells 120 (m3 C))] ?_;obtain⟨s,F,b⟩:=ah b;refine aT [(9,bV [520072001] (D9 (d:=505007202) (D:=520072001) F (by decide)) G8)] [1] [] [505007202,10] [(10,.c 116 [aj aD m.bg.Links,.own 37,.own 520072001]),(520072001,.slice 120 3 (af bT s) 0 false)]<|A.seq ?_
 obtain⟨R,G,b⟩:=ah b;obtain⟨t,z,b⟩:=ah b;refine ai [(4,hV [37,520072001] [29,30] (pf G) oW ⟨iw bz (λ_=>rfl) _,iw aD (λ_=>rfl) _,trivial⟩),(9,bp [29,30] (H1 z) G6)] [] [(6,.bool t.2)]<|ai [] [6] [(49,.bool (!t.2))] ?_
 rcases aC b with⟨n,b⟩|⟨n,b⟩
 .refine aJ n<|A.ret ?_
  obtain rfl:=cw b;exact atv b0 [.rn 37 260,.b5 520072001 261] rfl (by kernel_rfl)
 refine aI n<|A.skip ?_
 obtain⟨h,y,b⟩:=ah b;refine ai [(6,bp [37,520072001] (uc y) s5)] [49] [(7,u h.1)] ?_;obtain⟨S,j,b⟩:=ah b;refine ai [(6,bh (ix bA j))] [] [(9,.ptr 37 (h.1.toNat*5))] ?_;obtain⟨E,K,b⟩:=ah b;obtain⟨v,M,b⟩:=ah b;refine aT [(4,eK 37 4 (ix bA j)),(7,aH (IL K) PF),(13,iY 37 (st bA (off:=4) (ca:=(eF E.1)) j M rfl) (jJ j).1.1)] [4] [] [37,187] [(37,.slice 37 5 (af bA v) 0 false)] ?_;obtain⟨U,g,b⟩:=ah b;obtain⟨c,N,b⟩:=ah b;refine aT [(3,eK 37 4 (ix bA g)),(7,eK 37 0 (ix bA g)),(8,aH (tY N) s6),(12,.al 173)] [] [(10,.ptr 173 0),(11,.bool c.2)] [] [(173,.cells 109 (dB c.1))] ?_;obtain⟨e,O,b⟩:=ah b;refine aT [(6,eK 37 0 (ix bA g)),(7,hV [37,520072001] [150,151] (tQ O) s2 ⟨iw dg (λ_=>rfl) _,iw c8 (λ_=>rfl) _,trivial⟩),(11,.al 451)] [] [(12,.ptr 451 0),(13,.bool e.2)] [] [(451,.c 109 [u e.1.Router,u e.1.Seq,.bool e.1.bw,.own 150,.own 151]),(150,.slice 152 3 (af dg e.1.Links) 0 false),(151,.slice 103 3 (af c8 e.1.Claims) 0 false)] ?_;obtain⟨B,I,b⟩:=cW b;refine A.J (J:=B) (r:=r) (λl=>[(0,.ptr 10 0),(7,u h.1),(9,.ptr 37 (h.1.toNat*5)),(10,.ptr 173 0),(118,.bool l)]) (λl=>[(37,.slice 37 5 (af bA v) 0 false),(10,.c 116 [aj aD m.bg.Links,.own 37,.own 520072001]),(520072001,.slice 120 3 (af bT s) 0 false),(173,.cells 109 (dB c.1))]) ?_ ?_
 .rcases aC b with⟨f,b⟩|⟨f,b⟩
  .rcases aC b with⟨i,b⟩|⟨i,b⟩
   .exact bX [(1,Z (ax f)),(4,Z (ax i))] [11,12,13] [(118,.d (c.1.Seq<1000000))] [451,150,151] []<|aV (decide (c.1.Seq<1000000)) b
   obtain⟨T,w,b⟩:=ah b;rcases aC b with⟨p,b⟩|⟨p,b⟩
   .exact bX [(1,Z (ax f)),(4,Z (ax i)),(7,bp [150,151] (ru w) qM),(11,Z (ax p))] [11,12,13] [(118,.d (c.1.Seq<1000000))] [451,150,151] []<|aV (decide (c.1.Seq<1000000)) b
   exact bX [(1,Z (ax f)),(4,Z (ax i)),(7,bp [150,151] (ru w) qM),(11,Z (ax p))] [11,12,13] [(118,.bool false)] [451,150,151] []<|aV false b
  exact bX [(1,Z (ax f))] [11,12,13] [(118,.bool false)] [451,150,151] []<|aV false b
 rintro l b;rw[I]at b;rcases aC b with⟨o,b⟩|⟨o,b⟩
 .refine aJ o ?_;obtain⟨L,P,b⟩:=ah b;refine aT [(6,iY 37 (st bA (off:=1) (ca:=[u (a1 (c.1.Seq+1))]) g P rfl) (jJ g).1.1)] [9,10,118] [] [37,173] [(37,.slice 37 5 (af bA L) 0 false)] ?_;obtain⟨q,Q,b⟩:=ah b;refine jP [(2,bV [336,337] (ep.at [(121,37),(160,520072001),(241,336),(242,337)] (xx Q)) w1)] [] [(10,.c 116 [aj aD q.bg.Links,.own 336,.own 337]),(336,.slice 37 5 (af bA q.bg.ay) 0 false),(337,.slice 120 3 (af bT q.bg.aY) 0 false)] ?_;obtain rfl:=cw b;exact atv b0 [.b5 336 260,.b5 337 261] rfl (by kernel_rfl)
 refine aI o<|A.skip ?_
 obtain rfl:=cw b;exact atv b0 [.rn 37 260,.b5 520072001 261] rfl (by kernel_rfl)
def HD(b:qW m=some r):cp prog 90 [(328,.slice 37 5 (af bA m.bg.ay) 0 false),(330,.slice 120 3 (af bT m.bg.aY) 0 false),(10,.c 116 [aj aD m.bg.Links,.own 328,.own 330])] [.ptr 10 0] (λa h=>a=.bP []/\h=[(10,.c 116 [aj aD r.bg.Links,.own 329,.own 331]),(329,.slice 37 5 (af bA r.bg.ay) 0 false),(331,.slice 120 3 (af bT r.bg.aY) 0 false)]):=by
 refine bq func90 rfl rfl ?_;unfold qW at b;refine A.block ?_;obtain⟨i,n,j,b⟩:=iK b;refine atN (F:=i) b (λ(e,f,d)=>[(0,.ptr 10 0)]) (λ(e,f,d)=>[(10,.c 116 [aj aD e,.own 138,.own 93]),(138,.slice 37 5 (af bA f) 0 false),(93,.slice 120 3 (af bT d) 0 false)]) ?_ ?_
 .exact ct [.rn 328 138,.rn 330 93] []
 rintro l ⟨e,f,d⟩ b;rw[j]at b;refine A.seq<|ai [(5,Z (bl bT d))] [] [(8,.d (0<(d.length:Int)))] ?_
 rcases aC b with⟨g,b⟩|⟨g,b⟩
 .refine aJ g<|A.skip<|A.block ?_
  obtain⟨c,k,b⟩:=ah b;exact jP [(1,bV [338,339] (ep.at [(37,138),(505007202,93),(260,338),(261,339)] (HB k)) G9)] [(0,.ptr 10 0)] [(10,.c 116 [aj aD c.bg.Links,.own 338,.own 339]),(338,.slice 37 5 (af bA c.bg.ay) 0 false),(339,.slice 120 3 (af bT c.bg.aY) 0 false)]<|Exists.intro (c.bg.Links,c.bg.ay,c.bg.aY) (And.intro b (ct [.b5 338 138,.b5 339 93] []))
 refine aI g<|A.exit ?_
 obtain rfl:=cw b;exact atv b0 [.b5 138 329,.b5 93 331] rfl (by kernel_rfl)
def SP(b:tD m=some r):cp prog 91 [(292,.slice 37 5 (af bA m.bg.ay) 0 false),(293,.slice 120 3 (af bT m.bg.aY) 0 false),(10,.c 116 [aj aD m.bg.Links,.own 292,.own 293])] [.ptr 10 0] (λa i=>a=.bP []/\i=[(10,.c 116 [aj aD r.bg.Links,.own 383,.own 384]),(383,.slice 37 5 (af bA r.bg.ay) 0 false),(384,.slice 120 3 (af bT r.bg.aY) 0 false)]):=by
 refine bq func91 rfl rfl ?_;unfold tD at b;refine ak [(5,Z (bl bA m.bg.ay))] [(0,.ptr 10 0),(8,u m.bg.ay.length),(9,u 0)] [(292,.slice 37 5 (af bA m.bg.ay) 0 false),(293,.slice 120 3 (af bT m.bg.aY) 0 false),(10,.c 116 [aj aD m.bg.Links,.own 292,.own 293])]<|A.block<|aum 0 1 rfl rfl rfl rfl λj=>?_
 obtain⟨o,p,q,s,b⟩:=cO b;refine atx (l:=m.bg.ay) (cD:=0) (B:=o) (K:=p) b (λc=>λ(e,f,g)=>[(0,.ptr 10 0),(8,u m.bg.ay.length),(9,u c)]) (λc=>λ(e,f,g)=>[(10,.c 116 [aj aD e,.own 138,.own 93]),(138,.slice 37 5 (af bA f) 0 false),(93,.slice 120 3 (af bT g) 0 false)]) ?_ ?_ ?_
 .exact ct [.rn 292 138,.rn 293 93] []
 .rintro c w v ⟨e,f,g⟩ n h b;rw[q]at b;refine ai [] [] [(10,.d ((c:Int)<m.bg.ay.length))]<|A.seq<|aJ (cT h)<|A.skip<|A.seq<|A.block<|ai [] [10] [(2,u c)] ?_
  obtain⟨d,t,b⟩:=ah b;exact bX [(2,bV [270,271] (ep.at [(122,138),(222,93),(326,270),(327,271)] (HI t)) G7)] [2] [] [10,138,93] [(10,.c 116 [aj aD d.bg.Links,.own 270,.own 271]),(270,.slice 37 5 (af bA d.bg.ay) 0 false),(271,.slice 120 3 (af bT d.bg.aY) 0 false)]<|bu [(0,Z (cQ h j))] [9] [(9,u ((c+1:Nat):Int))]<|Exists.intro (d.bg.Links,d.bg.ay,d.bg.aY) (And.intro b (ct [.b5 270 138,.b5 271 93] []))
 rintro c ⟨e,f,g⟩ n k b;rw[s]at b;refine ai [] [] [(10,.d ((c:Int)<m.bg.ay.length))]<|A.seq<|aI (cS k)<|A.exit ?_
 obtain rfl:=cw b;exact atv b0 [.b5 138 383,.b5 93 384] rfl (by kernel_rfl)
def Se{i:ng}{v:bS->dK}{oC:Nat}{oI:List H}(A2:be prog oC)(AT:∀(t:bS) (q:Bool),v t=some q->bB prog oC [] ([.agg (m3 t)]++oI) (.bool q)){r:(ng)}(b:qR i v=some r):cp prog 59 [(167,.slice 120 3 (af bT i) 0 false)] [.own 167,.cL oC oI] (λa B=>a=.own 221/\B=[(221,.slice 120 3 (af bT r) 0 false)]):=by
 refine bq func59 rfl rfl ?_;unfold qR at b;refine ak [] [(0,.own 167),(1,.cL oC oI)] [(167,.slice 120 3 (af bT i) 0 false)] ?_;obtain⟨k,L,b⟩:=ah b;refine ai [(2,bp [167] (Sf (eO:=A2) (eN:=AT) L) Pz)] [] [(5,u k)]<|A.seq<|ai [] [] [(12,.d (k=(-1:Int)))] ?_
 rcases aC b with⟨l,b⟩|⟨l,b⟩
 .refine aJ l<|ai [] [0,1,5,12] [(4,.own 167)]<|A.ret ?_
  obtain rfl:=cw b;exact atv b0 [.rn 167 221] rfl (by kernel_rfl)
 refine aI l<|A.skip<|A.seq<|ai [] [12] [(6,u (a1 (k+1)))]<|A.block ?_
 obtain⟨I,O,K,b⟩:=iK b;refine atN (F:=I) b (λ(d,c,e)=>[(0,.own 126),(1,.cL oC oI),(5,u c),(6,u e)]) (λ(d,c,e)=>[(126,.slice 120 3 (af bT d) 0 false)]) ?_ ?_
 .exact ct [.rn 167 126] []
 rintro M ⟨d,c,e⟩ b;rw[K]at b;refine A.seq<|ai [(2,Z (bl bT d))] [] [(19,.d (e<(d.length:Int)))] ?_
 rcases aC b with⟨m,b⟩|⟨m,b⟩
 .refine aJ m<|A.skip ?_
  obtain⟨y,D,b⟩:=cW b;refine A.J (J:=y) (r:=r) (λ(g,f)=>[(0,.own 126),(1,.cL oC oI),(5,u f),(6,u e)]) (λ(g,f)=>[(126,.slice 120 3 (af bT g) 0 false)]) ?_ ?_
  .refine A.block ?_;obtain⟨o,s,b⟩:=ah b;refine aT [(2,bh (ix bT s)),(3,eK 126 0 (ix bT s)),(4,.al 344)] [19] [(7,.ptr 344 0)] [] [(344,.cells 120 (m3 o))] ?_;obtain⟨C,z,b⟩:=ah b;refine ai [(2,iJ (AT _ _ z) A2)] [] [(29,.bool (!C))] ?_;rcases aC b with⟨j,b⟩|⟨j,b⟩
   .refine aJ j ?_;obtain⟨N,h,b⟩:=ah b;obtain⟨p,x,b⟩:=ah b;exact aT [(3,bh (ix bT h)),(4,iY 126 (st bT (off:=0) (ca:=(m3 o)) h x rfl) (jJ h).1.1)] [7,29] [] [126,344] [(126,.slice 120 3 (af bT p) 0 false)]<|bu [] [5] [(5,u (a1 (c+1)))]<|aV (p,a1 (c+1)) b
   exact aI j<|A.skip<|aV (d,c) b
  rintro⟨g,f⟩ b;rw[D]at b;exact bu [] [6] [(6,u (a1 (e+1)))]<|aV (g,f,a1 (e+1)) b
 refine aI m<|A.exit ?_
 obtain⟨n,b⟩:=hA b;have n:=of_decide_eq_true n;refine A.seq (A.RI (T:=27) 0 5 36 37 38 120 3 126 (zr:=bT.enc (bS.mk (0:Int) (0:Int) (bF.mk []))) ⟨rfl,rfl,rfl⟩ ⟨rfl,rfl,rfl⟩ ⟨rfl,rfl,rfl⟩ ⟨rfl,rfl,rfl⟩ ⟨Nat.le_of_ble_eq_true rfl,Nat.le_of_ble_eq_true rfl,Nat.le_of_ble_eq_true rfl⟩ (by decide) GS zeroValue120 (by decide) (λw=>by show bJ w [u ((bS.mk (0:Int) (0:Int) (bF.mk [])).c4),u ((bS.mk (0:Int) (0:Int) (bF.mk [])).bW),aj cm (((bS.mk (0:Int) (0:Int) (bF.mk [])).Database).bf)] _;simp only[bJ,aS];exact⟨_,_,rfl,rfl,⟨_,_,rfl,rfl,⟨_,_,rfl,⟨none,0,rfl,Nat.le_refl _,Nat.zero_le _,λ_=>rfl,.inl rfl⟩,rfl⟩⟩⟩) rfl rfl rfl rfl (P8 bT n) ⟨rfl,rfl,rfl⟩ (Ow bT d c.toNat (bS.mk (0:Int) (0:Int) (bF.mk []))) ?_);show aq _ _ _ [(0,.own 126),(1,.cL oC oI),(5,u c),(6,u e),(19,.d (e<(d.length:Int)))] [(126,.slice 120 3 (af bT (d.take c.toNat++List.replicate (d.length-c.toNat) (bS.mk (0:Int) (0:Int) (bF.mk [])))) 0 false)];obtain⟨E,G,b⟩:=ah b;refine ak [(2,RQ 387 GS (sl bT G))] [(4,.own 387)] [(387,.slice 120 3 (af bT E) 0 false)]<|A.ret ?_
 obtain rfl:=cw b;exact atv b0 [.b5 387 221] rfl (by kernel_rfl)
variable {Ui:Int}{f:aA}
def BR{r:cM×Int×Int}(b:mP f Ui=some r):cp prog 67 [] [.agg (cK f),u Ui] (λa k=>a=.bP [.ptr 10 0,u r.2.1,u r.2.2]/\k=[(86,.slice 37 5 (af bA r.1.bg.ay) 0 false),(108,.slice 120 3 (af bT r.1.bg.aY) 0 false),(10,.c 116 [aj aD r.1.bg.Links,.own 86,.own 108])]):=by
 refine bq func67 rfl rfl ?_;unfold mP at b;refine ak [(0,.al 153)] [(1,u Ui),(2,.ptr 153 0)] [(153,.cells 29 (cK f))]<|A.seq ?_
 obtain⟨i,l,b⟩:=ah b;refine ai [(1,aH (kX l) lE)] [] [(11,.bool (!decide (i=0)))] ?_;rcases aC b with⟨e,b⟩|⟨e,b⟩
 .refine aJ e<|ak [] [(4,.fm),(5,u 0),(6,u 1)] []<|A.ret ?_
  cases b
 refine aI e<|A.skip ?_
 obtain⟨c,h,b⟩:=ah b;refine ai [(2,aH (uc h) s5)] [1,11] [(7,u c.1),(8,.bool c.2)]<|A.seq<|ai [] [8] [(19,.bool (!c.2))] ?_
 rcases aC b with⟨g,b⟩|⟨g,b⟩
 .refine aJ g<|ak [] [(4,.fm),(5,u 0),(6,u 4)] []<|A.ret ?_
  cases b
 refine aI g<|A.skip ?_
 obtain⟨d,j,b⟩:=ah b;refine ak [(1,bV [98,44,54] (q7 j) qL),(3,.al 276)] [(4,.ptr 276 0),(5,u c.1),(6,u 0)] [(98,.slice 101 5 (af aD d.Links) 0 false),(44,.slice 37 5 (af bA d.ay) 0 false),(54,.slice 120 3 (af bT d.aY) 0 false),(276,.c 116 [.own 98,.own 44,.own 54])]<|A.ret ?_
 obtain rfl:=cw b;exact atv b0 [.bN [98],.b5 276 10,.b5 44 86,.b5 54 108,.sc 10 [86,108]] rfl (by kernel_rfl)
def BS{r:Int×Int}(a:pn f Ui=some r):bB prog 67 [] [.agg (cK f),u Ui] (.bP [.fm,u r.1,u r.2]):=by
 refine bq func67 rfl rfl ?_;unfold pn at a;refine ak [(0,.al 153)] [(1,u Ui),(2,.ptr 153 0)] [(153,.cells 29 (cK f))]<|A.seq ?_
 obtain⟨h,j,a⟩:=ah a;refine ai [(1,aH (kX j) lE)] [] [(11,.bool (!decide (h=0)))] ?_;rcases aC a with⟨d,a⟩|⟨d,a⟩
 .refine aJ d<|ak [] [(4,.fm),(5,u 0),(6,u 1)] [] ?_
  cases a;exact A.ret aX
 refine aI d<|A.skip ?_
 obtain⟨b,g,a⟩:=ah a;refine ai [(2,aH (uc g) s5)] [1,11] [(7,u b.1),(8,.bool b.2)]<|A.seq<|ai [] [8] [(19,.bool (!b.2))] ?_
 rcases aC a with⟨e,a⟩|⟨e,a⟩
 .refine aJ e<|ak [] [(4,.fm),(5,u 0),(6,u 4)] [] ?_
  cases a;exact A.ret aX
 refine aI e<|A.skip ?_
 obtain⟨c,i,a⟩:=ah a;refine ak [(1,bV [98,44,54] (q7 i) qL),(3,.al 276)] [(4,.ptr 276 0),(5,u b.1),(6,u 0)] [(98,.slice 101 5 (af aD c.Links) 0 false),(44,.slice 37 5 (af bA c.ay) 0 false),(54,.slice 120 3 (af bT c.aY) 0 false),(276,.c 116 [.own 98,.own 44,.own 54])]<|A.ret ?_
 cases a
variable {k:Int}
def HE{r:cM×Int}(b:nS f k=some r):cp prog 69 [] [.agg (cK f),u k] (λa l=>a=.bP [.ptr 10 0,u r.2]/\l=[(137,.slice 37 5 (af bA r.1.bg.ay) 0 false),(507006901,.slice 120 3 (af bT r.1.bg.aY) 0 false),(10,.c 116 [aj aD r.1.bg.Links,.own 137,.own 507006901])]):=by
 refine bq func69 rfl rfl ?_;unfold nS at b;refine ak [(0,.al 175)] [(1,u k),(2,.ptr 175 0)] [(175,.cells 29 (cK f))]<|A.seq<|A.block ?_
 obtain⟨j,m,b⟩:=ah b;refine ai [(1,aH (kX m) lE)] [] [(6,.bool (!decide (j=0)))] ?_;rcases aC b with⟨e,b⟩|⟨e,b⟩
 .refine aJ e<|ak [] [(4,.fm),(5,u 1)] []<|A.ret ?_
  cases b
 refine aI e<|atA [(2,.ptr 175 0),(10,.bool ((decide (k<0))||(decide ((f.aY.length:Int)<=k))))] [(175,.cells 29 (cK f))] (λh=>?_) ?_
 .rcases eY (decide (k<0))with c|c
  .exact ak [(2,Z (ax c)),(9,Z (g0 (q:=decide ((f.aY.length:Int)<=k)) c))] _ _ h
  exact ak [(2,Z (ax c)),(6,Z (bl bT f.aY)),(9,Z (eS (q:=decide ((f.aY.length:Int)<=k)) c))] _ _ h
 rcases aC b with⟨d,b⟩|⟨d,b⟩
 .refine aJ d<|ak [] [(4,.fm),(5,u 4)] []<|A.ret ?_
  cases b
 refine aI d<|A.skip ?_
 obtain⟨g,i,b⟩:=ah b;refine ak [(1,bV [98,44,54] (q7 i) qL),(3,.al 277)] [(4,.ptr 277 0),(5,u 0)] [(98,.slice 101 5 (af aD g.Links) 0 false),(44,.slice 37 5 (af bA g.ay) 0 false),(54,.slice 120 3 (af bT g.aY) 0 false),(277,.c 116 [.own 98,.own 44,.own 54])]<|A.ret ?_
 obtain rfl:=cw b;exact atv b0 [.bN [98],.b5 277 10,.b5 44 137,.b5 54 507006901,.sc 10 [137,507006901]] rfl (by kernel_rfl)
def HK{r:Int}(a:qZ f k=some r):bB prog 69 [] [.agg (cK f),u k] (.bP [.fm,u r]):=by
 refine bq func69 rfl rfl ?_;unfold qZ at a;refine ak [(0,.al 175)] [(1,u k),(2,.ptr 175 0)] [(175,.cells 29 (cK f))]<|A.seq<|A.block ?_
 obtain⟨i,j,a⟩:=ah a;refine ai [(1,aH (kX j) lE)] [] [(6,.bool (!decide (i=0)))] ?_;rcases aC a with⟨d,a⟩|⟨d,a⟩
 .refine aJ d<|ak [] [(4,.fm),(5,u 1)] [] ?_
  cases a;exact A.ret aX
 refine aI d<|atA [(2,.ptr 175 0),(10,.bool ((decide (k<0))||(decide ((f.aY.length:Int)<=k))))] [(175,.cells 29 (cK f))] (λg=>?_) ?_
 .rcases eY (decide (k<0))with b|b
  .exact ak [(2,Z (ax b)),(9,Z (g0 (q:=decide ((f.aY.length:Int)<=k)) b))] _ _ g
  exact ak [(2,Z (ax b)),(6,Z (bl bT f.aY)),(9,Z (eS (q:=decide ((f.aY.length:Int)<=k)) b))] _ _ g
 rcases aC a with⟨c,a⟩|⟨c,a⟩
 .refine aJ c<|ak [] [(4,.fm),(5,u 4)] [] ?_
  cases a;exact A.ret aX
 refine aI c<|A.skip ?_
 obtain⟨e,h,a⟩:=ah a;refine ak [(1,bV [98,44,54] (q7 h) qL),(3,.al 277)] [(4,.ptr 277 0),(5,u 0)] [(98,.slice 101 5 (af aD e.Links) 0 false),(44,.slice 37 5 (af bA e.ay) 0 false),(54,.slice 120 3 (af bT e.aY) 0 false),(277,.c 116 [.own 98,.own 44,.own 54])]<|A.ret ?_
 cases a
variable {Wx:aK}
def S9{b:bZ}{r:Bool}(a:pE b Wx=some r):bB prog 85 [] [.agg (kg b),.dR (bE Wx)] (.bool r):=by
 refine bq func85 rfl rfl ?_;unfold pE at a;refine ak [(0,.al 461)] [(1,.dR (bE Wx)),(2,.ptr 461 0)] [(461,.cells 105 (kg b))] ?_;obtain⟨c,d,a⟩:=ah a;refine ak [(3,aH (nT d) nI)] [(3,.bool (!c))] [] ?_;cases a;exact A.ret aX
variable {r:aA×Int}
def HU{t:aK}{b:l5}(a:pz t b=some r):bB prog 31 [] [.agg (bE t),aj c1 b] (.bP [.agg (cK r.1),u r.2]):=by
 refine bq func31 rfl rfl ?_;unfold pz at a;refine ak [(0,.al 107),(1,.al 20)] [(1,aj c1 b),(2,.ptr 107 0),(4,.ptr 20 0)] [(107,.cells 41 (bE t)),(20,.c 29 [.az,.az,.az])]<|A.seq ?_
 obtain⟨L,a3,a⟩:=ah a;refine ai [(1,aH (kV a3) lF)] [] [(15,.bool (!decide (L=0)))] ?_;rcases aC a with⟨o,a⟩|⟨o,a⟩
 .refine aJ o<|aT [] [1,2,15] [(5,u 1)] [107] [] ?_
  cases a;exact A.ret aX
 refine aI o<|A.skip<|A.seq ?_
 obtain⟨M,I,a⟩:=ah a;refine ai [(2,bp [107] (Hu (c3:=85) (dF:=[.dR (bE t)]) (eO:=RB) (eN:=λ_ _ a1=>S9 a1) I) GL)] [15] [(19,.bool M)] ?_;rcases aC a with⟨p,a⟩|⟨p,a⟩
 .refine aJ p<|aT [] [1,2,19] [(5,u 4)] [107] [] ?_
  cases a;exact A.ret aX
 refine aI p<|A.skip<|A.seq<|ai [(1,Z (bl c1 b))] [19] [(22,u b.length),(23,u 0)]<|A.block<|atz 1 rfl λQ=>?_
 obtain⟨U,V,W,X,a⟩:=cO a;refine atx (l:=b) (cD:=0) (B:=U) (K:=V) a (λe=>λ()=>[(1,aj c1 b),(2,.ptr 107 0),(4,.ptr 20 0),(22,u b.length),(23,u e)]) (λe=>λ()=>[(107,.cells 41 (bE t)),(20,.c 29 [.az,.az,.az])]) ?_ ?_ ?_
 .exact c5
 .rintro e ba a7 ⟨⟩ T j a;rw[W]at a;refine ai [] [] [(24,.d ((e:Int)<b.length))]<|A.seq<|aJ (cT j)<|A.skip<|A.seq<|A.block<|ai [] [24] [(6,u e)] ?_
  obtain⟨H,N,a⟩:=cW a;refine A.J (J:=H) (r:=r) (λm=>[(1,aj c1 b),(2,.ptr 107 0),(4,.ptr 20 0),(22,u b.length),(23,u e),(58,.bool m)]) (λm=>[(107,.cells 41 (bE t)),(20,.c 29 [.az,.az,.az])]) ?_ ?_
  .rcases aC a with⟨n,a⟩|⟨n,a⟩
   .obtain⟨a5,C,a⟩:=ah a;obtain⟨a4,G,a⟩:=ah a;obtain⟨a6,F,a⟩:=ah a;obtain⟨E,O,a⟩:=ah a;exact bu [(2,Z (ax n)),(6,bh (ix c1 C)),(11,bh (ix c1 (b3 j))),(14,aH (jE G) jZ),(18,bh (ix c1 C)),(24,bh (ix c1 (b3 j))),(28,aH (jE F) jZ),(30,aH (x7 O) w3)] [6] [(58,.d (0<=E))]<|aV (decide (0<=E)) a
   exact bu [(2,Z (ax n))] [6] [(58,.bool false)]<|aV false a
  rintro m a;rw[N]at a;rcases aC a with⟨w,a⟩|⟨w,a⟩
  .refine aJ w<|aT [] [1,2,22,23,58] [(5,u 25)] [107] [] ?_
   cases a;exact A.ret aX
  exact aI w<|A.skip<|bu [(0,Z (cQ j Q))] [23,58] [(23,u ((e+1:Nat):Int))]<|aV () a
 rintro e ⟨⟩ T R a;rw[X]at a;refine ai [] [] [(24,.d ((e:Int)<b.length))]<|A.seq<|aI (cS R)<|A.exit ?_
 obtain⟨h,P,a⟩:=ah a;refine aT [(2,bV [12] (xh P) wZ),(4,.al 65)] [22,23,24] [(7,.ptr 65 0)] [] [(12,.slice 101 5 (af aD h) 0 false),(65,.c 29 [.own 12,.az,.az])]<|A.seq<|aT [(2,Z (bl bz t.aL))] [2] [(66,aj bz t.aL),(67,u t.aL.length),(68,u 0)] [107] []<|A.block<|atz 66 rfl λan=>?_
 obtain⟨ao,av,aq,ar,a⟩:=cO a;refine atx (l:=t.aL) (cD:=0) (B:=ao) (K:=av) a (λd=>λg=>[(1,aj c1 b),(4,.ptr 20 0),(7,.ptr 65 0),(66,aj bz t.aL),(67,u t.aL.length),(68,u d)]) (λd=>λg=>[(20,.c 29 [.az,.az,.az]),(12,.slice 101 5 (af aD h) 0 false),(65,.c 29 [.own 12,.own 79,.az]),(79,.slice 37 5 (af bA g) 0 false)]) ?_ ?_ ?_
 .exact ct [.ac 65 79 37 5 1] []
 .rintro d c a8 g am q a;rw[aq]at a;refine ai [] [] [(69,.d ((d:Int)<t.aL.length))]<|A.seq<|aJ (cT q)<|A.skip<|A.seq<|A.block<|aT [(0,bh (ix bz (b3 q))),(2,.al 115)] [69] [(9,.ptr 115 0)] [] [(115,.cells 79 (ha c))]<|aT [(5,.al 116)] [] [(10,.ptr 116 0)] [] [(116,.c 37 [u c.aP,u 0,.bool c.bw,.az,.az])]<|A.seq<|ai [(1,Z (bl c1 b))] [] [(77,aj c1 b),(78,u b.length),(79,u 0)]<|A.block<|atz 1 rfl λaF=>?_
  obtain⟨aQ,aU,aW,a0,a⟩:=cO a;refine atx (l:=b) (cD:=0) (B:=aQ) (K:=aU) a (λf=>λi=>[(1,aj c1 b),(4,.ptr 20 0),(7,.ptr 65 0),(9,.ptr 115 0),(10,.ptr 116 0),(66,aj bz t.aL),(67,u t.aL.length),(68,u d),(77,aj c1 b),(78,u b.length),(79,u f)]) (λf=>λi=>[(20,.c 29 [.az,.az,.az]),(12,.slice 101 5 (af aD h) 0 false),(65,.c 29 [.own 12,.own 79,.az]),(79,.slice 37 5 (af bA g) 0 false),(115,.cells 79 (ha c)),(116,.c 37 [u c.aP,u 0,.bool c.bw,.own 163,.az]),(163,.slice 103 3 (af c8 i) 0 false)]) ?_ ?_ ?_
  .exact ct [.ac 116 163 103 3 3] []
  .rintro f D a9 i aM y a;rw[aW]at a;refine ai [] [] [(80,.d ((f:Int)<b.length))]<|A.seq<|aJ (cT y)<|A.skip ?_
   obtain⟨S,ab,a⟩:=cW a;refine A.J (J:=S) (r:=r) (λk=>[(1,aj c1 b),(4,.ptr 20 0),(7,.ptr 65 0),(9,.ptr 115 0),(10,.ptr 116 0),(66,aj bz t.aL),(67,u t.aL.length),(68,u d),(77,aj c1 b),(78,u b.length),(79,u f)]) (λk=>[(20,.c 29 [.az,.az,.az]),(12,.slice 101 5 (af aD h) 0 false),(65,.c 29 [.own 12,.own 79,.az]),(79,.slice 37 5 (af bA g) 0 false),(115,.cells 79 (ha c)),(116,.c 37 [u c.aP,u 0,.bool c.bw,.own 163,.az]),(163,.slice 103 3 (af c8 k) 0 false)]) ?_ ?_
   .refine A.block<|aT [(0,bh (ix c1 (b3 y))),(2,.al 321)] [80] [(12,.ptr 321 0)] [] [(321,.cells 105 (kg D))] ?_
    refine ai [] [] [(87,.d (D.Router=c.aP))] ?_;rcases aC a with⟨v,a⟩|⟨v,a⟩
    .refine aJ v ?_;obtain⟨z,aw,a⟩:=ah a;exact bX [(5,dH 374 (ap c8 (bytes:=24) (by decide) aw))] [12,87] [] [116,163,321] [(116,.c 37 [u c.aP,u 0,.bool c.bw,.own 374,.az]),(374,.slice 103 3 (af c8 z) 0 false)]<|Exists.intro z (And.intro a (ct [.b5 374 163] []))
    exact aI v<|A.skip<|aV i a
   rintro k a;rw[ab]at a;exact bu [(0,Z (cQ y aF))] [79] [(79,u ((f+1:Nat):Int))]<|aV k a
  rintro f i aM aG a;rw[a0]at a;refine ai [] [] [(80,.d ((f:Int)<b.length))]<|A.seq<|aI (cS aG)<|A.exit ?_
  obtain⟨s,au,a⟩:=ah a;exact A.R b0 [.bN [163],.sc 116 [20,12,65,79,115,116]] [(4,dH 287 (ap bA (bytes:=72) (by decide) au))] [(1,aj c1 b),(4,.ptr 20 0),(7,.ptr 65 0),(66,aj bz t.aL),(67,u t.aL.length),(68,u d)] [(20,.c 29 [.az,.az,.az]),(12,.slice 101 5 (af aD h) 0 false),(65,.c 29 [.own 12,.own 287,.az]),(287,.slice 37 5 (af bA s) 0 false)] (by kernel_rfl)<|jP [(0,Z (cQ q an))] [(1,aj c1 b),(4,.ptr 20 0),(7,.ptr 65 0),(66,aj bz t.aL),(67,u t.aL.length),(68,u ((d+1:Nat):Int))] [(20,.c 29 [.az,.az,.az]),(12,.slice 101 5 (af aD h) 0 false),(65,.c 29 [.own 12,.own 287,.az]),(287,.slice 37 5 (af bA s) 0 false)]<|Exists.intro s (And.intro a (ct [.b5 287 79] []))
 rintro d g am Y a;rw[ar]at a;refine ai [] [] [(69,.d ((d:Int)<t.aL.length))]<|A.seq<|aI (cS Y)<|A.exit<|A.seq ?_
 obtain⟨ae,aE,a⟩:=ah a;refine ai [(1,bp [12,79] (kX aE) lE)] [1,66,67,68,69] [(105,.bool (!decide (ae=0)))] ?_;rcases aC a with⟨x,a⟩|⟨x,a⟩
 .refine aJ x<|aT [] [7,105] [(5,u 1)] [12,65,79] [] ?_
  cases a;exact A.ret aX
 refine aI x<|A.skip<|aT [] [7,105] [(5,u 0)] [20,65] [(20,.c 29 [.own 12,.own 79,.az])]<|A.ret ?_
 obtain rfl:=cw a;exact atv b0 [.bN [12,79]] rfl (by kernel_rfl)
def BQ(b:lN f Ui=some r):cp prog 33 [] [.agg (cK f),u Ui] (λa p=>a=.bP [.agg [aj aD r.1.Links,.own 193,.own 194],u r.2]/\p=[(193,.slice 37 5 (af bA r.1.ay) 0 false),(194,.slice 120 3 (af bT r.1.aY) 0 false)]):=by
 refine bq func33 rfl rfl ?_;unfold lN at b;refine ak [(0,.al 432),(1,.al 90)] [(1,u Ui),(2,.ptr 432 0),(4,.ptr 90 0)] [(432,.cells 29 (cK f)),(90,.c 29 [.az,.az,.az])] ?_;rcases u9 b with⟨d,q,b⟩|b
 .refine ak [(2,bV [10,86,108] (BR q) qN)] [(4,.ptr 90 0),(6,.ptr 10 0),(7,u d.2.1),(8,u d.2.2)] [(90,.c 29 [.az,.az,.az]),(86,.slice 37 5 (af bA d.1.bg.ay) 0 false),(108,.slice 120 3 (af bT d.1.bg.aY) 0 false),(10,.c 116 [aj aD d.1.bg.Links,.own 86,.own 108])]<|A.seq<|ai [] [] [(17,.bool (!decide (d.2.2=0)))] ?_
  rcases aC b with⟨i,b⟩|⟨i,b⟩
  .refine aJ i<|aT [] [6,7,8,17] [(5,u d.2.2)] [86,108,10] []<|A.ret ?_
   obtain rfl:=cw b;exact atv b0 [.ac 90 193 37 5 1,.ac 90 194 120 3 2] rfl (by kernel_rfl)
  refine aI i<|A.skip<|A.seq ?_
  obtain⟨k,c,b⟩:=ah b;refine ai [(6,bh (ix bA c)),(8,eK 86 1 (ix bA c))] [8,17] [(29,.d (k.Seq=1000000))] ?_;rcases aC b with⟨j,b⟩|⟨j,b⟩
  .refine aJ j<|aT [] [6,7,29] [(5,u 7)] [86,108,10] []<|A.ret ?_
   obtain rfl:=cw b;exact atv b0 [.ac 90 193 37 5 1,.ac 90 194 120 3 2] rfl (by kernel_rfl)
  refine aI j<|A.skip ?_
  obtain⟨n,o,b⟩:=ah b;refine aT [(6,bh (ix bA c)),(8,eK 86 1 (ix bA c)),(10,bh (ix bA c)),(12,iY 86 (st bA (off:=1) (ca:=[u (a1 (k.Seq+1))]) c o rfl) (jJ c).1.1)] [29] [] [86] [(86,.slice 37 5 (af bA n) 0 false)] ?_;obtain⟨g,m,b⟩:=ah b;refine aT [(2,bV [268,269] (ep.at [(121,86),(160,108),(241,268),(242,269)] (xx m)) w1)] [7] [] [86,108,10] [(10,.c 116 [aj aD g.bg.Links,.own 268,.own 269]),(268,.slice 37 5 (af bA g.bg.ay) 0 false),(269,.slice 120 3 (af bT g.bg.aY) 0 false)]<|aT [] [6] [(5,u 0)] [90,10] [(90,.c 29 [aj aD g.bg.Links,.own 268,.own 269])]<|A.ret ?_
  obtain rfl:=cw b;exact atv b0 [.b5 268 193,.b5 269 194] rfl (by kernel_rfl)
 obtain⟨e,l,b⟩:=ah b;refine ak [(2,aH (BS l) qN)] [(4,.ptr 90 0),(6,.fm),(7,u e.1),(8,u e.2)] [(90,.c 29 [.az,.az,.az])]<|A.seq<|ai [] [] [(17,.bool (!decide (e.2=0)))] ?_
 rcases aC b with⟨h,b⟩|⟨h,b⟩
 .refine aJ h<|ai [] [6,7,8,17] [(5,u e.2)]<|A.ret ?_
  obtain rfl:=cw b;exact atv b0 [.ac 90 193 37 5 1,.ac 90 194 120 3 2] rfl (by kernel_rfl)
 refine aI h<|A.skip<|A.seq ?_
 cases b
def Ta(a:ud f Ui=some r):bB prog 19 [] [.agg (cK f),u Ui] (.bP [.agg (cK r.1),u r.2]):=by
 refine bq func19 rfl rfl ?_;unfold ud at a;refine ak [(0,.al 419),(1,.al 128)] [(1,u Ui),(2,.ptr 419 0),(4,.ptr 128 0)] [(419,.cells 29 (cK f)),(128,.c 29 [.az,.az,.az])] ?_;rcases u9 a with⟨b,o,a⟩|a
 .refine ak [(2,bV [10,86,108] (BR o) qN)] [(4,.ptr 128 0),(6,.ptr 10 0),(7,u b.2.1),(8,u b.2.2)] [(128,.c 29 [.az,.az,.az]),(86,.slice 37 5 (af bA b.1.bg.ay) 0 false),(108,.slice 120 3 (af bT b.1.bg.aY) 0 false),(10,.c 116 [aj aD b.1.bg.Links,.own 86,.own 108])]<|A.seq<|ai [] [] [(17,.bool (!decide (b.2.2=0)))] ?_
  rcases aC a with⟨h,a⟩|⟨h,a⟩
  .refine aJ h<|aT [] [6,7,8,17] [(5,u b.2.2)] [86,108,10] [] ?_
   cases a;exact A.ret aX
  refine aI h<|A.skip ?_
  obtain⟨p,g,a⟩:=ah a;obtain⟨q,k,a⟩:=ah a;obtain⟨s,e,a⟩:=ah a;obtain⟨m,j,a⟩:=ah a;refine aT [(13,bh (ix bA g)),(15,iY 86 (st bA (off:=4) (ca:=[.bn false []]) g k rfl) (jJ g).1.1),(16,bh (ix bA e)),(18,iY 86 (st bA (off:=1) (ca:=[u 1]) e j rfl) (jJ e).1.1)] [8,17] [] [86] [(86,.slice 37 5 (af bA m) 0 false)] ?_;obtain⟨d,l,a⟩:=ah a;refine aT [(2,bV [264,265] (ep.at [(121,86),(160,108),(241,264),(242,265)] (xx l)) w1)] [7] [] [86,108,10] [(10,.c 116 [aj aD d.bg.Links,.own 264,.own 265]),(264,.slice 37 5 (af bA d.bg.ay) 0 false),(265,.slice 120 3 (af bT d.bg.aY) 0 false)]<|aT [] [6] [(5,u 0)] [128,10] [(128,.c 29 [aj aD d.bg.Links,.own 264,.own 265])]<|A.ret ?_
  obtain rfl:=cw a;exact atv b0 [.bN [264,265]] rfl (by kernel_rfl)
 obtain⟨c,n,a⟩:=ah a;refine ak [(2,aH (BS n) qN)] [(4,.ptr 128 0),(6,.fm),(7,u c.1),(8,u c.2)] [(128,.c 29 [.az,.az,.az])]<|A.seq<|ai [] [] [(17,.bool (!decide (c.2=0)))] ?_
 rcases aC a with⟨i,a⟩|⟨i,a⟩
 .refine aJ i<|ai [] [6,7,8,17] [(5,u c.2)] ?_
  cases a;exact A.ret aX
 refine aI i<|A.skip ?_
 cases a
def IE(a:up f Ui=some r):bB prog 21 [] [.agg (cK f),u Ui] (.bP [.agg (cK r.1),u r.2]):=by
 refine bq func21 rfl rfl ?_;unfold up at a;refine ak [(0,.al 423),(1,.al 118)] [(1,u Ui),(2,.ptr 423 0),(4,.ptr 118 0)] [(423,.cells 29 (cK f)),(118,.c 29 [.az,.az,.az])] ?_;rcases u9 a with⟨b,k,a⟩|a
 .refine ak [(2,bV [10,86,108] (BR k) qN)] [(4,.ptr 118 0),(6,.ptr 10 0),(7,u b.2.1),(8,u b.2.2)] [(118,.c 29 [.az,.az,.az]),(86,.slice 37 5 (af bA b.1.bg.ay) 0 false),(108,.slice 120 3 (af bT b.1.bg.aY) 0 false),(10,.c 116 [aj aD b.1.bg.Links,.own 86,.own 108])]<|A.seq<|ai [] [] [(17,.bool (!decide (b.2.2=0)))] ?_
  rcases aC a with⟨g,a⟩|⟨g,a⟩
  .refine aJ g<|aT [] [6,7,8,17] [(5,u b.2.2)] [86,108,10] [] ?_
   cases a;exact A.ret aX
  refine aI g<|A.skip ?_
  obtain⟨c,i,a⟩:=ah a;refine aT [(2,bV [234,235] (ep.at [(122,86),(222,108),(326,234),(327,235)] (HI i)) G7)] [7,8,17] [] [86,108,10] [(10,.c 116 [aj aD c.bg.Links,.own 234,.own 235]),(234,.slice 37 5 (af bA c.bg.ay) 0 false),(235,.slice 120 3 (af bT c.bg.aY) 0 false)]<|A.seq<|ai [(5,Z (bl bT c.bg.aY))] [] [(29,.d (400<(c.bg.aY.length:Int)))] ?_
  rcases aC a with⟨h,a⟩|⟨h,a⟩
  .refine aJ h<|aT [] [6,29] [(5,u 3)] [10,234,235] [] ?_
   cases a;exact A.ret aX
  refine aI h<|A.skip<|aT [] [6,29] [(5,u 0)] [118,10] [(118,.c 29 [aj aD c.bg.Links,.own 234,.own 235])]<|A.ret ?_
  obtain rfl:=cw a;exact atv b0 [.bN [234,235]] rfl (by kernel_rfl)
 obtain⟨d,j,a⟩:=ah a;refine ak [(2,aH (BS j) qN)] [(4,.ptr 118 0),(6,.fm),(7,u d.1),(8,u d.2)] [(118,.c 29 [.az,.az,.az])]<|A.seq<|ai [] [] [(17,.bool (!decide (d.2=0)))] ?_
 rcases aC a with⟨e,a⟩|⟨e,a⟩
 .refine aJ e<|ai [] [6,7,8,17] [(5,u d.2)] ?_
  cases a;exact A.ret aX
 refine aI e<|A.skip ?_
 cases a
def Tb(a:ue f k=some r):bB prog 24 [] [.agg (cK f),u k] (.bP [.agg (cK r.1),u r.2]):=by
 refine bq func24 rfl rfl ?_;unfold ue at a;refine ak [(0,.al 425),(1,.al 145)] [(1,u k),(2,.ptr 425 0),(4,.ptr 145 0)] [(425,.cells 29 (cK f)),(145,.c 29 [.az,.az,.az])] ?_;rcases u9 a with⟨b,j,a⟩|a
 .refine ak [(2,bV [10,137,507006901] (HE j) w2)] [(1,u k),(4,.ptr 145 0),(6,.ptr 10 0),(7,u b.2)] [(145,.c 29 [.az,.az,.az]),(137,.slice 37 5 (af bA b.1.bg.ay) 0 false),(507006901,.slice 120 3 (af bT b.1.bg.aY) 0 false),(10,.c 116 [aj aD b.1.bg.Links,.own 137,.own 507006901])]<|A.seq<|ai [] [] [(15,.bool (!decide (b.2=0)))] ?_
  rcases aC a with⟨e,a⟩|⟨e,a⟩
  .refine aJ e<|aT [] [1,6,7,15] [(5,u b.2)] [137,507006901,10] [] ?_
   cases a;exact A.ret aX
  refine aI e<|A.skip ?_
  obtain⟨c,h,a⟩:=ah a;refine aT [(2,bV [266,267] (ep.at [(37,137),(505007202,507006901),(260,266),(261,267)] (HB h)) G9)] [1,7,15] [] [137,507006901,10] [(10,.c 116 [aj aD c.bg.Links,.own 266,.own 267]),(266,.slice 37 5 (af bA c.bg.ay) 0 false),(267,.slice 120 3 (af bT c.bg.aY) 0 false)]<|aT [] [6] [(5,u 0)] [145,10] [(145,.c 29 [aj aD c.bg.Links,.own 266,.own 267])]<|A.ret ?_
  obtain rfl:=cw a;exact atv b0 [.bN [266,267]] rfl (by kernel_rfl)
 obtain⟨d,i,a⟩:=ah a;refine ak [(2,aH (HK i) w2)] [(1,u k),(4,.ptr 145 0),(6,.fm),(7,u d)] [(145,.c 29 [.az,.az,.az])]<|A.seq<|ai [] [] [(15,.bool (!decide (d=0)))] ?_
 rcases aC a with⟨g,a⟩|⟨g,a⟩
 .refine aJ g<|ai [] [1,6,7,15] [(5,u d)] ?_
  cases a;exact A.ret aX
 refine aI g<|A.skip ?_
 cases a
def IF(a:uq f k=some r):bB prog 23 [] [.agg (cK f),u k] (.bP [.agg (cK r.1),u r.2]):=by
 refine bq func23 rfl rfl ?_;unfold uq at a;refine ak [(0,.al 424),(1,.al 144)] [(1,u k),(2,.ptr 424 0),(4,.ptr 144 0)] [(424,.cells 29 (cK f)),(144,.c 29 [.az,.az,.az])] ?_;rcases u9 a with⟨b,l,a⟩|a
 .refine ak [(2,bV [10,137,507006901] (HE l) w2)] [(1,u k),(4,.ptr 144 0),(6,.ptr 10 0),(7,u b.2)] [(144,.c 29 [.az,.az,.az]),(137,.slice 37 5 (af bA b.1.bg.ay) 0 false),(507006901,.slice 120 3 (af bT b.1.bg.aY) 0 false),(10,.c 116 [aj aD b.1.bg.Links,.own 137,.own 507006901])]<|A.seq<|ai [] [] [(15,.bool (!decide (b.2=0)))] ?_
  rcases aC a with⟨c,a⟩|⟨c,a⟩
  .refine aJ c<|aT [] [1,6,7,15] [(5,u b.2)] [137,507006901,10] [] ?_
   cases a;exact A.ret aX
  refine aI c<|A.skip ?_
  obtain⟨h,i,a⟩:=ah a;refine aT [(9,bV [520023001] (D9 (d:=507006901) (D:=520023001) i (by decide)) G8)] [1,7,15] [] [507006901,10] [(10,.c 116 [aj aD b.1.bg.Links,.own 137,.own 520023001]),(520023001,.slice 120 3 (af bT h) 0 false)]<|aT [] [6] [(5,u 0)] [144,10] [(144,.c 29 [aj aD b.1.bg.Links,.own 137,.own 520023001])]<|A.ret ?_
  obtain rfl:=cw a;exact atv b0 [.bN [137,520023001]] rfl (by kernel_rfl)
 obtain⟨e,j,a⟩:=ah a;refine ak [(2,aH (HK j) w2)] [(1,u k),(4,.ptr 144 0),(6,.fm),(7,u e)] [(144,.c 29 [.az,.az,.az])]<|A.seq<|ai [] [] [(15,.bool (!decide (e=0)))] ?_
 rcases aC a with⟨g,a⟩|⟨g,a⟩
 .refine aJ g<|ai [] [1,6,7,15] [(5,u e)] ?_
  cases a;exact A.ret aX
 refine aI g<|A.skip ?_
 cases a
def Td{b:bS}{r:Bool}(a:tN b Wx=some r):bB prog 60 [] [.agg (m3 b),.dR (bE Wx)] (.bool r):=by
 refine bq func60 rfl rfl ?_;unfold tN at a;refine ak [(0,.al 444)] [(1,.dR (bE Wx)),(2,.ptr 444 0)] [(444,.cells 120 (m3 b))] ?_;obtain⟨c,d,a⟩:=ah a;refine ak [(5,aH (H1 d) G6)] [(5,.bool c.2)] []<|ak [] [(3,.bool (!c.2))] [] ?_
 cases a;exact A.ret aX
def HR{D:jC}(a:mS f D=some r):bB prog 16 [] [.agg (cK f),aj aD D] (.bP [.agg (cK r.1),u r.2]):=by
 refine bq func16 rfl rfl ?_;unfold mS at a;refine ak [(0,.al 40),(1,.al 36)] [(1,aj aD D),(2,.ptr 40 0),(4,.ptr 36 0)] [(40,.cells 29 (cK f)),(36,.c 29 [.az,.az,.az])] ?_;obtain⟨b,aF,a⟩:=ah a;refine aT [(1,bV [98,44,54] (q7 aF) qL),(3,.al 41)] [] [(6,.ptr 41 0)] [] [(98,.slice 101 5 (af aD b.Links) 0 false),(44,.slice 37 5 (af bA b.ay) 0 false),(54,.slice 120 3 (af bT b.aY) 0 false),(41,.c 116 [.own 98,.own 44,.own 54])] ?_;obtain⟨p,O,a⟩:=ah a;refine aT [(2,bV [12] (xh O) wZ)] [1] [] [98,41] [(41,.c 116 [.own 12,.own 44,.own 54]),(12,.slice 101 5 (af aD p) 0 false)]<|A.seq ?_
 obtain⟨M,P,a⟩:=cW a;refine A.J (J:=M) (r:=r) (λt=>[(2,.ptr 40 0),(4,.ptr 36 0),(6,.ptr 41 0),(34,.bool t)]) (λt=>[(40,.cells 29 (cK f)),(36,.c 29 [.az,.az,.az]),(44,.slice 37 5 (af bA b.ay) 0 false),(54,.slice 120 3 (af bT b.aY) 0 false),(41,.c 116 [.own 12,.own 44,.own 54]),(12,.slice 101 5 (af aD p) 0 false)]) ?_ ?_
 .obtain⟨aG,G,a⟩:=ah a;rcases aC a with⟨w,a⟩|⟨w,a⟩
  .exact bu [(1,aH (kX G) lE),(3,Z (ax w))] [] [(34,.bool true)]<|aV true a
  obtain⟨F,L,a⟩:=ah a;exact bu [(1,aH (kX G) lE),(3,Z (ax w)),(8,bp [12,44,54] (kX L) lE)] [] [(34,.bool (!decide (F=0)))]<|aV (!decide (F=0)) a
 rintro t a;rw[P]at a;rcases aC a with⟨x,a⟩|⟨x,a⟩
 .refine aJ x<|aT [] [2,6,34] [(5,u 1)] [40,44,54,41,12] [] ?_
  cases a;exact A.ret aX
 refine aI x<|A.skip ?_
 obtain⟨d,I,a⟩:=ah a;refine aT [(4,hV [12,44,54] [29,30] (pf I) oW ⟨iw bz (λ_=>rfl) _,iw aD (λ_=>rfl) _,trivial⟩),(5,.al 252)] [34] [(7,.ptr 252 0)] [] [(29,.slice 79 2 (af bz d.aL) 0 false),(30,.slice 101 5 (af aD d.Links) 0 false),(252,.c 41 [.own 29,.own 30])]<|atL ((cu.go (cC:=[(2,.ptr 40 0),(4,.ptr 36 0),(6,.ptr 41 0),(7,.ptr 252 0)]) (σ2:=[(40,.cells 29 (cK f)),(36,.c 29 [.az,.az,.az]),(44,.slice 37 5 (af bA b.ay) 0 false),(54,.slice 120 3 (af bT b.aY) 0 false),(41,.c 116 [.own 12,.own 44,.own 54]),(12,.slice 101 5 (af aD p) 0 false),(29,.slice 79 2 (af bz d.aL) (af bz d.aL).length true),(30,.slice 101 5 (af aD d.Links) (af aD d.Links).length true),(252,.cells 41 (bE d))]) [.bN [29,30],.sc 252 []] [] (by kernel_rfl)).trans (avD (T:=41) (cs:=(bE d)) 7 252 (by kernel_rfl) (by kernel_rfl) (by kernel_rfl))) ?_
 obtain⟨R,Q,a⟩:=ah a;refine ak [(6,RR),(7,bV [221] (ep.at [(167,54)] (Se (oC:=60) (oI:=[.dR (bE d)]) (A2:=Rw) (AT:=λ_ _ aE=>Td aE) Q)) Ru)] [(2,.ptr 40 0),(4,.ptr 36 0),(6,.ptr 41 0)] [(40,.cells 29 (cK f)),(36,.c 29 [.az,.az,.az]),(44,.slice 37 5 (af bA b.ay) 0 false),(41,.c 116 [.own 12,.own 44,.own 221]),(12,.slice 101 5 (af aD p) 0 false),(221,.slice 120 3 (af bT R) 0 false)]<|A.seq<|ai [(5,Z (bl bA b.ay))] [] [(57,u b.ay.length),(58,u 0)]<|A.block<|aum 6 1 rfl rfl rfl rfl λS=>?_
 obtain⟨X,Y,ab,ae,a⟩:=cO a;refine atx (l:=b.ay) (cD:=0) (B:=X) (K:=Y) a (λc=>λ(e,g,i)=>[(2,.ptr 40 0),(4,.ptr 36 0),(6,.ptr 41 0),(57,u b.ay.length),(58,u c)]) (λc=>λ(e,g,i)=>[(40,.cells 29 (cK f)),(36,.c 29 [.az,.az,.az]),(41,.c 116 [aj aD e,.own 53,.own 81]),(53,.slice 37 5 (af bA g) 0 false),(81,.slice 120 3 (af bT i) 0 false)]) ?_ ?_ ?_
 .exact ct [.bN [12],.b5 44 53,.b5 221 81,.sc 41 [40,36,41,53,81]] []
 .rintro c aW aM ⟨e,g,i⟩ W E a;rw[ab]at a;refine ai [] [] [(59,.d ((c:Int)<b.ay.length))]<|A.seq<|aJ (cT E)<|A.skip ?_
  obtain⟨V,am,a⟩:=cW a;refine A.J (J:=V) (r:=r) (λ(n,q,s)=>[(2,.ptr 40 0),(4,.ptr 36 0),(6,.ptr 41 0),(57,u b.ay.length),(58,u c)]) (λ(n,q,s)=>[(40,.cells 29 (cK f)),(36,.c 29 [.az,.az,.az]),(41,.c 116 [aj aD n,.own 53,.own 81]),(53,.slice 37 5 (af bA q) 0 false),(81,.slice 120 3 (af bT s) 0 false)]) ?_ ?_
  .refine A.block<|ai [] [59] [(8,u c)] ?_
   obtain⟨v,h,a⟩:=ah a;refine ai [(6,bh (ix bA h))] [] [(9,.ptr 53 ((c:Int).toNat*5))] ?_;obtain⟨aQ,aq,a⟩:=ah a;obtain⟨m,ao,a⟩:=ah a;refine aT [(4,bh (ix bA aq)),(6,bV [243,244] (ep.at [(150,243),(151,244)] (tQ ao)) s2),(10,.al 314)] [] [(10,.ptr 314 0)] [] [(314,.c 109 [u m.1.Router,u m.1.Seq,.bool m.1.bw,.own 243,.own 244]),(243,.slice 152 3 (af dg m.1.Links) 0 false),(244,.slice 103 3 (af c8 m.1.Claims) 0 false)] ?_;obtain⟨j,ar,a⟩:=ah a;refine aT [(6,eK 53 0 (ix bA h)),(7,hV [53,81] [295,296] (ep.at [(150,295),(151,296)] (tQ ar)) s2 ⟨iw dg (λ_=>rfl) _,iw c8 (λ_=>rfl) _,trivial⟩),(11,.al 417)] [] [(12,.ptr 417 0),(13,.bool j.2)] [] [(417,.c 109 [u j.1.Router,u j.1.Seq,.bool j.1.bw,.own 295,.own 296]),(295,.slice 152 3 (af dg j.1.Links) 0 false),(296,.slice 103 3 (af c8 j.1.Claims) 0 false)] ?_;obtain⟨an,au,a⟩:=cW a;refine A.J (J:=an) (r:=r) (λC=>[(2,.ptr 40 0),(4,.ptr 36 0),(6,.ptr 41 0),(8,u c),(9,.ptr 53 ((c:Int).toNat*5)),(57,u b.ay.length),(58,u c),(102,.bool C)]) (λC=>[(40,.cells 29 (cK f)),(36,.c 29 [.az,.az,.az]),(41,.c 116 [aj aD e,.own 53,.own 81]),(53,.slice 37 5 (af bA g) 0 false),(81,.slice 120 3 (af bT i) 0 false)]) ?_ ?_
   .rcases aC a with⟨o,a⟩|⟨o,a⟩
    .obtain⟨aU,H,a⟩:=ah a;rcases aC a with⟨z,a⟩|⟨z,a⟩
     .exact bX [(1,Z (ax o)),(4,bp [243,244,295,296] (ru H) qM),(7,Z (ax z)),(11,eK 53 1 (ix bA h))] [10,12,13] [(102,.d (v.Seq<1000000))] [314,243,244,417,295,296] []<|aV (decide (v.Seq<1000000)) a
     exact bX [(1,Z (ax o)),(4,bp [243,244,295,296] (ru H) qM),(7,Z (ax z))] [10,12,13] [(102,.bool false)] [314,243,244,417,295,296] []<|aV false a
    exact bX [(1,Z (ax o))] [10,12,13] [(102,.bool false)] [314,243,244,417,295,296] []<|aV false a
   rintro C a;rw[au]at a;rcases aC a with⟨y,a⟩|⟨y,a⟩
   .refine aJ y ?_;obtain⟨N,av,a⟩:=ah a;refine aT [(3,eK 53 1 (ix bA h)),(7,iY 53 (st bA (off:=1) (ca:=[u (a1 (v.Seq+1))]) h av rfl) (jJ h).1.1)] [9,102] [] [53] [(53,.slice 37 5 (af bA N) 0 false)] ?_;obtain⟨k,aw,a⟩:=ah a;exact bX [(2,bV [334,335] (ep.at [(121,53),(160,81),(10,41),(241,334),(242,335)] (xx aw)) w1)] [8] [] [41,53,81] [(41,.c 116 [aj aD k.bg.Links,.own 334,.own 335]),(334,.slice 37 5 (af bA k.bg.ay) 0 false),(335,.slice 120 3 (af bT k.bg.aY) 0 false)]<|Exists.intro (k.bg.Links,k.bg.ay,k.bg.aY) (And.intro a (ct [.b5 334 53,.b5 335 81] []))
   exact aI y<|A.skip<|aV (e,g,i) a
  rintro⟨n,q,s⟩ a;rw[am]at a;exact bu [(0,Z (cQ E S))] [58] [(58,u ((c+1:Nat):Int))]<|aV (n,q,s) a
 rintro c ⟨e,g,i⟩ W U a;rw[ae]at a;refine ai [] [] [(59,.d ((c:Int)<b.ay.length))]<|A.seq<|aI (cS U)<|A.exit<|aT [] [2,6,57,58,59] [(5,u 0)] [40,36,41] [(36,.c 29 [aj aD e,.own 53,.own 81])]<|A.ret ?_
 obtain rfl:=cw a;exact atv b0 [.bN [53,81]] rfl (by kernel_rfl)
def HV(a:mZ f=some r):bB prog 35 [] [.agg (cK f)] (.bP [.agg (cK r.1),u r.2]):=by
 refine bq func35 rfl rfl ?_;unfold mZ at a;refine ak [(0,.al 322),(1,.al 69)] [(1,.ptr 322 0),(2,.ptr 69 0)] [(322,.cells 29 (cK f)),(69,.c 29 [.az,.az,.az])]<|A.seq ?_
 obtain⟨k,m,a⟩:=ah a;refine ai [(1,aH (kX m) lE)] [] [(9,.bool (!decide (k=0)))] ?_;rcases aC a with⟨g,a⟩|⟨g,a⟩
 .refine aJ g<|aT [] [1,9] [(3,u 1)] [322] [] ?_
  cases a;exact A.ret aX
 refine aI g<|A.skip ?_
 obtain⟨e,j,a⟩:=ah a;refine aT [(1,bV [98,44,54] (q7 j) qL),(3,.al 19)] [1,9] [(4,.ptr 19 0)] [322] [(98,.slice 101 5 (af aD e.Links) 0 false),(44,.slice 37 5 (af bA e.ay) 0 false),(54,.slice 120 3 (af bT e.aY) 0 false),(19,.c 116 [.own 98,.own 44,.own 54])]<|A.seq<|aT [(1,Bz),(3,Bz),(5,Bz),(6,RP b0 97),(7,RU b0)] [] [(21,.cz (.jD 3) 97),(22,u 3),(23,u 0)] [] [(97,.c 1 [.cz (.fW 90) 19,.cz (.fW 91) 19,.cz (.fW 90) 19])]<|A.block<|A.NO 4<|aug<|ak [] [(2,.ptr 69 0),(4,.ptr 19 0),(21,.cz (.jD 3) 97),(22,u 3),(23,u 0),(24,.bool true)] [(69,.c 29 [.az,.az,.az]),(98,.slice 101 5 (af aD e.Links) 0 false),(44,.slice 37 5 (af bA e.ay) 0 false),(54,.slice 120 3 (af bT e.aY) 0 false),(19,.c 116 [.own 98,.own 44,.own 54]),(97,.c 1 [.cz (.fW 90) 19,.cz (.fW 91) 19,.cz (.fW 90) 19])]<|A.seq<|atS rfl rfl<|A.skip<|A.seq<|A.block<|ai [(0,Be b0)] [24] [(6,.cz (.fW 90) 19)] ?_
 obtain⟨b,l,a⟩:=ah a;refine A.R b0 [.bN [98],.sc 19 [69,44,54,19,97]] [(1,By [209,210] (ep.at [(328,44),(330,54),(10,19),(329,209),(331,210)] (HD l)) GM)] [(2,.ptr 69 0),(4,.ptr 19 0),(21,.cz (.jD 3) 97),(22,u 3),(23,u 0)] [(69,.c 29 [.az,.az,.az]),(19,.c 116 [aj aD b.bg.Links,.own 209,.own 210]),(97,.c 1 [.cz (.fW 90) 19,.cz (.fW 91) 19,.cz (.fW 90) 19]),(209,.slice 37 5 (af bA b.bg.ay) 0 false),(210,.slice 120 3 (af bT b.bg.aY) 0 false)] (by kernel_rfl)<|jP [] [(2,.ptr 69 0),(4,.ptr 19 0),(21,.cz (.jD 3) 97),(22,u 3),(23,u 1)] [(69,.c 29 [.az,.az,.az]),(19,.c 116 [aj aD b.bg.Links,.own 209,.own 210]),(97,.c 1 [.cz (.fW 90) 19,.cz (.fW 91) 19,.cz (.fW 90) 19]),(209,.slice 37 5 (af bA b.bg.ay) 0 false),(210,.slice 120 3 (af bT b.bg.aY) 0 false)] ?_
 show ot _ _ _ _ _ _;refine aug<|ak [] [(2,.ptr 69 0),(4,.ptr 19 0),(21,.cz (.jD 3) 97),(22,u 3),(23,u 1),(24,.bool true)] [(69,.c 29 [.az,.az,.az]),(19,.c 116 [aj aD b.bg.Links,.own 209,.own 210]),(97,.c 1 [.cz (.fW 90) 19,.cz (.fW 91) 19,.cz (.fW 90) 19]),(209,.slice 37 5 (af bA b.bg.ay) 0 false),(210,.slice 120 3 (af bT b.bg.aY) 0 false)] ?_
 refine A.seq<|atS rfl rfl ?_
 refine A.skip<|A.seq ?_
 refine A.block<|ai [(0,Be b0)] [24] [(6,.cz (.fW 91) 19)] ?_
 obtain⟨d,i,a⟩:=ah a;refine bX [(1,By [211,212] (ep.at [(292,209),(293,210),(10,19),(383,211),(384,212)] (SP i)) RE)] [6] [] [19,209,210] [(19,.c 116 [aj aD d.bg.Links,.own 211,.own 212]),(211,.slice 37 5 (af bA d.bg.ay) 0 false),(212,.slice 120 3 (af bT d.bg.aY) 0 false)]<|bu [] [23] [(23,u 2)] ?_
 show ot _ _ _ _ _ _;refine aug<|ak [] [(2,.ptr 69 0),(4,.ptr 19 0),(21,.cz (.jD 3) 97),(22,u 3),(23,u 2),(24,.bool true)] [(69,.c 29 [.az,.az,.az]),(19,.c 116 [aj aD d.bg.Links,.own 211,.own 212]),(97,.c 1 [.cz (.fW 90) 19,.cz (.fW 91) 19,.cz (.fW 90) 19]),(211,.slice 37 5 (af bA d.bg.ay) 0 false),(212,.slice 120 3 (af bT d.bg.aY) 0 false)] ?_
 refine A.seq<|atS rfl rfl ?_
 refine A.skip<|A.seq ?_
 refine A.block<|ai [(0,Be b0)] [24] [(6,.cz (.fW 90) 19)] ?_
 obtain⟨c,h,a⟩:=ah a;refine bX [(1,By [213,214] (ep.at [(328,211),(330,212),(10,19),(329,213),(331,214)] (HD h)) GM)] [6] [] [19,211,212] [(19,.c 116 [aj aD c.bg.Links,.own 213,.own 214]),(213,.slice 37 5 (af bA c.bg.ay) 0 false),(214,.slice 120 3 (af bT c.bg.aY) 0 false)]<|bu [] [23] [(23,u 3)] ?_
 show ot _ _ _ _ _ _;refine aug<|ak [] [(2,.ptr 69 0),(4,.ptr 19 0),(21,.cz (.jD 3) 97),(22,u 3),(23,u 3),(24,.bool false)] [(69,.c 29 [.az,.az,.az]),(19,.c 116 [aj aD c.bg.Links,.own 213,.own 214]),(97,.c 1 [.cz (.fW 90) 19,.cz (.fW 91) 19,.cz (.fW 90) 19]),(213,.slice 37 5 (af bA c.bg.ay) 0 false),(214,.slice 120 3 (af bT c.bg.aY) 0 false)] ?_
 refine A.seq<|atI rfl rfl ?_
 refine A.exit<|aT [] [4,21,22,23,24] [(3,u 0)] [69,19,97] [(69,.c 29 [aj aD c.bg.Links,.own 213,.own 214])] ?_
 refine A.ret ?_;obtain rfl:=cw a;exact atv b0 [.bN [213,214]] rfl (by kernel_rfl)
def Iw{n:Int}{r:Int}(a:tT n=some r):bB prog 28 [] [u n] (u r):=by
 refine bq func28 rfl rfl ?_;unfold tT at a;refine ak [] [(0,u n)] []<|ak [] [(2,u (a1 ((2:Int)*(if(1099511627776:Int)<(if(0:Int)>n then(0:Int)else n)then(1099511627776:Int)else(if(0:Int)>n then(0:Int)else n)))))] [] ?_
 cases a;exact A.ret aX
def xJ{f:aA}{r:aK}(a:nX f=some r):bB prog 11 [] [.agg (cK f)] (.agg (bE r)):=by
 refine bq func11 rfl rfl ?_;unfold nX at a;refine ak [(0,.al 155),(1,.al 140)] [(1,.ptr 155 0),(2,.ptr 140 0)] [(155,.cells 29 (cK f)),(140,.c 41 [.az,.az])]<|aT [(3,.al 164)] [] [(3,.ptr 164 0)] [] [(164,.c 41 [.az,aj aD f.Links])]<|A.seq<|ai [] [] [(4,u 0)]<|A.block<|atM 1 1 rfl rfl rfl λg=>?_
 obtain⟨j,k,m,n,a⟩:=cO a;refine atx (l:=f.ay) (cD:=0) (B:=j) (K:=k) a (λb=>λc=>[(1,.ptr 155 0),(2,.ptr 140 0),(3,.ptr 164 0),(4,u b)]) (λb=>λc=>[(155,.cells 29 (cK f)),(140,.c 41 [.az,.az]),(164,.c 41 [.own 216,aj aD f.Links]),(216,.slice 79 2 (af bz c) 0 false)]) ?_ ?_ ?_
 .exact ct [.ac 164 216 79 2 0] []
 .rintro b q p c i d a;rw[m]at a;refine A.seq<|ai [(3,Z (bl bA f.ay))] [] [(12,.d ((b:Int)<f.ay.length))] ?_
  refine aJ (cT d)<|A.skip<|A.seq<|A.block ?_
  obtain⟨e,o,a⟩:=ah a;exact bX [(5,bh (ix bA (b3 d))),(11,bh (ix bA (b3 d))),(16,dH 281 (ap bz (bytes:=16) (by decide) o))] [12] [] [164,216] [(164,.c 41 [.own 281,aj aD f.Links]),(281,.slice 79 2 (af bz e) 0 false)]<|bu [(1,Z (cQ d g))] [4] [(4,u ((b+1:Nat):Int))]<|Exists.intro e (And.intro a (ct [.b5 281 216] []))
 rintro b c i h a;rw[n]at a;refine A.seq<|ai [(3,Z (bl bA f.ay))] [] [(12,.d ((b:Int)<f.ay.length))] ?_
 refine aI (cS h)<|A.exit<|aT [] [1,3,4,12] [] [155,140,164] [(140,.c 41 [.own 216,aj aD f.Links])]<|A.ret ?_
 obtain rfl:=cw a;exact atv b0 [.bN [216]] rfl (by kernel_rfl)
variable {t:aK}
def IM{r:Bool}(a:uk t=some r):bB prog 159 [] [.agg (bE t)] (.bool r):=by
 refine bq func159 rfl rfl ?_;unfold uk at a;refine ak [(0,.al 415)] [(1,.ptr 415 0)] [(415,.cells 41 (bE t))] ?_;obtain⟨b,c,a⟩:=ah a;refine ak [(1,aH (kV c) lF)] [(2,.d (b=0))] [] ?_;cases a;exact A.ret aX
def IG{r:kY}(a:ur t=some r):bB prog 160 [] [.agg (bE t)] (.agg [.dc (bo .i64 (dN cy) r.gY),.dc (bo .i64 (dN cy) r.jm)]):=by
 refine bq func160 rfl rfl ?_;unfold ur at a;refine ak [(0,.al 143),(1,.al 46)] [(1,.ptr 143 0),(2,.ptr 46 0)] [(143,.cells 41 (bE t)),(46,.c 215 [.c7,.c7])]<|aT [(0,.al 160009),(1,.al 160010),(3,.al 55)] [] [(3,.ptr 55 0)] [] [(160009,.map 3 247 (bo .i64 (dN cy) [])),(160010,.map 3 247 (bo .i64 (dN cy) [])),(55,.c 215 [.b6 160009,.b6 160010])]<|atL ((auu (d:=160009) (e:=450160009) rfl rfl rfl rfl rfl))<|atL ((auu (d:=160010) (e:=450160010) rfl rfl rfl rfl rfl))<|A.seq<|ak [(2,Z (bl bz t.aL))] [(1,.ptr 143 0),(2,.ptr 46 0),(3,.ptr 55 0),(13,aj bz t.aL),(14,u t.aL.length),(15,u 0)] [(143,.cells 41 (bE t)),(46,.c 215 [.c7,.c7]),(160009,.dD 3 247 450160009 (di .i64 ([]:List (Int×p4))) none none),(450160009,.cE (dZ 249 2 cy.enc ([]:List (Int×p4)))),(160010,.dD 3 247 450160010 (di .i64 ([]:List (Int×p4))) none none),(450160010,.cE (dZ 249 2 cy.enc ([]:List (Int×p4)))),(55,.c 215 [.b6 160009,.b6 160010])]<|A.block<|atz 13 rfl λN=>?_
 obtain⟨P,Q,R,S,a⟩:=cO a;refine atx (l:=t.aL) (cD:=0) (B:=P) (K:=Q) a (λo=>λ(h,i)=>[(1,.ptr 143 0),(2,.ptr 46 0),(3,.ptr 55 0),(13,aj bz t.aL),(14,u t.aL.length),(15,u o)]) (λo=>λ(h,i)=>[(143,.cells 41 (bE t)),(46,.c 215 [.c7,.c7]),(160009,.dD 3 247 450160009 (di .i64 h) none none),(450160009,.cE (dZ 249 2 cy.enc h)),(160010,.dD 3 247 450160010 (di .i64 i) none none),(450160010,.cE (dZ 249 2 cy.enc i)),(55,.c 215 [.b6 160009,.b6 160010])]) ?_ ?_ ?_
 .exact c5
 .rintro o j aE ⟨h,i⟩ O y a;rw[R]at a;exact ai [] [] [(16,.d ((o:Int)<t.aL.length))]<|A.seq<|aJ (cT y)<|A.skip<|A.seq<|A.block<|aT [(0,bh (ix bz (b3 y))),(2,.al 416)] [16] [(5,.ptr 416 0)] [] [(416,.cells 79 (ha j))]<|bX [(8,Hq 249 2 297 h j.aP cy.enc [] iO),(9,Hq 249 2 298 i j.aP cy.enc [] iO)] [5] [] [160009,450160009,160010,450160010,416] [(160009,.dD 3 247 297 (di .i64 (bM h j.aP [])) none none),(297,.cE (dZ 249 2 cy.enc (bM h j.aP []))),(160010,.dD 3 247 298 (di .i64 (bM i j.aP [])) none none),(298,.cE (dZ 249 2 cy.enc (bM i j.aP [])))]<|bu [(0,Z (cQ y N))] [15] [(15,u ((o+1:Nat):Int))]<|Exists.intro (bM h j.aP [],bM i j.aP []) (And.intro a (ct [.rn 297 450160009,.rn 298 450160010] []))
 rintro o ⟨h,i⟩ O C a;rw[S]at a;refine ai [] [] [(16,.d ((o:Int)<t.aL.length))]<|A.seq<|aI (cS C)<|A.exit<|A.seq<|aT [(2,Z (bl aD t.Links))] [1,13,14,15,16] [(29,aj aD t.Links),(30,u t.Links.length),(31,u 0)] [143] []<|A.block<|atz 29 rfl λW=>?_
 obtain⟨X,ae,Y,ab,a⟩:=cO a;refine atx (l:=t.Links) (cD:=0) (B:=X) (K:=ae) a (λn=>λ(c,b)=>[(2,.ptr 46 0),(3,.ptr 55 0),(29,aj aD t.Links),(30,u t.Links.length),(31,u n)]) (λn=>λ(c,b)=>[(46,.c 215 [.c7,.c7]),(160009,.dD 3 247 450160009 (di .i64 c) none none),(450160009,.cE (dZ 249 2 cy.enc c)),(160010,.dD 3 247 450160010 (di .i64 b) none none),(450160010,.cE (dZ 249 2 cy.enc b)),(55,.c 215 [.b6 160009,.b6 160010])]) ?_ ?_ ?_
 .exact c5
 .rintro n e2 aH ⟨c,b⟩ V z a;rw[Y]at a;refine ai [] [] [(32,.d ((n:Int)<t.Links.length))]<|A.seq<|aJ (cT z)<|A.skip<|A.seq<|A.block<|aT [(0,bh (ix aD (b3 z))),(2,.al 227)] [32] [(7,.ptr 227 0)] [] [(227,.cells 101 (dG e2))] ?_
  obtain⟨k,aw,a⟩:=ah a;refine aT [(8,tC 249 2 530160004 530160003 c e2.A cy.enc iO zeroValue247),(15,dH 160550 (ap cy (bytes:=16) (by decide) aw)),(16,wV 249 2 441 c e2.A cy.enc k 530160003 iO)] [] [] [160009,450160009] [(160009,.dD 3 247 441 (di .i64 (bM c e2.A k)) none none),(441,.cE (dZ 249 2 cy.enc (bM c e2.A k)))] ?_;obtain⟨w,I,a⟩:=ah a;refine aT [(8,tC 249 2 530160007 530160006 (bM c e2.A k) e2.B cy.enc iO zeroValue247),(15,dH 160566 (ap cy (bytes:=16) (by decide) I)),(16,wV 249 2 223 (bM c e2.A k) e2.B cy.enc w 530160006 iO)] [] [] [160009,441] [(160009,.dD 3 247 223 (di .i64 (bM (bM c e2.A k) e2.B w)) none none),(223,.cE (dZ 249 2 cy.enc (bM (bM c e2.A k) e2.B w)))] ?_;obtain⟨m,L,a⟩:=ah a;refine aT [(8,tC 249 2 530160010 530160009 b e2.B cy.enc iO zeroValue247),(15,dH 160582 (ap cy (bytes:=16) (by decide) L)),(16,wV 249 2 442 b e2.B cy.enc m 530160009 iO)] [] [] [160010,450160010] [(160010,.dD 3 247 442 (di .i64 (bM b e2.B m)) none none),(442,.cE (dZ 249 2 cy.enc (bM b e2.B m)))] ?_;obtain⟨x,H,a⟩:=ah a;exact bX [(8,tC 249 2 530160013 530160012 (bM b e2.B m) e2.A cy.enc iO zeroValue247),(15,dH 160598 (ap cy (bytes:=16) (by decide) H)),(16,wV 249 2 299 (bM b e2.B m) e2.A cy.enc x 530160012 iO)] [7] [] [160010,442,227] [(160010,.dD 3 247 299 (di .i64 (bM (bM b e2.B m) e2.A x)) none none),(299,.cE (dZ 249 2 cy.enc (bM (bM b e2.B m) e2.A x)))]<|bu [(0,Z (cQ z W))] [31] [(31,u ((n+1:Nat):Int))]<|Exists.intro (bM (bM c e2.A k) e2.B w,bM (bM b e2.B m) e2.A x) (And.intro a (ct [.rn 223 450160009,.rn 299 450160010] []))
 rintro n ⟨c,b⟩ V U a;rw[ab]at a;refine ai [] [] [(32,.d ((n:Int)<t.Links.length))]<|A.seq<|aI (cS U)<|A.exit<|A.seq<|A.RL (d:=160009) rfl λp f=>?_
 refine ak [(2,BA 160102 p f iO)] [(2,.ptr 46 0),(3,.ptr 55 0),(102,.ptr 160102 0)] [(46,.c 215 [.c7,.c7]),(160009,.dD 3 247 450160009 (di .i64 c) none (some (p,f))),(450160009,.cE (dZ 249 2 cy.enc c)),(160010,.dD 3 247 450160010 (di .i64 b) none none),(450160010,.cE (dZ 249 2 cy.enc b)),(55,.c 215 [.b6 160009,.b6 160010]),(160102,.iter 160009 f f (#[]))]<|A.block ?_
 obtain⟨E,ao,a⟩:=ah a;refine auI (b1:=160009) (cG:=160102) (it:=102) (clock:=f) (es:=p) ao (λJ=>J.map (·.1)=c.map (·.1)) (λg=>[(2,.ptr 46 0),(3,.ptr 55 0),(102,.ptr 160102 0)]) (λv=>λg=>[(46,.c 215 [.c7,.c7]),(160009,.dD 3 247 450160009 (di .i64 g) none (some (p,f))),(450160009,.cE (dZ 249 2 cy.enc g)),(160010,.dD 3 247 450160010 (di .i64 b) none none),(450160010,.cE (dZ 249 2 cy.enc b)),(55,.c 215 [.b6 160009,.b6 160010]),(160102,.iter 160009 f f v)]) ⟨rfl,rfl,rfl⟩ ⟨rfl,rfl,rfl⟩ (by kernel_rfl) rfl (by intro aV aW aU aG s D;obtain⟨av,s⟩:=hA s;obtain⟨ax,aF,s⟩:=ah s;obtain rfl:=cw s;exact(zm ax av).trans D) (λ_=>rfl) (λ_ _=>rfl) (λ_ _=>⟨_,rfl,rfl⟩) (λ_ _ _=>rfl) (λ_ _ D _ _ _ _ am au=>Bg am rfl au D) ?_ ?_ ?_
 .exact c5
 .rintro v aq aQ q aC g aM ar C an a;refine A.block<|ak [(0,RS 160102 160009 f .i64 v ar (Ou an C))] [(2,.ptr 46 0),(3,.ptr 55 0),(102,.ptr 160102 0),(8,u q)] [(46,.c 215 [.c7,.c7]),(160009,.dD 3 247 450160009 (di .i64 g) none (some (p,f))),(450160009,.cE (dZ 249 2 cy.enc g)),(160010,.dD 3 247 450160010 (di .i64 b) none none),(450160010,.cE (dZ 249 2 cy.enc b)),(55,.c 215 [.b6 160009,.b6 160010]),(160102,.iter 160009 f f (v.push aq.born))] ?_
  obtain⟨G,a⟩:=hA a;obtain⟨F,M,a⟩:=ah a;refine bX [(3,tC 249 2 530160016 530160015 g q cy.enc iO zeroValue247),(4,bV [] (K1 (d:=530160015) (T:=249) M) Pr)] [8] [] [160009,450160009] [(160009,.dD 3 247 530160016 (di .i64 g) (hL g q 530160015) (some (p,f))),(530160016,.cE (dZ 249 2 cy.enc (gI g q))),(530160015,.slice 249 2 (af cy F) 0 false)] ?_;obtain rfl:=cw a;exact((avB (d:=160009) (e:=530160016) (e2:=530160017) (t:=530160015) g q cy.enc F G rfl rfl rfl rfl rfl rfl rfl).trans (ct [.rn 530160017 450160009] []))
 intro v;refine atL (cu.refl _ _ _)<|atL (auv (d:=160009) (e:=450160009) E cy.enc rfl rfl)<|atL (auv (d:=160010) (e:=450160010) b cy.enc rfl rfl)<|ak [] [(2,.ptr 46 0)] [(46,.c 215 [.b6 160009,.b6 160010]),(160009,.ic 3 247 (bo .i64 (dN cy) E)),(160010,.ic 3 247 (bo .i64 (dN cy) b))] ?_
 cases a;exact A.ret aX
def SX{g:List (Int×p4)}{t:Int}{r:(List (Int×Int))}(c:lP g t=some r):cp prog 161 [] [.dc (bo .i64 (dN cy) g),u t] (λa V=>a=.b6 500016100/\V=[(500016100,.map 3 3 (bo .i64 (dJ .i64) r))]):=by
 refine bq func161 rfl rfl ?_;unfold lP at c;refine ak [] [(0,.dc (bo .i64 (dN cy) g)),(1,u t)] []<|A.scope<|ak [(0,.al 27)] [(0,.dc (bo .i64 (dN cy) g)),(1,u t),(5,.b6 27)] [(27,.map 3 3 (bo .i64 (dJ .i64) []))]<|A.seq<|ai [(2,lU g t (dN cy) [] iO (y3 cy zeroValue247))] [] [(7,.bool ((aB g t).isSome))]<|ai [] [7] [(27,.bool (!((aB g t).isSome)))] ?_
 rcases aC c with⟨I,c⟩|⟨I,c⟩
 .refine aJ I<|ai [] [0,1,5,27] [(4,.b6 27)]<|A.ret ?_
  obtain rfl:=cw c;exact atv b0 [.b5 27 500016100] rfl (by kernel_rfl)
 refine aI I<|A.skip<|aT [(0,.al 161029),(2,pl (ko (k:=.i64) (enc:=(dJ .i64)) [] t (0:Int) rfl))] [1,27] [(8,.b6 161029)] [] [(161029,.map 3 3 (bo .i64 (dJ .i64) (bM [] t (0:Int))))]<|A.seq<|A.label ?_
 obtain⟨U,W,c⟩:=cW c;refine A.J (J:=U) (r:=r) (λ(H,S)=>[(5,.b6 27)]) (λ(H,S)=>[(27,.map 3 3 (bo .i64 (dJ .i64) H))]) ?_ ?_
 .refine A.block ?_;obtain⟨av,aM,aw,c⟩:=iK c;refine atN (F:=av) c (λ(i,b)=>[(0,.dc (bo .i64 (dN cy) g)),(5,.b6 27),(8,.b6 161029)]) (λ(i,b)=>[(27,.map 3 3 (bo .i64 (dJ .i64) i)),(161029,.map 3 3 (bo .i64 (dJ .i64) b))]) ?_ ?_
  .exact c5
  rintro aG ⟨i,b⟩ c;rw[aw]at c;refine A.seq<|ai [(1,Hp (lm (k:=.i64) (enc:=(dJ .i64)) b))] [] [(34,.d (0<(b.length:Int)))] ?_
  rcases aC c with⟨L,c⟩|⟨L,c⟩
  .refine aJ L<|A.skip<|A.block<|ai [] [34] [(9,u 0)]<|A.seq<|auG (d:=161029) rfl λy n=>?_
   refine ak [(1,BA 161036 y n mb)] [(0,.dc (bo .i64 (dN cy) g)),(5,.b6 27),(8,.b6 161029),(9,u 0),(36,.ptr 161036 0)] [(27,.map 3 3 (bo .i64 (dJ .i64) i)),(161029,.eV y n 3 3 (bo .i64 (dJ .i64) b)),(161036,.iter 161029 n n (#[]))]<|A.block ?_
   obtain⟨e,aD,c⟩:=ah c;refine auI (b1:=161029) (cG:=161036) (it:=36) (clock:=n) (es:=y) aD (λ_=>True) (λf=>[(0,.dc (bo .i64 (dN cy) g)),(5,.b6 27),(8,.b6 161029),(9,u f),(36,.ptr 161036 0)]) (λx=>λf=>[(27,.map 3 3 (bo .i64 (dJ .i64) i)),(161029,.eV y n 3 3 (bo .i64 (dJ .i64) b)),(161036,.iter 161029 n n x)]) ⟨rfl,rfl,rfl⟩ ⟨rfl,rfl,rfl⟩ (by kernel_rfl) trivial (λ_ _ _ _ _ _=>trivial) (λ_=>rfl) (λ_ _=>rfl) (λ_ _=>⟨_,rfl,rfl⟩) (λ_ _ _=>rfl) (λ_ _ _ _ _ _ _ au aF=>Hd au rfl aF) ?_ ?_ ?_
   .exact c5
   .rintro x T aW o m f aU aE X aQ c;refine A.block<|ak [(0,tv 161036 161029 n .i64 x (dJ .i64) aE X)] [(0,.dc (bo .i64 (dN cy) g)),(5,.b6 27),(8,.b6 161029),(9,u f),(36,.ptr 161036 0),(10,u o),(11,u m)] [(27,.map 3 3 (bo .i64 (dJ .i64) i)),(161029,.eV y n 3 3 (bo .i64 (dJ .i64) b)),(161036,.iter 161029 n n (x.push T.born))] ?_
    refine atA [(0,.dc (bo .i64 (dN cy) g)),(5,.b6 27),(8,.b6 161029),(9,u f),(36,.ptr 161036 0),(10,u o),(62,.bool ((decide (f=0))||((decide (m<((aB b f).getD (0:Int))))||((decide (m=((aB b f).getD (0:Int))))&&(decide (o<f))))))] [(27,.map 3 3 (bo .i64 (dJ .i64) i)),(161029,.eV y n 3 3 (bo .i64 (dJ .i64) b)),(161036,.iter 161029 n n (x.push T.born))] (λw=>?_) ?_
    .rcases eY (decide (f=0))with s|s
     .exact ak [(2,Z (ax s)),(20,Z (g0 (q:=((decide (m<((aB b f).getD (0:Int))))||((decide (m=((aB b f).getD (0:Int))))&&(decide (o<f))))) s))] _ _ w
     rcases eY (decide (m<((aB b f).getD (0:Int))))with v|v
     .exact ak [(2,Z (ax s)),(6,lU b f (dJ .i64) (0:Int) mb (qd (k:=.i64) zeroValue3)),(9,Z (ax v)),(20,Z ((g0 (q:=((decide (m=((aB b f).getD (0:Int))))&&(decide (o<f)))) v).trans (eS (q:=((decide (m<((aB b f).getD (0:Int))))||((decide (m=((aB b f).getD (0:Int))))&&(decide (o<f))))) s)))] _ _ w
     rcases eY (decide (m=((aB b f).getD (0:Int))))with z|z
     .exact ak [(2,Z (ax s)),(6,lU b f (dJ .i64) (0:Int) mb (qd (k:=.i64) zeroValue3)),(9,Z (ax v)),(13,lU b f (dJ .i64) (0:Int) mb (qd (k:=.i64) zeroValue3)),(15,Z (ax z)),(20,Z (((jy (q:=decide (o<f)) z).trans (eS (q:=((decide (m=((aB b f).getD (0:Int))))&&(decide (o<f)))) v)).trans (eS (q:=((decide (m<((aB b f).getD (0:Int))))||((decide (m=((aB b f).getD (0:Int))))&&(decide (o<f))))) s)))] _ _ w
     exact ak [(2,Z (ax s)),(6,lU b f (dJ .i64) (0:Int) mb (qd (k:=.i64) zeroValue3)),(9,Z (ax v)),(13,lU b f (dJ .i64) (0:Int) mb (qd (k:=.i64) zeroValue3)),(15,Z (ax z)),(20,Z (((jY (q:=decide (o<f)) z).trans (eS (q:=((decide (m=((aB b f).getD (0:Int))))&&(decide (o<f)))) v)).trans (eS (q:=((decide (m<((aB b f).getD (0:Int))))||((decide (m=((aB b f).getD (0:Int))))&&(decide (o<f))))) s)))] _ _ w
    rcases aC c with⟨O,c⟩|⟨O,c⟩
    .refine aJ O<|bu [] [9,10,62] [(9,u o)] ?_
     obtain rfl:=cw c;exact(c5)
    refine aI O<|A.skip ?_
    obtain rfl:=cw c;exact(c5)
   intro x;refine atL (auw (d:=161029) rfl)<|ak [(2,hB (lk (E:=3) (k:=.i64) (enc:=(dJ .i64)) b e (0:Int) (λD=>⟨_,zeroValue3 D,λR=>by simp[aS,dJ,gL]⟩)))] [(0,.dc (bo .i64 (dN cy) g)),(5,.b6 27),(8,.b6 161029),(9,u e),(12,u ((aB b e).getD (0:Int)))] [(27,.map 3 3 (bo .i64 (dJ .i64) i)),(161029,.map 3 3 (bo .i64 (dJ .i64) b))]<|aT [(2,gD b e (dJ .i64) mb)] [] [] [161029] [(161029,.map 3 3 (bo .i64 (dJ .i64) (h4 b e)))]<|aT [(3,pl (ko (k:=.i64) (enc:=(dJ .i64)) i e ((aB b e).getD (0:Int)) rfl))] [] [] [27] [(27,.map 3 3 (bo .i64 (dJ .i64) (bM i e ((aB b e).getD (0:Int)))))]<|A.seq<|ai [(1,Hp (lm (k:=.i64) (enc:=(dJ .i64)) (bM i e ((aB b e).getD (0:Int))))),(3,RW g (dN cy) iO)] [] [(76,.d (((bM i e ((aB b e).getD (0:Int))).length:Int)=(g.length:Int)))] ?_
   rcases aC c with⟨P,c⟩|⟨P,c⟩
   .exact aJ P<|A.exit<|aV (bM i e ((aB b e).getD (0:Int)),h4 b e) c
   refine aI P<|A.skip<|ai [(2,lU g e (dN cy) [] iO (y3 cy zeroValue247)),(3,Z (bl cy ((aB g e).getD [])))] [9,76] [(79,aj cy ((aB g e).getD [])),(80,u (((aB g e).getD []).length:Int)),(81,u 0)]<|A.block<|atz 79 rfl λam=>?_
   obtain⟨an,ar,ao,aq,c⟩:=cO c;refine atx (l:=((aB g e).getD [])) (cD:=0) (B:=an) (K:=ar) c (λp=>λj=>[(0,.dc (bo .i64 (dN cy) g)),(5,.b6 27),(8,.b6 161029),(12,u ((aB b e).getD (0:Int))),(79,aj cy ((aB g e).getD [])),(80,u (((aB g e).getD []).length:Int)),(81,u p)]) (λp=>λj=>[(27,.map 3 3 (bo .i64 (dJ .i64) (bM i e ((aB b e).getD (0:Int))))),(161029,.map 3 3 (bo .i64 (dJ .i64) j))]) ?_ ?_ ?_
   .exact c5
   .rintro p h aH j af M c;rw[ao]at c;refine ai [] [] [(82,.d ((p:Int)<(((aB g e).getD []).length:Int)))]<|A.seq<|aJ (cT M)<|A.skip ?_
    obtain⟨Y,ae,c⟩:=cW c;refine A.J (J:=Y) (r:=r) (λG=>[(0,.dc (bo .i64 (dN cy) g)),(5,.b6 27),(8,.b6 161029),(12,u ((aB b e).getD (0:Int))),(79,aj cy ((aB g e).getD [])),(80,u (((aB g e).getD []).length:Int)),(81,u p)]) (λG=>[(27,.map 3 3 (bo .i64 (dJ .i64) (bM i e ((aB b e).getD (0:Int))))),(161029,.map 3 3 (bo .i64 (dJ .i64) G))]) ?_ ?_
    .refine A.block<|aT [(0,bh (ix cy (b3 M))),(2,.al 201)] [82] [(14,.ptr 201 0)] [] [(201,.cells 249 (nY h))] ?_
     refine A.seq<|ai [(3,hB (lk (E:=3) (k:=.i64) (enc:=(dJ .i64)) (bM i e ((aB b e).getD (0:Int))) h.dx (0:Int) (λD=>⟨_,zeroValue3 D,λR=>by simp[aS,dJ,gL]⟩)))] [] [(16,.bool ((aB (bM i e ((aB b e).getD (0:Int))) h.dx).isSome))] ?_
     refine ai [] [16] [(92,.bool ((aB (bM i e ((aB b e).getD (0:Int))) h.dx).isSome))] ?_;rcases aC c with⟨N,c⟩|⟨N,c⟩
     .exact aJ N<|A.exit<|aV j c
     refine aI N<|A.skip<|ai [(3,hB (lk (E:=3) (k:=.i64) (enc:=(dJ .i64)) j h.dx (0:Int) (λD=>⟨_,zeroValue3 D,λR=>by simp[aS,dJ,gL]⟩)))] [92] [(17,u ((aB j h.dx).getD (0:Int))),(18,.bool ((aB j h.dx).isSome))]<|atA [(0,.dc (bo .i64 (dN cy) g)),(5,.b6 27),(8,.b6 161029),(12,u ((aB b e).getD (0:Int))),(79,aj cy ((aB g e).getD [])),(80,u (((aB g e).getD []).length:Int)),(81,u p),(14,.ptr 201 0),(109,.bool ((!((aB j h.dx).isSome))||(decide (a1 (((aB b e).getD (0:Int))+h.fC)<((aB j h.dx).getD (0:Int))))))] [(27,.map 3 3 (bo .i64 (dJ .i64) (bM i e ((aB b e).getD (0:Int))))),(161029,.map 3 3 (bo .i64 (dJ .i64) j)),(201,.cells 249 (nY h))] (λw=>?_) ?_
     .rcases eY (!((aB j h.dx).isSome))with C|C
      .exact ak [(2,Z (ax C)),(9,Z (g0 (q:=decide (a1 (((aB b e).getD (0:Int))+h.fC)<((aB j h.dx).getD (0:Int)))) C))] _ _ w
      exact ak [(2,Z (ax C)),(9,Z (eS (q:=decide (a1 (((aB b e).getD (0:Int))+h.fC)<((aB j h.dx).getD (0:Int)))) C))] _ _ w
     rcases aC c with⟨Q,c⟩|⟨Q,c⟩
     .exact aJ Q<|bX [(7,pl (ko (k:=.i64) (enc:=(dJ .i64)) j h.dx (a1 (((aB b e).getD (0:Int))+h.fC)) rfl))] [14,109] [] [161029,201] [(161029,.map 3 3 (bo .i64 (dJ .i64) (bM j h.dx (a1 (((aB b e).getD (0:Int))+h.fC)))))]<|aV (bM j h.dx (a1 (((aB b e).getD (0:Int))+h.fC))) c
     exact aI Q<|A.skip<|aV j c
    rintro G c;rw[ae]at c;exact bu [(0,Z (cQ M am))] [81] [(81,u ((p+1:Nat):Int))]<|aV G c
   rintro p j af ab c;rw[aq]at c;exact ai [] [] [(82,.d ((p:Int)<(((aB g e).getD []).length:Int)))]<|A.seq<|aI (cS ab)<|A.exit<|aV (bM i e ((aB b e).getD (0:Int)),j) c
  exact aI L<|A.exit<|aV (i,b) c
 rintro⟨H,S⟩ c;rw[W]at c;refine ai [] [5] [(4,.b6 27)]<|A.ret ?_
 obtain rfl:=cw c;exact atv b0 [.b5 27 500016100] rfl (by kernel_rfl)
def SZ{g:kY}{d:List (Int×Int)}{b:Int}{r:(bR)}(c:q0 g d b=some r):cp prog 162 [] [.agg [.dc (bo .i64 (dN cy) g.gY),.dc (bo .i64 (dN cy) g.jm)],.dc (bo .i64 (dJ .i64) d),u b] (λa v=>a=.own 325/\v=[(325,.slice 3 1 (af aW r) 0 false)]):=by
 refine bq func162 rfl rfl ?_;unfold q0 at c;refine ak [(0,.al 228)] [(1,.dc (bo .i64 (dJ .i64) d)),(2,u b),(3,.ptr 228 0)] [(228,.c 215 [.dc (bo .i64 (dN cy) g.gY),.dc (bo .i64 (dN cy) g.jm)])]<|ai [] [] [(7,.az)]<|ai [(2,lU d b (dJ .i64) (0:Int) mb (qd (k:=.i64) zeroValue3))] [] [(8,u ((aB d b).getD (0:Int))),(9,.bool ((aB d b).isSome))]<|A.seq<|ai [] [9] [(21,.bool (!((aB d b).isSome)))] ?_
 rcases aC c with⟨o,c⟩|⟨o,c⟩
 .refine aJ o<|ak [] [(6,.az)] []<|A.ret ?_
  obtain rfl:=cw c;exact atv b0 [.ad 6 325 3 1] rfl (by kernel_rfl)
 refine aI o<|A.skip<|A.seq<|aT [(3,lU g.gY b (dN cy) [] iO (y3 cy zeroValue247)),(4,Z (bl cy ((aB g.gY b).getD [])))] [2,3,21] [(25,aj cy ((aB g.gY b).getD [])),(26,u (((aB g.gY b).getD []).length:Int)),(27,u 0)] [228] []<|A.block<|atz 25 rfl λx=>?_
 obtain⟨C,D,E,F,c⟩:=cO c;refine atx (l:=((aB g.gY b).getD [])) (cD:=0) (B:=C) (K:=D) c (λf=>λh=>[(1,.dc (bo .i64 (dJ .i64) d)),(7,.own 133),(8,u ((aB d b).getD (0:Int))),(25,aj cy ((aB g.gY b).getD [])),(26,u (((aB g.gY b).getD []).length:Int)),(27,u f)]) (λf=>λh=>[(133,.slice 3 1 (af aW h) 0 false)]) ?_ ?_ ?_
 .exact ct [.ad 7 133 3 1] []
 .rintro f e H h z m c;rw[E]at c;refine ai [] [] [(28,.d ((f:Int)<(((aB g.gY b).getD []).length:Int)))]<|A.seq<|aJ (cT m)<|A.skip ?_
  obtain⟨t,w,c⟩:=cW c;refine A.J (J:=t) (r:=r) (λj=>[(1,.dc (bo .i64 (dJ .i64) d)),(7,.own 133),(8,u ((aB d b).getD (0:Int))),(25,aj cy ((aB g.gY b).getD [])),(26,u (((aB g.gY b).getD []).length:Int)),(27,u f)]) (λj=>[(133,.slice 3 1 (af aW j) 0 false)]) ?_ ?_
  .refine A.block<|aT [(0,bh (ix cy (b3 m))),(2,.al 253)] [28] [(11,.ptr 253 0)] [] [(253,.cells 249 (nY e))] ?_
   refine ai [(3,lU d e.dx (dJ .i64) (0:Int) mb (qd (k:=.i64) zeroValue3))] [] [(12,u ((aB d e.dx).getD (0:Int))),(13,.bool ((aB d e.dx).isSome))]<|atA [(1,.dc (bo .i64 (dJ .i64) d)),(7,.own 133),(8,u ((aB d b).getD (0:Int))),(25,aj cy ((aB g.gY b).getD [])),(26,u (((aB g.gY b).getD []).length:Int)),(27,u f),(11,.ptr 253 0),(46,.bool (((aB d e.dx).isSome)&&(decide (a1 (e.fC+((aB d e.dx).getD (0:Int)))=((aB d b).getD (0:Int))))))] [(133,.slice 3 1 (af aW h) 0 false),(253,.cells 249 (nY e))] (λs=>?_) ?_
   .rcases eY ((aB d e.dx).isSome)with i|i
    .exact ak [(1,Z (ax i)),(8,Z (jy (q:=decide (a1 (e.fC+((aB d e.dx).getD (0:Int)))=((aB d b).getD (0:Int)))) i))] _ _ s
    exact ak [(1,Z (ax i)),(8,Z (jY (q:=decide (a1 (e.fC+((aB d e.dx).getD (0:Int)))=((aB d b).getD (0:Int)))) i))] _ _ s
   rcases aC c with⟨n,c⟩|⟨n,c⟩
   .refine aJ n ?_;obtain⟨p,G,c⟩:=ah c;exact bX [(4,dH 359 (ap aW (bytes:=8) (by decide) G))] [7,11,46] [(7,.own 359)] [133,253] [(359,.slice 3 1 (af aW p) 0 false)]<|Exists.intro p (And.intro c (ct [.b5 359 133] []))
   exact aI n<|A.skip<|aV h c
  rintro j c;rw[w]at c;exact bu [(0,Z (cQ m x))] [27] [(27,u ((f+1:Nat):Int))]<|aV j c
 rintro f h z y c;rw[F]at c;refine ai [] [] [(28,.d ((f:Int)<(((aB g.gY b).getD []).length:Int)))]<|A.seq<|aI (cS y)<|A.exit<|ai [] [1,7,8,25,26,27,28] [(6,.own 133)]<|A.ret ?_
 obtain rfl:=cw c;exact atv b0 [.b5 133 325] rfl (by kernel_rfl)
def Ix{s:Int}{r:(List (Int×bR))}(a:mT t s=some r):bB prog 119 [] [.agg (bE t),u s] (.fH (bo .i64 (dN aW) r)):=by
 refine avx (Post:=λl j=>∃m,r.Perm m/\(r.map (·.1)).Nodup/\l=.dc (bo .i64 (dN aW) m)/\j=[]) ?_ (by rintro l j ⟨m,v,o,rfl,rfl⟩;exact⟨_,⟨rfl,rfl⟩,λP W V C=>M4 v o C⟩);refine bq func119 rfl rfl ?_;unfold mT at a;refine ak [(0,.al 246)] [(1,u s),(2,.ptr 246 0)] [(246,.cells 41 (bE t))]<|aT [(0,.al 117)] [] [(5,.b6 117)] [] [(117,.map 3 22 (bo .i64 (dN aW) []))]<|A.seq ?_
 obtain⟨D,v,a⟩:=ah a;refine ai [(1,aH (IM v) PV)] [] [(12,.bool (!D))] ?_;rcases aC a with⟨p,a⟩|⟨p,a⟩
 .refine aJ p<|aT [] [1,2,5,12] [(4,.b6 117)] [246] []<|A.ret ?_
  obtain rfl:=cw a;exact(atv b0 [.bN [117]] rfl (by kernel_rfl)).mono λl j e=>⟨[],.refl _,List.nodup_nil,e.1,e.2⟩
 refine aI p<|A.skip ?_
 obtain⟨c,o,a⟩:=ah a;refine aT [(1,aH (IG o) PW),(2,.al 177)] [2,12] [(6,.ptr 177 0)] [246] [(177,.c 215 [.dc (bo .i64 (dN cy) c.gY),.dc (bo .i64 (dN cy) c.jm)])] ?_;obtain⟨i,E,a⟩:=ah a;refine aT [(3,bV [500016100] (SX E) PX)] [1] [(7,.b6 500016100)] [] [(500016100,.map 3 3 (bo .i64 (dJ .i64) i))]<|A.seq<|auG (d:=500016100) rfl λh b=>?_
 refine ak [(1,BA 119021 h b mb)] [(5,.b6 117),(6,.ptr 177 0),(7,.b6 500016100),(21,.ptr 119021 0)] [(117,.map 3 22 (bo .i64 (dN aW) [])),(177,.c 215 [.dc (bo .i64 (dN cy) c.gY),.dc (bo .i64 (dN cy) c.jm)]),(500016100,.eV h b 3 3 (bo .i64 (dJ .i64) i)),(119021,.iter 500016100 b b (#[]))]<|A.block<|auH (b1:=500016100) (cG:=119021) (it:=21) (clock:=b) (es:=h) (λF e=>(by obtain⟨w,O,_⟩:=(Ck a).1 F e;exact⟨w,O⟩)) (λ_=>True) (λf=>[(5,.b6 117),(6,.ptr 177 0),(7,.b6 500016100),(21,.ptr 119021 0)]) (λg=>λf=>[(117,.map 3 22 (bo .i64 (dN aW) f)),(177,.c 215 [.dc (bo .i64 (dN cy) c.gY),.dc (bo .i64 (dN cy) c.jm)]),(500016100,.eV h b 3 3 (bo .i64 (dJ .i64) i)),(119021,.iter 500016100 b b g)]) ⟨rfl,rfl,rfl⟩ ⟨rfl,rfl,rfl⟩ (by kernel_rfl) trivial (λ_ _ _ _ _ _=>trivial) (λ_=>rfl) (λ_ _=>rfl) (λ_ _=>⟨_,rfl,rfl⟩) (λ_ _ _=>rfl) (λ_ _ _ _ _ _ _ H N=>Hd H rfl N) ?_ ?_ ?_
 .exact c5
 .rintro g L U q Q f T M G S a;refine A.block<|ak [(0,tv 119021 500016100 b .i64 g (dJ .i64) M G)] [(5,.b6 117),(6,.ptr 177 0),(7,.b6 500016100),(21,.ptr 119021 0),(8,u q)] [(117,.map 3 22 (bo .i64 (dN aW) f)),(177,.c 215 [.dc (bo .i64 (dN cy) c.gY),.dc (bo .i64 (dN cy) c.jm)]),(500016100,.eV h b 3 3 (bo .i64 (dJ .i64) i)),(119021,.iter 500016100 b b (g.push L.born))] ?_
  obtain⟨n,z,a⟩:=ah a;refine bX [(5,tw [500016100] [510119001] (aj aW n) (ep.at [(325,510119001)] (SZ z)) PY ⟨iw aW (λ_=>rfl) _,trivial⟩),(6,pl (ko (k:=.i64) (enc:=(dN aW)) f q n rfl))] [8] [] [117] [(117,.map 3 22 (bo .i64 (dN aW) (bM f q n)))] ?_;obtain rfl:=cw a;exact(c5)
 intro g R J K I;obtain⟨w,x,y⟩:=(Ck a).1 J K;obtain rfl:=cw (x.symm.trans I);have B:=(Ck a).2;refine atL (auw (d:=500016100) rfl)<|ak [] [(4,.b6 117)] [(117,.map 3 22 (bo .i64 (dN aW) w))]<|A.ret ?_
 exact(atv b0 [.bN [117]] rfl (by kernel_rfl)).mono λl j e=>⟨_,y,B,e.1,e.2⟩
variable {r:Bool}
def gN{n:Int}{c:Int}{a:Int}(e:j7 n c a=some r):bB prog 99 [] [u n,u c,u a] (.bool r):=by
 refine bq func99 rfl rfl ?_;unfold j7 at e;refine ak [] [(0,u n),(1,u c),(2,u a)] []<|atA [(6,.bool ((decide (c<=n))&&(decide (n<=a))))] [] (λd=>?_) ?_
 .rcases eY (decide (c<=n))with b|b
  .exact ak [(3,Z (ax b)),(8,Z (jy (q:=decide (n<=a)) b))] _ _ d
  exact ak [(3,Z (ax b)),(8,Z (jY (q:=decide (n<=a)) b))] _ _ d
 cases e;exact A.ret aX
def Tc{g:bZ}(a:q8 g=some r):bB prog 154 [] [.agg (kg g)] (.bool r):=by
 refine bq func154 rfl rfl ?_;unfold q8 at a;refine ak [(0,.al 414)] [(1,.ptr 414 0)] [(414,.cells 105 (kg g))] ?_;obtain⟨l,d,a⟩:=ah a;rcases aC a with⟨b,a⟩|⟨b,a⟩
 .refine ak [(2,aH (gN d) gV),(4,Z (ax b))] [(2,.bool true)] [] ?_;cases a;exact A.ret aX
 obtain⟨m,f,a⟩:=ah a;rcases aC a with⟨c,a⟩|⟨c,a⟩
 .refine ak [(2,aH (gN d) gV),(4,Z (ax b)),(8,aH (gN f) gV),(11,Z (ax c))] [(2,.bool true)] [] ?_;cases a;exact A.ret aX
 obtain⟨k,h,a⟩:=ah a;rcases aC a with⟨e,a⟩|⟨e,a⟩
 .refine ak [(2,aH (gN d) gV),(4,Z (ax b)),(8,aH (gN f) gV),(11,Z (ax c)),(15,aH (gN h) gV),(18,Z (ax e))] [(2,.bool true)] [] ?_;cases a;exact A.ret aX
 obtain⟨j,i,a⟩:=ah a;refine ak [(2,aH (gN d) gV),(4,Z (ax b)),(8,aH (gN f) gV),(11,Z (ax c)),(15,aH (gN h) gV),(18,Z (ax e)),(22,aH (nR i) oB)] [(2,.bool (!j))] [] ?_;cases a;exact A.ret aX
variable {l:l5}
def HW{r:Int}(a:rz l=some r):bB prog 98 [] [aj c1 l] (u r):=by
 refine bq func98 rfl rfl ?_;unfold rz at a;refine ak [] [(0,aj c1 l)] []<|ai [] [] [(3,.fn 154 [])]<|A.seq<|A.block<|ai [(1,Z (bl c1 l))] [] [(5,.d (192<(l.length:Int)))] ?_
 rcases aC a with⟨f,a⟩|⟨f,a⟩
 .refine aJ f<|ak [] [(2,u 3)] [] ?_
  cases a;exact A.ret aX
 refine aI f ?_;obtain⟨o,D,a⟩:=ah a;refine ai [(2,aH (Hu (c3:=154) (dF:=[]) (eO:=PR) (eN:=λ_ _ C=>Tc C) D) GL)] [3,5] [(9,.bool o)] ?_;rcases aC a with⟨g,a⟩|⟨g,a⟩
 .refine aJ g<|ak [] [(2,u 2)] [] ?_
  cases a;exact A.ret aX
 refine aI g<|A.skip<|A.seq<|ai [(1,Z (bl c1 l))] [9] [(14,u l.length),(15,u 0)]<|A.block<|atz 0 rfl λs=>?_
 obtain⟨w,x,y,z,a⟩:=cO a;refine atx (l:=l) (cD:=0) (B:=w) (K:=x) a (λb=>λ()=>[(0,aj c1 l),(14,u l.length),(15,u b)]) (λb=>λ()=>[]) ?_ ?_ ?_
 .exact c5
 .rintro b I G ⟨⟩ v c a;rw[y]at a;refine ai [] [] [(16,.d ((b:Int)<l.length))]<|A.seq<|aJ (cT c)<|A.skip<|A.seq<|A.block<|ai [] [16] [(4,u b)] ?_
  obtain⟨n,q,a⟩:=cW a;refine A.J (J:=n) (r:=r) (λd=>[(0,aj c1 l),(14,u l.length),(15,u b),(50,.bool d)]) (λd=>[]) ?_ ?_
  .rcases aC a with⟨e,a⟩|⟨e,a⟩
   .obtain⟨F,j,a⟩:=ah a;obtain⟨H,p,a⟩:=ah a;obtain⟨E,m,a⟩:=ah a;obtain⟨i,k,a⟩:=ah a;exact bu [(2,Z (ax e)),(6,bh (ix c1 j)),(11,bh (ix c1 (b3 c))),(14,aH (jE p) jZ),(18,bh (ix c1 j)),(24,bh (ix c1 (b3 c))),(28,aH (jE m) jZ),(30,aH (x7 k) w3)] [4] [(50,.d (0<=i))]<|aV (decide (0<=i)) a
   exact bu [(2,Z (ax e))] [4] [(50,.bool false)]<|aV false a
  rintro d a;rw[q]at a;rcases aC a with⟨h,a⟩|⟨h,a⟩
  .refine aJ h<|ak [] [(2,u 25)] [] ?_
   cases a;exact A.ret aX
  exact aI h<|A.skip<|bu [(0,Z (cQ c s))] [15,50] [(15,u ((b+1:Nat):Int))]<|aV () a
 rintro b ⟨⟩ v t a;rw[z]at a;refine ai [] [] [(16,.d ((b:Int)<l.length))]<|A.seq<|aI (cS t)<|A.exit<|ak [] [(2,u 0)] [] ?_
 cases a;exact A.ret aX
def SU{y:cF}{a:cF}(b:qX y a=some r):bB prog 118 [] [.agg (i2 y),.dR (i2 a)] (.bool r):=by
 refine bq func118 rfl rfl ?_;unfold qX at b;refine ak [(0,.al 401)] [(1,.dR (i2 a)),(2,.ptr 401 0)] [(401,.cells 166 (i2 y))]<|ak [] [(3,.d (y.Router=a.Router))] [] ?_
 cases b;exact A.ret aX
def HO{p:eE}(a:lQ p=some r):bB prog 44 [] [.agg (gW p)] (.bool r):=by
 refine bq func44 rfl rfl ?_;unfold lQ at a;refine ak [(0,.al 66)] [(1,.ptr 66 0)] [(66,.cells 44 (gW p))]<|A.seq ?_
 obtain⟨D,F,a⟩:=cW a;refine A.J (J:=D) (r:=r) (λo=>[(1,.ptr 66 0),(32,.bool o)]) (λo=>[(66,.cells 44 (gW p))]) ?_ ?_
 .obtain⟨W,h,a⟩:=ah a;rcases aC a with⟨c,a⟩|⟨c,a⟩
  .exact bu [(2,aH (gN h) gV),(4,Z (ax c))] [] [(32,.bool true)]<|aV true a
  obtain⟨X,j,a⟩:=ah a;rcases aC a with⟨f,a⟩|⟨f,a⟩
  .rcases aC a with⟨i,a⟩|⟨i,a⟩
   .exact bu [(2,aH (gN h) gV),(4,Z (ax c)),(7,aH (nR j) oB),(9,Z (ax f)),(13,Z (ax i))] [] [(32,.bool true)]<|aV true a
   rcases aC a with⟨t,a⟩|⟨t,a⟩
   .exact bu [(2,aH (gN h) gV),(4,Z (ax c)),(7,aH (nR j) oB),(9,Z (ax f)),(13,Z (ax i)),(16,Z (bl eu p.c9)),(21,Z (ax t))] [] [(32,.bool true)]<|aV true a
   exact bu [(2,aH (gN h) gV),(4,Z (ax c)),(7,aH (nR j) oB),(9,Z (ax f)),(13,Z (ax i)),(16,Z (bl eu p.c9)),(21,Z (ax t)),(24,Z (bl eu p.c9))] [] [(32,.d (24<(p.c9.length:Int)))]<|aV (decide (24<(p.c9.length:Int))) a
  exact bu [(2,aH (gN h) gV),(4,Z (ax c)),(7,aH (nR j) oB),(9,Z (ax f)),(24,Z (bl eu p.c9))] [] [(32,.d (24<(p.c9.length:Int)))]<|aV (decide (24<(p.c9.length:Int))) a
 rintro o a;rw[F]at a;rcases aC a with⟨s,a⟩|⟨s,a⟩
 .refine aJ s<|ak [] [(2,.bool false)] [] ?_
  cases a;exact A.ret aX
 refine aI s<|A.skip<|A.seq<|ai [(2,Z (bl eu p.c9))] [32] [(34,aj eu p.c9),(35,u p.c9.length),(36,u 0)]<|A.block<|atz 34 rfl λH=>?_
 obtain⟨N,O,P,Q,a⟩:=cO a;refine atx (l:=p.c9) (cD:=0) (B:=N) (K:=O) a (λb=>λ()=>[(1,.ptr 66 0),(34,aj eu p.c9),(35,u p.c9.length),(36,u b)]) (λb=>λ()=>[(66,.cells 44 (gW p))]) ?_ ?_ ?_
 .exact c5
 .rintro b n V ⟨⟩ M q a;rw[P]at a;refine ai [] [] [(37,.d ((b:Int)<p.c9.length))]<|A.seq<|aJ (cT q)<|A.skip<|A.seq<|A.block<|aT [(1,bh (ix eu (b3 q))),(3,.al 290)] [37] [(4,.ptr 290 0),(3,u b)] [] [(290,.cells 166 (i2 n))] ?_
  obtain⟨U,E,a⟩:=ah a;obtain⟨z,C,a⟩:=ah a;refine ai [(3,ey (sl eu E)),(5,bp [290] (Sh (c3:=118) (dF:=[.dR (i2 n)]) (eO:=Qm) (eN:=λ_ _ S=>SU S) C) Ql)] [] [(5,.bool z)] ?_;obtain⟨L,R,a⟩:=cW a;refine A.J (J:=L) (r:=r) (λv=>[(1,.ptr 66 0),(34,aj eu p.c9),(35,u p.c9.length),(36,u b),(75,.bool v)]) (λv=>[(66,.cells 44 (gW p))]) ?_ ?_
  .obtain⟨T,e,a⟩:=ah a;rcases aC a with⟨d,a⟩|⟨d,a⟩
   .exact bX [(2,aH (gN e) gV),(4,Z (ax d))] [4,3,5] [(75,.bool true)] [290] []<|aV true a
   obtain⟨Y,k,a⟩:=ah a;rcases aC a with⟨g,a⟩|⟨g,a⟩
   .exact bX [(2,aH (gN e) gV),(4,Z (ax d)),(7,aH (gN k) gV),(10,Z (ax g))] [4,3,5] [(75,.bool true)] [290] []<|aV true a
   rcases aC a with⟨m,a⟩|⟨m,a⟩
   .exact bX [(2,aH (gN e) gV),(4,Z (ax d)),(7,aH (gN k) gV),(10,Z (ax g)),(13,Z (ax m))] [4,3,5] [(75,.bool true)] [290] []<|aV true a
   rcases aC a with⟨x,a⟩|⟨x,a⟩
   .obtain⟨y,G,a⟩:=ah a;exact bX [(2,aH (gN e) gV),(4,Z (ax d)),(7,aH (gN k) gV),(10,Z (ax g)),(13,Z (ax m)),(16,Z (ax x)),(21,bh (ix eu G))] [4,3,5] [(75,.d (n.aP<=y.aP))] [290] []<|aV (decide (n.aP<=y.aP)) a
   exact bX [(2,aH (gN e) gV),(4,Z (ax d)),(7,aH (gN k) gV),(10,Z (ax g)),(13,Z (ax m)),(16,Z (ax x))] [4,3,5] [(75,.bool false)] [290] []<|aV false a
  rintro v a;rw[R]at a;rcases aC a with⟨w,a⟩|⟨w,a⟩
  .refine aJ w<|ak [] [(2,.bool false)] [] ?_
   cases a;exact A.ret aX
  exact aI w<|A.skip<|bu [(0,Z (cQ q H))] [36,75] [(36,u ((b+1:Nat):Int))]<|aV () a
 rintro b ⟨⟩ M I a;rw[Q]at a;refine ai [] [] [(37,.d ((b:Int)<p.c9.length))]<|A.seq<|aI (cS I)<|A.exit<|ak [] [(2,.bool true)] [] ?_
 cases a;exact A.ret aX
variable {V0:Int}
def IN{r:(eM 257)}(a:ul l V0=some r):bB prog 101 [] [aj c1 l,u V0] (.arr r.l):=by
 refine bq func101 rfl rfl ?_;unfold ul at a;refine ak [(0,j8 101004 (eM.zero 257) AX (by kernel_rfl))] [(0,aj c1 l),(1,u V0),(4,.ptr 101004 0)] [(101004,.vec 163 (eM.zero 257).l)]<|aT [(0,j8 101005 (eM.zero 257) AX (by kernel_rfl))] [] [(5,.ptr 101005 0)] [] [(101005,.vec 163 (eM.zero 257).l)]<|A.seq<|ai [(1,Z (bl c1 l))] [0] [(8,aj c1 l),(9,u l.length),(10,u 0)]<|A.block<|atz 8 rfl λk=>?_
 obtain⟨o,p,q,s,a⟩:=cO a;refine atx (l:=l) (cD:=0) (B:=o) (K:=p) a (λc=>λb=>[(1,u V0),(4,.ptr 101004 0),(5,.ptr 101005 0),(8,aj c1 l),(9,u l.length),(10,u c)]) (λc=>λb=>[(101004,.vec 163 (eM.zero 257).l),(101005,.vec 163 b.l)]) ?_ ?_ ?_
 .exact c5
 .rintro c e1 t b n f a;rw[q]at a;refine ai [] [] [(11,.d ((c:Int)<l.length))]<|A.seq<|aJ (cT f)<|A.skip ?_
  obtain⟨i,j,a⟩:=cW a;refine A.J (J:=i) (r:=r) (λd=>[(1,u V0),(4,.ptr 101004 0),(5,.ptr 101005 0),(8,aj c1 l),(9,u l.length),(10,u c)]) (λd=>[(101004,.vec 163 (eM.zero 257).l),(101005,.vec 163 d.l)]) ?_ ?_
  .refine A.block<|aT [(0,bh (ix c1 (b3 f))),(2,.al 308)] [11] [(7,.ptr 308 0)] [] [(308,.cells 105 (kg e1))] ?_
   refine ai [] [] [(18,.d (e1.Claim.cg=V0))] ?_;rcases aC a with⟨h,a⟩|⟨h,a⟩
   .refine aJ h ?_;obtain⟨g,e,a⟩:=ah a;exact bX [(3,BB (v:=b) e underlying163 sizeOf3),(4,jH (v:=b) e B3),(6,BB (v:=b) e underlying163 sizeOf3),(7,RY (v:=b) (a1 (g+1)) e B3)] [7,18] [] [101005,308] [(101005,.vec 163 (eM.put b e1.Claim.aP.toNat (a1 (g+1))).l)]<|aV (eM.put b e1.Claim.aP.toNat (a1 (g+1))) a
   exact aI h<|A.skip<|aV b a
  rintro d a;rw[j]at a;exact bu [(0,Z (cQ f k))] [10] [(10,u ((c+1:Nat):Int))]<|aV d a
 rintro c b n m a;rw[s]at a;refine ai [] [] [(11,.d ((c:Int)<l.length))]<|A.seq<|aI (cS m)<|A.exit<|ak [(0,RZ b wA),(1,Hr (eM.zero 257) b wA.size)] [(4,.ptr 101004 0)] [(101004,.vec 163 b.l)]<|A.ret ?_
 obtain rfl:=cw a;exact A.RK (x:=.arr b.l) (e1:=[(4,.ptr 101004 0)]) (s1:=[(101004,.vec 163 b.l)]) b0 [] rfl (by kernel_rfl) (.one (.arr _ _ 101004 163 _ b.l rfl (by kernel_rfl) wA (eM.h _))) (by kernel_rfl) (by kernel_rfl)
def Iy{r:Int}(a:tU l V0=some r):bB prog 100 [] [aj c1 l,u V0] (u r):=by
 refine bq func100 rfl rfl ?_;unfold tU at a;refine ak [] [(0,aj c1 l),(1,u V0)] []<|A.seq ?_
 obtain⟨n,z,a⟩:=ah a;refine ai [(1,aH (HW z) GN)] [] [(10,.bool (!decide (n=0)))] ?_;rcases aC a with⟨i,a⟩|⟨i,a⟩
 .refine aJ i<|ak [] [(4,u 0)] [] ?_
  cases a;exact A.ret aX
 refine aI i<|A.skip<|ai [] [10] [(5,u 0)]<|A.seq<|ai [(1,Z (bl c1 l))] [0] [(11,aj c1 l),(12,u l.length),(13,u 0)]<|A.block<|atz 11 rfl λp=>?_
 obtain⟨v,w,x,y,a⟩:=cO a;refine atx (l:=l) (cD:=0) (B:=v) (K:=w) a (λd=>λb=>[(1,u V0),(5,u b),(11,aj c1 l),(12,u l.length),(13,u d)]) (λd=>λb=>[]) ?_ ?_ ?_
 .exact c5
 .rintro d c C b t h a;rw[x]at a;refine ai [] [] [(14,.d ((d:Int)<l.length))]<|A.seq<|aJ (cT h)<|A.skip ?_
  obtain⟨m,o,a⟩:=cW a;refine A.J (J:=m) (r:=r) (λg=>[(1,u V0),(5,u g),(11,aj c1 l),(12,u l.length),(13,u d)]) (λg=>[]) ?_ ?_
  .refine A.block<|aT [(0,bh (ix c1 (b3 h))),(2,.al 307)] [14] [(7,.ptr 307 0)] [] [(307,.cells 105 (kg c))] ?_
   refine atA [(1,u V0),(5,u b),(11,aj c1 l),(12,u l.length),(13,u d),(7,.ptr 307 0),(32,.bool ((decide (c.Claim.cg=V0))&&((decide (b=0))||(decide (c.Claim.Length<b)))))] [(307,.cells 105 (kg c))] (λk=>?_) ?_
   .rcases eY (decide (c.Claim.cg=V0))with e|e
    .rcases eY (decide (b=0))with f|f
     .exact ak [(5,Z (ax e)),(8,Z (ax f)),(15,Z ((g0 (q:=decide (c.Claim.Length<b)) f).trans (jy (q:=((decide (b=0))||(decide (c.Claim.Length<b)))) e)))] _ _ k
     exact ak [(5,Z (ax e)),(8,Z (ax f)),(15,Z ((eS (q:=decide (c.Claim.Length<b)) f).trans (jy (q:=((decide (b=0))||(decide (c.Claim.Length<b)))) e)))] _ _ k
    exact ak [(5,Z (ax e)),(15,Z (jY (q:=((decide (b=0))||(decide (c.Claim.Length<b)))) e))] _ _ k
   rcases aC a with⟨j,a⟩|⟨j,a⟩
   .exact aJ j<|bX [] [5,7,32] [(5,u c.Claim.Length)] [307] []<|aV c.Claim.Length a
   exact aI j<|A.skip<|aV b a
  rintro g a;rw[o]at a;exact bu [(0,Z (cQ h p))] [13] [(13,u ((d+1:Nat):Int))]<|aV g a
 rintro d b t s a;rw[y]at a;refine ai [] [] [(14,.d ((d:Int)<l.length))]<|A.seq<|aI (cS s)<|A.exit<|ak [] [(4,u b)] [] ?_
 cases a;exact A.ret aX
def H6{r:eE×Int}(a:pI l V0=some r):bB prog 40 [] [aj c1 l,u V0] (.bP [.agg (gW r.1),u r.2]):=by
 refine bq func40 rfl rfl ?_;unfold pI at a;refine ak [(0,.al 52)] [(0,aj c1 l),(1,u V0),(4,.ptr 52 0)] [(52,.c 44 [u 0,u 0,.az])]<|A.seq ?_
 obtain⟨k,U,a⟩:=ah a;refine ai [(1,aH (HW U) GN)] [] [(6,u k)]<|ai [] [] [(14,.bool (!decide (k=0)))] ?_
 rcases aC a with⟨m,a⟩|⟨m,a⟩
 .refine aJ m<|ai [] [0,1,6,14] [(5,u k)] ?_
  cases a;exact A.ret aX
 refine aI m<|A.skip<|A.seq ?_
 obtain⟨D,z,a⟩:=ah a;refine ai [(1,aH (gN z) gV)] [6,14] [(19,.bool (!D))] ?_;rcases aC a with⟨n,a⟩|⟨n,a⟩
 .refine aJ n<|ai [] [0,1,19] [(5,u 2)] ?_
  cases a;exact A.ret aX
 refine aI n<|A.skip ?_
 obtain⟨f,C,a⟩:=ah a;refine aT [(3,aH (Iy C) Qd),(5,.al 87)] [19] [(7,.ptr 87 0)] [] [(87,.c 44 [u V0,u f,.az])] ?_;obtain⟨e,x,a⟩:=ah a;refine aT [(2,aH (IN x) Qe),(3,j8 40008 (eM.zero 257) AX (by kernel_rfl)),(4,Hr (eM.zero 257) e wA.size)] [] [(8,.ptr 40008 0)] [] [(40008,.vec 163 e.l)]<|A.seq<|ai [(1,Z (bl c1 l))] [0] [(29,aj c1 l),(30,u l.length),(31,u 0)]<|A.block<|atz 29 rfl λI=>?_
 obtain⟨O,P,Q,R,a⟩:=cO a;refine atx (l:=l) (cD:=0) (B:=O) (K:=P) a (λb=>λc=>[(1,u V0),(4,.ptr 52 0),(7,.ptr 87 0),(8,.ptr 40008 0),(29,aj c1 l),(30,u l.length),(31,u b)]) (λb=>λc=>[(52,.c 44 [u 0,u 0,.az]),(87,.c 44 [u V0,u f,.own 704000702]),(40008,.vec 163 e.l),(704000702,.slice 166 2 (af eu c) 0 false)]) ?_ ?_ ?_
 .exact ct [.ac 87 704000702 166 2 2] []
 .rintro b w V c N i a;rw[Q]at a;refine ai [] [] [(32,.d ((b:Int)<l.length))]<|A.seq<|aJ (cT i)<|A.skip ?_
  obtain⟨y,E,a⟩:=cW a;refine A.J (J:=y) (r:=r) (λg=>[(1,u V0),(4,.ptr 52 0),(7,.ptr 87 0),(8,.ptr 40008 0),(29,aj c1 l),(30,u l.length),(31,u b)]) (λg=>[(52,.c 44 [u 0,u 0,.az]),(87,.c 44 [u V0,u f,.own 704000702]),(40008,.vec 163 e.l),(704000702,.slice 166 2 (af eu g) 0 false)]) ?_ ?_
  .refine A.block<|aT [(0,bh (ix c1 (b3 i))),(2,.al 233)] [32] [(10,.ptr 233 0)] [] [(233,.cells 105 (kg w))] ?_
   obtain⟨M,S,a⟩:=cW a;refine A.J (J:=M) (r:=r) (λh=>[(1,u V0),(4,.ptr 52 0),(7,.ptr 87 0),(8,.ptr 40008 0),(10,.ptr 233 0),(29,aj c1 l),(30,u l.length),(31,u b),(47,.bool h)]) (λh=>[(52,.c 44 [u 0,u 0,.az]),(87,.c 44 [u V0,u f,.own 704000702]),(40008,.vec 163 e.l),(704000702,.slice 166 2 (af eu c) 0 false),(233,.cells 105 (kg w))]) ?_ ?_
   .rcases aC a with⟨j,a⟩|⟨j,a⟩
    .obtain⟨s,q,a⟩:=ah a;exact bu [(5,Z (ax j)),(9,BB (v:=e) q underlying163 sizeOf3),(10,jH (v:=e) q B3)] [] [(47,.d (s=1))]<|aV (decide (s=1)) a
    exact bu [(5,Z (ax j))] [] [(47,.bool false)]<|aV false a
   rintro h a;rw[S]at a;rcases aC a with⟨p,a⟩|⟨p,a⟩
   .refine aJ p ?_;obtain⟨t,F,a⟩:=ah a;exact bX [(9,dH 378 (ap eu (bytes:=16) (by decide) F))] [10,47] [] [87,704000702,233] [(87,.c 44 [u V0,u f,.own 378]),(378,.slice 166 2 (af eu t) 0 false)]<|Exists.intro t (And.intro a (ct [.b5 378 704000702] []))
   exact aI p<|A.skip<|aV c a
  rintro g a;rw[E]at a;exact bu [(0,Z (cQ i I))] [31] [(31,u ((b+1:Nat):Int))]<|aV g a
 rintro b c N L a;rw[R]at a;refine ai [] [] [(32,.d ((b:Int)<l.length))]<|A.seq<|aI (cS L)<|A.exit<|A.seq<|aT [(2,Z (bl eu c))] [1,8,29,30,31,32] [(63,.d (24<(c.length:Int)))] [40008] [] ?_
 rcases aC a with⟨o,a⟩|⟨o,a⟩
 .refine aJ o<|aT [] [7,63] [(5,u 3)] [87,704000702] [] ?_
  cases a;exact A.ret aX
 refine aI o<|A.skip ?_
 obtain⟨G,H,a⟩:=ah a;refine aT [(2,bV [] (LY (d:=704000702) (T:=166) H) Qf)] [63] [] [704000702] [(704000702,.slice 166 2 (af eu G) 0 false)]<|aT [] [7] [(5,u 0)] [52,87] [(52,.c 44 [u V0,u f,.own 704000702])]<|A.ret ?_
 obtain rfl:=cw a;exact atv b0 [.bN [704000702]] rfl (by kernel_rfl)
variable {r:Bool}
def SS{s1:bR}{c:bR}(a:tE s1 c=some r):bB prog 51 [] [aj aW s1,aj aW c] (.bool r):=by
 refine bq func51 rfl rfl ?_;unfold tE at a;refine ak [] [(0,aj aW s1),(1,aj aW c)] []<|A.seq<|ai [(1,Z (bl aW s1)),(3,Z (bl aW c))] [] [(10,.bool (!decide ((s1.length:Int)=(c.length:Int))))] ?_
 rcases aC a with⟨e,a⟩|⟨e,a⟩
 .refine aJ e<|ak [] [(4,.bool false)] [] ?_
  cases a;exact A.ret aX
 refine aI e<|A.skip<|A.seq<|ai [(1,Z (bl aW s1))] [10] [(12,u s1.length),(13,u 0)]<|A.block<|atz 0 rfl λh=>?_
 obtain⟨k,m,n,o,a⟩:=cO a;refine atx (l:=s1) (cD:=0) (B:=k) (K:=m) a (λb=>λ()=>[(0,aj aW s1),(1,aj aW c),(12,u s1.length),(13,u b)]) (λb=>λ()=>[]) ?_ ?_ ?_
 .exact c5
 .rintro b p s ⟨⟩ j d a;rw[n]at a;refine ai [] [] [(14,.d ((b:Int)<s1.length))]<|A.seq<|aJ (cT d)<|A.skip<|A.seq<|A.block<|ai [] [14] [(5,u b)] ?_
  obtain⟨g,q,a⟩:=ah a;refine ai [(2,bh (ix aW (b3 d))),(6,bh (ix aW q))] [5] [(24,.bool (!decide (p=g)))] ?_;rcases aC a with⟨f,a⟩|⟨f,a⟩
  .refine aJ f<|ak [] [(4,.bool false)] [] ?_
   cases a;exact A.ret aX
  exact aI f<|A.skip<|bu [(0,Z (cQ d h))] [13,24] [(13,u ((b+1:Nat):Int))]<|aV () a
 rintro b ⟨⟩ j i a;rw[o]at a;refine ai [] [] [(14,.d ((b:Int)<s1.length))]<|A.seq<|aI (cS i)<|A.exit<|ak [] [(4,.bool true)] [] ?_
 cases a;exact A.ret aX
def IU:∀(q:Nat) {d:Int} {c:List (Int×bR)} {p:List (Int×Bool)} {g:pK} {h:jC} {s:bR} {r:(List (Int×Bool))×(bR)} (b:rF q d c p g h s=some r),cp prog 163 [(99,.c 177 [.fH (bo .i64 (dN aW) c)]),(61,.c 150 [.b6 103]),(62,.c 41 [aj bz g,aj aD h]),(63,.c 22 [.own 279]),(64,.c 127 [.fn 163 [.ptr 99 0,.ptr 61 0,.ptr 62 0,.ptr 63 0,.ptr 64 0]]),(279,.slice 3 1 (af aW s) 0 false),(103,.map 3 4 (bo .i64 gL p))] [u d,.ptr 99 0,.ptr 61 0,.ptr 62 0,.ptr 63 0,.ptr 64 0] (λa F=>a=.bP []/\F=[(99,.c 177 [.fH (bo .i64 (dN aW) c)]),(61,.c 150 [.b6 103]),(62,.c 41 [aj bz g,aj aD h]),(63,.c 22 [.own 352]),(64,.c 127 [.fn 163 [.ptr 99 0,.ptr 61 0,.ptr 62 0,.ptr 63 0,.ptr 64 0]]),(352,.slice 3 1 (af aW r.2) 0 false),(103,.map 3 4 (bo .i64 gL r.1))]):=by
 intro q;induction q with
 |zero=>intros;rename_i b;cases b
 |succ q H=>
 intro d c p g h s r b;refine bq func163 rfl rfl ?_;rw[rF]at b;refine ak [(2,RV c d (dN aW) [] Om (y3 aW zeroValue22)),(3,Z (bl aW ((aB c d).getD [])))] [(2,.ptr 61 0),(3,.ptr 62 0),(4,.ptr 63 0),(5,.ptr 64 0),(11,aj aW ((aB c d).getD [])),(12,u (((aB c d).getD []).length:Int)),(13,u 0)] [(99,.c 177 [.fH (bo .i64 (dN aW) c)]),(61,.c 150 [.b6 103]),(62,.c 41 [aj bz g,aj aD h]),(63,.c 22 [.own 279]),(64,.c 127 [.fn 163 [.ptr 99 0,.ptr 61 0,.ptr 62 0,.ptr 63 0,.ptr 64 0]]),(279,.slice 3 1 (af aW s) 0 false),(103,.map 3 4 (bo .i64 gL p))]<|A.block<|atz 11 rfl λI=>?_
 obtain⟨N,O,P,Q,b⟩:=cO b;refine atx (l:=((aB c d).getD [])) (cD:=0) (B:=N) (K:=O) b (λf=>λ(j,e)=>[(2,.ptr 61 0),(3,.ptr 62 0),(4,.ptr 63 0),(5,.ptr 64 0),(11,aj aW ((aB c d).getD [])),(12,u (((aB c d).getD []).length:Int)),(13,u f)]) (λf=>λ(j,e)=>[(99,.c 177 [.fH (bo .i64 (dN aW) c)]),(61,.c 150 [.b6 103]),(62,.c 41 [aj bz g,aj aD h]),(63,.c 22 [.own 124]),(64,.c 127 [.fn 163 [.ptr 99 0,.ptr 61 0,.ptr 62 0,.ptr 63 0,.ptr 64 0]]),(103,.map 3 4 (bo .i64 gL e)),(124,.slice 3 1 (af aW j) 0 false)]) ?_ ?_ ?_
 .exact ct [.rn 279 124] []
 .rintro f i U ⟨j,e⟩ M t b;rw[P]at b;refine ai [] [] [(14,.d ((f:Int)<(((aB c d).getD []).length:Int)))]<|A.seq<|aJ (cT t)<|A.skip ?_
  obtain⟨y,G,b⟩:=cW b;refine A.J (J:=y) (r:=r) (λ(o,m)=>[(2,.ptr 61 0),(3,.ptr 62 0),(4,.ptr 63 0),(5,.ptr 64 0),(11,aj aW ((aB c d).getD [])),(12,u (((aB c d).getD []).length:Int)),(13,u f)]) (λ(o,m)=>[(99,.c 177 [.fH (bo .i64 (dN aW) c)]),(61,.c 150 [.b6 103]),(62,.c 41 [aj bz g,aj aD h]),(63,.c 22 [.own 124]),(64,.c 127 [.fn 163 [.ptr 99 0,.ptr 61 0,.ptr 62 0,.ptr 63 0,.ptr 64 0]]),(103,.map 3 4 (bo .i64 gL o)),(124,.slice 3 1 (af aW m) 0 false)]) ?_ ?_
  .refine A.block<|ai [(0,bh (ix aW (b3 t)))] [14] [(8,u i)] ?_
   refine A.seq<|ai [(2,hB (lk (E:=4) (k:=.i64) (enc:=gL) e i false (λS=>⟨_,zeroValue4 S,λT=>by simp[aS,dJ,gL]⟩)))] [] [(19,.bool ((aB e i).getD false))] ?_
   rcases aC b with⟨v,b⟩|⟨v,b⟩
   .exact aJ v<|A.exit<|aV (e,j) b
   refine aI v<|A.skip<|aT [(2,pl (ko (k:=.i64) (enc:=gL) e i true rfl))] [19] [] [103] [(103,.map 3 4 (bo .i64 gL (bM e i true)))]<|A.seq ?_
   obtain⟨C,R,b⟩:=ah b;refine ai [(2,aH (xH R) wB)] [] [(24,.bool C)] ?_;rcases aC b with⟨w,b⟩|⟨w,b⟩
   .refine aJ w ?_;obtain⟨x,z,b⟩:=ah b;exact aT [(3,dH 360 (ap aW (bytes:=8) (by decide) z))] [24] [] [63,124] [(63,.c 22 [.own 360]),(360,.slice 3 1 (af aW x) 0 false)]<|A.exit<|Exists.intro (bM e i true,x) (And.intro b (ct [.b5 360 124] []))
   refine aI w<|A.skip ?_
   obtain⟨n,D,b⟩:=ah b;exact bX [(2,bV [340] (ep.at [(279,124),(352,340)] (H D)) Gr)] [8,24] [] [63,103,124] [(63,.c 22 [.own 340]),(103,.map 3 4 (bo .i64 gL n.1)),(340,.slice 3 1 (af aW n.2) 0 false)]<|Exists.intro (n.1,n.2) (And.intro b (ct [.b5 340 124] []))
  rintro⟨o,m⟩ b;rw[G]at b;exact bu [(0,Z (cQ t I))] [13] [(13,u ((f+1:Nat):Int))]<|aV (m,o) b
 rintro f ⟨j,e⟩ M L b;rw[Q]at b;refine ai [] [] [(14,.d ((f:Int)<(((aB c d).getD []).length:Int)))]<|A.seq<|aI (cS L)<|A.exit ?_
 obtain rfl:=cw b;exact atv b0 [.b5 124 352] rfl (by kernel_rfl)
variable {t:aK}
def Jf{e:List (Int×bR)}{c:Int}{r:(bR)}(a:rM t e c=some r):bB prog 120 [] [.agg (bE t),.fH (bo .i64 (dN aW) e),u c] (aj aW r):=by
 refine bq func120 rfl rfl ?_;unfold rM at a;refine ak [(0,.al 190),(1,.al 191)] [(2,u c),(3,.ptr 190 0),(4,.ptr 191 0)] [(190,.cells 41 (bE t)),(191,.c 177 [.fH (bo .i64 (dN aW) e)])]<|aT [(0,.al 165)] [] [(7,.ptr 165 0)] [] [(165,.c 22 [.az])]<|aT [(0,.al 238),(1,.al 237)] [] [(8,.ptr 237 0)] [] [(238,.map 3 4 (bo .i64 gL [])),(237,.c 150 [.b6 238])]<|aT [(0,.al 247)] [] [(9,.ptr 247 0)] [] [(247,.c 127 [.c7])]<|aT [] [3,4,8] [] [247] [(247,.c 127 [.fn 163 [.ptr 191 0,.ptr 237 0,.ptr 190 0,.ptr 165 0,.ptr 247 0]])] ?_
 obtain⟨b,g,a⟩:=ah a;refine atV b0 [.ac 165 279 3 1 0] [(2,bV [520120001] (ep.at [(99,191),(61,237),(103,238),(62,190),(63,165),(64,247),(352,520120001)] (IU fuel g)) Gr)] [(7,.ptr 165 0)] [(165,.c 22 [.own 520120001]),(520120001,.slice 3 1 (af aW b.2) 0 false)] (by kernel_rfl) ?_;obtain⟨f,a⟩:=hA a;refine ak [(1,bV [] (zM (d:=520120001) (T:=3) b.2 (of_decide_eq_true f)) A1)] [(7,.ptr 165 0)] [(165,.c 22 [.own 520120001]),(520120001,.slice 3 1 (af aW (gF b.2)) 0 false)]<|aT [] [7] [(6,.own 520120001)] [165] []<|A.ret ?_
 obtain rfl:=cw a;exact atv b0 [.bN [520120001]] rfl (by kernel_rfl)
def hS:eT dh:=⟨λx=>[.int .i64 x.Router,.int .i64 x.cg,.int .i64 x.Length,.az],4,λ_=>rfl,λ_=>rfl,λ_=>rfl⟩
variable {l:sV}
def L0(h:(!l.isEmpty&&l.all λx=>x.Rows.isEmpty)=true):l≠[]/\List.replicate (af hS l).length []=l.map (·.Rows):=by
 simp only[Bool.and_eq_true,Bool.not_eq_true',List.all_eq_true]at h;refine⟨λd=>by rw[d]at h;simp at h,?_⟩;have a:=h.2;clear h;induction l with
 |nil=>rfl
 |cons x l b=>
  simp only[af,List.map_cons,List.length_cons,List.replicate_succ]at b ⊢;rw[show x.Rows=[]from by simpa using a x (by simp)];rw[b λe c=>a e (by simp[c])]
variable {G:bG}{env:ag}{σ:U}
def O8{d e:Nat}(h:(!l.isEmpty&&l.all λx=>x.Rows.isEmpty)=true)(i:σ.get d=some (.slice 56 4 (af hS l) 0 false))(j:σ.get e=none)(hi:G.ids.contains e=false)(c:env.clean [e].contains=true)(b:σ.clean [e].contains=true):
  cu G env σ env ((e,.cE (encS 97 2 fD.enc (l.map (·.Rows))))::(d,.ew 56 4 (af hS l) 3 e none)::σ.minus [d]):=by
 obtain⟨g,a⟩:=L0 h;rw[<-a]
 exact avA 97 2 3 fD.enc (by decide) (by simpa [af]using g) (λk f=>by
  obtain⟨x,_,rfl⟩:=List.mem_map.1 f;rfl) i j hi c b
variable {i:Nat}{x:dh}
def Ax(h:b4 l (i:Int)=some x):((l.map (·.Rows))[(i:Int).toNat]?=some x.Rows)/\0<=(i:Int)/\(i:Int)<((af hS l).length:Int):=by
 obtain⟨b,c,a⟩:=vu h;refine⟨by rw[List.getElem?_map,a];rfl,b,?_⟩;simp only[af,List.length_map];omega
def QU{d e e2 t:Nat}{a:sV}{b:List fF}(h:b4 l (i:Int)=some x)(c:fu l (i:Int) (dh.mk x.Router x.cg x.Length b)=some a)(v:σ.get d=some (.ew 56 4 (af hS l) 3 e (some (some (i:Int).toNat,t))))(w:σ.get e=some (.cE (encS 97 2 fD.enc ((l.map (·.Rows)).set (i:Int).toNat []))))
  (j:σ.get t=some (.slice 97 2 (af fD b) 0 false)) (p:σ.get e2=none) (q:G.ids.contains e2=false) (o:env.clean [e2].contains=true) (m:σ.clean [e2].contains=true) :
  cu G env σ env ((e2,.cE (encS 97 2 fD.enc (a.map (·.Rows))))::(d,.ew 56 4 (af hS a) 3 e2 none)::σ.minus [d,e,t]):=by
 have u:=avC (l.map (·.Rows)) fD.enc b v w j p q o m;obtain⟨z,k,n⟩:=vu h;have g:a=l.set (i:Int).toNat (dh.mk x.Router x.cg x.Length b):=by
  unfold fu at c;split at c
  .exact(Option.some.inj c).symm
  .cases c
 have s:af hS a=af hS l:=by
  rw[g];apply List.ext_getElem?;intro y;simp only[af,List.getElem?_map,List.getElem?_set];by_cases f:(i:Int).toNat=y
  .subst f;rw[if_pos rfl,if_pos k,n];rfl
  .rw[if_neg f]
 have r:(l.map (·.Rows)).set (i:Int).toNat b=a.map (·.Rows):=by rw[g,List.map_set]
 rw[s,<-r];exact u
def RN{d e:Nat}(b:σ.get d=some (.ew 56 4 (af hS l) 3 e none))(c:σ.get e=some (.cE (encS 97 2 fD.enc (l.map (·.Rows))))):cu G env σ env ((d,.slice 56 4 (af gm l) 0 false)::σ.minus [d,e]):=
 avE (l.map (·.Rows)) fD.enc (by decide) b c (af gm l) (by
  clear b c;induction l with
  |nil=>rfl
  |cons x l a=>
   simp only[af,List.map_cons,List.zipWith_cons_cons]at a ⊢;rw[<-a];rfl)
variable {p:eE}
def Ie{cN:bR}{r:(sV)}(a:rI t p cN=some r):bB prog 45 [] [.agg (bE t),.agg (gW p),aj aW cN] (aj gm r):=by
 refine bq func45 rfl rfl ?_;unfold rI at a;refine ak [(0,.al 32),(1,.al 146)] [(2,aj aW cN),(3,.ptr 32 0),(4,.ptr 146 0)] [(32,.cells 41 (bE t)),(146,.cells 44 (gW p))]<|ai [] [] [(7,.az)]<|A.seq<|ai [(1,Z (bl aW cN))] [] [(16,aj aW cN),(17,u cN.length),(18,u 0)]<|A.block<|atz 2 rfl λM=>?_
 obtain⟨P,Q,R,S,a⟩:=cO a;refine atx (l:=cN) (cD:=0) (B:=P) (K:=Q) a (λg=>λk=>[(2,aj aW cN),(3,.ptr 32 0),(4,.ptr 146 0),(7,.own 600045007),(16,aj aW cN),(17,u cN.length),(18,u g)]) (λg=>λk=>[(32,.cells 41 (bE t)),(146,.cells 44 (gW p)),(600045007,.slice 56 4 (af hS k) 0 false)]) ?_ ?_ ?_
 .exact ct [.ad 7 600045007 56 4] []
 .rintro g ax aF k O n a;rw[R]at a;refine ai [] [] [(19,.d ((g:Int)<cN.length))]<|A.seq<|aJ (cT n)<|A.skip<|A.seq<|A.block<|ai [(0,bh (ix aW (b3 n)))] [19] [(9,u ax)] ?_
  obtain⟨y,aD,a⟩:=ah a;exact bX [(7,Ho Qc),(8,dH 291 (ap hS (bytes:=48) (by decide) aD))] [7,9] [(7,.own 291)] [600045007] [(291,.slice 56 4 (af hS y) 0 false)]<|bu [(0,Z (cQ n M))] [18] [(18,u ((g+1:Nat):Int))]<|Exists.intro y (And.intro a (ct [.b5 291 600045007] []))
 rintro g k O N a;rw[S]at a;obtain⟨an,a⟩:=hA a;refine ai [] [] [(19,.d ((g:Int)<cN.length))]<|A.seq<|aI (cS N)<|A.exit<|A.seq<|aT [(2,Z (bl eu p.c9))] [4,16,17,18,19] [(33,aj eu p.c9),(34,u p.c9.length),(35,u 0)] [146] []<|A.block<|atz 33 rfl λW=>?_
 obtain⟨X,ae,Y,ab,a⟩:=cO a;refine atx (l:=p.c9) (cD:=0) (B:=X) (K:=ae) a (λf=>λh=>[(2,aj aW cN),(3,.ptr 32 0),(7,.own 600045007),(33,aj eu p.c9),(34,u p.c9.length),(35,u f)]) (λf=>λh=>[(32,.cells 41 (bE t)),(600045007,.ew 56 4 (af hS h) 3 601045007 none),(601045007,.cE (encS 97 2 fD.enc (h.map (·.Rows))))]) ?_ ?_ ?_
 .exact(O8 (d:=600045007) (e:=601045007) an rfl rfl rfl rfl rfl).trans (c5)
 .rintro f e2 aG h U v a;rw[Y]at a;refine ai [] [] [(36,.d ((f:Int)<p.c9.length))]<|A.seq<|aJ (cT v)<|A.skip<|A.seq<|A.block<|aT [(0,bh (ix eu (b3 v))),(2,.al 85)] [36] [(11,.ptr 85 0)] [] [(85,.cells 166 (i2 e2))] ?_
  obtain⟨o,D,a⟩:=ah a;refine ai [(3,aH (Ix D) Qn)] [] [(12,.fH (bo .i64 (dN aW) o))]<|ai [(1,Z (bl aW cN))] [] [(43,aj aW cN),(44,u cN.length),(45,u 0)]<|A.block<|atz 2 rfl λam=>?_
  obtain⟨ar,au,av,aw,a⟩:=cO a;refine atx (l:=cN) (cD:=0) (B:=ar) (K:=au) a (λb=>λc=>[(2,aj aW cN),(3,.ptr 32 0),(7,.own 600045007),(11,.ptr 85 0),(12,.fH (bo .i64 (dN aW) o)),(33,aj eu p.c9),(34,u p.c9.length),(35,u f),(43,aj aW cN),(44,u cN.length),(45,u b)]) (λb=>λc=>[(32,.cells 41 (bE t)),(600045007,.ew 56 4 (af hS c) 3 601045007 none),(601045007,.cE (encS 97 2 fD.enc (c.map (·.Rows)))),(85,.cells 166 (i2 e2))]) ?_ ?_ ?_
  .exact c5
  .rintro b j aM c aq w a;rw[av]at a;refine ai [] [] [(46,.d ((b:Int)<cN.length))]<|A.seq<|aJ (cT w)<|A.skip<|A.seq<|A.block<|ai [(1,bh (ix aW (b3 w)))] [46] [(13,u b),(14,u j)]<|aT [(3,.al 159)] [] [(15,.ptr 159 0)] [] [(159,.c 97 [u e2.aP,.az])] ?_
   obtain⟨C,G,a⟩:=cW a;refine A.J (J:=C) (r:=r) (λm=>[(2,aj aW cN),(3,.ptr 32 0),(7,.own 600045007),(11,.ptr 85 0),(12,.fH (bo .i64 (dN aW) o)),(13,u b),(15,.ptr 159 0),(33,aj eu p.c9),(34,u p.c9.length),(35,u f),(43,aj aW cN),(44,u cN.length),(45,u b)]) (λm=>[(32,.cells 41 (bE t)),(600045007,.ew 56 4 (af hS c) 3 601045007 none),(601045007,.cE (encS 97 2 fD.enc (c.map (·.Rows)))),(85,.cells 166 (i2 e2)),(159,.c 97 [u e2.aP,aj aW m])]) ?_ ?_
   .refine A.block<|ai [] [] [(53,.d (j=e2.Router))] ?_
    rcases aC a with⟨q,a⟩|⟨q,a⟩
    .exact aJ q<|bX [(1,.al 379)] [14,53] [] [159] [(159,.c 97 [u e2.aP,.own 379]),(379,.slice 3 1 (af aW ([j]:bR)) 0 false)]<|Exists.intro ([j]:bR) (And.intro a (ct [.bN [379],.sc 159 [32,600045007,85,159,601045007]] []))
    refine aI q ?_;obtain⟨F,E,a⟩:=ah a;refine ai [(3,aH (xH E) wB)] [53] [(61,.bool F)] ?_;rcases aC a with⟨s,a⟩|⟨s,a⟩
    .refine aJ s ?_;obtain⟨x,z,a⟩:=ah a;exact bX [(3,aH (Jf z) Qo)] [14,61] [] [159] [(159,.c 97 [u e2.aP,aj aW x])]<|aV x a
    exact aI s<|A.skip<|Exists.intro [] (And.intro a (ct [.sc 159 [32,600045007,85,159,601045007]] []))
   rintro m a;rw[G]at a;obtain⟨aE,i,a⟩:=ah a;obtain⟨I,H,a⟩:=ah a;obtain⟨V,L,a⟩:=ah a;exact bX [(4,Hs (b:Int) (af hS c) GU (Ax i).2),(6,RT 4 3 97 2 602045007 603045007 fD.enc GV (Ax i).1),(9,dH 45580 (ap fD (bytes:=32) (by decide) H)),(10,Hs (b:Int) (af hS c) GU (Ax i).2),(12,RX 4 3 (b:Int).toNat GV)] [13,15] [] [600045007,601045007,159] [(600045007,.ew 56 4 (af hS c) 3 602045007 (some (some (b:Int).toNat,45580))),(602045007,.cE (encS 97 2 fD.enc ((c.map (·.Rows)).set (b:Int).toNat []))),(45580,.slice 97 2 (af fD I) 0 false)]<|bu [(0,Z (cQ w am))] [45] [(45,u ((b+1:Nat):Int))]<|Exists.intro V (And.intro a ((QU (d:=600045007) (e:=602045007) (e2:=601045007) (t:=45580) i L rfl rfl rfl rfl rfl rfl rfl).trans (c5)))
  rintro b c aq ao a;rw[aw]at a;exact ai [] [] [(46,.d ((b:Int)<cN.length))]<|A.seq<|aI (cS ao)<|A.exit<|bX [(0,Z (cQ v W))] [11,12,35,43,44,45,46] [(35,u ((f+1:Nat):Int))] [85] []<|aV c a
 rintro f h U T a;rw[ab]at a;refine ai [] [] [(36,.d ((f:Int)<p.c9.length))]<|A.seq<|aI (cS T)<|A.exit<|aT [] [2,3,7,33,34,35,36] [(6,.own 600045007)] [32] []<|atL (RN (d:=600045007) (e:=601045007) rfl rfl)<|A.ret ?_
 obtain rfl:=cw a;exact atv b0 [.bN [600045007]] rfl (by kernel_rfl)
def Ig{b:Int}{r:dh×Int}(a:lX t p b=some r):bB prog 42 [] [.agg (bE t),.agg (gW p),u b] (.bP [.agg (lY r.1),u r.2]):=by
 refine bq func42 rfl rfl ?_;unfold lX at a;refine ak [(0,.al 182),(1,.al 183),(2,.al 130)] [(2,u b),(3,.ptr 182 0),(4,.ptr 183 0),(6,.ptr 130 0)] [(182,.cells 41 (bE t)),(183,.cells 44 (gW p)),(130,.c 56 [u 0,u 0,u 0,.az])]<|A.seq<|A.block ?_
 obtain⟨m,v,a⟩:=cW a;refine A.J (J:=m) (r:=r) (λc=>[(2,u b),(3,.ptr 182 0),(4,.ptr 183 0),(6,.ptr 130 0),(8,.bool c)]) (λc=>[(182,.cells 41 (bE t)),(183,.cells 44 (gW p)),(130,.c 56 [u 0,u 0,u 0,.az])]) ?_ ?_
 .obtain⟨x,i,a⟩:=ah a;rcases aC a with⟨e,a⟩|⟨e,a⟩
  .exact bu [(1,aH (kV i) lF),(3,Z (ax e))] [] [(8,.bool true)]<|aV true a
  obtain⟨h,q,a⟩:=ah a;exact bu [(1,aH (kV i) lF),(3,Z (ax e)),(5,aH (HO q) G4)] [] [(8,.bool (!h))]<|aV (!h) a
 rintro c a;rw[v]at a;rcases aC a with⟨f,a⟩|⟨f,a⟩
 .refine aJ f<|aT [] [2,3,4,8] [(7,u 1)] [182,183] [] ?_
  cases a;exact A.ret aX
 refine aI f ?_;obtain⟨k,s,a⟩:=ah a;refine ai [(2,aH (nT s) nI)] [8] [(18,.bool (!k))] ?_;rcases aC a with⟨d,a⟩|⟨d,a⟩
 .refine aJ d<|aT [] [2,3,4,18] [(7,u 4)] [182,183] [] ?_
  cases a;exact A.ret aX
 refine aI d ?_;obtain⟨o,l,a⟩:=ah a;refine ai [(2,aH (xH l) wB)] [18] [(24,.bool (!o))] ?_;rcases aC a with⟨g,a⟩|⟨g,a⟩
 .refine aJ g<|aT [] [2,3,4,24] [(7,u 26)] [182,183] [] ?_
  cases a;exact A.ret aX
 refine aI g<|A.skip ?_
 obtain⟨y,j,a⟩:=ah a;obtain⟨n,w,a⟩:=ah a;refine ak [(4,aH (Ie j) G5),(5,bh (ix gm w))] [(6,.ptr 130 0),(7,u 0)] [(130,.cells 56 (lY n))] ?_;cases a;exact A.ret aX
def Ji{r:(sV)×Int}(a:pO t p=some r):bB prog 9 [] [.agg (bE t),.agg (gW p)] (.bP [aj gm r.1,u r.2]):=by
 refine bq func9 rfl rfl ?_;unfold pO at a;refine ak [(0,.al 104),(1,.al 105)] [(2,.ptr 104 0),(3,.ptr 105 0)] [(104,.cells 41 (bE t)),(105,.cells 44 (gW p))]<|A.seq ?_
 obtain⟨s,x,a⟩:=cW a;refine A.J (J:=s) (r:=r) (λe=>[(2,.ptr 104 0),(3,.ptr 105 0),(16,.bool e)]) (λe=>[(104,.cells 41 (bE t)),(105,.cells 44 (gW p))]) ?_ ?_
 .obtain⟨M,n,a⟩:=ah a;rcases aC a with⟨h,a⟩|⟨h,a⟩
  .exact bu [(1,aH (kV n) lF),(3,Z (ax h))] [] [(16,.bool true)]<|aV true a
  obtain⟨k,v,a⟩:=ah a;exact bu [(1,aH (kV n) lF),(3,Z (ax h)),(5,aH (HO v) G4)] [] [(16,.bool (!k))]<|aV (!k) a
 rintro e a;rw[x]at a;rcases aC a with⟨i,a⟩|⟨i,a⟩
 .refine aJ i<|ak [] [(4,.az),(5,u 1)] [] ?_
  cases a;exact A.ret aX
 refine aI i<|A.skip<|ai [] [16] [(6,.az)]<|A.seq<|ai [(2,Z (bl bz t.aL))] [] [(18,aj bz t.aL),(19,u t.aL.length),(20,u 0)]<|A.block<|atz 18 rfl λy=>?_
 obtain⟨E,F,G,H,a⟩:=cO a;refine atx (l:=t.aL) (cD:=0) (B:=E) (K:=F) a (λb=>λc=>[(2,.ptr 104 0),(3,.ptr 105 0),(6,.own 161),(18,aj bz t.aL),(19,u t.aL.length),(20,u b)]) (λb=>λc=>[(104,.cells 41 (bE t)),(105,.cells 44 (gW p)),(161,.slice 3 1 (af aW c) 0 false)]) ?_ ?_ ?_
 .exact ct [.ad 6 161 3 1] []
 .rintro b m L c D f a;rw[G]at a;refine ai [] [] [(21,.d ((b:Int)<t.aL.length))]<|A.seq<|aJ (cT f)<|A.skip ?_
  obtain⟨C,I,a⟩:=cW a;refine A.J (J:=C) (r:=r) (λd=>[(2,.ptr 104 0),(3,.ptr 105 0),(6,.own 161),(18,aj bz t.aL),(19,u t.aL.length),(20,u b)]) (λd=>[(104,.cells 41 (bE t)),(105,.cells 44 (gW p)),(161,.slice 3 1 (af aW d) 0 false)]) ?_ ?_
  .refine A.block<|aT [(0,bh (ix bz (b3 f))),(2,.al 354)] [21] [(8,.ptr 354 0)] [] [(354,.cells 79 (ha m))] ?_
   refine ai [] [] [(25,.bool m.bw)] ?_;rcases aC a with⟨g,a⟩|⟨g,a⟩
   .refine aJ g ?_;obtain⟨j,w,a⟩:=ah a;exact bX [(4,dH 390 (ap aW (bytes:=8) (by decide) w))] [6,8,25] [(6,.own 390)] [161,354] [(390,.slice 3 1 (af aW j) 0 false)]<|Exists.intro j (And.intro a (ct [.b5 390 161] []))
   exact aI g<|A.skip<|aV c a
  rintro d a;rw[I]at a;exact bu [(0,Z (cQ f y))] [20] [(20,u ((b+1:Nat):Int))]<|aV d a
 rintro b c D z a;rw[H]at a;refine ai [] [] [(21,.d ((b:Int)<t.aL.length))]<|A.seq<|aI (cS z)<|A.exit ?_
 obtain⟨o,q,a⟩:=ah a;refine atV b0 [.bN [161]] [(3,aH (Ie q) G5)] [(4,aj gm o),(5,u 0)] [] (by kernel_rfl) ?_;cases a;exact A.ret aX
def IV{c:fF}{y:fF}(a:yf c y=some r):bB prog 50 [] [.agg (nZ c),.agg (nZ y)] (.bool r):=by
 refine bq func50 rfl rfl ?_;unfold yf at a;refine ak [(0,.al 439),(1,.al 440)] [(2,.ptr 439 0),(3,.ptr 440 0)] [(439,.cells 97 (nZ c)),(440,.cells 97 (nZ y))] ?_;rcases aC a with⟨b,a⟩|⟨b,a⟩
 .obtain⟨d,e,a⟩:=ah a;refine ak [(5,Z (ax b)),(10,aH (SS e) Rs)] [(4,.bool d)] [] ?_;cases a;exact A.ret aX
 refine ak [(5,Z (ax b))] [(4,.bool false)] [] ?_;cases a;exact A.ret aX
def Jg{a:dh}{b:dh}(c:rN a b=some r):bB prog 12 [] [.agg (lY a),.agg (lY b)] (.bool r):=by
 refine bq func12 rfl rfl ?_;unfold rN at c;refine ak [(0,.al 402),(1,.al 403)] [(2,.ptr 402 0),(3,.ptr 403 0)] [(402,.cells 56 (lY a)),(403,.cells 56 (lY b))] ?_;rcases aC c with⟨d,c⟩|⟨d,c⟩
 .rcases aC c with⟨e,c⟩|⟨e,c⟩
  .rcases aC c with⟨f,c⟩|⟨f,c⟩
   .obtain⟨g,i,c⟩:=ah c;refine ak [(5,Z (ax d)),(12,Z (ax e)),(19,Z (ax f)),(24,aH (R4 (j0:=50) (lG:=[]) (sX:=Rr) (sY:=λ_ _ _ h=>IV h) i) Rp)] [(4,.bool g)] [] ?_;cases c;exact A.ret aX
   refine ak [(5,Z (ax d)),(12,Z (ax e)),(19,Z (ax f))] [(4,.bool false)] [] ?_;cases c;exact A.ret aX
  refine ak [(5,Z (ax d)),(12,Z (ax e))] [(4,.bool false)] [] ?_;cases c;exact A.ret aX
 refine ak [(5,Z (ax d))] [(4,.bool false)] [] ?_;cases c;exact A.ret aX
end
section
open Go
set_option maxRecDepth 100000
set_option linter.all false
noncomputable section
def um(t:bH)(cN:Int)(n:Int):Option ((l5)×bH):=
 eU (decide ((cN+1)<=9223372036854775807))<|hM ((cN+1)-(1:Int)).toNat (1:Int) (λ(o:Int) (A:((l5)×(bR)×Int)->Option _) (e,b,c)=>hM ((3:Int)-(0:Int)).toNat (0:Int) (λ(l:Int) (D:((l5)×(bR)×Int)->Option _) (f,j,g)=>jn (λ(a:(l5)×(bR)×Int)=>match a with|(H,C,E)=>D (H,C,E)) λm=>aa (gr (bH.mk j g) (3:Int)) λ(d:Int×bH)=>bif decide (0<d.1)then aa (jj d.2 ([(1:Int),(2:Int),(3:Int),(4:Int),(5:Int),(8:Int),(9:Int),(256:Int)]:bR)) λ(p:Int×bH)=>aa (uf p.2) λ(h:Int×bH)=>aa (dr f ([(bZ.mk (o:Int) (dA.mk (l:Int) p.1 h.1))]:l5)) λ(z:l5)=>m (z,h.2.L,h.2.At)else m (f,d.2.L,d.2.At)) (λ(l:Int) (a:(l5)×(bR)×Int)=>match a with|(f,j,g)=>A (f,j,g)) (e,b,c)) (λ(o:Int) (a:(l5)×(bR)×Int)=>match a with|(e,b,c)=>jn (λ(a:(l5)×(bR)×Int)=>match a with|(I,G,F)=>some (I,(bH.mk G F))) λs=>jn (λ(a:Bool×(bR)×Int)=>match a with|(y,x,w)=>bif y then aa (jj (bH.mk x w) ([(0:Int),(1:Int),(9:Int),(99:Int),(100:Int)]:bR)) λ(r:Int×bH)=>aa (jj r.2 ([(0:Int),(7:Int),(8:Int),(-1:Int)]:bR)) λ(q:Int×bH)=>aa (jj q.2 ([(0:Int),(1:Int),(256:Int),(257:Int)]:bR)) λ(u:Int×bH)=>aa (jj u.2 ([(0:Int),(8:Int),(12:Int),(64:Int)]:bR)) λ(k:Int×bH)=>aa (dr e ([(bZ.mk r.1 (dA.mk q.1 u.1 k.1))]:l5)) λ(B:l5)=>s (B,k.2.L,k.2.At)else s (e,x,w)) λv=>(bif decide (0<n)then aa (lW (bH.mk b c) n) λ(i:Bool×bH)=>v (i.1,i.2.L,i.2.At)else v (false,b,c))) ([],t.L,t.At)
def rJ: dK:=
 aa (pz (aK.mk ([(bk.mk (1:Int) true),(bk.mk (2:Int) true)]:pK) ([(aR.mk (1:Int) (2:Int) (1:Int) (1:Int) (0:Int))]:jC)) ([(bZ.mk (2:Int) (dA.mk (0:Int) (3:Int) (8:Int)))]:l5)) λ(e:aA×Int)=>aa (lN e.1 (1:Int)) λ(f:aA×Int)=>aa (lN f.1 (2:Int)) λ(c:aA×Int)=>aa (mZ c.1) λ(a:aA×Int)=>bif ((!decide (e.2=0))||((!decide (f.2=0))||((!decide (c.2=0))||((!decide (a.2=0))||(!decide ((a.1.ay.length:Int)=(2:Int)))))))then some false else aa (b4 a.1.ay (0:Int)) λ(d:a2)=>aa (nU d.Database (1:Int)) λ(i:(l5))=>aa (pI i (0:Int)) λ(g:eE×Int)=>aa (lT d.Database (1:Int)) λ(j:aK)=>aa (lX j g.1 (1:Int)) λ(b:dh×Int)=>(bif decide (g.2=0)then(bif decide (b.2=0)then(bif decide ((b.1.Rows.length:Int)=(1:Int))then aa (b4 b.1.Rows (0:Int)) λ(h:fF)=>aa (Cl h.Next ([(2:Int)]:bR)) λ(k:Bool)=>some k else some false)else some false)else some false)
def uG(K:bH)(cN:Int):Option (aA×Bool×bH):=
 aa (tV K cN (0:Int)) λ(e:aK×bH)=>aa (um e.2 (e.1.aL.length:Int) (0:Int)) λ(v:(l5)×bH)=>aa (pz e.1 v.1) λ(g:aA×Int)=>bL e.1.aL 0 (λ(ah:Int) (af:bk) (L:((jC)×(kT)×(ng))->Option _) (i,k,l)=>aa (lN (aA.mk i k l) af.aP) λ(j:aA×Int)=>bif !decide (j.2=0)then some ((aA.mk i k l),false,v.2)else L (j.1.Links,j.1.ay,j.1.aY)) (λ(h:(jC)×(kT)×(ng))=>match h with|(i,k,l)=>aa (gr v.2 (8:Int)) λ(w:Int×bH)=>fI (λ(O:(Int×(jC)×(kT)×(ng)×(bR)×Int)->Option _) (G,c,b,d,z,x)=>bif ((decide (0<G))&&(decide (g.2=0)))then jn (λ(h:(bR)×Int×(jC)×(kT)×(ng))=>match h with|(R,Q,U,V,S)=>O (a1 (G-1),U,V,S,R,Q)) λF=>jn (λ(h:Int×(bR)×Int×(jC)×(kT)×(ng))=>match h with|(ab,H,I,Z,X,W)=>bif decide (ab=0)then F (H,I,Z,X,W)else F (H,I,c,b,d)) λf=>aa (gr (bH.mk z x) (6:Int)) λ(a:Int×bH)=>bif decide (a.1=0)then aa (nX (aA.mk c b d)) λ(N:aK)=>aa (nX (aA.mk c b d)) λ(M:aK)=>aa (tP a.2 M) λ(y:gC×bH)=>aa (uo N y.1) λ(P:aK)=>aa (mS (aA.mk c b d) P.Links) λ(n:aA×Int)=>f (n.2,y.2.L,y.2.At,n.1.Links,n.1.ay,n.1.aY)else bif decide (a.1=1)then aa (mS (aA.mk c b d) e.1.Links) λ(m:aA×Int)=>f (m.2,a.2.L,a.2.At,m.1.Links,m.1.ay,m.1.aY)else bif decide (a.1=2)then aa (rq a.2 e.1 (0:Int)) λ(A:Int×bH)=>aa (ud (aA.mk c b d) A.1) λ(p:aA×Int)=>f (p.2,A.2.L,A.2.At,p.1.Links,p.1.ay,p.1.aY)else bif decide (a.1=3)then aa (rq a.2 e.1 (0:Int)) λ(D:Int×bH)=>aa (up (aA.mk c b d) D.1) λ(q:aA×Int)=>f (q.2,D.2.L,D.2.At,q.1.Links,q.1.ay,q.1.aY)else bif decide (a.1=4)then aa (gr a.2 (3:Int)) λ(C:Int×bH)=>aa (uq (aA.mk c b d) C.1) λ(r:aA×Int)=>f (r.2,C.2.L,C.2.At,r.1.Links,r.1.ay,r.1.aY)else aa (gr a.2 (3:Int)) λ(E:Int×bH)=>aa (ue (aA.mk c b d) E.1) λ(s:aA×Int)=>f (s.2,E.2.L,E.2.At,s.1.Links,s.1.ay,s.1.aY)else aa (tT (b.length:Int)) λ(Y:Int)=>fI (λ(T:(Int×(jC)×(kT)×(ng))->Option _) (J,o,t,u)=>bif decide (0<J)then aa (mZ (aA.mk o t u)) λ(B:aA×Int)=>T (a1 (J-1),B.1.Links,B.1.ay,B.1.aY)else(bif decide (g.2=0)then aa (tZ (aA.mk o t u)) λ(ae:Bool)=>some ((aA.mk o t u),ae,(bH.mk z x))else some ((aA.mk o t u),false,(bH.mk z x)))) (Y,c,b,d)) (w.1,i,k,l,w.2.L,w.2.At)) (g.1.Links,g.1.ay,g.1.aY)
def uH(f:aA)(n:Int)(u:Int):Option (aK×eE×(sV)×Bool):=
 aa (nX f) λ(r:aK)=>bL f.ay 0 (λ(G:Int) (a:a2) (q:((sV)×(pK)×(jC)×Int×Int×(u6))->Option _) (j,c,d,g,b,h)=>jn (λ(e:(sV)×(pK)×(jC)×Int×Int×(u6))=>match e with|(t,w,y,x,A,z)=>q (t,w,y,x,A,z)) λl=>aa (tO r n a.Router) λ(s:Bool)=>bif !s then l (j,c,d,g,b,h)else aa (lT a.Database a.Router) λ(k:aK)=>aa (nU a.Database a.Router) λ(p:(l5))=>aa (pI p u) λ(i:eE×Int)=>aa (lX k i.1 a.Router) λ(m:dh×Int)=>bif ((!decide (i.2=0))||(!decide (m.2=0)))then some ((aK.mk c d),(eE.mk g b h),[],false)else jn (λ(e:(pK)×(jC)×Int×Int×(u6))=>match e with|(C,D,B,E,F)=>aa (dr j ([m.1]:sV)) λ(v:sV)=>l (v,C,D,B,E,F)) λo=>bif decide (a.Router=n)then o (k.aL,k.Links,i.1.cg,i.1.Length,i.1.c9)else o (c,d,g,b,h)) (λ(e:(sV)×(pK)×(jC)×Int×Int×(u6))=>match e with|(j,c,d,g,b,h)=>some ((aK.mk c d),(eE.mk g b h),j,true)) ([],[],[],(0:Int),(0:Int),[])
end
end
section
open Go Go.Proofs.Tryz
set_option maxRecDepth 100000
set_option linter.all false
def IP{t:bH}{cN:Int}{n:Int}{r:(l5)×bH}(b:um t cN n=some r):cp prog 32 [(1,.cells 73 (cn t))] [.ptr 1 0,u cN,u n] (λa R=>a=aj c1 r.1/\R=[(1,.cells 73 (cn r.2))]):=by
 refine bq func32 rfl rfl ?_;unfold um at b;refine ak [] [(0,.ptr 1 0),(1,u cN),(2,u n)] [(1,.cells 73 (cn t))]<|ai [] [] [(7,.az)]<|A.seq<|ai [] [] [(8,u 1)]<|A.block ?_
 obtain⟨aM,b⟩:=hA b;obtain⟨Y,ab,ae,am,b⟩:=pS b;refine at2 (hi:=(cN+1)) (B:=Y) (K:=ab) b rfl (λc=>λ(e,h,j)=>[(0,.ptr 1 0),(1,u cN),(2,u n),(7,.own 80),(8,u c)]) (λc=>λ(e,h,j)=>[(1,.c 73 [aj aW h,u j]),(80,.slice 105 4 (af c1 e) 0 false)]) ?_ ?_ ?_
 .exact ct [.ad 7 80 105 4] []
 .rintro c aU ⟨e,h,j⟩ X G b;rw[ae]at b;refine A.seq<|ai [] [] [(12,.d ((c:Int)<=cN))] ?_
  refine atS rfl (BL G)<|A.skip<|A.seq<|A.block<|ai [] [12] [(9,u 0)]<|A.block ?_
  obtain⟨au,aE,av,aw,b⟩:=pS b;refine at2 (hi:=(3:Int)) (B:=au) (K:=aE) b rfl (λd=>λ(f,k,g)=>[(0,.ptr 1 0),(1,u cN),(2,u n),(7,.own 80),(8,u c),(9,u d)]) (λd=>λ(f,k,g)=>[(1,.c 73 [aj aW k,u g]),(80,.slice 105 4 (af c1 f) 0 false)]) ?_ ?_ ?_
  .exact c5
  .rintro d a4 ⟨f,k,g⟩ aq I b;rw[av]at b;refine A.seq<|ai [] [] [(16,.d ((d:Int)<(3:Int)))] ?_
   refine atS rfl (decide_eq_true I)<|A.skip ?_
   obtain⟨O,S,b⟩:=cW b;refine A.J (J:=O) (r:=r) (λ(p,m,o)=>[(0,.ptr 1 0),(1,u cN),(2,u n),(7,.own 80),(8,u c),(9,u d)]) (λ(p,m,o)=>[(1,.c 73 [aj aW m,u o]),(80,.slice 105 4 (af c1 p) 0 false)]) ?_ ?_
   .refine A.block ?_;obtain⟨l,aQ,b⟩:=ah b;refine aT [(1,bV [] (g1 aQ) g2)] [16] [(21,.d (0<l.1))] [1] [(1,.cells 73 (cn l.2))] ?_;rcases aC b with⟨y,b⟩|⟨y,b⟩
    .refine aJ y ?_;obtain⟨aX,P,b⟩:=ah b;obtain⟨w,Q,b⟩:=ah b;obtain⟨H,N,b⟩:=ah b;exact bX [(5,bV [] (lS P) mu),(7,bV [] (II Q) RC),(11,dH 375 (ap c1 (bytes:=32) (by decide) N))] [7,21] [(7,.own 375)] [1,80] [(1,.cells 73 (cn w.2)),(375,.slice 105 4 (af c1 H) 0 false)]<|Exists.intro (H,w.2.L,w.2.At) (And.intro b (ct [.b5 375 80] []))
    exact aI y<|A.skip<|aV (f,l.2.L,l.2.At) b
   rintro⟨p,m,o⟩ b;rw[S]at b;exact bu [(1,Z (o5 (by omega) I (by decide)))] [9] [(9,u (d+1:Int))]<|aV (p,m,o) b
  rintro d ⟨f,k,g⟩ aq an b;rw[aw]at b;refine A.seq<|ai [] [] [(16,.d ((d:Int)<(3:Int)))] ?_
  exact atI rfl (xk an)<|A.exit<|bu [(1,Z (o5 (by omega) G (of_decide_eq_true aM)))] [8,9,16] [(8,u (c+1:Int))]<|aV (f,k,g) b
 rintro c ⟨e,h,j⟩ X V b;rw[am]at b;refine A.seq<|ai [] [] [(12,.d ((c:Int)<=cN))] ?_
 refine atI rfl (Bx V)<|A.exit ?_
 obtain⟨W,ao,b⟩:=cW b;refine A.J (J:=W) (r:=r) (λ(F,E,D)=>[(7,.own 80)]) (λ(F,E,D)=>[(1,.c 73 [aj aW E,u D]),(80,.slice 105 4 (af c1 F) 0 false)]) ?_ ?_
 .obtain⟨ar,aH,b⟩:=cW b;refine A.J (J:=ar) (r:=r) (λ(v,s,q)=>[(0,.ptr 1 0),(7,.own 80),(40,.bool v)]) (λ(v,s,q)=>[(1,.c 73 [aj aW s,u q]),(80,.slice 105 4 (af c1 e) 0 false)]) ?_ ?_
  .rcases aC b with⟨z,b⟩|⟨z,b⟩
   .obtain⟨i,M,b⟩:=ah b;exact bX [(2,Z (ax z)),(5,bV [] (px M) oZ)] [1,2,8,12] [(40,.bool i.1)] [1] [(1,.cells 73 (cn i.2))]<|aV (i.1,i.2.L,i.2.At) b
   exact bu [(2,Z (ax z))] [1,2,8,12] [(40,.bool false)]<|aV (false,h,j) b
  rintro⟨v,s,q⟩ b;rw[aH]at b;rcases aC b with⟨x,b⟩|⟨x,b⟩
  .refine aJ x ?_;obtain⟨a1,T,b⟩:=ah b;obtain⟨a0,U,b⟩:=ah b;obtain⟨a3,aF,b⟩:=ah b;obtain⟨C,aD,b⟩:=ah b;obtain⟨L,aG,b⟩:=ah b;exact jP [(3,bV [] (lS T) mu),(6,bV [] (lS U) mu),(9,bV [] (lS aF) mu),(12,bV [] (lS aD) mu),(16,dH 376 (ap c1 (bytes:=32) (by decide) aG))] [(7,.own 376)] [(1,.cells 73 (cn C.2)),(376,.slice 105 4 (af c1 L) 0 false)]<|Exists.intro (L,C.2.L,C.2.At) (And.intro b (ct [.b5 376 80] []))
  exact aI x<|A.skip<|aV (e,s,q) b
 rintro⟨F,E,D⟩ b;rw[ao]at b;refine ai [] [7] [(6,.own 80)]<|A.ret ?_
 obtain rfl:=cw b;exact atv b0 [.bN [80]] rfl (by kernel_rfl)
def Ja{r:Bool}(a:rJ=some r):bB prog 13 [] [] (.bool r):=by
 refine bq func13 rfl rfl ?_;unfold rJ at a;refine ak [] [] []<|ak [(6,.al 405)] [(1,.ptr 405 0)] [(405,.c 41 [.bn true (af bz ([(bk.mk (1:Int) true),(bk.mk (2:Int) true)]:pK)),.bn true (af aD ([(aR.mk (1:Int) (2:Int) (1:Int) (1:Int) (0:Int))]:jC))])] ?_
 obtain⟨h,F,a⟩:=ah a;refine ak [(4,aH (HU F) GY),(8,.al 178)] [(2,.ptr 178 0),(3,u h.2)] [(178,.cells 29 (cK h.1))] ?_;obtain⟨d,v,a⟩:=ah a;refine aT [(1,bV [193,194] (BQ v) A3)] [] [(4,u d.2)] [178] [(178,.c 29 [aj aD d.1.Links,.own 193,.own 194]),(193,.slice 37 5 (af bA d.1.ay) 0 false),(194,.slice 120 3 (af bT d.1.aY) 0 false)] ?_;obtain⟨c,w,a⟩:=ah a;refine atV b0 [.bN [193,194]] [(1,bV [332,333] (ep.at [(193,332),(194,333)] (BQ w)) A3)] [(2,.ptr 178 0),(3,u h.2),(4,u d.2),(5,u c.2)] [(178,.c 29 [aj aD c.1.Links,.own 332,.own 333]),(332,.slice 37 5 (af bA c.1.ay) 0 false),(333,.slice 120 3 (af bT c.1.aY) 0 false)] (by kernel_rfl) ?_;obtain⟨b,t,a⟩:=ah a;refine atV b0 [.bN [332,333]] [(1,aH (HV t) G0)] [(2,.ptr 178 0),(3,u h.2),(4,u d.2),(5,u c.2),(6,u b.2)] [(178,.cells 29 (cK b.1))] (by kernel_rfl)<|A.seq<|atA [(2,.ptr 178 0),(59,.bool ((!decide (h.2=0))||((!decide (d.2=0))||((!decide (c.2=0))||((!decide (b.2=0))||(!decide ((b.1.ay.length:Int)=(2:Int))))))))] [(178,.cells 29 (cK b.1))] (λk=>?_) ?_
 .rcases eY (!decide (h.2=0))with e|e
  .exact ak [(2,Z (ax e)),(19,Z (g0 (q:=((!decide (d.2=0))||((!decide (c.2=0))||((!decide (b.2=0))||(!decide ((b.1.ay.length:Int)=(2:Int))))))) e))] _ _ k
  rcases eY (!decide (d.2=0))with f|f
  .exact ak [(2,Z (ax e)),(6,Z (ax f)),(19,Z ((g0 (q:=((!decide (c.2=0))||((!decide (b.2=0))||(!decide ((b.1.ay.length:Int)=(2:Int)))))) f).trans (eS (q:=((!decide (d.2=0))||((!decide (c.2=0))||((!decide (b.2=0))||(!decide ((b.1.ay.length:Int)=(2:Int))))))) e)))] _ _ k
  rcases eY (!decide (c.2=0))with g|g
  .exact ak [(2,Z (ax e)),(6,Z (ax f)),(10,Z (ax g)),(19,Z (((g0 (q:=((!decide (b.2=0))||(!decide ((b.1.ay.length:Int)=(2:Int))))) g).trans (eS (q:=((!decide (c.2=0))||((!decide (b.2=0))||(!decide ((b.1.ay.length:Int)=(2:Int)))))) f)).trans (eS (q:=((!decide (d.2=0))||((!decide (c.2=0))||((!decide (b.2=0))||(!decide ((b.1.ay.length:Int)=(2:Int))))))) e)))] _ _ k
  rcases eY (!decide (b.2=0))with i|i
  .exact ak [(2,Z (ax e)),(6,Z (ax f)),(10,Z (ax g)),(14,Z (ax i)),(19,Z ((((g0 (q:=!decide ((b.1.ay.length:Int)=(2:Int))) i).trans (eS (q:=((!decide (b.2=0))||(!decide ((b.1.ay.length:Int)=(2:Int))))) g)).trans (eS (q:=((!decide (c.2=0))||((!decide (b.2=0))||(!decide ((b.1.ay.length:Int)=(2:Int)))))) f)).trans (eS (q:=((!decide (d.2=0))||((!decide (c.2=0))||((!decide (b.2=0))||(!decide ((b.1.ay.length:Int)=(2:Int))))))) e)))] _ _ k
  exact ak [(2,Z (ax e)),(6,Z (ax f)),(10,Z (ax g)),(14,Z (ax i)),(17,Z (bl bA b.1.ay)),(19,Z ((((eS (q:=!decide ((b.1.ay.length:Int)=(2:Int))) i).trans (eS (q:=((!decide (b.2=0))||(!decide ((b.1.ay.length:Int)=(2:Int))))) g)).trans (eS (q:=((!decide (c.2=0))||((!decide (b.2=0))||(!decide ((b.1.ay.length:Int)=(2:Int)))))) f)).trans (eS (q:=((!decide (d.2=0))||((!decide (c.2=0))||((!decide (b.2=0))||(!decide ((b.1.ay.length:Int)=(2:Int))))))) e)))] _ _ k
 rcases aC a with⟨n,a⟩|⟨n,a⟩
 .refine aJ n<|ak [] [(0,.bool false)] [] ?_
  cases a;exact A.ret aX
 refine aI n<|A.skip ?_
 obtain⟨G,s,a⟩:=ah a;obtain⟨I,x,a⟩:=ah a;obtain⟨o,y,a⟩:=ah a;refine aT [(2,bh (ix bA s)),(5,aH (HP x) G2),(6,aH (H6 y) G1),(10,.al 406)] [59] [(7,.ptr 406 0),(8,u o.2)] [] [(406,.cells 44 (gW o.1))] ?_;obtain⟨J,C,a⟩:=ah a;obtain⟨l,B,a⟩:=ah a;refine ak [(2,bh (ix bA s)),(5,aH (BX C) A4),(7,aH (Ig B) G3),(11,.al 407)] [(8,u o.2),(9,.ptr 407 0),(10,u l.2)] [(407,.cells 56 (lY l.1))] ?_;rcases aC a with⟨j,a⟩|⟨j,a⟩
 .rcases aC a with⟨m,a⟩|⟨m,a⟩
  .rcases aC a with⟨p,a⟩|⟨p,a⟩
   .obtain⟨H,D,a⟩:=ah a;obtain⟨z,E,a⟩:=ah a;refine ak [(2,Z (ax j)),(6,Z (ax m)),(9,Z (bl fD l.1.Rows)),(12,Z (ax p)),(15,bh (ix fD D)),(19,aH (Jd E) Rt)] [(0,.bool z)] [] ?_;cases a;exact A.ret aX
   refine ak [(2,Z (ax j)),(6,Z (ax m)),(9,Z (bl fD l.1.Rows)),(12,Z (ax p))] [(0,.bool false)] [] ?_;cases a;exact A.ret aX
  refine ak [(2,Z (ax j)),(6,Z (ax m))] [(0,.bool false)] [] ?_;cases a;exact A.ret aX
 refine ak [(2,Z (ax j))] [(0,.bool false)] [] ?_;cases a;exact A.ret aX
def Jb{ab:bH}{cN:Int}{r:aA×Bool×bH}(b:uG ab cN=some r):cp prog 6 [(1,.cells 73 (cn ab))] [.ptr 1 0,u cN] (λa a8=>a=.bP [.agg (cK r.1),.bool r.2.1]/\a8=[(1,.cells 73 (cn r.2.2))]):=by
 refine bq func6 rfl rfl ?_;unfold uG at b;refine ak [(0,.al 18)] [(0,.ptr 1 0),(1,u cN),(4,.ptr 18 0)] [(1,.cells 73 (cn ab)),(18,.c 29 [.az,.az,.az])] ?_;obtain⟨c,cC,b⟩:=ah b;refine aT [(2,bV [24,25] (S0 cC) Ri),(3,.al 28)] [1] [(6,.ptr 28 0)] [1] [(1,.cells 73 (cn c.2)),(24,.slice 79 2 (af bz c.1.aL) 0 false),(25,.slice 101 5 (af aD c.1.Links) 0 false),(28,.c 41 [.own 24,.own 25])] ?_;obtain⟨R,a6,b⟩:=ah b;obtain⟨d,a7,b⟩:=ah b;refine atV b0 [.bN [24,25]] [(4,Z (bl bz c.1.aL)),(5,bV [] (IP a6) Rj),(6,aH (HU a7) GY),(10,.al 21)] [(0,.ptr 1 0),(4,.ptr 18 0),(6,.ptr 28 0),(7,.ptr 21 0),(8,u d.2)] [(1,.cells 73 (cn R.2)),(18,.c 29 [.az,.az,.az]),(24,.slice 79 2 (af bz c.1.aL) (af bz c.1.aL).length true),(25,.slice 101 5 (af aD c.1.Links) (af aD c.1.Links).length true),(28,.c 41 [.own 24,.own 25]),(21,.cells 29 (cK d.1))] (by kernel_rfl)<|A.seq<|ak [] [(0,.ptr 1 0),(4,.ptr 18 0),(6,.ptr 28 0),(7,.ptr 21 0),(8,u d.2),(9,u 0)] [(1,.cells 73 (cn R.2)),(18,.c 29 [.az,.az,.az]),(24,.slice 79 2 (af bz c.1.aL) (af bz c.1.aL).length true),(25,.slice 101 5 (af aD c.1.Links) (af aD c.1.Links).length true),(28,.c 41 [.own 24,.own 25]),(21,.cells 29 (cK d.1))]<|A.block<|aum 6 0 rfl rfl rfl rfl λbi=>?_
 obtain⟨br,bs,bt,bv,b⟩:=cO b;refine atx (l:=c.1.aL) (cD:=0) (B:=br) (K:=bs) b (λj=>λ(w,x,z)=>[(0,.ptr 1 0),(4,.ptr 18 0),(6,.ptr 28 0),(7,.ptr 21 0),(8,u d.2),(9,u j)]) (λj=>λ(w,x,z)=>[(1,.cells 73 (cn R.2)),(18,.c 29 [.az,.az,.az]),(24,.slice 79 2 (af bz c.1.aL) (af bz c.1.aL).length true),(25,.slice 101 5 (af aD c.1.Links) (af aD c.1.Links).length true),(28,.c 41 [.own 24,.own 25]),(21,.c 29 [aj aD w,aj bA x,aj bT z])]) ?_ ?_ ?_
 .exact c5
 .rintro j c3 cG ⟨w,x,z⟩ bp Q b;rw[bt]at b;refine A.seq<|ai [(3,Z (bl bz c.1.aL))] [] [(33,.d ((j:Int)<c.1.aL.length))] ?_
  refine aJ (cT Q)<|A.skip<|A.seq<|A.block ?_
  obtain⟨f,a4,b⟩:=ah b;refine aT [(4,bh (ix bz (b3 Q))),(6,eK 24 0 (ix bz (b3 Q))),(7,bV [207,208] (ep.at [(193,207),(194,208)] (BQ a4)) A3),(11,.al 345)] [33] [(10,.ptr 345 0),(11,u f.2)] [] [(345,.c 29 [aj aD f.1.Links,.own 207,.own 208]),(207,.slice 37 5 (af bA f.1.ay) 0 false),(208,.slice 120 3 (af bT f.1.aY) 0 false)]<|A.seq<|ai [] [11] [(48,.bool (!decide (f.2=0)))] ?_
  rcases aC b with⟨am,b⟩|⟨am,b⟩
  .refine aJ am<|ak [] [(4,.ptr 18 0),(5,.bool false)] [(1,.cells 73 (cn R.2)),(18,.c 29 [aj aD w,aj bA x,aj bT z])] ?_
   cases b;exact A.ret aX
  exact aI am<|A.skip<|bX [] [10,48] [] [21,345] [(21,.c 29 [aj aD f.1.Links,.own 207,.own 208])]<|bu [(1,Z (cQ Q bi))] [9] [(9,u ((j+1:Nat):Int))]<|Exists.intro (f.1.Links,f.1.ay,f.1.aY) (And.intro b (ct [.bN [207,208],.sc 21 [1,18,24,25,28,21]] []))
 rintro j ⟨w,x,z⟩ bp bj b;rw[bv]at b;refine A.seq<|ai [(3,Z (bl bz c.1.aL))] [] [(33,.d ((j:Int)<c.1.aL.length))] ?_
 refine aI (cS bj)<|A.exit<|A.seq ?_
 obtain⟨aU,a3,b⟩:=ah b;refine aT [(1,bV [] (g1 a3) g2)] [9,33] [(12,u aU.1)] [1] [(1,.cells 73 (cn aU.2))]<|A.block ?_
 obtain⟨cv,c1,cy,b⟩:=iK b;refine atN (F:=cv) b (λ(e,i,h,k,E,C)=>[(0,.ptr 1 0),(4,.ptr 18 0),(6,.ptr 28 0),(7,.ptr 21 0),(8,u d.2),(12,u e)]) (λ(e,i,h,k,E,C)=>[(1,.c 73 [aj aW E,u C]),(18,.c 29 [.az,.az,.az]),(24,.slice 79 2 (af bz c.1.aL) (af bz c.1.aL).length true),(25,.slice 101 5 (af aD c.1.Links) (af aD c.1.Links).length true),(28,.c 41 [.own 24,.own 25]),(21,.c 29 [aj aD i,aj bA h,aj bT k])]) ?_ ?_
 .exact c5
 rintro cX ⟨e,i,h,k,E,C⟩ b;rw[cy]at b;refine A.seq<|atA [(0,.ptr 1 0),(4,.ptr 18 0),(6,.ptr 28 0),(7,.ptr 21 0),(8,u d.2),(12,u e),(58,.bool ((decide (0<e))&&(decide (d.2=0))))] [(1,.c 73 [aj aW E,u C]),(18,.c 29 [.az,.az,.az]),(24,.slice 79 2 (af bz c.1.aL) (af bz c.1.aL).length true),(25,.slice 101 5 (af aD c.1.Links) (af aD c.1.Links).length true),(28,.c 41 [.own 24,.own 25]),(21,.c 29 [aj aD i,aj bA h,aj bT k])] (λa0=>?_) ?_
 .rcases eY (decide (0<e))with y|y
  .exact ak [(2,Z (ax y)),(5,Z (jy (q:=decide (d.2=0)) y))] _ _ a0
  exact ak [(2,Z (ax y)),(5,Z (jY (q:=decide (d.2=0)) y))] _ _ a0
 rcases aC b with⟨ae,b⟩|⟨ae,b⟩
 .refine aJ ae<|A.skip ?_
  obtain⟨a5,a9,b⟩:=cW b;refine A.J (J:=a5) (r:=r) (λ(T,S,V,W,U)=>[(0,.ptr 1 0),(4,.ptr 18 0),(6,.ptr 28 0),(7,.ptr 21 0),(8,u d.2),(12,u e)]) (λ(T,S,V,W,U)=>[(1,.c 73 [aj aW T,u S]),(18,.c 29 [.az,.az,.az]),(24,.slice 79 2 (af bz c.1.aL) (af bz c.1.aL).length true),(25,.slice 101 5 (af aD c.1.Links) (af aD c.1.Links).length true),(28,.c 41 [.own 24,.own 25]),(21,.c 29 [aj aD V,aj bA W,aj bT U])]) ?_ ?_
  .refine A.block<|aT [(1,.al 92)] [58] [(13,.ptr 92 0)] [] [(92,.c 29 [aj aD i,aj bA h,aj bT k])] ?_
   obtain⟨bo,bB,b⟩:=cW b;refine A.J (J:=bo) (r:=r) (λ(Y,H,I,N,M,L)=>[(0,.ptr 1 0),(4,.ptr 18 0),(6,.ptr 28 0),(7,.ptr 21 0),(8,u d.2),(12,u e),(13,.ptr 92 0),(14,u Y)]) (λ(Y,H,I,N,M,L)=>[(1,.c 73 [aj aW H,u I]),(18,.c 29 [.az,.az,.az]),(24,.slice 79 2 (af bz c.1.aL) (af bz c.1.aL).length true),(25,.slice 101 5 (af aD c.1.Links) (af aD c.1.Links).length true),(28,.c 41 [.own 24,.own 25]),(21,.c 29 [aj aD i,aj bA h,aj bT k]),(92,.c 29 [aj aD N,aj bA M,aj bT L])]) ?_ ?_
   .obtain⟨g,ba,b⟩:=ah b;refine aT [(1,bV [] (g1 ba) g2)] [] [(63,u g.1)] [1] [(1,.cells 73 (cn g.2))]<|A.block<|ai [] [] [(71,.d (g.1=0))] ?_
    rcases aC b with⟨ao,b⟩|⟨ao,b⟩
    .refine aJ ao ?_;obtain⟨cP,bb,b⟩:=ah b;obtain⟨cJ,bD,b⟩:=ah b;obtain⟨D,bC,b⟩:=ah b;obtain⟨cY,bE,b⟩:=ah b;obtain⟨n,bK,b⟩:=ah b;exact bX [(2,aH (xJ bb) wX),(5,aH (xJ bD) wX),(6,bV [] (at8 (r':=.agg (ki D.1)) (σ3:=[(1,.cells 73 (cn D.2))]) [257,258] (Ip bC) (by kernel_rfl) (by kernel_rfl)) Ra),(7,aH (IA bE) Q9),(9,aH (HR bK) GX)] [63,71] [(14,u n.2)] [1,92] [(1,.cells 73 (cn D.2)),(92,.cells 29 (cK n.1))]<|aV (n.2,D.2.L,D.2.At,n.1.Links,n.1.ay,n.1.aY) b
    refine aI ao<|ai [] [71] [(86,.d (g.1=1))] ?_
    rcases aC b with⟨an,b⟩|⟨an,b⟩
    .refine aJ an ?_;obtain⟨m,bM,b⟩:=ah b;exact bX [(3,aH (HR bM) GX)] [63,86] [(14,u m.2)] [92] [(92,.cells 29 (cK m.1))]<|aV (m.2,g.2.L,g.2.At,m.1.Links,m.1.ay,m.1.aY) b
    refine aI an<|ai [] [86] [(95,.d (g.1=2))] ?_
    rcases aC b with⟨ar,b⟩|⟨ar,b⟩
    .refine aJ ar ?_;obtain⟨aE,b1,b⟩:=ah b;obtain⟨o,b2,b⟩:=ah b;exact bX [(3,bV [] (HS b1) GZ),(4,aH (Ta b2) Rb)] [63,95] [(14,u o.2)] [1,92] [(1,.cells 73 (cn aE.2)),(92,.cells 29 (cK o.1))]<|aV (o.2,aE.2.L,aE.2.At,o.1.Links,o.1.ay,o.1.aY) b
    refine aI ar<|ai [] [95] [(105,.d (g.1=3))] ?_
    rcases aC b with⟨au,b⟩|⟨au,b⟩
    .refine aJ au ?_;obtain⟨aM,ca,b⟩:=ah b;obtain⟨p,ce,b⟩:=ah b;exact bX [(3,bV [] (HS ca) GZ),(4,aH (IE ce) Rc)] [63,105] [(14,u p.2)] [1,92] [(1,.cells 73 (cn aM.2)),(92,.cells 29 (cK p.1))]<|aV (p.2,aM.2.L,aM.2.At,p.1.Links,p.1.ay,p.1.aY) b
    refine aI au<|ai [] [63,105] [(115,.d (g.1=4))] ?_
    rcases aC b with⟨aq,b⟩|⟨aq,b⟩
    .refine aJ aq ?_;obtain⟨aG,ci,b⟩:=ah b;obtain⟨s,cj,b⟩:=ah b;exact bX [(2,bV [] (g1 ci) g2),(3,aH (IF cj) Re)] [115] [(14,u s.2)] [1,92] [(1,.cells 73 (cn aG.2)),(92,.cells 29 (cK s.1))]<|aV (s.2,aG.2.L,aG.2.At,s.1.Links,s.1.ay,s.1.aY) b
    refine aI aq ?_;obtain⟨aQ,cm,b⟩:=ah b;obtain⟨v,cd,b⟩:=ah b;exact bX [(2,bV [] (g1 cm) g2),(3,aH (Tb cd) Rf)] [115] [(14,u v.2)] [1,92] [(1,.cells 73 (cn aQ.2)),(92,.cells 29 (cK v.1))]<|aV (v.2,aQ.2.L,aQ.2.At,v.1.Links,v.1.ay,v.1.aY) b
   rintro⟨Y,H,I,N,M,L⟩ b;rw[bB]at b;refine ai [] [14] [(125,.d (Y=0))] ?_;rcases aC b with⟨aw,b⟩|⟨aw,b⟩
   .exact aJ aw<|bX [] [13,125] [] [21,92] [(21,.c 29 [aj aD N,aj bA M,aj bT L])]<|aV (H,I,N,M,L) b
   exact aI aw<|A.skip<|aV (H,I,i,h,k) b
  rintro⟨T,S,V,W,U⟩ b;rw[a9]at b;exact bu [] [12] [(12,u (a1 (e-1)))]<|aV (a1 (e-1),V,W,U,T,S) b
 refine aI ae<|A.exit<|A.seq ?_
 obtain⟨bY,b4,b⟩:=ah b;refine aT [(2,Z (bl bA h)),(3,aH (Iw b4) Rh)] [0,6,12,58] [(15,u bY)] [24,25,28] []<|A.block ?_
 obtain⟨cw,c2,cA,b⟩:=iK b;refine atN (F:=cw) b (λ(t,G,O,P)=>[(4,.ptr 18 0),(7,.ptr 21 0),(8,u d.2),(15,u t)]) (λ(t,G,O,P)=>[(1,.c 73 [aj aW E,u C]),(18,.c 29 [.az,.az,.az]),(21,.c 29 [aj aD G,aj bA O,aj bT P])]) ?_ ?_
 .exact c5
 rintro cZ ⟨t,G,O,P⟩ b;rw[cA]at b;refine A.seq<|ai [] [] [(132,.d (0<t))] ?_
 rcases aC b with⟨av,b⟩|⟨av,b⟩
 .refine aJ av<|A.skip<|A.seq<|A.block ?_
  obtain⟨X,b7,b⟩:=ah b;exact bX [(1,aH (HV b7) G0)] [132] [] [21] [(21,.cells 29 (cK X.1))]<|bu [] [15] [(15,u (a1 (t-1)))]<|aV (a1 (t-1),X.1.Links,X.1.ay,X.1.aY) b
 refine aI av<|A.exit ?_
 rcases aC b with⟨aF,b⟩|⟨aF,b⟩
 .obtain⟨cu,b8,b⟩:=ah b;refine aT [(3,Z (ax aF)),(5,aH (S8 b8) Rg)] [7,8,15,132] [(5,.bool cu)] [18,21] [(18,.c 29 [aj aD G,aj bA O,aj bT P])] ?_;cases b;exact A.ret aX
 refine aT [(3,Z (ax aF))] [7,8,15,132] [(5,.bool false)] [18,21] [(18,.c 29 [aj aD G,aj bA O,aj bT P])] ?_;cases b;exact A.ret aX
def I1{f:aA}{j:Int}{n:Int}{r:aK×eE×(sV)×Bool}(a:uH f j n=some r):bB prog 8 [] [.agg (cK f),u j,u n] (.bP [.agg (bE r.1),.agg (gW r.2.1),aj gm r.2.2.1,.bool r.2.2.2]):=by
 refine bq func8 rfl rfl ?_;unfold uH at a;refine ak [(0,.al 58),(1,.al 47),(2,.al 48)] [(1,u j),(2,u n),(3,.ptr 58 0),(6,.ptr 47 0),(7,.ptr 48 0)] [(58,.cells 29 (cK f)),(47,.c 41 [.az,.az]),(48,.c 44 [u 0,u 0,.az])] ?_;obtain⟨p,aw,a⟩:=ah a;refine aT [(1,aH (xJ aw) wX),(2,.al 60)] [] [(10,.ptr 60 0)] [] [(60,.cells 41 (bE p))]<|ai [] [] [(11,.az)]<|aT [(0,.al 71)] [] [(12,.ptr 71 0)] [] [(71,.c 41 [.az,.az])]<|aT [(0,.al 75)] [] [(13,.ptr 75 0)] [] [(75,.c 44 [u 0,u 0,.az])]<|A.seq<|ai [] [] [(14,u 0)]<|A.block<|atM 3 1 rfl rfl rfl λab=>?_
 obtain⟨ao,aq,ar,au,a⟩:=cO a;refine atx (l:=f.ay) (cD:=0) (B:=ao) (K:=aq) a (λb=>λ(k,d,e,g,c,h)=>[(1,u j),(2,u n),(3,.ptr 58 0),(6,.ptr 47 0),(7,.ptr 48 0),(10,.ptr 60 0),(11,.own 82),(12,.ptr 71 0),(13,.ptr 75 0),(14,u b)]) (λb=>λ(k,d,e,g,c,h)=>[(58,.cells 29 (cK f)),(47,.c 41 [.az,.az]),(48,.c 44 [u 0,u 0,.az]),(60,.cells 41 (bE p)),(71,.c 41 [aj bz d,aj aD e]),(75,.c 44 [u g,u c,aj eu h]),(82,.slice 56 4 (af gm k) 0 false)]) ?_ ?_ ?_
 .exact ct [.ad 11 82 56 4,.sc 71 [58,47,48,60,71,75,82],.sc 75 [58,47,48,60,71,75,82]] []
 .rintro b N aF ⟨k,d,e,g,c,h⟩ an H a;rw[ar]at a;refine A.seq<|ai [(3,Z (bl bA f.ay))] [] [(27,.d ((b:Int)<f.ay.length))] ?_
  refine aJ (cT H)<|A.skip ?_
  obtain⟨S,W,a⟩:=cW a;refine A.J (J:=S) (r:=r) (λ(t,v,x,w,z,y)=>[(1,u j),(2,u n),(3,.ptr 58 0),(6,.ptr 47 0),(7,.ptr 48 0),(10,.ptr 60 0),(11,.own 82),(12,.ptr 71 0),(13,.ptr 75 0),(14,u b)]) (λ(t,v,x,w,z,y)=>[(58,.cells 29 (cK f)),(47,.c 41 [.az,.az]),(48,.c 44 [u 0,u 0,.az]),(60,.cells 41 (bE p)),(71,.c 41 [aj bz v,aj aD x]),(75,.c 44 [u w,u z,aj eu y]),(82,.slice 56 4 (af gm t) 0 false)]) ?_ ?_
  .refine A.block<|aT [(3,bh (ix bA (b3 H))),(5,.al 189)] [27] [(15,.ptr 189 0)] [] [(189,.cells 37 (ir N))] ?_
   refine A.seq ?_;obtain⟨V,T,a⟩:=ah a;refine ai [(4,aH (Io T) Rm)] [] [(40,.bool (!V))] ?_;rcases aC a with⟨L,a⟩|⟨L,a⟩
   .exact aJ L<|A.exit<|aV (k,d,e,g,c,h) a
   refine aI L<|A.skip ?_
   obtain⟨o,U,a⟩:=ah a;refine aT [(4,aH (BX U) A4),(5,.al 217)] [40] [(16,.ptr 217 0)] [] [(217,.cells 41 (bE o))] ?_;obtain⟨aE,R,a⟩:=ah a;obtain⟨i,Q,a⟩:=ah a;refine aT [(4,aH (HP R) G2),(6,aH (H6 Q) G1),(10,.al 236)] [] [(17,.ptr 236 0),(18,u i.2)] [] [(236,.cells 44 (gW i.1))] ?_;obtain⟨m,X,a⟩:=ah a;refine aT [(4,aH (Ig X) G3),(8,.al 218)] [] [(19,.ptr 218 0),(20,u m.2)] [] [(218,.cells 56 (lY m.1))]<|A.seq<|atA [(1,u j),(2,u n),(3,.ptr 58 0),(6,.ptr 47 0),(7,.ptr 48 0),(10,.ptr 60 0),(11,.own 82),(12,.ptr 71 0),(13,.ptr 75 0),(14,u b),(15,.ptr 189 0),(16,.ptr 217 0),(17,.ptr 236 0),(19,.ptr 218 0),(69,.bool ((!decide (i.2=0))||(!decide (m.2=0))))] [(58,.cells 29 (cK f)),(47,.c 41 [.az,.az]),(48,.c 44 [u 0,u 0,.az]),(60,.cells 41 (bE p)),(71,.c 41 [aj bz d,aj aD e]),(75,.c 44 [u g,u c,aj eu h]),(82,.slice 56 4 (af gm k) 0 false),(189,.cells 37 (ir N)),(217,.cells 41 (bE o)),(236,.cells 44 (gW i.1)),(218,.cells 56 (lY m.1))] (λP=>?_) ?_
   .rcases eY (!decide (i.2=0))with s|s
    .exact ak [(2,Z (ax s)),(5,Z (g0 (q:=!decide (m.2=0)) s))] _ _ P
    exact ak [(2,Z (ax s)),(5,Z (eS (q:=!decide (m.2=0)) s))] _ _ P
   rcases aC a with⟨I,a⟩|⟨I,a⟩
   .refine aJ I<|ak [] [(6,.ptr 47 0),(7,.ptr 48 0),(8,.az),(9,.bool false)] [(47,.c 41 [aj bz d,aj aD e]),(48,.c 44 [u g,u c,aj eu h])] ?_
    cases a;exact A.ret aX
   refine aI I<|A.skip ?_
   obtain⟨am,av,a⟩:=cW a;refine A.J (J:=am) (r:=r) (λ(D,E,C,F,G)=>[(1,u j),(2,u n),(3,.ptr 58 0),(6,.ptr 47 0),(7,.ptr 48 0),(10,.ptr 60 0),(11,.own 82),(12,.ptr 71 0),(13,.ptr 75 0),(14,u b),(19,.ptr 218 0)]) (λ(D,E,C,F,G)=>[(58,.cells 29 (cK f)),(47,.c 41 [.az,.az]),(48,.c 44 [u 0,u 0,.az]),(60,.cells 41 (bE p)),(71,.c 41 [aj bz D,aj aD E]),(75,.c 44 [u C,u F,aj eu G]),(82,.slice 56 4 (af gm k) 0 false),(218,.cells 56 (lY m.1))]) ?_ ?_
   .refine aT [] [15,69] [(75,.d (N.Router=j))] [189] [] ?_;rcases aC a with⟨M,a⟩|⟨M,a⟩
    .exact aJ M<|bX [] [16,17,75] [] [71,75,217,236] [(71,.cells 41 (bE o)),(75,.cells 44 (gW i.1))]<|aV (o.aL,o.Links,i.1.cg,i.1.Length,i.1.c9) a
    exact aI M<|A.skip<|aV (d,e,g,c,h) a
   rintro⟨D,E,C,F,G⟩ a;rw[av]at a;obtain⟨O,Y,a⟩:=ah a;exact bX [(3,dH 389 (ap gm (bytes:=48) (by decide) Y))] [11,19] [(11,.own 389)] [82,218] [(389,.slice 56 4 (af gm O) 0 false)]<|Exists.intro (O,D,E,C,F,G) (And.intro a (ct [.b5 389 82] []))
  rintro⟨t,v,x,w,z,y⟩ a;rw[W]at a;exact bu [(1,Z (cQ H ab))] [14] [(14,u ((b+1:Nat):Int))]<|aV (t,v,x,w,z,y) a
 rintro b ⟨k,d,e,g,c,h⟩ an ae a;rw[au]at a;refine A.seq<|ai [(3,Z (bl bA f.ay))] [] [(27,.d ((b:Int)<f.ay.length))] ?_
 refine aI (cS ae)<|A.exit<|aT [] [1,2,3,10,11,12,13,14,27] [(8,.own 82),(9,.bool true)] [58,47,48,60,71,75] [(47,.c 41 [aj bz d,aj aD e]),(48,.c 44 [u g,u c,aj eu h])]<|A.ret ?_
 obtain rfl:=cw a;exact atv b0 [.bN [82]] rfl (by kernel_rfl)
end
section
open Go
set_option maxRecDepth 100000
set_option linter.all false
noncomputable section
def x4(t:bR):dK:=
 aa (vn t) λ(i:bH)=>aa (uG i (4:Int)) λ(a:aA×Bool×bH)=>bif ((!a.2.1)||(decide ((a.1.ay.length:Int)=(0:Int))))then some false else aa (gr a.2.2 (a.1.ay.length:Int)) λ(g:Int×bH)=>aa (b4 a.1.ay g.1) λ(e:a2)=>aa (uH a.1 e.Router (0:Int)) λ(b:aK×eE×(sV)×Bool)=>aa (pO b.1 b.2.1) λ(d:(sV)×Int)=>jn (λ(f:Bool)=>bif f then some false else bL b.2.2.1 0 (λ(k:Int) (q:dh) (h:Unit->Option _) ()=>aa (b4 d.1 (k:Int)) λ(l:dh)=>aa (rN q l) λ(n:Bool)=>bif !n then some false else h ()) (λ(j:Unit)=>match j with|()=>aa (rJ) λ(p:Bool)=>some p) ()) λc=>(bif !b.2.2.2 then c true else(bif !decide (d.2=0)then c true else(bif !decide ((b.2.2.1.length:Int)=(d.1.length:Int))then c true else aa (nX a.1) λ(m:aK)=>aa (pJ m e.Router) λ(o:(bR))=>c (!decide ((b.1.aL.length:Int)=(o.length:Int))))))
end
end
section
open Go Go.Proofs.Tryz
set_option maxRecDepth 100000
set_option linter.all false
def IQ{t:bR}{r:Bool}(a:x4 t=some r):bB prog 3 [] [aj aW t] (.bool r):=by
 refine bq func3 rfl rfl ?_;unfold x4 at a;refine ak [] [(0,aj aW t)] [] ?_;obtain⟨C,W,a⟩:=ah a;refine ak [(1,bV [1] (JN W) Rq)] [(3,.ptr 1 0)] [(1,.cells 73 (cn C))] ?_;obtain⟨c,z,a⟩:=ah a;refine aT [(1,bV [] (Jb z) Rv),(5,.al 204)] [] [(4,.ptr 204 0),(5,.bool c.2.1)] [1] [(1,.cells 73 (cn c.2.2)),(204,.cells 29 (cK c.1))]<|A.seq<|atA [(3,.ptr 1 0),(4,.ptr 204 0),(28,.bool ((!c.2.1)||(decide ((c.1.ay.length:Int)=(0:Int)))))] [(1,.cells 73 (cn c.2.2)),(204,.cells 29 (cK c.1))] (λs=>?_) ?_
 .rcases eY (!c.2.1)with g|g
  .exact ak [(2,Z (ax g)),(7,Z (g0 (q:=decide ((c.1.ay.length:Int)=(0:Int))) g))] _ _ s
  exact ak [(2,Z (ax g)),(5,Z (bl bA c.1.ay)),(7,Z (eS (q:=decide ((c.1.ay.length:Int)=(0:Int))) g))] _ _ s
 rcases aC a with⟨k,a⟩|⟨k,a⟩
 .refine aJ k<|ak [] [(2,.bool false)] [] ?_
  cases a;exact A.ret aX
 refine aI k<|A.skip ?_
 obtain⟨X,D,a⟩:=ah a;obtain⟨y,w,a⟩:=ah a;refine aT [(5,Z (bl bA c.1.ay)),(6,bV [] (g1 D) g2),(7,bh (ix bA w))] [3,28] [(6,u y.Router)] [1] [] ?_;obtain⟨b,v,a⟩:=ah a;refine aT [(2,aH (I1 v) Rz),(8,.al 320),(9,.al 431)] [] [(7,.ptr 320 0),(8,.ptr 431 0),(9,aj gm b.2.2.1),(10,.bool b.2.2.2)] [] [(320,.cells 41 (bE b.1)),(431,.cells 44 (gW b.2.1))] ?_;obtain⟨e,F,a⟩:=ah a;refine aT [(2,aH (Ji F) RD)] [8] [(11,aj gm e.1),(12,u e.2)] [431] []<|A.seq ?_
 obtain⟨x,E,a⟩:=cW a;refine A.J (J:=x) (r:=r) (λi=>[(9,aj gm b.2.2.1),(11,aj gm e.1),(76,.bool i)]) (λi=>[]) ?_ ?_
 .rcases aC a with⟨f,a⟩|⟨f,a⟩
  .exact bX [(2,Z (ax f))] [4,6,7,10,12] [(76,.bool true)] [204,320] []<|aV true a
  rcases aC a with⟨h,a⟩|⟨h,a⟩
  .exact bX [(2,Z (ax f)),(6,Z (ax h))] [4,6,7,10,12] [(76,.bool true)] [204,320] []<|aV true a
  rcases aC a with⟨m,a⟩|⟨m,a⟩
  .exact bX [(2,Z (ax f)),(6,Z (ax h)),(8,Z (bl gm b.2.2.1)),(10,Z (bl gm e.1)),(13,Z (ax m))] [4,6,7,10,12] [(76,.bool true)] [204,320] []<|aV true a
  obtain⟨ae,G,a⟩:=ah a;obtain⟨n,T,a⟩:=ah a;exact bX [(2,Z (ax f)),(6,Z (ax h)),(8,Z (bl gm b.2.2.1)),(10,Z (bl gm e.1)),(13,Z (ax m)),(16,Z (bl bz b.1.aL)),(18,aH (xJ G) wX),(20,aH (Ia T) GW),(21,Z (bl aW n))] [4,6,7,10,12] [(76,.bool (!decide ((b.1.aL.length:Int)=(n.length:Int))))] [204,320] []<|aV (!decide ((b.1.aL.length:Int)=(n.length:Int))) a
 rintro i a;rw[E]at a;rcases aC a with⟨o,a⟩|⟨o,a⟩
 .refine aJ o<|ak [] [(2,.bool false)] [] ?_
  cases a;exact A.ret aX
 refine aI o<|A.skip<|A.seq<|ai [] [76] [(13,u 0)]<|A.block<|atz 9 rfl λH=>?_
 obtain⟨M,N,O,P,a⟩:=cO a;refine atx (l:=b.2.2.1) (cD:=0) (B:=M) (K:=N) a (λd=>λ()=>[(9,aj gm b.2.2.1),(11,aj gm e.1),(13,u d)]) (λd=>λ()=>[]) ?_ ?_ ?_
 .exact c5
 .rintro d af Y ⟨⟩ L j a;rw[O]at a;refine A.seq<|ai [(2,Z (bl gm b.2.2.1))] [] [(80,.d ((d:Int)<b.2.2.1.length))] ?_
  refine aJ (cT j)<|A.skip<|A.seq<|A.block ?_
  obtain⟨ab,S,a⟩:=ah a;obtain⟨Q,U,a⟩:=ah a;refine ai [(2,bh (ix gm (b3 j))),(6,bh (ix gm S)),(8,aH (Jg U) Q7)] [80] [(92,.bool (!Q))] ?_;rcases aC a with⟨p,a⟩|⟨p,a⟩
  .refine aJ p<|ak [] [(2,.bool false)] [] ?_
   cases a;exact A.ret aX
  exact aI p<|A.skip<|bu [(1,Z (cQ j H))] [13,92] [(13,u ((d+1:Nat):Int))]<|aV () a
 rintro d ⟨⟩ L I a;rw[P]at a;refine A.seq<|ai [(2,Z (bl gm b.2.2.1))] [] [(80,.d ((d:Int)<b.2.2.1.length))] ?_
 refine aI (cS I)<|A.exit ?_
 obtain⟨R,V,a⟩:=ah a;refine ak [(0,aH (Ja V) Q8)] [(2,.bool R)] [] ?_;cases a;exact A.ret aX
end
end Go.Proofs.YteghoodgfjhjkaaGreat
