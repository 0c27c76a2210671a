/- A part of the proof; the last text says of what. No condition but those that stand in each. -/
import Derived.Test.YtmnbolcmepihlaaGreatZ5
import Derived.Test.YtmnbolcmepihlaaGreatZ4
import Derived.Test.YtmnbolcmepihlaaGreatZ2
namespace Go.Proofs.YtmnbolcmepihlaaGreat
section
open Go Go.Proofs.Tryz
set_option maxRecDepth 100000
set_option linter.all false
def Br{t:aK}{r:(kZ)}(b:oM t=some r):cI prog 64 [] [.agg (aZ t)] (λa i=>a=.own 37/\i=[(37,.slice 175 3 (ag cz r) 0 false)]):=by
 refine bT func64 rfl rfl ?_;unfold oM at b;refine aG [(0,.al 187)] [(1,.ptr 187 0)] [(187,.cells 28 (aZ t))]<|ak [] [] [(3,.bC)]<|A.seq<|bD [(2,ai (bu cC t.Links))] [1] [(7,aD cC t.Links),(8,u t.Links.length),(9,u 0)] [187] []<|A.block<|auX 7 rfl λp=>?_
 obtain⟨m,n,j,k,b⟩:=cZ b;refine auV (l:=t.Links) (cD:=0) (B:=m) (K:=n) b (λc=>λe=>[(3,.own 600064003),(7,aD cC t.Links),(8,u t.Links.length),(9,u c)]) (λc=>λe=>[(600064003,.slice 175 3 (ag cz e) 0 false)]) ?_ ?_ ?_
 .exact dJ [.ad 3 600064003 175 3] []
 .rintro c s w e o f b;rw[j]at b;refine ak [] [] [(10,.d ((c:Int)<t.Links.length))]<|A.seq<|aT (cU f)<|A.skip<|A.seq<|A.block<|bD [(0,bh (ix cC (cf f))),(2,.al 239)] [10] [(5,.ptr 239 0)] [] [(239,.cells 62 (de s))] ?_
  obtain⟨g,v,b⟩:=aB b;exact c6 [(18,e9 174 (ap cz (bytes:=24) (by decide) v))] [3,5] [(3,.own 174)] [600064003,239] [(174,.slice 175 3 (ag cz g) 0 false)]<|bn [(0,ai (cK f p))] [9] [(9,u ((c+1:Nat):Int))]<|Exists.intro g (And.intro b (dJ [.eC 174 600064003] []))
 rintro c e o ch b;rw[k]at b;refine ak [] [] [(10,.d ((c:Int)<t.Links.length))]<|A.seq<|aS (cT ch)<|A.exit ?_
 obtain⟨q,h,b⟩:=aB b;refine aG [(1,cS [] (Ko (d:=600064003) (T:=175) h) PD)] [(3,.own 600064003)] [(600064003,.slice 175 3 (ag cz q) 0 false)]<|ak [] [3] [(2,.own 600064003)]<|A.ret ?_
 obtain rfl:=e0 b;exact auW aY [.eC 600064003 37] rfl (by kernel_rfl)
variable {r:Bool}
def vT{l:bH}(a:oo l=some r):bY prog 74 [] [aD af l] (.bool r):=by
 refine bT func74 rfl rfl ?_;unfold oo at a;refine aG [] [(0,aD af l)] []<|A.seq<|ak [] [] [(3,u 1)]<|A.block<|auX 0 rfl λj=>?_
 obtain⟨g,h,e,f,a⟩:=cZ a;refine auV (l:=l) (cD:=1) (B:=g) (K:=h) a (λb=>λ()=>[(0,aD af l),(3,u b)]) (λb=>λ()=>[]) ?_ ?_ ?_
 .exact cq
 .rintro b m o ⟨⟩ i c a;rw[e]at a;refine A.seq<|ak [(2,ai (bu af l))] [] [(7,.d ((b:Int)<l.length))] ?_
  refine aT (cU c)<|A.skip<|A.seq<|A.block ?_
  obtain⟨k,n,a⟩:=aB a;refine ak [(3,bh (ix af n)),(7,bh (ix af (cf c)))] [7] [(19,.d (m<=k))] ?_;rcases aV a with⟨d,a⟩|⟨d,a⟩
  .refine aT d<|aG [] [(2,.bool false)] [] ?_
   cases a;exact A.ret bk
  exact aS d<|A.skip<|bn [(1,ai (cK c j))] [3,19] [(3,u ((b+1:Nat):Int))]<|aX () a
 rintro b ⟨⟩ i ch a;rw[f]at a;refine A.seq<|ak [(2,ai (bu af l))] [] [(7,.d ((b:Int)<l.length))] ?_
 refine aS (cT ch)<|A.exit<|aG [] [(2,.bool true)] [] ?_
 cases a;exact A.ret bk
variable {SI:bH}{root:Int}{t:aK}
def wD{r:Int}(a:ni t root SI=some r):bY prog 62 [] [.agg (aZ t),u root,aD af SI] (u r):=by
 refine bT func62 rfl rfl ?_;unfold ni at a;refine aG [(0,.al 96)] [(1,u root),(2,aD af SI),(3,.ptr 96 0)] [(96,.cells 28 (aZ t))]<|A.seq ?_
 obtain⟨n,y,a⟩:=aB a;refine ak [(1,a1 (v1 y) ve)] [] [(11,.bool (!decide (n=0)))] ?_;rcases aV a with⟨g,a⟩|⟨g,a⟩
 .refine aT g<|aG [] [(6,u 1)] [] ?_
  cases a;exact A.ret bk
 refine aS g<|A.skip<|A.seq ?_
 obtain⟨j,h,a⟩:=aB a;refine ak [(1,a1 (vT h) vf)] [11] [(14,.bool (!j))] ?_;rcases aV a with⟨f,a⟩|⟨f,a⟩
 .refine aT f<|aG [] [(6,u 25)] [] ?_
  cases a;exact A.ret bk
 refine aS f<|A.skip<|A.seq ?_
 obtain⟨b,m,a⟩:=aB a;refine bD [(1,.al 62016),(3,e9 114 (ap af (bytes:=8) (by decide) m)),(4,ai (bu af b))] [1,2,14] [(18,.own 114),(19,u b.length),(20,u 0)] [] [(114,.slice 3 1 (ag af b) 0 false)]<|A.block<|avp 18 rfl rfl λw=>?_
 obtain⟨q,s,o,p,a⟩:=cZ a;refine auV (l:=b) (cD:=0) (B:=q) (K:=s) a (λc=>λ()=>[(3,.ptr 96 0),(18,.own 114),(19,u b.length),(20,u c)]) (λc=>λ()=>[(96,.cells 28 (aZ t)),(114,.slice 3 1 (ag af b) 0 false)]) ?_ ?_ ?_
 .exact cq
 .rintro c x z ⟨⟩ v d a;rw[o]at a;refine ak [] [] [(21,.d ((c:Int)<b.length))]<|A.seq<|aT (cU d)<|A.skip<|A.seq<|A.block<|ak [(0,bh (ix af (cf d))),(1,dX 114 0 (ix af (cf d)))] [21] [(8,u x)] ?_
  obtain⟨k,i,a⟩:=aB a;refine ak [(2,a1 (Ba i) Aq)] [8] [(27,.bool (!k))] ?_;rcases aV a with⟨e,a⟩|⟨e,a⟩
  .refine aT e<|aG [] [(6,u 4)] [] ?_
   cases a;exact A.ret bk
  exact aS e<|A.skip<|bn [(0,ai (cK d w))] [20,27] [(20,u ((c+1:Nat):Int))]<|aX () a
 rintro c ⟨⟩ v ch a;rw[p]at a;refine ak [] [] [(21,.d ((c:Int)<b.length))]<|A.seq<|aS (cT ch)<|A.exit<|aG [] [(6,u 0)] [] ?_
 cases a;exact A.ret bk
variable {Ub:b0}
def vU{r:Int}(a:oq t Ub SI=some r):bY prog 20 [] [.agg (aZ t),.agg (c8 Ub),aD af SI] (u r):=by
 refine bT func20 rfl rfl ?_;unfold oq at a;refine aG [(0,.al 53),(1,.al 49)] [(2,aD af SI),(3,.ptr 53 0),(4,.ptr 49 0)] [(53,.cells 28 (aZ t)),(49,.cells 36 (c8 Ub))]<|A.seq ?_
 obtain⟨C,aq,a⟩:=aB a;refine ak [(1,a1 (v1 aq) ve)] [] [(19,.bool (!decide (C=0)))] ?_;rcases aV a with⟨j,a⟩|⟨j,a⟩
 .refine aT j<|aG [] [(6,u 1)] [] ?_
  cases a;exact A.ret bk
 refine aS j<|A.skip<|A.seq ?_
 obtain⟨h,v,a⟩:=aB a;refine ak [(1,a1 (GV v) Gx)] [19] [(7,u h)]<|ak [] [] [(23,.bool (!decide (h=0)))] ?_
 rcases aV a with⟨i,a⟩|⟨i,a⟩
 .refine aT i<|aG [] [(6,u h)] [] ?_
  cases a;exact A.ret bk
 refine aS i<|A.skip<|A.seq ?_
 obtain⟨b,z,a⟩:=aB a;refine bD [(2,.al 20027),(4,e9 113 (ap af (bytes:=8) (by decide) z)),(5,ai (bu af b))] [7,23] [(29,.own 113),(30,u b.length),(31,u 0)] [] [(113,.slice 3 1 (ag af b) 0 false)]<|A.block<|avp 29 rfl rfl λI=>?_
 obtain⟨F,G,D,E,a⟩:=cZ a;refine auV (l:=b) (cD:=0) (B:=F) (K:=G) a (λd=>λ()=>[(2,aD af SI),(3,.ptr 53 0),(4,.ptr 49 0),(29,.own 113),(30,u b.length),(31,u d)]) (λd=>λ()=>[(53,.cells 28 (aZ t)),(49,.cells 36 (c8 Ub)),(113,.slice 3 1 (ag af b) 0 false)]) ?_ ?_ ?_
 .exact cq
 .rintro d an ar ⟨⟩ H f a;rw[D]at a;refine ak [] [] [(32,.d ((d:Int)<b.length))]<|A.seq<|aT (cU f)<|A.skip<|A.seq<|A.block<|ak [(0,bh (ix af (cf f))),(1,dX 113 0 (ix af (cf f)))] [32] [(9,u an)] ?_
  obtain⟨x,w,a⟩:=aB a;refine ak [(2,a1 (Ba w) Aq)] [9] [(38,.bool (!x))] ?_;rcases aV a with⟨g,a⟩|⟨g,a⟩
  .refine aT g<|aG [] [(6,u 4)] [] ?_
   cases a;exact A.ret bk
  exact aS g<|A.skip<|bn [(0,ai (cK f I))] [31,38] [(31,u ((d+1:Nat):Int))]<|aX () a
 rintro d ⟨⟩ H ch a;rw[E]at a;refine ak [] [] [(32,.d ((d:Int)<b.length))]<|A.seq<|aS (cT ch)<|A.exit<|A.seq<|bD [(2,ai (bu bl Ub.Links))] [29,30,31,32] [(41,aD bl Ub.Links),(42,u Ub.Links.length),(43,u 0)] [113] []<|A.block<|auX 41 rfl λL=>?_
 obtain⟨Q,V,R,S,a⟩:=cZ a;refine auV (l:=Ub.Links) (cD:=0) (B:=Q) (K:=V) a (λc=>λ()=>[(2,aD af SI),(3,.ptr 53 0),(4,.ptr 49 0),(41,aD bl Ub.Links),(42,u Ub.Links.length),(43,u c)]) (λc=>λ()=>[(53,.cells 28 (aZ t)),(49,.cells 36 (c8 Ub))]) ?_ ?_ ?_
 .exact cq
 .rintro c ao aw ⟨⟩ X m a;rw[R]at a;refine ak [] [] [(44,.d ((c:Int)<Ub.Links.length))]<|A.seq<|aT (cU m)<|A.skip<|A.seq<|A.block<|bD [(0,bh (ix bl (cf m))),(2,.al 230)] [44] [(11,.ptr 230 0)] [] [(230,.cells 84 (ec ao))] ?_
  obtain⟨s,y,a⟩:=aB a;refine bD [(5,a1 (G9 y) Gw)] [11] [(13,.bool s.2)] [230] []<|ak [] [13] [(57,.bool (!s.2))] ?_
  rcases aV a with⟨n,a⟩|⟨n,a⟩
  .refine aT n<|aG [] [(6,u 4)] [] ?_
   cases a;exact A.ret bk
  exact aS n<|A.skip<|bn [(0,ai (cK m L))] [43,57] [(43,u ((c+1:Nat):Int))]<|aX () a
 rintro c ⟨⟩ X W a;rw[S]at a;refine ak [] [] [(44,.d ((c:Int)<Ub.Links.length))]<|A.seq<|aS (cT W)<|A.exit<|A.seq ?_
 obtain⟨O,N,a⟩:=aB a;refine bD [(1,a1 (vT N) vf)] [3,41,42,43,44] [(61,.bool (!O))] [53] [] ?_;rcases aV a with⟨k,a⟩|⟨k,a⟩
 .refine aT k<|aG [] [(6,u 25)] [] ?_
  cases a;exact A.ret bk
 refine aS k<|A.skip ?_
 obtain⟨q,J,a⟩:=aB a;refine bD [(1,a1 (RB J) QA)] [4,61] [(14,aD af q)] [49] []<|A.seq<|ak [(1,ai (bu af SI))] [2] [(64,aD af SI),(65,u SI.length),(66,u 0)]<|A.block<|auX 64 rfl λZ=>?_
 obtain⟨aa,ab,ae,am,a⟩:=cZ a;refine auV (l:=SI) (cD:=0) (B:=aa) (K:=ab) a (λe=>λ()=>[(14,aD af q),(64,aD af SI),(65,u SI.length),(66,u e)]) (λe=>λ()=>[]) ?_ ?_ ?_
 .exact cq
 .rintro e M ax ⟨⟩ Y p a;rw[ae]at a;refine ak [] [] [(67,.d ((e:Int)<SI.length))]<|A.seq<|aT (cU p)<|A.skip<|A.seq<|A.block<|ak [(0,bh (ix af (cf p)))] [67] [(16,u M)] ?_
  obtain⟨P,U,a⟩:=aB a;refine ak [(2,a1 (pW U) pM)] [16] [(73,.bool (!P))] ?_;rcases aV a with⟨o,a⟩|⟨o,a⟩
  .refine aT o<|aG [] [(6,u 9)] [] ?_
   cases a;exact A.ret bk
  exact aS o<|A.skip<|bn [(0,ai (cK p Z))] [66,73] [(66,u ((e+1:Nat):Int))]<|aX () a
 rintro e ⟨⟩ Y T a;rw[am]at a;refine ak [] [] [(67,.d ((e:Int)<SI.length))]<|A.seq<|aS (cT T)<|A.exit<|aG [] [(6,u 0)] [] ?_
 cases a;exact A.ret bk
def HK{r:Int×Int}(a:sN t Ub=some r):bY prog 19 [] [.agg (aZ t),.agg (c8 Ub)] (.bO [u r.1,u r.2]):=by
 refine bT func19 rfl rfl ?_;unfold sN at a;refine aG [(0,.al 81),(1,.al 142)] [(2,.ptr 81 0),(3,.ptr 142 0)] [(81,.cells 28 (aZ t)),(142,.cells 36 (c8 Ub))]<|A.seq ?_
 obtain⟨f,q,a⟩:=aB a;refine ak [(2,a1 (vU q) u6)] [] [(6,u f)]<|ak [] [] [(16,.bool (!decide (f=0)))] ?_
 rcases aV a with⟨g,a⟩|⟨g,a⟩
 .refine aT g<|aG [] [(4,u 0),(5,u f)] [] ?_
  cases a;exact A.ret bk
 refine aS g<|A.skip<|ak [] [6,16] [(7,u 0)]<|A.seq<|bD [(2,ai (bu bl Ub.Links))] [3] [(19,aD bl Ub.Links),(20,u Ub.Links.length),(21,u 0)] [142] []<|A.block<|auX 19 rfl λo=>?_
 obtain⟨k,m,i,j,a⟩:=cZ a;refine auV (l:=Ub.Links) (cD:=0) (B:=k) (K:=m) a (λb=>λc=>[(2,.ptr 81 0),(7,u c),(19,aD bl Ub.Links),(20,u Ub.Links.length),(21,u b)]) (λb=>λc=>[(81,.cells 28 (aZ t))]) ?_ ?_ ?_
 .exact cq
 .rintro b p s c n d a;rw[i]at a;refine ak [] [] [(22,.d ((b:Int)<Ub.Links.length))]<|A.seq<|aT (cU d)<|A.skip<|A.seq<|A.block<|bD [(0,bh (ix bl (cf d))),(2,.al 229)] [22] [(9,.ptr 229 0)] [] [(229,.cells 84 (ec p))] ?_
  obtain⟨e,h,a⟩:=aB a;exact bD [(5,a1 (G9 h) Gw)] [9] [(10,u e.1)] [229] []<|bn [] [7,10] [(7,u (an (c+e.1)))]<|bn [(0,ai (cK d o))] [21] [(21,u ((b+1:Nat):Int))]<|aX (an (c+e.1)) a
 rintro b c n ch a;rw[j]at a;refine ak [] [] [(22,.d ((b:Int)<Ub.Links.length))]<|A.seq<|aS (cT ch)<|A.exit<|aG [] [(4,u c),(5,u 0)] [] ?_
 cases a;exact A.ret bk
def RC{c:Int}{b:bI}(a:v7 c b=some r):bY prog 171 [] [u c,.dF (i0 b)] (.bool r):=by
 refine bT func171 rfl rfl ?_;unfold v7 at a;refine aG [] [(0,u c),(1,.dF (i0 b))] [] ?_;obtain⟨d,e,a⟩:=aB a;refine aG [(3,a1 (pW e) pM)] [(3,.bool d)] [] ?_;cases a;exact A.ret bk
variable {l:mR}
def RX(a:ss t root SI l=some r):bY prog 108 [] [.agg (aZ t),u root,aD af SI,aD bF l] (.bool r):=by
 refine bT func108 rfl rfl ?_;unfold ss at a;refine aG [(0,.al 45)] [(1,u root),(2,aD af SI),(3,aD bF l),(4,.ptr 45 0)] [(45,.cells 28 (aZ t))]<|A.seq<|ak [(1,ai (bu bF l))] [] [(20,.d (200<(l.length:Int)))] ?_
 rcases aV a with⟨q,a⟩|⟨q,a⟩
 .refine aT q<|aG [] [(8,.bool false)] [] ?_
  cases a;exact A.ret bk
 refine aS q<|A.skip<|A.seq<|ak [(1,ai (bu bF l))] [20] [(21,aD bF l),(22,u l.length),(23,u 0)]<|A.block<|auX 3 rfl λX=>?_
 obtain⟨U,V,S,T,a⟩:=cZ a;refine auV (l:=l) (cD:=0) (B:=U) (K:=V) a (λe=>λ()=>[(1,u root),(2,aD af SI),(3,aD bF l),(4,.ptr 45 0),(21,aD bF l),(22,u l.length),(23,u e)]) (λe=>λ()=>[(45,.cells 28 (aZ t))]) ?_ ?_ ?_
 .exact cq
 .rintro e c bc ⟨⟩ W p a;rw[S]at a;refine ak [] [] [(24,.d ((e:Int)<l.length))]<|A.seq<|aT (cU p)<|A.skip<|A.seq<|A.block<|bD [(0,bh (ix bF (cf p))),(2,.al 73)] [24] [(10,.ptr 73 0)] [] [(73,.cells 120 (i0 c))]<|A.seq ?_
  obtain⟨ae,ao,a⟩:=dx a;refine A.J (J:=ae) (r:=r) (λw=>[(1,u root),(2,aD af SI),(3,aD bF l),(4,.ptr 45 0),(10,.ptr 73 0),(21,aD bF l),(22,u l.length),(23,u e),(46,.bool w)]) (λw=>[(45,.cells 28 (aZ t)),(73,.cells 120 (i0 c))]) ?_ ?_
  .rcases aV a with⟨i,a⟩|⟨i,a⟩
   .exact bn [(3,ai (be i))] [] [(46,.bool true)]<|aX true a
   rcases aV a with⟨k,a⟩|⟨k,a⟩
   .exact bn [(3,ai (be i)),(8,ai (be k))] [] [(46,.bool true)]<|aX true a
   obtain⟨bf,M,a⟩:=aB a;rcases aV a with⟨x,a⟩|⟨x,a⟩
   .exact bn [(3,ai (be i)),(8,ai (be k)),(11,a1 (vT M) vf),(14,ai (be x))] [] [(46,.bool true)]<|aX true a
   obtain⟨H,N,a⟩:=aB a;exact bn [(3,ai (be i)),(8,ai (be k)),(11,a1 (vT M) vf),(14,ai (be x)),(18,a1 (pW N) pM)] [] [(46,.bool H)]<|aX H a
  rintro w a;rw[ao]at a;rcases aV a with⟨s,a⟩|⟨s,a⟩
  .refine aT s<|aG [] [(8,.bool false)] [] ?_
   cases a;exact A.ret bk
  refine aS s<|A.skip<|A.seq<|ak [(2,ai (bu af c.aP))] [46] [(48,aD af c.aP),(49,u c.aP.length),(50,u 0)]<|A.block<|auX 48 rfl λaa=>?_
  obtain⟨ar,aA,aw,ax,a⟩:=cZ a;refine auV (l:=c.aP) (cD:=0) (B:=ar) (K:=aA) a (λh=>λ()=>[(1,u root),(2,aD af SI),(3,aD bF l),(4,.ptr 45 0),(10,.ptr 73 0),(21,aD bF l),(22,u l.length),(23,u e),(48,aD af c.aP),(49,u c.aP.length),(50,u h)]) (λh=>λ()=>[(45,.cells 28 (aZ t)),(73,.cells 120 (i0 c))]) ?_ ?_ ?_
  .exact cq
  .rintro h a9 bg ⟨⟩ aE v a;rw[aw]at a;refine ak [] [] [(51,.d ((h:Int)<c.aP.length))]<|A.seq<|aT (cU v)<|A.skip<|A.seq<|A.block<|ak [(0,bh (ix af (cf v)))] [51] [(12,u a9)] ?_
   obtain⟨P,R,a⟩:=aB a;refine ak [(2,a1 (Ba R) Aq)] [12] [(57,.bool (!P))] ?_;rcases aV a with⟨y,a⟩|⟨y,a⟩
   .refine aT y<|aG [] [(8,.bool false)] [] ?_
    cases a;exact A.ret bk
   exact aS y<|A.skip<|bn [(0,ai (cK v aa))] [50,57] [(50,u ((h+1:Nat):Int))]<|aX () a
  rintro h ⟨⟩ aE aC a;rw[ax]at a;refine ak [] [] [(51,.d ((h:Int)<c.aP.length))]<|A.seq<|aS (cT aC)<|A.exit ?_
  obtain⟨ab,O,a⟩:=aB a;refine bD [(2,bA [73] (Rb (fh:=171) (ga:=[.dF (i0 c)]) (hF:=O2) (hE:=λ_ _ ba=>RC ba) O) O1)] [10,48,49,50,51] [(62,.bool (!ab))] [73] [] ?_;rcases aV a with⟨C,a⟩|⟨C,a⟩
  .refine aT C<|aG [] [(8,.bool false)] [] ?_
   cases a;exact A.ret bk
  exact aS C<|A.skip<|bn [(0,ai (cK p X))] [23,62] [(23,u ((e+1:Nat):Int))]<|aX () a
 rintro e ⟨⟩ W ch a;rw[T]at a;refine ak [] [] [(24,.d ((e:Int)<l.length))]<|A.seq<|aS (cT ch)<|A.exit<|A.seq ?_
 obtain⟨b,Q,a⟩:=aB a;refine aG [(1,cS [37] (Br Q) Ao),(2,ai (bu cz b))] [(3,aD bF l),(65,.own 37),(66,u b.length),(67,u 0)] [(37,.slice 175 3 (ag cz b) 0 false)]<|A.block<|avp 65 rfl rfl λaI=>?_
 obtain⟨aR,aU,aW,aY,a⟩:=cZ a;refine auV (l:=b) (cD:=0) (B:=aR) (K:=aU) a (λd=>λ()=>[(3,aD bF l),(65,.own 37),(66,u b.length),(67,u d)]) (λd=>λ()=>[(37,.slice 175 3 (ag cz b) 0 false)]) ?_ ?_ ?_
 .exact cq
 .rintro d j bj ⟨⟩ aF n a;rw[aW]at a;refine ak [] [] [(68,.d ((d:Int)<b.length))]<|A.seq<|aT (cU n)<|A.skip<|A.seq<|A.block<|bD [(0,bh (ix cz (cf n))),(1,dX 37 0 (ix cz (cf n))),(2,.al 74)] [68] [(14,.ptr 74 0)] [] [(74,.cells 175 (l9 j))]<|ak [] [] [(15,u 0)]<|A.seq<|ak [(1,ai (bu bF l))] [] [(71,aD bF l),(72,u l.length),(73,u 0)]<|A.block<|auX 3 rfl λa8=>?_
  obtain⟨a4,a5,a6,a7,a⟩:=cZ a;refine auV (l:=l) (cD:=0) (B:=a4) (K:=a5) a (λg=>λf=>[(3,aD bF l),(14,.ptr 74 0),(15,u f),(65,.own 37),(66,u b.length),(67,u d),(71,aD bF l),(72,u l.length),(73,u g)]) (λg=>λf=>[(37,.slice 175 3 (ag cz b) 0 false),(74,.cells 175 (l9 j))]) ?_ ?_ ?_
  .exact cq
  .rintro g m bl f a3 G a;rw[a6]at a;refine ak [] [] [(74,.d ((g:Int)<l.length))]<|A.seq<|aT (cU G)<|A.skip ?_
   obtain⟨Z,aq,a⟩:=dx a;refine A.J (J:=Z) (r:=r) (λo=>[(3,aD bF l),(14,.ptr 74 0),(15,u o),(65,.own 37),(66,u b.length),(67,u d),(71,aD bF l),(72,u l.length),(73,u g)]) (λo=>[(37,.slice 175 3 (ag cz b) 0 false),(74,.cells 175 (l9 j))]) ?_ ?_
   .refine A.block<|bD [(0,bh (ix bF (cf G))),(2,.al 136)] [74] [(17,.ptr 136 0)] [] [(136,.cells 120 (i0 m))] ?_
    obtain⟨am,aM,a⟩:=dx a;refine A.J (J:=am) (r:=r) (λD=>[(3,aD bF l),(14,.ptr 74 0),(15,u f),(17,.ptr 136 0),(65,.own 37),(66,u b.length),(67,u d),(71,aD bF l),(72,u l.length),(73,u g),(91,.bool D)]) (λD=>[(37,.slice 175 3 (ag cz b) 0 false),(74,.cells 175 (l9 j)),(136,.cells 120 (i0 m))]) ?_ ?_
    .obtain⟨bi,I,a⟩:=aB a;rcases aV a with⟨z,a⟩|⟨z,a⟩
     .obtain⟨L,Y,a⟩:=aB a;exact bn [(5,a1 (pW I) pM),(6,ai (be z)),(12,a1 (pW Y) pM)] [] [(91,.bool (!L))]<|aX (!L) a
     exact bn [(5,a1 (pW I) pM),(6,ai (be z))] [] [(91,.bool false)]<|aX false a
    rintro D a;rw[aM]at a;rcases aV a with⟨E,a⟩|⟨E,a⟩
    .exact aT E<|c6 [] [15,17,91] [(15,u (an (f+m.Value)))] [136] []<|aX (an (f+m.Value)) a
    exact aS E<|A.skip<|aX f a
   rintro o a;rw[aq]at a;exact bn [(0,ai (cK G a8))] [73] [(73,u ((g+1:Nat):Int))]<|aX o a
  rintro g f a3 a0 a;rw[a7]at a;refine ak [] [] [(74,.d ((g:Int)<l.length))]<|A.seq<|aS (cT a0)<|A.exit<|bD [] [14,15,71,72,73,74] [(100,.d (j.b6<f))] [74] [] ?_
  rcases aV a with⟨F,a⟩|⟨F,a⟩
  .refine aT F<|aG [] [(8,.bool false)] [] ?_
   cases a;exact A.ret bk
  exact aS F<|A.skip<|bn [(0,ai (cK n aI))] [67,100] [(67,u ((d+1:Nat):Int))]<|aX () a
 rintro d ⟨⟩ aF az a;rw[aY]at a;refine ak [] [] [(68,.d ((d:Int)<b.length))]<|A.seq<|aS (cT az)<|A.exit<|aG [] [(8,.bool true)] [] ?_
 cases a;exact A.ret bk
def GX{r:Int×Int}(a:lD t root SI l=some r):bY prog 48 [] [.agg (aZ t),u root,aD af SI,aD bF l] (.bO [u r.1,u r.2]):=by
 refine bT func48 rfl rfl ?_;unfold lD at a;refine aG [(0,.al 156)] [(1,u root),(2,aD af SI),(3,aD bF l),(4,.ptr 156 0)] [(156,.cells 28 (aZ t))]<|A.seq ?_
 obtain⟨f,s,a⟩:=aB a;refine ak [(3,a1 (wD s) va)] [] [(10,u f)]<|ak [] [] [(19,.bool (!decide (f=0)))] ?_
 rcases aV a with⟨g,a⟩|⟨g,a⟩
 .refine aT g<|aG [] [(8,u 0),(9,u f)] [] ?_
  cases a;exact A.ret bk
 refine aS g<|A.skip<|A.seq ?_
 obtain⟨j,i,a⟩:=aB a;refine aG [(4,a1 (RX i) Pv)] [(3,aD bF l),(26,.bool (!j))] [] ?_;rcases aV a with⟨e,a⟩|⟨e,a⟩
 .refine aT e<|aG [] [(8,u 0),(9,u 1)] [] ?_
  cases a;exact A.ret bk
 refine aS e<|A.skip<|ak [] [26] [(11,u 0)]<|A.seq<|ak [(1,ai (bu bF l))] [3] [(27,aD bF l),(28,u l.length),(29,u 0)]<|A.block<|auX 27 rfl λq=>?_
 obtain⟨n,o,k,m,a⟩:=cZ a;refine auV (l:=l) (cD:=0) (B:=n) (K:=o) a (λb=>λc=>[(11,u c),(27,aD bF l),(28,u l.length),(29,u b)]) (λb=>λc=>[]) ?_ ?_ ?_
 .exact cq
 .rintro b h v c p d a;rw[k]at a;exact ak [] [] [(30,.d ((b:Int)<l.length))]<|A.seq<|aT (cU d)<|A.skip<|A.seq<|A.block<|bD [(0,bh (ix bF (cf d))),(2,.al 234)] [30] [(13,.ptr 234 0)] [] [(234,.cells 120 (i0 h))]<|c6 [] [11,13] [(11,u (an (c+h.Value)))] [234] []<|bn [(0,ai (cK d q))] [29] [(29,u ((b+1:Nat):Int))]<|aX (an (c+h.Value)) a
 rintro b c p ch a;rw[m]at a;refine ak [] [] [(30,.d ((b:Int)<l.length))]<|A.seq<|aS (cT ch)<|A.exit<|aG [] [(8,u c),(9,u 0)] [] ?_
 cases a;exact A.ret bk
variable {SI:bH}{Ub:b0}{r:Int}{t:aK}
def vX(a:oy t Ub SI=some r):bY prog 21 [] [.agg (aZ t),.agg (c8 Ub),aD af SI] (u r):=by
 refine bT func21 rfl rfl ?_;unfold oy at a;refine aG [(0,.al 50),(1,.al 46)] [(2,aD af SI),(3,.ptr 50 0),(4,.ptr 46 0)] [(50,.cells 28 (aZ t)),(46,.cells 36 (c8 Ub))]<|A.seq ?_
 obtain⟨C,aq,a⟩:=aB a;refine ak [(1,a1 (sv aq) rM)] [] [(19,.bool (!decide (C=0)))] ?_;rcases aV a with⟨i,a⟩|⟨i,a⟩
 .refine aT i<|aG [] [(6,u 1)] [] ?_
  cases a;exact A.ret bk
 refine aS i<|A.skip<|A.seq ?_
 obtain⟨g,v,a⟩:=aB a;refine ak [(1,a1 (G3 v) Gy)] [19] [(7,u g)]<|ak [] [] [(23,.bool (!decide (g=0)))] ?_
 rcases aV a with⟨h,a⟩|⟨h,a⟩
 .refine aT h<|aG [] [(6,u g)] [] ?_
  cases a;exact A.ret bk
 refine aS h<|A.skip<|A.seq ?_
 obtain⟨x,z,a⟩:=aB a;refine ak [(3,a1 (lF z) lX)] [7,23] [(29,.bool (!x))] ?_;rcases aV a with⟨f,a⟩|⟨f,a⟩
 .refine aT f<|aG [] [(6,u 4)] [] ?_
  cases a;exact A.ret bk
 refine aS f<|A.skip<|A.seq<|ak [(1,ai (bu af SI))] [29] [(30,aD af SI),(31,u SI.length),(32,u 0)]<|A.block<|auX 2 rfl λI=>?_
 obtain⟨F,G,D,E,a⟩:=cZ a;refine auV (l:=SI) (cD:=0) (B:=F) (K:=G) a (λc=>λ()=>[(2,aD af SI),(3,.ptr 50 0),(4,.ptr 46 0),(30,aD af SI),(31,u SI.length),(32,u c)]) (λc=>λ()=>[(50,.cells 28 (aZ t)),(46,.cells 36 (c8 Ub))]) ?_ ?_ ?_
 .exact cq
 .rintro c an ar ⟨⟩ H e a;rw[D]at a;refine ak [] [] [(33,.d ((c:Int)<SI.length))]<|A.seq<|aT (cU e)<|A.skip<|A.seq<|A.block<|ak [(0,bh (ix af (cf e)))] [33] [(9,u an)] ?_
  obtain⟨N,w,a⟩:=aB a;refine ak [(2,a1 (lF w) lX)] [9] [(39,.bool (!N))] ?_;rcases aV a with⟨m,a⟩|⟨m,a⟩
  .refine aT m<|aG [] [(6,u 4)] [] ?_
   cases a;exact A.ret bk
  exact aS m<|A.skip<|bn [(0,ai (cK e I))] [32,39] [(32,u ((c+1:Nat):Int))]<|aX () a
 rintro c ⟨⟩ H ch a;rw[E]at a;refine ak [] [] [(33,.d ((c:Int)<SI.length))]<|A.seq<|aS (cT ch)<|A.exit<|A.seq<|ak [(2,ai (bu bl Ub.Links))] [30,31,32,33] [(42,aD bl Ub.Links),(43,u Ub.Links.length),(44,u 0)]<|A.block<|auX 42 rfl λM=>?_
 obtain⟨Q,V,R,S,a⟩:=cZ a;refine auV (l:=Ub.Links) (cD:=0) (B:=Q) (K:=V) a (λb=>λ()=>[(2,aD af SI),(3,.ptr 50 0),(4,.ptr 46 0),(42,aD bl Ub.Links),(43,u Ub.Links.length),(44,u b)]) (λb=>λ()=>[(50,.cells 28 (aZ t)),(46,.cells 36 (c8 Ub))]) ?_ ?_ ?_
 .exact cq
 .rintro b ao aw ⟨⟩ Y k a;rw[R]at a;refine ak [] [] [(45,.d ((b:Int)<Ub.Links.length))]<|A.seq<|aT (cU k)<|A.skip<|A.seq<|A.block<|bD [(0,bh (ix bl (cf k))),(2,.al 231)] [45] [(11,.ptr 231 0)] [] [(231,.cells 84 (ec ao))] ?_
  obtain⟨q,y,a⟩:=aB a;refine bD [(5,a1 (Hq y) Gz)] [11] [(13,.bool q.2)] [231] []<|ak [] [13] [(58,.bool (!q.2))] ?_
  rcases aV a with⟨j,a⟩|⟨j,a⟩
  .refine aT j<|aG [] [(6,u 4)] [] ?_
   cases a;exact A.ret bk
  exact aS j<|A.skip<|bn [(0,ai (cK k M))] [44,58] [(44,u ((b+1:Nat):Int))]<|aX () a
 rintro b ⟨⟩ Y X a;rw[S]at a;refine ak [] [] [(45,.d ((b:Int)<Ub.Links.length))]<|A.seq<|aS (cT X)<|A.exit<|A.seq ?_
 obtain⟨J,P,a⟩:=aB a;refine bD [(1,a1 (sg P) rN)] [3,42,43,44,45] [(62,.bool (!J))] [50] [] ?_;rcases aV a with⟨n,a⟩|⟨n,a⟩
 .refine aT n<|aG [] [(6,u 25)] [] ?_
  cases a;exact A.ret bk
 refine aS n<|A.skip ?_
 obtain⟨s,L,a⟩:=aB a;refine bD [(1,a1 (R5 L) QB)] [4,62] [(14,aD af s)] [46] []<|A.seq<|ak [(1,ai (bu af SI))] [2] [(65,aD af SI),(66,u SI.length),(67,u 0)]<|A.block<|auX 65 rfl λaa=>?_
 obtain⟨ab,ae,ag,am,a⟩:=cZ a;refine auV (l:=SI) (cD:=0) (B:=ab) (K:=ae) a (λd=>λ()=>[(14,aD af s),(65,aD af SI),(66,u SI.length),(67,u d)]) (λd=>λ()=>[]) ?_ ?_ ?_
 .exact cq
 .rintro d O ax ⟨⟩ Z o a;rw[ag]at a;refine ak [] [] [(68,.d ((d:Int)<SI.length))]<|A.seq<|aT (cU o)<|A.skip<|A.seq<|A.block<|ak [(0,bh (ix af (cf o)))] [68] [(16,u O)] ?_
  obtain⟨W,U,a⟩:=aB a;refine ak [(2,a1 (jO U) j8)] [16] [(74,.bool (!W))] ?_;rcases aV a with⟨p,a⟩|⟨p,a⟩
  .refine aT p<|aG [] [(6,u 9)] [] ?_
   cases a;exact A.ret bk
  exact aS p<|A.skip<|bn [(0,ai (cK o aa))] [67,74] [(67,u ((d+1:Nat):Int))]<|aX () a
 rintro d ⟨⟩ Z T a;rw[am]at a;refine ak [] [] [(68,.d ((d:Int)<SI.length))]<|A.seq<|aS (cT T)<|A.exit<|aG [] [(6,u 0)] [] ?_
 cases a;exact A.ret bk
def HT{r:Int×Int}(a:sU t Ub=some r):bY prog 29 [] [.agg (aZ t),.agg (c8 Ub)] (.bO [u r.1,u r.2]):=by
 refine bT func29 rfl rfl ?_;unfold sU at a;refine aG [(0,.al 82),(1,.al 143)] [(2,.ptr 82 0),(3,.ptr 143 0)] [(82,.cells 28 (aZ t)),(143,.cells 36 (c8 Ub))]<|A.seq ?_
 obtain⟨f,q,a⟩:=aB a;refine ak [(2,a1 (vX q) u7)] [] [(6,u f)]<|ak [] [] [(16,.bool (!decide (f=0)))] ?_
 rcases aV a with⟨g,a⟩|⟨g,a⟩
 .refine aT g<|aG [] [(4,u 0),(5,u f)] [] ?_
  cases a;exact A.ret bk
 refine aS g<|A.skip<|ak [] [6,16] [(7,u 0)]<|A.seq<|bD [(2,ai (bu bl Ub.Links))] [3] [(19,aD bl Ub.Links),(20,u Ub.Links.length),(21,u 0)] [143] []<|A.block<|auX 19 rfl λo=>?_
 obtain⟨k,m,i,j,a⟩:=cZ a;refine auV (l:=Ub.Links) (cD:=0) (B:=k) (K:=m) a (λb=>λc=>[(2,.ptr 82 0),(7,u c),(19,aD bl Ub.Links),(20,u Ub.Links.length),(21,u b)]) (λb=>λc=>[(82,.cells 28 (aZ t))]) ?_ ?_ ?_
 .exact cq
 .rintro b p s c n d a;rw[i]at a;refine ak [] [] [(22,.d ((b:Int)<Ub.Links.length))]<|A.seq<|aT (cU d)<|A.skip<|A.seq<|A.block<|bD [(0,bh (ix bl (cf d))),(2,.al 232)] [22] [(9,.ptr 232 0)] [] [(232,.cells 84 (ec p))] ?_
  obtain⟨e,h,a⟩:=aB a;exact bD [(5,a1 (Hq h) Gz)] [9] [(10,u e.1)] [232] []<|bn [] [7,10] [(7,u (an (c+e.1)))]<|bn [(0,ai (cK d o))] [21] [(21,u ((b+1:Nat):Int))]<|aX (an (c+e.1)) a
 rintro b c n ch a;rw[j]at a;refine ak [] [] [(22,.d ((b:Int)<Ub.Links.length))]<|A.seq<|aS (cT ch)<|A.exit<|aG [] [(4,u c),(5,u 0)] [] ?_
 cases a;exact A.ret bk
def Bg{root:Int}(a:oE t root SI=some r):bY prog 65 [] [.agg (aZ t),u root,aD af SI] (u r):=by
 refine bT func65 rfl rfl ?_;unfold oE at a;refine aG [(0,.al 97)] [(1,u root),(2,aD af SI),(3,.ptr 97 0)] [(97,.cells 28 (aZ t))]<|A.seq ?_
 obtain⟨n,y,a⟩:=aB a;refine ak [(1,a1 (sv y) rM)] [] [(11,.bool (!decide (n=0)))] ?_;rcases aV a with⟨g,a⟩|⟨g,a⟩
 .refine aT g<|aG [] [(6,u 1)] [] ?_
  cases a;exact A.ret bk
 refine aS g<|A.skip<|A.seq ?_
 obtain⟨j,h,a⟩:=aB a;refine ak [(1,a1 (sg h) rN)] [11] [(14,.bool (!j))] ?_;rcases aV a with⟨f,a⟩|⟨f,a⟩
 .refine aT f<|aG [] [(6,u 25)] [] ?_
  cases a;exact A.ret bk
 refine aS f<|A.skip<|A.seq ?_
 obtain⟨b,m,a⟩:=aB a;refine bD [(1,.al 65016),(3,e9 115 (ap af (bytes:=8) (by decide) m)),(4,ai (bu af b))] [1,2,14] [(18,.own 115),(19,u b.length),(20,u 0)] [] [(115,.slice 3 1 (ag af b) 0 false)]<|A.block<|avp 18 rfl rfl λw=>?_
 obtain⟨q,s,o,p,a⟩:=cZ a;refine auV (l:=b) (cD:=0) (B:=q) (K:=s) a (λc=>λ()=>[(3,.ptr 97 0),(18,.own 115),(19,u b.length),(20,u c)]) (λc=>λ()=>[(97,.cells 28 (aZ t)),(115,.slice 3 1 (ag af b) 0 false)]) ?_ ?_ ?_
 .exact cq
 .rintro c x z ⟨⟩ v d a;rw[o]at a;refine ak [] [] [(21,.d ((c:Int)<b.length))]<|A.seq<|aT (cU d)<|A.skip<|A.seq<|A.block<|ak [(0,bh (ix af (cf d))),(1,dX 115 0 (ix af (cf d)))] [21] [(8,u x)] ?_
  obtain⟨k,i,a⟩:=aB a;refine ak [(2,a1 (lF i) lX)] [8] [(27,.bool (!k))] ?_;rcases aV a with⟨e,a⟩|⟨e,a⟩
  .refine aT e<|aG [] [(6,u 4)] [] ?_
   cases a;exact A.ret bk
  exact aS e<|A.skip<|bn [(0,ai (cK d w))] [20,27] [(20,u ((c+1:Nat):Int))]<|aX () a
 rintro c ⟨⟩ v ch a;rw[p]at a;refine ak [] [] [(21,.d ((c:Int)<b.length))]<|A.seq<|aS (cT ch)<|A.exit<|aG [] [(6,u 0)] [] ?_
 cases a;exact A.ret bk
variable {r:Int}{t:aK}
def Hh{c:Int}(a:sG t c=some r):bY prog 172 [] [.agg (aZ t),u c] (u r):=by
 refine bT func172 rfl rfl ?_;unfold sG at a;refine aG [(0,.al 119)] [(1,u c),(2,.ptr 119 0)] [(119,.cells 28 (aZ t))]<|A.seq<|ak [] [] [(5,u 0)]<|A.block<|ave 2 0 rfl rfl rfl λk=>?_
 obtain⟨h,i,f,g,a⟩:=cZ a;refine auV (l:=t.aP) (cD:=0) (B:=h) (K:=i) a (λb=>λ()=>[(1,u c),(2,.ptr 119 0),(5,u b)]) (λb=>λ()=>[(119,.cells 28 (aZ t))]) ?_ ?_ ?_
 .exact cq
 .rintro b m n ⟨⟩ j d a;rw[f]at a;refine A.seq<|ak [(3,ai (bu cp t.aP))] [] [(10,.d ((b:Int)<t.aP.length))] ?_
  refine aT (cU d)<|A.skip<|A.seq<|A.block<|ak [(3,bh (ix cp (cf d)))] [10] [(20,.d (m.b7=c))] ?_
  rcases aV a with⟨e,a⟩|⟨e,a⟩
  .refine aT e<|aG [] [(4,u b)] [] ?_
   cases a;exact A.ret bk
  exact aS e<|A.skip<|bn [(1,ai (cK d k))] [5,20] [(5,u ((b+1:Nat):Int))]<|aX () a
 rintro b ⟨⟩ j ch a;rw[g]at a;refine A.seq<|ak [(3,ai (bu cp t.aP))] [] [(10,.d ((b:Int)<t.aP.length))] ?_
 refine aS (cT ch)<|A.exit<|aG [] [(4,u 0)] [] ?_
 cases a;exact A.ret bk
def Hy{h:Int}{r:(bH)}(b:qp t h=some r):bY prog 110 [] [.agg (aZ t),u h] (aD af r):=by
 refine bT func110 rfl rfl ?_;unfold qp at b;refine aG [(0,.al 35)] [(1,u h),(2,.ptr 35 0)] [(35,.cells 28 (aZ t))] ?_;obtain⟨aU,b⟩:=gC b;refine bD [(2,ai (bu cp t.aP)),(3,ou (a:=u 0) 162 (0:Int) af.enc (t.aP.length:Int) rB zR rfl (λaW=>by simp[aN]) aU (by decide))] [] [(5,.own 162)] [] [(162,.slice 3 1 (ag af (List.replicate ((t.aP.length:Int)).toNat (0:Int))) 0 false)]<|A.seq<|ak [] [] [(6,u 0)]<|A.block ?_
 obtain⟨ae,a6,am,b⟩:=fQ b;refine au6 (F:=ae) b (λ(m,e)=>[(1,u h),(2,.ptr 35 0),(5,.own 30),(6,u e)]) (λ(m,e)=>[(35,.cells 28 (aZ t)),(30,.slice 3 1 (ag af m) 0 false)]) ?_ ?_
 .exact dJ [.eC 162 30] []
 rintro a0 ⟨m,e⟩ b;rw[am]at b;refine A.seq<|ak [(2,ai (bu af m))] [] [(19,.d (e<(m.length:Int)))] ?_
 rcases aV b with⟨z,b⟩|⟨z,b⟩
 .refine aT z<|A.skip ?_
  obtain⟨W,aa,b⟩:=dx b;refine A.J (J:=W) (r:=r) (λq=>[(1,u h),(2,.ptr 35 0),(5,.own 30),(6,u e)]) (λq=>[(35,.cells 28 (aZ t)),(30,.slice 3 1 (ag af q) 0 false)]) ?_ ?_
  .refine A.block ?_;obtain⟨a4,v,b⟩:=aB b;obtain⟨L,T,b⟩:=aB b;refine bD [(2,bh (ix af v)),(3,hq 30 (st af (off:=0) (ca:=[u 1073741824]) v T rfl) (hY v).1.1)] [19] [] [30] [(30,.slice 3 1 (ag af L) 0 false)] ?_;obtain⟨Y,S,b⟩:=aB b;refine ak [(3,bh (ix cp S))] [] [(32,.d (Y.b7=h))] ?_;rcases aV b with⟨x,b⟩|⟨x,b⟩
   .refine aT x ?_;obtain⟨a7,y,b⟩:=aB b;obtain⟨N,X,b⟩:=aB b;exact c6 [(2,bh (ix af y)),(3,hq 30 (st af (off:=0) (ca:=[u 0]) y X rfl) (hY y).1.1)] [32] [] [30] [(30,.slice 3 1 (ag af N) 0 false)]<|aX N b
   exact aS x<|A.skip<|aX L b
  rintro q b;rw[aa]at b;exact bn [] [6] [(6,u (an (e+1)))]<|aX (q,an (e+1)) b
 refine aS z<|A.exit<|A.seq<|ak [] [1,6,19] [(7,u 0)]<|A.block ?_
 obtain⟨aM,a8,aR,b⟩:=fQ b;refine au6 (F:=aM) b (λ(k,d)=>[(2,.ptr 35 0),(5,.own 30),(7,u d)]) (λ(k,d)=>[(35,.cells 28 (aZ t)),(30,.slice 3 1 (ag af k) 0 false)]) ?_ ?_
 .exact cq
 rintro a3 ⟨k,d⟩ b;rw[aR]at b;refine A.seq<|ak [(2,ai (bu af k))] [] [(39,.d (d<(k.length:Int)))] ?_
 rcases aV b with⟨w,b⟩|⟨w,b⟩
 .refine aT w<|A.skip<|A.seq<|A.block<|ak [] [39] [(8,u 0)]<|A.block<|ave 2 1 rfl rfl rfl λaw=>?_
  obtain⟨aA,aC,aE,aF,b⟩:=cZ b;refine auV (l:=t.Links) (cD:=0) (B:=aA) (K:=aC) b (λc=>λg=>[(2,.ptr 35 0),(5,.own 30),(7,u d),(8,u c)]) (λc=>λg=>[(35,.cells 28 (aZ t)),(30,.slice 3 1 (ag af g) 0 false)]) ?_ ?_ ?_
  .exact cq
  .rintro c f a5 g ar E b;rw[aE]at b;refine A.seq<|ak [(3,ai (bu cC t.Links))] [] [(46,.d ((c:Int)<t.Links.length))] ?_
   refine aT (cU E)<|A.skip ?_
   obtain⟨V,ab,b⟩:=dx b;refine A.J (J:=V) (r:=r) (λs=>[(2,.ptr 35 0),(5,.own 30),(7,u d),(8,u c)]) (λs=>[(35,.cells 28 (aZ t)),(30,.slice 3 1 (ag af s) 0 false)]) ?_ ?_
   .refine A.block<|bD [(3,bh (ix cC (cf E))),(5,.al 121)] [46] [(9,.ptr 121 0)] [] [(121,.cells 62 (de f))] ?_
    obtain⟨M,U,b⟩:=aB b;obtain⟨I,aq,b⟩:=aB b;refine ak [(3,a1 (Hh U) F3),(7,a1 (Hh aq) F3)] [] [(10,u M),(11,u I)] ?_;obtain⟨Z,ax,b⟩:=dx b;refine A.J (J:=Z) (r:=r) (λp=>[(2,.ptr 35 0),(5,.own 30),(7,u d),(8,u c),(9,.ptr 121 0),(10,u M),(11,u I)]) (λp=>[(35,.cells 28 (aZ t)),(30,.slice 3 1 (ag af p) 0 false),(121,.cells 62 (de f))]) ?_ ?_
    .obtain⟨G,n,b⟩:=aB b;refine ak [(2,bh (ix af n)),(3,dX 30 0 (ix af n))] [] [(66,.d (G<1073741824))] ?_;rcases aV b with⟨D,b⟩|⟨D,b⟩
     .refine aT D ?_;obtain⟨Q,i,b⟩:=aB b;obtain⟨O,az,b⟩:=aB b;exact c6 [(4,bh (ix af i)),(5,dX 30 0 (ix af i)),(10,bh (ix af n)),(11,dX 30 0 (ix af n)),(14,bh (ix af i)),(15,hq 30 (st af (off:=0) (ca:=[u (if(an (f.eE+G))<Q then an (f.eE+G)else Q)]) i az rfl) (hY i).1.1)] [66] [] [30] [(30,.slice 3 1 (ag af O) 0 false)]<|aX O b
     exact aS D<|A.skip<|aX g b
    rintro p b;rw[ax]at b;obtain⟨H,o,b⟩:=aB b;refine ak [(2,bh (ix af o)),(3,dX 30 0 (ix af o))] [] [(86,.d (H<1073741824))] ?_;rcases aV b with⟨C,b⟩|⟨C,b⟩
    .refine aT C ?_;obtain⟨R,j,b⟩:=aB b;obtain⟨P,aI,b⟩:=aB b;exact c6 [(4,bh (ix af j)),(5,dX 30 0 (ix af j)),(10,bh (ix af o)),(11,dX 30 0 (ix af o)),(14,bh (ix af j)),(15,hq 30 (st af (off:=0) (ca:=[u (if(an (f.eP+H))<R then an (f.eP+H)else R)]) j aI rfl) (hY j).1.1)] [9,10,11,86] [] [30,121] [(30,.slice 3 1 (ag af P) 0 false)]<|aX P b
    exact aS C<|A.skip<|aX p b
   rintro s b;rw[ab]at b;exact bn [(1,ai (cK E aw))] [8] [(8,u ((c+1:Nat):Int))]<|aX s b
  rintro c g ar ao b;rw[aF]at b;refine A.seq<|ak [(3,ai (bu cC t.Links))] [] [(46,.d ((c:Int)<t.Links.length))] ?_
  exact aS (cT ao)<|A.exit<|bn [] [7,8,46] [(7,u (an (d+1)))]<|aX (g,an (d+1)) b
 refine aS w<|A.exit<|bD [] [2,5,7,39] [(4,.own 30)] [35] []<|A.ret ?_
 obtain rfl:=e0 b;exact auW aY [.bK [30]] rfl (by kernel_rfl)
def sJ{d:bH}{c:Int}(a:me t d c=some r):bY prog 109 [] [.agg (aZ t),aD af d,u c] (u r):=by
 refine bT func109 rfl rfl ?_;unfold me at a;refine aG [(0,.al 116)] [(1,aD af d),(2,u c),(3,.ptr 116 0)] [(116,.cells 28 (aZ t))]<|A.seq<|ak [] [] [(7,u 0)]<|A.block<|ave 3 0 rfl rfl rfl λm=>?_
 obtain⟨i,j,g,h,a⟩:=cZ a;refine auV (l:=t.aP) (cD:=0) (B:=i) (K:=j) a (λb=>λ()=>[(1,aD af d),(2,u c),(3,.ptr 116 0),(7,u b)]) (λb=>λ()=>[(116,.cells 28 (aZ t))]) ?_ ?_ ?_
 .exact cq
 .rintro b o q ⟨⟩ k e a;rw[g]at a;refine A.seq<|ak [(3,ai (bu cp t.aP))] [] [(12,.d ((b:Int)<t.aP.length))] ?_
  refine aT (cU e)<|A.skip<|A.seq<|A.block<|ak [(3,bh (ix cp (cf e)))] [12] [(22,.d (o.b7=c))] ?_
  rcases aV a with⟨f,a⟩|⟨f,a⟩
  .refine aT f ?_;obtain⟨n,p,a⟩:=aB a;refine aG [(2,bh (ix af p))] [(6,u n)] [] ?_;cases a;exact A.ret bk
  exact aS f<|A.skip<|bn [(1,ai (cK e m))] [7,22] [(7,u ((b+1:Nat):Int))]<|aX () a
 rintro b ⟨⟩ k ch a;rw[h]at a;refine A.seq<|ak [(3,ai (bu cp t.aP))] [] [(12,.d ((b:Int)<t.aP.length))] ?_
 refine aS (cT ch)<|A.exit<|aG [] [(6,u 1073741824)] [] ?_
 cases a;exact A.ret bk
def HU{b:Int}{c:Int}{r:Int×Bool}(a:sV t b c=some r):bY prog 49 [] [.agg (aZ t),u b,u c] (.bO [u r.1,.bool r.2]):=by
 refine bT func49 rfl rfl ?_;unfold sV at a;refine aG [(0,.al 144)] [(1,u b),(2,u c),(3,.ptr 144 0)] [(144,.cells 28 (aZ t))]<|A.seq ?_
 obtain⟨n,o,a⟩:=dx a;refine A.J (J:=n) (r:=r) (λh=>[(1,u b),(2,u c),(3,.ptr 144 0),(18,.bool h)]) (λh=>[(144,.cells 28 (aZ t))]) ?_ ?_
 .obtain⟨q,j,a⟩:=aB a;rcases aV a with⟨f,a⟩|⟨f,a⟩
  .exact bn [(2,a1 (lF j) lX),(4,ai (be f))] [] [(18,.bool true)]<|aX true a
  obtain⟨i,k,a⟩:=aB a;exact bn [(2,a1 (lF j) lX),(4,ai (be f)),(7,a1 (lF k) lX)] [] [(18,.bool (!i))]<|aX (!i) a
 rintro h a;rw[o]at a;rcases aV a with⟨e,a⟩|⟨e,a⟩
 .refine aT e<|aG [] [(6,u 0),(7,.bool false)] [] ?_
  cases a;exact A.ret bk
 refine aS e<|A.skip ?_
 obtain⟨p,m,a⟩:=aB a;obtain⟨g,l,a⟩:=aB a;refine aG [(3,a1 (Hy m) FP),(5,a1 (sJ l) rE)] [(8,u g)] []<|A.seq<|ak [] [] [(26,.d (g=1073741824))] ?_
 rcases aV a with⟨d,a⟩|⟨d,a⟩
 .refine aT d<|aG [] [(6,u 0),(7,.bool false)] [] ?_
  cases a;exact A.ret bk
 refine aS d<|A.skip<|aG [] [(6,u g),(7,.bool true)] [] ?_
 cases a;exact A.ret bk
variable {SI:bH}{root:Int}
def G4{r:Bool}(a:qf t root SI=some r):bY prog 66 [] [.agg (aZ t),u root,aD af SI] (.bool r):=by
 refine bT func66 rfl rfl ?_;unfold qf at a;refine aG [(0,.al 106)] [(1,u root),(2,aD af SI),(3,.ptr 106 0)] [(106,.cells 28 (aZ t))]<|A.seq<|ak [(1,ai (bu af SI))] [2] [(11,aD af SI),(12,u SI.length),(13,u 0)]<|A.block<|auX 11 rfl λk=>?_
 obtain⟨h,i,f,g,a⟩:=cZ a;refine auV (l:=SI) (cD:=0) (B:=h) (K:=i) a (λb=>λ()=>[(1,u root),(3,.ptr 106 0),(11,aD af SI),(12,u SI.length),(13,u b)]) (λb=>λ()=>[(106,.cells 28 (aZ t))]) ?_ ?_ ?_
 .exact cq
 .rintro b m o ⟨⟩ j c a;rw[f]at a;refine ak [] [] [(14,.d ((b:Int)<SI.length))]<|A.seq<|aT (cU c)<|A.skip<|A.seq<|A.block<|ak [(0,bh (ix af (cf c)))] [14] [(8,u m)] ?_
  obtain⟨e,n,a⟩:=aB a;refine ak [(3,a1 (HU n) Qm)] [8] [(10,.bool e.2)]<|ak [] [10] [(25,.bool (!e.2))] ?_
  rcases aV a with⟨d,a⟩|⟨d,a⟩
  .refine aT d<|aG [] [(6,.bool false)] [] ?_
   cases a;exact A.ret bk
  exact aS d<|A.skip<|bn [(0,ai (cK c k))] [13,25] [(13,u ((b+1:Nat):Int))]<|aX () a
 rintro b ⟨⟩ j ch a;rw[g]at a;refine ak [] [] [(14,.d ((b:Int)<SI.length))]<|A.seq<|aS (cT ch)<|A.exit<|aG [] [(6,.bool true)] [] ?_
 cases a;exact A.ret bk
def HN{r:(cn)×(fc 100)}(b:sH t=some r):bY prog 67 [] [.agg (aZ t)] (.bO [aD (eF af) r.1,.arr r.2.l]):=by
 refine bT func67 rfl rfl ?_;unfold sH at b;refine aG [(0,.al 62),(2,AR 67003 (fc.zero 100) zQ (by kernel_rfl))] [(1,.ptr 62 0),(3,.ptr 67003 0)] [(62,.cells 28 (aZ t)),(67003,.vec 114 (fc.zero 100).l)]<|bD [(0,AR 67004 (fc.zero 100) zQ (by kernel_rfl))] [] [(4,.ptr 67004 0)] [] [(67004,.vec 114 (fc.zero 100).l)]<|A.seq<|ak [(2,ai (bu cp t.aP))] [] [(12,aD cp t.aP),(13,u t.aP.length),(14,u 0)]<|A.block<|auX 12 rfl λS=>?_
 obtain⟨P,Q,N,O,b⟩:=cZ b;refine auV (l:=t.aP) (cD:=0) (B:=P) (K:=Q) b (λh=>λc=>[(1,.ptr 62 0),(3,.ptr 67003 0),(4,.ptr 67004 0),(12,aD cp t.aP),(13,u t.aP.length),(14,u h)]) (λh=>λc=>[(62,.cells 28 (aZ t)),(67003,.vec 114 (fc.zero 100).l),(67004,.vec 114 c.l)]) ?_ ?_ ?_
 .exact cq
 .rintro h e1 ax c R w b;rw[N]at b;refine ak [] [] [(15,.d ((h:Int)<t.aP.length))]<|A.seq<|aT (cU w)<|A.skip<|A.seq<|A.block<|bD [(1,bh (ix cp (cf w))),(3,.al 240)] [15] [(6,.ptr 240 0),(5,u h)] [] [(240,.cells 31 (g5 e1))] ?_
  obtain⟨aA,L,b⟩:=aB b;exact c6 [(3,ov (v:=c) L underlying114 sizeOf3),(4,QM (v:=c) (h:Int) L hy)] [6,5] [] [67004,240] [(67004,.vec 114 (fc.put c e1.b7.toNat (h:Int)).l)]<|bn [(0,ai (cK w S))] [14] [(14,u ((h+1:Nat):Int))]<|aX (fc.put c e1.b7.toNat (h:Int)) b
 rintro h c R ch b;rw[O]at b;refine ak [] [] [(15,.d ((h:Int)<t.aP.length))]<|A.seq<|aS (cT ch)<|A.exit ?_
 obtain⟨C,b⟩:=gC b;refine bD [(2,ai (bu cp t.aP)),(3,AP 67027 (t.aP.length:Int) FN FO C (by decide))] [12,13,14,15] [(7,.own 67027)] [] [(67027,.slice 22 1 (List.replicate (t.aP.length:Int).toNat [.bC]) 0 false)]<|auZ ((avO (d:=67027) (e:=450067027) 3 1 af.enc (Ab C) rfl rfl rfl rfl rfl))<|A.seq<|aG [(1,kz 3 1 af.enc (List.replicate (t.aP.length:Int).toNat []:cn) h7)] [(1,.ptr 62 0),(3,.ptr 67003 0),(4,.ptr 67004 0),(7,.own 67027),(29,u ((List.replicate (t.aP.length:Int).toNat []:cn).length:Int)),(30,u 0)] [(62,.cells 28 (aZ t)),(67003,.vec 114 (fc.zero 100).l),(67004,.vec 114 c.l),(67027,.cF 22 450067027 ((t.aP.length:Int).toNat) none),(450067027,.bp (encS 3 1 af.enc (List.replicate (t.aP.length:Int).toNat []:cn)))]<|A.block ?_
 obtain⟨ar,b⟩:=gC b;obtain⟨T,Y,V,W,b⟩:=kV b;refine avj (hi:=((List.replicate (t.aP.length:Int).toNat []:cn).length:Int)) (B:=T) (K:=Y) b rfl (λi=>λm=>[(1,.ptr 62 0),(3,.ptr 67003 0),(4,.ptr 67004 0),(7,.own 67027),(29,u ((List.replicate (t.aP.length:Int).toNat []:cn).length:Int)),(30,u i)]) (λi=>λm=>[(62,.cells 28 (aZ t)),(67003,.vec 114 (fc.zero 100).l),(67004,.vec 114 c.l),(67027,.cF 22 450067027 ((t.aP.length:Int).toNat) none),(450067027,.bp (encS 3 1 af.enc m))]) ?_ ?_ ?_
 .exact cq
 .rintro i az m aa E b;rw[V]at b;refine ak [] [] [(31,.d ((i:Int)<((List.replicate (t.aP.length:Int).toNat []:cn).length:Int)))]<|A.seq<|au3 rfl (decide_eq_true E)<|A.skip<|A.seq<|A.block<|ak [] [31] [(8,u i)] ?_
  obtain⟨M,b⟩:=gC b;obtain⟨aC,D,b⟩:=aB b;exact c6 [(4,ai (bu cp t.aP)),(5,ou (a:=u 0) 67038 (0:Int) af.enc (t.aP.length:Int) rB zR rfl (λaw=>by simp[aN]) M (by decide)),(6,hp 3 1 af.enc h7 D),(7,AQ 3 1 166 af.enc (List.replicate ((t.aP.length:Int)).toNat (0:Int)) hN D)] [8] [] [67027,450067027] [(67027,.cF 22 166 ((t.aP.length:Int).toNat) none),(166,.bp (encS 3 1 af.enc (List.set m (i:Int).toNat (List.replicate ((t.aP.length:Int)).toNat (0:Int)))))]<|bn [(0,ai (lg (by omega) E (of_decide_eq_true ar)))] [30] [(30,u (i+1:Int))]<|Exists.intro (List.set m (i:Int).toNat (List.replicate ((t.aP.length:Int)).toNat (0:Int))) (And.intro b (dJ [.rn 166 450067027] []))
 rintro i m aa Z b;rw[W]at b;refine ak [] [] [(31,.d ((i:Int)<((List.replicate (t.aP.length:Int).toNat []:cn).length:Int)))]<|A.seq<|au1 rfl (lG Z)<|A.exit<|A.seq<|bD [(2,ai (bu cC t.Links))] [1,29,30,31] [(42,aD cC t.Links),(43,u t.Links.length),(44,u 0)] [62] []<|A.block<|auX 42 rfl λae=>?_
 obtain⟨am,an,ao,aq,b⟩:=cZ b;refine auV (l:=t.Links) (cD:=0) (B:=am) (K:=an) b (λk=>λg=>[(3,.ptr 67003 0),(4,.ptr 67004 0),(7,.own 67027),(42,aD cC t.Links),(43,u t.Links.length),(44,u k)]) (λk=>λg=>[(67003,.vec 114 (fc.zero 100).l),(67004,.vec 114 c.l),(67027,.cF 22 450067027 ((t.aP.length:Int).toNat) none),(450067027,.bp (encS 3 1 af.enc g))]) ?_ ?_ ?_
 .exact cq
 .rintro k j aE g ab y b;rw[ao]at b;refine ak [] [] [(45,.d ((k:Int)<t.Links.length))]<|A.seq<|aT (cU y)<|A.skip<|A.seq<|A.block<|bD [(0,bh (ix cC (cf y))),(2,.al 241)] [45] [(10,.ptr 241 0)] [] [(241,.cells 62 (de j))] ?_
  obtain⟨n,p,b⟩:=aB b;obtain⟨z,s,b⟩:=aB b;obtain⟨o,q,b⟩:=aB b;obtain⟨aI,F,b⟩:=aB b;obtain⟨aF,G,b⟩:=aB b;obtain⟨J,H,b⟩:=aB b;obtain⟨aR,I,b⟩:=aB b;exact c6 [(3,ov (v:=c) p underlying114 sizeOf3),(4,ow (v:=c) p hy),(5,hp 3 1 af.enc h7 s),(6,jf (aM:=3) (sz:=1) (enc:=af.enc) (l:=g) s hN),(9,ov (v:=c) q underlying114 sizeOf3),(10,ow (v:=c) q hy),(14,ov (v:=c) q underlying114 sizeOf3),(15,ow (v:=c) q hy),(16,hp 3 1 af.enc h7 F),(17,jf (aM:=3) (sz:=1) (enc:=af.enc) (l:=g) F hN),(20,ov (v:=c) p underlying114 sizeOf3),(21,ow (v:=c) p hy),(26,jR (aM:=3) (enc:=af.enc) (l:=g) s G jC),(27,hK (aM:=3) (enc:=af.enc) (f:=(U.int .i64)) j.eE s G (λ_=>rfl) rfl rfl hy),(28,jR (aM:=3) (enc:=af.enc) (l:=(List.set g n.toNat (List.set z o.toNat j.eE))) H I jC),(29,hK (aM:=3) (enc:=af.enc) (f:=(U.int .i64)) j.eP H I (λ_=>rfl) rfl rfl hy)] [10] [] [450067027,241] [(450067027,.bp (encS 3 1 af.enc (List.set (List.set g n.toNat (List.set z o.toNat j.eE)) o.toNat (List.set J n.toNat j.eP))))]<|bn [(0,ai (cK y ae))] [44] [(44,u ((k+1:Nat):Int))]<|aX (List.set (List.set g n.toNat (List.set z o.toNat j.eE)) o.toNat (List.set J n.toNat j.eP)) b
 rintro k g ab X b;rw[aq]at b;refine ak [] [] [(45,.d ((k:Int)<t.Links.length))]<|A.seq<|aS (cT X)<|A.exit<|auZ (avM (d:=67027) (e:=450067027) g af.enc rfl rfl)<|aG [(1,QN c uY),(3,AS (fc.zero 100) c uY.size)] [(3,.ptr 67003 0),(2,.own 67027)] [(67003,.vec 114 c.l),(67027,.slice 22 1 (ag (eF af) g) 0 false)]<|A.ret ?_
 obtain rfl:=e0 b;exact A.QD (x:=.bO [.own 67027,.arr c.l]) (e1:=[(3,.ptr 67003 0),(2,.own 67027)]) (s1:=[(67003,.vec 114 c.l),(67027,.slice 22 1 (ag (eF af) g) (ag (eF af) g).length true)]) aY [.bK [67027]] rfl (by kernel_rfl) (.two (nG aY (by kernel_rfl)) (.arr _ _ 67003 114 _ c.l rfl (by kernel_rfl) uY (fc.h _))) (by kernel_rfl) (by kernel_rfl)
def HO{g:cn}(b:sI g root SI=some r):bY prog 68 [] [aD (eF af) g,u root,aD af SI] (u r):=by
 refine bT func68 rfl rfl ?_;unfold sI at b;refine aG [] [(0,aD (eF af) g),(1,u root),(2,aD af SI)] []<|ak [(1,ai (bu (eF af) g))] [] [(7,u g.length)] ?_
 obtain⟨dD,b⟩:=gC b;obtain⟨aR,b⟩:=gC b;refine bD [(1,ai (bu af SI)),(3,.sh (IntKind.wrap .u64 (SI.length:Int)) (of_decide_eq_true dD)),(4,AP 68024 (IntKind.wrap .i64 ((1:Int)*2 ^ min (IntKind.wrap .u64 (SI.length:Int)).toNat 64)) FN FO aR (by decide))] [] [(8,.own 68024)] [] [(68024,.slice 22 1 (List.replicate (IntKind.wrap .i64 ((1:Int)*2 ^ min (IntKind.wrap .u64 (SI.length:Int)).toNat 64)).toNat [.bC]) 0 false)]<|auZ ((avO (d:=68024) (e:=450068024) 3 1 af.enc (Ab aR) rfl rfl rfl rfl rfl))<|A.seq<|aG [(1,kz 3 1 af.enc (List.replicate (IntKind.wrap .i64 ((1:Int)*2 ^ min (IntKind.wrap .u64 (SI.length:Int)).toNat 64)).toNat []:cn) h7)] [(0,aD (eF af) g),(1,u root),(2,aD af SI),(7,u g.length),(8,.own 68024),(26,u ((List.replicate (IntKind.wrap .i64 ((1:Int)*2 ^ min (IntKind.wrap .u64 (SI.length:Int)).toNat 64)).toNat []:cn).length:Int)),(27,u 0)] [(68024,.cF 22 450068024 ((IntKind.wrap .i64 ((1:Int)*2 ^ min (IntKind.wrap .u64 (SI.length:Int)).toNat 64)).toNat) none),(450068024,.bp (encS 3 1 af.enc (List.replicate (IntKind.wrap .i64 ((1:Int)*2 ^ min (IntKind.wrap .u64 (SI.length:Int)).toNat 64)).toNat []:cn)))]<|A.block ?_
 obtain⟨cP,b⟩:=gC b;obtain⟨bE,bF,bx,bA,b⟩:=kV b;refine avj (hi:=((List.replicate (IntKind.wrap .i64 ((1:Int)*2 ^ min (IntKind.wrap .u64 (SI.length:Int)).toNat 64)).toNat []:cn).length:Int)) (B:=bE) (K:=bF) b rfl (λc=>λp=>[(0,aD (eF af) g),(1,u root),(2,aD af SI),(7,u g.length),(8,.own 68024),(26,u ((List.replicate (IntKind.wrap .i64 ((1:Int)*2 ^ min (IntKind.wrap .u64 (SI.length:Int)).toNat 64)).toNat []:cn).length:Int)),(27,u c)]) (λc=>λp=>[(68024,.cF 22 450068024 ((IntKind.wrap .i64 ((1:Int)*2 ^ min (IntKind.wrap .u64 (SI.length:Int)).toNat 64)).toNat) none),(450068024,.bp (encS 3 1 af.enc p))]) ?_ ?_ ?_
 .exact cq
 .rintro c dG p bJ aU b;rw[bx]at b;refine ak [] [] [(28,.d ((c:Int)<((List.replicate (IntKind.wrap .i64 ((1:Int)*2 ^ min (IntKind.wrap .u64 (SI.length:Int)).toNat 64)).toNat []:cn).length:Int)))]<|A.seq<|au3 rfl (decide_eq_true aU)<|A.skip<|A.seq<|A.block<|ak [] [28] [(9,u c)] ?_
  obtain⟨bv,b⟩:=gC b;obtain⟨dK,aW,b⟩:=aB b;refine bD [(3,ou (a:=u 0) 68033 (0:Int) af.enc (g.length:Int) rB zR rfl (λdE=>by simp[aN]) bv (by decide)),(4,hp 3 1 af.enc h7 aW),(5,AQ 3 1 167 af.enc (List.replicate ((g.length:Int)).toNat (0:Int)) hN aW)] [] [] [68024,450068024] [(68024,.cF 22 167 ((IntKind.wrap .i64 ((1:Int)*2 ^ min (IntKind.wrap .u64 (SI.length:Int)).toNat 64)).toNat) none),(167,.bp (encS 3 1 af.enc (List.set p (c:Int).toNat (List.replicate ((g.length:Int)).toNat (0:Int)))))]<|A.seq ?_
  obtain⟨z,ag,b⟩:=aB b;refine ak [(2,hp 3 1 af.enc h7 ag),(3,jf (aM:=3) (sz:=1) (enc:=af.enc) (l:=(List.set p (c:Int).toNat (List.replicate ((g.length:Int)).toNat (0:Int)))) ag hN),(4,je (aM:=3) (sz:=1) (enc:=af.enc) (l:=(List.set p (c:Int).toNat (List.replicate ((g.length:Int)).toNat (0:Int)))) ag jC.ee)] [] [(39,u z.length),(40,u 0)]<|A.block ?_
  obtain⟨cV,b⟩:=gC b;obtain⟨b4,ce,ca,cb,b⟩:=kV b;refine avj (hi:=(z.length:Int)) (B:=b4) (K:=ce) b rfl (λh=>λk=>[(0,aD (eF af) g),(1,u root),(2,aD af SI),(7,u g.length),(8,.own 68024),(9,u c),(26,u ((List.replicate (IntKind.wrap .i64 ((1:Int)*2 ^ min (IntKind.wrap .u64 (SI.length:Int)).toNat 64)).toNat []:cn).length:Int)),(27,u c),(39,u z.length),(40,u h)]) (λh=>λk=>[(68024,.cF 22 450068024 ((IntKind.wrap .i64 ((1:Int)*2 ^ min (IntKind.wrap .u64 (SI.length:Int)).toNat 64)).toNat) none),(450068024,.bp (encS 3 1 af.enc k))]) ?_ ?_ ?_
  .exact dJ [.rn 167 450068024] []
  .rintro h dI k cj aZ b;rw[ca]at b;refine ak [] [] [(41,.d ((h:Int)<z.length))]<|A.seq<|au3 rfl (decide_eq_true aZ)<|A.skip ?_
   obtain⟨bP,bW,b⟩:=dx b;refine A.J (J:=bP) (r:=r) (λO=>[(0,aD (eF af) g),(1,u root),(2,aD af SI),(7,u g.length),(8,.own 68024),(9,u c),(26,u ((List.replicate (IntKind.wrap .i64 ((1:Int)*2 ^ min (IntKind.wrap .u64 (SI.length:Int)).toNat 64)).toNat []:cn).length:Int)),(27,u c),(39,u z.length),(40,u h)]) (λO=>[(68024,.cF 22 450068024 ((IntKind.wrap .i64 ((1:Int)*2 ^ min (IntKind.wrap .u64 (SI.length:Int)).toNat 64)).toNat) none),(450068024,.bp (encS 3 1 af.enc O))]) ?_ ?_
   .refine A.block<|ak [] [41] [(10,u h)] ?_
    obtain⟨C,P,b⟩:=aB b;obtain⟨dO,aY,b⟩:=aB b;refine bD [(2,hp 3 1 af.enc h7 P),(3,jf (aM:=3) (sz:=1) (enc:=af.enc) (l:=k) P hN),(5,jR (aM:=3) (enc:=af.enc) (l:=k) P aY jC),(6,hK (aM:=3) (enc:=af.enc) (f:=(U.int .i64)) (1099511627776:Int) P aY (λ_=>rfl) rfl rfl hy)] [] [] [450068024] [(450068024,.bp (encS 3 1 af.enc (List.set k (c:Int).toNat (List.set C (h:Int).toNat (1099511627776:Int)))))]<|ak [] [] [(50,.d ((c:Int)=(0:Int)))] ?_
    rcases aV b with⟨am,b⟩|⟨am,b⟩
    .refine aT am ?_;obtain⟨a1,R,b⟩:=aB b;obtain⟨dZ,a0,b⟩:=aB b;exact c6 [(2,hp 3 1 af.enc h7 R),(3,jf (aM:=3) (sz:=1) (enc:=af.enc) (l:=(List.set k (c:Int).toNat (List.set C (h:Int).toNat (1099511627776:Int)))) R hN),(5,jR (aM:=3) (enc:=af.enc) (l:=(List.set k (c:Int).toNat (List.set C (h:Int).toNat (1099511627776:Int)))) R a0 jC),(6,hK (aM:=3) (enc:=af.enc) (f:=(U.int .i64)) (0:Int) R a0 (λ_=>rfl) rfl rfl hy)] [10,50] [] [450068024] [(450068024,.bp (encS 3 1 af.enc (List.set (List.set k (c:Int).toNat (List.set C (h:Int).toNat (1099511627776:Int))) (c:Int).toNat (List.set a1 (h:Int).toNat (0:Int)))))]<|aX (List.set (List.set k (c:Int).toNat (List.set C (h:Int).toNat (1099511627776:Int))) (c:Int).toNat (List.set a1 (h:Int).toNat (0:Int))) b
    exact aS am<|A.skip<|aX (List.set k (c:Int).toNat (List.set C (h:Int).toNat (1099511627776:Int))) b
   rintro O b;rw[bW]at b;exact bn [(0,ai (lg (by omega) aZ (of_decide_eq_true cV)))] [40] [(40,u (h+1:Int))]<|aX O b
  rintro h k cj ci b;rw[cb]at b;refine ak [] [] [(41,.d ((h:Int)<z.length))]<|A.seq<|au1 rfl (lG ci)<|A.exit<|A.seq<|ak [(1,ai (bu af SI))] [39,40,41] [(58,aD af SI),(59,u SI.length),(60,u 0)]<|A.block<|auX 2 rfl λcy=>?_
  obtain⟨cC,cG,cI,cJ,b⟩:=cZ b;refine auV (l:=SI) (cD:=0) (B:=cC) (K:=cG) b (λn=>λs=>[(0,aD (eF af) g),(1,u root),(2,aD af SI),(7,u g.length),(8,.own 68024),(9,u c),(26,u ((List.replicate (IntKind.wrap .i64 ((1:Int)*2 ^ min (IntKind.wrap .u64 (SI.length:Int)).toNat 64)).toNat []:cn).length:Int)),(27,u c),(58,aD af SI),(59,u SI.length),(60,u n)]) (λn=>λs=>[(68024,.cF 22 450068024 ((IntKind.wrap .i64 ((1:Int)*2 ^ min (IntKind.wrap .u64 (SI.length:Int)).toNat 64)).toNat) none),(450068024,.bp (encS 3 1 af.enc s))]) ?_ ?_ ?_
  .exact cq
  .rintro n aq dM s cu az b;rw[cI]at b;refine ak [] [] [(61,.d ((n:Int)<SI.length))]<|A.seq<|aT (cU az)<|A.skip ?_
   obtain⟨bL,b1,b⟩:=dx b;refine A.J (J:=bL) (r:=r) (λQ=>[(0,aD (eF af) g),(1,u root),(2,aD af SI),(7,u g.length),(8,.own 68024),(9,u c),(26,u ((List.replicate (IntKind.wrap .i64 ((1:Int)*2 ^ min (IntKind.wrap .u64 (SI.length:Int)).toNat 64)).toNat []:cn).length:Int)),(27,u c),(58,aD af SI),(59,u SI.length),(60,u n)]) (λQ=>[(68024,.cF 22 450068024 ((IntKind.wrap .i64 ((1:Int)*2 ^ min (IntKind.wrap .u64 (SI.length:Int)).toNat 64)).toNat) none),(450068024,.bp (encS 3 1 af.enc Q))]) ?_ ?_
   .refine A.block<|ak [(1,bh (ix af (cf az)))] [61] [(11,u n),(12,u aq)] ?_
    obtain⟨cp,b⟩:=gC b;refine ak [(3,.sh (IntKind.wrap .u64 (n:Int)) (of_decide_eq_true cp))] [11] [(69,.d ((c:Int)=IntKind.wrap .i64 ((1:Int)*2 ^ min (IntKind.wrap .u64 (n:Int)).toNat 64)))] ?_;rcases aV b with⟨ae,b⟩|⟨ae,b⟩
    .refine aT ae ?_;obtain⟨a3,T,b⟩:=aB b;obtain⟨ea,a4,b⟩:=aB b;exact c6 [(2,hp 3 1 af.enc h7 T),(3,jf (aM:=3) (sz:=1) (enc:=af.enc) (l:=s) T hN),(5,jR (aM:=3) (enc:=af.enc) (l:=s) T a4 jC),(6,hK (aM:=3) (enc:=af.enc) (f:=(U.int .i64)) (0:Int) T a4 (λ_=>rfl) rfl rfl hy)] [12,69] [] [450068024] [(450068024,.bp (encS 3 1 af.enc (List.set s (c:Int).toNat (List.set a3 aq.toNat (0:Int)))))]<|aX (List.set s (c:Int).toNat (List.set a3 aq.toNat (0:Int))) b
    exact aS ae<|A.skip<|aX s b
   rintro Q b;rw[b1]at b;exact bn [(0,ai (cK az cy))] [60] [(60,u ((n+1:Nat):Int))]<|aX Q b
  rintro n s cu cd b;rw[cJ]at b;refine ak [] [] [(61,.d ((n:Int)<SI.length))]<|A.seq<|aS (cT cd)<|A.exit<|A.seq<|ak [] [58,59,60,61] [(13,u 0)]<|A.block ?_
  obtain⟨c0,ep,cX,b⟩:=fQ b;refine au6 (F:=c0) b (λ(o,S)=>[(0,aD (eF af) g),(1,u root),(2,aD af SI),(7,u g.length),(8,.own 68024),(9,u c),(13,u o),(26,u ((List.replicate (IntKind.wrap .i64 ((1:Int)*2 ^ min (IntKind.wrap .u64 (SI.length:Int)).toNat 64)).toNat []:cn).length:Int)),(27,u c)]) (λ(o,S)=>[(68024,.cF 22 450068024 ((IntKind.wrap .i64 ((1:Int)*2 ^ min (IntKind.wrap .u64 (SI.length:Int)).toNat 64)).toNat) none),(450068024,.bp (encS 3 1 af.enc S))]) ?_ ?_
  .exact cq
  rintro dS ⟨o,S⟩ b;rw[cX]at b;refine A.seq<|au4 [(0,aD (eF af) g),(1,u root),(2,aD af SI),(7,u g.length),(8,.own 68024),(9,u c),(13,u o),(26,u ((List.replicate (IntKind.wrap .i64 ((1:Int)*2 ^ min (IntKind.wrap .u64 (SI.length:Int)).toNat 64)).toNat []:cn).length:Int)),(27,u c),(83,.bool ((decide (o<(g.length:Int)))&&(decide (0<(c:Int)))))] [(68024,.cF 22 450068024 ((IntKind.wrap .i64 ((1:Int)*2 ^ min (IntKind.wrap .u64 (SI.length:Int)).toNat 64)).toNat) none),(450068024,.bp (encS 3 1 af.enc S))] (λbs=>?_) ?_
  .rcases fl (decide (o<(g.length:Int)))with L|L
   .exact aG [(3,ai (be L)),(6,ai (gl (q:=decide (0<(c:Int))) L))] _ _ bs
   exact aG [(3,ai (be L)),(6,ai (gP (q:=decide (0<(c:Int))) L))] _ _ bs
  rcases aV b with⟨ar,b⟩|⟨ar,b⟩
  .refine aT ar<|A.skip<|A.seq<|A.block<|ak [] [83] [(14,u (fR .and .i64 (an ((c:Int)-(1:Int))) (c:Int)))]<|A.block ?_
   obtain⟨c3,et,cY,b⟩:=fQ b;refine au6 (F:=c3) b (λ(D,j)=>[(0,aD (eF af) g),(1,u root),(2,aD af SI),(7,u g.length),(8,.own 68024),(9,u c),(13,u o),(14,u D),(26,u ((List.replicate (IntKind.wrap .i64 ((1:Int)*2 ^ min (IntKind.wrap .u64 (SI.length:Int)).toNat 64)).toNat []:cn).length:Int)),(27,u c)]) (λ(D,j)=>[(68024,.cF 22 450068024 ((IntKind.wrap .i64 ((1:Int)*2 ^ min (IntKind.wrap .u64 (SI.length:Int)).toNat 64)).toNat) none),(450068024,.bp (encS 3 1 af.enc j))]) ?_ ?_
   .exact cq
   rintro dY ⟨D,j⟩ b;rw[cY]at b;refine A.seq<|ak [] [] [(91,.d (0<D))] ?_
   rcases aV b with⟨ao,b⟩|⟨ao,b⟩
   .refine aT ao<|A.skip<|A.seq<|A.block ?_
    obtain⟨a5,v,b⟩:=aB b;obtain⟨E,Y,b⟩:=aB b;obtain⟨eg,X,b⟩:=aB b;obtain⟨G,a9,b⟩:=aB b;obtain⟨ek,Z,b⟩:=aB b;obtain⟨I,a7,b⟩:=aB b;exact c6 [(2,hp 3 1 af.enc h7 v),(3,jf (aM:=3) (sz:=1) (enc:=af.enc) (l:=j) v hN),(7,hp 3 1 af.enc h7 v),(8,jf (aM:=3) (sz:=1) (enc:=af.enc) (l:=j) v hN),(10,jR (aM:=3) (enc:=af.enc) (l:=j) v Y jC),(11,hJ (aM:=3) (enc:=af.enc) (f:=(U.int .i64)) v Y (λ_=>rfl) hy),(14,hp 3 1 af.enc h7 X),(15,jf (aM:=3) (sz:=1) (enc:=af.enc) (l:=j) X hN),(17,jR (aM:=3) (enc:=af.enc) (l:=j) X a9 jC),(18,hJ (aM:=3) (enc:=af.enc) (f:=(U.int .i64)) X a9 (λ_=>rfl) hy),(23,hp 3 1 af.enc h7 Z),(24,jf (aM:=3) (sz:=1) (enc:=af.enc) (l:=j) Z hN),(26,jR (aM:=3) (enc:=af.enc) (l:=j) Z a7 jC),(27,hJ (aM:=3) (enc:=af.enc) (f:=(U.int .i64)) Z a7 (λ_=>rfl) hy),(30,jR (aM:=3) (enc:=af.enc) (l:=j) v Y jC),(31,hK (aM:=3) (enc:=af.enc) (f:=(U.int .i64)) (if(an (G+I))<E then an (G+I)else E) v Y (λ_=>rfl) rfl rfl hy)] [91] [] [450068024] [(450068024,.bp (encS 3 1 af.enc (List.set j (c:Int).toNat (List.set a5 o.toNat (if(an (G+I))<E then an (G+I)else E)))))]<|bn [] [14] [(14,u (fR .and .i64 (an (D-1)) (c:Int)))]<|aX (fR .and .i64 (an (D-1)) (c:Int),(List.set j (c:Int).toNat (List.set a5 o.toNat (if(an (G+I))<E then an (G+I)else E)))) b
   exact aS ao<|A.exit<|bn [] [13,14,91] [(13,u (an (o+1)))]<|aX (an (o+1),j) b
  refine aS ar<|A.exit<|ak [] [13,83] [(15,.d (0<(c:Int)))]<|A.block ?_
  obtain⟨dn,eB,dw,b⟩:=fQ b;refine au6 (F:=dn) b (λ(W,V)=>[(0,aD (eF af) g),(1,u root),(2,aD af SI),(7,u g.length),(8,.own 68024),(9,u c),(15,.bool W),(26,u ((List.replicate (IntKind.wrap .i64 ((1:Int)*2 ^ min (IntKind.wrap .u64 (SI.length:Int)).toNat 64)).toNat []:cn).length:Int)),(27,u c)]) (λ(W,V)=>[(68024,.cF 22 450068024 ((IntKind.wrap .i64 ((1:Int)*2 ^ min (IntKind.wrap .u64 (SI.length:Int)).toNat 64)).toNat) none),(450068024,.bp (encS 3 1 af.enc V))]) ?_ ?_
  .exact cq
  rintro eb ⟨W,V⟩ b;rw[dw]at b;refine A.seq<|ak [] [] [(129,.bool W)] ?_
  rcases aV b with⟨aw,b⟩|⟨aw,b⟩
  .refine aT aw<|A.skip<|A.block<|ak [] [15,129] [(15,.bool false)]<|ak [] [] [(16,u 0)]<|A.block<|auX 0 rfl λdj=>?_
   obtain⟨c7,c8,de,dh,b⟩:=cZ b;refine auV (l:=g) (cD:=0) (B:=c7) (K:=c8) b (λm=>λ(M,N)=>[(0,aD (eF af) g),(1,u root),(2,aD af SI),(7,u g.length),(8,.own 68024),(9,u c),(15,.bool M),(16,u m),(26,u ((List.replicate (IntKind.wrap .i64 ((1:Int)*2 ^ min (IntKind.wrap .u64 (SI.length:Int)).toNat 64)).toNat []:cn).length:Int)),(27,u c)]) (λm=>λ(M,N)=>[(68024,.cF 22 450068024 ((IntKind.wrap .i64 ((1:Int)*2 ^ min (IntKind.wrap .u64 (SI.length:Int)).toNat 64)).toNat) none),(450068024,.bp (encS 3 1 af.enc N))]) ?_ ?_ ?_
   .exact cq
   .rintro m dP ed ⟨M,N⟩ db H b;rw[de]at b;refine A.seq<|ak [] [] [(132,.d ((m:Int)<g.length))] ?_
    refine aT (cU H)<|A.skip<|A.seq<|A.block<|ak [] [132] [(17,u 0)]<|A.block<|auX 0 rfl λdt=>?_
    obtain⟨dq,dp,dv,dy,b⟩:=cZ b;refine auV (l:=g) (cD:=0) (B:=dq) (K:=dp) b (λt=>λ(y,i)=>[(0,aD (eF af) g),(1,u root),(2,aD af SI),(7,u g.length),(8,.own 68024),(9,u c),(15,.bool y),(16,u m),(17,u t),(26,u ((List.replicate (IntKind.wrap .i64 ((1:Int)*2 ^ min (IntKind.wrap .u64 (SI.length:Int)).toNat 64)).toNat []:cn).length:Int)),(27,u c)]) (λt=>λ(y,i)=>[(68024,.cF 22 450068024 ((IntKind.wrap .i64 ((1:Int)*2 ^ min (IntKind.wrap .u64 (SI.length:Int)).toNat 64)).toNat) none),(450068024,.bp (encS 3 1 af.enc i))]) ?_ ?_ ?_
    .exact cq
    .rintro t ec eh ⟨y,i⟩ dA br b;rw[dv]at b;refine A.seq<|ak [] [] [(137,.d ((t:Int)<g.length))] ?_
     refine aT (cU br)<|A.skip ?_
     obtain⟨bV,cz,b⟩:=dx b;refine A.J (J:=bV) (r:=r) (λ(ab,aa)=>[(0,aD (eF af) g),(1,u root),(2,aD af SI),(7,u g.length),(8,.own 68024),(9,u c),(15,.bool ab),(16,u m),(17,u t),(26,u ((List.replicate (IntKind.wrap .i64 ((1:Int)*2 ^ min (IntKind.wrap .u64 (SI.length:Int)).toNat 64)).toNat []:cn).length:Int)),(27,u c)]) (λ(ab,aa)=>[(68024,.cF 22 450068024 ((IntKind.wrap .i64 ((1:Int)*2 ^ min (IntKind.wrap .u64 (SI.length:Int)).toNat 64)).toNat) none),(450068024,.bp (encS 3 1 af.enc aa))]) ?_ ?_
     .refine A.block ?_;obtain⟨cM,cN,b⟩:=dx b;refine A.J (J:=cM) (r:=r) (λaC=>[(0,aD (eF af) g),(1,u root),(2,aD af SI),(7,u g.length),(8,.own 68024),(9,u c),(15,.bool y),(16,u m),(17,u t),(26,u ((List.replicate (IntKind.wrap .i64 ((1:Int)*2 ^ min (IntKind.wrap .u64 (SI.length:Int)).toNat 64)).toNat []:cn).length:Int)),(27,u c),(172,.bool aC)]) (λaC=>[(68024,.cF 22 450068024 ((IntKind.wrap .i64 ((1:Int)*2 ^ min (IntKind.wrap .u64 (SI.length:Int)).toNat 64)).toNat) none),(450068024,.bp (encS 3 1 af.enc i))]) ?_ ?_
      .obtain⟨bf,aE,b⟩:=aB b;rcases aV b with⟨aA,b⟩|⟨aA,b⟩
       .obtain⟨ei,w,b⟩:=aB b;obtain⟨bg,a6,b⟩:=aB b;obtain⟨bi,a8,b⟩:=aB b;exact bn [(2,bh (ix (eF af) (cf H))),(5,bh (ix af aE)),(8,ai (be aA)),(11,bh (ix (eF af) (cf H))),(14,bh (ix af aE)),(18,hp 3 1 af.enc h7 w),(19,jf (aM:=3) (sz:=1) (enc:=af.enc) (l:=i) w hN),(21,jR (aM:=3) (enc:=af.enc) (l:=i) w a6 jC),(22,hJ (aM:=3) (enc:=af.enc) (f:=(U.int .i64)) w a6 (λ_=>rfl) hy),(26,hp 3 1 af.enc h7 w),(27,jf (aM:=3) (sz:=1) (enc:=af.enc) (l:=i) w hN),(29,jR (aM:=3) (enc:=af.enc) (l:=i) w a8 jC),(30,hJ (aM:=3) (enc:=af.enc) (f:=(U.int .i64)) w a8 (λ_=>rfl) hy)] [137] [(172,.d (an (bf+bg)<bi))]<|aX (decide (an (bf+bg)<bi)) b
       exact bn [(2,bh (ix (eF af) (cf H))),(5,bh (ix af aE)),(8,ai (be aA))] [137] [(172,.bool false)]<|aX false b
      rintro aC b;rw[cN]at b;rcases aV b with⟨ax,b⟩|⟨ax,b⟩
      .refine aT ax ?_;obtain⟨bc,x,b⟩:=aB b;obtain⟨aF,cS,b⟩:=aB b;obtain⟨aI,ba,b⟩:=aB b;obtain⟨ew,bj,b⟩:=aB b;exact c6 [(2,hp 3 1 af.enc h7 x),(3,jf (aM:=3) (sz:=1) (enc:=af.enc) (l:=i) x hN),(7,bh (ix (eF af) (cf H))),(10,bh (ix af cS)),(14,hp 3 1 af.enc h7 x),(15,jf (aM:=3) (sz:=1) (enc:=af.enc) (l:=i) x hN),(17,jR (aM:=3) (enc:=af.enc) (l:=i) x ba jC),(18,hJ (aM:=3) (enc:=af.enc) (f:=(U.int .i64)) x ba (λ_=>rfl) hy),(20,jR (aM:=3) (enc:=af.enc) (l:=i) x bj jC),(21,hK (aM:=3) (enc:=af.enc) (f:=(U.int .i64)) (an (aF+aI)) x bj (λ_=>rfl) rfl rfl hy)] [15,172] [(15,.bool true)] [450068024] [(450068024,.bp (encS 3 1 af.enc (List.set i (c:Int).toNat (List.set bc (m:Int).toNat (an (aF+aI))))))]<|aX (true,(List.set i (c:Int).toNat (List.set bc (m:Int).toNat (an (aF+aI))))) b
      exact aS ax<|A.skip<|aX (y,i) b
     rintro⟨ab,aa⟩ b;rw[cz]at b;exact bn [(1,ai (cK br dt))] [17] [(17,u ((t+1:Nat):Int))]<|aX (ab,aa) b
    rintro t ⟨y,i⟩ dA dC b;rw[dy]at b;refine A.seq<|ak [] [] [(137,.d ((t:Int)<g.length))] ?_
    exact aS (cT dC)<|A.exit<|bn [(1,ai (cK H dj))] [16,17,137] [(16,u ((m+1:Nat):Int))]<|aX (y,i) b
   rintro m ⟨M,N⟩ db dc b;rw[dh]at b;refine A.seq<|ak [] [] [(132,.d ((m:Int)<g.length))] ?_
   exact aS (cT dc)<|A.exit<|aX (M,N) b
  exact aS aw<|A.exit<|bn [(0,ai (lg (by omega) aU (of_decide_eq_true cP)))] [9,15,27,129] [(27,u (c+1:Int))]<|aX V b
 rintro c p bJ ch b;rw[bA]at b;refine ak [] [] [(28,.d ((c:Int)<((List.replicate (IntKind.wrap .i64 ((1:Int)*2 ^ min (IntKind.wrap .u64 (SI.length:Int)).toNat 64)).toNat []:cn).length:Int)))]<|A.seq<|au1 rfl (lG ch)<|A.exit<|auZ (avM (d:=68024) (e:=450068024) p af.enc rfl rfl) ?_
 obtain⟨en,bl,b⟩:=aB b;obtain⟨da,dd,b⟩:=aB b;refine aG [(2,ai (bu (eF af) p)),(4,bh (ix (eF af) bl)),(5,dX 68024 0 (ix (eF af) bl)),(7,bh (ix af dd))] [(6,u da)] [] ?_;cases b;exact A.ret bk
def RO{r:Int×Int}(a:l3 t root SI=some r):bY prog 17 [] [.agg (aZ t),u root,aD af SI] (.bO [u r.1,u r.2]):=by
 refine bT func17 rfl rfl ?_;unfold l3 at a;refine aG [(0,.al 130)] [(1,u root),(2,aD af SI),(3,.ptr 130 0)] [(130,.cells 28 (aZ t))]<|A.seq ?_
 obtain⟨h,G,a⟩:=aB a;refine ak [(3,a1 (Bg G) Ap)] [] [(8,u h)]<|ak [] [] [(19,.bool (!decide (h=0)))] ?_
 rcases aV a with⟨i,a⟩|⟨i,a⟩
 .refine aT i<|aG [] [(6,u 0),(7,u h)] [] ?_
  cases a;exact A.ret bk
 refine aS i<|A.skip<|A.seq<|ak [(1,ai (bu af SI))] [8,19] [(23,.d (6<(SI.length:Int)))] ?_
 rcases aV a with⟨g,a⟩|⟨g,a⟩
 .refine aT g<|aG [] [(6,u 0),(7,u 3)] [] ?_
  cases a;exact A.ret bk
 refine aS g<|A.skip<|A.seq ?_
 obtain⟨o,n,a⟩:=aB a;refine ak [(3,a1 (G4 n) Gu)] [23] [(28,.bool (!o))] ?_;rcases aV a with⟨f,a⟩|⟨f,a⟩
 .refine aT f<|aG [] [(6,u 0),(7,u 9)] [] ?_
  cases a;exact A.ret bk
 refine aS f<|A.skip ?_
 obtain⟨b,q,a⟩:=aB a;refine bD [(1,a1 (HN q) Qy),(5,AR 17010 (fc.zero 100) zQ (by kernel_rfl)),(7,AS (fc.zero 100) b.2 uY.size)] [3,28] [(10,.ptr 17010 0),(9,aD (eF af) b.1)] [130] [(17010,.vec 114 b.2.l)]<|ak [] [] [(11,.bC)]<|A.seq<|ak [(1,ai (bu af SI))] [2] [(34,aD af SI),(35,u SI.length),(36,u 0)]<|A.block<|auX 34 rfl λC=>?_
 obtain⟨x,y,s,w,a⟩:=cZ a;refine auV (l:=SI) (cD:=0) (B:=x) (K:=y) a (λc=>λd=>[(1,u root),(9,aD (eF af) b.1),(10,.ptr 17010 0),(11,.own 131),(34,aD af SI),(35,u SI.length),(36,u c)]) (λc=>λd=>[(17010,.vec 114 b.2.l),(131,.slice 3 1 (ag af d) 0 false)]) ?_ ?_ ?_
 .exact dJ [.ad 11 131 3 1] []
 .rintro c F H d z e a;rw[s]at a;refine ak [] [] [(37,.d ((c:Int)<SI.length))]<|A.seq<|aT (cU e)<|A.skip<|A.seq<|A.block<|ak [(0,bh (ix af (cf e)))] [37] [(13,u F)] ?_
  obtain⟨I,j,a⟩:=aB a;obtain⟨k,p,a⟩:=aB a;exact c6 [(2,ov (v:=b.2) j underlying114 sizeOf3),(3,ow (v:=b.2) j hy),(5,e9 164 (ap af (bytes:=8) (by decide) p))] [11,13] [(11,.own 164)] [131] [(164,.slice 3 1 (ag af k) 0 false)]<|bn [(0,ai (cK e C))] [36] [(36,u ((c+1:Nat):Int))]<|Exists.intro k (And.intro a (dJ [.eC 164 131] []))
 rintro c d z ch a;rw[w]at a;refine ak [] [] [(37,.d ((c:Int)<SI.length))]<|A.seq<|aS (cT ch)<|A.exit ?_
 obtain⟨J,m,a⟩:=aB a;obtain⟨E,D,a⟩:=aB a;refine aG [(2,ov (v:=b.2) m underlying114 sizeOf3),(3,ow (v:=b.2) m hy),(5,bA [131] (HO D) Qz)] [(6,u E),(7,u 0)] [] ?_;cases a;exact A.ret bk
end
end Go.Proofs.YtmnbolcmepihlaaGreat
namespace Go.Proofs.YtmnbolcmepihlaaGreat
set_option linter.all false
open Go Go.Proofs.Tryz
def kg(s:Int×Int):U:=.agg [.int .i64 s.1,.int .i64 s.2]
def bw(m:List (Int×Int))(r:Int):Int:=(ay m r).getD 2305843009213693951
abbrev cN(av:kZ)(bV:List (List U))(m1:List (Int×Int))(cG:List (List U))(m2:List (Int×(Int×Int))):W:=
 [(910000000,.cells 165 [.aL false (ag cz av),.own 134,.own 150]),(134,.eR 144 bV 910000002),(910000002,.map 3 3 (bg .i64 (bW .i64) m1)),(150,.eR 166 cG 910000004),(910000004,.map 3 169 (bg .i64 kg m2))]
def BW:∀w,∃v,(zeroValue 3).run prog w=.ok v w/\∀I,aN I (bW .i64 0) v:=λw=>⟨_,zeroValue3 w,λI=>by simp[aN,bW]⟩
variable {av:kZ}{bV cG:List (List U)}{m1:List (Int×Int)}{m2:List (Int×(Int×Int))}
def qX(r:Int):bY prog 120 (cN av bV m1 cG m2) [.ptr 910000000 0,.int .i64 (bV.length:Int),.int .i64 r] (.int .i64 (bw m1 r)):=by
 refine bT func120 rfl rfl ?_;refine auT aY [] [] [(0,.ptr 910000000 0),(1,.int .i64 (bV.length:Int)),(2,.int .i64 r)] (cN av bV m1 cG m2) (by kernel_rfl) ?_;refine A.seq ?_;refine auT aY [] [(5,p1 (xs:=bV) (i:=(bV.length:Int)) rD ⟨by omega,by omega⟩),(6,gK (xs:=bV) (p:=(bV.length:Int).toNat) rC (by omega)),(8,l4 (lk (E:=3) (k:=.i64) (enc:=bW .i64) m1 r 0 BW))] [(7,.int .i64 ((ay m1 r).getD 0)),(8,.bool (ay m1 r).isSome)] (cN av bV m1 cG m2) (by kernel_rfl) ?_;refine auT aY [] [] [(7,.int .i64 ((ay m1 r).getD 0)),(21,.bool (ay m1 r).isSome)] (cN av bV m1 cG m2) (by kernel_rfl) ?_;cases b:ay m1 r with
 |some c=>
  refine au3 rfl rfl ?_;refine auT aY [] [] [(6,.int .i64 c)] (cN av bV m1 cG m2) (by kernel_rfl) ?_;refine A.ret ?_;have a:bw m1 r=c:=by unfold bw;rw[b];rfl
  rw[a];exact auW aY [] rfl (by kernel_rfl)
 |none=>
  refine au1 rfl rfl ?_;refine A.skip ?_;show ar _ _ _ _ _;refine auT aY [] [] [(6,.int .i64 2305843009213693951)] (cN av bV m1 cG m2) (by kernel_rfl) ?_;refine A.ret ?_;have a:bw m1 r=2305843009213693951:=by unfold bw;rw[b];rfl
  rw[a];exact auW aY [] rfl (by kernel_rfl)
def Fb{rows:List (List (Int×Int))}{s:Int}{m:List (Int×Int)}(r:Int)(a:bq rows s=some m):
  bY prog 120 (cN av (rows.map λm=>[.b8 (bg .i64 (bW .i64) m)]) m1 cG m2) [.ptr 910000000 0,.int .i64 s,.int .i64 r] (.int .i64 (bw m r)):=by
 obtain⟨j,g⟩:=(show 0<=s/\rows[s.toNat]?=some m by unfold bq at a;split at a;exact⟨‹_›,a⟩;cases a);have h:=(List.getElem?_eq_some_iff.1 g).1;have f:(rows.map λm=>[U.b8 (bg .i64 (bW .i64) m)])[s.toNat]?=some [.b8 (bg .i64 (bW .i64) m)]:=by rw[List.getElem?_map,g];rfl
 have e:0<=s/\s<((rows.map λm=>[U.b8 (bg .i64 (bW .i64) m)]).length:Int)+1:=by rw[List.length_map];omega
 generalize l:(rows.map λm=>[U.b8 (bg .i64 (bW .i64) m)])=bV at f e ⊢;refine bT func120 rfl rfl ?_;refine auT aY [] [] [(0,.ptr 910000000 0),(1,.int .i64 s),(2,.int .i64 r)] (cN av bV m1 cG m2) (by kernel_rfl) ?_;refine A.seq ?_;refine auT aY [] [(5,p1 (xs:=bV) (i:=s) rD e),(6,vK (xs:=bV) (p:=s.toNat) rC f),(8,g4 (k:=.i64) m r (bW .i64) 0 h3 BW)] [(7,.int .i64 ((ay m r).getD 0)),(8,.bool (ay m r).isSome)] (cN av bV m1 cG m2) (by kernel_rfl) ?_;refine auT aY [] [] [(7,.int .i64 ((ay m r).getD 0)),(21,.bool (ay m r).isSome)] (cN av bV m1 cG m2) (by kernel_rfl) ?_;cases d:ay m r with
 |some c=>
  refine au3 rfl rfl ?_;refine auT aY [] [] [(6,.int .i64 c)] (cN av bV m1 cG m2) (by kernel_rfl) ?_;refine A.ret ?_;have b:bw m r=c:=by unfold bw;rw[d];rfl
  rw[b];exact auW aY [] rfl (by kernel_rfl)
 |none=>
  refine au1 rfl rfl ?_;refine A.skip ?_;show ar _ _ _ _ _;refine auT aY [] [] [(6,.int .i64 2305843009213693951)] (cN av bV m1 cG m2) (by kernel_rfl) ?_;refine A.ret ?_;have b:bw m r=2305843009213693951:=by unfold bw;rw[d];rfl
  rw[b];exact auW aY [] rfl (by kernel_rfl)
def us(r c f e:Int)(d:bw m1 r<=c):
  cI prog 119 (cN av bV m1 cG m2) [.ptr 910000000 0,.int .i64 (bV.length:Int),.int .i64 r,.int .i64 c,.agg [.int .i64 f,.int .i64 e]] (λa b=>a=.bool false/\b=cN av bV m1 cG m2):=by
 refine bT func119 rfl rfl ?_;refine auT aY [] [(0,.al 181)] [(0,.ptr 910000000 0),(1,.int .i64 (bV.length:Int)),(2,.int .i64 r),(3,.int .i64 c)] (cN av bV m1 cG m2) (by kernel_rfl) ?_;refine A.seq ?_;refine auT aY [] [(4,a1 (qX (av:=av) (bV:=bV) (m1:=m1) (cG:=cG) (m2:=m2) r) mG)] [(16,.bool (decide (bw m1 r<=c)))] (cN av bV m1 cG m2) (by kernel_rfl) ?_;refine au3 rfl (decide_eq_true d) ?_;refine auT aY [] [] [(10,.bool false)] (cN av bV m1 cG m2) (by kernel_rfl) ?_;refine A.ret ?_;exact auW aY [] rfl (by kernel_rfl)
def HB:∀w,(zeroValue 169).run prog w=.ok (.agg #[.int .i64 0,.int .i64 0]) w:=λw=>zeroValue169 w
def HC:∀I,aN I (kg (0,0)) (.agg #[.int .i64 0,.int .i64 0]):=λI=>by
 simp only[kg,aN,bX];exact⟨_,rfl,_,_,rfl,rfl,_,_,rfl,rfl,rfl⟩
def uv(r c e b:Int)(m:cG.length=bV.length)(n:c<bw m1 r):
  cI prog 119 (cN av bV m1 cG m2) [.ptr 910000000 0,.int .i64 (bV.length:Int),.int .i64 r,.int .i64 c,.agg [.int .i64 e,.int .i64 b]] (λa h=>a=.bool true/\h=cN av bV (bc m1 r c) cG (bc m2 r (e,b))):=by
 rw[<-BU r ((ay m1 r).getD 0) c m1,<-BU r ((ay m2 r).getD (0,0)) (e,b) m2];refine bT func119 rfl rfl ?_;refine auT aY [] [(0,.al 181)] [(0,.ptr 910000000 0),(1,.int .i64 (bV.length:Int)),(2,.int .i64 r),(3,.int .i64 c),(9,.ptr 181 0)] (cN av bV m1 cG m2++[(181,.cells 169 [.int .i64 e,.int .i64 b])]) (by kernel_rfl) ?_;refine A.seq ?_;refine auT aY [] [(4,a1 (qX (av:=av) (bV:=bV) (m1:=m1) (cG:=cG) (m2:=m2) r) mG)] [(0,.ptr 910000000 0),(1,.int .i64 (bV.length:Int)),(2,.int .i64 r),(3,.int .i64 c),(9,.ptr 181 0),(16,.bool (decide (bw m1 r<=c)))] (cN av bV m1 cG m2++[(181,.cells 169 [.int .i64 e,.int .i64 b])]) (by kernel_rfl) ?_;refine au1 rfl (decide_eq_false (by omega)) ?_;refine A.skip ?_;show ar _ _ _ _ _;refine avV (d:=910000002) (K:=3) (E:=3) (bs:=bg .i64 (bW .i64) m1) rfl λf de=>?_;refine avV (d:=910000004) (K:=3) (E:=169) (bs:=bg .i64 kg m2) rfl λg aZ=>?_
 refine auT aY [] [(5,p1 (xs:=bV) (i:=(bV.length:Int)) rD ⟨by omega,by omega⟩),(6,gK (xs:=bV) (p:=(bV.length:Int).toNat) rC (by omega)),(13,p1 (xs:=cG) (i:=(bV.length:Int)) Pn ⟨by omega,by omega⟩),(14,gK (xs:=cG) (p:=(bV.length:Int).toNat) Po (by omega)),
   (18,GO (k:=.i64) r m1 (bW .i64) 0 f de h3 (λj=>zeroValue3 j) (λl=>by simp[aN,bW])),(20,fU (k:=.i64) (a0:=(ay m1 r).getD 0) r (.int .i64 0) (bc m1 r ((ay m1 r).getD 0)) (bW .i64) c f de (tg _ _ _) rfl),
   (21,GO (k:=.i64) r m2 kg (0,0) g aZ uO HB HC),(23,fU (k:=.i64) (a0:=(ay m2 r).getD (0,0)) r (.agg #[.int .i64 0,.int .i64 0]) (bc m2 r ((ay m2 r).getD (0,0))) kg (e,b) g aZ (tg _ _ _) rfl)]
  [] (cN av bV (bc (bc m1 r ((ay m1 r).getD 0)) r c) cG (bc (bc m2 r ((ay m2 r).getD (0,0))) r (e,b))) (by kernel_rfl) ?_
 refine auT aY [] [] [(10,.bool true)] (cN av bV (bc (bc m1 r ((ay m1 r).getD 0)) r c) cG (bc (bc m2 r ((ay m2 r).getD (0,0))) r (e,b))) (by kernel_rfl) ?_;refine A.ret ?_;exact auW aY [] rfl (by kernel_rfl)
end Go.Proofs.YtmnbolcmepihlaaGreat
namespace Go.Proofs.YtmnbolcmepihlaaGreat
set_option linter.all false
open Go Go.Proofs.Tryz
def BI{α:Type}{n x:Int}(v:α)(b:x≠n):∀l:List (Int×α),ay (bc l n v) x=ay l x
 |[]=>by
  have:¬n=x:=λa=>b a.symm;simp[bc,ay,this]
 |p::r=>by
  unfold bc;split
  .rename_i d;have:¬p.1=x:=λa=>b (by rw[<-a,d]);have c:¬n=x:=λa=>b a.symm;rw[fP,fP,if_neg this,if_neg c]
  .rw[fP,fP,BI v b r]
def kD(m:List (Int×Int))(r c x:Int):bw (bc m r c) x=if x=r then c else bw m x:=by
 unfold bw;split
 .rename_i a;subst a;rw[tg];rfl
 .rename_i a;rw[BI _ a]
def hh(av:kZ)(m:List (Int×Int)):Nat:=(av.map λa=>(bw m a.Hop.aO).toNat).sum
def uG{m b:List (Int×Int)}(c:∀x,bw b x<=bw m x):∀av:kZ,hh av b<=hh av m
 |[]=>Nat.le_refl _
 |a::r=>by
  have d:=uG c r;have e:=c a.Hop.aO;unfold hh at d ⊢;simp only[List.map_cons,List.sum_cons];omega
theorem zG{m d:List (Int×Int)}(e:∀x,bw d x<=bw m x){a:bm}(h:0<=bw d a.Hop.aO)(g:bw d a.Hop.aO<bw m a.Hop.aO):∀{av:kZ},a∈av->hh av d<hh av m
 |[],c=>by cases c
 |b::r,c=>by
  have i:=e b.Hop.aO;rcases List.mem_cons.1 c with rfl|c
  .have f:=uG e r;unfold hh at f ⊢
   grind
  .have f:=zG e h g c;unfold hh at f ⊢
   grind
def Kt{av:kZ}{bV:List (List U)}{m1:List (Int×Int)}{cG:List (List U)}{m2:List (Int×(Int×Int))}(L:cG.length=bV.length)(J:List (Int×Int)->List (Int×(Int×Int))->Prop)(M:J m1 m2)
  (y:∀m1 m2,J m1 m2->∀r,0<=bw m1 r/\bw m1 r<=2305843009213693951) (Q:∀a∈av,0<=a.b6/\a.b6<=1000000)
  (K:∀m1 m2 a,J m1 m2->a∈av->a.b6+bw m1 a.Hop.aJ<bw m1 a.Hop.aO->J (bc m1 a.Hop.aO (a.b6+bw m1 a.Hop.aJ)) (bc m2 a.Hop.aO (a.Hop.aJ,0))) :
  cI prog 121 (cN av bV m1 cG m2) [.ptr 910000000 0,.int .i64 (bV.length:Int)] (λa I=>a=.bO []/\∃t B,J t B/\(∀a∈av,bw t a.Hop.aO<=a.b6+bw t a.Hop.aJ)/\I=cN av bV t cG B):=by
 refine bT func121 rfl rfl ?_;refine auT aY [] [] [(0,.ptr 910000000 0),(1,.int .i64 (bV.length:Int)),(4,.bool true)] (cN av bV m1 cG m2) (by kernel_rfl) ?_;refine A.block ?_;refine A.loop (α:=List (Int×Int)×List (Int×(Int×Int))×Bool) (λd=>[(0,.ptr 910000000 0),(1,.int .i64 (bV.length:Int)),(4,.bool d.2.2)]) (λd=>cN av bV d.1 cG d.2.1) (λd=>J d.1 d.2.1/\(d.2.2=false->∀a∈av,bw d.1 a.Hop.aO<=a.b6+bw d.1 a.Hop.aJ)) (λd=>hh av d.1+(bif d.2.2 then 1 else 0)) (m1,m2,true) ⟨M,λg=>by cases g⟩ (bJ.go [] [] (by kernel_rfl)) ?_;rintro⟨h,m,i⟩ ⟨x,C⟩;simp only at x C;refine A.seq ?_;refine auT aY [] [] [(0,.ptr 910000000 0),(1,.int .i64 (bV.length:Int)),(4,.bool i),(7,.bool i)] (cN av bV h cG m) (by kernel_rfl) ?_;cases i with
 |false=>
  refine au1 rfl rfl ?_;refine A.exit ?_;refine h4.mono (auW aY [] (R:=.bO []) (σ2:=cN av bV h cG m) rfl (by kernel_rfl)) ?_;rintro a s ⟨rfl,rfl⟩;exact⟨rfl,h,m,x,C rfl,rfl⟩
 |true=>
  refine au3 rfl rfl ?_;refine A.skip ?_;show ar _ _ _ _ _;refine A.block ?_;refine auT aY [] [] [(0,.ptr 910000000 0),(1,.int .i64 (bV.length:Int)),(4,.bool false)] (cN av bV h cG m) (by kernel_rfl) ?_;refine auT aY [] [(4,ai (bu cz av))] [(0,.ptr 910000000 0),(1,.int .i64 (bV.length:Int)),(4,.bool false),(11,.aL false (ag cz av)),(12,.int .i64 (av.length:Int)),(13,.int .i64 0)] (cN av bV h cG m) (by kernel_rfl) ?_;refine A.block ?_;refine auX 11 rfl λD=>?_
  refine A.loop (α:=Nat×List (Int×Int)×List (Int×(Int×Int))×Bool) (λd=>[(0,.ptr 910000000 0),(1,.int .i64 (bV.length:Int)),(4,.bool d.2.2.2),(11,.aL false (ag cz av)),(12,.int .i64 (av.length:Int)),(13,.int .i64 (d.1:Int))]) (λd=>cN av bV d.2.1 cG d.2.2.1)
   (λd=>d.1<=av.length/\J d.2.1 d.2.2.1/\(d.2.2.2=false->(d.2.1=h/\d.2.2.1=m)/\∀n a,n<d.1->av[n]?=some a->bw h a.Hop.aO<=a.b6+bw h a.Hop.aJ)/\(d.2.2.2=true->hh av d.2.1<hh av h)/\∀j,bw d.2.1 j<=bw h j) (λd=>av.length-d.1) (0,h,m,false) ⟨Nat.zero_le _,x,λ_=>⟨⟨rfl,rfl⟩,λn a k=>by omega⟩,λg=>(by cases g),λj=>Int.le_refl _⟩ (bJ.go [] [] (by kernel_rfl)) ?_
  rintro⟨f,c,e,i⟩ ⟨G,p,o,u,bA⟩;simp only at G p o u bA;refine auT aY [] [] [(0,.ptr 910000000 0),(1,.int .i64 (bV.length:Int)),(4,.bool i),(11,.aL false (ag cz av)),(12,.int .i64 (av.length:Int)),(13,.int .i64 (f:Int)),(14,.bool (decide ((f:Int)<(av.length:Int))))] (cN av bV c cG e) (by kernel_rfl) ?_;refine A.seq ?_;by_cases v:f<av.length
  .have l:av[f]?=some av[f]:=List.getElem?_eq_getElem v;generalize av[f]=b at l;have w:b∈av:=List.mem_of_getElem? l;obtain⟨X,T⟩:=Q b w;obtain⟨W,V⟩:=y c e p b.Hop.aJ;have z:an (b.b6+bw c b.Hop.aJ)=b.b6+bw c b.Hop.aJ:=dO (by omega) (by omega);refine au3 rfl (cU l) ?_;refine A.skip ?_;show ar _ _ _ _ _;refine A.seq ?_;refine A.block ?_;refine auT aY [] [(0,bh (ix cz (cf l))),(2,.al 182)] [(0,.ptr 910000000 0),(1,.int .i64 (bV.length:Int)),(4,.bool i),(11,.aL false (ag cz av)),(12,.int .i64 (av.length:Int)),(13,.int .i64 (f:Int)),(6,.ptr 182 0)] (cN av bV c cG e++[(182,.cells 175 [.int .i64 b.Hop.aO,.int .i64 b.Hop.aJ,.int .i64 b.b6])]) (by kernel_rfl) ?_;by_cases q:b.b6+bw c b.Hop.aJ<bw c b.Hop.aO
   .refine auT aY [] [(12,a1 (qX (av:=av) (bV:=bV) (m1:=c) (cG:=cG) (m2:=e) b.Hop.aJ) mG),(13,ai (show U.int .i64 (an (b.b6+bw c b.Hop.aJ))=U.int .i64 (b.b6+bw c b.Hop.aJ)by rw[z])),(18,cS [] (uv (av:=av) (m1:=c) (m2:=e) b.Hop.aO (b.b6+bw c b.Hop.aJ) b.Hop.aJ 0 L q) nY)] [(0,.ptr 910000000 0),(1,.int .i64 (bV.length:Int)),(11,.aL false (ag cz av)),(12,.int .i64 (av.length:Int)),(13,.int .i64 (f:Int)),(35,.bool true)] (cN av bV (bc c b.Hop.aO (b.b6+bw c b.Hop.aJ)) cG (bc e b.Hop.aO (b.Hop.aJ,0))) (by kernel_rfl) ?_;refine au3 rfl rfl ?_;refine A.R aY [] [] [(0,.ptr 910000000 0),(1,.int .i64 (bV.length:Int)),(4,.bool true),(11,.aL false (ag cz av)),(12,.int .i64 (av.length:Int)),(13,.int .i64 (f:Int))] (cN av bV (bc c b.Hop.aO (b.b6+bw c b.Hop.aJ)) cG (bc e b.Hop.aO (b.Hop.aJ,0))) (by kernel_rfl) ?_;show ar _ _ _ _ _;refine A.R aY [] [(0,ai (cK l D))] [(0,.ptr 910000000 0),(1,.int .i64 (bV.length:Int)),(4,.bool true),(11,.aL false (ag cz av)),(12,.int .i64 (av.length:Int)),(13,.int .i64 ((f+1:Nat):Int))] (cN av bV (bc c b.Hop.aO (b.b6+bw c b.Hop.aJ)) cG (bc e b.Hop.aO (b.Hop.aJ,0))) (by kernel_rfl) ?_;have F:=K c e b p w q
    have E:∀j,bw (bc c b.Hop.aO (b.b6+bw c b.Hop.aJ)) j<=bw c j:=λj=>by
     rw[kD];split
     .rename_i g;subst g;omega
     .omega
    have N:hh av (bc c b.Hop.aO (b.b6+bw c b.Hop.aJ))<hh av c:=zG E (y _ _ F _).1 (by rw[kD,if_pos rfl];exact q) w;have P:hh av c<=hh av h:=uG bA av;refine⟨(f+1,bc c b.Hop.aO (b.b6+bw c b.Hop.aJ),bc e b.Hop.aO (b.Hop.aJ,0),true),⟨v,F,λg=>(by cases g),λ_=>Nat.lt_of_lt_of_le N P,λj=>Int.le_trans (E j) (bA j)⟩,by simp only;omega,bJ.go [] [] (by kernel_rfl)⟩
   .refine auT aY [] [(12,a1 (qX (av:=av) (bV:=bV) (m1:=c) (cG:=cG) (m2:=e) b.Hop.aJ) mG),(13,ai (show U.int .i64 (an (b.b6+bw c b.Hop.aJ))=U.int .i64 (b.b6+bw c b.Hop.aJ)by rw[z])),(18,cS [] (us (av:=av) (bV:=bV) (m1:=c) (cG:=cG) (m2:=e) b.Hop.aO (b.b6+bw c b.Hop.aJ) b.Hop.aJ 0 (Int.not_lt.1 q)) nY)] [(0,.ptr 910000000 0),(1,.int .i64 (bV.length:Int)),(4,.bool i),(11,.aL false (ag cz av)),(12,.int .i64 (av.length:Int)),(13,.int .i64 (f:Int)),(35,.bool false)] (cN av bV c cG e) (by kernel_rfl) ?_;refine au1 rfl rfl ?_;refine A.skip ?_;show ar _ _ _ _ _;refine A.R aY [] [(0,ai (cK l D))] [(0,.ptr 910000000 0),(1,.int .i64 (bV.length:Int)),(4,.bool i),(11,.aL false (ag cz av)),(12,.int .i64 (av.length:Int)),(13,.int .i64 ((f+1:Nat):Int))] (cN av bV c cG e) (by kernel_rfl) ?_;refine⟨(f+1,c,e,i),⟨v,p,λg=>⟨(o g).1,λn a k lH=>?_⟩,u,bA⟩,by simp only;omega,bJ.go [] [] (by kernel_rfl)⟩;rcases Nat.lt_or_eq_of_le (Nat.le_of_lt_succ k)with k|k
    .exact(o g).2 n a k lH
    .subst k;rw[l]at lH;cases lH;have:=(o g).1.1;rw[<-this];omega
  .refine au1 rfl (cT (by omega)) ?_;refine A.exit ?_;refine⟨(c,e,i),⟨p,λg a O=>?_⟩,?_,bJ.go [] [] (by kernel_rfl)⟩
   .obtain⟨⟨S,Y⟩,H⟩:=o g;obtain⟨n,k⟩:=List.getElem?_of_mem O;rw[S];exact H n a (by have:=(List.getElem?_eq_some_iff.1 k).1;omega) k
   .cases i with
    |true=>have:=u rfl;simp only[cond_true];omega
    |false=>
     have:=(o rfl).1.1;rw[this];simp only[cond_false,cond_true];omega
end Go.Proofs.YtmnbolcmepihlaaGreat
namespace Go.Proofs.YtmnbolcmepihlaaGreat
set_option linter.all false
open Go Go.Proofs.Tryz
def dA:fx (List (Int×Int)):=⟨λa=>[.b8 (bg .i64 (bW .i64) a)],1,λ_=>rfl,λ_=>rfl,λ_=>rfl⟩
def dD:fx (List (Int×(Int×Int))):=⟨λa=>[.b8 (bg .i64 kg a)],1,λ_=>rfl,λ_=>rfl,λ_=>rfl⟩
abbrev hl(o:Nat)(l:lR):W:=[(112,.cells 34 [.own o]),(o,.slice 84 2 (ag bl l) 0 false)]
def Ku{α:Type}{l r:List α}(a:l.length+r.length<=549755813888):dP l r=some (l++r):=by unfold dP;rw[if_pos (by unfold aR;exact a)]
def Kv{l:lR}(b:aQ)(d:l.length+1<=549755813888):
  cI prog 123 (hl 910000011 l) [.agg [.int .i64 b.aO,.int .i64 b.aJ],.ptr 112 0] (λa c=>a=.bO []/\c=hl 910000012 (l++[b])):=by
 have e:dP l ([b]:lR)=some (l++[b]):=Ku d;refine bT func123 rfl rfl ?_;refine auT aY [] [(0,.al 258)] [(1,.ptr 112 0),(2,.ptr 258 0)] (hl 910000011 l++[(258,.cells 84 [.int .i64 b.aO,.int .i64 b.aJ])]) (by kernel_rfl) ?_;refine A.R aY [] [(3,e9 910000014 (ap bl (bytes:=16) (by decide) e))] [] (hl 910000014 (l++[b])) (by kernel_rfl) ?_;exact auW aY [.eC 910000014 910000012] rfl (by kernel_rfl)
inductive iJ(st:List (List (Int×(Int×Int)))):Int->Int->List aQ->Prop
 |leaf {s r:Int} {m:List (Int×(Int×Int))} (h:bq st s=some m) (aI:(ay m r).getD (0,0)=(0,0)):iJ st s r []
 |next {s r:Int} {m:List (Int×(Int×Int))} {x:Int×Int} {H:lR} (h:bq st s=some m) (D:(ay m r).getD (0,0)=x) (aI:x.1≠0) (aa:iJ st s x.1 H):iJ st s r (aQ.mk r x.1::H)
 |part {s r:Int} {m:List (Int×(Int×Int))} {x:Int×Int} {H K:lR} {dw:Int} (h:bq st s=some m) (D:(ay m r).getD (0,0)=x) (h1:x.1=0) (aI:x.2≠0) (Q:dw=fR .andNot .i64 s x.2) (aa:iJ st x.2 r H) (hk:iJ st dw r K):iJ st s r (H++K)
def B1:∀w,∃v,(zeroValue 169).run prog w=.ok v w/\∀I,aN I (kg (0,0)) v:=λw=>⟨_,HB w,HC⟩
def IZ{av:kZ}{mz:List (List (Int×Int))}{st:List (List (Int×(Int×Int)))}{s r:Int}{H:lR}(j:iJ st s r H):∀{l:lR},l.length+H.length<=549755813888->
  cI prog 122 (hl 910000011 l) [.dF [.aL false (ag cz av),.aL false (ag dA mz),.aL false (ag dD st)],.int .i64 s,.int .i64 r,.fn 123 [.ptr 112 0]] (λa i=>a=.bO []/\i=hl 910000012 (l++H)):=by
 induction j with
 |@leaf s r b d c=>
  intro l _;rw[List.append_nil];refine bT func122 rfl rfl ?_;refine auT aY [] [(5,bh (ix dD d)),(8,g4 (k:=.i64) b r kg (0,0) uO B1),(9,.al 98)] [(8,.ptr 98 0)] (hl 910000011 l++[(98,.cells 169 [.int .i64 ((ay b r).getD (0,0)).1,.int .i64 ((ay b r).getD (0,0)).2])]) (by kernel_rfl) ?_;refine A.block ?_;refine auT aY [] [] [(8,.ptr 98 0),(18,.bool (!decide (((ay b r).getD (0,0)).1=(0:Int))))] (hl 910000011 l++[(98,.cells 169 [.int .i64 ((ay b r).getD (0,0)).1,.int .i64 ((ay b r).getD (0,0)).2])]) (by kernel_rfl) ?_;refine au1 rfl (by rw[c];rfl) ?_;refine auT aY [] [] [(34,.bool (!decide (((ay b r).getD (0,0)).2=(0:Int))))] (hl 910000011 l) (by kernel_rfl) ?_;refine au1 rfl (by rw[c];rfl) ?_;refine A.skip ?_;exact auW aY [.rn 910000011 910000012] rfl (by kernel_rfl)
 |@next s r b u H d e c m h=>
  intro l f;subst e;simp only[List.length_cons]at f;rw[show l++(aQ.mk r ((ay b r).getD (0,0)).1::H)=(l++[aQ.mk r ((ay b r).getD (0,0)).1])++H by simp];have p:=@h (l++[aQ.mk r ((ay b r).getD (0,0)).1]) (by simp;omega);refine bT func122 rfl rfl ?_;refine auT aY [] [(5,bh (ix dD d)),(8,g4 (k:=.i64) b r kg (0,0) uO B1),(9,.al 98)] [(0,.dF [.aL false (ag cz av),.aL false (ag dA mz),.aL false (ag dD st)]),(1,.int .i64 s),(2,.int .i64 r),(3,.fn 123 [.ptr 112 0]),(8,.ptr 98 0)] (hl 910000011 l++[(98,.cells 169 [.int .i64 ((ay b r).getD (0,0)).1,.int .i64 ((ay b r).getD (0,0)).2])]) (by kernel_rfl) ?_;refine A.block ?_;refine auT aY [] [] [(0,.dF [.aL false (ag cz av),.aL false (ag dA mz),.aL false (ag dD st)]),(1,.int .i64 s),(2,.int .i64 r),(3,.fn 123 [.ptr 112 0]),(8,.ptr 98 0),(18,.bool (!decide (((ay b r).getD (0,0)).1=(0:Int))))] (hl 910000011 l++[(98,.cells 169 [.int .i64 ((ay b r).getD (0,0)).1,.int .i64 ((ay b r).getD (0,0)).2])]) (by kernel_rfl) ?_;refine au3 rfl (by simp[c]) ?_;refine auT aY [] [(5,cS [910000012] (Kv (l:=l) (aQ.mk r ((ay b r).getD (0,0)).1) (by omega)) PC)] [(0,.dF [.aL false (ag cz av),.aL false (ag dA mz),.aL false (ag dD st)]),(1,.int .i64 s),(3,.fn 123 [.ptr 112 0]),(8,.ptr 98 0)] (hl 910000012 (l++[aQ.mk r ((ay b r).getD (0,0)).1])++[(98,.cells 169 [.int .i64 ((ay b r).getD (0,0)).1,.int .i64 ((ay b r).getD (0,0)).2])]) (by kernel_rfl) ?_;refine A.R aY [] [(5,cS [910000017] (hA.at [(910000011,910000012),(910000012,910000017)] p) uZ)] [] (hl 910000017 ((l++[aQ.mk r ((ay b r).getD (0,0)).1])++H)) (by kernel_rfl) ?_;exact auW aY [.eC 910000017 910000012] rfl (by kernel_rfl)
 |@part s r b u H K v d e h1 c g m hk o n=>
  intro l f;subst e;subst g;rw[List.length_append]at f;rw[show l++(H++K)=(l++H)++K by simp];have q:=@o l (by omega);have t:=@n (l++H) (by simp;omega);refine bT func122 rfl rfl ?_;refine auT aY [] [(5,bh (ix dD d)),(8,g4 (k:=.i64) b r kg (0,0) uO B1),(9,.al 98)] [(0,.dF [.aL false (ag cz av),.aL false (ag dA mz),.aL false (ag dD st)]),(1,.int .i64 s),(2,.int .i64 r),(3,.fn 123 [.ptr 112 0]),(8,.ptr 98 0)] (hl 910000011 l++[(98,.cells 169 [.int .i64 ((ay b r).getD (0,0)).1,.int .i64 ((ay b r).getD (0,0)).2])]) (by kernel_rfl) ?_;refine A.block ?_;refine auT aY [] [] [(0,.dF [.aL false (ag cz av),.aL false (ag dA mz),.aL false (ag dD st)]),(1,.int .i64 s),(2,.int .i64 r),(3,.fn 123 [.ptr 112 0]),(8,.ptr 98 0),(18,.bool (!decide (((ay b r).getD (0,0)).1=(0:Int))))] (hl 910000011 l++[(98,.cells 169 [.int .i64 ((ay b r).getD (0,0)).1,.int .i64 ((ay b r).getD (0,0)).2])]) (by kernel_rfl) ?_;refine au1 rfl (by simp[h1]) ?_;refine auT aY [] [] [(0,.dF [.aL false (ag cz av),.aL false (ag dA mz),.aL false (ag dD st)]),(1,.int .i64 s),(2,.int .i64 r),(3,.fn 123 [.ptr 112 0]),(8,.ptr 98 0),(34,.bool (!decide (((ay b r).getD (0,0)).2=(0:Int))))] (hl 910000011 l++[(98,.cells 169 [.int .i64 ((ay b r).getD (0,0)).1,.int .i64 ((ay b r).getD (0,0)).2])]) (by kernel_rfl) ?_;refine au3 rfl (by simp[c]) ?_;refine auT aY [] [(5,cS [910000012] q uZ)] [(0,.dF [.aL false (ag cz av),.aL false (ag dA mz),.aL false (ag dD st)]),(1,.int .i64 s),(2,.int .i64 r),(3,.fn 123 [.ptr 112 0]),(8,.ptr 98 0)] (hl 910000012 (l++H)++[(98,.cells 169 [.int .i64 ((ay b r).getD (0,0)).1,.int .i64 ((ay b r).getD (0,0)).2])]) (by kernel_rfl) ?_;refine A.R aY [] [(7,cS [910000017] (hA.at [(910000011,910000012),(910000012,910000017)] t) uZ)] [] (hl 910000017 ((l++H)++K)) (by kernel_rfl) ?_;exact auW aY [.eC 910000017 910000012] rfl (by kernel_rfl)
end Go.Proofs.YtmnbolcmepihlaaGreat
namespace Go.Proofs.YtmnbolcmepihlaaGreat
set_option linter.all false
open Go
def fv(a b:Nat):Nat:=(BitVec.ofNat 64 a &&& ~~~ BitVec.ofNat 64 b).toNat
variable {a b:Nat}
theorem yc(c:a<2 ^ 60)(d:b<2 ^ 60)(i:Nat):(fv a b).testBit i=(a.testBit i&&!b.testBit i):=by
 unfold fv;rw[BitVec.toNat_and,Nat.testBit_and,BitVec.toNat_ofNat,Nat.mod_eq_of_lt (by omega)];by_cases e:i<64
 .grind
 .have:a.testBit i=false:=Nat.testBit_lt_two_pow (Nat.lt_of_lt_of_le c (Nat.pow_le_pow_right (by omega) (by omega)));rw[this];rfl
def zu(c:a<2 ^ 60):fv a b<=a:=by
 unfold fv;rw[BitVec.toNat_and,BitVec.toNat_ofNat,Nat.mod_eq_of_lt (by omega)];exact Nat.and_le_left
def yd(d:a<2 ^ 60)(c:b<2 ^ 60):fR .and .i64 (a:Int) (b:Int)=((a &&& b:Nat):Int):=by
 have e:(a &&& b)<=a:=Nat.and_le_left;show an (((BitVec.ofInt 64 (a:Int) &&& BitVec.ofInt 64 (b:Int)).toNat:Nat):Int)=_;rw[BitVec.ofInt_natCast,BitVec.ofInt_natCast,BitVec.toNat_and,BitVec.toNat_ofNat,BitVec.toNat_ofNat,Nat.mod_eq_of_lt (by omega),Nat.mod_eq_of_lt (by omega)];exact dO (by omega) (by omega)
def BZ(c:a<2 ^ 60):fR .andNot .i64 (a:Int) (b:Int)=((fv a b:Nat):Int):=by
 have d:=zu (a:=a) (b:=b) c;show an (((BitVec.ofInt 64 (a:Int) &&& ~~~ BitVec.ofInt 64 (b:Int)).toNat:Nat):Int)=_;rw[BitVec.ofInt_natCast,BitVec.ofInt_natCast];exact dO (by show -9223372036854775808<=((fv a b:Nat):Int);omega) (by show((fv a b:Nat):Int)<=_;omega)
def ye:∀(p S q:Nat),p &&& S=p->q &&& S=q->q<p->q<=(p-1) &&& S:=by
 intro p;induction p using Nat.strongRecOn with
 |_ p l=>
  intro S q e d t
  have d2:∀a b:Nat,(a &&& b) / 2=a / 2 &&& b / 2:=λa b=>by
   have:=Nat.and_div_two_pow (a:=a) (b:=b) (n:=1);simpa using this
  have m2:∀a b:Nat,(a &&& b)%2=(a%2) &&& (b%2):=λa b=>by
   have:=Nat.and_mod_two_pow (a:=a) (b:=b) (n:=1);simpa using this
  have g:p / 2 &&& S / 2=p / 2:=by rw[<-d2,e]
  have m:q / 2 &&& S / 2=q / 2:=by rw[<-d2,d]
  have o:(q%2) &&& (S%2)=q%2:=by rw[<-m2,d]
  have u:(p%2) &&& (S%2)=p%2:=by rw[<-m2,e]
  have h:=d2 (p-1) S;have f:=m2 (p-1) S;rcases Nat.mod_two_eq_zero_or_one p with vJ|vJ
  .have c:(p-1) / 2=p / 2-1:=by omega
   have j:(p-1)%2=1:=by omega
   have s:=l (p / 2) (by omega) (S / 2) (q / 2) g m (by omega);rw[c]at h;rw[j]at f;have k:1 &&& (S%2)=S%2:=by rcases Nat.mod_two_eq_zero_or_one S with i|i<;>rw[i]<;>rfl
   rw[k]at f;have r:q%2<=S%2:=by rw[<-o];exact Nat.and_le_right
   omega
  .have c:(p-1) / 2=p / 2:=by omega
   rw[c,g]at h;omega
variable {S:Nat}
theorem xR(p:Nat):(a &&& S) &&& S=a &&& S:=by grind
theorem Kw(i:Nat):2 ^ i &&& (2 ^ i-1)=0:=by simp_all
def dQ(rows:List (List (Int×Int)))(S:Nat):List (Int×Int):=rows.getD S []
def nP(av:kZ)(ts:bH)(rows:List (List (Int×Int)))(S:Nat)(m:List (Int×Int))(v c:Int)(x:Int×Int):Prop:=
 (x.1≠0/\∃a∈av,a.Hop.aO=v/\a.Hop.aJ=x.1/\a.b6+bw m x.1<=c)\/
 (x.1=0/\∃b:Nat,x.2=(b:Int)/\0<b/\b<S/\b &&& S=b/\c=bw (dQ rows b) v+bw (dQ rows (fv S b)) v/\bw (dQ rows b) v<2305843009213693951/\bw (dQ rows (fv S b)) v<2305843009213693951)\/
 (x=(0,0)/\∃d,ts[d]?=some v/\S=2 ^ d/\c=0)
variable {Vk m:List (Int×Int)}{av:kZ}{rows:List (List (Int×Int))}{ts:bH}{x:Int×Int}
def nP.mono{v c:Int}(h:nP av ts rows S m v c x)(bA:∀r,bw Vk r<=bw m r):nP av ts rows S Vk v c x:=by
 rcases h with⟨O,a,u,F,D,Q⟩|h|h
 .have:=bA x.1;exact .inl ⟨O,a,u,F,D,by omega⟩
 .exact .inr (.inl h)
 .exact .inr (.inr h)
theorem Dm{α:Type}(n:Int)(v:α):∀l:List (Int×α),(bc l n v).map (·.1)=if n∈l.map (·.1)then l.map (·.1)else l.map (·.1)++[n]
 |[]=>by simp[bc]
 |p::r=>by
  unfold bc;by_cases a:p.1=n
  .simp[a]
  .have c:¬n=p.1:=λb=>a b.symm;rw[if_neg a,List.map_cons,Dm n v r]
   grind
theorem Lt{α:Type}{n:Int}{v:α}{l:List (Int×α)}(a:(l.map (·.1)).Nodup):((bc l n v).map (·.1)).Nodup:=by
 rw[Dm]
 grind
def Ci{α:Type}{n:Int}{v:α}:∀{l:List (Int×α)},(l.map (·.1)).Nodup->(n,v)∈l->ay l n=some v
 |[],_,a=>by cases a
 |p::r,b,a=>by
  rw[fP];simp only[List.map_cons,List.nodup_cons]at b;rcases List.mem_cons.1 a with a|a
  .rw[<-a];simp
  .have:¬p.1=n:=λc=>b.1 (List.mem_map.2 ⟨(n,v),a,c.symm⟩);rw[if_neg this];exact Ci b.2 a
theorem Cj{α:Type}{n:Int}{v:α}:∀{l:List (Int×α)},ay l n=some v->(n,v)∈l
 |[],h=>by simp[ay]at h
 |p::r,h=>by
  rw[fP]at h;split at h
  .grind
  .exact List.mem_cons.2 (.inr (Cj h))
structure gQ(av:List bm)(ts:List Int)(rows:List (List (Int×Int)))(S:Nat)(cB:Nat->Int->Prop)(m1:List (Int×Int))(m2:List (Int×(Int×Int))):Prop where
 ok:∀v c,ay m1 v=some c->(0<=c/\c<2305843009213693951)/\nP av ts rows S m1 v c ((ay m2 v).getD (0,0))
 part:∀P v,cB P v->bw m1 v<=bw (dQ rows P) v+bw (dQ rows (fv S P)) v
 nd:(m1.map (·.1)).Nodup
variable {m1:List (Int×Int)}{m2:List (Int×(Int×Int))}
def gQ.bd{cB:Nat->Int->Prop}(h:gQ av ts rows S cB m1 m2)(r:Int):0<=bw m1 r/\bw m1 r<=2305843009213693951:=by
 unfold bw;cases u:ay m1 r with
 |none=>simp
 |some c=>have:=(h.ok r c u).1;exact⟨this.1,by show c<=_;omega⟩
theorem gQ.put{cB:Nat->Int->Prop}(h:gQ av ts rows S cB m1 m2){v c:Int}(aa:0<=c)(ab:c<bw m1 v)
  (F:nP av ts rows S (bc m1 v c) v c x):gQ av ts rows S cB (bc m1 v c) (bc m2 v x):=by
 have bA:∀r,bw (bc m1 v c) r<=bw m1 r:=λr=>by
  rw[kD];split
  .grind
  .omega
 refine⟨λau d u=>?_,λP au X=>Int.le_trans (bA au) (h.part P au X),Lt h.nd⟩;by_cases D:au=v
 .subst D;rw[tg]at u ⊢;cases u;exact⟨⟨aa,by have:=(h.bd au).2;omega⟩,F⟩
 .rw[BI _ D]at u ⊢;obtain⟨Q,O⟩:=h.ok au d u;exact⟨Q,O.mono bA⟩
def gQ.nil(av:kZ)(ts:bH)(rows:List (List (Int×Int)))(S:Nat):gQ av ts rows S (λ_ _=>False) [] []:=⟨λv c h=>by simp[ay]at h,λ_ _ h=>h.elim,by simp⟩
def gQ.more{cB u:Nat->Int->Prop}(h:gQ av ts rows S cB m1 m2)(D:∀P v,u P v->bw m1 v<=bw (dQ rows P) v+bw (dQ rows (fv S P)) v):gQ av ts rows S u m1 m2:=⟨h.ok,D,h.nd⟩
structure pS(av:List bm)(ts:List Int)(rows:List (List (Int×Int)))(S:Nat)(m1:List (Int×Int))(m2:List (Int×(Int×Int))):Prop where
 j:gQ av ts rows S (λP _=>0<P/\P<S/\P &&& S=P) m1 m2
 one:∀i v,ts[i]?=some v->S=2 ^ i->bw m1 v<=0
 hop:∀a∈av,bw m1 a.Hop.aO<=a.b6+bw m1 a.Hop.aJ
structure mA(av:List bm)(ts:List Int)(rows:List (List (Int×Int)))(steps:List (List (Int×(Int×Int)))):Prop where
 len:steps.length=rows.length
 row:∀S m1 m2,rows[S]?=some m1->steps[S]?=some m2->pS av ts rows S m1 m2
theorem yf(a:S<rows.length):dQ (rows++[m]) S=dQ rows S:=by
 unfold dQ
 grind
theorem nP.app{v c:Int}(ab:S<=rows.length)(D:S<2 ^ 60)(h:nP av ts rows S m v c x):nP av ts (rows++[Vk]) S m v c x:=by
 rcases h with h|⟨aa,P,F,X,O,Q,ag,af,ai⟩|h
 .exact .inl h
 .have ak:fv S P<S:=by
   have u:=zu (a:=S) (b:=P) D;rcases Nat.lt_or_eq_of_le u with u|u
   .exact u
   .exfalso;obtain⟨i,am⟩:∃i,P.testBit i=true:=Nat.exists_testBit_of_ne_zero (by omega);have ae:=yc (a:=S) (b:=P) D (by omega) i
    grind
  refine .inr (.inl ⟨aa,P,F,X,O,Q,?_⟩);rw[yf (by omega),yf (by omega)];omega
 .exact .inr (.inr h)
theorem zv{P:Nat}(e:S<2 ^ 60)(h:0<P)(f:P<S)(g:P &&& S=P):fv S P<S:=by
 have c:=zu (a:=S) (b:=P) e;rcases Nat.lt_or_eq_of_le c with c|c
 .exact c
 .exfalso;obtain⟨d,j⟩:∃d,P.testBit d=true:=Nat.exists_testBit_of_ne_zero (by omega);have i:=yc (a:=S) (b:=P) e (by omega) d
  grind
def pS.app{av:kZ}{ts:bH}{rows:List (List (Int×Int))}{S:Nat}{m1:List (Int×Int)}{m2:List (Int×(Int×Int))}{Vk:List (Int×Int)}(O:S<=rows.length)(D:S<2 ^ 60)(h:pS av ts rows S m1 m2):pS av ts (rows++[Vk]) S m1 m2:=by
 refine⟨⟨λv c F=>?_,λP v u=>?_,h.j.nd⟩,h.one,h.hop⟩
 .obtain⟨X,Q⟩:=h.j.ok v c F;exact⟨X,Q.app O D⟩
 .have:=zv D u.1 u.2.1 u.2.2;rw[yf (by omega),yf (by omega)];exact h.j.part P v u
def mA.snoc{steps:List (List (Int×(Int×Int)))}(h:mA av ts rows steps)(aa:rows.length<2 ^ 60)(ab:pS av ts rows rows.length m1 m2):mA av ts (rows++[m1]) (steps++[m2]):=by
 refine⟨by simp[h.len],λS O Q u D=>?_⟩;by_cases F:S<rows.length
 .rw[List.getElem?_append_left F]at u;rw[List.getElem?_append_left (by rw[h.len];exact F)]at D;exact(h.row S O Q u D).app (by omega) (by omega)
 .have X:=(List.getElem?_eq_some_iff.1 u).1;simp only[List.length_append,List.length_singleton]at X;have F:S=rows.length:=by omega
  subst F;rw[List.getElem?_append_right (Nat.le_refl _)]at u;rw[List.getElem?_append_right (by rw[h.len];exact Nat.le_refl _),h.len]at D;simp at u D;subst u D;exact ab.app (Nat.le_refl _) aa
end Go.Proofs.YtmnbolcmepihlaaGreat
namespace Go.Proofs.YtmnbolcmepihlaaGreat
section
set_option linter.all false
set_option maxRecDepth 100000
open Go Go.Proofs.Tryz
structure HF(av:List bm)(root:Int)(ts:List Int)(r:List aQ×Int×Bool):Prop where
 nil:ts=[]->r=([],0,true)
 rows:ts≠[]->∃rows steps,rows.length=2 ^ ts.length/\mA av ts rows steps/\((2305843009213693951<=bw (dQ rows (2 ^ ts.length-1)) root/\r=([],0,false))\/
  (bw (dQ rows (2 ^ ts.length-1)) root<2305843009213693951/\∃H,iJ steps ((2 ^ ts.length-1:Nat):Int) root H/\gA (c9 [λx:aQ=>x.aO,λx:aQ=>x.aJ]) H=some r.1/\r.2=(bw (dQ rows (2 ^ ts.length-1)) root,true)))
def Ns{av:kZ}{rows:List (List (Int×Int))}{steps:List (List (Int×(Int×Int)))}{s:Int}{m:List (Int×Int)}(r:Int)(d:bq rows s=some m):
  bY prog 120 [] [.dF [.aL false (ag cz av),.aL false (ag dA rows),.aL false (ag dD steps)],.int .i64 s,.int .i64 r] (.int .i64 (bw m r)):=by
 refine bT func120 rfl rfl ?_;refine auT aY [] [] [(0,.dF [.aL false (ag cz av),.aL false (ag dA rows),.aL false (ag dD steps)]),(1,.int .i64 s),(2,.int .i64 r)] [] (by kernel_rfl) ?_;refine A.seq ?_;refine auT aY [] [(5,bh (ix dA d)),(8,g4 (k:=.i64) m r (bW .i64) 0 h3 BW)] [(7,.int .i64 ((ay m r).getD 0)),(8,.bool (ay m r).isSome)] [] (by kernel_rfl) ?_;refine auT aY [] [] [(7,.int .i64 ((ay m r).getD 0)),(21,.bool (ay m r).isSome)] [] (by kernel_rfl) ?_;cases b:ay m r with
 |some c=>
  refine au3 rfl rfl ?_;refine auT aY [] [] [(6,.int .i64 c)] [] (by kernel_rfl) ?_;refine A.ret ?_;have a:bw m r=c:=by unfold bw;rw[b];rfl
  rw[a];exact auW aY [] rfl (by kernel_rfl)
 |none=>
  refine au1 rfl rfl ?_;refine A.skip ?_;show ar _ _ _ _ _;refine auT aY [] [] [(6,.int .i64 2305843009213693951)] [] (by kernel_rfl) ?_;refine A.ret ?_;have a:bw m r=2305843009213693951:=by unfold bw;rw[b];rfl
  rw[a];exact auW aY [] rfl (by kernel_rfl)
def avJ{G:bQ}{α:Type}{x y:Code}{a:Exit->ah->W->Prop}{env:ah}{σ:W}(P:α->Prop)(e:α->ah)(f:α->W)(l:ar G x (kI (λd c=>∃g,P g/\bJ G d c (e g) (f g)) a) env σ)(k:∀g,P g->ar G y a (e g) (f g)):ar G (.seq x y) a env σ:=by
 refine A.seq (l.mono ?_);intro j d c b;cases j with
 |normal=>
  obtain⟨g,h,i⟩:=b;exact auZ i (k g h)
 |_=>exact b
def Iv{av:kZ}{root:Int}{ts:bH}(aI:ts.length<=6)(aE:∀a∈av,(1<=a.b6/\a.b6<=1000000)/\a.Hop.aJ≠0)
  (ba:∀rows steps,rows.length=2 ^ ts.length->mA av ts rows steps->bw (dQ rows (2 ^ ts.length-1)) root<2305843009213693951->∃H,iJ steps ((2 ^ ts.length-1:Nat):Int) root H/\H.length<=1000000/\∃P,gA (c9 [λx:aQ=>x.aO,λx:aQ=>x.aJ]) H=some P) :
  cI prog 63 [] [.aL false (ag cz av),.int .i64 root,.aL false (ag af ts)] (λa aw=>aw=[]/\∃r,HF av root ts r/\a=.bO [.aL false (ag bl r.1),.int .i64 r.2.1,.bool r.2.2]):=by
 refine bT func63 rfl rfl ?_;refine auT aY [] [] [(0,.aL false (ag cz av)),(1,.int .i64 root),(2,.aL false (ag af ts))] [] (by kernel_rfl) ?_;refine A.seq ?_;refine auT aY [] [(1,ai (bu af ts))] [(0,.aL false (ag cz av)),(1,.int .i64 root),(2,.aL false (ag af ts)),(21,.bool (decide ((ts.length:Int)=(0:Int))))] [] (by kernel_rfl) ?_;by_cases am:ts=[]
 .subst am;refine au3 rfl rfl ?_;refine auT aY [] [] [(6,.bC),(7,.int .i64 0),(8,.bool true)] [] (by kernel_rfl) ?_;refine A.ret ?_;refine h4.mono (auW aY [] (R:=.bO [.aL false (ag bl []),.int .i64 0,.bool true]) (σ2:=[]) rfl (by kernel_rfl)) ?_;rintro a s ⟨rfl,rfl⟩;exact⟨rfl,([],0,true),⟨λ_=>rfl,λh=>absurd rfl h⟩,rfl⟩
 have cX:1<=ts.length:=by cases ts with|nil=>exact absurd rfl am|cons _ _=>simp
 refine au1 rfl (decide_eq_false (by omega)) ?_;refine A.skip ?_;show ar _ _ _ _ _;have a3:2 ^ ts.length<=64:=Nat.le_trans (Nat.pow_le_pow_right (by omega) aI) (by decide);have a7:IntKind.wrap .i64 (1*2 ^ min (ts.length:Int).toNat 64)=((2 ^ ts.length:Nat):Int):=by
  rw[Int.toNat_natCast,Nat.min_eq_left (by omega),Int.one_mul];have q:((2:Int) ^ ts.length)=((2 ^ ts.length:Nat):Int):=by simp
  rw[q];generalize 2 ^ ts.length=cJ at a3 ⊢;exact dO (by omega) (by omega)
 generalize W:2 ^ ts.length=e at a7 a3 ba;refine auT aY [] [(1,ai (bu af ts)),(2,.to (.sh (ts.length:Int) (by omega)) (.int .i64 (IntKind.wrap .i64 (1*2 ^ min (ts.length:Int).toNat 64))) (.int .i64 (e:Int)) (by rw[a7]))] [(0,.aL false (ag cz av)),(1,.int .i64 root),(2,.aL false (ag af ts)),(9,.int .i64 (e:Int))] [] (by kernel_rfl) ?_;refine auT aY [] [(2,.al 910000000)] [(1,.int .i64 root),(2,.aL false (ag af ts)),(9,.int .i64 (e:Int)),(10,.ptr 910000000 0)] [(910000000,.cells 165 [.aL false (ag cz av),.bC,.bC])] (by kernel_rfl) ?_;refine A.seq ?_;refine auT aY [.ac 910000000 124 144 1 1,.ac 910000000 125 166 1 2] [] [(1,.int .i64 root),(2,.aL false (ag af ts)),(9,.int .i64 (e:Int)),(10,.ptr 910000000 0),(28,.int .i64 (e:Int)),(29,.int .i64 0)] [(910000000,.cells 165 [.aL false (ag cz av),.own 124,.own 125]),(124,.slice 144 1 (ag dA []) 0 false),(125,.slice 166 1 (ag dD []) 0 false)] (by kernel_rfl) ?_;refine A.block ?_
 refine A.loop (α:=List (List (Int×Int))×List (List (Int×(Int×Int)))) (λf=>[(1,.int .i64 root),(2,.aL false (ag af ts)),(9,.int .i64 (e:Int)),(10,.ptr 910000000 0),(28,.int .i64 (e:Int)),(29,.int .i64 (f.1.length:Int))])
  (λf=>[(910000000,.cells 165 [.aL false (ag cz av),.own 124,.own 125]),(124,.slice 144 1 (ag dA f.1) 0 false),(125,.slice 166 1 (ag dD f.2) 0 false)])
  (λf=>f.1.length<=e/\mA av ts f.1 f.2) (λf=>e-f.1.length) ([],[]) ⟨Nat.zero_le _,rfl,λb m1 m2 h=>by simp at h⟩ (bJ.go [] [] (by kernel_rfl)) ?_
 rintro⟨rows,steps⟩ ⟨hJ,hI⟩;simp only at hJ hI;refine auT aY [] [] [(1,.int .i64 root),(2,.aL false (ag af ts)),(9,.int .i64 (e:Int)),(10,.ptr 910000000 0),(28,.int .i64 (e:Int)),(29,.int .i64 (rows.length:Int)),(30,.bool (decide ((rows.length:Int)<(e:Int))))] [(910000000,.cells 165 [.aL false (ag cz av),.own 124,.own 125]),(124,.slice 144 1 (ag dA rows) 0 false),(125,.slice 166 1 (ag dD steps) 0 false)] (by kernel_rfl) ?_;refine A.seq ?_;by_cases bv:rows.length<e
 .refine au3 rfl (decide_eq_true (by omega)) ?_;refine A.skip ?_;show ar _ _ _ _ _;have cn:rows.length<64:=by omega
  have a0:steps.length=rows.length:=hI.len;generalize aD:rows.length=b at bv cn a0;refine A.seq ?_;refine A.block ?_;refine auT aY [] [] [(1,.int .i64 root),(2,.aL false (ag af ts)),(9,.int .i64 (e:Int)),(10,.ptr 910000000 0),(28,.int .i64 (e:Int)),(29,.int .i64 (b:Int)),(11,.int .i64 (b:Int))] [(910000000,.cells 165 [.aL false (ag cz av),.own 124,.own 125]),(124,.slice 144 1 (ag dA rows) 0 false),(125,.slice 166 1 (ag dD steps) 0 false)] (by kernel_rfl) ?_;refine auT aY [] [(6,.al 910000002),(7,Gf aY 910000031),(8,GQ 134 (xs:=ag dA rows) ND (by rw[g9];omega) (by rw[g9];simp only[maxLen];omega)),(13,.al 910000004),(14,Gf aY 910000033),(15,GQ 150 (xs:=ag dD steps) NF (by rw[g9];omega) (by rw[g9];simp only[maxLen];omega))] [(1,.int .i64 root),(2,.aL false (ag af ts)),(9,.int .i64 (e:Int)),(10,.ptr 910000000 0),(28,.int .i64 (e:Int)),(29,.int .i64 (b:Int)),(11,.int .i64 (b:Int))] (cN av (ag dA rows) [] (ag dD steps) []) (by kernel_rfl) ?_;have ch:(ag dA rows).length=b:=by rw[g9];exact aD
  have az:(ag dD steps).length=(ag dA rows).length:=by rw[g9,ch];exact a0
  refine avJ (λf:List (Int×Int)×List (Int×(Int×Int))=>gQ av ts rows b (λ_ _=>False) f.1 f.2/\∀i v,ts[i]?=some v->b=2 ^ i->bw f.1 v<=0) (λ_=>[(1,.int .i64 root),(2,.aL false (ag af ts)),(9,.int .i64 (e:Int)),(10,.ptr 910000000 0),(28,.int .i64 (e:Int)),(29,.int .i64 (b:Int)),(11,.int .i64 (b:Int))]) (λf=>cN av (ag dA rows) f.1 (ag dD steps) f.2) ?_ ?_
  ·
   have bY:∀i,i<ts.length->b=2 ^ i->decide (fR .and .i64 (b:Int) (an ((b:Int)-(1:Int)))=(0:Int))=true/\0<b:=λi E h=>by
    have L:0<b:=by rw[h];exact Nat.two_pow_pos i
    refine⟨decide_eq_true ?_,L⟩;rw[dO (by omega) (by omega),show(b:Int)-1=((b-1:Nat):Int)by omega,yd (by omega) (by omega),h,Kw];rfl
   have a5:∀(c:¬(decide (fR .and .i64 (b:Int) (an ((b:Int)-(1:Int)))=(0:Int))=true/\0<b)),∃f:List (Int×Int)×List (Int×(Int×Int)),(gQ av ts rows b (λ_ _=>False) f.1 f.2/\∀i v,ts[i]?=some v->b=2 ^ i->bw f.1 v<=0)/\f=([],[]):=λc=>
    ⟨([],[]),⟨gQ.nil _ _ _ _,λi v y t=>absurd (bY i (List.getElem?_eq_some_iff.1 y).1 t) c⟩,rfl⟩
   rcases fl (decide (fR .and .i64 (b:Int) (an ((b:Int)-(1:Int)))=(0:Int)))with c|c
   rotate_left
   .refine auT aY [] [(4,ai (be c))] [(1,.int .i64 root),(2,.aL false (ag af ts)),(9,.int .i64 (e:Int)),(10,.ptr 910000000 0),(28,.int .i64 (e:Int)),(29,.int .i64 (b:Int)),(11,.int .i64 (b:Int)),(60,.bool false)] (cN av (ag dA rows) [] (ag dD steps) []) (by kernel_rfl) ?_;refine au1 rfl rfl ?_;refine A.skip ?_;obtain⟨f,O,rfl⟩:=a5 (λh=>by rw[h.1]at c;cases c);exact⟨([],[]),O,bJ.go [] [] (by kernel_rfl)⟩
   refine auT aY [] [(4,ai (be c))] [(1,.int .i64 root),(2,.aL false (ag af ts)),(9,.int .i64 (e:Int)),(10,.ptr 910000000 0),(28,.int .i64 (e:Int)),(29,.int .i64 (b:Int)),(11,.int .i64 (b:Int)),(60,.bool (decide ((0:Int)<(b:Int))))] (cN av (ag dA rows) [] (ag dD steps) []) (by kernel_rfl) ?_;by_cases b4:0<b
   rotate_left
   .refine au1 rfl (decide_eq_false (by omega)) ?_;refine A.skip ?_;obtain⟨f,O,rfl⟩:=a5 (λh=>b4 h.2);exact⟨([],[]),O,bJ.go [] [] (by kernel_rfl)⟩
   refine au3 rfl (decide_eq_true (by omega)) ?_;refine auT aY [] [(1,ai (bu af ts))] [(1,.int .i64 root),(2,.aL false (ag af ts)),(9,.int .i64 (e:Int)),(10,.ptr 910000000 0),(28,.int .i64 (e:Int)),(29,.int .i64 (b:Int)),(11,.int .i64 (b:Int)),(61,.aL false (ag af ts)),(62,.int .i64 (ts.length:Int)),(63,.int .i64 0)] (cN av (ag dA rows) [] (ag dD steps) []) (by kernel_rfl) ?_;refine A.block ?_;refine auX 61 rfl λbF=>?_
   refine A.loop (α:=Nat×List (Int×Int)×List (Int×(Int×Int))) (λf=>[(1,.int .i64 root),(2,.aL false (ag af ts)),(9,.int .i64 (e:Int)),(10,.ptr 910000000 0),(28,.int .i64 (e:Int)),(29,.int .i64 (b:Int)),(11,.int .i64 (b:Int)),(61,.aL false (ag af ts)),(62,.int .i64 (ts.length:Int)),(63,.int .i64 (f.1:Int))]) (λf=>cN av (ag dA rows) f.2.1 (ag dD steps) f.2.2)
    (λf=>f.1<=ts.length/\gQ av ts rows b (λ_ _=>False) f.2.1 f.2.2/\∀i v,i<f.1->ts[i]?=some v->b=2 ^ i->bw f.2.1 v<=0) (λf=>ts.length-f.1) (0,[],[]) ⟨Nat.zero_le _,gQ.nil _ _ _ _,λi v E=>by omega⟩ (bJ.go [] [] (by kernel_rfl)) ?_
   rintro⟨j,m1,m2⟩ ⟨ak,D,K⟩;simp only at ak D K;refine auT aY [] [] [(1,.int .i64 root),(2,.aL false (ag af ts)),(9,.int .i64 (e:Int)),(10,.ptr 910000000 0),(28,.int .i64 (e:Int)),(29,.int .i64 (b:Int)),(11,.int .i64 (b:Int)),(61,.aL false (ag af ts)),(62,.int .i64 (ts.length:Int)),(63,.int .i64 (j:Int)),(64,.bool (decide ((j:Int)<(ts.length:Int))))] (cN av (ag dA rows) m1 (ag dD steps) m2) (by kernel_rfl) ?_;refine A.seq ?_;by_cases aW:j<ts.length
   rotate_left
   .refine au1 rfl (cT (by omega)) ?_;refine A.exit ?_;exact⟨(m1,m2),⟨D,λi v y t=>K i v (by have:=(List.getElem?_eq_some_iff.1 y).1;omega) y t⟩,bJ.go [] [] (by kernel_rfl)⟩
   have w:ts[j]?=some ts[j]:=List.getElem?_eq_getElem aW;generalize ts[j]=B at w;refine au3 rfl (cU w) ?_;refine A.skip ?_;show ar _ _ _ _ _;have cp:IntKind.wrap .i64 (1*2 ^ min (j:Int).toNat 64)=((2 ^ j:Nat):Int):=by
    rw[Int.toNat_natCast,Nat.min_eq_left (by omega),Int.one_mul];have bx:2 ^ j<=64:=Nat.le_trans (Nat.pow_le_pow_right (by omega) (show j<=6 by omega)) (by decide);have q:((2:Int) ^ j)=((2 ^ j:Nat):Int):=by simp
    rw[q];generalize 2 ^ j=cJ at bx ⊢;exact dO (by omega) (by omega)
   refine avJ (λf:List (Int×Int)×List (Int×(Int×Int))=>gQ av ts rows b (λ_ _=>False) f.1 f.2/\(∀x,bw f.1 x<=bw m1 x)/\(b=2 ^ j->bw f.1 B<=0)) (λ_=>[(1,.int .i64 root),(2,.aL false (ag af ts)),(9,.int .i64 (e:Int)),(10,.ptr 910000000 0),(28,.int .i64 (e:Int)),(29,.int .i64 (b:Int)),(11,.int .i64 (b:Int)),(61,.aL false (ag af ts)),(62,.int .i64 (ts.length:Int)),(63,.int .i64 (j:Int))]) (λf=>cN av (ag dA rows) f.1 (ag dD steps) f.2) ?_ ?_
   .refine A.block ?_;refine auT aY [] [(1,bh (ix af (cf w)))] [(1,.int .i64 root),(2,.aL false (ag af ts)),(9,.int .i64 (e:Int)),(10,.ptr 910000000 0),(28,.int .i64 (e:Int)),(29,.int .i64 (b:Int)),(11,.int .i64 (b:Int)),(61,.aL false (ag af ts)),(62,.int .i64 (ts.length:Int)),(63,.int .i64 (j:Int)),(12,.int .i64 (j:Int)),(13,.int .i64 B)] (cN av (ag dA rows) m1 (ag dD steps) m2) (by kernel_rfl) ?_;refine auT aY [] [(2,.to (.sh (j:Int) (by omega)) (.int .i64 (IntKind.wrap .i64 (1*2 ^ min (j:Int).toNat 64))) (.int .i64 ((2 ^ j:Nat):Int)) (by rw[cp]))] [(1,.int .i64 root),(2,.aL false (ag af ts)),(9,.int .i64 (e:Int)),(10,.ptr 910000000 0),(28,.int .i64 (e:Int)),(29,.int .i64 (b:Int)),(11,.int .i64 (b:Int)),(61,.aL false (ag af ts)),(62,.int .i64 (ts.length:Int)),(63,.int .i64 (j:Int)),(13,.int .i64 B),(71,.bool (decide ((b:Int)=((2 ^ j:Nat):Int))))] (cN av (ag dA rows) m1 (ag dD steps) m2) (by kernel_rfl) ?_;by_cases t:b=2 ^ j
    .refine au3 rfl (decide_eq_true (by rw[t])) ?_;by_cases X:0<bw m1 B
     .have Z:=D.put (v:=B) (c:=0) (x:=(0,0)) (Int.le_refl _) X (.inr (.inr ⟨rfl,j,w,t,rfl⟩));have ab:=uv (av:=av) (bV:=ag dA rows) (m1:=m1) (cG:=ag dD steps) (m2:=m2) B 0 0 0 az X;rw[ch]at ab;refine A.R aY [] [(4,cS [] ab nY)] [(1,.int .i64 root),(2,.aL false (ag af ts)),(9,.int .i64 (e:Int)),(10,.ptr 910000000 0),(28,.int .i64 (e:Int)),(29,.int .i64 (b:Int)),(11,.int .i64 (b:Int)),(61,.aL false (ag af ts)),(62,.int .i64 (ts.length:Int)),(63,.int .i64 (j:Int))] (cN av (ag dA rows) (bc m1 B 0) (ag dD steps) (bc m2 B (0,0))) (by kernel_rfl) ?_;refine⟨(bc m1 B 0,bc m2 B (0,0)),⟨Z,λx=>?_,λ_=>by rw[kD,if_pos rfl];exact Int.le_refl _⟩,bJ.go [] [] (by kernel_rfl)⟩;rw[kD];split
      .rename_i bP;subst bP;omega
      .omega
     .have Y:=us (av:=av) (bV:=ag dA rows) (m1:=m1) (cG:=ag dD steps) (m2:=m2) B 0 0 0 (by omega);rw[ch]at Y;refine A.R aY [] [(4,cS [] Y nY)] [(1,.int .i64 root),(2,.aL false (ag af ts)),(9,.int .i64 (e:Int)),(10,.ptr 910000000 0),(28,.int .i64 (e:Int)),(29,.int .i64 (b:Int)),(11,.int .i64 (b:Int)),(61,.aL false (ag af ts)),(62,.int .i64 (ts.length:Int)),(63,.int .i64 (j:Int))] (cN av (ag dA rows) m1 (ag dD steps) m2) (by kernel_rfl) ?_;exact⟨(m1,m2),⟨D,λx=>Int.le_refl _,λ_=>by show bw m1 B<=0;omega⟩,bJ.go [] [] (by kernel_rfl)⟩
    .refine au1 rfl (decide_eq_false λh=>t (by omega)) ?_;refine A.skip ?_;exact⟨(m1,m2),⟨D,λx=>Int.le_refl _,λh=>absurd h t⟩,bJ.go [] [] (by kernel_rfl)⟩
   rintro⟨J,F⟩ ⟨aR,aM,aS⟩;simp only at aR aM aS;refine A.R aY [] [(0,ai (cK w bF))] [(1,.int .i64 root),(2,.aL false (ag af ts)),(9,.int .i64 (e:Int)),(10,.ptr 910000000 0),(28,.int .i64 (e:Int)),(29,.int .i64 (b:Int)),(11,.int .i64 (b:Int)),(61,.aL false (ag af ts)),(62,.int .i64 (ts.length:Int)),(63,.int .i64 ((j+1:Nat):Int))] (cN av (ag dA rows) J (ag dD steps) F) (by kernel_rfl) ?_;refine⟨(j+1,J,F),⟨aW,aR,λi v E y t=>?_⟩,by simp only;omega,bJ.go [] [] (by kernel_rfl)⟩;rcases Nat.lt_or_eq_of_le (Nat.le_of_lt_succ E)with E|E
   .exact Int.le_trans (aM v) (K i v E y t)
   .subst E;rw[w]at y;cases y
    exact aS t
  rintro⟨m1,m2⟩ ⟨ak,aX⟩;simp only at ak aX;have cj:fR .and .i64 (an ((b:Int)-(1:Int))) (b:Int)=(((b-1) &&& b:Nat):Int):=by
   rcases Nat.eq_zero_or_pos b with X|X
   .rw[X];decide
   .rw[dO (by omega) (by omega),show(b:Int)-1=((b-1:Nat):Int)by omega,yd (by omega) (by omega)]
  refine avJ (λf:List (Int×Int)×List (Int×(Int×Int))=>gQ av ts rows b (λg _=>0<g/\g<b/\g &&& b=g) f.1 f.2/\∀i v,ts[i]?=some v->b=2 ^ i->bw f.1 v<=0) (λ_=>[(1,.int .i64 root),(2,.aL false (ag af ts)),(9,.int .i64 (e:Int)),(10,.ptr 910000000 0),(28,.int .i64 (e:Int)),(29,.int .i64 (b:Int)),(11,.int .i64 (b:Int))]) (λf=>cN av (ag dA rows) f.1 (ag dD steps) f.2) ?_ ?_
  ·
   refine auT aY [] [(3,ai (show U.int .i64 (fR .and .i64 (an ((b:Int)-(1:Int))) (b:Int))=U.int .i64 (((b-1) &&& b:Nat):Int)by rw[cj]))] [(1,.int .i64 root),(2,.aL false (ag af ts)),(9,.int .i64 (e:Int)),(10,.ptr 910000000 0),(28,.int .i64 (e:Int)),(29,.int .i64 (b:Int)),(11,.int .i64 (b:Int)),(14,.int .i64 (((b-1) &&& b:Nat):Int))] (cN av (ag dA rows) m1 (ag dD steps) m2) (by kernel_rfl) ?_;refine A.block ?_
   refine A.loop (α:=Nat×List (Int×Int)×List (Int×(Int×Int))) (λf=>[(1,.int .i64 root),(2,.aL false (ag af ts)),(9,.int .i64 (e:Int)),(10,.ptr 910000000 0),(28,.int .i64 (e:Int)),(29,.int .i64 (b:Int)),(11,.int .i64 (b:Int)),(14,.int .i64 (f.1:Int))]) (λf=>cN av (ag dA rows) f.2.1 (ag dD steps) f.2.2)
    (λf=>(f.1 &&& b=f.1/\(0<f.1->f.1<b))/\gQ av ts rows b (λg _=>f.1<g/\g<b/\g &&& b=g) f.2.1 f.2.2/\∀i v,ts[i]?=some v->b=2 ^ i->bw f.2.1 v<=0) (λf=>f.1) ((b-1) &&& b,m1,m2) ⟨⟨xR 0,λh=>?_⟩,ak.more λg v o=>?_,aX⟩ (bJ.go [] [] (by kernel_rfl)) ?_
   .have:=Nat.and_le_left (n:=b-1) (m:=b);simp only at h ⊢;omega
   .exfalso;have:=ye b b g (Nat.and_self b) o.2.2 o.2.1;simp only at o;omega
   rintro⟨p,M,N⟩ ⟨⟨ao,bf⟩,D,K⟩;simp only at ao bf D K;have done:∀(L:p=0\/b=0),gQ av ts rows b (λg _=>0<g/\g<b/\g &&& b=g) M N:=λL=>D.more λg v o=>D.part g v ⟨by omega,o.2⟩;refine A.seq ?_;rcases fl (decide ((0:Int)<(b:Int)))with c|c
   rotate_left
   .have bE:=of_decide_eq_false c;refine auT aY [] [(1,ai (be c))] [(1,.int .i64 root),(2,.aL false (ag af ts)),(9,.int .i64 (e:Int)),(10,.ptr 910000000 0),(28,.int .i64 (e:Int)),(29,.int .i64 (b:Int)),(11,.int .i64 (b:Int)),(14,.int .i64 (p:Int)),(87,.bool false)] (cN av (ag dA rows) M (ag dD steps) N) (by kernel_rfl) ?_;refine au1 rfl rfl ?_;refine A.exit ?_;exact⟨(M,N),⟨done (by omega),K⟩,bJ.go [] [] (by kernel_rfl)⟩
   have bE:=of_decide_eq_true c;refine auT aY [] [(1,ai (be c))] [(1,.int .i64 root),(2,.aL false (ag af ts)),(9,.int .i64 (e:Int)),(10,.ptr 910000000 0),(28,.int .i64 (e:Int)),(29,.int .i64 (b:Int)),(11,.int .i64 (b:Int)),(14,.int .i64 (p:Int)),(87,.bool (decide ((0:Int)<(p:Int))))] (cN av (ag dA rows) M (ag dD steps) N) (by kernel_rfl) ?_;by_cases L:0<p
   rotate_left
   .refine au1 rfl (decide_eq_false (by omega)) ?_;refine A.exit ?_;exact⟨(M,N),⟨done (by omega),K⟩,bJ.go [] [] (by kernel_rfl)⟩
   refine au3 rfl (decide_eq_true (by omega)) ?_;refine A.skip ?_;show ar _ _ _ _ _;have aA:=bf L;have aV:rows[p]?=some (dQ rows p):=by
    unfold dQ;rw[List.getD_eq_getElem?_getD,List.getElem?_eq_getElem (by omega)];rfl
   generalize S:dQ rows p=m at aV;have b1:(ag dA rows)[(p:Int).toNat]?=some [.b8 (bg .i64 (bW .i64) m)]:=by
    rw[Int.toNat_natCast];simp[ag,aV,dA]
   refine avJ (λf:List (Int×Int)×List (Int×(Int×Int))=>gQ av ts rows b (λg _=>p<=g/\g<b/\g &&& b=g) f.1 f.2/\∀i v,ts[i]?=some v->b=2 ^ i->bw f.1 v<=0) (λ_=>[(1,.int .i64 root),(2,.aL false (ag af ts)),(9,.int .i64 (e:Int)),(10,.ptr 910000000 0),(28,.int .i64 (e:Int)),(29,.int .i64 (b:Int)),(11,.int .i64 (b:Int)),(14,.int .i64 (p:Int))]) (λf=>cN av (ag dA rows) f.1 (ag dD steps) f.2) ?_ ?_
   .refine A.block ?_;have cb:fv b p<b:=zv (by omega) L aA ao;have bi:bq rows ((fv b p:Nat):Int)=some (dQ rows (fv b p)):=by
     unfold bq dQ;rw[if_pos (by omega),Int.toNat_natCast,List.getD_eq_getElem?_getD,List.getElem?_eq_getElem (by omega)];rfl
    have bj:∀G,G<b->∃F,gQ av ts rows G (λg _=>0<g/\g<G/\g &&& G=g) (dQ rows G) F:=λG c7=>by
     have aG:rows[G]?=some (dQ rows G):=by
      unfold dQ;rw[List.getD_eq_getElem?_getD,List.getElem?_eq_getElem (by omega)];rfl
     exact⟨_,(hI.row G _ _ aG (List.getElem?_eq_getElem (by omega))).j⟩
    obtain⟨da,aB⟩:=bj p aA;obtain⟨c8,a8⟩:=bj (fv b p) cb;rw[S]at aB
    refine A.seq (avo aY 7 [] [(5,p1 (xs:=ag dA rows) (i:=(p:Int)) rD ⟨by omega,by rw[ch];omega⟩),(6,vK (xs:=ag dA rows) (p:=(p:Int).toNat) rC b1)]
     [(98,.b8 (bg .i64 (bW .i64) m)),(97,.ptr 134 (p:Int).toNat),(96,.int .i64 (p:Int)),(95,.own 134),(94,.ptr 910000000 1),(93,.ptr 910000000 0),(92,.ptr 910000000 0),(1,.int .i64 root),(2,.aL false (ag af ts)),(9,.int .i64 (e:Int)),(10,.ptr 910000000 0),(28,.int .i64 (e:Int)),(29,.int .i64 (b:Int)),(11,.int .i64 (b:Int)),(14,.int .i64 (p:Int)),(87,.bool (decide ((0:Int)<(p:Int))))] (cN av (ag dA rows) M (ag dD steps) N)
     (by kernel_rfl) (by kernel_rfl) (by kernel_rfl) rfl rfl (axt (bz:=910000040) (x:=.tmp 98) (bs:=bg .i64 (bW .i64) m) rfl rfl underlying144 rfl rfl) rfl rfl ?_)
    rintro cy aw ⟨rfl,es,clock,rfl⟩;refine⟨[],_,_,rfl,?_⟩;show ar _ _ _ _ _;refine A.block ?_
    refine A.Rf (k:=.i64) (enc:=bW .i64) (l:=m) (bz:=910000040) (clock:=clock) (es:=es) (λae (f:List (Int×Int)×List (Int×(Int×Int)))=>gQ av ts rows b (λg v=>(p<g/\g<b/\g &&& b=g)\/(g=p/\∃c,(v,c)∈ae)) f.1 f.2/\∀i v,ts[i]?=some v->b=2 ^ i->bw f.1 v<=0) (M,N)
     (λ_=>[(1,.int .i64 root),(2,.aL false (ag af ts)),(9,.int .i64 (e:Int)),(10,.ptr 910000000 0),(28,.int .i64 (e:Int)),(29,.int .i64 (b:Int)),(11,.int .i64 (b:Int)),(14,.int .i64 (p:Int)),(99,.ptr 910000040 0)]) (λseen f=>cN av (ag dA rows) f.1 (ag dD steps) f.2++[(910000040,.gD es clock (bg .i64 (bW .i64) m) seen)]) ⟨rfl,rfl,rfl⟩ ⟨rfl,rfl,rfl⟩ (by kernel_rfl)
     ⟨D.more λg v o=>D.part g v (by rcases o with h|⟨_,c,I⟩;exact h;cases I),K⟩ (λ_=>rfl) (λ_ _=>rfl) (λ_ _ _=>rfl) (bJ.go [] [] (by kernel_rfl)) ?_ ?_
    .rintro seen q i n v ae ⟨u,C⟩ t a4 ⟨z,Q⟩;simp only at z Q;refine A.block ?_;refine auT aY [] [(0,r3 910000040 clock .i64 seen (bW .i64) t a4)] [(1,.int .i64 root),(2,.aL false (ag af ts)),(9,.int .i64 (e:Int)),(10,.ptr 910000000 0),(28,.int .i64 (e:Int)),(29,.int .i64 (b:Int)),(11,.int .i64 (b:Int)),(14,.int .i64 (p:Int)),(99,.ptr 910000040 0),(15,.int .i64 n),(16,.int .i64 v)] (cN av (ag dA rows) u (ag dD steps) C++[(910000040,.gD es clock (bg .i64 (bW .i64) m) (seen.push q.born))]) (by kernel_rfl) ?_;have a9:ay m n=some v:=Ci aB.nd (List.mem_of_getElem? a4);have y:=(aB.ok n v a9).1;have aq:bw m n=v:=by unfold bw;rw[a9];rfl
     have cV:=a8.bd n;have cY:=z.bd n;have bk:an (v+bw (dQ rows (fv b p)) n)=v+bw (dQ rows (fv b p)) n:=dO (by omega) (by omega)
     have aT:∀{x:Int} {c:Int},(x,c)∈ae++[(n,v)]->(∃c,(x,c)∈ae)\/x=n:=λ{x c} h=>by
      rcases List.mem_append.1 h with h|h
      .exact .inl ⟨c,h⟩
      .simp at h;exact .inr h.1
     by_cases V:v+bw (dQ rows (fv b p)) n<bw u n
     .have ab:=uv (av:=av) (bV:=ag dA rows) (m1:=u) (cG:=ag dD steps) (m2:=C) n (v+bw (dQ rows (fv b p)) n) 0 (p:Int) az V;rw[ch]at ab;have Z:=z.put (v:=n) (c:=v+bw (dQ rows (fv b p)) n) (x:=(0,(p:Int))) (by omega) V (.inr (.inl ⟨rfl,p,rfl,L,aA,ao,by rw[S,aq],by rw[S,aq];exact y.2,by omega⟩))
      refine A.R aY [] [(7,ai (show U.int .i64 (fR .andNot .i64 (b:Int) (p:Int))=U.int .i64 ((fv b p:Nat):Int)by rw[BZ (by omega)])),(9,a1 (Fb (av:=av) (rows:=rows) (m1:=u) (cG:=ag dD steps) (m2:=C) n bi) mG),(10,ai (show U.int .i64 (an (v+bw (dQ rows (fv b p)) n))=U.int .i64 (v+bw (dQ rows (fv b p)) n)by rw[bk])),(13,cS [] ab nY)]
       [(1,.int .i64 root),(2,.aL false (ag af ts)),(9,.int .i64 (e:Int)),(10,.ptr 910000000 0),(28,.int .i64 (e:Int)),(29,.int .i64 (b:Int)),(11,.int .i64 (b:Int)),(14,.int .i64 (p:Int)),(99,.ptr 910000040 0)] (cN av (ag dA rows) (bc u n (v+bw (dQ rows (fv b p)) n)) (ag dD steps) (bc C n (0,(p:Int)))++[(910000040,.gD es clock (bg .i64 (bW .i64) m) (seen.push q.born))]) (by kernel_rfl) ?_
      have bA:∀x,bw (bc u n (v+bw (dQ rows (fv b p)) n)) x<=bw u x:=λx=>by
       rw[kD];split
       .rename_i w;subst w;omega
       .omega
      refine⟨(bc u n (v+bw (dQ rows (fv b p)) n),bc C n (0,(p:Int))),⟨Z.more λg x o=>?_,λi x w E=>Int.le_trans (bA x) (Q i x w E)⟩,bJ.go [] [] (by kernel_rfl)⟩;rcases o with o|⟨rfl,c,I⟩
      .exact Z.part g x (.inl o)
      .rcases aT I with I|rfl
       .exact Z.part _ x (.inr ⟨rfl,I⟩)
       .rw[S,aq,kD,if_pos rfl];exact Int.le_refl _
     .have Y:=us (av:=av) (bV:=ag dA rows) (m1:=u) (cG:=ag dD steps) (m2:=C) n (v+bw (dQ rows (fv b p)) n) 0 (p:Int) (by omega);rw[ch]at Y
      refine A.R aY [] [(7,ai (show U.int .i64 (fR .andNot .i64 (b:Int) (p:Int))=U.int .i64 ((fv b p:Nat):Int)by rw[BZ (by omega)])),(9,a1 (Fb (av:=av) (rows:=rows) (m1:=u) (cG:=ag dD steps) (m2:=C) n bi) mG),(10,ai (show U.int .i64 (an (v+bw (dQ rows (fv b p)) n))=U.int .i64 (v+bw (dQ rows (fv b p)) n)by rw[bk])),(13,cS [] Y nY)]
       [(1,.int .i64 root),(2,.aL false (ag af ts)),(9,.int .i64 (e:Int)),(10,.ptr 910000000 0),(28,.int .i64 (e:Int)),(29,.int .i64 (b:Int)),(11,.int .i64 (b:Int)),(14,.int .i64 (p:Int)),(99,.ptr 910000040 0)] (cN av (ag dA rows) u (ag dD steps) C++[(910000040,.gD es clock (bg .i64 (bW .i64) m) (seen.push q.born))]) (by kernel_rfl) ?_
      refine⟨(u,C),⟨z.more λg x o=>?_,Q⟩,bJ.go [] [] (by kernel_rfl)⟩;rcases o with o|⟨rfl,c,I⟩
      .exact z.part g x (.inl o)
      .rcases aT I with I|rfl
       .exact z.part _ x (.inr ⟨rfl,I⟩)
       .rw[S,aq];omega
    .rintro seen ae ⟨u,C⟩ ca ⟨z,Q⟩;simp only at z Q;refine⟨(u,C),⟨z.more λg x o=>?_,Q⟩,bJ.go [] [] (by kernel_rfl)⟩;rcases Nat.lt_or_eq_of_le o.1 with h|h
     .exact z.part g x (.inl ⟨h,o.2⟩)
     .subst h;cases O:ay m x with
      |some c=>exact z.part _ x (.inr ⟨rfl,c,ca.mem_iff.2 (Cj O)⟩)
      |none=>
       have aG:bw m x=2305843009213693951:=by unfold bw;rw[O];rfl
       have cM:=(z.bd x).2;have cP:=(a8.bd x).1;rw[S,aG];omega
   rintro⟨J,F⟩ ⟨je,aa⟩;simp only at je aa;have bL:fR .and .i64 (an ((p:Int)-(1:Int))) (b:Int)=(((p-1) &&& b:Nat):Int):=by
    rw[dO (by omega) (by omega),show(p:Int)-1=((p-1:Nat):Int)by omega,yd (by omega) (by omega)]
   refine A.R aY [] [(3,ai (show U.int .i64 (fR .and .i64 (an ((p:Int)-(1:Int))) (b:Int))=U.int .i64 (((p-1) &&& b:Nat):Int)by rw[bL]))] [(1,.int .i64 root),(2,.aL false (ag af ts)),(9,.int .i64 (e:Int)),(10,.ptr 910000000 0),(28,.int .i64 (e:Int)),(29,.int .i64 (b:Int)),(11,.int .i64 (b:Int)),(14,.int .i64 (((p-1) &&& b:Nat):Int))] (cN av (ag dA rows) J (ag dD steps) F) (by kernel_rfl) ?_;have bA:=Nat.and_le_left (n:=p-1) (m:=b);refine⟨((p-1) &&& b,J,F),⟨⟨xR 0,λ_=>by show(p-1) &&& b<b;omega⟩,je.more λg v o=>je.part g v ⟨?_,o.2⟩,aa⟩,by simp only;omega,bJ.go [] [] (by kernel_rfl)⟩;have c3:(p-1) &&& b<g:=o.1;apply Classical.byContradiction;intro c0;have:=ye p b g ao o.2.2 (by omega);omega
  rintro⟨J,F⟩ ⟨je,aa⟩;simp only at je aa
  have a6:=Kt (av:=av) (bV:=ag dA rows) (m1:=J) (cG:=ag dD steps) (m2:=F) az (λa aF=>gQ av ts rows b (λg _=>0<g/\g<b/\g &&& b=g) a aF/\∀i v,ts[i]?=some v->b=2 ^ i->bw a v<=0) ⟨je,aa⟩ (λa aF h r=>h.1.bd r) (λa h=>by have:=(aE a h).1;omega) (λa aF q h t V=>by
   have ax:=(aE q t).1;have cZ:=h.1.bd q.Hop.aJ;have cd:q.Hop.aJ≠q.Hop.aO:=λbD=>by rw[bD]at V;omega
   refine⟨h.1.put (by omega) V (.inl ⟨(aE q t).2,q,t,rfl,rfl,?_⟩),λi v y E=>?_⟩
   .show q.b6+bw (bc a q.Hop.aO (q.b6+bw a q.Hop.aJ)) q.Hop.aJ<=_;rw[kD,if_neg cd];exact Int.le_refl _
   .have:=h.2 i v y E;rw[kD];split
    .rename_i w;subst w;omega
    .exact this)
  rw[ch]at a6;refine avo aY 2 [] [] [(120,.int .i64 (b:Int)),(119,.ptr 910000000 0),(1,.int .i64 root),(2,.aL false (ag af ts)),(9,.int .i64 (e:Int)),(10,.ptr 910000000 0),(28,.int .i64 (e:Int)),(29,.int .i64 (b:Int)),(11,.int .i64 (b:Int))] (cN av (ag dA rows) J (ag dD steps) F) (by kernel_rfl) (by kernel_rfl) (by kernel_rfl) rfl rfl (avR [] rfl rfl rfl rfl rfl rfl ?_ a6 FQ) rfl rfl ?_
  .rintro r σ2 ⟨rfl,de,aZ,_,_,rfl⟩;exact⟨rfl,rfl⟩
  rintro cy aw ⟨σ2,⟨rfl,de,aZ,⟨aI,ci⟩,cq,rfl⟩,rfl⟩;refine⟨[],_,_,rfl,?_⟩;show ar _ _ _ _ _;refine A.R aY [] [(0,ai (show U.int .i64 (an ((b:Int)+(1:Int)))=U.int .i64 (((rows++[de]).length:Nat):Int)by rw[dO (by omega) (by omega),List.length_append,aD];simp))] [(1,.int .i64 root),(2,.aL false (ag af ts)),(9,.int .i64 (e:Int)),(10,.ptr 910000000 0),(28,.int .i64 (e:Int)),(29,.int .i64 (((rows++[de]).length:Nat):Int))] (cN av (ag dA rows) de (ag dD steps) aZ) (by kernel_rfl) ?_;have cC:ag dA (rows++[de])=ag dA rows++[[.b8 (bg .i64 (bW .i64) de)]]:=by simp[ag,dA]
  have cD:ag dD (steps++[aZ])=ag dD steps++[[.b8 (bg .i64 kg aZ)]]:=by simp[ag,dD]
  refine⟨(rows++[de],steps++[aZ]),⟨by simp only[List.length_append,List.length_singleton];omega,hI.snoc (by omega) (by rw[aD];exact⟨aI,ci,cq⟩)⟩,by simp only[List.length_append,List.length_singleton];omega,?_⟩;show bJ _ _ _ _ [(910000000,.cells 165 [.aL false (ag cz av),.own 124,.own 125]),(124,.slice 144 1 (ag dA (rows++[de])) 0 false),(125,.slice 166 1 (ag dD (steps++[aZ])) 0 false)];rw[cC,cD]
  exact(bJ.go (cu:=[(1,.int .i64 root),(2,.aL false (ag af ts)),(9,.int .i64 (e:Int)),(10,.ptr 910000000 0),(28,.int .i64 (e:Int)),(29,.int .i64 (((rows++[de]).length:Nat):Int))]) (σ2:=[(910000000,.cells 165 [.aL false (ag cz av),.own 134,.own 150]),(134,.eR 144 (ag dA rows) 910000002),(910000002,.gM 3 3 (bg .i64 (bW .i64) de)),(150,.eR 166 (ag dD steps) 910000004),(910000004,.gM 3 169 (bg .i64 kg aZ))]) [.bK [910000002,910000004]] [] (by kernel_rfl)).trans
   ((av2 134 910000002 rfl rfl).trans ((av2 150 910000004 rfl rfl).trans (bJ.go [.eC 134 124,.eC 150 125] [] (by kernel_rfl))))
 .refine au1 rfl (decide_eq_false (by omega)) ?_;refine A.exit ?_;show ar _ _ _ _ _;have hK:rows.length=e:=by omega
  have dM:1<=e:=by rw[<-W];exact Nat.two_pow_pos _
  have ce:bq rows ((e-1:Nat):Int)=some (dQ rows (e-1)):=by
   unfold bq dQ;rw[if_pos (by omega),Int.toNat_natCast,List.getD_eq_getElem?_getD,List.getElem?_eq_getElem (by omega)];rfl
  have bn:an ((e:Int)-(1:Int))=((e-1:Nat):Int):=by rw[dO (by omega) (by omega)];omega
  refine auZ ((bJ.go (cu:=[(1,.int .i64 root),(9,.int .i64 (e:Int)),(10,.ptr 910000000 0)]) (σ2:=[(910000000,.cells 165 [.aL false (ag cz av),.aL false (ag dA rows),.aL false (ag dD steps)])]) [.bK [124,125],.sc 910000000 []] [] (by kernel_rfl)).trans
   (avy (T:=165) (cs:=[.aL false (ag cz av),.aL false (ag dA rows),.aL false (ag dD steps)]) 10 910000000 rfl rfl rfl)) ?_
  refine auT aY [] [(2,ai (show U.int .i64 (an ((e:Int)-(1:Int)))=U.int .i64 ((e-1:Nat):Int)by rw[bn])),(4,a1 (Ns (av:=av) (rows:=rows) (steps:=steps) root ce) mG)] [(1,.int .i64 root),(9,.int .i64 (e:Int)),(10,.dF [.aL false (ag cz av),.aL false (ag dA rows),.aL false (ag dD steps)]),(17,.int .i64 (bw (dQ rows (e-1)) root))] [] (by kernel_rfl) ?_;refine A.seq ?_;refine auT aY [] [] [(1,.int .i64 root),(9,.int .i64 (e:Int)),(10,.dF [.aL false (ag cz av),.aL false (ag dA rows),.aL false (ag dD steps)]),(17,.int .i64 (bw (dQ rows (e-1)) root)),(129,.bool (decide ((2305843009213693951:Int)<=bw (dQ rows (e-1)) root)))] [] (by kernel_rfl) ?_;by_cases aC:2305843009213693951<=bw (dQ rows (e-1)) root
  .refine au3 rfl (decide_eq_true aC) ?_;refine auT aY [] [] [(6,.bC),(7,.int .i64 0),(8,.bool false)] [] (by kernel_rfl) ?_;refine A.ret ?_;refine h4.mono (auW aY [] (R:=.bO [.aL false (ag bl []),.int .i64 0,.bool false]) (σ2:=[]) rfl (by kernel_rfl)) ?_;rintro a s ⟨rfl,rfl⟩;exact⟨rfl,([],0,false),⟨λh=>absurd h am,λ_=>⟨rows,steps,by rw[W];exact hK,hI,by rw[W];exact .inl ⟨aC,rfl⟩⟩⟩,rfl⟩
  .refine au1 rfl (decide_eq_false aC) ?_;refine A.skip ?_;show ar _ _ _ _ _;obtain⟨H,ax,c6,P,br⟩:=ba rows steps hK hI (by omega);have aU:=IZ (av:=av) (mz:=rows) ax (l:=[]) (by simp;omega);rw[List.nil_append]at aU;refine auT aY [] [(0,.al 112)] [(1,.int .i64 root),(9,.int .i64 (e:Int)),(10,.dF [.aL false (ag cz av),.aL false (ag dA rows),.aL false (ag dD steps)]),(17,.int .i64 (bw (dQ rows (e-1)) root)),(18,.ptr 112 0)] [(112,.cells 34 [.bC])] (by kernel_rfl) ?_;refine auT aY [.ac 112 910000011 84 2 0] [(2,ai (show U.int .i64 (an ((e:Int)-(1:Int)))=U.int .i64 ((e-1:Nat):Int)by rw[bn])),(5,cS [910000012] aU uZ)] [(17,.int .i64 (bw (dQ rows (e-1)) root)),(18,.ptr 112 0)] (hl 910000012 H) (by kernel_rfl) ?_;refine auT aY [] [(1,cS [] (Kl (d:=910000012) (T:=84) br) FR)] [(17,.int .i64 (bw (dQ rows (e-1)) root)),(18,.ptr 112 0)] (hl 910000012 P) (by kernel_rfl) ?_;refine auT aY [] [] [(6,.own 910000012),(7,.int .i64 (bw (dQ rows (e-1)) root)),(8,.bool true)] [(910000012,.slice 84 2 (ag bl P) 0 false)] (by kernel_rfl) ?_;refine A.ret ?_;refine h4.mono (auW aY [.bK [910000012]] (R:=.bO [.aL false (ag bl P),.int .i64 (bw (dQ rows (e-1)) root),.bool true]) (σ2:=[]) rfl (by kernel_rfl)) ?_;rintro a s ⟨rfl,rfl⟩;exact⟨rfl,(P,bw (dQ rows (e-1)) root,true),⟨λh=>absurd h am,λ_=>⟨rows,steps,by rw[W];exact hK,hI,by rw[W];exact .inr ⟨by omega,H,ax,br,rfl⟩⟩⟩,rfl⟩
end
end Go.Proofs.YtmnbolcmepihlaaGreat
namespace Go.Proofs.YtmnbolcmepihlaaGreat
set_option linter.all false
open Go
def tC{m:List (Int×Int)}{v:Int}(a:bw m v<2305843009213693951):ay m v=some (bw m v):=by
 unfold bw at a ⊢;cases b:ay m v with
 |none=>rw[b]at a;simp at a
 |some c=>rfl
def Kb{m:List (Int×Int)}{v c:Int}(a:ay m v=some c):bw m v=c:=by unfold bw;rw[a];rfl
def tV{α:Type}{l:List α}{S:Nat}(a:S<l.length):∃x,l[S]?=some x:=⟨l[S],List.getElem?_eq_getElem a⟩
def Ex{rows:List (List (Int×Int))}{S:Nat}{m:List (Int×Int)}(a:rows[S]?=some m):dQ rows S=m:=by
 unfold dQ;rw[List.getD_eq_getElem?_getD,a];rfl
theorem Ja{S P:Nat}(d:S<2 ^ 60)(h:P<S)(e:P &&& S=P):P &&& fv S P=0/\P ||| fv S P=S:=by
 have f:=yc (a:=S) (b:=P) d (by omega);have g:∀c,(P.testBit c&&S.testBit c)=P.testBit c:=λc=>by rw[<-Nat.testBit_and,e]
 constructor
 .apply Nat.eq_of_testBit_eq
  grind
 .apply Nat.eq_of_testBit_eq
  grind
theorem JY{S P R:Nat}(d:S<2 ^ 60)(e:P<2 ^ 60)(f:P &&& R=0)(g:P ||| R=S):R=fv S P/\P &&& S=P:=by
 have h:=yc (a:=S) (b:=P) d e;have j:∀c,(P.testBit c&&R.testBit c)=false:=λc=>by rw[<-Nat.testBit_and,f,Nat.zero_testBit]
 have i:∀c,(P.testBit c||R.testBit c)=S.testBit c:=λc=>by rw[<-Nat.testBit_or,g]
 constructor
 .apply Nat.eq_of_testBit_eq
  grind
 .grind
section
variable {av:kZ}{ts:bH}{rows:List (List (Int×Int))}{steps:List (List (Int×(Int×Int)))}
theorem Dz(C:mA av ts rows steps)(I:lN av)(V:rows.length<=64):∀(S:Nat),S<rows.length->∀(n:Nat) (v c:Int),c.toNat=n->ay (dQ rows S) v=some c->∃b,g0 cR av ts.length (λi=>ts.getD i 0) S v b/\dU cR b=c/\iJ steps (S:Int) v (b.map (·.Hop)):=by
 intro S;induction S using Nat.strongRecOn with
 |_ S A=>
  intro x n;induction n using Nat.strongRecOn with
  |_ n B=>
   intro v c X j;obtain⟨u,z⟩:=tV x;obtain⟨g,y⟩:=tV (l:=steps) (S:=S) (by rw[C.len];exact x);have q:=C.row S u g z y;rw[Ex z]at j B;obtain⟨⟨W,r1⟩,K⟩:=q.j.ok v c j;have r:bq steps (S:Int)=some g:=by unfold bq;rw[if_pos (by omega),Int.toNat_natCast];exact y
   rcases K with⟨h,a,s,d,e,f⟩|⟨h,P,d,e,f,w,D,H,F⟩|⟨h,i,d,e,f⟩
   .have U:=I.cost a s;have O:=q.hop a s;rw[d,e,Kb j]at O;have J:bw u ((ay g v).getD (0,0)).1=c-a.b6:=by omega
    have Q:ay u ((ay g v).getD (0,0)).1=some (c-a.b6):=by rw[<-J];exact tC (by omega)
    have T:=(q.j.bd ((ay g v).getD (0,0)).1).1;obtain⟨b,o,m,p⟩:=B (c-a.b6).toNat (by omega) _ (c-a.b6) rfl Q;refine⟨a::b,?_,by rw[jT,m];show a.b6+_=_;omega,?_⟩
    .have:=g0.hop (N:=cR) a s (show g0 cR av ts.length (λi=>ts.getD i 0) S (cR.dst a) b by show g0 _ _ _ _ S a.Hop.aJ b;rw[e];exact o);have t:cR.src a=v:=d
     grind
    .have t:(a::b).map (·.Hop)=aQ.mk v ((ay g v).getD (0,0)).1::b.map (·.Hop):=by
      rw[List.map_cons,<-e,<-d]
     rw[t];exact iJ.next r rfl h p
   .have G:=zv (by omega) e f w;obtain⟨b,o,m,p⟩:=A P f (by omega) _ v _ rfl (tC H);obtain⟨M,de,aZ,ec⟩:=A (fv S P) G (by omega) _ v _ rfl (tC F);obtain⟨E,R⟩:=Ja (S:=S) (P:=P) (by omega) f w;refine⟨b++M,?_,by rw[Cg,m,aZ,D],?_⟩
    .have:=g0.part E o de
     grind
    .rw[List.map_append];refine iJ.part r rfl h (by rw[d];omega) rfl (by rw[d];exact p) ?_;rw[d,BZ (by omega)];exact ec
   .refine⟨[],?_,by rw[f];rfl,iJ.leaf r h⟩;have t:ts.getD i 0=v:=by rw[List.getD_eq_getElem?_getD,d];rfl
    have:=g0.one (N:=cR) (L:=av) (k:=ts.length) (ts:=λi=>ts.getD i 0) i (List.getElem?_eq_some_iff.1 d).1
    grind
theorem Kc(m:mA av ts rows steps)(p:lN av)(f:rows.length=2 ^ ts.length)(x:rows.length<=64):uk cR av ts.length (λi=>ts.getD i 0) (λS v=>bw (dQ rows S) v):=by
 have e:∀S,S<rows.length->∃a,pS av ts rows S (dQ rows S) a:=λS b=>by
  obtain⟨u,k⟩:=tV b;obtain⟨a,r⟩:=tV (l:=steps) (S:=S) (by rw[m.len];exact b);exact⟨a,by rw[Ex k];exact m.row S u a k r⟩
 refine⟨λd h=>by have:=(p.cost d h).1;show 0<=d.b6;omega,λi t=>?_,λS g b d h=>?_,λS P w b q o g j v=>?_⟩
 .obtain⟨a,c⟩:=e (2 ^ i) (by rw[f];exact Nat.pow_lt_pow_right (by omega) t);refine c.one i _ ?_ rfl
  grind
 .obtain⟨a,c⟩:=e S (by rw[f];exact b);exact c.hop d h
 .obtain⟨a,c⟩:=e S (by rw[f];exact b);have n:=nI g j o;obtain⟨y,s⟩:=JY (S:=S) (P:=P) (by omega) (by omega) g j;have:=c.j.part P v ⟨q,n,s⟩
  grind
def np:∀{l:kZ},(∀a∈l,1<=a.b6/\a.b6<=1000)->(l.length:Int)<=dU cR l/\dU cR l<=1000*l.length
 |[],_=>by simp[dU]
 |a::l,h=>by
  have e:=h a (by simp);have d:=np λc b=>h c (List.mem_cons.2 (.inr b));rw[jT,List.length_cons];have:cR.cost a=a.b6:=rfl;omega
def Kd{k i:Nat}:(2 ^ k-1).testBit i=decide (i<k):=by rw[Nat.testBit_two_pow_sub_one]
theorem uH{v:Int}{K:kZ}:(∀i,(2 ^ ts.length-1).testBit i=true->dk cR K v (ts.getD i 0))↔∀t,t∈ts->dk cR K v t:=by
 constructor
 .intro c t b;obtain⟨i,a⟩:=List.getElem?_of_mem b;have:=c i (by rw[Kd];exact decide_eq_true (List.getElem?_eq_some_iff.1 a).1)
  rwa [List.getD_eq_getElem?_getD,a]at this
 .grind
def DA(m:mA av ts rows steps)(b:lN av)(k:rows.length=2 ^ ts.length)(q:ts.length<=6)(p:1<=ts.length){root:Int}:
  (2305843009213693951<=bw (dQ rows (2 ^ ts.length-1)) root->¬∀t,t∈ts->dk cR av root t)/\
  (bw (dQ rows (2 ^ ts.length-1)) root<2305843009213693951->∃e:kZ,iq cR av (λt=>t∈ts) root e/\dU cR e=bw (dQ rows (2 ^ ts.length-1)) root/\iJ steps ((2 ^ ts.length-1:Nat):Int) root (e.map (·.Hop))):=by
 have l:rows.length<=64:=by rw[k];exact Nat.le_trans (Nat.pow_le_pow_right (by omega) q) (by decide)
 have o:=Kc m b k l;have v:2 ^ 1<=2 ^ ts.length:=Nat.pow_le_pow_right (by omega) p
 have bA:∀a,(∀c∈a,c∈av)->(∀t,t∈ts->dk cR a root t)->bw (dQ rows (2 ^ ts.length-1)) root<=dU cR a:=λa f d=>
  o.le a.length a (Nat.le_refl _) f (2 ^ ts.length-1) (by omega) (by omega) root (uH.2 d)
 constructor
 .intro h d;have r:=bA av (λc g=>g) d;have u:=(np b.cost).2;have s:=b.len;omega
 .intro h;obtain⟨e,j,i,n⟩:=Dz m b l (2 ^ ts.length-1) (by omega) _ root _ rfl (tC h);refine⟨e,⟨j.sub,λc g=>by have:=(b.cost c g).1;show 0<c.b6;omega,uH.1 j.lZ,λa f d=>by rw[i];exact bA a f d⟩,i,n⟩
end
end Go.Proofs.YtmnbolcmepihlaaGreat
namespace Go.Proofs.YtmnbolcmepihlaaGreat
set_option linter.all false
open Go Go.Proofs.Tryz
theorem Dn{α:Type}{d:α->α->Int}(k:∀a b c,d a b<0->d b c<0->d a c<0){x:α}:∀{l:List α},(l.Pairwise λa b=>d a b<0)->(∀y∈l,d x y<0\/d y x<0)->(mK d x l).Pairwise λa b=>d a b<0
 |[],_,_=>by simp[mK]
 |y::r,h,i=>by
  rw[List.pairwise_cons]at h;simp only[mK];split
  .rename_i j;rw[List.pairwise_cons];refine⟨λg e=>?_,Dn k h.2 λg e=>i g (by simp[e])⟩;rcases List.mem_cons.1 ((xC d x r).mem_iff.1 e)with rfl|e
   all_goals grind
  .rename_i j;have m:d x y<0:=by rcases i y (by simp)with f|f;exact f;exact absurd f j
   rw[List.pairwise_cons];refine⟨λg e=>?_,List.pairwise_cons.2 h⟩
   grind
def BJ{α:Type}{d:α->α->Int}(e:∀a b c,d a b<0->d b c<0->d a c<0):∀{l:List α},(l.Pairwise λa b=>d a b<0\/d b a<0)->(h2 d l).Pairwise λa b=>d a b<0
 |[],_=>by simp[h2]
 |x::r,h=>by
  rw[List.pairwise_cons]at h;exact Dn e (BJ e h.2) λg f=>h.1 g ((l8 d r).mem_iff.1 f)
def Dp{α:Type}{c:α->α->Int}:∀{l:List α},(l.Pairwise λa b=>c a b<0)->lV c l=true
 |[],_=>rfl
 |[x],_=>rfl
 |a::b::r,h=>by
  rw[List.pairwise_cons]at h;simp only[lV,Bool.and_eq_true,decide_eq_true_eq];exact⟨h.1 b (by simp),Dp h.2⟩
def B2{α:Type}{ks:List (α->Int)}{l:List α}(d:l.Pairwise λa b=>c9 ks a b<0\/c9 ks b a<0)(e:l.length<=1000000):∃m,gA (c9 ks) l=some m/\m.Perm l/\m.Pairwise λa b=>c9 ks a b<0:=by
 have c:=BJ (mc ks) d;refine⟨h2 (c9 ks) l,?_,l8 _ _,c⟩;unfold gA;have:(decide (l.length<4611686018427387904))=true:=by simp;omega
 rw[Dp c,this];rfl
variable {av:kZ}{root:Int}
theorem yw{T:Int->Prop}{c:kZ}(i:lN av)(d:iq cR av T root c)(j:c.length<=1000000):∃m,gA (c9 [λx:aQ=>x.aO,λx:aQ=>x.aJ]) (c.map (·.Hop))=some m/\m.Perm (c.map (·.Hop))/\m.Pairwise λa b=>c9 [λx:aQ=>x.aO,λx:aQ=>x.aJ] a b<0:=by
 refine B2 ?_ (by simpa using j);rw[List.pairwise_map];have l:c.Pairwise λa b=>a≠b:=d.nodup;refine l.imp_of_mem λ{a b} k f h=>?_;have g:a.Hop≠b.Hop:=λn=>h (i.hop a (d.sub a k) b (d.sub b f) n);rw[iX,iX,iX,iX];have o:a.Hop.aO≠b.Hop.aO\/a.Hop.aJ≠b.Hop.aJ:=by
  apply Classical.byContradiction;intro e;have r:a.Hop.aO=b.Hop.aO:=Classical.byContradiction λx=>e (.inl x);have s:a.Hop.aJ=b.Hop.aJ:=Classical.byContradiction λx=>e (.inr x);apply g;cases q:a.Hop;cases p:b.Hop
  grind
 omega
def Lu{st:List (List (Int×(Int×Int)))}{s r:Int}{H:lR}(c:iJ st s r H):∀h,iJ st s r h->H=h:=by
 induction c with
 |leaf c f=>
  intro h g;cases g with
  |leaf _ _=>rfl
  |next a b e _=>rw[c]at a;cases a;rw[f]at b;subst b;exact absurd rfl e
  |part a b _ e _ _ _=>rw[c]at a;cases a;rw[f]at b;subst b;exact absurd rfl e
 |next c b f _ j=>
  intro h g;cases g with
  |leaf a e=>rw[c]at a;cases a;rw[e]at b;subst b;exact absurd rfl f
  |next a d _ i=>rw[c]at a;cases a;rw[b]at d;subst d;rw[j _ i]
  |part a d k _ _ _ _=>rw[c]at a;cases a;rw[b]at d;subst d;exact absurd k f
 |part c b h1 f l _ _ o n=>
  intro h g;cases g with
  |leaf a e=>rw[c]at a;cases a;rw[e]at b;subst b;exact absurd rfl f
  |next a d e _=>rw[c]at a;cases a;rw[b]at d;subst d;exact absurd h1 e
  |part a d _ _ c0 m i=>rw[c]at a;cases a;rw[b]at d;subst d;subst l;subst c0;rw[o _ m,n _ i]
theorem RP{β:Type}{ts:bH}{K:(lR×Int×Bool)->Option β}{r:β}(k:wH av root ts K=some r):
  cI prog 63 [] [.aL false (ag cz av),.int .i64 root,.aL false (ag af ts)] (λa J=>J=[]/\∃x,K x=some r/\a=.bO [.aL false (ag bl x.1),.int .i64 x.2.1,.bool x.2.2]):=by
 unfold wH at k;split at k
 rotate_left
 .cases k
 rename_i P;obtain⟨b,w⟩:=P;have N:=I8 k
 have G:∀(d:kZ),iq cR av (λi=>i∈ts) root d->d.length<=1000000:=λd g=>by
  have D:=(np λa c=>b.cost a (g.sub a c)).1;have W:=g.min av (λa c=>c) (λi m=>(g.lZ i m).mono g.sub);have Y:=(np b.cost).2;have X:=b.len;omega
 have I:=Iv (av:=av) (root:=root) (ts:=ts) w (λa c=>⟨by have:=b.cost a c;omega,b.to a c⟩) (λF H o j f=>by
  by_cases h:1<=ts.length
  .obtain⟨d,e,q,t⟩:=(DA j b o w h (root:=root)).2 f;have n:=G d e;obtain⟨U,k,_⟩:=yw b e n
   grind
  .have O:ts=[]:=List.eq_nil_of_length_eq_zero (by omega);subst O;have ch:F.length=1:=o;obtain⟨aa,A⟩:=tV (l:=H) (S:=0) (by rw[j.len,ch];omega);obtain⟨d,e,q,t⟩:=Dz j b (by omega) 0 (by omega) _ root _ rfl (tC f);exfalso
   have:∀{S:Nat} {V:Int} {z:kZ},g0 cR av 0 (λE=>([]:bH).getD E 0) S V z->False:=λv=>by
    induction v with
    |one E Z=>omega
    |hop _ _ _ p=>exact p
    |part _ _ _ p _=>exact p
   exact this e)
 refine I.mono ?_;rintro a s ⟨rfl,x,y,rfl⟩;refine⟨rfl,x,N x ?_,rfl⟩;by_cases h:ts=[]
 .rw[y.nil h]
  have g:iq cR av (λi=>i∈ts) root []:=by
   refine⟨λa c=>(by cases c),λa c=>by have:=(b.cost a c).1;show 0<a.b6;omega,λi m=>(by rw[h]at m;cases m),λK L _=>?_⟩;have:=(np λa c=>b.cost a (L a c)).1;have u:dU cR ([]:kZ)=0:=rfl;rw[u];omega
  exact .inl ⟨rfl,⟨[],g,rfl,List.Perm.refl _⟩,List.Pairwise.nil⟩
 .have D:1<=ts.length:=by cases T:ts with|nil=>exact absurd T h|cons _ _=>simp
  obtain⟨F,H,o,j,v⟩:=y.rows h;have dX:=DA j b o w D (root:=root);rcases v with⟨f,rfl⟩|⟨f,z,M,n,B⟩
  .exact .inr ⟨rfl,dX.1 f⟩
  .refine .inl ⟨by rw[B],?_⟩;obtain⟨d,e,q,t⟩:=dX.2 f;have u:=Lu M _ t;subst u;obtain⟨U,Q,A,R⟩:=yw b e (G d e);rw[Q]at n;have C:=Option.some.inj n;refine⟨⟨d,e,by rw[q,B],by rw[<-C];exact A⟩,by rw[<-C];exact R⟩
end Go.Proofs.YtmnbolcmepihlaaGreat
namespace Go.Proofs.YtmnbolcmepihlaaGreat
section
open Go Go.Proofs.Tryz
set_option maxRecDepth 100000
set_option linter.all false
def G1{β:Type}{t:aK}{root:Int}{d:bH}{j:(b0×Int×Int)->Option β}{r:β}(b:lC t root d j=some r):cI prog 16 [] [.agg (aZ t),u root,aD af d] (λa m=>m=[]/\∃f,j f=some r/\a=.bO [.agg (c8 f.1),u f.2.1,u f.2.2]):=by
 refine bT func16 rfl rfl ?_;unfold lC at b;refine aG [(0,.al 139),(1,.al 93)] [(1,u root),(2,aD af d),(3,.ptr 139 0),(6,.ptr 93 0)] [(139,.cells 28 (aZ t)),(93,.c 36 [u 0,.bC])]<|A.seq ?_
 obtain⟨e,n,b⟩:=aB b;refine ak [(3,a1 (wD n) va)] [] [(9,u e)]<|ak [] [] [(18,.bool (!decide (e=0)))] ?_
 rcases aV b with⟨i,b⟩|⟨i,b⟩
 .refine aT i<|bD [] [1,2,3,9,18] [(7,u 0),(8,u e)] [139] []<|A.ret<|h4.mono (auW aY [] (R:=.bO [.agg [u ((b0.mk (0:Int) []).cH),aD bl ((b0.mk (0:Int) []).Links)],u 0,u e]) (σ2:=[]) rfl (by kernel_rfl)) ?_
  rintro _ _ ⟨rfl,rfl⟩;exact⟨rfl,_,b,rfl⟩
 refine aS i<|A.skip<|A.seq<|ak [(1,ai (bu af d))] [9,18] [(23,.d (6<(d.length:Int)))] ?_
 rcases aV b with⟨h,b⟩|⟨h,b⟩
 .refine aT h<|bD [] [1,2,3,23] [(7,u 0),(8,u 3)] [139] []<|A.ret<|h4.mono (auW aY [] (R:=.bO [.agg [u ((b0.mk (0:Int) []).cH),aD bl ((b0.mk (0:Int) []).Links)],u 0,u 3]) (σ2:=[]) rfl (by kernel_rfl)) ?_
  rintro _ _ ⟨rfl,rfl⟩;exact⟨rfl,_,b,rfl⟩
 refine aS h<|A.skip ?_
 obtain⟨l,k,b⟩:=aB b;refine avW aY 4 [5,6,7,8,9,10,11] [] [(1,a1 (av6 (r':=aD cz l) (σ3:=[]) [37] (Br k) (by kernel_rfl) (by kernel_rfl)) Ao)] (RP b) Qx (by kernel_rfl) (by kernel_rfl) (by kernel_rfl) (by rintro _ _ ⟨rfl,_,_,rfl⟩;exact⟨rfl,rfl⟩) ?_;rintro _ _ ⟨rfl,c,b,rfl⟩
 try dsimp only at b
 refine⟨[],[(1,u root),(6,.ptr 93 0),(10,aD bl c.1),(11,u c.2.1),(12,.bool c.2.2)],[(93,.c 36 [u 0,.bC])],by kernel_rfl,?_⟩;refine A.seq<|aG [] [(1,u root),(6,.ptr 93 0),(10,aD bl c.1),(11,u c.2.1),(35,.bool (!c.2.2))] [(93,.c 36 [u 0,.bC])] ?_
 rcases aV b with⟨g,b⟩|⟨g,b⟩
 .refine aT g<|ak [] [1,10,11,35] [(7,u 0),(8,u 9)]<|A.ret<|h4.mono (auW aY [] (R:=.bO [.agg [u ((b0.mk (0:Int) []).cH),aD bl ((b0.mk (0:Int) []).Links)],u 0,u 9]) (σ2:=[]) rfl (by kernel_rfl)) ?_
  rintro _ _ ⟨rfl,rfl⟩;exact⟨rfl,_,b,rfl⟩
 refine aS g<|A.skip<|aG [] [(6,.ptr 93 0),(7,u c.2.1),(8,u 0)] [(93,.c 36 [u root,aD bl c.1])]<|A.ret<|h4.mono (auW aY [] (R:=.bO [.agg [u ((b0.mk root c.1).cH),aD bl ((b0.mk root c.1).Links)],u c.2.1,u 0]) (σ2:=[]) rfl (by kernel_rfl)) ?_
 rintro _ _ ⟨rfl,rfl⟩;exact⟨rfl,_,b,rfl⟩
end
section
set_option linter.all false
open Go
set_option maxRecDepth 100000
theorem Dq{α:Type}{c:α->α->Int}(hi:∀a b,c a b<0->c b a<0->False):∀{a b:List α},(a.Pairwise λx y=>c x y<0)->(b.Pairwise λx y=>c x y<0)->a.Perm b->a=b
 |[],b,_,_,h=>(List.nil_perm.1 h).symm
 |x::r,[],_,_,h=>by have:=h.length_eq;simp at this
 |x::r,y::s,e,d,h=>by
  rw[List.pairwise_cons]at e d;have i:x=y:=by
   rcases List.mem_cons.1 (h.mem_iff.1 (List.mem_cons_self))with f|f
   .exact f
   .rcases List.mem_cons.1 (h.mem_iff.2 (List.mem_cons_self (a:=y)))with g|g
    all_goals grind
  subst i;rw[Dq hi e.2 d.2 (List.Perm.cons_inv h)]
def I1{α:Type}{ks:List (α->Int)}{l m r:List α}(c:gA (c9 ks) l=some r)(i:m.Perm l):gA (c9 ks) m=some r:=by
 unfold gA at c ⊢;cases d:(lV (c9 ks) (h2 (c9 ks) l)&&decide (l.length<4611686018427387904))with
 |false=>rw[d]at c;cases c
 |true=>
  rw[d]at c;simp only[cond_true,Option.some.injEq]at c;rw[Bool.and_eq_true]at d;have g:=mc ks
  have p:∀a b:α,c9 ks a b<0->c9 ks b a<0->False:=λa b f e=>by
   have h:=g _ _ _ f e
   have j:∀(ks:List (α->Int)) (a:α),¬c9 ks a a<0:=λks a=>by
    induction ks with
    |nil=>simp[c9]
    |cons k r n=>rw[iX];simpa using n
   exact j _ _ h
  have f:(h2 (c9 ks) l).Pairwise λq s=>c9 ks q s<0:=Bo g d.1
  have o:m.Pairwise λa b=>c9 ks a b<0\/c9 ks b a<0:=by
   have e:(h2 (c9 ks) l).Pairwise λa b=>c9 ks a b<0\/c9 ks b a<0:=f.imp .inl;exact((l8 (c9 ks) l).trans i.symm).pairwise e (λ{a b} c=>c.symm)
  have e:=BJ g o;have h:h2 (c9 ks) m=h2 (c9 ks) l:=Dq p e f ((l8 _ _).trans (i.trans (l8 _ _).symm));rw[h,i.length_eq,d.1,d.2];simp[c]
end
section
open Go Go.Proofs.Tryz
set_option maxRecDepth 100000
set_option linter.all false
def A6{t:aK}{r:Bool}(a:m6 t=some r):bY prog 160 [] [.agg (aZ t)] (.bool r):=by
 refine bT func160 rfl rfl ?_;unfold m6 at a;refine aG [(0,.al 225)] [(1,.ptr 225 0)] [(225,.cells 28 (aZ t))] ?_;obtain⟨b,c,a⟩:=aB a;refine aG [(1,a1 (v1 c) ve)] [(2,.d (b=0))] [] ?_;cases a;exact A.ret bk
def He{t:aK}{r:jP}(a:qg t=some r):bY prog 162 [] [.agg (aZ t)] (.agg [.b8 (bg .i64 (fN cM) r.gZ),.b8 (bg .i64 (fN cM) r.nh)]):=by
 refine bT func162 rfl rfl ?_;unfold qg at a;refine aG [(0,.al 102),(1,.al 40)] [(1,.ptr 102 0),(2,.ptr 40 0)] [(102,.cells 28 (aZ t)),(40,.c 210 [.dg,.dg])]<|bD [(0,.al 162009),(1,.al 162010),(3,.al 43)] [] [(3,.ptr 43 0)] [] [(162009,.map 3 234 (bg .i64 (fN cM) [])),(162010,.map 3 234 (bg .i64 (fN cM) [])),(43,.c 210 [.cc 162009,.cc 162010])]<|auZ ((av1 (d:=162009) (e:=450162009) rfl rfl rfl rfl rfl))<|auZ ((av1 (d:=162010) (e:=450162010) rfl rfl rfl rfl rfl))<|A.seq<|aG [(2,ai (bu cp t.aP))] [(1,.ptr 102 0),(2,.ptr 40 0),(3,.ptr 43 0),(13,aD cp t.aP),(14,u t.aP.length),(15,u 0)] [(102,.cells 28 (aZ t)),(40,.c 210 [.dg,.dg]),(162009,.dB 3 234 450162009 (dc .i64 ([]:List (Int×mZ))) none none),(450162009,.bp (ek 237 2 cM.enc ([]:List (Int×mZ)))),(162010,.dB 3 234 450162010 (dc .i64 ([]:List (Int×mZ))) none none),(450162010,.bp (ek 237 2 cM.enc ([]:List (Int×mZ)))),(43,.c 210 [.cc 162009,.cc 162010])]<|A.block<|auX 13 rfl λQ=>?_
 obtain⟨N,O,L,M,a⟩:=cZ a;refine auV (l:=t.aP) (cD:=0) (B:=N) (K:=O) a (λo=>λ(i,h)=>[(1,.ptr 102 0),(2,.ptr 40 0),(3,.ptr 43 0),(13,aD cp t.aP),(14,u t.aP.length),(15,u o)]) (λo=>λ(i,h)=>[(102,.cells 28 (aZ t)),(40,.c 210 [.dg,.dg]),(162009,.dB 3 234 450162009 (dc .i64 i) none none),(450162009,.bp (ek 237 2 cM.enc i)),(162010,.dB 3 234 450162010 (dc .i64 h) none none),(450162010,.bp (ek 237 2 cM.enc h)),(43,.c 210 [.cc 162009,.cc 162010])]) ?_ ?_ ?_
 .exact cq
 .rintro o j ax ⟨i,h⟩ P y a;rw[L]at a;exact ak [] [] [(16,.d ((o:Int)<t.aP.length))]<|A.seq<|aT (cU y)<|A.skip<|A.seq<|A.block<|bD [(0,bh (ix cp (cf y))),(2,.al 226)] [16] [(5,.ptr 226 0)] [] [(226,.cells 31 (g5 j))]<|c6 [(8,vJ 237 2 169 i j.b7 cM.enc [] iK),(9,vJ 237 2 170 h j.b7 cM.enc [] iK)] [5] [] [162009,450162009,162010,450162010,226] [(162009,.dB 3 234 169 (dc .i64 (bc i j.b7 [])) none none),(169,.bp (ek 237 2 cM.enc (bc i j.b7 []))),(162010,.dB 3 234 170 (dc .i64 (bc h j.b7 [])) none none),(170,.bp (ek 237 2 cM.enc (bc h j.b7 [])))]<|bn [(0,ai (cK y Q))] [15] [(15,u ((o+1:Nat):Int))]<|Exists.intro (bc i j.b7 [],bc h j.b7 []) (And.intro a (dJ [.rn 169 450162009,.rn 170 450162010] []))
 rintro o ⟨i,h⟩ P ch a;rw[M]at a;refine ak [] [] [(16,.d ((o:Int)<t.aP.length))]<|A.seq<|aS (cT ch)<|A.exit<|A.seq<|bD [(2,ai (bu cC t.Links))] [1,13,14,15,16] [(29,aD cC t.Links),(30,u t.Links.length),(31,u 0)] [102] []<|A.block<|auX 29 rfl λR=>?_
 obtain⟨V,Y,W,X,a⟩:=cZ a;refine auV (l:=t.Links) (cD:=0) (B:=V) (K:=Y) a (λn=>λ(c,b)=>[(2,.ptr 40 0),(3,.ptr 43 0),(29,aD cC t.Links),(30,u t.Links.length),(31,u n)]) (λn=>λ(c,b)=>[(40,.c 210 [.dg,.dg]),(162009,.dB 3 234 450162009 (dc .i64 c) none none),(450162009,.bp (ek 237 2 cM.enc c)),(162010,.dB 3 234 450162010 (dc .i64 b) none none),(450162010,.bp (ek 237 2 cM.enc b)),(43,.c 210 [.cc 162009,.cc 162010])]) ?_ ?_ ?_
 .exact cq
 .rintro n e2 az ⟨c,b⟩ aa z a;rw[W]at a;refine ak [] [] [(32,.d ((n:Int)<t.Links.length))]<|A.seq<|aT (cU z)<|A.skip<|A.seq<|A.block<|bD [(0,bh (ix cC (cf z))),(2,.al 140)] [32] [(7,.ptr 140 0)] [] [(140,.cells 62 (de e2))] ?_
  obtain⟨k,aq,a⟩:=aB a;refine bD [(8,r2 237 2 530162004 530162003 c e2.A cM.enc iK zeroValue234),(15,e9 162550 (ap cM (bytes:=16) (by decide) aq)),(16,vp 237 2 236 c e2.A cM.enc k 530162003 iK)] [] [] [162009,450162009] [(162009,.dB 3 234 236 (dc .i64 (bc c e2.A k)) none none),(236,.bp (ek 237 2 cM.enc (bc c e2.A k)))] ?_;obtain⟨w,F,a⟩:=aB a;refine bD [(8,r2 237 2 530162007 530162006 (bc c e2.A k) e2.B cM.enc iK zeroValue234),(15,e9 162566 (ap cM (bytes:=16) (by decide) F)),(16,vp 237 2 133 (bc c e2.A k) e2.B cM.enc w 530162006 iK)] [] [] [162009,236] [(162009,.dB 3 234 133 (dc .i64 (bc (bc c e2.A k) e2.B w)) none none),(133,.bp (ek 237 2 cM.enc (bc (bc c e2.A k) e2.B w)))] ?_;obtain⟨m,J,a⟩:=aB a;refine bD [(8,r2 237 2 530162010 530162009 b e2.B cM.enc iK zeroValue234),(15,e9 162582 (ap cM (bytes:=16) (by decide) J)),(16,vp 237 2 237 b e2.B cM.enc m 530162009 iK)] [] [] [162010,450162010] [(162010,.dB 3 234 237 (dc .i64 (bc b e2.B m)) none none),(237,.bp (ek 237 2 cM.enc (bc b e2.B m)))] ?_;obtain⟨x,G,a⟩:=aB a;exact c6 [(8,r2 237 2 530162013 530162012 (bc b e2.B m) e2.A cM.enc iK zeroValue234),(15,e9 162598 (ap cM (bytes:=16) (by decide) G)),(16,vp 237 2 171 (bc b e2.B m) e2.A cM.enc x 530162012 iK)] [7] [] [162010,237,140] [(162010,.dB 3 234 171 (dc .i64 (bc (bc b e2.B m) e2.A x)) none none),(171,.bp (ek 237 2 cM.enc (bc (bc b e2.B m) e2.A x)))]<|bn [(0,ai (cK z R))] [31] [(31,u ((n+1:Nat):Int))]<|Exists.intro (bc (bc c e2.A k) e2.B w,bc (bc b e2.B m) e2.A x) (And.intro a (dJ [.rn 133 450162009,.rn 171 450162010] []))
 rintro n ⟨c,b⟩ aa Z a;rw[X]at a;refine ak [] [] [(32,.d ((n:Int)<t.Links.length))]<|A.seq<|aS (cT Z)<|A.exit<|A.seq<|A.QE (d:=162009) rfl λp f=>?_
 refine aG [(2,GP 162102 p f iK)] [(2,.ptr 40 0),(3,.ptr 43 0),(102,.ptr 162102 0)] [(40,.c 210 [.dg,.dg]),(162009,.dB 3 234 450162009 (dc .i64 c) none (some (p,f))),(450162009,.bp (ek 237 2 cM.enc c)),(162010,.dB 3 234 450162010 (dc .i64 b) none none),(450162010,.bp (ek 237 2 cM.enc b)),(43,.c 210 [.cc 162009,.cc 162010]),(162102,.iter 162009 f f (#[]))]<|A.block ?_
 obtain⟨D,an,a⟩:=aB a;refine A.s9 (b4:=162009) (bz:=162102) (it:=102) (clock:=f) (es:=p) an (λI=>I.map (·.1)=c.map (·.1)) (λg=>[(2,.ptr 40 0),(3,.ptr 43 0),(102,.ptr 162102 0)]) (λv=>λg=>[(40,.c 210 [.dg,.dg]),(162009,.dB 3 234 450162009 (dc .i64 g) none (some (p,f))),(450162009,.bp (ek 237 2 cM.enc g)),(162010,.dB 3 234 450162010 (dc .i64 b) none none),(450162010,.bp (ek 237 2 cM.enc b)),(43,.c 210 [.cc 162009,.cc 162010]),(162102,.iter 162009 f f v)]) ⟨rfl,rfl,rfl⟩ ⟨rfl,rfl,rfl⟩ (by kernel_rfl) rfl (by intro aM aR aI aA q C;obtain⟨ao,q⟩:=gC q;obtain⟨ar,aw,q⟩:=aB q;obtain rfl:=e0 q;exact(BT ar ao).trans C) (λ_=>rfl) (λ_ _=>rfl) (λ_ _=>⟨_,rfl,rfl⟩) (λ_ _ _=>rfl) (λ_ _ C _ _ _ _ U ab=>Ak U rfl ab C) ?_ ?_ ?_
 .exact cq
 .rintro v af aF s aC g aE am ch ae a;refine A.block<|aG [(0,QH 162102 162009 f .i64 v am (M1 ae ch))] [(2,.ptr 40 0),(3,.ptr 43 0),(102,.ptr 162102 0),(8,u s)] [(40,.c 210 [.dg,.dg]),(162009,.dB 3 234 450162009 (dc .i64 g) none (some (p,f))),(450162009,.bp (ek 237 2 cM.enc g)),(162010,.dB 3 234 450162010 (dc .i64 b) none none),(450162010,.bp (ek 237 2 cM.enc b)),(43,.c 210 [.cc 162009,.cc 162010]),(162102,.iter 162009 f f (v.push af.born))] ?_
  obtain⟨H,a⟩:=gC a;obtain⟨E,S,a⟩:=aB a;refine c6 [(3,r2 237 2 530162016 530162015 g s cM.enc iK zeroValue234),(4,cS [] (Kr (d:=530162015) (T:=237) S) Pb)] [8] [] [162009,450162009] [(162009,.dB 3 234 530162016 (dc .i64 g) (hL g s 530162015) (some (p,f))),(530162016,.bp (ek 237 2 cM.enc (gI g s))),(530162015,.slice 237 2 (ag cM E) 0 false)] ?_;obtain rfl:=e0 a;exact((awm (d:=162009) (e:=530162016) (e2:=530162017) (t:=530162015) g s cM.enc E H rfl rfl rfl rfl rfl rfl rfl).trans (dJ [.rn 530162017 450162009] []))
 intro v;refine auZ (bJ.refl _ _ _)<|auZ (av3 (d:=162009) (e:=450162009) D cM.enc rfl rfl)<|auZ (av3 (d:=162010) (e:=450162010) b cM.enc rfl rfl)<|aG [] [(2,.ptr 40 0)] [(40,.c 210 [.cc 162009,.cc 162010]),(162009,.gM 3 234 (bg .i64 (fN cM) D)),(162010,.gM 3 234 (bg .i64 (fN cM) b))] ?_
 cases a;exact A.ret bk
def GY{f:List (Int×mZ)}{s:Int}{r:(List (Int×Int))}(b:lE f s=some r):bY prog 161 [] [.b8 (bg .i64 (fN cM) f),u s] (.b8 (bg .i64 (bW .i64) r)):=by
 refine bT func161 rfl rfl ?_;unfold lE at b;refine aG [] [(0,.b8 (bg .i64 (fN cM) f)),(1,u s)] []<|A.scope<|aG [(0,.al 28)] [(0,.b8 (bg .i64 (fN cM) f)),(1,u s),(5,.cc 28)] [(28,.map 3 3 (bg .i64 (bW .i64) []))]<|A.seq<|ak [(2,g4 f s (fN cM) [] iK (B0 cM zeroValue234))] [] [(7,.bool ((ay f s).isSome))]<|ak [] [7] [(27,.bool (!((ay f s).isSome)))] ?_
 rcases aV b with⟨I,b⟩|⟨I,b⟩
 .refine aT I<|ak [] [0,1,5,27] [(4,.cc 28)]<|A.ret ?_
  obtain rfl:=e0 b;exact auW aY [.bK [28]] rfl (by kernel_rfl)
 refine aS I<|A.skip<|bD [(0,.al 161029),(2,l5 (jq (k:=.i64) (enc:=(bW .i64)) [] s (0:Int) rfl))] [1,27] [(8,.cc 161029)] [] [(161029,.map 3 3 (bg .i64 (bW .i64) (bc [] s (0:Int))))]<|A.seq<|A.label ?_
 obtain⟨V,W,b⟩:=dx b;refine A.J (J:=V) (r:=r) (λ(H,R)=>[(5,.cc 28)]) (λ(H,R)=>[(28,.map 3 3 (bg .i64 (bW .i64) H))]) ?_ ?_
 .refine A.block ?_;obtain⟨ae,aA,af,b⟩:=fQ b;refine au6 (F:=ae) b (λ(h,a)=>[(0,.b8 (bg .i64 (fN cM) f)),(5,.cc 28),(8,.cc 161029)]) (λ(h,a)=>[(28,.map 3 3 (bg .i64 (bW .i64) h)),(161029,.map 3 3 (bg .i64 (bW .i64) a))]) ?_ ?_
  .exact cq
  rintro ax ⟨h,a⟩ b;rw[af]at b;refine A.seq<|ak [(1,GN (lm (k:=.i64) (enc:=(bW .i64)) a))] [] [(34,.d (0<(a.length:Int)))] ?_
  rcases aV b with⟨G,b⟩|⟨G,b⟩
  .refine aT G<|A.skip<|A.block<|ak [] [34] [(9,u 0)]<|A.seq<|avV (d:=161029) rfl λw m=>?_
   refine aG [(1,GP 161036 w m h3)] [(0,.b8 (bg .i64 (fN cM) f)),(5,.cc 28),(8,.cc 161029),(9,u 0),(36,.ptr 161036 0)] [(28,.map 3 3 (bg .i64 (bW .i64) h)),(161029,.er w m 3 3 (bg .i64 (bW .i64) a)),(161036,.iter 161029 m m (#[]))]<|A.block ?_
   obtain⟨c,aw,b⟩:=aB b;refine A.s9 (b4:=161029) (bz:=161036) (it:=36) (clock:=m) (es:=w) aw (λ_=>True) (λe=>[(0,.b8 (bg .i64 (fN cM) f)),(5,.cc 28),(8,.cc 161029),(9,u e),(36,.ptr 161036 0)]) (λx=>λe=>[(28,.map 3 3 (bg .i64 (bW .i64) h)),(161029,.er w m 3 3 (bg .i64 (bW .i64) a)),(161036,.iter 161029 m m x)]) ⟨rfl,rfl,rfl⟩ ⟨rfl,rfl,rfl⟩ (by kernel_rfl) trivial (λ_ _ _ _ _ _=>trivial) (λ_=>rfl) (λ_ _=>rfl) (λ_ _=>⟨_,rfl,rfl⟩) (λ_ _ _=>rfl) (λ_ _ _ _ _ _ _ Y aq=>QY Y rfl aq) ?_ ?_ ?_
   .exact cq
   .rintro x S aF n j e aE ar ch aC b;refine A.block<|aG [(0,vI 161036 161029 m .i64 x (bW .i64) ar ch)] [(0,.b8 (bg .i64 (fN cM) f)),(5,.cc 28),(8,.cc 161029),(9,u e),(36,.ptr 161036 0),(10,u n),(11,u j)] [(28,.map 3 3 (bg .i64 (bW .i64) h)),(161029,.er w m 3 3 (bg .i64 (bW .i64) a)),(161036,.iter 161029 m m (x.push S.born))] ?_
    refine au4 [(0,.b8 (bg .i64 (fN cM) f)),(5,.cc 28),(8,.cc 161029),(9,u e),(36,.ptr 161036 0),(10,u n),(62,.bool ((decide (e=0))||((decide (j<((ay a e).getD (0:Int))))||((decide (j=((ay a e).getD (0:Int))))&&(decide (n<e))))))] [(28,.map 3 3 (bg .i64 (bW .i64) h)),(161029,.er w m 3 3 (bg .i64 (bW .i64) a)),(161036,.iter 161029 m m (x.push S.born))] (λv=>?_) ?_
    .rcases fl (decide (e=0))with o|o
     .exact aG [(2,ai (be o)),(20,ai (k4 (q:=((decide (j<((ay a e).getD (0:Int))))||((decide (j=((ay a e).getD (0:Int))))&&(decide (n<e))))) o))] _ _ v
     rcases fl (decide (j<((ay a e).getD (0:Int))))with t|t
     .exact aG [(2,ai (be o)),(6,g4 a e (bW .i64) (0:Int) h3 (ki (k:=.i64) zeroValue3)),(9,ai (be t)),(20,ai ((k4 (q:=((decide (j=((ay a e).getD (0:Int))))&&(decide (n<e)))) t).trans (iQ (q:=((decide (j<((ay a e).getD (0:Int))))||((decide (j=((ay a e).getD (0:Int))))&&(decide (n<e))))) o)))] _ _ v
     rcases fl (decide (j=((ay a e).getD (0:Int))))with y|y
     .exact aG [(2,ai (be o)),(6,g4 a e (bW .i64) (0:Int) h3 (ki (k:=.i64) zeroValue3)),(9,ai (be t)),(13,g4 a e (bW .i64) (0:Int) h3 (ki (k:=.i64) zeroValue3)),(15,ai (be y)),(20,ai (((gl (q:=decide (n<e)) y).trans (iQ (q:=((decide (j=((ay a e).getD (0:Int))))&&(decide (n<e)))) t)).trans (iQ (q:=((decide (j<((ay a e).getD (0:Int))))||((decide (j=((ay a e).getD (0:Int))))&&(decide (n<e))))) o)))] _ _ v
     exact aG [(2,ai (be o)),(6,g4 a e (bW .i64) (0:Int) h3 (ki (k:=.i64) zeroValue3)),(9,ai (be t)),(13,g4 a e (bW .i64) (0:Int) h3 (ki (k:=.i64) zeroValue3)),(15,ai (be y)),(20,ai (((gP (q:=decide (n<e)) y).trans (iQ (q:=((decide (j=((ay a e).getD (0:Int))))&&(decide (n<e)))) t)).trans (iQ (q:=((decide (j<((ay a e).getD (0:Int))))||((decide (j=((ay a e).getD (0:Int))))&&(decide (n<e))))) o)))] _ _ v
    rcases aV b with⟨M,b⟩|⟨M,b⟩
    .refine aT M<|bn [] [9,10,62] [(9,u n)] ?_
     obtain rfl:=e0 b;exact(cq)
    refine aS M<|A.skip ?_
    obtain rfl:=e0 b;exact(cq)
   intro x;refine auZ (awo (d:=161029) rfl)<|aG [(2,l4 (lk (E:=3) (k:=.i64) (enc:=(bW .i64)) a c (0:Int) (λC=>⟨_,zeroValue3 C,λQ=>by simp[aN,bW,ew]⟩)))] [(0,.b8 (bg .i64 (fN cM) f)),(5,.cc 28),(8,.cc 161029),(9,u c),(12,u ((ay a c).getD (0:Int)))] [(28,.map 3 3 (bg .i64 (bW .i64) h)),(161029,.map 3 3 (bg .i64 (bW .i64) a))]<|bD [(2,gn a c (bW .i64) h3)] [] [] [161029] [(161029,.map 3 3 (bg .i64 (bW .i64) (h6 a c)))]<|bD [(3,l5 (jq (k:=.i64) (enc:=(bW .i64)) h c ((ay a c).getD (0:Int)) rfl))] [] [] [28] [(28,.map 3 3 (bg .i64 (bW .i64) (bc h c ((ay a c).getD (0:Int)))))]<|A.seq<|ak [(1,GN (lm (k:=.i64) (enc:=(bW .i64)) (bc h c ((ay a c).getD (0:Int))))),(3,QL f (fN cM) iK)] [] [(76,.d (((bc h c ((ay a c).getD (0:Int))).length:Int)=(f.length:Int)))] ?_
   rcases aV b with⟨O,b⟩|⟨O,b⟩
   .exact aT O<|A.exit<|aX (bc h c ((ay a c).getD (0:Int)),h6 a c) b
   refine aS O<|A.skip<|ak [(2,g4 f c (fN cM) [] iK (B0 cM zeroValue234)),(3,ai (bu cM ((ay f c).getD [])))] [9,76] [(79,aD cM ((ay f c).getD [])),(80,u (((ay f c).getD []).length:Int)),(81,u 0)]<|A.block<|auX 79 rfl λU=>?_
   obtain⟨Z,ag,aa,ab,b⟩:=cZ b;refine auV (l:=((ay f c).getD [])) (cD:=0) (B:=Z) (K:=ag) b (λp=>λi=>[(0,.b8 (bg .i64 (fN cM) f)),(5,.cc 28),(8,.cc 161029),(12,u ((ay a c).getD (0:Int))),(79,aD cM ((ay f c).getD [])),(80,u (((ay f c).getD []).length:Int)),(81,u p)]) (λp=>λi=>[(28,.map 3 3 (bg .i64 (bW .i64) (bc h c ((ay a c).getD (0:Int))))),(161029,.map 3 3 (bg .i64 (bW .i64) i))]) ?_ ?_ ?_
   .exact cq
   .rintro p g az i ao L b;rw[aa]at b;refine ak [] [] [(82,.d ((p:Int)<(((ay f c).getD []).length:Int)))]<|A.seq<|aT (cU L)<|A.skip ?_
    obtain⟨T,X,b⟩:=dx b;refine A.J (J:=T) (r:=r) (λD=>[(0,.b8 (bg .i64 (fN cM) f)),(5,.cc 28),(8,.cc 161029),(12,u ((ay a c).getD (0:Int))),(79,aD cM ((ay f c).getD [])),(80,u (((ay f c).getD []).length:Int)),(81,u p)]) (λD=>[(28,.map 3 3 (bg .i64 (bW .i64) (bc h c ((ay a c).getD (0:Int))))),(161029,.map 3 3 (bg .i64 (bW .i64) D))]) ?_ ?_
    .refine A.block<|bD [(0,bh (ix cM (cf L))),(2,.al 129)] [82] [(14,.ptr 129 0)] [] [(129,.cells 237 (nm g))] ?_
     refine A.seq<|ak [(3,l4 (lk (E:=3) (k:=.i64) (enc:=(bW .i64)) (bc h c ((ay a c).getD (0:Int))) g.dm (0:Int) (λC=>⟨_,zeroValue3 C,λQ=>by simp[aN,bW,ew]⟩)))] [] [(16,.bool ((ay (bc h c ((ay a c).getD (0:Int))) g.dm).isSome))] ?_
     refine ak [] [16] [(92,.bool ((ay (bc h c ((ay a c).getD (0:Int))) g.dm).isSome))] ?_;rcases aV b with⟨N,b⟩|⟨N,b⟩
     .exact aT N<|A.exit<|aX i b
     refine aS N<|A.skip<|ak [(3,l4 (lk (E:=3) (k:=.i64) (enc:=(bW .i64)) i g.dm (0:Int) (λC=>⟨_,zeroValue3 C,λQ=>by simp[aN,bW,ew]⟩)))] [92] [(17,u ((ay i g.dm).getD (0:Int))),(18,.bool ((ay i g.dm).isSome))]<|au4 [(0,.b8 (bg .i64 (fN cM) f)),(5,.cc 28),(8,.cc 161029),(12,u ((ay a c).getD (0:Int))),(79,aD cM ((ay f c).getD [])),(80,u (((ay f c).getD []).length:Int)),(81,u p),(14,.ptr 129 0),(109,.bool ((!((ay i g.dm).isSome))||(decide (an (((ay a c).getD (0:Int))+g.fS)<((ay i g.dm).getD (0:Int))))))] [(28,.map 3 3 (bg .i64 (bW .i64) (bc h c ((ay a c).getD (0:Int))))),(161029,.map 3 3 (bg .i64 (bW .i64) i)),(129,.cells 237 (nm g))] (λv=>?_) ?_
     .rcases fl (!((ay i g.dm).isSome))with z|z
      .exact aG [(2,ai (be z)),(9,ai (k4 (q:=decide (an (((ay a c).getD (0:Int))+g.fS)<((ay i g.dm).getD (0:Int)))) z))] _ _ v
      exact aG [(2,ai (be z)),(9,ai (iQ (q:=decide (an (((ay a c).getD (0:Int))+g.fS)<((ay i g.dm).getD (0:Int)))) z))] _ _ v
     rcases aV b with⟨P,b⟩|⟨P,b⟩
     .exact aT P<|c6 [(7,l5 (jq (k:=.i64) (enc:=(bW .i64)) i g.dm (an (((ay a c).getD (0:Int))+g.fS)) rfl))] [14,109] [] [161029,129] [(161029,.map 3 3 (bg .i64 (bW .i64) (bc i g.dm (an (((ay a c).getD (0:Int))+g.fS)))))]<|aX (bc i g.dm (an (((ay a c).getD (0:Int))+g.fS))) b
     exact aS P<|A.skip<|aX i b
    rintro D b;rw[X]at b;exact bn [(0,ai (cK L U))] [81] [(81,u ((p+1:Nat):Int))]<|aX D b
   rintro p i ao am b;rw[ab]at b;exact ak [] [] [(82,.d ((p:Int)<(((ay f c).getD []).length:Int)))]<|A.seq<|aS (cT am)<|A.exit<|aX (bc h c ((ay a c).getD (0:Int)),i) b
  exact aS G<|A.exit<|aX (h,a) b
 rintro⟨H,R⟩ b;rw[W]at b;refine ak [] [5] [(4,.cc 28)]<|A.ret ?_
 obtain rfl:=e0 b;exact auW aY [.bK [28]] rfl (by kernel_rfl)
def R6{t:aK}{e:Int}{b:Int}{r:Int×Bool}(a:sF t e b=some r):bY prog 102 [] [.agg (aZ t),u e,u b] (.bO [u r.1,.bool r.2]):=by
 refine bT func102 rfl rfl ?_;unfold sF at a;refine aG [(0,.al 183)] [(1,u e),(2,u b),(3,.ptr 183 0)] [(183,.cells 28 (aZ t))]<|A.seq ?_
 obtain⟨h,i,a⟩:=aB a;refine ak [(1,a1 (A6 i) zY)] [] [(12,.bool (!h))] ?_;rcases aV a with⟨d,a⟩|⟨d,a⟩
 .refine aT d<|aG [] [(6,u 0),(7,.bool false)] [] ?_
  cases a;exact A.ret bk
 refine aS d<|A.skip ?_
 obtain⟨j,f,a⟩:=aB a;obtain⟨c,g,a⟩:=aB a;refine aG [(1,a1 (He f) F0),(4,a1 (GY g) FZ),(6,g4 c b (bW .i64) (0:Int) h3 (ki (k:=.i64) zeroValue3))] [(8,u ((ay c b).getD (0:Int))),(9,.bool ((ay c b).isSome))] []<|aG [] [(6,u ((ay c b).getD (0:Int))),(7,.bool ((ay c b).isSome))] [] ?_
 cases a;exact A.ret bk
end
section
set_option linter.all false
open Go Go.Proofs.Tryz
variable {o:Oper}{σ:W}
theorem awC{G:bQ}{ev:Operand->U}{T E d t:Nat}{x:Operand}{Q:c4}(w:o.op=.buildSlice T 1 #[(0,x)])(l:jx G.P T E 1 Q)(c:ev x=.cc t)(M:t≠d)(hi:G.ids.contains d=false):
  Yields G o ev ((d,.eR E [] t)::σ) [d] [d] (.own d):=by
 intro S ae I β a e z j O P;have m:az I β (ev x) (e x):=P x (by simp only[w,Op.operands];simp);rw[c]at m;simp only[az]at m;obtain⟨s,k⟩:=m;obtain⟨h,C,W⟩:=l.zero a
 let b:eN:=(Array.range (1*1)).map ((if 1*1=0 then #[]else h.cells)[·%(if 1*1=0 then #[]else h.cells:eN).size]!)
 have K:b.size=1:=by simp[b]
 obtain⟨r,p,A,V,X,H,Z,Y⟩:=s0 (I:=I) (β:=β) 1 [(0,ev x)] [(0,e x)] 0 b [[.cc t]]
  ⟨by simp,λy af ag i q=>by
   cases y with
   |zero=>simp only[List.getElem?_cons_zero,Option.some.injEq]at i q;subst i q;exact⟨rfl,by simp only[c,az];exact⟨s,k⟩⟩
   |succ y=>simp at i⟩ (by rw[c];rfl) (by simp[K])
 have aa:r.toList=p:=by grind
 have ab:p=[β t]:=by
  simp only[List.flatten_cons,List.flatten_nil,List.append_nil,bx,az]at H
  grind
 have v:r=#[β t]:=by grind
 have B:(execOp e o).run G.P a=.ok (.value (.slice (some ⟨a.heap.size,0,none⟩) 1 1)) (a.alloc (.cells r E)):=by
  have L:¬(1*1>2 ^ 24):=by decide
  have u:Instr.fill (λn=>some (n*1,1)) b ((#[(0,x)]:Array (Nat×Operand)).map λ(n,x)=>(n,e x)).toList=some r:=by simpa using A
  simp only[execOp,w,Instr.buildSlice,Sem.run_bind,run_underlying l.ee,l.size,Result.andThen_ok,L,if_false];have F:b=(Array.range (1*1)).map (h.cells[·%h.cells.size]!):=by simp only[b,show ¬(1*1=0)by decide,if_false]
  rw[F]at u;simp only[show ¬(1*1=0)by decide,if_false,Sem.run_bind,C,Sem.run_pure,Result.andThen_ok];simp only[u];simp[newRow]
 rw[B];have D:=O d (by simp);refine⟨I,et β d (.slice (some ⟨a.heap.size,0,none⟩) 1 1),by simp only[az,eB,fA,and_self],?_,bM.refl I,λx c=>ff β _ (λg=>c (by simp[g]))⟩;refine j.real (by simpa using hi) D rfl λR f=>?_;rw[z d (by simp),auU,if_pos rfl]at f;injection f with f
 subst f;have J:β t≠.nilFunc:=λg=>by rw[s,g]at k;simp[hd]at k
 simp only[bb,eB,ff β _ M];refine .inr ⟨a.heap.size,1,r,rfl,Nat.le_refl _,by decide,heap_alloc_new a _,by rw[v];rfl,?_,λg N=>(by cases N),by rw[v];rfl,J,λo=>j.fJ (Nat.le_refl _) o,.inl j.size⟩;rfl
variable {P:Program}{bo:ef}
def AI(bo:ef)(d:Nat)(ids:cg)(op:Op)(env:ah):Option (bP×bL):=match op with
 |.buildSlice a len parts=>match bo.get a with
  |some ⟨_,_,_,.slice E 1 _ _⟩=>(match parts.toList with
   |[(0,x)]=>(match env.bS x with
    |some (.cc t)=>bif Nat.beq len 1&&!Nat.beq t d&&!ids.contains d then some (.v d (.eR E [] t) (.own d),([],[]))else none
    |_=>none)
   |_=>none)
  |_=>none
 |_=>none
def Oq(p:fI P bo){d:Nat}{N:Nat}{ids:cg}{env:ah}{s:bP}{g:bL}(a:AI bo d ids o.op env=some (s,g)):c7 ⟨P,N,ids⟩ o env σ s:=by
 unfold AI at a;split at a
 .rename_i t q parts h;split at a
  .rename_i n;have e:=(fL.get p.tys n).kd;simp only[g6]at e;split at a
   .rename_i r i;have:parts=#[(0,r)]:=Array.toList_inj.1 (by simpa using i);subst this;split at a
    .rename_i u f;generalize b:(Nat.beq q 1&&_&&_)=m at a;cases m with
     |false=>cases a
     |true=>
      simp only[cond_true]at a;rw[Bool.and_eq_true,Bool.and_eq_true]at b;obtain⟨⟨j,k⟩,l⟩:=b;have:=Nat.eq_of_beq_eq_true j;subst this
      cases a;have c:ids.contains d=false:=by simpa using l
      exact⟨c,awC (G:=⟨P,N,ids⟩) h e.2.2 (auS f) (Nat.ne_of_beq_eq_false (by simpa using k)) c⟩
    .cases a
   .cases a
  .cases a
 .cases a
def GK(a:fI P bo)(d:Nat):Hint P:=.gs false ([],[]) (λids e b _=>AI bo d ids e b) λ_ _ _ _ _ _ _ c _=>Oq a c
def rH(m:List (Int×Int)):Prop:=∀a,0<=bw m a/\bw m a<=2305843009213693951
variable {av:kZ}
def CE{a:List (Int×Int)}{v:List (Int×Int)}{b:Bool}{j:Nat}{e:bm}(d:(av.take j).foldl iP (a,false)=(v,b))(c:av[j]?=some e):(av.take (j+1)).foldl iP (a,false)=iP (v,b) e:=by
 rw[List.take_add_one,c,Option.toList_some,List.foldl_append,d];rfl
variable {r:List (Int×Int)}
theorem JZ{bV:List (List U)}{m1:List (Int×Int)}{cG:List (List U)}{m2:List (Int×(Int×Int))}(H:cG.length=bV.length)(I:rH m1)(N:iF av)(M:j9 av m1 r):
  cI prog 121 (cN av bV m1 cG m2) [.ptr 910000000 0,.int .i64 (bV.length:Int)] (λa E=>a=.bO []/\∃F,E=cN av bV r cG F):=by
 refine bT func121 rfl rfl ?_;refine auT aY [] [] [(0,.ptr 910000000 0),(1,.int .i64 (bV.length:Int)),(4,.bool true)] (cN av bV m1 cG m2) (by kernel_rfl) ?_;refine A.block ?_;refine A.loop (α:=List (Int×Int)×List (Int×(Int×Int))×Bool) (λd=>[(0,.ptr 910000000 0),(1,.int .i64 (bV.length:Int)),(4,.bool d.2.2)]) (λd=>cN av bV d.1 cG d.2.1) (λd=>rH d.1/\(d.2.2=true->j9 av d.1 r)/\(d.2.2=false->d.1=r)) (λd=>hh av d.1+(bif d.2.2 then 1 else 0)) (m1,m2,true) ⟨I,λ_=>M,λi=>by cases i⟩ (bJ.go [] [] (by kernel_rfl)) ?_;rintro⟨j,o,g⟩ ⟨C,dM,c0⟩;simp only at C dM c0;refine A.seq ?_;refine auT aY [] [] [(0,.ptr 910000000 0),(1,.int .i64 (bV.length:Int)),(4,.bool g),(7,.bool g)] (cN av bV j cG o) (by kernel_rfl) ?_;cases g with
 |false=>
  refine au1 rfl rfl ?_;refine A.exit ?_;refine h4.mono (auW aY [] (R:=.bO []) (σ2:=cN av bV j cG o) rfl (by kernel_rfl)) ?_;rintro a s ⟨rfl,rfl⟩;exact⟨rfl,o,by rw[<-c0 rfl]⟩
 |true=>
  refine au3 rfl rfl ?_;refine A.skip ?_;show ar _ _ _ _ _;refine A.block ?_;refine auT aY [] [] [(0,.ptr 910000000 0),(1,.int .i64 (bV.length:Int)),(4,.bool false)] (cN av bV j cG o) (by kernel_rfl) ?_;refine auT aY [] [(4,ai (bu cz av))] [(0,.ptr 910000000 0),(1,.int .i64 (bV.length:Int)),(4,.bool false),(11,.aL false (ag cz av)),(12,.int .i64 (av.length:Int)),(13,.int .i64 0)] (cN av bV j cG o) (by kernel_rfl) ?_;refine A.block ?_;refine auX 11 rfl λx=>?_
  refine A.loop (α:=Nat×List (Int×Int)×List (Int×(Int×Int))×Bool) (λd=>[(0,.ptr 910000000 0),(1,.int .i64 (bV.length:Int)),(4,.bool d.2.2.2),(11,.aL false (ag cz av)),(12,.int .i64 (av.length:Int)),(13,.int .i64 (d.1:Int))]) (λd=>cN av bV d.2.1 cG d.2.2.1)
   (λd=>d.1<=av.length/\rH d.2.1/\(av.take d.1).foldl iP (j,false)=(d.2.1,d.2.2.2)/\(d.2.2.2=false->d.2.1=j)/\(d.2.2.2=true->hh av d.2.1<hh av j)/\∀h,bw d.2.1 h<=bw j h) (λd=>av.length-d.1) (0,j,o,false) ⟨Nat.zero_le _,C,rfl,λ_=>rfl,λi=>(by cases i),λh=>Int.le_refl _⟩ (bJ.go [] [] (by kernel_rfl)) ?_
  rintro⟨e,c,f,g⟩ ⟨D,n,m,q,t,bA⟩;simp only at D n m q t bA;refine auT aY [] [] [(0,.ptr 910000000 0),(1,.int .i64 (bV.length:Int)),(4,.bool g),(11,.aL false (ag cz av)),(12,.int .i64 (av.length:Int)),(13,.int .i64 (e:Int)),(14,.bool (decide ((e:Int)<(av.length:Int))))] (cN av bV c cG f) (by kernel_rfl) ?_;refine A.seq ?_;by_cases v:e<av.length
  .have k:av[e]?=some av[e]:=List.getElem?_eq_getElem v;generalize av[e]=b at k;have y:b∈av:=List.mem_of_getElem? k;obtain⟨V,O⟩:=N b y;obtain⟨T,P⟩:=n b.Hop.aJ;obtain⟨Q,S⟩:=n b.Hop.aO;have w:an (b.b6+bw c b.Hop.aJ)=b.b6+bw c b.Hop.aJ:=dO (by omega) (by omega);refine au3 rfl (cU k) ?_;refine A.skip ?_;show ar _ _ _ _ _;refine A.seq ?_;refine A.block ?_;refine auT aY [] [(0,bh (ix cz (cf k))),(2,.al 182)] [(0,.ptr 910000000 0),(1,.int .i64 (bV.length:Int)),(4,.bool g),(11,.aL false (ag cz av)),(12,.int .i64 (av.length:Int)),(13,.int .i64 (e:Int)),(6,.ptr 182 0)] (cN av bV c cG f++[(182,.cells 175 [.int .i64 b.Hop.aO,.int .i64 b.Hop.aJ,.int .i64 b.b6])]) (by kernel_rfl) ?_;by_cases p:b.b6+bw c b.Hop.aJ<bw c b.Hop.aO
   .refine auT aY [] [(12,a1 (qX (av:=av) (bV:=bV) (m1:=c) (cG:=cG) (m2:=f) b.Hop.aJ) mG),(13,ai (show U.int .i64 (an (b.b6+bw c b.Hop.aJ))=U.int .i64 (b.b6+bw c b.Hop.aJ)by rw[w])),(18,cS [] (uv (av:=av) (m1:=c) (m2:=f) b.Hop.aO (b.b6+bw c b.Hop.aJ) b.Hop.aJ 0 H p) nY)] [(0,.ptr 910000000 0),(1,.int .i64 (bV.length:Int)),(11,.aL false (ag cz av)),(12,.int .i64 (av.length:Int)),(13,.int .i64 (e:Int)),(35,.bool true)] (cN av bV (bc c b.Hop.aO (b.b6+bw c b.Hop.aJ)) cG (bc f b.Hop.aO (b.Hop.aJ,0))) (by kernel_rfl) ?_;refine au3 rfl rfl ?_;refine A.R aY [] [] [(0,.ptr 910000000 0),(1,.int .i64 (bV.length:Int)),(4,.bool true),(11,.aL false (ag cz av)),(12,.int .i64 (av.length:Int)),(13,.int .i64 (e:Int))] (cN av bV (bc c b.Hop.aO (b.b6+bw c b.Hop.aJ)) cG (bc f b.Hop.aO (b.Hop.aJ,0))) (by kernel_rfl) ?_;show ar _ _ _ _ _;refine A.R aY [] [(0,ai (cK k x))] [(0,.ptr 910000000 0),(1,.int .i64 (bV.length:Int)),(4,.bool true),(11,.aL false (ag cz av)),(12,.int .i64 (av.length:Int)),(13,.int .i64 ((e+1:Nat):Int))] (cN av bV (bc c b.Hop.aO (b.b6+bw c b.Hop.aJ)) cG (bc f b.Hop.aO (b.Hop.aJ,0))) (by kernel_rfl) ?_
    have B:rH (bc c b.Hop.aO (b.b6+bw c b.Hop.aJ)):=λh=>by
     rw[kD];split
     .omega
     .exact n h
    have G:iP (c,g) b=(bc c b.Hop.aO (b.b6+bw c b.Hop.aJ),true):=if_pos p
    have z:∀h,bw (bc c b.Hop.aO (b.b6+bw c b.Hop.aJ)) h<=bw c h:=λh=>by
     rw[kD];split
     .grind
     .omega
    have J:hh av (bc c b.Hop.aO (b.b6+bw c b.Hop.aJ))<hh av c:=zG z (B _).1 (by rw[kD,if_pos rfl];exact p) y;have K:hh av c<=hh av j:=uG bA av;refine⟨(e+1,bc c b.Hop.aO (b.b6+bw c b.Hop.aJ),bc f b.Hop.aO (b.Hop.aJ,0),true),⟨v,B,by simp only;rw[CE m k,G],λi=>(by cases i),λ_=>Nat.lt_of_lt_of_le J K,λh=>Int.le_trans (z h) (bA h)⟩,by simp only;omega,bJ.go [] [] (by kernel_rfl)⟩
   .refine auT aY [] [(12,a1 (qX (av:=av) (bV:=bV) (m1:=c) (cG:=cG) (m2:=f) b.Hop.aJ) mG),(13,ai (show U.int .i64 (an (b.b6+bw c b.Hop.aJ))=U.int .i64 (b.b6+bw c b.Hop.aJ)by rw[w])),(18,cS [] (us (av:=av) (bV:=bV) (m1:=c) (cG:=cG) (m2:=f) b.Hop.aO (b.b6+bw c b.Hop.aJ) b.Hop.aJ 0 (Int.not_lt.1 p)) nY)] [(0,.ptr 910000000 0),(1,.int .i64 (bV.length:Int)),(4,.bool g),(11,.aL false (ag cz av)),(12,.int .i64 (av.length:Int)),(13,.int .i64 (e:Int)),(35,.bool false)] (cN av bV c cG f) (by kernel_rfl) ?_;refine au1 rfl rfl ?_;refine A.skip ?_;show ar _ _ _ _ _;refine A.R aY [] [(0,ai (cK k x))] [(0,.ptr 910000000 0),(1,.int .i64 (bV.length:Int)),(4,.bool g),(11,.aL false (ag cz av)),(12,.int .i64 (av.length:Int)),(13,.int .i64 ((e+1:Nat):Int))] (cN av bV c cG f) (by kernel_rfl) ?_;refine⟨(e+1,c,f,g),⟨v,n,by simp only;rw[CE m k];exact if_neg p,q,t,bA⟩,by simp only;omega,bJ.go [] [] (by kernel_rfl)⟩
  .refine au1 rfl (cT (by omega)) ?_;refine A.exit ?_;have L:e=av.length:=by omega
   rw[L,List.take_length]at m;refine⟨(c,f,g),⟨n,λi=>?_,λi=>?_⟩,?_,bJ.go [] [] (by kernel_rfl)⟩
   .simp only at i ⊢;subst i;cases dM rfl with
    |done l=>unfold nZ at l;rw[m]at l;cases l
    |more _ u=>unfold nZ at u;rw[m]at u;exact u
   .simp only at i ⊢;subst i;rw[q rfl];cases dM rfl with
    |done _=>rfl
    |more l _=>unfold nZ at l;rw[m]at l;cases l
   .cases g with
    |true=>have:=t rfl;simp only[cond_true];omega
    |false=>
     have:=q rfl;rw[this];simp only[cond_false,cond_true];omega
def Ml{target:Int}(g:iF av)(f:j9 av [(target,0)] r):
  cI prog 165 [] [.aL false (ag cz av),.int .i64 target] (λa b=>a=.cc 910000002/\b=[(910000002,.map 3 3 (bg .i64 (bW .i64) r))]):=by
 have d:rH [(target,0)]:=λj=>by
  unfold bw;rw[fP];split<;>simp[ay]
 refine bT func165 rfl rfl ?_;refine auT aY [] [] [(0,.aL false (ag cz av)),(1,.int .i64 target)] [] (by kernel_rfl) ?_;refine auT aY [] [(1,.al 910000002),(3,l5 (jq (k:=.i64) (enc:=bW .i64) [] target 0 rfl)),(5,GK aY 134),(6,.al 910000004),(7,GK aY 150),(9,.al 910000000)] [(5,.ptr 910000000 0)] (cN av [] [(target,0)] [] []) (by kernel_rfl) ?_;have e:cI prog 121 (cN av [] [(target,0)] [] []) [.ptr 910000000 0,.int .i64 0] (λa b=>a=.bO []/\∃c,b=cN av [] r [] c):=JZ (av:=av) (bV:=[]) (m1:=[(target,0)]) (cG:=[]) (m2:=[]) rfl d g f;refine A.seq ?_;refine avo aY 1 [] [] [(15,.ptr 910000000 0),(5,.ptr 910000000 0)] (cN av [] [(target,0)] [] []) (by kernel_rfl) (by kernel_rfl) (by kernel_rfl) rfl rfl (avR (Be:=[.ptr 910000000 0,.int .i64 0]) [] rfl rfl rfl rfl rfl rfl ?_ e FQ) rfl rfl ?_
 .rintro a σ2 ⟨rfl,aZ,rfl⟩;exact⟨rfl,rfl⟩
 rintro h b ⟨σ2,⟨rfl,aZ,rfl⟩,rfl⟩;refine⟨[],_,_,rfl,?_⟩;show ar _ _ _ _ _;refine auT aY [] [(4,p1 (xs:=[]) (i:=0) rD ⟨by omega,by decide⟩),(5,gK (xs:=[]) (p:=0) rC rfl)] [(4,.cc 910000002)] (cN av [] r [] aZ) (by kernel_rfl) ?_;refine A.ret ?_;exact auW aY [] (R:=.cc 910000002) (σ2:=[(910000002,.map 3 3 (bg .i64 (bW .i64) r))]) rfl (by kernel_rfl)
end
end Go.Proofs.YtmnbolcmepihlaaGreat
