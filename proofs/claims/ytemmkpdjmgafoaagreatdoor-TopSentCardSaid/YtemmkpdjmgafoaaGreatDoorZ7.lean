/- A part of the proof; the last text says of what. No condition but those that stand in each. -/
import Derived.Test.YtemmkpdjmgafoaaGreatDoorZ6
import Derived.Test.YtemmkpdjmgafoaaGreatDoorZ4
import Derived.Test.YtemmkpdjmgafoaaGreatDoorZ5
namespace Go.Proofs.YtemmkpdjmgafoaaGreatDoor
set_option linter.all false
set_option maxRecDepth 100000
section
open Go Go.Proofs.Tryz
variable {au:Bool}
variable {k:Int}
def Kr{r}(a:x4 k=some r):bb au prog 106 [] [H k] (.int .u64 r):=by
 refine a5 func106 rfl rfl ?_;unfold x4 at a;refine aj [] [(0,H k)] []<|aq<|aFe [(0,H k),(8,.bool ((decide (k<0))||(decide (63<k))))] [] (λd=>?_) ?_
 .rcases eU (decide (k<0))with b|b
  .exact aj [(2,Y (ax b)),(5,Y (hj (q:=decide (63<k)) b))] _ _ d
  exact aj [(2,Y (ax b)),(5,Y (eW (q:=decide (63<k)) b))] _ _ d
 rcases aC a with⟨c,a⟩|⟨c,a⟩
 .exact aI c<|aj [] [(2,.int .u64 (0:Int))] []<|aN
 refine aH c<|aK ?_
 obtain⟨e,a⟩:=g0 a;exact aj [(2,.sh (IntKind.wrap .u64 k) (fF e))] [(2,.int .u64 (IntKind.wrap .u64 ((1:Int)*2 ^ min (IntKind.wrap .u64 k).toNat 64)))] []<|aN
def VS{d r}(a:BK d=some r):bb au prog 107 [] [H d] (.int .u64 r):=by
 refine a5 func107 rfl rfl ?_;unfold BK at a;refine aj [] [(0,H d)] []<|aq ?_
 obtain⟨i,o,a⟩:=az a;refine ak [(1,aB (Ut o) Tn)] [] [(7,.bool (!i))] ?_;rcases aC a with⟨e,a⟩|⟨e,a⟩
 .exact aI e<|aj [] [(2,.int .u64 (0:Int))] []<|aN
 refine aH e<|aK<|ak [] [7] [(3,.int .u64 (0:Int))]<|aq<|ak [] [] [(4,H 0)]<|aX ?_
 obtain⟨n,a⟩:=g0 a;obtain⟨q,s,l,m,a⟩:=sR a;refine aFE (hi:=d) a rfl (λb=>λc=>[(0,H d),(3,.int .u64 c),(4,H b)]) (λb=>λc=>[]) ?_ ?_ ?_
 .exact c8
 .rintro b p c k g a;rw[l]at a;refine aq<|ak [] [] [(10,.d ((b:Int)<d))] ?_
  refine aFu rfl (fU g)<|aK<|aq<|aX ?_
  obtain⟨f,h,a⟩:=az a;exact a7 [(2,aB (Kr h) OK)] [3,10] [(3,.int .u64 (bT .or .u64 c f))]<|a7 [(1,Y (si (by omega) g (fF n)))] [4] [(4,H (b+1:Int))]<|aT (bT .or .u64 c f) a
 rintro b c k j a;rw[m]at a;refine aq<|ak [] [] [(10,.d ((b:Int)<d))] ?_
 exact aFl rfl (Ah j)<|bQ<|aj [] [(2,.int .u64 c)] []<|aN
def Vr{t c r}(a:Bm t c=some r):cz au prog 41 [(1,.cells 74 (cw t))] [.ptr 1 0,H c] (eH (.int .u64 r.1) [(1,.cells 74 (cw r.2))]):=by
 refine a5 func41 rfl rfl ?_;unfold Bm at a;refine aj [] [(0,.ptr 1 0),(1,H c)] [(1,.cells 74 (cw t))] ?_;obtain⟨l,x,e,n,a⟩:=er a;refine aV [(1,b3 [] (Jf x) Ih),(5,b3 [] (Jf n) Ih)] [] [(5,.int .u64 (bT .xor .u64 (IntKind.wrap .u64 ((IntKind.wrap .u64 l.1)*(11400714819323198485:Int))) (IntKind.wrap .u64 e.1)))] [1] [(1,.cells 74 (cw e.2))] ?_;obtain⟨u,q,a⟩:=cV a;refine cW u r (λ(d,g,k)=>[(1,H c),(5,.int .u64 d)]) (λ(d,g,k)=>[(1,.c 74 [an aJ g,H k])]) ?_ ?_
 .obtain⟨b,o,a⟩:=az a;refine aV [(1,b3 [] (jh o) jg)] [] [(15,H b.1)] [1] [(1,.cells 74 (cw b.2))]<|aX<|ak [] [] [(16,.d (b.1=0))] ?_
  rcases aC a with⟨h,a⟩|⟨h,a⟩
  .exact aI h<|a7 [] [0,5,15,16] [(5,.int .u64 (0:Int))]<|aT ((0:Int),b.2.L,b.2.At) a
  refine aH h<|ak [] [16] [(18,.d (b.1=1))] ?_
  rcases aC a with⟨f,a⟩|⟨f,a⟩
  .refine aI f ?_;obtain⟨j,v,m,w,a⟩:=er a;exact lU [(2,b3 [] (jh v) jg),(3,aB (Kr w) OK)] [(1,H c),(5,.int .u64 m)] [(1,.cells 74 (cw j.2))]<|aT (m,j.2.L,j.2.At) a
  refine aH f<|ak [] [0,15,18] [(24,.d (b.1=2))] ?_
  rcases aC a with⟨i,a⟩|⟨i,a⟩
  .exact aI i<|a7 [] [5,24] [(5,.int .u64 (18446744073709551615:Int))]<|aT ((18446744073709551615:Int),b.2.L,b.2.At) a
  exact aH i<|aK<|aT (bT .xor .u64 (IntKind.wrap .u64 ((IntKind.wrap .u64 l.1)*(11400714819323198485:Int))) (IntKind.wrap .u64 e.1),b.2.L,b.2.At) a
 rintro⟨d,g,k⟩ a;rw[q]at a;obtain⟨s,p,a⟩:=az a;exact ak [(2,aB (VS p) RX)] [1,5] [(4,.int .u64 (bT .and .u64 d s))]<|aN
variable {dB:Int}
def Vw{t r}(a:Bn t dB=some r):cz au prog 42 [(1,.cells 74 (cw t))] [.ptr 1 0,H dB] (eH (.str r.1) [(1,.cells 74 (cw r.2))]):=by
 refine a5 func42 rfl rfl ?_;unfold Bn at a;refine aj [] [(0,.ptr 1 0),(1,H dB)] [(1,.cells 74 (cw t))]<|ak [] [] [(5,.aF)]<|aq ?_
 obtain⟨h,m,a⟩:=az a;refine aV [(2,b3 [] (uF m) tX)] [1] [(6,H h.1)] [1] [(1,.cells 74 (cw h.2))]<|aX ?_
 obtain⟨p,o,l,a⟩:=jL a;refine aFn a (λ(c,b,d,e)=>[(0,.ptr 1 0),(5,.own 349),(6,H b)]) (λ(c,b,d,e)=>[(1,.c 74 [an aJ d,H e]),(349,.slice 5 1 (bc (c9 .u8) c) 0 false)]) ?_ ?_
 .exact cr [.ad 5 349 5 1] []
 rintro n ⟨c,b,d,e⟩ a;rw[l]at a;refine aq<|ak [] [] [(11,.d (0<b))] ?_
 rcases aC a with⟨g,a⟩|⟨g,a⟩
 .refine aI g<|aK<|aq<|aX ?_
  obtain⟨f,j,i,k,a⟩:=er a;exact b0 [(2,b3 [] (jh j) jg),(5,dS 369 (ap (c9 .u8) (bytes:=1) (by decide) k))] [5,11] [(5,.own 369)] [1,349] [(1,.cells 74 (cw f.2)),(369,.slice 5 1 (bc (c9 .u8) i) 0 false)]<|a7 [] [6] [(6,H (a2 (b-1)))]<|Exists.intro (i,a2 (b-1),f.2.L,f.2.At) (And.intro a (cr [.b8 369 349] []))
 exact aH g<|bQ<|aFx fN [.bL [349]] [(1,acF c underlying201 underlying5 underlying9)] [(4,.str (mE c))] [(1,.c 74 [an aJ d,H e])] (by kernel_rfl)<|aN
def UK{t r}(a:A2 t=some r):cz au prog 8 [(1,.cells 74 (cw t))] [.ptr 1 0,H 0] (eH (.agg (e7 r.1)) [(1,.cells 74 (cw r.2))]):=by
 refine a5 func8 rfl rfl ?_;unfold A2 at a;refine aj [(0,.al 275)] [(0,.ptr 1 0),(1,H 0),(4,.ptr 275 0)] [(1,.cells 74 (cw t)),(275,.c 52 [H 0,H 0,H 0,H 0,H 0,H 0,H 0,H 0,.int .u64 (0:Int),.str (⟨#[]⟩:ByteArray)])] ?_;obtain⟨b,w,a⟩:=az a;refine aV [(1,b3 [] (JT w) JE)] [] [(5,H b.1)] [1] [(1,.cells 74 (cw b.2))] ?_;obtain⟨d,l,e,m,h,o,a⟩:=mT a;obtain⟨f,p,g,n,j,q,a⟩:=mT a;obtain⟨i,s,k,u,c,v,a⟩:=mT a;exact aV [(1,b3 [] (uF l) tX),(3,b3 [] (uF m) tX),(6,b3 [] (xw o) wH),(10,b3 [] (xw p) wH),(12,b3 [] (jh n) jg),(15,b3 [] (xw q) wH),(17,b3 [] (jh s) jg),(20,b3 [] (Vr u) ab0),(22,b3 [] (Vw v) ab1),(24,.al 451)] [5] [(6,.ptr 451 0)] [1] [(1,.cells 74 (cw c.2)),(451,.c 52 [H d.1,H e.1,H h.1,H b.1,H f.1,H g.1,H j.1,H i.1,.int .u64 k.1,.str c.1])]<|aq<|ak [] [1] [(39,.bool false)]<|aFl rfl rfl<|aK<|aV [] [0,6,39] [] [275,451] [(275,.c 52 [H d.1,H e.1,H h.1,H b.1,H f.1,H g.1,H j.1,H i.1,.int .u64 k.1,.str c.1])]<|aN
variable {id:Int}
def JZ{b r}(a:xo id b=some r):bb au prog 111 [] [H id,H b] (.bO [H r.1,H r.2.1,.bool r.2.2]):=by
 refine a5 func111 rfl rfl ?_;unfold xo at a;refine aj [] [(0,H id),(1,H b)] []<|aq ?_
 obtain⟨k,j,a⟩:=cV a;refine cW k r (λe=>[(0,H id),(1,H b),(14,.bool e)]) (λe=>[]) ?_ ?_
 .obtain⟨m,g,a⟩:=az a;rcases aC a with⟨d,a⟩|⟨d,a⟩
  .exact a7 [(1,aB (j2 g) j8),(3,Y (ax d))] [] [(14,.bool true)]<|aT true a
  obtain⟨f,h,a⟩:=az a;exact a7 [(1,aB (j2 g) j8),(3,Y (ax d)),(5,aB (hE h) hN)] [] [(14,.bool (!f))]<|aT (!f) a
 rintro e a;rw[j]at a;rcases aC a with⟨c,a⟩|⟨c,a⟩
 .exact aI c<|aj [] [(4,H 0),(5,H 0),(6,.bool false)] []<|aN
 refine aH c<|aK ?_
 obtain⟨i,a⟩:=g0 a;obtain⟨l,a⟩:=g0 a;exact aj [(3,.qr b (fF i)),(7,.qr b (fF l))] [(4,H (a2 (Int.tdiv (a2 (id-1)) b))),(5,H (Int.tmod (a2 (id-1)) b)),(6,.bool true)] []<|aN
def UL{b a r}(c:EX b a=some r):bb au prog 179 [] [.agg (iK b),.dI [H a]] (.bool r):=by
 refine a5 func179 rfl rfl ?_;unfold EX at c;exact aj [(0,.al 521)] [(1,.dI [H a]),(2,.ptr 521 0)] [(521,.cells 49 (iK b))]<|aj [] [(3,.d (b.aP=a))] []<|aN
def Vx{p r}(a:Fe p id=some r):bb au prog 110 [] [.agg (fh p),H id] (.bool r):=by
 refine a5 func110 rfl rfl ?_;unfold Fe at a;refine aj [(0,.al 491),(1,.al 455)] [(2,.ptr 491 0),(3,.ptr 455 0)] [(491,.cells 44 (fh p)),(455,.c 3 [H id])] ?_;obtain⟨b,d,a⟩:=az a;exact aj [(3,bt [455] (PJ (bZ:=179) (cp:=[.dI [H id]]) (dQ:=Tp) (dP:=λ_ _ c=>UL c) d) OR)] [(4,.bool b)] []<|aN
def U1{a r}(b:AZ id a=some r):bb au prog 109 [] [H id,.dI (fh a)] (.bool r):=by
 refine a5 func109 rfl rfl ?_;unfold AZ at b;refine aj [] [(0,H id),(1,.dI (fh a))] [] ?_;obtain⟨c,d,b⟩:=az b;exact aj [(2,aB (Vx d) RZ)] [(3,.bool (!c))] []<|aN
def Vc{p ids r}(a:xG p ids=some r):bb au prog 45 [] [.agg (fh p),an aJ ids] (.bO [an jJ r.1,H r.2]):=by
 refine a5 func45 rfl rfl ?_;unfold xG at a;refine aj [(0,.al 40)] [(1,an aJ ids),(2,.ptr 40 0)] [(40,.cells 44 (fh p))]<|aq ?_
 obtain⟨B,ae,a⟩:=az a;refine ak [(1,aB (AD ae) zP)] [] [(16,.bool (!B))] ?_;rcases aC a with⟨i,a⟩|⟨i,a⟩
 .exact aI i<|aj [] [(4,.aF),(5,H 1)] []<|aN
 refine aH i<|aK<|aq<|ak [(1,Y (bk aJ ids))] [16] [(18,H ids.length),(19,H 0)]<|aX<|aFd 1 rfl λF=>?_
 obtain⟨am,ao,J,K,a⟩:=cG a;refine cO a (λc()=>[(1,an aJ ids),(2,.ptr 40 0),(18,H ids.length),(19,H c)]) (λc()=>[(40,.cells 44 (fh p))]) ?_ ?_ ?_
 .exact c8
 .rintro c y ag ⟨⟩ I k a;rw[J]at a;refine ak [] [] [(20,.d ((c:Int)<ids.length))]<|aq<|aI (cL k)<|aK<|aq<|aX<|ak [] [20] [(6,H c)] ?_
  obtain⟨M,L,a⟩:=cV a;refine cW M r (λm=>[(1,an aJ ids),(2,.ptr 40 0),(18,H ids.length),(19,H c),(35,.bool m)]) (λm=>[(40,.cells 44 (fh p))]) ?_ ?_
  .rcases aC a with⟨h,a⟩|⟨h,a⟩
   .obtain⟨u,A,a⟩:=az a;exact a7 [(2,Y (ax h)),(6,be (ix aJ A)),(10,be (ix aJ (bU k)))] [6] [(35,.d (y<=u))]<|aT (decide (y<=u)) a
   exact a7 [(2,Y (ax h))] [6] [(35,.bool false)]<|aT false a
  rintro m a;rw[L]at a;rcases aC a with⟨l,a⟩|⟨l,a⟩
  .exact aI l<|aj [] [(4,.aF),(5,H 25)] []<|aN
  exact aH l<|aK<|a7 [(0,Y (cI k F))] [19,35] [(19,H ((c+1:Nat):Int))]<|aT () a
 rintro c ⟨⟩ I G a;rw[K]at a;refine ak [] [] [(20,.d ((c:Int)<ids.length))]<|aq<|aH (cK G)<|bQ<|aq ?_
 obtain⟨z,C,a⟩:=az a;refine ak [(2,bt [40] (Ao (bZ:=109) (cp:=[.dI (fh p)]) (dQ:=RY) (dP:=λ_ _ ab=>U1 ab) C) zD)] [18,19,20] [(39,.bool z)] ?_;rcases aC a with⟨n,a⟩|⟨n,a⟩
 .exact aI n<|aj [] [(4,.aF),(5,H 4)] []<|aN
 refine aH n<|aK<|ak [] [39] [(7,.aF)]<|aq<|ak [(1,Y (bk aJ ids))] [1] [(40,an aJ ids),(41,H ids.length),(42,H 0)]<|aX<|aFd 40 rfl λQ=>?_
 obtain⟨ay,aw,R,S,a⟩:=cG a;refine cO a (λd=>λe=>[(2,.ptr 40 0),(7,.own 110),(40,an aJ ids),(41,H ids.length),(42,H d)]) (λd=>λe=>[(40,.cells 44 (fh p)),(110,.s 112 jJ e)]) ?_ ?_ ?_
 .exact cr [.ad 7 110 112 2] []
 .rintro d aa ar e T q a;rw[R]at a;refine ak [] [] [(43,.d ((d:Int)<ids.length))]<|aq<|aI (cL q)<|aK<|aq<|aX<|ak [(0,be (ix aJ (bU q)))] [43] [(9,H aa)] ?_
  obtain⟨b,N,a⟩:=az a;refine ak [(3,aB (JZ N) OL)] [9] [(10,H b.1),(11,H b.2.1)] ?_;obtain⟨D,O,a⟩:=cV a;refine cW D r (λg=>[(2,.ptr 40 0),(7,.own 110),(11,H b.2.1),(40,an aJ ids),(41,H ids.length),(42,H d)]) (λg=>[(40,.cells 44 (fh p)),(110,.s 112 jJ g)]) ?_ ?_
  .refine ak [(1,Y (bk jJ e))] [] [(13,H e.length)] ?_;obtain⟨U,X,a⟩:=cV a;refine cW U r (λo=>[(2,.ptr 40 0),(7,.own 110),(10,H b.1),(11,H b.2.1),(40,an aJ ids),(41,H ids.length),(42,H d),(67,.bool o)]) (λo=>[(40,.cells 44 (fh p)),(110,.s 112 jJ e)]) ?_ ?_
   .rcases aC a with⟨j,a⟩|⟨j,a⟩
    .exact a7 [(2,Y (ax j))] [13] [(67,.bool true)]<|aT true a
    obtain⟨x,w,a⟩:=az a;exact a7 [(2,Y (ax j)),(6,be (ix jJ w)),(8,fK 110 0 (ix jJ w))] [13] [(67,.bool (!decide (x.Set=b.1)))]<|aT (!decide (x.Set=b.1)) a
   rintro o a;rw[X]at a;rcases aC a with⟨s,a⟩|⟨s,a⟩
   .refine aI s ?_;obtain⟨v,E,a⟩:=az a;exact b0 [(4,dS 480 (ap jJ (bytes:=16) (by decide) E))] [7,10,67] [(7,.own 480)] [110] [(480,.s 112 jJ v)]<|Exists.intro v (And.intro a (cr [.b8 480 110] []))
   exact aH s<|aK<|aT e a
  rintro g a;rw[O]at a;obtain⟨Z,f,a⟩:=az a;obtain⟨V,a⟩:=g0 a;obtain⟨t,W,a⟩:=az a;exact b0 [(2,Y (bk jJ g)),(4,be (ix jJ f)),(6,fK 110 1 (ix jJ f)),(8,.sh b.2.1 (fF V)),(10,be (ix jJ f)),(12,mY 110 (st jJ (off:=1) (ca:=[.int .u64 (bT .or .u64 Z.Bits (IntKind.wrap .u64 ((1:Int)*2 ^ min b.2.1.toNat 64)))]) f W rfl) (oU f).1.1)] [11] [] [110] [(110,.s 112 jJ t)]<|a7 [(0,Y (cI q Q))] [42] [(42,H ((d+1:Nat):Int))]<|aT t a
 rintro d e T P a;rw[S]at a;refine ak [] [] [(43,.d ((d:Int)<ids.length))]<|aq<|aH (cK P)<|bQ<|aV [] [2,7,40,41,42,43] [(4,.own 110),(5,H 0)] [40] []<|c2 ?_
 obtain rfl:=cy a;exact c0 [.bL [110]]
def hw{n r}(c:q7 n dB=some r):bb au prog 112 [] [H n,H dB] (.bool r):=by
 refine a5 func112 rfl rfl ?_;unfold q7 at c;refine aj [] [(0,H n),(1,H dB)] []<|aFe [(4,.bool ((decide (0<=n))&&(decide (n<=dB))))] [] (λb=>?_) ?_
 .rcases eU (decide (0<=n))with a|a
  .exact aj [(2,Y (ax a)),(7,Y (ko (q:=decide (n<=dB)) a))] _ _ b
  exact aj [(2,Y (ax a)),(7,Y (kK (q:=decide (n<=dB)) a))] _ _ b
 exact aN
def VK{b r}(a:Fb b=some r):bb au prog 180 [] [H b] (.int .u64 r):=by
 refine a5 func180 rfl rfl ?_;unfold Fb at a;refine aj [] [(0,H b)] []<|aq ?_
 obtain⟨e,f,a⟩:=az a;refine ak [(1,aB (j2 f) j8)] [] [(5,.bool (!e))] ?_;rcases aC a with⟨c,a⟩|⟨c,a⟩
 .exact aI c<|aj [] [(2,.int .u64 (0:Int))] []<|aN
 refine aH c<|aK ?_
 obtain⟨d,a⟩:=g0 a;exact aj [(2,.sh (a2 ((64:Int)-b)) (fF d))] [(2,.int .u64 (Int.fdiv (18446744073709551615:Int) (2 ^ min (a2 ((64:Int)-b)).toNat 64)))] []<|aN
def xz{b d r}(a:Bo b d=some r):bb au prog 113 [] [.int .u64 b,H d] (.bool r):=by
 refine a5 func113 rfl rfl ?_;unfold Bo at a;refine aj [] [(0,.int .u64 b),(1,H d)] [] ?_;obtain⟨h,e,a⟩:=az a;rcases aC a with⟨c,a⟩|⟨c,a⟩
 .obtain⟨f,g,a⟩:=az a;exact aj [(1,aB (j2 e) j8),(2,Y (ax c)),(5,aB (VK g) Sy)] [(4,.d (bT .andNot .u64 b f=0))] []<|aN
 exact aj [(1,aB (j2 e) j8),(2,Y (ax c))] [(4,.bool false)] []<|aN
variable {p:c4}
def mX{r}(a:mZ p=some r):bb au prog 46 [] [.agg (e7 p)] (.bool r):=by
 refine a5 func46 rfl rfl ?_;unfold mZ at a;refine aj [(0,.al 548)] [(1,.ptr 548 0)] [(548,.cells 52 (e7 p))] ?_;rcases aC a with⟨b,a⟩|⟨b,a⟩
 .rcases aC a with⟨c,a⟩|⟨c,a⟩
  .obtain⟨v,f,a⟩:=az a;rcases aC a with⟨d,a⟩|⟨d,a⟩
   .obtain⟨t,g,a⟩:=az a;rcases aC a with⟨e,a⟩|⟨e,a⟩
    .obtain⟨u,i,a⟩:=az a;rcases aC a with⟨h,a⟩|⟨h,a⟩
     .obtain⟨y,k,a⟩:=az a;rcases aC a with⟨j,a⟩|⟨j,a⟩
      .obtain⟨w,m,a⟩:=az a;rcases aC a with⟨l,a⟩|⟨l,a⟩
       .obtain⟨x,o,a⟩:=az a;rcases aC a with⟨n,a⟩|⟨n,a⟩
        .obtain⟨z,s,a⟩:=az a;rcases aC a with⟨q,a⟩|⟨q,a⟩
         .exact aj [(3,Y (ax b)),(8,Y (ax c)),(11,aB (hw f) hy),(13,Y (ax d)),(16,aB (hw g) hy),(18,Y (ax e)),(23,aB (xz i) vS),(25,Y (ax h)),(28,aB (hw k) hy),(30,Y (ax j)),(33,aB (hw m) hy),(35,Y (ax l)),(38,aB (hw o) hy),(40,Y (ax n)),(43,aB (hw s) hy),(45,Y (ax q))] [(2,.d ((p.gN.size:Int)<=(64:Int)))] []<|aN
         exact aj [(3,Y (ax b)),(8,Y (ax c)),(11,aB (hw f) hy),(13,Y (ax d)),(16,aB (hw g) hy),(18,Y (ax e)),(23,aB (xz i) vS),(25,Y (ax h)),(28,aB (hw k) hy),(30,Y (ax j)),(33,aB (hw m) hy),(35,Y (ax l)),(38,aB (hw o) hy),(40,Y (ax n)),(43,aB (hw s) hy),(45,Y (ax q))] [(2,.bool false)] []<|aN
        exact aj [(3,Y (ax b)),(8,Y (ax c)),(11,aB (hw f) hy),(13,Y (ax d)),(16,aB (hw g) hy),(18,Y (ax e)),(23,aB (xz i) vS),(25,Y (ax h)),(28,aB (hw k) hy),(30,Y (ax j)),(33,aB (hw m) hy),(35,Y (ax l)),(38,aB (hw o) hy),(40,Y (ax n))] [(2,.bool false)] []<|aN
       exact aj [(3,Y (ax b)),(8,Y (ax c)),(11,aB (hw f) hy),(13,Y (ax d)),(16,aB (hw g) hy),(18,Y (ax e)),(23,aB (xz i) vS),(25,Y (ax h)),(28,aB (hw k) hy),(30,Y (ax j)),(33,aB (hw m) hy),(35,Y (ax l))] [(2,.bool false)] []<|aN
      exact aj [(3,Y (ax b)),(8,Y (ax c)),(11,aB (hw f) hy),(13,Y (ax d)),(16,aB (hw g) hy),(18,Y (ax e)),(23,aB (xz i) vS),(25,Y (ax h)),(28,aB (hw k) hy),(30,Y (ax j))] [(2,.bool false)] []<|aN
     exact aj [(3,Y (ax b)),(8,Y (ax c)),(11,aB (hw f) hy),(13,Y (ax d)),(16,aB (hw g) hy),(18,Y (ax e)),(23,aB (xz i) vS),(25,Y (ax h))] [(2,.bool false)] []<|aN
    exact aj [(3,Y (ax b)),(8,Y (ax c)),(11,aB (hw f) hy),(13,Y (ax d)),(16,aB (hw g) hy),(18,Y (ax e))] [(2,.bool false)] []<|aN
   exact aj [(3,Y (ax b)),(8,Y (ax c)),(11,aB (hw f) hy),(13,Y (ax d))] [(2,.bool false)] []<|aN
  exact aj [(3,Y (ax b)),(8,Y (ax c))] [(2,.bool false)] []<|aN
 exact aj [(3,Y (ax b))] [(2,.bool false)] []<|aN
variable {q:c4}
def U2{p ids r}(a:A0 p ids q=some r):bb au prog 9 [] [.agg (fh p),an aJ ids,.agg (e7 q)] (.bO [an g3 r.1,H r.2]):=by
 refine a5 func9 rfl rfl ?_;unfold A0 at a;refine aj [(0,.al 138),(1,.al 139)] [(1,an aJ ids),(3,.ptr 138 0),(5,.ptr 139 0)] [(138,.cells 44 (fh p)),(139,.cells 52 (e7 q))] ?_;obtain⟨b,y,a⟩:=az a;refine ak [(2,aB (Vc y) ab2)] [1] [(8,an jJ b.1),(9,H b.2)]<|aq<|ak [] [] [(20,.bool (!decide (b.2=0)))] ?_
 rcases aC a with⟨k,a⟩|⟨k,a⟩
 .exact aI k<|aj [] [(6,.aF),(7,H b.2)] []<|aN
 refine aH k<|aK<|ak [] [9,20] [(10,.aF)]<|aq<|ak [(1,Y (bk jJ b.1))] [8] [(22,an jJ b.1),(23,H b.1.length),(24,H 0)]<|aX<|aFd 22 rfl λt=>?_
 obtain⟨A,B,w,x,a⟩:=cG a;refine cO a (λc(e,f,h,g,i)=>[(3,.ptr 138 0),(5,.ptr 139 0),(10,.own 203),(22,an jJ b.1),(23,H b.1.length),(24,H c)]) (λc(e,f,h,g,i)=>[(138,.cells 44 (fh p)),(139,.c 52 [H q.Mode,H f,H h,H g,H q.e3,H q.gh,H q.gH,H q.gJ,.int .u64 i,.str q.gN]),(203,.s 52 g3 e)]) ?_ ?_ ?_
 .exact cr [.ad 10 203 52 10] []
 .rintro c d z ⟨e,f,h,g,i⟩ v l a;rw[w]at a;refine ak [] [] [(25,.d ((c:Int)<b.1.length))]<|aq<|aI (cL l)<|aK<|aq<|aX<|aV [(0,be (ix jJ (bU l))),(2,.al 573)] [25] [(12,.ptr 573 0)] [] [(573,.c 112 [H d.Set,.int .u64 d.Bits])]<|aV [] [12] [] [139,573] [(139,.c 52 [H q.Mode,H p.bA,H d.Set,H p.Length,H q.e3,H q.gh,H q.gH,H q.gJ,.int .u64 d.Bits,.str q.gN])]<|aq ?_
  obtain⟨n,o,a⟩:=az a;refine ak [(1,aB (mX o) mK)] [] [(42,.bool (!n))] ?_;rcases aC a with⟨j,a⟩|⟨j,a⟩
  .exact aI j<|aj [] [(6,.aF),(7,H 1)] []<|aN
  refine aH j<|aK ?_
  obtain⟨m,s,a⟩:=az a;exact b0 [(3,dS 389 (ap g3 (bytes:=88) (by decide) s))] [10,42] [(10,.own 389)] [203] [(389,.s 52 g3 m)]<|a7 [(0,Y (cI l t))] [24] [(24,H ((c+1:Nat):Int))]<|Exists.intro (m,p.bA,d.Set,p.Length,d.Bits) (And.intro a (cr [.b8 389 203] []))
 rintro c ⟨e,f,h,g,i⟩ v u a;rw[x]at a;refine ak [] [] [(25,.d ((c:Int)<b.1.length))]<|aq<|aH (cK u)<|bQ<|aj [] [(6,.own 203),(7,H 0)] [(203,.s 52 g3 e)]<|c2 ?_
 obtain rfl:=cy a;exact c0 [.bL [203]]
variable {agM:Int}
def nO{n r}(c:uU n agM dB=some r):bb au prog 184 [] [H n,H agM,H dB] (.bool r):=by
 refine a5 func184 rfl rfl ?_;unfold uU at c;refine aj [] [(0,H n),(1,H agM),(2,H dB)] []<|aFe [(6,.bool ((decide (agM<=n))&&(decide (n<=dB))))] [] (λb=>?_) ?_
 .rcases eU (decide (agM<=n))with a|a
  .exact aj [(3,Y (ax a)),(8,Y (ko (q:=decide (n<=dB)) a))] _ _ b
  exact aj [(3,Y (ax a)),(8,Y (kK (q:=decide (n<=dB)) a))] _ _ b
 exact aN
def U3{n r}(a:EU n=some r):bb au prog 255 [] [H n] (.bool r):=by
 refine a5 func255 rfl rfl ?_;unfold EU at a;refine aj [] [(0,H n)] [] ?_;obtain⟨b,c,a⟩:=az a;exact aj [(1,aB (nO c) oc)] [(2,.bool (!b))] []<|aN
variable {afK:eR}
def Kb{r}(a:xH afK=some r):bb au prog 186 [] [.agg (lb afK)] (.bool r):=by
 refine a5 func186 rfl rfl ?_;unfold xH at a;refine aj [(0,.al 522)] [(1,.ptr 522 0)] [(522,.cells 145 (lb afK))] ?_;obtain⟨g,c,a⟩:=az a;rcases aC a with⟨b,a⟩|⟨b,a⟩
 .exact aj [(2,aB (nO c) oc),(4,Y (ax b))] [(2,.bool true)] []<|aN
 obtain⟨d,e,a⟩:=az a;exact aj [(2,aB (nO c) oc),(4,Y (ax b)),(7,aB (Ao (bZ:=255) (cp:=[]) (dQ:=Sq) (dP:=λ_ _ f=>U3 f) e) zD)] [(2,.bool d)] []<|aN
def I9{l r}(a:xy l=some r):bb au prog 188 [] [an aJ l] (.bool r):=by
 refine a5 func188 rfl rfl ?_;unfold xy at a;refine aj [] [(0,an aJ l)] []<|aq<|ak [(1,Y (bk aJ l))] [] [(5,H l.length),(6,H 0)]<|aX<|aFd 0 rfl λi=>?_
 obtain⟨t,u,m,n,a⟩:=cG a;refine cO a (λb()=>[(0,an aJ l),(5,H l.length),(6,H b)]) (λb()=>[]) ?_ ?_ ?_
 .exact c8
 .rintro b h s ⟨⟩ k e a;rw[m]at a;refine ak [] [] [(7,.d ((b:Int)<l.length))]<|aq<|aI (cL e)<|aK<|aq<|aX<|ak [] [7] [(3,H b)] ?_
  obtain⟨p,o,a⟩:=cV a;refine cW p r (λf=>[(0,an aJ l),(5,H l.length),(6,H b),(22,.bool f)]) (λf=>[]) ?_ ?_
  .rcases aC a with⟨d,a⟩|⟨d,a⟩
   .obtain⟨g,q,a⟩:=az a;exact a7 [(2,Y (ax d)),(6,be (ix aJ q)),(10,be (ix aJ (bU e)))] [3] [(22,.d (h<=g))]<|aT (decide (h<=g)) a
   exact a7 [(2,Y (ax d))] [3] [(22,.bool false)]<|aT false a
  rintro f a;rw[o]at a;rcases aC a with⟨c,a⟩|⟨c,a⟩
  .exact aI c<|aj [] [(2,.bool false)] []<|aN
  exact aH c<|aK<|a7 [(0,Y (cI e i))] [6,22] [(6,H ((b+1:Nat):Int))]<|aT () a
 rintro b ⟨⟩ k j a;rw[n]at a;exact ak [] [] [(7,.d ((b:Int)<l.length))]<|aq<|aH (cK j)<|bQ<|aj [] [(2,.bool true)] []<|aN
def Vd{r}(a:Bd afK=some r):bb au prog 187 [] [.agg (lb afK)] (.bool r):=by
 refine a5 func187 rfl rfl ?_;unfold Bd at a;exact aj [(0,.al 523)] [(1,.ptr 523 0)] [(523,.cells 145 (lb afK))]<|aj [(2,Y (bk aJ afK.Next))] [(2,.d (24<(afK.Next.length:Int)))] []<|aN
def Ve{c r}(a:xI afK c=some r):bb au prog 189 [] [.agg (lb afK),.dI (eT c)] (.bool r):=by
 refine a5 func189 rfl rfl ?_;unfold xI at a;refine aj [(0,.al 524)] [(1,.dI (eT c)),(2,.ptr 524 0)] [(524,.cells 145 (lb afK))] ?_;rcases aC a with⟨b,a⟩|⟨b,a⟩
 .obtain⟨d,e,a⟩:=az a;exact aj [(2,Y (bk aJ afK.Next)),(4,Y (ax b)),(9,aB (wU e) vV)] [(3,.bool d)] []<|aN
 exact aj [(2,Y (bk aJ afK.Next)),(4,Y (ax b))] [(3,.bool false)] []<|aN
variable {b:cH}
def sB{r}(a:uO b=some r):bb au prog 127 [] [.agg (eT b)] (H r):=by
 refine a5 func127 rfl rfl ?_;unfold uO at a;refine aj [(0,.al 70)] [(1,.ptr 70 0)] [(70,.cells 101 (eT b))]<|aFe [(1,.ptr 70 0),(3,.bool ((decide (b.Length=0))&&(decide ((b.Rows.length:Int)=(0:Int)))))] [(70,.cells 101 (eT b))] (λF=>?_) ?_
 .rcases eU (decide (b.Length=0))with f|f
  .exact aj [(3,Y (ax f)),(6,Y (bk eL b.Rows)),(9,Y (ko (q:=decide ((b.Rows.length:Int)=(0:Int))) f))] _ _ F
  exact aj [(3,Y (ax f)),(9,Y (kK (q:=decide ((b.Rows.length:Int)=(0:Int))) f))] _ _ F
 refine aq<|aX ?_
 obtain⟨P,O,a⟩:=cV a;refine cW P r (λo=>[(1,.ptr 70 0),(15,.bool o)]) (λo=>[(70,.cells 101 (eT b))]) ?_ ?_
 .obtain⟨ab,h,a⟩:=az a;rcases aC a with⟨e,a⟩|⟨e,a⟩
  .exact a7 [(2,aB (nO h) oc),(4,Y (ax e))] [3] [(15,.bool true)]<|aT true a
  obtain⟨Z,i,a⟩:=az a;rcases aC a with⟨g,a⟩|⟨g,a⟩
  .exact a7 [(2,aB (nO h) oc),(4,Y (ax e)),(7,aB (nO i) oc),(10,Y (ax g))] [3] [(15,.bool true)]<|aT true a
  obtain⟨aa,l,a⟩:=az a;rcases aC a with⟨j,a⟩|⟨j,a⟩
  .rcases aC a with⟨m,a⟩|⟨m,a⟩
   .exact a7 [(2,aB (nO h) oc),(4,Y (ax e)),(7,aB (nO i) oc),(10,Y (ax g)),(13,aB (j2 l) j8),(15,Y (ax j)),(20,Y (ax m))] [3] [(15,.bool true)]<|aT true a
   obtain⟨E,Q,a⟩:=az a;exact a7 [(2,aB (nO h) oc),(4,Y (ax e)),(7,aB (nO i) oc),(10,Y (ax g)),(13,aB (j2 l) j8),(15,Y (ax j)),(20,Y (ax m)),(23,aB (DV (bZ:=186) (cp:=[]) (dQ:=Ow) (dP:=λ_ _ d=>Kb d) Q) Dc)] [3] [(15,.bool E)]<|aT E a
  obtain⟨B,R,a⟩:=az a;exact a7 [(2,aB (nO h) oc),(4,Y (ax e)),(7,aB (nO i) oc),(10,Y (ax g)),(13,aB (j2 l) j8),(15,Y (ax j)),(23,aB (DV (bZ:=186) (cp:=[]) (dQ:=Ow) (dP:=λ_ _ d=>Kb d) R) Dc)] [3] [(15,.bool B)]<|aT B a
 rintro o a;rw[O]at a;rcases aC a with⟨v,a⟩|⟨v,a⟩
 .exact aI v<|aj [] [(2,H 2)] []<|aN
 refine aH v ?_;obtain⟨G,S,a⟩:=cV a;refine cW G r (λt=>[(1,.ptr 70 0),(41,.bool t)]) (λt=>[(70,.cells 101 (eT b))]) ?_ ?_
 .rcases aC a with⟨s,a⟩|⟨s,a⟩
  .exact a7 [(2,Y (bk eL b.Rows)),(4,Y (ax s))] [15] [(41,.bool true)]<|aT true a
  obtain⟨C,I,a⟩:=az a;exact a7 [(2,Y (bk eL b.Rows)),(4,Y (ax s)),(7,aB (DV (bZ:=187) (cp:=[]) (dQ:=SC) (dP:=λ_ _ d=>Vd d) I) Dc)] [15] [(41,.bool C)]<|aT C a
 rintro t a;rw[S]at a;rcases aC a with⟨p,a⟩|⟨p,a⟩
 .exact aI p<|aj [] [(2,H 3)] []<|aN
 refine aH p<|aK<|aq<|ak [(2,Y (bk eL b.Rows))] [41] [(52,an eL b.Rows),(53,H b.Rows.length),(54,H 0)]<|aX<|aFd 52 rfl λJ=>?_
 obtain⟨ag,am,M,N,a⟩:=cG a;refine cO a (λc()=>[(1,.ptr 70 0),(52,an eL b.Rows),(53,H b.Rows.length),(54,H c)]) (λc()=>[(70,.cells 101 (eT b))]) ?_ ?_ ?_
 .exact c8
 .rintro c A ae ⟨⟩ L n a;rw[M]at a;refine ak [] [] [(55,.d ((c:Int)<b.Rows.length))]<|aq<|aI (cL n)<|aK<|aq<|aX<|aV [(1,be (ix eL (bU n))),(3,.al 500)] [55] [(5,.ptr 500 0),(4,H c)] [] [(500,.cells 145 (lb A))] ?_
  obtain⟨U,X,a⟩:=cV a;refine cW U r (λx=>[(1,.ptr 70 0),(52,an eL b.Rows),(53,H b.Rows.length),(54,H c),(78,.bool x)]) (λx=>[(70,.cells 101 (eT b))]) ?_ ?_
  .obtain⟨ao,u,a⟩:=az a;rcases aC a with⟨k,a⟩|⟨k,a⟩
   .exact b0 [(2,aB (I9 u) HI),(4,Y (ax k))] [5,4] [(78,.bool true)] [500] []<|aT true a
   rcases aC a with⟨w,a⟩|⟨w,a⟩
   .obtain⟨D,V,a⟩:=az a;exact b0 [(2,aB (I9 u) HI),(4,Y (ax k)),(7,Y (ax w)),(12,be (ix eL V))] [5,4] [(78,.d (A.aP<=D.aP))] [500] []<|aT (decide (A.aP<=D.aP)) a
   exact b0 [(2,aB (I9 u) HI),(4,Y (ax k)),(7,Y (ax w))] [5,4] [(78,.bool false)] [500] []<|aT false a
  rintro x a;rw[X]at a;rcases aC a with⟨y,a⟩|⟨y,a⟩
  .exact aI y<|aj [] [(2,H 25)] []<|aN
  exact aH y<|aK<|a7 [(0,Y (cI n J))] [54,78] [(54,H ((c+1:Nat):Int))]<|aT () a
 rintro c ⟨⟩ L K a;rw[N]at a;refine ak [] [] [(55,.d ((c:Int)<b.Rows.length))]<|aq<|aH (cK K)<|bQ<|aq ?_
 obtain⟨T,W,a⟩:=az a;refine aj [(3,bt [70] (DV (bZ:=189) (cp:=[.dI (eT b)]) (dQ:=SD) (dP:=λ_ _ d=>Ve d) W) Dc)] [(83,.bool T)] [] ?_;rcases aC a with⟨z,a⟩|⟨z,a⟩
 .exact aI z<|aj [] [(2,H 8)] []<|aN
 exact aH z<|aK<|aj [] [(2,H 0)] []<|aN
def UE{r}(a:EI b=some r):bb au prog 126 [] [.agg (eT b)] (.bool r):=by
 refine a5 func126 rfl rfl ?_;unfold EI at a;refine aj [(0,.al 499)] [(1,.ptr 499 0)] [(499,.cells 101 (eT b))] ?_;obtain⟨c,d,a⟩:=az a;exact aj [(1,aB (sB d) rN)] [(2,.bool (!decide (c=0)))] []<|aN
def UF{d r}(a:AR b d=some r):bb au prog 128 [] [.agg (eT b),.dI [an eA d]] (.bool r):=by
 refine a5 func128 rfl rfl ?_;unfold AR at a;refine aj [(0,.al 501)] [(1,.dI [an eA d]),(2,.ptr 501 0)] [(501,.cells 101 (eT b))] ?_;obtain⟨f,e,a⟩:=az a;rcases aC a with⟨c,a⟩|⟨c,a⟩
 .exact aj [(3,be (ix eA e)),(7,Y (ax c))] [(3,.bool true)] []<|aN
 exact aj [(3,be (ix eA e)),(7,Y (ax c)),(11,be (ix eA e))] [(3,.bool (!decide (b.Length=f.Length)))] []<|aN
variable {l:yz}
def EB{r}(a:xp l=some r):bb au prog 48 [] [an eA l] (H r):=by
 refine a5 func48 rfl rfl ?_;unfold xp at a;refine aj [(0,.al 140)] [(1,.ptr 140 0)] [(140,.c 45 [an eA l])]<|aq<|aX<|ak [(1,Y (bk eA l))] [] [(4,.d (24<(l.length:Int)))] ?_
 rcases aC a with⟨d,a⟩|⟨d,a⟩
 .exact aI d<|aj [] [(2,H 3)] []<|aN
 refine aH d ?_;obtain⟨p,z,a⟩:=az a;refine ak [(1,aB (PI (bZ:=126) (cp:=[]) (dQ:=Ry) (dP:=λ_ _ j=>UE j) z) OP)] [4] [(8,.bool p)] ?_;rcases aC a with⟨c,a⟩|⟨c,a⟩
 .exact aI c<|aj [] [(2,H 1)] []<|aN
 refine aH c<|aK<|aq<|ak [(1,Y (bk eA l))] [8] [(12,H l.length),(13,H 0)]<|aX<|aFm 1 0 rfl rfl rfl λs=>?_
 obtain⟨B,C,v,w,a⟩:=cG a;refine cO a (λb()=>[(1,.ptr 140 0),(12,H l.length),(13,H b)]) (λb()=>[(140,.c 45 [an eA l])]) ?_ ?_ ?_
 .exact c8
 .rintro b m A ⟨⟩ u f a;rw[v]at a;refine ak [] [] [(14,.d ((b:Int)<l.length))]<|aq<|aI (cL f)<|aK<|aq<|aX<|ak [] [14] [(3,H b)] ?_
  obtain⟨y,x,a⟩:=cV a;refine cW y r (λh=>[(1,.ptr 140 0),(12,H l.length),(13,H b),(31,.bool h)]) (λh=>[(140,.c 45 [an eA l])]) ?_ ?_
  .rcases aC a with⟨g,a⟩|⟨g,a⟩
   .obtain⟨k,o,a⟩:=az a;exact a7 [(2,Y (ax g)),(6,be (ix eA o)),(11,be (ix eA (bU f)))] [3] [(31,.d (m.ai<=k.ai))]<|aT (decide (m.ai<=k.ai)) a
   exact a7 [(2,Y (ax g))] [3] [(31,.bool false)]<|aT false a
  rintro h a;rw[x]at a;rcases aC a with⟨i,a⟩|⟨i,a⟩
  .exact aI i<|aj [] [(2,H 25)] []<|aN
  exact aH i<|aK<|a7 [(0,Y (cI f s))] [13,31] [(13,H ((b+1:Nat):Int))]<|aT () a
 rintro b ⟨⟩ u t a;rw[w]at a;refine ak [] [] [(14,.d ((b:Int)<l.length))]<|aq<|aH (cK t)<|bQ<|aq ?_
 obtain⟨n,q,a⟩:=az a;refine aj [(2,bt [140] (PI (bZ:=128) (cp:=[.dI [an eA l]]) (dQ:=Rz) (dP:=λ_ _ j=>UF j) q) OP)] [(35,.bool n)] [] ?_;rcases aC a with⟨e,a⟩|⟨e,a⟩
 .exact aI e<|aj [] [(2,H 8)] []<|aN
 exact aH e<|aK<|aj [] [(2,H 0)] []<|aN
variable {aey:Int}
def Kp{r}(a:xX l aey=some r):bb au prog 129 [] [an eA l,H aey] (.bO [.agg (eT r.1),.bool r.2]):=by
 refine a5 func129 rfl rfl ?_;unfold xX at a;refine aj [(0,.al 90)] [(0,an eA l),(1,H aey),(4,.ptr 90 0)] [(90,.c 101 [H 0,H 0,H 0,.aF])]<|aq<|ak [(1,Y (bk eA l))] [0] [(11,an eA l),(12,H l.length),(13,H 0)]<|aX<|aFd 11 rfl λm=>?_
 obtain⟨A,B,p,q,a⟩:=cG a;refine cO a (λc()=>[(1,H aey),(4,.ptr 90 0),(11,an eA l),(12,H l.length),(13,H c)]) (λc()=>[(90,.c 101 [H 0,H 0,H 0,.aF])]) ?_ ?_ ?_
 .exact c8
 .rintro c b z ⟨⟩ o g a;rw[p]at a;refine ak [] [] [(14,.d ((c:Int)<l.length))]<|aq<|aI (cL g)<|aK<|aq<|aX<|aV [(0,be (ix eA (bU g))),(2,.al 282)] [14] [(7,.ptr 282 0)] [] [(282,.cells 101 (eT b))]<|ak [] [] [(20,.d (b.ai=aey))] ?_
  rcases aC a with⟨f,a⟩|⟨f,a⟩
  .refine aI f<|aV [(1,.al 171)] [1,11,12,13,20] [(8,.ptr 171 0)] [] [(171,.cells 101 (eT b))]<|aV [] [] [] [171] [(171,.c 101 [H b.ai,H b.bA,H b.Length,.aF])]<|aq<|aV [(2,Y (bk eL b.Rows))] [7] [(24,an eL b.Rows),(25,H b.Rows.length),(26,H 0)] [282] []<|aX<|aFd 24 rfl λt=>?_
   obtain⟨E,D,u,v,a⟩:=cG a;refine cO a (λd=>λe=>[(4,.ptr 90 0),(8,.ptr 171 0),(24,an eL b.Rows),(25,H b.Rows.length),(26,H d)]) (λd=>λe=>[(90,.c 101 [H 0,H 0,H 0,.aF]),(171,.c 101 [H b.ai,H b.bA,H b.Length,.own 241]),(241,.s 145 eL e)]) ?_ ?_ ?_
   .exact cr [.ac 171 241 145 2 3] []
   .rintro d x C e w h a;rw[u]at a;refine ak [] [] [(27,.d ((d:Int)<b.Rows.length))]<|aq<|aI (cL h)<|aK<|aq<|aX<|aV [(0,be (ix eL (bU h))),(2,.al 502)] [27] [(10,.ptr 502 0)] [] [(502,.cells 145 (lb x))] ?_
    obtain⟨k,y,i,j,a⟩:=er a;exact b0 [(6,aB (aFJ (r':=an aJ k) (σ3:=[]) [279] (PX y) (by kernel_rfl) (by kernel_rfl)) Ox),(9,dS 357 (ap eL (bytes:=32) (by decide) j))] [10] [] [171,241,502] [(171,.c 101 [H b.ai,H b.bA,H b.Length,.own 357]),(357,.s 145 eL i)]<|a7 [(0,Y (cI h t))] [26] [(26,H ((d+1:Nat):Int))]<|Exists.intro i (And.intro a (cr [.b8 357 241] []))
   rintro d e w s a;rw[v]at a;refine ak [] [] [(27,.d ((d:Int)<b.Rows.length))]<|aq<|aH (cK s)<|bQ<|aV [] [8,24,25,26,27] [(5,.bool true)] [90,171] [(90,.c 101 [H b.ai,H b.bA,H b.Length,.own 241])]<|c2 ?_
   obtain rfl:=cy a;exact c0 [.bL [241]]
  exact aH f<|aK<|b0 [(0,Y (cI g m))] [13,7,20] [(13,H ((c+1:Nat):Int))] [282] []<|aT () a
 rintro c ⟨⟩ o n a;rw[q]at a;exact ak [] [] [(14,.d ((c:Int)<l.length))]<|aq<|aH (cK n)<|bQ<|ak [] [1,11,12,13,14] [(5,.bool false)]<|aN
variable {t:aS}
def Vy{r}(a:Bp t l p aey=some r):bb au prog 49 [] [.agg (bz t),an eA l,.agg (e7 p),H aey] (H r):=by
 refine a5 func49 rfl rfl ?_;unfold Bp at a;refine aj [(0,.al 419),(1,.al 236)] [(1,an eA l),(3,H aey),(4,.ptr 419 0),(6,.ptr 236 0)] [(419,.cells 41 (bz t)),(236,.cells 52 (e7 p))] ?_;obtain⟨b,o,a⟩:=az a;refine aV [(2,aB (Kp o) OQ),(6,.al 261)] [1] [(9,.ptr 261 0),(10,.bool b.2)] [] [(261,.cells 101 (eT b.1))]<|aq<|aX ?_
 obtain⟨n,m,a⟩:=cV a;refine cW n r (λh=>[(6,.ptr 236 0),(9,.ptr 261 0),(17,.bool h)]) (λh=>[(236,.cells 52 (e7 p)),(261,.cells 101 (eT b.1))]) ?_ ?_
 .rcases aC a with⟨e,a⟩|⟨e,a⟩
  .exact b0 [(2,Y (ax e))] [3,4,10] [(17,.bool true)] [419] []<|aT true a
  obtain⟨i,k,a⟩:=az a;exact b0 [(2,Y (ax e)),(5,aB (nK k) nC)] [3,4,10] [(17,.bool (!i))] [419] []<|aT (!i) a
 rintro h a;rw[m]at a;rcases aC a with⟨d,a⟩|⟨d,a⟩
 .exact aI d<|aj [] [(8,H 4)] []<|aN
 refine aH d<|ak [] [17] [(26,.d (p.Mode=2))] ?_
 rcases aC a with⟨g,a⟩|⟨g,a⟩
 .exact aI g<|aj [] [(8,H 7)] []<|aN
 refine aH g<|aFe [(30,.bool ((!decide (p.bA=b.1.bA))||(!decide (p.Length=b.1.Length))))] [] (λj=>?_) ?_
 .rcases eU (!decide (p.bA=b.1.bA))with c|c
  .exact aj [(5,Y (ax c)),(12,Y (hj (q:=!decide (p.Length=b.1.Length)) c))] _ _ j
  exact aj [(5,Y (ax c)),(12,Y (eW (q:=!decide (p.Length=b.1.Length)) c))] _ _ j
 rcases aC a with⟨f,a⟩|⟨f,a⟩
 .exact aI f<|aj [] [(8,H 8)] []<|aN
 exact aH f<|aK<|aj [] [(8,H 0)] []<|aN
def Ud{b r}(a:Aq b=some r):bb true prog 202 [] [.int .u64 b] (H r):=by
 refine a5 func202 rfl rfl ?_;unfold Aq at a;refine aj [] [(0,.int .u64 b)] []<|aq<|ak [] [] [(4,.d (b=0))] ?_
 rcases aC a with⟨c,a⟩|⟨c,a⟩
 .exact aI c<|aj [] [(2,H 64)] []<|aN
 refine aH c<|aK ?_
 obtain⟨d,e,a⟩:=az a;exact aj [(5,.sh (58:Int) (by decide)),(6,nL e underlying330 sizeOf5)] [(2,H (a2 d))] []<|aN
def Kf{b r}(a:xM b=some r):bb true prog 141 [] [.int .u64 b] (H r):=by
 refine a5 func141 rfl rfl ?_;unfold xM at a;refine aj [] [(0,.int .u64 b)] []<|aq<|ak [] [] [(4,.d (b=0))] ?_
 rcases aC a with⟨c,a⟩|⟨c,a⟩
 .exact aI c<|aj [] [(2,H (-1))] []<|aN
 refine aH c<|aK ?_
 obtain⟨d,e,a⟩:=az a;exact aj [(1,aB (Ud e) SN)] [(2,H d)] []<|aN
def Kk{b r}(a:xR b=some r):bb true prog 57 [] [.int .u64 b] (an aJ r):=by
 refine a5 func57 rfl rfl ?_;unfold xR at a;refine aj [] [(0,.int .u64 b)] []<|ak [] [] [(3,.aF)]<|aq<|aX ?_
 obtain⟨m,l,h,a⟩:=jL a;refine aFn a (λ(c,e)=>[(0,.int .u64 c),(3,.own 298)]) (λ(c,e)=>[(298,.s 3 aJ e)]) ?_ ?_
 .exact cr [.ad 3 298 3 1] []
 rintro k ⟨c,e⟩ a;rw[h]at a;refine aq<|ak [] [] [(5,.bool (!decide (c=0)))] ?_
 rcases aC a with⟨d,a⟩|⟨d,a⟩
 .refine aI d<|aK<|aq<|aX ?_
  obtain⟨j,i,f,g,a⟩:=er a;exact b0 [(2,aB (Kf i) OS),(4,dS 381 (ap aJ (bytes:=8) (by decide) g))] [3,5] [(3,.own 381)] [298] [(381,.s 3 aJ f)]<|a7 [] [0] [(0,.int .u64 (bT .and .u64 c (IntKind.wrap .u64 (c-1))))]<|Exists.intro (bT .and .u64 c (IntKind.wrap .u64 (c-1)),f) (And.intro a (cr [.b8 381 298] []))
 refine aH d<|bQ<|ak [] [0,3,5] [(2,.own 298)]<|c2 ?_
 obtain rfl:=cy a;exact c0 [.bL [298]]
variable {ahc:Int}
def VL{r}(a:BF p ahc=some r):bb au prog 191 [] [.agg (e7 p),H ahc] (.agg (e7 r)):=by
 refine a5 func191 rfl rfl ?_;unfold BF at a;refine aj [(0,.al 220),(1,.al 197)] [(1,H ahc),(2,.ptr 220 0),(4,.ptr 197 0)] [(220,.cells 52 (e7 p)),(197,.c 52 [H 0,H 0,H 0,H 0,H 0,H 0,H 0,H 0,.int .u64 (0:Int),.str (⟨#[]⟩:ByteArray)])]<|aq ?_
 obtain⟨k,j,a⟩:=cV a;refine cW k r (λf=>[(1,H ahc),(2,.ptr 220 0),(4,.ptr 197 0),(23,.bool f)]) (λf=>[(220,.cells 52 (e7 p)),(197,.c 52 [H 0,H 0,H 0,H 0,H 0,H 0,H 0,H 0,.int .u64 (0:Int),.str (⟨#[]⟩:ByteArray)])]) ?_ ?_
 .obtain⟨l,d,a⟩:=az a;rcases aC a with⟨b,a⟩|⟨b,a⟩
  .exact a7 [(1,aB (mX d) mK),(3,Y (ax b))] [] [(23,.bool true)]<|aT true a
  rcases aC a with⟨c,a⟩|⟨c,a⟩
  .exact a7 [(1,aB (mX d) mK),(3,Y (ax b)),(7,Y (ax c))] [] [(23,.bool true)]<|aT true a
  rcases aC a with⟨e,a⟩|⟨e,a⟩
  .exact a7 [(1,aB (mX d) mK),(3,Y (ax b)),(7,Y (ax c)),(11,Y (ax e))] [] [(23,.bool true)]<|aT true a
  obtain⟨h,a⟩:=g0 a;exact a7 [(1,aB (mX d) mK),(3,Y (ax b)),(7,Y (ax c)),(11,Y (ax e)),(15,.sh ahc (fF h))] [] [(23,.d (bT .and .u64 (Int.fdiv p.Bits (2 ^ min ahc.toNat 64)) (1:Int)=(0:Int)))]<|aT (decide (bT .and .u64 (Int.fdiv p.Bits (2 ^ min ahc.toNat 64)) (1:Int)=(0:Int))) a
 rintro f a;rw[j]at a;rcases aC a with⟨g,a⟩|⟨g,a⟩
 .refine aI g ?_;cases a
 refine aH g<|aK ?_
 obtain⟨i,a⟩:=g0 a;exact aV [(1,.sh ahc (fF i))] [1,23] [] [220] [(220,.c 52 [H p.Mode,H p.bA,H p.Set,H p.Length,H p.e3,H p.gh,H p.gH,H p.gJ,.int .u64 (IntKind.wrap .u64 ((1:Int)*2 ^ min ahc.toNat 64)),.str p.gN])]<|aj [] [(4,.ptr 197 0)] [(197,.c 52 [H p.Mode,H p.bA,H p.Set,H p.Length,H p.e3,H p.gh,H p.gH,H p.gJ,.int .u64 (IntKind.wrap .u64 ((1:Int)*2 ^ min ahc.toNat 64)),.str p.gN])]<|aN
def Vf{h f r}(a:Be h aey f p=some r):bb true prog 130 [] [.agg (eT h),H aey,.agg (p0 f),.agg (e7 p)] (an iR r):=by
 refine a5 func130 rfl rfl ?_;unfold Be at a;refine aj [(0,.al 130004),(1,.al 393),(2,.al 178)] [(1,H aey),(6,.ptr 393 0),(7,.ptr 178 0)] [(393,.cells 122 (p0 f)),(178,.cells 52 (e7 p))]<|ak [] [] [(9,.aF)]<|aq ?_
 obtain⟨b,s,a⟩:=az a;refine aV [(2,aB (Kk s) JG),(3,Y (bk aJ b))] [6] [(14,an aJ b),(15,H b.length),(16,H 0)] [393] []<|aX<|aFd 14 rfl λk=>?_
 obtain⟨v,w,n,o,a⟩:=cG a;refine cO a (λc=>λd=>[(1,H aey),(7,.ptr 178 0),(9,.own 238),(14,an aJ b),(15,H b.length),(16,H c)]) (λc=>λd=>[(178,.cells 52 (e7 p)),(238,.s 127 iR d)]) ?_ ?_ ?_
 .exact cr [.ad 9 238 127 11] []
 .rintro c q u d m e a;rw[n]at a;refine ak [] [] [(17,.d ((c:Int)<b.length))]<|aq<|aI (cL e)<|aK<|aq<|aX<|ak [(0,be (ix aJ (bU e)))] [17] [(11,H q)] ?_
  obtain⟨t,i,g,j,a⟩:=er a;exact b0 [(4,aB (VL i) SE),(7,dS 358 (ap iR (bytes:=96) (by decide) j))] [9,11] [(9,.own 358)] [238] [(358,.s 127 iR g)]<|a7 [(0,Y (cI e k))] [16] [(16,H ((c+1:Nat):Int))]<|Exists.intro g (And.intro a (cr [.b8 358 238] []))
 rintro c d m l a;rw[o]at a;refine ak [] [] [(17,.d ((c:Int)<b.length))]<|aq<|aH (cK l)<|bQ<|aj [] [(8,.own 238)] [(238,.s 127 iR d)]<|c2 ?_
 obtain rfl:=cy a;exact c0 [.bL [238]]
def VM{step:Int->i6->Option (jk×Bool)}{rI:Nat}{tu:List U}(Od:a3 prog rI)(Oe:∀(o:Int) (u:i6) (q:jk×Bool),step o u=some q->bb true prog rI [] ([H o,.agg (qW u)]++tu) (.bO [.agg (p0 q.1),.bool q.2])){r:kU}(a:BG p aey step=some r):cz true prog 50 [] [.agg (e7 p),H aey,.cD rI tu] (eH (.agg [.own 326,.own 327,.own 328]) [(326,.s 127 iR r.iI),(327,.s 227 q8 r.Ci),(328,.s 130 o4 r.qf)]):=by
 refine a5 func50 rfl rfl ?_;unfold BG at a;refine aj [(0,.al 421),(1,.al 74)] [(1,H aey),(2,.cD rI tu),(3,.ptr 421 0),(6,.ptr 74 0)] [(421,.cells 52 (e7 p)),(74,.c 63 [.aF,.aF,.aF])]<|A.scope<|aj [(0,.al 91)] [(1,H aey),(2,.cD rI tu),(3,.ptr 421 0),(6,.ptr 74 0),(7,.ptr 91 0)] [(421,.cells 52 (e7 p)),(74,.c 63 [.aF,.aF,.aF]),(91,.c 63 [.aF,.aF,.aF])]<|aV [(4,.al 423)] [1,3] [(8,.own 423)] [421] [(423,.s 220 qQ ([(k7.mk aey (i6.mk [] p))]:List k7))]<|aq<|A.label<|aq<|aX ?_
 obtain⟨S,R,J,a⟩:=jL a;refine aFn a (λ(e,h,l)=>[(2,.cD rI tu),(6,.ptr 74 0),(7,.ptr 91 0),(8,.own 600050008)]) (λ(e,h,l)=>[(74,.c 63 [.aF,.aF,.aF]),(91,.c 63 [.own 206,.own 116,.aF]),(600050008,.win 220 12 (bc qQ e)),(206,.s 127 iR h),(116,.s 227 q8 l)]) ?_ ?_
 .exact cr [.wi 423,.b8 423 600050008,.ac 91 206 127 11 0,.ac 91 116 227 3 1] []
 rintro N ⟨e,h,l⟩ a;rw[J]at a;refine aq<|ak [(1,Y (bk qQ e))] [] [(21,.d (0<(e.length:Int)))] ?_
 rcases aC a with⟨i,a⟩|⟨i,a⟩
 .refine aI i<|aK<|aX ?_
  obtain⟨n,L,a⟩:=az a;refine aV [(1,be (ix qQ L)),(3,.al 128)] [21] [(9,.ptr 128 0)] [] [(128,.cells 220 (PF n))] ?_;obtain⟨z,v,a⟩:=az a;refine aV [(1,pW 50526 (zL qQ v))] [8] [(8,.own 50526)] [600050008] [(50526,.win 220 12 (bc qQ z))] ?_;obtain⟨b,w,a⟩:=az a;refine aV [(5,jH (Oe _ _ _ w) Od),(9,.al 295)] [] [(10,.ptr 295 0),(11,.bool b.2)] [] [(295,.cells 122 (p0 b.1))]<|aq<|ak [] [11] [(37,.bool (!b.2))] ?_
  rcases aC a with⟨g,a⟩|⟨g,a⟩
  .refine aI g<|aq ?_
   cases a
  refine aH g<|aK ?_
  obtain⟨M,y,j,B,a⟩:=er a;refine aV [(9,aB (Vf y) RA),(10,dS 158 (ap iR (bytes:=96) (by decide) B))] [37] [] [91,206] [(91,.c 63 [.own 158,.own 116,.aF]),(158,.s 127 iR j)]<|aq<|ak [] [] [(69,.bool (!decide (b.1.r4=0)))] ?_
  rcases aC a with⟨k,a⟩|⟨k,a⟩
  .refine aI k ?_;cases a
  refine aH k<|aK<|aV [(2,Y (bk lp b.1.kT))] [10,69] [(81,an lp b.1.kT),(82,H b.1.kT.length),(83,H 0)] [295] []<|aX<|aFd 81 rfl λD=>?_
  obtain⟨Q,P,F,G,a⟩:=cG a;refine cO a (λc(f,d)=>[(2,.cD rI tu),(6,.ptr 74 0),(7,.ptr 91 0),(8,.own 600050008),(9,.ptr 128 0),(81,an lp b.1.kT),(82,H b.1.kT.length),(83,H c)]) (λc(f,d)=>[(74,.c 63 [.aF,.aF,.aF]),(91,.c 63 [.own 158,.own 116,.aF]),(116,.s 227 q8 d),(128,.cells 220 (PF n)),(158,.s 127 iR j),(600050008,.win 220 12 (bc qQ f))]) ?_ ?_ ?_
  .exact cr [.b8 50526 600050008] []
  .rintro c K O ⟨f,d⟩ I m a;rw[F]at a;refine ak [] [] [(84,.d ((c:Int)<b.1.kT.length))]<|aq<|aI (cL m)<|aK<|aq<|aX<|aV [(0,be (ix lp (bU m))),(2,.al 422)] [84] [(13,.ptr 422 0)] [] [(422,.cells 225 (w1 K))] ?_
   obtain⟨s,x,a⟩:=az a;refine aV [(12,dS 308 (ap q8 (bytes:=24) (by decide) x))] [] [] [91,116] [(91,.c 63 [.own 158,.own 308,.aF]),(308,.s 227 q8 s)] ?_;obtain⟨t,E,a⟩:=az a;exact b0 [(7,dS 50608 (ap qQ (bytes:=120) (by decide) E))] [8,13] [(8,.own 50608)] [600050008,422] [(50608,.win 220 12 (bc qQ t))]<|a7 [(0,Y (cI m D))] [83] [(83,H ((c+1:Nat):Int))]<|Exists.intro (t,s) (And.intro a (cr [.b8 50608 600050008,.b8 308 116] []))
  rintro c ⟨f,d⟩ I C a;rw[G]at a;exact ak [] [] [(84,.d ((c:Int)<b.1.kT.length))]<|aq<|aH (cK C)<|bQ<|Exists.intro (f,j,d) (And.intro a (cr [.b8 158 206] []))
 refine aH i<|bQ<|aV [] [2,7,8,21] [] [74,91,600050008] [(74,.c 63 [.own 206,.own 116,.aF])]<|c2 ?_
 obtain rfl:=cy a;exact c0 [.b8 206 326,.b8 116 327,.ac 74 328 130 2 2]
def V6{n r}(c:FZ n agM dB=some r):bb au prog 256 [] [H n,H agM,H dB] (.bool r):=by
 refine a5 func256 rfl rfl ?_;unfold FZ at c;refine aj [] [(0,H n),(1,H agM),(2,H dB)] []<|aFe [(6,.bool ((decide (agM<=n))&&(decide (n<=dB))))] [] (λb=>?_) ?_
 .rcases eU (decide (agM<=n))with a|a
  .exact aj [(3,Y (ax a)),(8,Y (ko (q:=decide (n<=dB)) a))] _ _ b
  exact aj [(3,Y (ax a)),(8,Y (kK (q:=decide (n<=dB)) a))] _ _ b
 exact aN
def Vz{n r}(a:Fp n=some r):bb au prog 193 [] [H n] (.bool r):=by
 refine a5 func193 rfl rfl ?_;unfold Fp at a;refine aj [] [(0,H n)] [] ?_;obtain⟨b,c,a⟩:=az a;exact aj [(1,aB (V6 c) Sr)] [(2,.bool b)] []<|aN
def J4{l r}(a:EV l=some r):bb au prog 194 [] [an aJ l] (.bool r):=by
 refine a5 func194 rfl rfl ?_;unfold EV at a;refine aj [] [(0,an aJ l)] []<|aq<|ak [(1,Y (bk aJ l))] [] [(5,an aJ l),(6,H l.length),(7,H 0)]<|aX<|aFd 0 rfl λg=>?_
 obtain⟨q,s,j,k,a⟩:=cG a;refine cO a (λb()=>[(0,an aJ l),(5,an aJ l),(6,H l.length),(7,H b)]) (λb()=>[]) ?_ ?_ ?_
 .exact c8
 .rintro b m p ⟨⟩ i d a;rw[j]at a;refine ak [] [] [(8,.d ((b:Int)<l.length))]<|aq<|aI (cL d)<|aK<|aq<|aX<|ak [(1,be (ix aJ (bU d)))] [8] [(3,H b),(4,H m)] ?_
  obtain⟨o,n,f,e,a⟩:=er a;refine ak [(2,fB (sl aJ n)),(4,aB (wU e) vV)] [3,4] [(16,.bool f)] ?_;rcases aC a with⟨c,a⟩|⟨c,a⟩
  .exact aI c<|aj [] [(2,.bool true)] []<|aN
  exact aH c<|aK<|a7 [(0,Y (cI d g))] [7,16] [(7,H ((b+1:Nat):Int))]<|aT () a
 rintro b ⟨⟩ i h a;rw[k]at a;exact ak [] [] [(8,.d ((b:Int)<l.length))]<|aq<|aH (cK h)<|bQ<|aj [] [(2,.bool false)] []<|aN
def I2{n r}(a:Et n=some r):bb au prog 192 [] [H n] (.bool r):=by
 refine a5 func192 rfl rfl ?_;unfold Et at a;refine aj [] [(0,H n)] [] ?_;obtain⟨b,c,a⟩:=az a;exact aj [(1,aB (Vz c) SF)] [(2,.bool (!b))] []<|aN
variable {f:i6}
def UG{r}(a:AS f=some r):bb au prog 131 [] [.agg (qW f)] (.bool r):=by
 refine a5 func131 rfl rfl ?_;unfold AS at a;refine aj [(0,.al 503)] [(1,.ptr 503 0)] [(503,.cells 119 (qW f))] ?_;rcases aC a with⟨b,a⟩|⟨b,a⟩
 .obtain⟨l,g,a⟩:=az a;rcases aC a with⟨d,a⟩|⟨d,a⟩
  .obtain⟨k,h,a⟩:=az a;rcases aC a with⟨e,a⟩|⟨e,a⟩
   .obtain⟨i,j,a⟩:=az a;exact aj [(2,Y (bk aJ f.jS)),(4,Y (ax b)),(7,aB (Ao (bZ:=192) (cp:=[]) (dQ:=HJ) (dP:=λ_ _ c=>I2 c) g) zD),(10,Y (ax d)),(13,aB (J4 h) Oy),(16,Y (ax e)),(19,aB (mX j) mK)] [(2,.bool i)] []<|aN
   exact aj [(2,Y (bk aJ f.jS)),(4,Y (ax b)),(7,aB (Ao (bZ:=192) (cp:=[]) (dQ:=HJ) (dP:=λ_ _ c=>I2 c) g) zD),(10,Y (ax d)),(13,aB (J4 h) Oy),(16,Y (ax e))] [(2,.bool false)] []<|aN
  exact aj [(2,Y (bk aJ f.jS)),(4,Y (ax b)),(7,aB (Ao (bZ:=192) (cp:=[]) (dQ:=HJ) (dP:=λ_ _ c=>I2 c) g) zD),(10,Y (ax d))] [(2,.bool false)] []<|aN
 exact aj [(2,Y (bk aJ f.jS)),(4,Y (ax b))] [(2,.bool false)] []<|aN
def VA{r}(a:Bq p=some r):bb au prog 195 [] [.agg (e7 p)] (H r):=by
 refine a5 func195 rfl rfl ?_;unfold Bq at a;refine aj [(0,.al 403)] [(1,.ptr 403 0)] [(403,.cells 52 (e7 p))]<|aq ?_
 obtain⟨c,d,a⟩:=az a;refine ak [(1,aB (mX d) mK)] [] [(5,.bool (!c))] ?_;rcases aC a with⟨b,a⟩|⟨b,a⟩
 .exact aI b<|aj [] [(2,H 0)] []<|aN
 exact aH b<|aK<|aj [(2,.qr (8:Int) (by decide))] [(2,H (Int.tmod p.gh (8:Int)))] []<|aN
def Kl{b c r}(a:q5 b ahc c=some r):bb au prog 58 [] [H b,H ahc,H c] (.bO [H r.1,.bool r.2]):=by
 refine a5 func58 rfl rfl ?_;unfold q5 at a;refine aj [] [(0,H b),(1,H ahc),(2,H c)] []<|aq ?_
 obtain⟨n,m,a⟩:=cV a;refine cW n r (λg=>[(0,H b),(1,H ahc),(2,H c),(23,.bool g)]) (λg=>[]) ?_ ?_
 .obtain⟨p,i,a⟩:=az a;rcases aC a with⟨d,a⟩|⟨d,a⟩
  .exact a7 [(1,aB (j2 i) j8),(3,Y (ax d))] [] [(23,.bool true)]<|aT true a
  obtain⟨o,k,a⟩:=az a;rcases aC a with⟨e,a⟩|⟨e,a⟩
  .exact a7 [(1,aB (j2 i) j8),(3,Y (ax d)),(7,aB (hE k) hN),(10,Y (ax e))] [] [(23,.bool true)]<|aT true a
  obtain⟨j,l,a⟩:=az a;exact a7 [(1,aB (j2 i) j8),(3,Y (ax d)),(7,aB (hE k) hN),(10,Y (ax e)),(12,aB (hE l) hN)] [] [(23,.bool (!j))]<|aT (!j) a
 rintro g a;rw[m]at a;rcases aC a with⟨f,a⟩|⟨f,a⟩
 .exact aI f<|aj [] [(6,H 0),(7,.bool false)] []<|aN
 refine aH f<|aK<|aj [] [(8,H (a2 ((a2 ((a2 (b*c))+ahc))+(1:Int))))] []<|aq<|ak [] [] [(31,.d (256<a2 ((a2 ((a2 (b*c))+ahc))+(1:Int))))] ?_
 rcases aC a with⟨h,a⟩|⟨h,a⟩
 .exact aI h<|aj [] [(6,H 0),(7,.bool false)] []<|aN
 exact aH h<|aK<|aj [] [(6,H (a2 ((a2 ((a2 (b*c))+ahc))+(1:Int)))),(7,.bool true)] []<|aN
variable {ag6 aij:Int}
def Kg{r}(a:xS b ag6 aij=some r):bb au prog 257 [] [.agg (eT b),H ag6,H aij] (.bool r):=by
 refine a5 func257 rfl rfl ?_;unfold xS at a;refine aj [(0,.al 534)] [(1,H ag6),(2,H aij),(3,.ptr 534 0)] [(534,.cells 101 (eT b))] ?_;obtain⟨h,e,a⟩:=az a;rcases aC a with⟨c,a⟩|⟨c,a⟩
 .rcases aC a with⟨d,a⟩|⟨d,a⟩
  .rcases aC a with⟨f,a⟩|⟨f,a⟩
   .rcases aC a with⟨g,a⟩|⟨g,a⟩
    .exact aj [(1,aB (sB e) rN),(3,Y (ax c)),(7,Y (ax d)),(11,Y (ax f)),(15,Y (ax g))] [(6,.d (aij<=31))] []<|aN
    exact aj [(1,aB (sB e) rN),(3,Y (ax c)),(7,Y (ax d)),(11,Y (ax f)),(15,Y (ax g))] [(6,.bool false)] []<|aN
   exact aj [(1,aB (sB e) rN),(3,Y (ax c)),(7,Y (ax d)),(11,Y (ax f))] [(6,.bool false)] []<|aN
  exact aj [(1,aB (sB e) rN),(3,Y (ax c)),(7,Y (ax d))] [(6,.bool false)] []<|aN
 exact aj [(1,aB (sB e) rN),(3,Y (ax c))] [(6,.bool false)] []<|aN
def V1{r}(a:BS b id=some r):bb au prog 258 [] [.agg (eT b),H id] (.bO [.agg (lb r.1),.bool r.2]):=by
 refine a5 func258 rfl rfl ?_;unfold BS at a;refine aj [(0,.al 535),(1,.al 163)] [(1,H id),(2,.ptr 535 0),(4,.ptr 163 0)] [(535,.cells 101 (eT b)),(163,.c 145 [H 0,.aF])]<|aq<|aV [(2,Y (bk eL b.Rows))] [2] [(9,an eL b.Rows),(10,H b.Rows.length),(11,H 0)] [535] []<|aX<|aFd 9 rfl λh=>?_
 obtain⟨o,p,k,l,a⟩:=cG a;refine cO a (λc()=>[(1,H id),(4,.ptr 163 0),(9,an eL b.Rows),(10,H b.Rows.length),(11,H c)]) (λc()=>[(163,.c 145 [H 0,.aF])]) ?_ ?_ ?_
 .exact c8
 .rintro c f n ⟨⟩ j e a;rw[k]at a;refine ak [] [] [(12,.d ((c:Int)<b.Rows.length))]<|aq<|aI (cL e)<|aK<|aq<|aX<|aV [(0,be (ix eL (bU e))),(2,.al 411)] [12] [(7,.ptr 411 0)] [] [(411,.cells 145 (lb f))]<|ak [] [] [(18,.d (f.aP=id))] ?_
  rcases aC a with⟨d,a⟩|⟨d,a⟩
  .refine aI d ?_;obtain⟨g,m,a⟩:=az a;refine aj [(3,b3 [433] (e0.at [(279,433)] (PX m)) Ox)] [(4,.ptr 163 0),(5,.bool true)] [(163,.c 145 [H id,.own 433]),(433,.s 3 aJ g)]<|c2 ?_
   obtain rfl:=cy a;exact c0 [.bL [433]]
  exact aH d<|aK<|b0 [(0,Y (cI e h))] [11,7,18] [(11,H ((c+1:Nat):Int))] [411] []<|aT () a
 rintro c ⟨⟩ j i a;rw[l]at a;exact ak [] [] [(12,.d ((c:Int)<b.Rows.length))]<|aq<|aH (cK i)<|bQ<|ak [] [1,9,10,11,12] [(5,.bool false)]<|aN
def Kq{r}(a:sK afK ag6=some r):bb au prog 259 [] [.agg (lb afK),H ag6] (H r):=by
 refine a5 func259 rfl rfl ?_;unfold sK at a;refine aj [(0,.al 412)] [(1,H ag6),(2,.ptr 412 0)] [(412,.cells 145 (lb afK))]<|aq<|ak [(2,Y (bk aJ afK.Next))] [] [(8,.d ((afK.Next.length:Int)=(0:Int)))] ?_
 rcases aC a with⟨b,a⟩|⟨b,a⟩
 .exact aI b<|aj [] [(4,H 0)] []<|aN
 refine aH b<|aK ?_
 obtain⟨e,a⟩:=g0 a;obtain⟨d,c,a⟩:=az a;exact aj [(5,Y (bk aJ afK.Next)),(6,.qr (afK.Next.length:Int) (fF e)),(7,be (ix aJ c))] [(4,H d)] []<|aN
def VT{r}(a:BL b id ag6=some r):bb au prog 196 [] [.agg (eT b),H id,H ag6] (H r):=by
 refine a5 func196 rfl rfl ?_;unfold BL at a;refine aj [(0,.al 404)] [(1,H id),(2,H ag6),(3,.ptr 404 0)] [(404,.cells 101 (eT b))]<|aq ?_
 obtain⟨g,i,a⟩:=az a;refine ak [(2,aB (Kg i) OW)] [] [(12,.bool (!g))] ?_;rcases aC a with⟨c,a⟩|⟨c,a⟩
 .exact aI c<|aj [] [(6,H 0)] []<|aN
 refine aH c<|aK ?_
 obtain⟨d,f,a⟩:=az a;refine aj [(2,aB (V1 f) Ss),(6,.al 526)] [(2,H ag6),(7,.ptr 526 0)] [(526,.cells 145 (lb d.1))] ?_;obtain⟨e,h,a⟩:=az a;exact aj [(2,aB (Kq h) OX)] [(6,H e)] []<|aN
def Vg{r}(a:sF b ag6 aij=some r):bb au prog 260 [] [.agg (eT b),H ag6,H aij] (.dK (bo .i64 (dZ .u64) r)):=by
 refine a5 func260 rfl rfl ?_;unfold sF at a;refine aj [(0,.al 136)] [(1,H ag6),(2,H aij),(3,.ptr 136 0)] [(136,.cells 101 (eT b))]<|aV [(0,.al 133)] [] [(7,.cc 133)] [] [(133,.map 3 50 (bo .i64 (dZ .u64) []))]<|aq<|ak [(2,Y (bk eL b.Rows))] [] [(16,an eL b.Rows),(17,H b.Rows.length),(18,H 0)]<|aX<|aFd 16 rfl λo=>?_
 obtain⟨C,D,t,u,a⟩:=cG a;refine cO a (λf=>λc=>[(1,H ag6),(2,H aij),(3,.ptr 136 0),(7,.cc 133),(16,an eL b.Rows),(17,H b.Rows.length),(18,H f)]) (λf=>λc=>[(136,.cells 101 (eT b)),(133,.map 3 50 (bo .i64 (dZ .u64) c))]) ?_ ?_ ?_
 .exact c8
 .rintro f x B c s j a;rw[t]at a;refine ak [] [] [(19,.d ((f:Int)<b.Rows.length))]<|aq<|aI (cL j)<|aK ?_
  obtain⟨w,v,a⟩:=cV a;refine cW w r (λh=>[(1,H ag6),(2,H aij),(3,.ptr 136 0),(7,.cc 133),(16,an eL b.Rows),(17,H b.Rows.length),(18,H f)]) (λh=>[(136,.cells 101 (eT b)),(133,.map 3 50 (bo .i64 (dZ .u64) h))]) ?_ ?_
  .refine aX<|aV [(0,be (ix eL (bU j))),(2,.al 413)] [19] [(9,.ptr 413 0)] [] [(413,.cells 145 (lb x))] ?_
   obtain⟨e,y,a⟩:=az a;refine ak [(4,aB (JZ y) OL)] [] [(10,H e.1),(11,H e.2.1)] ?_;obtain⟨d,m,a⟩:=az a;refine aV [(2,aB (Kq m) OX)] [9] [(13,H d)] [413] []<|aFe [(1,H ag6),(2,H aij),(3,.ptr 136 0),(7,.cc 133),(16,an eL b.Rows),(17,H b.Rows.length),(18,H f),(11,H e.2.1),(13,H d),(40,.bool ((decide (e.1=aij))&&(!decide (d=0))))] [(136,.cells 101 (eT b)),(133,.map 3 50 (bo .i64 (dZ .u64) c))] (λl=>?_) ?_
   .rcases eU (decide (e.1=aij))with g|g
    .exact aj [(3,Y (ax g)),(6,Y (ko (q:=!decide (d=0)) g))] _ _ l
    exact aj [(3,Y (ax g)),(6,Y (kK (q:=!decide (d=0)) g))] _ _ l
   rcases aC a with⟨i,a⟩|⟨i,a⟩
   .refine aI i ?_;obtain⟨n,a⟩:=g0 a;exact b0 [(2,jj (lk (E:=50) (k:=.i64) (enc:=(dZ .u64)) c d (0:Int) (λz=>⟨_,zeroValue50 z,λA=>by simp[a1,dZ,h6]⟩))),(4,.sh e.2.1 (fF n)),(6,sv (nh (k:=.i64) (enc:=(dZ .u64)) c d (bT .or .u64 ((aO c d).getD (0:Int)) (IntKind.wrap .u64 ((1:Int)*2 ^ min e.2.1.toNat 64))) rfl))] [11,13,40] [] [133] [(133,.map 3 50 (bo .i64 (dZ .u64) (bW c d (bT .or .u64 ((aO c d).getD (0:Int)) (IntKind.wrap .u64 ((1:Int)*2 ^ min e.2.1.toNat 64))))))]<|aT (bW c d (bT .or .u64 ((aO c d).getD (0:Int)) (IntKind.wrap .u64 ((1:Int)*2 ^ min e.2.1.toNat 64)))) a
   exact aH i<|aK<|aT c a
  rintro h a;rw[v]at a;exact a7 [(0,Y (cI j o))] [18] [(18,H ((f+1:Nat):Int))]<|aT h a
 rintro f c s p a;rw[u]at a;refine ak [] [] [(19,.d ((f:Int)<b.Rows.length))]<|aq<|aH (cK p)<|bQ<|aV [] [1,2,3,7,16,17,18,19] [(6,.cc 133)] [136] []<|c2 ?_
 obtain rfl:=cy a;exact c0 [.bL [133]]
def VU{c r}(a:BM b ag6 aij c=some r):bb au prog 197 [] [.agg (eT b),H ag6,H aij,H c] (.int .u64 r):=by
 refine a5 func197 rfl rfl ?_;unfold BM at a;refine aj [(0,.al 405)] [(1,H ag6),(2,H aij),(3,H c),(4,.ptr 405 0)] [(405,.cells 101 (eT b))]<|aq ?_
 obtain⟨g,h,a⟩:=az a;refine ak [(3,aB (Kg h) OW)] [] [(13,.bool (!g))] ?_;rcases aC a with⟨d,a⟩|⟨d,a⟩
 .exact aI d<|aj [] [(8,.int .u64 (0:Int))] []<|aN
 refine aH d<|aK ?_
 obtain⟨e,f,a⟩:=az a;exact aj [(3,aB (Vg f) St),(5,oK e c (dZ .u64) (0:Int) Qp (s5 (k:=.u64) zeroValue50))] [(8,.int .u64 ((aO e c).getD (0:Int)))] []<|aN
def Vh{m r}(a:xJ p m=some r):bb au prog 198 [] [.agg (e7 p),.int .u64 m] (.bO [.agg (e7 r.1),.bool r.2]):=by
 refine a5 func198 rfl rfl ?_;unfold xJ at a;refine aj [(0,.al 221),(1,.al 198)] [(1,.int .u64 m),(2,.ptr 221 0),(4,.ptr 198 0)] [(221,.cells 52 (e7 p)),(198,.c 52 [H 0,H 0,H 0,H 0,H 0,H 0,H 0,H 0,.int .u64 (0:Int),.str (⟨#[]⟩:ByteArray)])]<|aq ?_
 obtain⟨h,g,a⟩:=cV a;refine cW h r (λe=>[(1,.int .u64 m),(2,.ptr 221 0),(4,.ptr 198 0),(20,.bool e)]) (λe=>[(221,.cells 52 (e7 p)),(198,.c 52 [H 0,H 0,H 0,H 0,H 0,H 0,H 0,H 0,.int .u64 (0:Int),.str (⟨#[]⟩:ByteArray)])]) ?_ ?_
 .obtain⟨i,f,a⟩:=az a;rcases aC a with⟨b,a⟩|⟨b,a⟩
  .exact a7 [(1,aB (mX f) mK),(3,Y (ax b))] [] [(20,.bool true)]<|aT true a
  rcases aC a with⟨c,a⟩|⟨c,a⟩
  .exact a7 [(1,aB (mX f) mK),(3,Y (ax b)),(8,Y (ax c))] [] [(20,.bool true)]<|aT true a
  exact a7 [(1,aB (mX f) mK),(3,Y (ax b)),(8,Y (ax c))] [] [(20,.d (bT .and .u64 p.Bits m=0))]<|aT (decide (bT .and .u64 p.Bits m=0)) a
 rintro e a;rw[g]at a;rcases aC a with⟨d,a⟩|⟨d,a⟩
 .refine aI d ?_;cases a
 exact aH d<|aK<|aV [] [1,20] [] [221] [(221,.c 52 [H p.Mode,H p.bA,H p.Set,H p.Length,H p.e3,H p.gh,H p.gH,H p.gJ,.int .u64 (bT .and .u64 p.Bits m),.str p.gN])]<|aV [] [] [] [221] [(221,.c 52 [H p.Mode,H p.bA,H p.Set,H p.Length,H (a2 (p.e3-1)),H p.gh,H p.gH,H p.gJ,.int .u64 (bT .and .u64 p.Bits m),.str p.gN])]<|aV [] [2] [(5,.bool true)] [221,198] [(198,.c 52 [H p.Mode,H p.bA,H p.Set,H p.Length,H (a2 (p.e3-1)),H p.gh,H p.gH,H p.gJ,.int .u64 (bT .and .u64 p.Bits m),.str p.gN])]<|aN
def UM{r}(a:A9 b p=some r):bb true prog 134 [] [.agg (eT b),.agg (e7 p)] (.bO [.agg (p0 r.1),H r.2]):=by
 refine a5 func134 rfl rfl ?_;unfold A9 at a;refine aj [(0,.al 41),(1,.al 42),(2,.al 35)] [(2,.ptr 41 0),(3,.ptr 42 0),(4,.ptr 35 0)] [(41,.cells 101 (eT b)),(42,.cells 52 (e7 p)),(35,.c 122 [.int .u64 (0:Int),.int .u64 (0:Int),.aF])]<|A.scope<|aq<|aX ?_
 obtain⟨I,G,a⟩:=cV a;refine cW I r (λm=>[(2,.ptr 41 0),(3,.ptr 42 0),(4,.ptr 35 0),(18,.bool m)]) (λm=>[(41,.cells 101 (eT b)),(42,.cells 52 (e7 p)),(35,.c 122 [.int .u64 (0:Int),.int .u64 (0:Int),.aF])]) ?_ ?_
 .obtain⟨Q,z,a⟩:=az a;rcases aC a with⟨j,a⟩|⟨j,a⟩
  .exact lU [(1,aB (sB z) rN),(3,Y (ax j))] [(2,.ptr 41 0),(3,.ptr 42 0),(4,.ptr 35 0),(18,.bool true)] [(41,.cells 101 (eT b)),(42,.cells 52 (e7 p)),(35,.c 122 [.int .u64 (0:Int),.int .u64 (0:Int),.aF])]<|aT true a
  obtain⟨w,C,a⟩:=az a;exact lU [(1,aB (sB z) rN),(3,Y (ax j)),(5,aB (mX C) mK)] [(2,.ptr 41 0),(3,.ptr 42 0),(4,.ptr 35 0),(18,.bool (!w))] [(41,.cells 101 (eT b)),(42,.cells 52 (e7 p)),(35,.c 122 [.int .u64 (0:Int),.int .u64 (0:Int),.aF])]<|aT (!w) a
 rintro m a;rw[G]at a;rcases aC a with⟨i,a⟩|⟨i,a⟩
 .refine aI i ?_;cases a
 refine aH i<|ak [] [18] [(28,.d (p.Mode=2))] ?_
 rcases aC a with⟨l,a⟩|⟨l,a⟩
 .refine aI l ?_;cases a
 refine aH l<|aFe [(2,.ptr 41 0),(3,.ptr 42 0),(4,.ptr 35 0),(33,.bool ((!decide (b.bA=p.bA))||(!decide (b.Length=p.Length))))] [(41,.cells 101 (eT b)),(42,.cells 52 (e7 p)),(35,.c 122 [.int .u64 (0:Int),.int .u64 (0:Int),.aF])] (λB=>?_) ?_
 .rcases eU (!decide (b.bA=p.bA))with f|f
  .exact aj [(5,Y (ax f)),(12,Y (hj (q:=!decide (b.Length=p.Length)) f))] _ _ B
  exact aj [(5,Y (ax f)),(12,Y (eW (q:=!decide (b.Length=p.Length)) f))] _ _ B
 rcases aC a with⟨k,a⟩|⟨k,a⟩
 .refine aI k ?_;cases a
 refine aH k<|aK ?_
 obtain⟨x,D,a⟩:=az a;refine ak [(1,aB (VA D) SG)] [33] [(6,H x)]<|aV [(0,.al 73)] [] [(7,.ptr 73 0)] [] [(73,.c 122 [.int .u64 (0:Int),.int .u64 (0:Int),.aF])]<|ak [] [] [(8,.int .u64 p.Bits)]<|aq<|A.label<|aq<|aX ?_
 obtain⟨T,S,O,a⟩:=jL a;refine aFn a (λ(c,d,h)=>[(2,.ptr 41 0),(3,.ptr 42 0),(4,.ptr 35 0),(6,H x),(7,.ptr 73 0),(8,.int .u64 c)]) (λ(c,d,h)=>[(41,.cells 101 (eT b)),(42,.cells 52 (e7 p)),(35,.c 122 [.int .u64 (0:Int),.int .u64 (0:Int),.aF]),(73,.c 122 [.int .u64 d,.int .u64 (0:Int),.own 101]),(101,.s 225 lp h)]) ?_ ?_
 .exact cr [.ac 73 101 225 12 2] []
 rintro R ⟨c,d,h⟩ a;rw[O]at a;refine aq<|ak [] [] [(52,.bool (!decide (c=0)))] ?_
 rcases aC a with⟨u,a⟩|⟨u,a⟩
 .refine aI u<|aK<|aX ?_
  obtain⟨e,J,a⟩:=az a;refine ak [(1,aB (Kf J) OS)] [52] [(9,H e)] ?_;obtain⟨K,a⟩:=g0 a;refine ak [(1,.sh e (fF K))] [] [(10,.int .u64 (IntKind.wrap .u64 ((1:Int)*2 ^ min e.toNat 64)))] ?_;obtain⟨F,E,a⟩:=az a;refine ak [(5,aB (Kl E) JH)] [9] [(11,H F.1)] ?_;obtain⟨g,L,a⟩:=az a;refine ak [(3,aB (VT L) SH)] [11] [(13,H g)]<|aq<|ak [] [] [(70,H g)]<|aX<|ak [] [] [(71,.d (g=0))] ?_
  rcases aC a with⟨o,a⟩|⟨o,a⟩
  .refine aI o ?_;cases a
  refine aH o<|ak [] [70,71] [(81,.d (g=b.ai))] ?_
  rcases aC a with⟨n,a⟩|⟨n,a⟩
  .exact aI n<|aV [] [81] [] [73] [(73,.c 122 [.int .u64 (bT .or .u64 d (IntKind.wrap .u64 ((1:Int)*2 ^ min e.toNat 64))),.int .u64 (0:Int),.own 101])]<|ak [] [8,10] [(8,.int .u64 (bT .andNot .u64 c (IntKind.wrap .u64 ((1:Int)*2 ^ min e.toNat 64))))]<|bQ<|aT (bT .andNot .u64 c (IntKind.wrap .u64 ((1:Int)*2 ^ min e.toNat 64)),bT .or .u64 d (IntKind.wrap .u64 ((1:Int)*2 ^ min e.toNat 64)),h) a
  refine aH n<|aK ?_
  obtain⟨t,M,a⟩:=az a;refine ak [(6,aB (VU M) SI)] [10,81] [(14,.int .u64 (bT .and .u64 c t))]<|aV [(1,.al 394)] [] [(15,.ptr 394 0)] [] [(394,.cells 52 (e7 p))]<|aV [] [] [] [394] [(394,.c 52 [H p.Mode,H p.bA,H p.Set,H p.Length,H p.e3,H p.gh,H p.gH,H p.gJ,.int .u64 c,.str p.gN])]<|aq ?_
  obtain⟨s,N,a⟩:=az a;refine aV [(2,aB (Vh N) SJ),(6,.al 395)] [15] [(16,.ptr 395 0),(17,.bool s.2)] [394] [(395,.cells 52 (e7 s.1))]<|ak [] [17] [(110,.bool s.2)] ?_
  rcases aC a with⟨v,a⟩|⟨v,a⟩
  .refine aI v ?_;obtain⟨y,P,a⟩:=az a;exact b0 [(7,dS 359 (ap lp (bytes:=120) (by decide) P))] [13,16,110] [] [73,101,395] [(73,.c 122 [.int .u64 d,.int .u64 (0:Int),.own 359]),(359,.s 225 lp y)]<|a7 [] [8,14] [(8,.int .u64 (bT .andNot .u64 c (bT .and .u64 c t)))]<|Exists.intro (bT .andNot .u64 c (bT .and .u64 c t),d,y) (And.intro a (cr [.b8 359 101] []))
  refine aH v ?_;cases a
 refine aH u<|bQ<|aV [] [2,3,6,7,8,52] [(5,H 0)] [41,42,35,73] [(35,.c 122 [.int .u64 d,.int .u64 (0:Int),.own 101])]<|c2 ?_
 obtain rfl:=cy a;exact c0 [.bL [101]]
def UN:∀(h:Nat) {c:Int} {b:List (Int×bX)} {d:Int} {f:uX} {g:mJ} {r:(bX)} (a:xq h c b d f g=some r),cz au prog 261 [(119,.c 266 [.gr (bo .i64 (ep aJ) b)]),(86,.c 3 [H d]),(87,.c 41 [an bJ f,an aW g]),(88,.c 329 [.fn 261 [.ptr 119 0,.ptr 86 0,.ptr 87 0,.ptr 88 0]])] [H c,.ptr 119 0,.ptr 86 0,.ptr 87 0,.ptr 88 0] (eH (an aJ r) [(119,.c 266 [.gr (bo .i64 (ep aJ) b)]),(86,.c 3 [H d]),(87,.c 41 [an bJ f,an aW g]),(88,.c 329 [.fn 261 [.ptr 119 0,.ptr 86 0,.ptr 87 0,.ptr 88 0]])]):=by
 intro h;induction h with
 |zero=>intros;rename_i a;cases a
 |succ h p=>
 intro c b d f g r a;refine a5 func261 rfl rfl ?_;rw[xq]at a;refine aj [] [(0,H c),(1,.ptr 119 0),(2,.ptr 86 0),(3,.ptr 87 0),(4,.ptr 88 0)] [(119,.c 266 [.gr (bo .i64 (ep aJ) b)]),(86,.c 3 [H d]),(87,.c 41 [an bJ f,an aW g]),(88,.c 329 [.fn 261 [.ptr 119 0,.ptr 86 0,.ptr 87 0,.ptr 88 0]])]<|aq<|ak [(2,Pz b c (ep aJ) [] Oc (BV aJ zeroValue22)),(3,Y (bk aJ ((aO b c).getD [])))] [0,1] [(12,an aJ ((aO b c).getD [])),(13,H (((aO b c).getD []).length:Int)),(14,H 0)]<|aX<|aFd 12 rfl λq=>?_
 obtain⟨y,z,u,v,a⟩:=cG a;refine cO a (λe()=>[(2,.ptr 86 0),(3,.ptr 87 0),(4,.ptr 88 0),(12,an aJ ((aO b c).getD [])),(13,H (((aO b c).getD []).length:Int)),(14,H e)]) (λe()=>[(119,.c 266 [.gr (bo .i64 (ep aJ) b)]),(86,.c 3 [H d]),(87,.c 41 [an bJ f,an aW g]),(88,.c 329 [.fn 261 [.ptr 119 0,.ptr 86 0,.ptr 87 0,.ptr 88 0]])]) ?_ ?_ ?_
 .exact c8
 .rintro e l x ⟨⟩ t k a;rw[u]at a;refine ak [] [] [(15,.d ((e:Int)<(((aO b c).getD []).length:Int)))]<|aq<|aI (cL k)<|aK<|aq<|aX<|ak [(0,be (ix aJ (bU k)))] [15] [(8,H l)]<|aq<|ak [] [] [(20,.d (l=d))] ?_
  rcases aC a with⟨j,a⟩|⟨j,a⟩
  .exact aI j<|ak [] [2,3,4,12,13,14,8,20] [(6,.bn true (bc aJ ([d]:bX)))]<|aN
  refine aH j<|aK<|aq ?_
  obtain⟨o,w,a⟩:=az a;refine ak [(2,aB (AF w) zC)] [20] [(25,.bool o)] ?_;rcases aC a with⟨i,a⟩|⟨i,a⟩
  .exact aI i<|bQ<|a7 [(0,Y (cI k q))] [14,8,25] [(14,H ((e+1:Nat):Int))]<|aT () a
  refine aH i<|aK ?_
  obtain⟨m,n,a⟩:=az a;refine ak [(2,b3 [] (p n) OY)] [25] [(9,an aJ m)] ?_;cases a
 rintro e ⟨⟩ t s a;rw[v]at a;exact ak [] [] [(15,.d ((e:Int)<(((aO b c).getD []).length:Int)))]<|aq<|aH (cK s)<|bQ<|ak [] [2,3,4,12,13,14,15] [(6,.aF)]<|aN
def VB{c b r}(a:Br t c b=some r):bb au prog 199 [] [.agg (bz t),H c,H b] (an aJ r):=by
 refine a5 func199 rfl rfl ?_;unfold Br at a;refine aj [(0,.al 213),(1,.al 214)] [(1,H c),(3,.ptr 213 0),(5,.ptr 214 0)] [(213,.cells 41 (bz t)),(214,.c 3 [H b])]<|aq ?_
 obtain⟨m,l,a⟩:=cV a;refine cW m r (λf=>[(1,H c),(3,.ptr 213 0),(5,.ptr 214 0),(16,.bool f)]) (λf=>[(213,.cells 41 (bz t)),(214,.c 3 [H b])]) ?_ ?_
 .obtain⟨n,g,a⟩:=az a;rcases aC a with⟨e,a⟩|⟨e,a⟩
  .exact a7 [(1,aB (kP g) kX),(3,Y (ax e))] [] [(16,.bool true)]<|aT true a
  exact a7 [(1,aB (kP g) kX),(3,Y (ax e))] [] [(16,.d (c=b))]<|aT (decide (c=b)) a
 rintro f a;rw[l]at a;rcases aC a with⟨d,a⟩|⟨d,a⟩
 .exact aI d<|aj [] [(6,.aF)] []<|aN
 refine aH d<|aK ?_
 obtain⟨h,j,a⟩:=az a;refine aV [(2,aB (J3 j) Ov),(3,.al 304)] [16] [(7,.ptr 304 0)] [] [(304,.c 266 [.gr (bo .i64 (ep aJ) h)])]<|aV [(0,.al 318)] [] [(8,.ptr 318 0)] [] [(318,.c 329 [.dH])]<|aV [] [3,5,7] [] [318] [(318,.c 329 [.fn 261 [.ptr 304 0,.ptr 214 0,.ptr 213 0,.ptr 318 0]])] ?_
 obtain⟨i,k,a⟩:=az a;exact aj [(2,b3 [] (e0.at [(119,304),(86,214),(87,213),(88,318)] (UN fuel k)) OY)] [(6,an aJ i)] []<|aN
def VN{c r}(a:BH t aey c=some r):bb au prog 135 [] [.agg (bz t),H aey,.agg (w1 c)] (.bO [.agg (w1 r.1),.bool r.2]):=by
 refine a5 func135 rfl rfl ?_;unfold BH at a;refine aj [(0,.al 504),(1,.al 312),(2,.al 283)] [(1,H aey),(3,.ptr 504 0),(5,.ptr 312 0),(6,.ptr 283 0)] [(504,.cells 41 (bz t)),(312,.cells 225 (w1 c)),(283,.c 225 [H 0,.aF,H 0,H 0,H 0,H 0,H 0,H 0,H 0,H 0,.int .u64 (0:Int),.str (⟨#[]⟩:ByteArray)])] ?_;obtain⟨b,i,a⟩:=az a;refine aV [(4,aB (VB i) SK)] [1,3] [(8,an aJ b)] [504] []<|aq<|ak [(1,Y (bk aJ b))] [] [(16,.d ((b.length:Int)=(0:Int)))] ?_
 rcases aC a with⟨d,a⟩|⟨d,a⟩
 .refine aI d ?_;cases a
 refine aH d<|aK ?_
 obtain⟨g,e,h,f,a⟩:=er a;exact aj [(1,be (ix aJ e)),(4,fB (zL aJ f))] [(6,.ptr 283 0),(7,.bool true)] [(283,.c 225 [H g,an aJ h,H c.Frame.cg.Mode,H c.Frame.cg.bA,H c.Frame.cg.Set,H c.Frame.cg.Length,H c.Frame.cg.e3,H c.Frame.cg.gh,H c.Frame.cg.gH,H c.Frame.cg.gJ,.int .u64 c.Frame.cg.Bits,.str c.Frame.cg.gN])]<|aN
def VO{r}(a:Bz t l aey f=some r):bb true prog 52 [] [.agg (bz t),an eA l,H aey,.agg (qW f)] (.bO [.agg (p0 r.1),H r.2]):=by
 refine a5 func52 rfl rfl ?_;unfold Bz at a;refine aj [(0,.al 61),(1,.al 62),(2,.al 155),(3,.al 54)] [(1,an eA l),(4,.ptr 61 0),(6,.ptr 62 0),(7,.ptr 155 0),(8,.ptr 54 0)] [(61,.cells 41 (bz t)),(62,.c 3 [H aey]),(155,.cells 119 (qW f)),(54,.c 122 [.int .u64 (0:Int),.int .u64 (0:Int),.aF])]<|aq ?_
 obtain⟨K,J,a⟩:=cV a;refine cW K r (λn=>[(1,an eA l),(4,.ptr 61 0),(6,.ptr 62 0),(7,.ptr 155 0),(8,.ptr 54 0),(31,.bool n)]) (λn=>[(61,.cells 41 (bz t)),(62,.c 3 [H aey]),(155,.cells 119 (qW f)),(54,.c 122 [.int .u64 (0:Int),.int .u64 (0:Int),.aF])]) ?_ ?_
 .obtain⟨S,x,a⟩:=az a;rcases aC a with⟨g,a⟩|⟨g,a⟩
  .exact a7 [(1,aB (kP x) kX),(3,Y (ax g))] [] [(31,.bool true)]<|aT true a
  obtain⟨R,z,a⟩:=az a;rcases aC a with⟨i,a⟩|⟨i,a⟩
  .exact a7 [(1,aB (kP x) kX),(3,Y (ax g)),(5,aB (EB z) Dw),(8,Y (ax i))] [] [(31,.bool true)]<|aT true a
  obtain⟨y,B,a⟩:=az a;exact a7 [(1,aB (kP x) kX),(3,Y (ax g)),(5,aB (EB z) Dw),(8,Y (ax i)),(10,aB (UG B) RB)] [] [(31,.bool (!y))]<|aT (!y) a
 rintro n a;rw[J]at a;rcases aC a with⟨m,a⟩|⟨m,a⟩
 .refine aI m ?_;cases a
 refine aH m<|aK ?_
 obtain⟨e,L,a⟩:=az a;refine aV [(2,aB (Kp L) OQ),(6,.al 237)] [1,31] [(10,.ptr 237 0),(11,.bool e.2)] [] [(237,.cells 101 (eT e.1))]<|aq ?_
 obtain⟨C,M,a⟩:=cV a;refine cW C r (λu=>[(4,.ptr 61 0),(6,.ptr 62 0),(7,.ptr 155 0),(8,.ptr 54 0),(10,.ptr 237 0),(52,.bool u)]) (λu=>[(61,.cells 41 (bz t)),(62,.c 3 [H aey]),(155,.cells 119 (qW f)),(54,.c 122 [.int .u64 (0:Int),.int .u64 (0:Int),.aF]),(237,.cells 101 (eT e.1))]) ?_ ?_
 .obtain⟨T,o,a⟩:=az a;rcases aC a with⟨h,a⟩|⟨h,a⟩
  .exact a7 [(2,aB (nK o) nC),(4,Y (ax h))] [11] [(52,.bool true)]<|aT true a
  rcases aC a with⟨j,a⟩|⟨j,a⟩
  .exact a7 [(2,aB (nK o) nC),(4,Y (ax h)),(7,Y (bk aJ f.jS)),(9,Y (ax j))] [11] [(52,.bool (!e.2))]<|aT (!e.2) a
  exact a7 [(2,aB (nK o) nC),(4,Y (ax h)),(7,Y (bk aJ f.jS)),(9,Y (ax j))] [11] [(52,.bool false)]<|aT false a
 rintro u a;rw[M]at a;rcases aC a with⟨v,a⟩|⟨v,a⟩
 .refine aI v ?_;cases a
 refine aH v<|aK<|aq<|ak [(2,Y (bk aJ f.jS))] [52] [(57,.d (0<(f.jS.length:Int)))] ?_
 rcases aC a with⟨q,a⟩|⟨q,a⟩
 .refine aI q ?_;cases a
 refine aH q<|aK ?_
 obtain⟨b,N,a⟩:=az a;refine aV [(3,aB (UM N) RC),(7,.al 343)] [7,10,57] [(12,.ptr 343 0),(13,H b.2)] [155,237] [(343,.cells 122 (p0 b.1))]<|aq<|ak [] [] [(69,.bool (!decide (b.2=0)))] ?_
 rcases aC a with⟨p,a⟩|⟨p,a⟩
 .refine aI p ?_;cases a
 refine aH p<|aK<|aV [(5,.al 159)] [13,69] [(14,.ptr 159 0)] [] [(159,.c 122 [.int .u64 b.1.Local,.int .u64 b.1.r4,.aF])]<|aq<|aV [(2,Y (bk lp b.1.kT))] [12] [(78,an lp b.1.kT),(79,H b.1.kT.length),(80,H 0)] [343] []<|aX<|aFd 78 rfl λD=>?_
 obtain⟨V,W,G,I,a⟩:=cG a;refine cO a (λc=>λd=>[(4,.ptr 61 0),(6,.ptr 62 0),(8,.ptr 54 0),(14,.ptr 159 0),(78,an lp b.1.kT),(79,H b.1.kT.length),(80,H c)]) (λc=>λd=>[(61,.cells 41 (bz t)),(62,.c 3 [H aey]),(54,.c 122 [.int .u64 (0:Int),.int .u64 (0:Int),.aF]),(159,.c 122 [.int .u64 b.1.Local,.int .u64 b.1.r4,.own 207]),(207,.s 225 lp d)]) ?_ ?_ ?_
 .exact cr [.ac 159 207 225 12 2] []
 .rintro c Q U d F k a;rw[G]at a;refine ak [] [] [(81,.d ((c:Int)<b.1.kT.length))]<|aq<|aI (cL k)<|aK<|aq<|aX<|aV [(0,be (ix lp (bU k))),(2,.al 345)] [81] [(16,.ptr 345 0)] [] [(345,.cells 225 (w1 Q))] ?_
  obtain⟨s,O,a⟩:=az a;refine aV [(3,aB (VN O) S0),(7,.al 440)] [] [(17,.ptr 440 0),(18,.bool s.2)] [] [(440,.cells 225 (w1 s.1))]<|ak [] [18] [(91,.bool s.2)] ?_
  rcases aC a with⟨w,a⟩|⟨w,a⟩
  .refine aI w ?_;obtain⟨A,P,a⟩:=az a;exact b0 [(4,dS 376 (ap lp (bytes:=120) (by decide) P))] [16,17,91] [] [159,207,345,440] [(159,.c 122 [.int .u64 b.1.Local,.int .u64 b.1.r4,.own 376]),(376,.s 225 lp A)]<|a7 [(0,Y (cI k D))] [80] [(80,H ((c+1:Nat):Int))]<|Exists.intro A (And.intro a (cr [.b8 376 207] []))
  refine aH w ?_;cases a
 rintro c d F E a;rw[I]at a;refine ak [] [] [(81,.d ((c:Int)<b.1.kT.length))]<|aq<|aH (cK E)<|bQ<|aj [] [(8,.ptr 54 0),(9,H 0)] [(54,.c 122 [.int .u64 b.1.Local,.int .u64 b.1.r4,.own 207]),(207,.s 225 lp d)]<|c2 ?_
 obtain rfl:=cy a;exact c0 [.bL [207]]
def VC{b c r}(d:xN aey f b c=some r):bb true prog 51 [] [H aey,.agg (qW f),.dI (bz b),.dI [an eA c]] (.bO [.agg (p0 r.1),.bool r.2]):=by
 refine a5 func51 rfl rfl ?_;unfold xN at d;refine aj [(0,.al 549),(1,.al 334)] [(0,H aey),(2,.dI (bz b)),(3,.dI [an eA c]),(5,.ptr 549 0),(6,.ptr 334 0)] [(549,.cells 119 (qW f)),(334,.c 122 [.int .u64 (0:Int),.int .u64 (0:Int),.aF])] ?_;obtain⟨a,e,d⟩:=az d;exact aV [(4,aB (VO e) ab7),(8,.al 550)] [0,2,3,5] [(8,.ptr 550 0),(9,H a.2)] [549] [(550,.cells 122 (p0 a.1))]<|aj [] [(6,.ptr 334 0),(7,.d (a.2=0))] [(334,.cells 122 (p0 a.1))]<|aN
def VV{r}(a:BN t l p aey=some r):bb true prog 10 [] [.agg (bz t),an eA l,.agg (e7 p),H aey] (.bO [.agg (qX r.1),H r.2]):=by
 refine a5 func10 rfl rfl ?_;unfold BN at a;refine aj [(0,.al 209),(1,.al 210),(2,.al 218),(3,.al 192)] [(3,H aey),(4,.ptr 209 0),(5,.ptr 210 0),(6,.ptr 218 0),(8,.ptr 192 0)] [(209,.cells 41 (bz t)),(210,.c 45 [an eA l]),(218,.cells 52 (e7 p)),(192,.c 63 [.aF,.aF,.aF])]<|aq ?_
 obtain⟨o,n,a⟩:=cV a;refine cW o r (λf=>[(3,H aey),(4,.ptr 209 0),(5,.ptr 210 0),(6,.ptr 218 0),(8,.ptr 192 0),(23,.bool f)]) (λf=>[(209,.cells 41 (bz t)),(210,.c 45 [an eA l]),(218,.cells 52 (e7 p)),(192,.c 63 [.aF,.aF,.aF])]) ?_ ?_
 .obtain⟨w,h,a⟩:=az a;rcases aC a with⟨b,a⟩|⟨b,a⟩
  .exact a7 [(1,aB (kP h) kX),(3,Y (ax b))] [] [(23,.bool true)]<|aT true a
  obtain⟨v,j,a⟩:=az a;rcases aC a with⟨c,a⟩|⟨c,a⟩
  .exact a7 [(1,aB (kP h) kX),(3,Y (ax b)),(5,aB (EB j) Dw),(8,Y (ax c))] [] [(23,.bool true)]<|aT true a
  obtain⟨i,m,a⟩:=az a;exact a7 [(1,aB (kP h) kX),(3,Y (ax b)),(5,aB (EB j) Dw),(8,Y (ax c)),(10,aB (mX m) mK)] [] [(23,.bool (!i))]<|aT (!i) a
 rintro f a;rw[n]at a;rcases aC a with⟨e,a⟩|⟨e,a⟩
 .refine aI e ?_;cases a
 refine aH e<|aK<|aq ?_
 obtain⟨k,q,a⟩:=az a;refine ak [(4,aB (Vy q) ab3)] [23] [(10,H k)]<|ak [] [] [(31,.bool (!decide (k=0)))] ?_
 rcases aC a with⟨g,a⟩|⟨g,a⟩
 .refine aI g ?_;cases a
 refine aH g<|aK ?_
 obtain⟨d,s,a⟩:=az a;refine aj [(3,kA [209,210] [326,327,328] (VM (rI:=51) (tu:=[.dI (bz t),.dI [an eA l]]) (Od:=ab6) (Oe:=λ_ _ _ u=>VC u) s) ab5 ⟨jM iR (λ_=>rfl) _,jM q8 (λ_=>rfl) _,jM o4 (λ_=>rfl) _,trivial⟩)] [(8,.ptr 192 0),(9,H 0)] [(192,.c 63 [.own 326,.own 327,.own 328]),(326,.s 127 iR d.iI),(327,.s 227 q8 d.Ci),(328,.s 130 o4 d.qf)]<|c2 ?_
 obtain rfl:=cy a;exact c0 [.bL [326,327,328]]
def V2{b r}(a:BT b k=some r):bb au prog 200 [] [.int .u64 b,H k] (.bool r):=by
 refine a5 func200 rfl rfl ?_;unfold BT at a;refine aj [] [(0,.int .u64 b),(1,H k)] [] ?_;rcases aC a with⟨c,a⟩|⟨c,a⟩
 .rcases aC a with⟨d,a⟩|⟨d,a⟩
  .obtain⟨e,a⟩:=g0 a;exact aj [(2,Y (ax c)),(6,Y (ax d)),(10,.sh (IntKind.wrap .u64 k) (fF e))] [(4,.d (bT .and .u64 (Int.fdiv b (2 ^ min (IntKind.wrap .u64 k).toNat 64)) (1:Int)=(1:Int)))] []<|aN
  exact aj [(2,Y (ax c)),(6,Y (ax d))] [(4,.bool false)] []<|aN
 exact aj [(2,Y (ax c))] [(4,.bool false)] []<|aN
def VW{b r}(a:BO b=some r):bb au prog 136 [] [.int .u64 b] (an aJ r):=by
 refine a5 func136 rfl rfl ?_;unfold BO at a;refine aj [] [(0,.int .u64 b)] []<|ak [] [] [(3,.aF)]<|aq<|ak [] [] [(4,H 0)]<|aX ?_
 obtain⟨t,u,m,n,a⟩:=sR a;refine aFE (hi:=(64:Int)) a rfl (λc=>λd=>[(0,.int .u64 b),(3,.own 204),(4,H c)]) (λc=>λd=>[(204,.s 3 aJ d)]) ?_ ?_ ?_
 .exact cr [.ad 3 204 3 1] []
 .rintro c s d l g a;rw[m]at a;refine aq<|ak [] [] [(6,.d ((c:Int)<(64:Int)))] ?_
  refine aFu rfl (fU g)<|aK ?_
  obtain⟨p,o,a⟩:=cV a;refine cW p r (λe=>[(0,.int .u64 b),(3,.own 204),(4,H c)]) (λe=>[(204,.s 3 aJ e)]) ?_ ?_
  .refine aX ?_;obtain⟨j,q,a⟩:=az a;refine ak [(2,aB (V2 q) SL)] [6] [(11,.bool j)] ?_;rcases aC a with⟨f,a⟩|⟨f,a⟩
   .refine aI f ?_;obtain⟨h,i,a⟩:=az a;exact b0 [(3,dS 456 (ap aJ (bytes:=8) (by decide) i))] [3,11] [(3,.own 456)] [204] [(456,.s 3 aJ h)]<|Exists.intro h (And.intro a (cr [.b8 456 204] []))
   exact aH f<|aK<|aT d a
  rintro e a;rw[o]at a;exact a7 [(1,Y (si (by omega) g (by decide)))] [4] [(4,H (c+1:Int))]<|aT e a
 rintro c d l k a;rw[n]at a;refine aq<|ak [] [] [(6,.d ((c:Int)<(64:Int)))] ?_
 refine aFl rfl (Ah k)<|bQ<|ak [] [0,3,4,6] [(2,.own 204)]<|c2 ?_
 obtain rfl:=cy a;exact c0 [.bL [204]]
def Kh{b r}(a:BA b=some r):bb au prog 53 [] [.int .u64 b] (H r):=by
 refine a5 func53 rfl rfl ?_;unfold BA at a;refine aj [] [(0,.int .u64 b)] [] ?_;obtain⟨c,d,a⟩:=az a;exact aj [(1,aB (VW d) S1),(2,Y (bk aJ c))] [(2,H c.length)] []<|aN
def Wb{b bits r}(a:yC b bits=some r):bb au prog 12 [] [.agg (qX b),.int .u64 bits] (.bool r):=by
 refine a5 func12 rfl rfl ?_;unfold yC at a;refine aj [(0,.al 89)] [(1,.int .u64 bits),(2,.ptr 89 0)] [(89,.cells 63 (qX b))]<|ak [] [] [(5,.int .u64 (0:Int))]<|aq<|ak [] [] [(6,H 0)]<|aX<|aFm 2 0 rfl rfl rfl λt=>?_
 obtain⟨I,J,w,x,a⟩:=cG a;refine cO a (λe=>λd=>[(1,.int .u64 bits),(2,.ptr 89 0),(5,.int .u64 d),(6,H e)]) (λe=>λd=>[(89,.cells 63 (qX b))]) ?_ ?_ ?_
 .exact c8
 .rintro e i G d v m a;rw[w]at a;refine aq<|ak [(3,Y (bk iR b.iI))] [] [(13,.d ((e:Int)<b.iI.length))] ?_
  refine aI (cL m)<|aK<|aq<|aX<|ak [(3,be (ix iR (bU m)))] [13] [(7,.int .u64 i.cg.Bits)]<|aq ?_
  obtain⟨z,y,a⟩:=cV a;refine cW z r (λn=>[(1,.int .u64 bits),(2,.ptr 89 0),(5,.int .u64 d),(6,H e),(7,.int .u64 i.cg.Bits),(31,.bool n)]) (λn=>[(89,.cells 63 (qX b))]) ?_ ?_
  .obtain⟨F,p,a⟩:=az a;rcases aC a with⟨l,a⟩|⟨l,a⟩
   .exact a7 [(1,aB (Kh p) JF),(3,Y (ax l))] [] [(31,.bool true)]<|aT true a
   exact a7 [(1,aB (Kh p) JF),(3,Y (ax l))] [] [(31,.bool (!decide (bT .and .u64 d i.cg.Bits=0)))]<|aT (!decide (bT .and .u64 d i.cg.Bits=0)) a
  rintro n a;rw[y]at a;rcases aC a with⟨k,a⟩|⟨k,a⟩
  .exact aI k<|aj [] [(4,.bool false)] []<|aN
  exact aH k<|aK<|a7 [] [5,7,31] [(5,.int .u64 (bT .or .u64 d i.cg.Bits))]<|a7 [(1,Y (cI m t))] [6] [(6,H ((e+1:Nat):Int))]<|aT (bT .or .u64 d i.cg.Bits) a
 rintro e d v u a;rw[x]at a;refine aq<|ak [(3,Y (bk iR b.iI))] [] [(13,.d ((e:Int)<b.iI.length))] ?_
 refine aH (cK u)<|bQ<|aq<|ak [] [6,13] [(8,H 0)]<|aX<|aFm 2 2 rfl rfl rfl λB=>?_
 obtain⟨M,L,C,D,a⟩:=cG a;refine cO a (λf=>λc=>[(1,.int .u64 bits),(2,.ptr 89 0),(5,.int .u64 c),(8,H f)]) (λf=>λc=>[(89,.cells 63 (qX b))]) ?_ ?_ ?_
 .exact c8
 .rintro f g K c E h a;rw[C]at a;refine aq<|ak [(3,Y (bk o4 b.qf))] [] [(39,.d ((f:Int)<b.qf.length))] ?_
  refine aI (cL h)<|aK<|aq<|aX<|aq<|aFe [(1,.int .u64 bits),(2,.ptr 89 0),(5,.int .u64 c),(8,H f),(59,.bool ((decide (g.Bits=0))||(!decide (bT .and .u64 c g.Bits=0))))] [(89,.cells 63 (qX b))] (λs=>?_) ?_
  .rcases eU (decide (g.Bits=0))with j|j
   .exact aj [(3,be (ix o4 (bU h))),(7,Y (ax j)),(17,Y (hj (q:=!decide (bT .and .u64 c g.Bits=0)) j))] _ _ s
   exact aj [(3,be (ix o4 (bU h))),(7,Y (ax j)),(12,be (ix o4 (bU h))),(17,Y (eW (q:=!decide (bT .and .u64 c g.Bits=0)) j))] _ _ s
  rcases aC a with⟨o,a⟩|⟨o,a⟩
  .exact aI o<|aj [] [(4,.bool false)] []<|aN
  exact aH o<|aK<|a7 [(4,be (ix o4 (bU h)))] [5,59] [(5,.int .u64 (bT .or .u64 c g.Bits))]<|a7 [(1,Y (cI h B))] [8] [(8,H ((f+1:Nat):Int))]<|aT (bT .or .u64 c g.Bits) a
 rintro f c E A a;rw[D]at a;refine aq<|ak [(3,Y (bk o4 b.qf))] [] [(39,.d ((f:Int)<b.qf.length))] ?_
 exact aH (cK A)<|bQ<|aj [] [(4,.d (c=bits))] []<|aN
def Uv{r}(a:AI q=some r):bb au prog 56 [] [.agg (e7 q)] (.bool r):=by
 refine a5 func56 rfl rfl ?_;unfold AI at a;refine aj [(0,.al 553)] [(1,.ptr 553 0)] [(553,.cells 52 (e7 q))] ?_;obtain⟨b,c,a⟩:=az a;exact aj [(1,aB (mX c) mK)] [(2,.bool (!b))] []<|aN
def U4{p l t r}(a:A1 p l t=some r):bb true prog 13 [] [.agg (fh p),an g3 l,an mz t] (.bO [an aJ r.1,H r.2]):=by
 refine a5 func13 rfl rfl ?_;unfold A1 at a;refine aj [(0,.al 33)] [(1,an g3 l),(2,an mz t),(3,.ptr 33 0)] [(33,.cells 44 (fh p))]<|aq ?_
 obtain⟨Q,P,a⟩:=cV a;refine cW Q r (λv=>[(1,an g3 l),(2,an mz t),(3,.ptr 33 0),(30,.bool v)]) (λv=>[(33,.cells 44 (fh p))]) ?_ ?_
 .obtain⟨aD,B,a⟩:=az a;rcases aC a with⟨k,a⟩|⟨k,a⟩
  .exact a7 [(1,aB (AD B) zP),(3,Y (ax k))] [] [(30,.bool true)]<|aT true a
  rcases aC a with⟨n,a⟩|⟨n,a⟩
  .exact a7 [(1,aB (AD B) zP),(3,Y (ax k)),(5,Y (bk g3 l)),(7,Y (bk mz t)),(10,Y (ax n))] [] [(30,.bool true)]<|aT true a
  obtain⟨C,F,a⟩:=az a;exact a7 [(1,aB (AD B) zP),(3,Y (ax k)),(5,Y (bk g3 l)),(7,Y (bk mz t)),(10,Y (ax n)),(12,aB (ac1 (bZ:=56) (cp:=[]) (dQ:=ab9) (dP:=λ_ _ aA=>Uv aA) F) ab8)] [] [(30,.bool C)]<|aT C a
 rintro v a;rw[P]at a;rcases aC a with⟨s,a⟩|⟨s,a⟩
 .refine aI s ?_;cases a
 refine aH s<|aK<|ak [] [30] [(8,.aF)]<|aq<|ak [(1,Y (bk g3 l))] [1] [(31,an g3 l),(32,H l.length),(33,H 0)]<|aX<|aFd 31 rfl λK=>?_
 obtain⟨aG,aL,N,O,a⟩:=cG a;refine cO a (λb=>λh=>[(2,an mz t),(3,.ptr 33 0),(8,.own 600013008),(31,an g3 l),(32,H l.length),(33,H b)]) (λb=>λh=>[(33,.cells 44 (fh p)),(600013008,.s 3 aJ h)]) ?_ ?_ ?_
 .exact cr [.ad 8 600013008 3 1] []
 .rintro b m aE h M q a;rw[N]at a;refine ak [] [] [(34,.d ((b:Int)<l.length))]<|aq<|aI (cL q)<|aK<|aq<|aX<|aV [(1,be (ix g3 (bU q))),(3,.al 96)] [34] [(10,.ptr 96 0),(9,H b)] [] [(96,.cells 52 (e7 m))] ?_
  obtain⟨c,G,a⟩:=az a;refine ak [(2,be (ix mz G)),(5,Y (bk iR c.iI))] [9] [(42,an iR c.iI),(43,H c.iI.length),(44,H 0)]<|aX<|aFd 42 rfl λW=>?_
  obtain⟨aW,aR,aa,ab,a⟩:=cG a;refine cO a (λf=>λj=>[(2,an mz t),(3,.ptr 33 0),(8,.own 600013008),(10,.ptr 96 0),(31,an g3 l),(32,H l.length),(33,H b),(42,an iR c.iI),(43,H c.iI.length),(44,H f)]) (λf=>λj=>[(33,.cells 44 (fh p)),(600013008,.s 3 aJ j),(96,.cells 52 (e7 m))]) ?_ ?_ ?_
  .exact c8
  .rintro f A aN j ae y a;rw[aa]at a;refine ak [] [] [(45,.d ((f:Int)<c.iI.length))]<|aq<|aI (cL y)<|aK<|aq<|aX<|aV [(0,be (ix iR (bU y))),(2,.al 142)] [45] [(12,.ptr 142 0)] [] [(142,.cells 127 (IK A))] ?_
   obtain⟨e,R,a⟩:=az a;refine ak [(3,aB (Kk R) JG),(4,Y (bk aJ e))] [] [(51,an aJ e),(52,H e.length),(53,H 0)]<|aX<|aFd 51 rfl λam=>?_
   obtain⟨aY,aZ,ar,aw,a⟩:=cG a;refine cO a (λg=>λi=>[(2,an mz t),(3,.ptr 33 0),(8,.own 600013008),(10,.ptr 96 0),(12,.ptr 142 0),(31,an g3 l),(32,H l.length),(33,H b),(42,an iR c.iI),(43,H c.iI.length),(44,H f),(51,an aJ e),(52,H e.length),(53,H g)]) (λg=>λi=>[(33,.cells 44 (fh p)),(600013008,.s 3 aJ i),(96,.cells 52 (e7 m)),(142,.cells 127 (IK A))]) ?_ ?_ ?_
   .exact c8
   .rintro g Z aU i ay z a;rw[ar]at a;refine ak [] [] [(54,.d ((g:Int)<e.length))]<|aq<|aI (cL z)<|aK<|aq<|aX<|ak [(0,be (ix aJ (bU z)))] [54] [(14,H Z)] ?_
    obtain⟨u,S,a⟩:=az a;refine ak [(5,aB (Kl S) JH)] [14] [(15,H u.1),(16,.bool u.2)]<|aq ?_
    obtain⟨I,U,a⟩:=cV a;refine cW I r (λx=>[(2,an mz t),(3,.ptr 33 0),(8,.own 600013008),(10,.ptr 96 0),(12,.ptr 142 0),(15,H u.1),(31,an g3 l),(32,H l.length),(33,H b),(42,an iR c.iI),(43,H c.iI.length),(44,H f),(51,an aJ e),(52,H e.length),(53,H g),(77,.bool x)]) (λx=>[(33,.cells 44 (fh p)),(600013008,.s 3 aJ i),(96,.cells 52 (e7 m)),(142,.cells 127 (IK A))]) ?_ ?_
    .rcases aC a with⟨w,a⟩|⟨w,a⟩
     .exact a7 [(2,Y (ax w))] [16] [(77,.bool true)]<|aT true a
     obtain⟨D,J,a⟩:=az a;exact a7 [(2,Y (ax w)),(9,aB (adr J) acc)] [16] [(77,.bool (!D))]<|aT (!D) a
    rintro x a;rw[U]at a;rcases aC a with⟨o,a⟩|⟨o,a⟩
    .refine aI o ?_;cases a
    refine aH o<|aK ?_
    obtain⟨E,X,a⟩:=az a;exact b0 [(3,dS 360 (ap aJ (bytes:=8) (by decide) X))] [8,15,77] [(8,.own 360)] [600013008] [(360,.s 3 aJ E)]<|a7 [(0,Y (cI z am))] [53] [(53,H ((g+1:Nat):Int))]<|Exists.intro E (And.intro a (cr [.b8 360 600013008] []))
   rintro g i ay ao a;rw[aw]at a;exact ak [] [] [(54,.d ((g:Int)<e.length))]<|aq<|aH (cK ao)<|bQ<|b0 [(0,Y (cI y W))] [12,44,51,52,53,54] [(44,H ((f+1:Nat):Int))] [142] []<|aT i a
  rintro f j ae V a;rw[ab]at a;exact ak [] [] [(45,.d ((f:Int)<c.iI.length))]<|aq<|aH (cK V)<|bQ<|b0 [(0,Y (cI q K))] [10,33,42,43,44,45] [(33,H ((b+1:Nat):Int))] [96] []<|aT j a
 rintro b h M L a;rw[O]at a;refine ak [] [] [(34,.d ((b:Int)<l.length))]<|aq<|aH (cK L)<|bQ ?_
 obtain⟨ag,a⟩:=g0 a;refine aj [(1,b3 [] (CE (d:=600013008) (T:=3) h (fF ag)) Dx)] [(8,.own 600013008)] [(600013008,.s 3 aJ (hS h))]<|ak [] [8] [(6,.own 600013008),(7,H 0)]<|c2 ?_
 obtain rfl:=cy a;exact c0 [.bL [600013008]]
end
section
open Go
noncomputable section
def Fc(t:bX):dw:=
 af (y0 t) λr=>af (BD r 4) λb=>bif ((!b.2.1)||(decide ((b.1.aM.length:Int)=0)))then some false else af (h7 b.2.2 (b.1.aM.length:Int)) λg=>af (b6 b.1.aM g.1) λo=>af (BE b.1 o.ai 1) λe=>bC e.2.1.ck 0 (λG F w (c:(bX)×(bX)×Int)=>match c with|(f,h,i)=>jn (λ(c:(bX)×(bX)×Int)=>match c with|(E,u,y)=>w (E,u,y)) λn=>af (h7 (cu.mk h i) 3) λd=>bif decide (0<d.1)then af (dm f [F.aP]) λv=>n (v,d.2.L,d.2.At)else n (f,d.2.L,d.2.At)) (λ(c:(bX)×(bX)×Int)=>match c with|(f,h,i)=>af (A2 (cu.mk h i)) λa=>af (A0 e.2.1 f (c4.mk 1 a.1.bA a.1.Set a.1.Length 63 a.1.gh a.1.gH a.1.gJ a.1.Bits a.1.gN)) λj=>bif ((!e.2.2.2)||(!decide (j.2=0)))then some false else bC j.1 0 (λH q A (l:(List kU))=>af (sA b.1) λz=>af (BN z e.2.2.1 q o.ai) λk=>jn (λ(x:Bool)=>bif x then some false else af (dm l [k.1]) λs=>A s) λm=>(bif !decide (k.2=0)then m true else af (yC k.1 q.Bits) λB=>m (!B))) (λ(l:(List kU))=>af (A1 e.2.1 j.1 l) λp=>(bif decide (p.2=0)then af (xV p.1 f) λC=>(bif C then af (BC) λD=>some D else some false)else some false)) []) ([],g.2.L,g.2.At)
end
end
section
open Go Go.Proofs.Tryz
def VP{t r}(a:Fc t=some r):bb true prog 3 [] [an aJ t] (.bool r):=by
 refine a5 func3 rfl rfl ?_;unfold Fc at a;refine aj [] [(0,an aJ t)] [] ?_;obtain⟨P,a2,a⟩:=az a;refine aj [(1,b3 [1] (Wq a2) abZ)] [(3,.ptr 1 0)] [(1,.cells 74 (cw P))] ?_;obtain⟨c,O,a⟩:=az a;refine aV [(1,b3 [] (VI O) ab4),(5,.al 36)] [] [(4,.ptr 36 0),(5,.bool c.2.1)] [1] [(1,.cells 74 (cw c.2.2)),(36,.cells 29 (c6 c.1))]<|aq<|aFe [(3,.ptr 1 0),(4,.ptr 36 0),(36,.bool ((!c.2.1)||(decide ((c.1.aM.length:Int)=(0:Int)))))] [(1,.cells 74 (cw c.2.2)),(36,.cells 29 (c6 c.1))] (λn=>?_) ?_
 .rcases eU (!c.2.1)with k|k
  .exact aj [(2,Y (ax k)),(7,Y (hj (q:=decide ((c.1.aM.length:Int)=(0:Int))) k))] _ _ n
  exact aj [(2,Y (ax k)),(5,Y (bk bF c.1.aM)),(7,Y (eW (q:=decide ((c.1.aM.length:Int)=(0:Int))) k))] _ _ n
 rcases aC a with⟨y,a⟩|⟨y,a⟩
 .exact aI y<|aj [] [(2,.bool false)] []<|aN
 refine aH y<|aK ?_
 obtain⟨N,Q,i,ab,a⟩:=er a;refine aV [(5,Y (bk bF c.1.aM)),(6,b3 [] (jh Q) jg),(7,be (ix bF ab))] [36] [(6,H i.ai)] [1] [(1,.cells 74 (cw N.2))] ?_;obtain⟨b,ae,a⟩:=az a;refine aV [(2,aB (VJ ae) acf),(8,.al 3007),(9,.al 50)] [] [(8,.ptr 50 0),(9,an eA b.2.2.1),(10,.bool b.2.2.2)] [] [(50,.cells 44 (fh b.2.1))]<|ak [] [] [(11,.aF)]<|aq<|ak [] [] [(12,H 0)]<|aX<|aFm 8 2 rfl rfl rfl λT=>?_
 obtain⟨a9,ba,W,X,a⟩:=cG a;refine cO a (λg(d,o,s)=>[(3,.ptr 1 0),(4,.ptr 36 0),(6,H i.ai),(8,.ptr 50 0),(9,an eA b.2.2.1),(10,.bool b.2.2.2),(11,.own 63),(12,H g)]) (λg(d,o,s)=>[(1,.c 74 [an aJ o,H s]),(36,.cells 29 (c6 c.1)),(50,.cells 44 (fh b.2.1)),(63,.s 3 aJ d)]) ?_ ?_ ?_
 .exact cr [.ad 11 63 3 1] []
 .rintro g bt a4 ⟨d,o,s⟩ V A a;rw[W]at a;refine aq<|ak [(3,Y (bk eM b.2.1.ck))] [] [(59,.d ((g:Int)<b.2.1.ck.length))] ?_
  refine aI (cL A)<|aK ?_
  obtain⟨aa,Z,a⟩:=cV a;refine cW aa r (λ(x,p,u)=>[(3,.ptr 1 0),(4,.ptr 36 0),(6,H i.ai),(8,.ptr 50 0),(9,an eA b.2.2.1),(10,.bool b.2.2.2),(11,.own 63),(12,H g)]) (λ(x,p,u)=>[(1,.c 74 [an aJ p,H u]),(36,.cells 29 (c6 c.1)),(50,.cells 44 (fh b.2.1)),(63,.s 3 aJ x)]) ?_ ?_
  .refine aX ?_;obtain⟨j,S,a⟩:=az a;refine aV [(1,b3 [] (jh S) jg)] [59] [(64,.d (0<j.1))] [1] [(1,.cells 74 (cw j.2))] ?_;rcases aC a with⟨B,a⟩|⟨B,a⟩
   .refine aI B ?_;obtain⟨J,ar,a⟩:=az a;exact b0 [(4,be (ix eM (bU A))),(8,dS 478 (ap aJ (bytes:=8) (by decide) ar))] [11,64] [(11,.own 478)] [63] [(478,.s 3 aJ J)]<|Exists.intro (J,j.2.L,j.2.At) (And.intro a (cr [.b8 478 63] []))
   exact aH B<|aK<|aT (d,j.2.L,j.2.At) a
  rintro⟨x,p,u⟩ a;rw[Z]at a;exact a7 [(1,Y (cI A T))] [12] [(12,H ((g+1:Nat):Int))]<|aT (x,p,u) a
 rintro g ⟨d,o,s⟩ V U a;rw[X]at a;refine aq<|ak [(3,Y (bk eM b.2.1.ck))] [] [(59,.d ((g:Int)<b.2.1.ck.length))] ?_
 refine aH (cK U)<|bQ ?_
 obtain⟨f,aD,a⟩:=az a;refine aV [(1,b3 [] (UK aD) aci),(2,.al 416)] [3,12,59] [(13,.ptr 416 0)] [1] [(416,.cells 52 (e7 f.1))]<|aV [] [] [] [416] [(416,.c 52 [H 1,H f.1.bA,H f.1.Set,H f.1.Length,H 63,H f.1.gh,H f.1.gH,H f.1.gJ,.int .u64 f.1.Bits,.str f.1.gN])] ?_
 obtain⟨e,aE,a⟩:=az a;refine aFx fN [.bL [63]] [(3,aB (U2 aE) acn)] [(4,.ptr 36 0),(6,H i.ai),(8,.ptr 50 0),(9,an eA b.2.2.1),(10,.bool b.2.2.2),(11,.own 63),(14,an g3 e.1),(15,H e.2)] [(36,.cells 29 (c6 c.1)),(50,.cells 44 (fh b.2.1)),(63,.slice 3 1 (bc aJ d) (bc aJ d).length true)] (by kernel_rfl)<|aq<|aFe [(4,.ptr 36 0),(6,H i.ai),(8,.ptr 50 0),(9,an eA b.2.2.1),(11,.own 63),(14,an g3 e.1),(90,.bool ((!b.2.2.2)||(!decide (e.2=0))))] [(36,.cells 29 (c6 c.1)),(50,.cells 44 (fh b.2.1)),(63,.slice 3 1 (bc aJ d) (bc aJ d).length true)] (λn=>?_) ?_
 .rcases eU (!b.2.2.2)with l|l
  .exact aj [(2,Y (ax l)),(5,Y (hj (q:=!decide (e.2=0)) l))] _ _ n
  exact aj [(2,Y (ax l)),(5,Y (eW (q:=!decide (e.2=0)) l))] _ _ n
 rcases aC a with⟨z,a⟩|⟨z,a⟩
 .exact aI z<|aj [] [(2,.bool false)] []<|aN
 refine aH z<|aK<|ak [] [90] [(16,.aF)]<|aq<|ak [] [] [(17,H 0)]<|aX<|aFd 14 rfl λao=>?_
 obtain⟨bs,bj,aw,ay,a⟩:=cG a;refine cO a (λh=>λm=>[(4,.ptr 36 0),(6,H i.ai),(8,.ptr 50 0),(9,an eA b.2.2.1),(11,.own 63),(14,an g3 e.1),(16,.own 202),(17,H h)]) (λh=>λm=>[(36,.cells 29 (c6 c.1)),(50,.cells 44 (fh b.2.1)),(63,.slice 3 1 (bc aJ d) (bc aJ d).length true),(202,.s 63 mz m)]) ?_ ?_ ?_
 .exact cr [.ad 16 202 63 3] []
 .rintro h bv bi m aA w a;rw[aw]at a;refine aq<|ak [(2,Y (bk g3 e.1))] [] [(94,.d ((h:Int)<e.1.length))] ?_
  refine aI (cL w)<|aK<|aq<|aX ?_
  obtain⟨bh,aG,F,aL,a⟩:=er a;refine aV [(1,aB (EA aG) Dv),(5,be (ix g3 (bU w))),(8,aB (VV aL) abJ),(12,.al 293)] [94] [(18,.ptr 293 0),(19,H F.2)] [] [(293,.cells 63 (qX F.1))]<|aq ?_
  obtain⟨R,ag,a⟩:=cV a;refine cW R r (λC=>[(4,.ptr 36 0),(6,H i.ai),(8,.ptr 50 0),(9,an eA b.2.2.1),(11,.own 63),(14,an g3 e.1),(16,.own 202),(17,H h),(18,.ptr 293 0),(120,.bool C)]) (λC=>[(36,.cells 29 (c6 c.1)),(50,.cells 44 (fh b.2.1)),(63,.slice 3 1 (bc aJ d) (bc aJ d).length true),(202,.s 63 mz m),(293,.cells 63 (qX F.1))]) ?_ ?_
  .rcases aC a with⟨E,a⟩|⟨E,a⟩
   .exact a7 [(2,Y (ax E))] [19] [(120,.bool true)]<|aT true a
   obtain⟨K,aR,a⟩:=az a;exact a7 [(2,Y (ax E)),(6,be (ix g3 (bU w))),(9,aB (Wb aR) abK)] [19] [(120,.bool (!K))]<|aT (!K) a
  rintro C a;rw[ag]at a;rcases aC a with⟨D,a⟩|⟨D,a⟩
  .exact aI D<|aj [] [(2,.bool false)] []<|aN
  refine aH D<|aK ?_
  obtain⟨I,aW,a⟩:=az a;exact b0 [(3,dS 367 (ap mz (bytes:=72) (by decide) aW))] [16,18,120] [(16,.own 367)] [202,293] [(367,.s 63 mz I)]<|a7 [(1,Y (cI w ao))] [17] [(17,H ((h+1:Nat):Int))]<|Exists.intro I (And.intro a (cr [.b8 367 202] []))
 rintro h m aA am a;rw[ay]at a;refine aq<|ak [(2,Y (bk g3 e.1))] [] [(94,.d ((h:Int)<e.1.length))] ?_
 refine aH (cK am)<|bQ ?_
 obtain⟨L,aY,a⟩:=az a;refine aFx fN [.bL [202]] [(3,aB (U4 aY) abL)] [(11,.own 63),(20,an aJ L.1),(21,H L.2)] [(63,.slice 3 1 (bc aJ d) (bc aJ d).length true)] (by kernel_rfl) ?_;rcases aC a with⟨v,a⟩|⟨v,a⟩
 .obtain⟨bo,M,a⟩:=az a;rcases aC a with⟨G,a⟩|⟨G,a⟩
  .obtain⟨aU,aZ,a⟩:=az a;exact aj [(2,Y (ax v)),(5,aB (Ft M) HY),(7,Y (ax G)),(8,aB (VH aZ) abM)] [(2,.bool aU)] []<|aN
  exact aj [(2,Y (ax v)),(5,aB (Ft M) HY),(7,Y (ax G))] [(2,.bool false)] []<|aN
 exact aj [(2,Y (ax v))] [(2,.bool false)] []<|aN
end
section
open Go
section
variable {α β:Type}
def aR(a:α)(k:α->Option β):af (some a) k=k a:=rfl
variable {k:Option β}
def jT{c:Bool}(h:c=true):eD c k=k:=by subst h;rfl
theorem o5{p:Prop}[Decidable p]{x y:α}:(bif decide p then x else y)=if p then x else y:=by grind
def y5{α σ β:Type}{B:Int->α->(σ->Option β)->σ->Option β}{K:σ->Option β}(f:List α->σ->Option β)(c:∀s,K s=f [] s)
  (b:∀(j:Int) x r s a4,(∀a,a4 a=f r a)->B j x a4 s=f (x::r) s):∀(l:List α) (j:Nat) (s:σ),bC l j B K s=f l s
 |[],_,s=>c s
 |x::r,j,s=>b j x r s _ λa=>y5 f c b r (j+1) a
def Me{α σ β:Type}{B:Int->α->(σ->Option β)->σ->Option β}{K:σ->Option β}{L:List α}(f:List α->List α->σ->Option β)(c:∀s,K s=f L [] s)
  (b:∀p x r s a4,p++x::r=L->(∀a,a4 a=f (p++[x]) r a)->B (p.length:Int) x a4 s=f p (x::r) s):∀(l p:List α) (s:σ),p++l=L->bC l p.length B K s=f p l s
 |[],p,s,h=>by rw[l5]at h;subst h;exact c s
 |x::r,p,s,h=>b p x r s _ h λa=>by
   have:=Me (B:=B) (K:=K) f c b r (p++[x]) a (by simpa using h);rw[dF]at this;exact this
def Ok{β:Type}(o:Option β)(Q:β->Prop):Prop:=∃r,o=some r/\Q r
variable {Q:β->Prop}
def Ok.s{r:β}(h:Q r):Ok (some r) Q:=⟨r,rfl,h⟩
def Ok.af{α β:Type}{o:Option α}{k:α->Option β}{P:α->Prop}{Q:β->Prop}(h:Ok o P)(O:∀a,P a->Ok (k a) Q):Ok (af o k) Q:=by
 obtain⟨a,rfl,H⟩:=h;exact O a H
theorem Ok.cs{c:Bool}{x y:Option β}(O:c=true->Ok x Q)(H:c=false->Ok y Q):Ok (bif c then x else y) Q:=by grind
def aFt{c:Bool}(h:c=true)(a:Ok k Q):Ok (eD c k) Q:=by subst h;exact a
variable {σ:Type}
def aFj{k:σ->Option β}{t:(σ->Option β)->Option β}(R:σ->Prop)(b:∀s,R s->Ok (k s) Q)(a:∀J,(∀s,R s->Ok (J s) Q)->Ok (t J) Q):Ok (jn k t) Q:=a k b
def aFA{σ β:Type}{B:Int->(σ->Option β)->σ->Option β}{K:Int->σ->Option β}{Q:β->Prop}(I:Int->σ->Prop)(a hi:Int)
  (d:∀(i:Int) s a4,a<=i->i<hi->I i s->(∀b,I (i+1) b->Ok (a4 b) Q)->Ok (B i a4 s) Q) (e:∀i s,a<=i->(a<=hi->i=hi)->I i s->Ok (K i s) Q):∀(n:Nat) (i:Int) (s:σ),n=(hi-i).toNat->a<=i->(a<=hi->i<=hi)->I i s->Ok (iD n i B K s) Q
 |0,i,s,j,h1,c,h=>e i s h1 (λf=>by have:=c f;omega) h
 |n+1,i,s,j,h1,c,h=>d i s _ h1 (by omega) h λb g=>aFA I a hi d e n (i+1) b (by omega) (by omega) (λ_=>by omega) g
def Ok.iter{σ β:Type}{F:(σ->Option β)->σ->Option β}{Q:β->Prop}(I:σ->Prop)(μ:σ->Nat)
  (O:∀s a4,I s->(∀H,I H->μ H<μ s->Ok (a4 H) Q)->Ok (F a4 s) Q):∀(n:Nat) (s:σ),I s->μ s<n->Ok (iter F n s) Q
 |0,s,_,h=>by omega
 |n+1,s,h,hm=>O s _ h λH S X=>Ok.iter I μ O n H S (by omega)
def aFv{F:(σ->Option β)->σ->Option β}(I:σ->Prop)(μ:σ->Nat){s:σ}(h:I s)(c:μ s<1099511627776)
  (b:∀s a4,I s->(∀a,I a->μ a<μ s->Ok (a4 a) Q)->Ok (F a4 s) Q):Ok (gu F s) Q:=Ok.iter I μ b fuel s h c
variable {o:Option β}
def Ok.get(h:Ok o Q):∃r,o=some r/\Q r:=h
def aFo{r:β}(h:Ok o (λx=>x=r)):o=some r:=by obtain⟨x,a,rfl⟩:=h;exact a
def iy(p:List α)(x:α)(r:List α):b6 (p++x::r) (p.length:Int)=some x:=by
 unfold b6;rw[bx (by omega)];simp
variable {l:List α}
def n2{i:Int}(a:0<=i)(h:i<l.length):Ok (b6 l i) (λx=>x∈l/\l[i.toNat]?=some x):=by
 unfold b6;rw[bx a]
 have:i.toNat<l.length:=by omega
 exact⟨l[i.toNat],jW this,List.getElem_mem this,jW this⟩
variable {r:List α}
def g9(h:l.length+r.length<=549755813888):dm l r=some (l++r):=by unfold dm;rw[bx (by unfold aY;exact h)]
def qp(h:l.length+r.length<=549755813888):Ok (dm l r) (λm=>m=l++r/\m.length=l.length+r.length):=⟨_,g9 h,rfl,by simp⟩
def ze{a b:Int}(h:0<=a/\a<=b/\b<=l.length):Ok (hB l a b) (λm=>m=(l.take b.toNat).drop a.toNat/\(m.length:Int)=b-a):=by
 unfold hB;rw[bx h];exact⟨_,rfl,rfl,by simp;omega⟩
def u4{B:Int->α->(σ->Option β)->σ->Option β}{K:σ->Option β}(p:α->Bool)(a:Option β)(c:∀j x a4 s,B j x a4 s=bif p x then a else a4 s)(l:List α)(j:Nat)(s:σ):bC l j B K s=bif l.any p then a else K s:=
 y5 (f:=λl s=>bif l.any p then a else K s) (λs=>rfl) (λj x r s a4 b=>by
  rw[c,b,List.any_cons];cases p x<;>rfl) l j s
end
section
def pq(n:Int):Bool:=decide (1<=n)&&decide (n<=1000)
def hx(t:aS)(r:Int):Bool:=t.bf.any λx=>decide (x.aP=r)
def r2(r:bV):Bool:=decide (r.aP<1)||decide (99<r.aP)
def oB(l:bm):Bool:=!pq l.iA||!pq l.iq||decide (l.fo<0)||decide (1000<l.fo)
def ga(a b:bm):Bool:=decide (a.A<b.A)||(decide (a.A=b.A)&&decide (a.B<b.B))
def iX{α:Type}(p:α->α->Bool):List α->Bool
 |a::b::r=>p a b&&iX p (b::r)
 |_=>true
def Ar(t:aS):Bool:=t.bf.any r2
def p1(t:aS):Bool:=iX (λa b=>decide (a.aP<b.aP)) t.bf
def As(t:aS):Bool:=t.Links.any oB
def Au(t:aS):Bool:=t.Links.any λl=>!hx t l.A||!hx t l.B
def Av(t:aS):Bool:=t.Links.any λl=>decide (l.B<=l.A)
def Aw(t:aS):Bool:=iX ga t.Links
def h3(t:aS):Int:=
 bif decide (24<(t.bf.length:Int))||decide (60<(t.Links.length:Int))then 3
 else bif Ar t then 2 else bif p1 t then(bif As t then 2 else bif Au t then 4 else bif Av t then 8 else bif Aw t then 0 else 25)else 25
def GA{α σ β:Type}{B:Int->α->(σ->Option β)->σ->Option β}{K:σ->Option β}{L:List α}(p:α->α->Bool)(a:Option β)
  (b:∀(j:Nat) x y r q s a4,L=q++y::x::r->j=q.length+1->B (j:Int) x a4 s=bif p y x then a4 s else a):∀(r q:List α) (y:α) (s:σ),L=q++y::r->bC r (q.length+1) B K s=bif iX p (y::r)then K s else a
 |[],q,y,s,h=>rfl
 |x::r,q,y,s,h=>by
  simp only[bC];rw[b (q.length+1) x y r q s _ h rfl];have:=GA (B:=B) (K:=K) p a b r (q++[y]) x s (by simpa using h);simp only[dF,fW,hP]at this;rw[this];simp only[iX];cases p y x<;>rfl
variable {α β σ:Type}{L:List α}{B:Int->α->(σ->Option β)->σ->Option β}{K:σ->Option β}
def L0(p:α->α->Bool)(a:Option β)
  (b:∀(j:Nat) x y r q s a4,L=q++y::x::r->j=q.length+1->B (j:Int) x a4 s=bif p y x then a4 s else a) (s:σ):bC (L.drop 1) 1 B K s=bif iX p L then K s else a:=by
 cases L with
 |nil=>rfl
 |cons y r=>exact GA (B:=B) (K:=K) p a b r [] y s rfl
def F5(p:α->α->Bool)(a:Option β)(c:∀x a4 s,B ((0:Nat):Int) x a4 s=a4 s)
  (b:∀(j:Nat) x y r q s a4,L=q++y::x::r->j=q.length+1->B (j:Int) x a4 s=bif p y x then a4 s else a) (s:σ):bC L 0 B K s=bif iX p L then K s else a:=by
 cases L with
 |nil=>rfl
 |cons y r=>
  simp only[bC];rw[c];exact GA (B:=B) (K:=K) p a b r [] y s rfl
variable {j:Nat}
def u5{y x:α}{r q:List α}(h:L=q++y::x::r)(b:j=q.length+1)(c:(L.length:Int)<=9223372036854775807):b6 L (a2 ((j:Int)-1))=some y:=by
 have a:q.length+2<=L.length:=by rw[h];simp
 rw[fv (by omega) (by omega),show(j:Int)-1=(q.length:Int)by omega,h,iy]
def YX(n:Int):BI n=some (pq n):=rfl
def ND(t:aS)(r:Int):uR t r=some (hx t r):=by
 unfold uR;refine(u4 (λx:bV=>decide (x.aP=r)) (some true) ?_ _ _ _).trans ?_
 .intros;rfl
 .unfold hx;cases t.bf.any _<;>rfl
theorem L1(t:aS):xP t=some (h3 t):=by
 unfold xP h3;by_cases d:(decide (24<(t.bf.length:Int))||decide (60<(t.Links.length:Int)))=true
 .rw[d];rfl
 rw[mM]at d;rw[d];simp only[bH];simp only[kj,iz]at d;refine(u4 r2 (some 2) ?_ _ _ _).trans ?_
 .intros;rfl
 unfold Ar;cases t.bf.any r2
 case true=>rfl
 simp only[bH];refine(L0 (λa b:bV=>decide (a.aP<b.aP)) (some 25) ?_ _).trans ?_
 .intro j x c h g s a4 f e;simp only[u5 f e (by omega),aR,o5]
  grind
 unfold p1;cases iX _ t.bf
 case false=>rfl
 simp only[cm];refine(u4 oB (some 2) ?_ _ _ _).trans ?_
 .intro j x a4 s;simp only[jn,YX,aR,oB]
  grind
 unfold As;cases t.Links.any oB
 case true=>rfl
 simp only[bH];refine(u4 (λl=>!hx t l.A||!hx t l.B) (some 4) ?_ _ _ _).trans ?_
 .intro j x a4 s;simp only[jn,ND,aR]
  grind
 unfold Au;cases t.Links.any _
 case true=>rfl
 simp only[bH];refine(u4 (λl=>decide (l.B<=l.A)) (some 8) ?_ _ _ _).trans ?_
 .intros;rfl
 unfold Av;cases t.Links.any _
 case true=>rfl
 simp only[bH];refine(L0 ga (some 25) ?_ _).trans ?_
 .intro j x c h g s a4 f e;have i:(decide (x.A<c.A)||(decide (c.A=x.A)&&decide (x.B<=c.B)))=!ga c x:=by
   rw[ns];simp[ga];omega
  simp only[u5 f e (by omega),aR]
  grind
 unfold Aw
 grind
theorem yM{α σ:Type}{B:Int->α->(σ->ir)->σ->ir}{K:σ->ir}(p:α->Bool)(a:∀j x a4 s,B j x a4 s=bif p x then some j else a4 s)(b:∀s,K s=some (-1)):∀(l:List α) (j:Nat) (s:σ),∃r,bC l j B K s=some r/\decide (0<=r)=l.any p
 |[],j,s=>⟨-1,b s,rfl⟩
 |x::r,j,s=>by
  simp only[bC,a,List.any_cons];cases p x
  .simpa using yM p a b r (j+1) s
  .grind
def abI(l:uX)(f:bV->dw)(p:bV->Bool)(e:∀x,f x=some (p x)):Ab l f=some (l.any p):=by
 unfold Ab DT;obtain⟨k,i,b⟩:=yM (B:=λ(d:Int) (h:bV) (g:Unit->ir) (a:Unit)=>match a with|()=>af (f h) λ(c:Bool)=>bif c then some (d:Int)else g ()) (K:=λ(a:Unit)=>match a with|()=>some (-1:Int)) p (λj x a4 m=>by simp only[e,aR]) (λ_=>rfl) l 0 ();simp only[i,aR,b]
def Iy(l:mJ)(f:bm->dw)(p:bm->Bool)(e:∀x,f x=some (p x)):ux l f=some (l.any p):=by
 unfold ux DX;obtain⟨k,i,b⟩:=yM (B:=λ(d:Int) (h:bm) (g:Unit->ir) (a:Unit)=>match a with|()=>af (f h) λ(c:Bool)=>bif c then some (d:Int)else g ()) (K:=λ(a:Unit)=>match a with|()=>some (-1:Int)) p (λj x a4 m=>by simp only[e,aR]) (λ_=>rfl) l 0 ();simp only[i,aR,b]
def eB(x y:Int):Int:=if x<y then -1 else if y<x then 1 else 0
theorem y6(x y:Int):j4 x y=some (eB x y):=by
 unfold j4 xC eB;simp only[aR,ef,dk,bH,o5]
 grind
variable {x:Int}
def vy{y:Int}:eB x y<0↔x<y:=by unfold eB;split<;>(try split)<;>omega
def oZ{y:Int}:eB x y=0↔x=y:=by unfold eB;split<;>(try split)<;>omega
def mw:bX->Int
 |[]=>0
 |x::r=>if x=0 then mw r else x
theorem Hy(l:bX):q4 l=some (mw l):=by
 unfold q4;refine(y5 (f:=λl _=>some (mw l)) ?_ ?_ _ _ _)
 .intros;rfl
 .intro j x b c a4 a;simp only[mw,a]
  grind
def cmpL(a b:bm):Int:=mw [eB a.A b.A,eB a.B b.B]
def KN(a b:bm):xc a b=some (cmpL a b):=by
 unfold xc;simp only[y6,aR,Hy];rfl
def MV(r:bV)(id:Int):xD r id=some (eB r.aP id):=by
 unfold xD;simp only[y6,aR]
variable {a b:bm}
def CN:cmpL a b<0↔ga a b=true:=by
 have:cmpL a b<0↔a.A<b.A\/(a.A=b.A/\a.B<b.B):=by
  simp only[cmpL,mw];split
  .rename_i c;rw[oZ]at c;split
   .rename_i d;rw[oZ]at d;omega
   .rw[vy];omega
  .rename_i c;rw[oZ]at c;rw[vy];omega
 rw[this];simp[ga]
def cmpL_eq:cmpL a b=0↔a.A=b.A/\a.B=b.B:=by
 simp only[cmpL,mw];split
 .rename_i d;rw[oZ]at d;split
  .rename_i c;rw[oZ]at c;omega
  .rename_i c;rw[oZ]at c ⊢;omega
 .rename_i d;rw[oZ]at d ⊢;omega
def lK{α:Type}[Inhabited α](f:α->Int)(l:List α)(i j:Nat):Nat:=
 if a:i<j then if f (el l ((i+j) / 2:Nat))<0 then lK f l ((i+j) / 2+1) j else lK f l i ((i+j) / 2)else i
 termination_by j-i
 decreasing_by all_goals omega
def jC{α:Type}[Inhabited α](f:α->Int)(l:List α):Nat:=lK f l 0 l.length
def kO{α:Type}[Inhabited α](f:α->Int)(l:List α):Bool:=decide (jC f l<l.length)&&decide (f (el l (jC f l))=0)
variable {f:α->Int}{i:Nat}{l:List α}
def Of[Inhabited α](h:i<j)(a:f (el l ((i+j) / 2:Nat))<0):lK f l i j=lK f l ((i+j) / 2+1) j:=by
 rw[lK,dif_pos h,bx a]
def NX[Inhabited α](h:i<j)(a:¬f (el l ((i+j) / 2:Nat))<0):lK f l i j=lK f l i ((i+j) / 2):=by
 rw[lK,dif_pos h,bw a]
def G7[Inhabited α](h:j<=i):lK f l i j=i:=by
 rw[lK,dif_neg (by omega)]
def ti[Inhabited α](h:i<l.length):el l i=l[i]:=by
 simp[el,oy,h]
def Hz[Inhabited α](h:i<l.length):el l i∈l:=by
 rw[ti h];exact List.getElem_mem h
def rJ[Inhabited α](h:i<l.length):b6 l (i:Int)=some (el l i):=by
 unfold b6;rw[bx (by omega),ti h];simp[h]
def G8(h:i+j<=4611686018427387904):a2 (Int.fdiv (IntKind.wrap .u64 (a2 ((i:Int)+(j:Int)))) (2 ^ min (1:Int).toNat 64))=(((i+j) / 2:Nat):Int):=by
 have b:a2 ((i:Int)+(j:Int))=((i+j:Nat):Int):=by rw[fv (by omega) (by omega)];simp
 have c:IntKind.wrap .u64 ((i+j:Nat):Int)=((i+j:Nat):Int):=ZH (by omega) (by omega);rw[b,c];have a:(2:Int) ^ min (1:Int).toNat 64=2:=rfl;rw[a,Int.fdiv_eq_ediv_of_nonneg _ (by omega)];rw[fv (by omega) (by omega)];simp
def G9[Inhabited α]{F:((Int×Int)->Option (Int×Bool))->(Int×Int)->Option (Int×Bool)}(l:List α)(f:α->Int)(m:l.length<=1000000)
  (k:∀(i j:Nat) a4,j<=l.length->F a4 ((i:Int),(j:Int))=if h:i<j then(if f (el l ((i+j) / 2:Nat))<0 then a4 ((((i+j) / 2+1:Nat):Int),(j:Int))else a4 ((i:Int),(((i+j) / 2:Nat):Int)))else some ((i:Int),decide (i<l.length)&&decide (f (el l i)=0))) :
  gu F ((0:Int),(l.length:Int))=some ((jC f l:Int),kO f l):=by
 refine aFo (aFv (I:=λa=>∃i j:Nat,a=((i:Int),(j:Int))/\i<=j/\j<=l.length/\lK f l i j=jC f l) (μ:=λa=>(a.2-a.1).toNat) ⟨0,l.length,rfl,by omega,by omega,rfl⟩ ?_ ?_)
 .omega
 .rintro a a4 ⟨i,j,rfl,n,e,b⟩ g;rw[k i j a4 e];split
  .rename_i d;split
   .rename_i c;exact g _ ⟨_,_,rfl,by omega,e,by rw[<-b,Of d c]⟩ (by show((j:Int)-_).toNat<((j:Int)-i).toNat;omega)
   .rename_i c;exact g _ ⟨_,_,rfl,by omega,by omega,by rw[<-b,NX d c]⟩ (by show((((i+j) / 2:Nat):Int)-i).toNat<((j:Int)-i).toNat;omega)
  .rename_i d;have:jC f l=i:=by rw[<-b,G7 (by omega)]
   exact⟨_,rfl,by simp only[kO,this]⟩
theorem JP(l:uX)(x:Int)(c:bV->Int->ir)(f:bV->Int)(e:l.length<=1000000)(a:∀r,c r x=some (f r)):wO l x c=some ((jC f l:Int),kO f l):=by
 unfold wO;refine G9 l f e λi j a4 g=>?_;by_cases b:i<j
 .rw[dif_pos b];simp only[G8 (i:=i) (j:=j) (by omega),rJ (show(i+j) / 2<l.length by omega),aR,a,o5];rw[bx (by omega),fv (by omega) (by omega)];rfl
 .rw[dif_neg b];simp only[o5];rw[bw (by omega)];by_cases d:i<l.length
  .rw[bx (by omega),rJ d];simp only[aR,a];simp[d]
  .grind
theorem abE(l:mJ)(x:bm)(c:bm->bm->ir)(f:bm->Int)(e:l.length<=1000000)(a:∀r,c r x=some (f r)):z3 l x c=some ((jC f l:Int),kO f l):=by
 unfold z3;refine G9 l f e λi j a4 g=>?_;by_cases b:i<j
 .rw[dif_pos b];simp only[G8 (i:=i) (j:=j) (by omega),rJ (show(i+j) / 2<l.length by omega),aR,a,o5];rw[bx (by omega),fv (by omega) (by omega)];rfl
 .rw[dif_neg b];simp only[o5];rw[bw (by omega)];by_cases d:i<l.length
  .rw[bx (by omega),rJ d];simp only[aR,a];simp[d]
  .grind
def YY[Inhabited α](p:∀a b:Nat,a<=b->b<l.length->f (el l a)<=f (el l b)):∀(n i j:Nat),j-i<=n->i<=j->j<=l.length->(∀m:Nat,m<i->f (el l m)<0)->(∀m:Nat,j<=m->m<l.length->0<=f (el l m))->
  lK f l i j<=l.length/\(∀m:Nat,m<lK f l i j->f (el l m)<0)/\(∀m:Nat,lK f l i j<=m->m<l.length->0<=f (el l m)):=by
 intro n;induction n with
 |zero=>
  intro i j s q k e c;rw[G7 (by omega)];exact⟨by omega,e,λm d=>c m (by omega)⟩
 |succ n g=>
  intro i j s q k e c;by_cases o:i<j
  .by_cases h:f (el l ((i+j) / 2:Nat))<0
   .rw[Of o h];refine g _ _ (by omega) (by omega) k (λm d=>?_) c;have:=p m ((i+j) / 2) (by omega) (by omega);omega
   .rw[NX o h];refine g _ _ (by omega) (by omega) (by omega) e (λm d r=>?_);have:=p ((i+j) / 2) m d r;omega
  .rw[G7 (by omega)];exact⟨by omega,e,λm d=>c m (by omega)⟩
def MW[Inhabited α](c:∀a b:Nat,a<=b->b<l.length->f (el l a)<=f (el l b)):
  jC f l<=l.length/\(∀m:Nat,m<jC f l->f (el l m)<0)/\(∀m:Nat,jC f l<=m->m<l.length->0<=f (el l m)):=
 YY c l.length 0 l.length (by omega) (by omega) (by omega) (λm e=>by omega) (λm g d=>by omega)
theorem Hd[Inhabited α](i:∀a b:Nat,a<=b->b<l.length->f (el l a)<=f (el l b)):kO f l=true↔∃x∈l,f x=0:=by
 obtain⟨m,j,k⟩:=MW i;simp only[kO,b9,eY];constructor
 .rintro⟨c,e⟩;exact⟨_,Hz c,e⟩
 .rintro⟨x,d,g⟩;obtain⟨n,h,rfl⟩:=qD d;rw[<-ti h]at g
  grind
def Jh[Inhabited α](h:l.Pairwise (λa b=>f a<=f b)):∀a b:Nat,a<=b->b<l.length->f (el l a)<=f (el l b):=by
 intro a b c d;rcases Nat.lt_or_eq_of_le c with c|rfl
 .have:=tG.1 h a b (by omega) d c
  rwa [ti (by omega),ti d]
 .exact pM _
def xY{α:Type}{p:α->α->Bool}(e:∀a b c,p a b=true->p b c=true->p a c=true):∀{l:List α},iX p l=true->l.Pairwise (λa b=>p a b=true)
 |[],_=>List.Pairwise.nil
 |[x],_=>by simp
 |a::b::r,h=>by
  simp only[iX,b9]at h;have f:=xY e h.2;rw[fI];refine⟨λg d=>?_,f⟩;rcases c5.1 d with rfl|d
  .exact h.1
  .exact e _ _ _ h.1 ((fI.1 f).1 g d)
def uP{α:Type}{p:α->α->Bool}:∀{l:List α},l.Pairwise (λa b=>p a b=true)->iX p l=true
 |[],_=>rfl
 |[x],_=>rfl
 |a::b::r,h=>by
  rw[fI]at h;simp only[iX,b9];exact⟨h.1 b (by simp),uP h.2⟩
variable {t:aS}
theorem NY(h:p1 t=true):t.bf.Pairwise (λa b=>a.aP<b.aP):=by
 have:=xY (p:=λa b:bV=>decide (a.aP<b.aP)) (λa b e d c=>by simp at d c ⊢;omega) h
 grind
def ZE(h:p1 t=true)(id:Int):∀a b:Nat,a<=b->b<t.bf.length->eB (el t.bf a).aP id<=eB (el t.bf b).aP id:=
 Jh (f:=λc:bV=>eB c.aP id) ((NY h).imp (λ{a b} h=>by unfold eB;split<;>(try split)<;>(try split)<;>(try split)<;>omega))
def Il(t:aS)(id:Int):Bool:=!kO (λa=>eB a.aP id) t.bf
def NF(h:p1 t=true)(id:Int):Il t id=!hx t id:=by
 simp only[Il,hx];congr 1;rw[ns,Hd (ZE h id)];simp[oZ]
theorem qb(t:aS):k6 t=some (h3 t):=by
 unfold k6 h3;by_cases d:(decide (24<(t.bf.length:Int))||decide (60<(t.Links.length:Int)))=true
 .rw[d];rfl
 rw[mM]at d;rw[d];simp only[bH];simp only[kj,iz]at d;rw[abI t.bf _ r2 (λx=>by simp only[EJ,sI,aR,r2];congr 1;rw[ns];simp)];simp only[aR];unfold Ar;cases t.bf.any r2
 case true=>rfl
 simp only[bH];refine(F5 (λa b:bV=>decide (a.aP<b.aP)) (some 25) ?_ ?_ _).trans ?_
 .intros;rfl
 .intro j x h c n s a4 g f;simp only[jn,u5 g f (by omega),aR,o5]
  grind
 cases e:p1 t
 case false=>unfold p1 at e;rw[e];rfl
 have k:=e;unfold p1 at k;rw[k];simp only[cm]
 rw[Iy t.Links AK oB (λx=>by
  simp only[AK,sI,aR,oB,pq];simp only[o5,Bool.not_and,Bool.cond_eq_ite,kZ,gD,iz];split
  .grind
  .split
   .grind
   .congr 1;rw[ns];simp;omega)]
 simp only[aR];unfold As;cases t.Links.any oB
 case true=>rfl
 simp only[bH]
 have m:∀id,xd id t=some (!hx t id):=λid=>by
  unfold xd;rw[JP t.bf id _ (λc=>eB c.aP id) (by omega) (λc=>MV c id)];simp only[aR];rw[<-NF e];rfl
 rw[Iy t.Links _ (λl=>!hx t l.A||!hx t l.B) (λx=>by
  simp only[EK,m,aR];cases hx t x.A<;>rfl)]
 simp only[aR];unfold Au;cases t.Links.any _
 case true=>rfl
 simp only[bH];rw[Iy t.Links EL (λl=>decide (l.B<=l.A)) (λx=>rfl)];simp only[aR];unfold Av;cases t.Links.any _
 case true=>rfl
 simp only[bH];refine(F5 ga (some 25) ?_ ?_ _).trans ?_
 .intros;rfl
 .intro j x h c n s a4 g f;simp only[jn,u5 g f (by omega),aR,KN,o5];rw[bx (by omega)];cases i:ga h x
  .have:¬cmpL h x<0:=by rw[CN,i];simp
   grind
  .have:=CN.2 i
   grind
 unfold Aw
 grind
end
section
def fC(t:cu):Prop:=0<=t.At/\t.At<=t.L.length/\t.L.length<=600
def Ri(n:Int):a2 n<=9223372036854775807/\-9223372036854775808<=a2 n:=by
 unfold a2;rw[wm];omega
def Rj{x n:Int}(g:n<=9223372036854775807):Ok (yZ x n) (λr=>0<=r/\(1<=n->r<n)/\(n<1->r=0)):=by
 unfold yZ;refine Ok.cs (λa=>Ok.s ?_) λa=>?_
 .simp at a;omega
 have a:1<=n:=by simpa using a
 have h:Int.tmod x n<n:=Int.tmod_lt_of_pos _ (by omega);have f : -n<Int.tmod x n:=Int.lt_tmod_of_pos _ (by omega);refine aFt (by simp;omega) ?_;refine aFj (λr=>0<=r/\r<n) (λi c=>Ok.s ⟨c.1,λ_=>c.2,by omega⟩) λe d=>?_;refine Ok.cs (λb=>d _ ?_) λb=>d _ ?_
 .simp at b;rw[fv (by omega) (by omega)];omega
 .simp at b;omega
variable {t:cu}
def HA(h:fC t):Ok (uM t) (λp=>fC p.2):=by
 obtain⟨c,e,a⟩:=h;unfold uM;refine Ok.cs (λ_=>Ok.s ⟨c,e,a⟩) λb=>?_;simp at b;have d:a2 (t.At+1)=t.At+1:=fv (by omega) (by omega);rw[d,fv (by omega) (by omega)];refine Ok.af (n2 (by omega) (by omega)) λf _=>Ok.s ⟨?_,?_,a⟩<;>show _<;>simp<;>omega
def jm{n:Int}(h:fC t)(c:n<=9223372036854775807):Ok (h7 t n) (λp=>(0<=p.1/\(1<=n->p.1<n)/\(n<1->p.1=0))/\fC p.2):=by
 unfold h7;exact Ok.af (HA h) λp b=>Ok.af (Rj c) λd a=>Ok.s ⟨a,b⟩
def u6{low high:Int}(h:fC t):Ok (oN t low high) (λp=>(-2305843009213693952<=low->low<=high->high<2305843009213693952->low<=p.1/\p.1<=high)/\fC p.2):=by
 unfold oN;refine Ok.af (jm h (Ri _).1) λp a=>Ok.s ⟨λf d e=>?_,a.2⟩;obtain⟨⟨c,b,_⟩,_⟩:=a;rw[fv (n:=high-low) (by omega) (by omega),fv (n:=high-low+1) (by omega) (by omega)]at b;show low<=a2 (low+p.1)/\a2 (low+p.1)<=high;rw[fv (by omega) (by omega)];omega
def vz{l:bX}(h:fC t)(d:1<=l.length)(e:l.length<=1000000):Ok (p2 t l) (λp=>p.1∈l/\fC p.2):=by
 unfold p2;refine Ok.af (jm h (by omega)) λp a=>?_;exact Ok.af (n2 a.1.1 (a.1.2.1 (by omega))) λc b=>Ok.s ⟨b.1,a.2⟩
def HB{n:Int}(h:fC t)(b:n<=9223372036854775807):Ok (uN t n) (λp=>fC p.2):=by
 unfold uN;exact Ok.af (jm h b) λp a=>Ok.s a.2
def Rk(l:bX):Ok (y0 l) fC:=by
 unfold y0;refine aFj (λc:bX=>c.length<=600) (λg d=>Ok.s ⟨by simp,by simp,d⟩) λe b=>?_;refine Ok.cs (λa=>?_) λa=>b _ ?_
 .simp at a;exact Ok.af (ze ⟨by omega,by omega,by omega⟩) λc f=>b _ (by omega)
 .simp at a;omega
def L2{g:aS}(h:fC t)(d:1<=g.bf.length/\g.bf.length<=1000000):Ok (xh t g) (λp=>(∃r∈g.bf,p.1=r.aP)/\fC p.2):=by
 unfold xh;rw[ff (by omega),bH];exact Ok.af (jm h (by omega)) λe a=>Ok.af (n2 a.1.1 (a.1.2.1 (by omega))) λb c=>Ok.s ⟨⟨b,c.1,rfl⟩,a.2⟩
def Xc{g:aS}(h:fC t)(r:g.bf.length<=1000000/\g.Links.length<=1000000):Ok (AV t g) (λp=>(p.1.Links.length<=1/\p.1.bf.length<=1)/\fC p.2):=by
 unfold AV;refine aFj (λs:Bool×bX×Int=>(s.1=true->0<g.Links.length)/\fC (cu.mk s.2.1 s.2.2)) (λs d=>?_) λq i=>?_
 .obtain⟨w,v,u⟩:=s;refine Ok.cs (λe=>?_) λe=>Ok.cs (λ_=>Ok.s ⟨⟨by simp,by simp⟩,d.2⟩) λf=>?_
  .have:=d.1 e;refine Ok.af (jm d.2 (by omega)) λk c=>?_;refine Ok.af (n2 c.1.1 (c.1.2.1 (by omega))) λn _=>?_;refine Ok.af (jm c.2 (by omega)) λo j=>?_;exact Ok.cs (λ_=>Ok.s ⟨⟨by simp,by simp⟩,j.2⟩) λ_=>Ok.s ⟨⟨by simp,by simp⟩,j.2⟩
  .simp at f;have:0<g.bf.length:=by
    cases l:g.bf with
    |nil=>exact absurd l f
    |cons a b=>simp
   refine Ok.af (jm d.2 (by omega)) λk c=>?_;exact Ok.af (n2 c.1.1 (c.1.2.1 (by omega))) λn _=>Ok.s ⟨⟨by simp,by simp⟩,c.2⟩
 .refine Ok.cs (λm=>?_) λ_=>i _ ⟨by simp,h⟩;exact Ok.af (jm h (by omega)) λk c=>i _ ⟨λ_=>by simpa using m,c.2⟩
end
section
variable {α:Type}{l:List α}
theorem aau[DecidableEq α]{v:α}:l.any (λx=>decide (x=v))=decide (v∈l):=by grind
def CO(l:bX)(n:Int):q6 l n=some (decide (n∈l)):=by
 unfold q6;refine(u4 (λx:Int=>decide (x=n)) (some true) ?_ _ _ _).trans ?_
 .intros;rfl
 .rw[aau];cases decide (n∈l)<;>rfl
theorem NG(l:bX)(n:Int):oG l n=some (decide (n∈l)):=by
 unfold oG AB;obtain⟨r,f,b⟩:=yM (B:=λ(c:Int) (e:Int) (d:Unit->ir) (a:Unit)=>match a with|()=>bif decide (n=e)then some (c:Int)else d ()) (K:=λ(a:Unit)=>match a with|()=>some (-1:Int)) (λx=>decide (n=x)) (λg x a4 h=>rfl) (λ_=>rfl) l 0 ();simp only[f,aR,b]
 grind
def Xo(l:bX):xV l l=some true:=by
 unfold xV;simp only[ef,dk,bH];refine Me (L:=l) (f:=λ_ _ _=>some true) ?_ ?_ l [] () rfl
 .intros;rfl
 .intro c x r d a4 b a;subst b;simp only[iy,aR,ef,dk,bH,a]
def mg(l:List j0)(a b:Int):Bool:=l.any λc=>vD (j0.mk a b) c
def Xp(l:List j0)(a b:Int):Bv l a b=some (mg l a b||mg l b a):=by
 unfold Bv;refine(u4 (λc:j0=>vD (j0.mk a b) c||vD (j0.mk b a) c) (some true) ?_ _ _ _).trans ?_
 .intro f x a4 s;congr 1;rw[ns];obtain⟨e,t⟩:=x;simp[vD];constructor
  .split
   .rintro(c|c)<;>omega
   .intro c;omega
  .rintro(c|c)
   .rw[bx (by omega)];omega
   .split<;>omega
 .have:(l.any λc:j0=>vD (j0.mk a b) c||vD (j0.mk b a) c)=(mg l a b||mg l b a):=by
   rw[ns];simp[mg,List.any_eq_true]
   constructor
   .rintro⟨x,d,c|c⟩
    .exact .inl ⟨x,d,c⟩
    .exact .inr ⟨x,d,c⟩
   .rintro(⟨x,d,c⟩|⟨x,d,c⟩)
    .exact⟨x,d,.inl c⟩
    .exact⟨x,d,.inr c⟩
  rw[this];cases(mg l a b||mg l b a)<;>rfl
def uZ{α b β:Type}{B:Int->α->(List b->Option β)->List b->Option β}{K:List b->Option β}(p:α->Bool)(f:α->b):
  ∀(l:List α) (j:Nat) (s:List b),(∀(j:Nat) x a4 s,x∈l->s.length<1000000->B j x a4 s=bif p x then a4 (s++[f x])else a4 s)->l.length+s.length<=1000000->bC l j B K s=K (s++(l.filter p).map f)
 |[],j,s,_,_=>by simp[bC]
 |x::r,j,s,d,h=>by
  simp only[fW]at h;simp only[bC];rw[d j x _ s (by simp) (by omega)];have e:∀(j:Nat) a a4 s,a∈r->s.length<1000000->B j a a4 s=bif p a then a4 (s++[f a])else a4 s:=λj a a4 s g=>d j a a4 s (by simp[g])
  cases c:p x
  .rw[bH,uZ p f r (j+1) s e (by omega),Dz (by simp[c])]
  .rw[cm,uZ p f r (j+1) (s++[f x]) e (by simp;omega),DA c];simp
def jU{s:List α}{x:α}(h:s.length<1000000):dm s [x]=some (s++[x]):=g9 (by simp;omega)
theorem yD{a b:bX}(d:a.Pairwise (·<·))(c:b.Pairwise (·<·))(h:∀x,x∈a↔x∈b):a=b:=by
 induction a generalizing b with
 |nil=>
  cases b with
  |nil=>rfl
  |cons y b=>exact absurd ((h y).2 (by simp)) (by simp)
 |cons x a e=>
  cases b with
  |nil=>exact absurd ((h x).1 (by simp)) (by simp)
  |cons y b=>
   rw[fI]at d c;have f:x=y:=by
    have j:=(h x).1 (by simp);have i:=(h y).2 (by simp)
    grind
   subst f;congr 1;refine e d.2 c.2 λg=>?_;have:=h g;simp only[c5]at this;constructor
   .grind
   .grind
theorem CG{l:bX}(h:l.Nodup):(hS l).Pairwise (·<·):=by
 have b:=FC l;have a:(hS l).Nodup:=(BW l).nodup_iff.2 h;have:=b.and a
 grind
variable {x:Int}
def Cn{l:bX}:x∈hS l↔x∈l:=(BW l).mem_iff
structure cE(t:aS):Prop where
 jP:t.bf.length<=24
 nl:t.Links.length<=60
 uz:∀r∈t.bf,1<=r.aP/\r.aP<=99
 ic:t.bf.Pairwise (λa b=>a.aP<b.aP)
 Em:∀l∈t.Links,oB l=false
 ends:∀l∈t.Links,hx t l.A=true/\hx t l.B=true
 lt:∀l∈t.Links,l.A<l.B
 uu:t.Links.Pairwise (λa b=>ga a b=true)
def Co(a b c:bm)(e:ga a b=true)(d:ga b c=true):ga a c=true:=by
 simp[ga]at *;omega
theorem pS{p:α->Bool}:l.any p=false↔∀x∈l,p x=false:=by grind
variable {t:aS}
theorem ho:h3 t=0↔cE t:=by
 unfold h3;constructor
 .intro a;by_cases c:(decide (24<(t.bf.length:Int))||decide (60<(t.Links.length:Int)))=true
  .grind
  simp only[mM]at c;rw[c,bH]at a;cases e:Ar t<;>rw[e]at a<;>first|cases a;done|skip
  cases f:p1 t<;>rw[f]at a<;>first|cases a;done|skip
  cases h:As t<;>rw[h]at a<;>first|cases a;done|skip
  cases i:Au t<;>rw[i]at a<;>first|cases a;done|skip
  cases g:Av t<;>rw[g]at a<;>first|cases a;done|skip
  cases j:Aw t<;>rw[j]at a<;>first|cases a;done|skip
  simp only[kj,iz]at c;refine⟨by omega,by omega,λr d=>?_,NY f,pS.1 h,λl b=>?_,λl b=>?_,xY Co j⟩
  .have:=pS.1 e r d;simp[r2]at this;omega
  .have:=pS.1 i l b;simpa using this
  .have:=pS.1 g l b;simpa using this
 .intro a;have c:(decide (24<(t.bf.length:Int))||decide (60<(t.Links.length:Int)))=false:=by
   have:=a.jP;have:=a.nl;simp;omega
  have e:Ar t=false:=pS.2 λr d=>by have:=a.uz r d;simp[r2];omega
  have f:p1 t=true:=uP (a.ic.imp λa=>by simpa using a);have h:As t=false:=pS.2 a.Em;have i:Au t=false:=pS.2 λl b=>by have:=a.ends l b;simp[this]
  have g:Av t=false:=pS.2 λl b=>by have:=a.lt l b;simp;omega
  have j:Aw t=true:=uP a.uu
  grind
def yE(t:aS):sC t=some (decide (h3 t=0)):=by
 unfold sC;rw[qb];rfl
variable {r:Int}
def vk:hx t r=true↔∃x∈t.bf,x.aP=r:=by simp[hx]
def Xq:h3 (aS.mk [] [])=0:=rfl
def oo(f:gG)(l:bm):Bool:=decide (l.A∈f.bf)||decide (l.B∈f.bf)||mg f.Links l.A l.B||mg f.Links l.B l.A
def lz(t:aS)(f:gG):aS:=aS.mk (t.bf.filter λr=>!decide (r.aP∈f.bf)) (t.Links.filter λl=>!oo f l)
def cE.x7(h:cE t)(f:gG):cE (lz t f):=by
 have Q:(lz t f).bf.Sublist t.bf:=pN;have sl:(lz t f).Links.Sublist t.Links:=pN;refine⟨gP Q.length_le h.jP,gP sl.length_le h.nl,λr Z=>h.uz r (Q.subset Z),h.ic.sublist Q,λl H=>h.Em l (sl.subset H),λl H=>?_,λl H=>h.lt l (sl.subset H),h.uu.sublist sl⟩;have Y:=gz.1 H;have X:=h.ends l Y.1;have O:=Y.2;simp[oo]at O;rw[vk,vk]at X ⊢;obtain⟨⟨x,aa,S⟩,⟨y,ab,jF⟩⟩:=X;refine⟨⟨x,gz.2 ⟨aa,?_⟩,S⟩,⟨y,gz.2 ⟨ab,?_⟩,jF⟩⟩
 .rw[S];simp[O]
 .rw[jF];simp[O]
def yN(t:aS)(f:gG):aS:=if h3 t=0 then lz t f else aS.mk [] []
def V3(t:aS)(f:gG):cE (yN t f):=by
 unfold yN;split
 .rename_i a;exact(ho.1 a).x7 f
 .exact ho.1 Xq
def Ws(t:aS)(f:gG):Bf t f=some (yN t f):=by
 unfold Bf yN;simp only[L1,aR];by_cases b:h3 t=0
 .have c:=ho.1 b;have:=c.jP;have:=c.nl
  simp only[b,ef,dk,bH,fE];refine(uZ (λr:bV=>!decide (r.aP∈f.bf)) id _ _ _ ?_ (by simp;omega)).trans ?_
  .intro d x a4 s _ a;simp only[jn,CO,aR,jU a];rfl
  refine(uZ (λl:bm=>!oo f l) id _ _ _ ?_ (by simp;omega)).trans ?_
  .intro d x a4 s _ a;simp only[jn,CO,Xp,aR,jU a,oo,id];cases decide (x.A∈f.bf)<;>cases decide (x.B∈f.bf)<;>cases mg f.Links x.A x.B<;>cases mg f.Links x.B x.A<;>rfl
  .simp[lz]
 .simp[b]
theorem aav(t:aS)(r:Int):x3 t r=some (decide (h3 t=0)&&hx t r):=by
 unfold x3;simp only[L1,ND,aR]
 grind
def tU(t:aS)(r:Int):bV×Bool:=if kO (λx:bV=>eB x.aP r) t.bf then(el t.bf (jC (λx:bV=>eB x.aP r) t.bf),true)else(bV.mk 0 false,false)
def GB(t:aS)(r:Int)(b:t.bf.length<=1000000):xE t r=some (tU t r):=by
 unfold xE tU;rw[JP t.bf r _ (λx=>eB x.aP r) b (λx=>MV x r)];simp only[aR];cases a:kO (λx:bV=>eB x.aP r) t.bf
 .rfl
 .have c:jC (λx:bV=>eB x.aP r) t.bf<t.bf.length:=by
   simp only[kO,b9,eY]at a;exact a.1
  simp only[dk,bH,rJ c,aR,fE]
def He(h:cE t)(r:Int):kO (λx:bV=>eB x.aP r) t.bf=hx t r:=by
 have:=NF (t:=t) (uP (h.ic.imp λh=>by simpa using h)) r;simpa [Il]using this
theorem vA(t:aS)(r:Int)(b:t.bf.length<=1000000):lM t r=some (decide (h3 t=0)&&hx t r):=by
 unfold lM;simp only[GB t r b,yE,aR];by_cases a:h3 t=0
 .simp only[a,ef,cm,hq,tU,He (ho.1 a)]
  grind
 .simp[a]
theorem Pw(h:cE t){x:bV}(d:x∈t.bf):tU t x.aP=(x,true):=by
 unfold tU;have j:hx t x.aP=true:=vk.2 ⟨x,d,rfl⟩;have c:=He h x.aP;rw[j]at c;rw[bx c];simp only[kO,b9,eY]at c;obtain⟨i,e⟩:=c;rw[oZ]at e;have k:=Hz i;have l:∀a∈t.bf,∀b∈t.bf,a.aP=b.aP->a=b:=by
  intro a g b f n;obtain⟨p,o,rfl⟩:=qD g;obtain⟨q,m,rfl⟩:=qD f;have:=tG.1 h.ic
  grind
 rw[l _ k _ d e]
def F6{σ β:Type}{B:Int->α->(σ->Option β)->σ->Option β}{K:σ->Option β}(p:α->Bool)(g:α->Option β)(b:∀j x a4 s,B j x a4 s=bif p x then g x else a4 s)(l:List α)(j:Nat)(s:σ):
  bC l j B K s=match l.find? p with|some x=>g x|none=>K s:=
 y5 (f:=λl s=>match l.find? p with|some x=>g x|none=>K s) (λs=>rfl) (λj x r s a4 a=>by
  rw[b,a,List.find?_cons];cases p x<;>rfl) l j s
theorem Rl(h:cE t){a b:bV}(d:a∈t.bf)(c:b∈t.bf)(f:a.aP=b.aP):a=b:=by
 obtain⟨i,g,rfl⟩:=qD d;obtain⟨j,e,rfl⟩:=qD c;have:=tG.1 h.ic
 grind
def NZ(h:cE t){a b:bm}(j:a∈t.Links)(i:b∈t.Links)(l:a.A=b.A)(k:a.B=b.B):a=b:=by
 obtain⟨d,g,rfl⟩:=qD j;obtain⟨e,f,rfl⟩:=qD i;have:=tG.1 h.uu;rcases Nat.lt_trichotomy d e with c|c|c
 .have:=this d e g f c;simp[ga]at this;omega
 .subst c;rfl
 .have:=this e d f g c;simp[ga]at this;omega
def aaw(h:cE t)(a:hx t r=false):tU t r=(bV.mk 0 false,false):=by
 unfold tU;rw[He h,a];rfl
def gf(l:bm)(a b:Int):Bool:=(decide (l.A=a)&&decide (l.B=b))||(decide (l.B=a)&&decide (l.A=b))
def jo(a b:Int)(l:bm):Int×Bool:=(bif decide (l.A=a)&&decide (l.B=b)then l.iA else l.iq,true)
def kD(t:aS)(a b:Int):Int×Bool:=match t.Links.find? (λl=>gf l a b)with|some l=>jo a b l|none=>(0,false)
def eO(t:aS)(a b:Int):Bool:=t.Links.any λl=>gf l a b
theorem Xr(t:aS)(a b:Int):Bu t a b=some (kD t a b):=by
 unfold Bu kD;refine(F6 (λl:bm=>gf l a b) (λl=>some (jo a b l)) (λc x a4 d=>?_) _ _ _).trans ?_
 .unfold gf jo
  grind
 .grind
def L3(t:aS)(a b:Int):(kD t a b).2=eO t a b:=by
 unfold kD eO;cases c:t.Links.find? (λl=>gf l a b)with
 |none=>symm;exact pS.2 λx d=>by simpa using wq.1 c x d
 |some x=>
  symm;exact List.any_eq_true.2 ⟨x,pP c,by simpa using r6 c⟩
variable {a b:Int}
def ms(h:cE t){l:bm}(d:l∈t.Links)(f:gf l a b=true):kD t a b=jo a b l:=by
 unfold kD;cases c:t.Links.find? (λl=>gf l a b)with
 |none=>exact absurd f (wq.1 c l d)
 |some x=>
  have e:=pP c;have g:=r6 c;have j:=h.lt _ d;have i:=h.lt _ e;simp[gf]at f g;rw[NZ h e d (by omega) (by omega)]
def aax(h:cE t)(v:bm):∀a b:Nat,a<=b->b<t.Links.length->cmpL (el t.Links a) v<=cmpL (el t.Links b) v:=by
 refine Jh (f:=λl:bm=>cmpL l v) (h.uu.imp λ{a b} k=>?_)
 have e:∀x c:Int,eB x c = -1\/eB x c=0\/eB x c=1:=λx c=>by
  unfold eB;split
  .exact .inl rfl
  .omega
 have:∀x c:bm,cmpL x c = -1\/cmpL x c=0\/cmpL x c=1:=λx c=>by
  have g:=e x.A c.A;have j:=e x.B c.B;simp only[cmpL,mw];generalize eB x.A c.A=m at *;generalize eB x.B c.B=p at *;by_cases d:m=0
  .omega
  .simp[d];omega
 have d:=@CN a v;have i:=@CN b v;have n:=@cmpL_eq a v;have o:=@cmpL_eq b v;have g:=this a v;have j:=this b v;simp[ga]at k d i;omega
theorem MX(t:aS)(a b:Int)(q:t.Links.length<=1000000):uH t a b=some (if h3 t=0 then kD t a b else(0,false)):=by
 unfold uH;simp only[yE,aR];by_cases e:h3 t=0
 .have d:=ho.1 e;simp only[e,ef,dk,bH,fE];generalize o:bm.mk (if b<a then b else a) (if b>a then b else a) 0 0 0=c;rw[abE t.Links c _ (λx=>cmpL x c) q (λx=>KN x c)];simp only[aR];have n:c.A=if b<a then b else a:=by rw[<-o]
  have m:c.B=if b>a then b else a:=by rw[<-o]
  cases g:kO (λx:bm=>cmpL x c) t.Links
  .simp only[js,cm];congr 1;unfold kD;cases k:t.Links.find? (λl=>gf l a b)with
   |none=>rfl
   |some x=>
    exfalso;have i:=pP k;have r:=r6 k;have w:=e
    have:=(Hd (f:=λx:bm=>cmpL x c) (aax d c)).2 ⟨x,i,by
     rw[cmpL_eq,n,m];have:=d.lt _ i;simp[gf]at r;split<;>split<;>omega⟩
    rw[g]at this;cases this
  .simp only[kO,b9,eY]at g;obtain⟨h,j⟩:=g;rw[cmpL_eq,n,m]at j;have p:=Hz h;simp only[dk,bH,rJ h,aR];have y:=d.lt _ p
   have v:gf (el t.Links (jC (λx:bm=>cmpL x c) t.Links)) a b=true:=by
    simp[gf];by_cases s:b<a<;>by_cases u:b>a<;>simp only[s,u,fE,h0]at j<;>omega
   rw[ms d p v];unfold jo
   grind
 .simp[e]
def ids(t:aS):bX:=t.bf.map (·.aP)
def C7(h:cE t):(ids t).Pairwise (·<·):=lq.2 h.ic
def mB:r∈ids t↔hx t r=true:=by rw[vk];simp[ids]
def iJ:eO t a b=true↔∃l∈t.Links,(l.A=a/\l.B=b)\/(l.B=a/\l.A=b):=by
 simp[eO,gf]
theorem sU(h:eO t a b=true):eO t b a=true:=by
 rw[iJ]at h ⊢
 grind
def HC(d:cE t)(h:eO t a b=true):a≠b:=by
 rw[iJ]at h;obtain⟨l,c,h⟩:=h;have:=d.lt l c;omega
theorem o1(e:cE t)(h:eO t a b=true):b∈ids t:=by
 rw[iJ]at h;obtain⟨l,d,h⟩:=h;have:=e.ends l d;rcases h with⟨f,c⟩|⟨f,c⟩<;>rw[mB,<-c]
 all_goals grind
def hH(t:aS)(r:Int):bX:=(ids t).filter λx=>eO t r x
def u7(a:cE t)(r:Int):(hH t r).Pairwise (·<·):=(C7 a).sublist pN
def j6(b:cE t):x∈hH t r↔eO t r x=true:=by
 unfold hH;rw[gz]
 exact⟨λa=>a.2,λa=>⟨o1 b a,a⟩⟩
def YZ(a:cE t)(r:Int):BJ t r=some (hH t r):=by
 unfold BJ;have:=a.jP;refine(uZ (λx:bV=>eO t r x.aP) (·.aP) _ _ _ ?_ (by simp;omega)).trans ?_
 .intro c x a4 d _ b;simp only[jn,Xr,L3,aR,jU b]
 .simp only[lC,hH,ids];rw[List.filter_map];rfl
def n3(r:Int)(l:bm):ir:=if r=l.A then some l.B else if r=l.B then some l.A else none
def F7{α a β:Type}{B:Int->α->(List a->Option β)->List a->Option β}{K:List a->Option β}(f:α->Option a):
  ∀(l:List α) (j:Nat) (s:List a),(∀(j:Nat) x a4 s,x∈l->s.length<1000000->B j x a4 s=match f x with|some y=>a4 (s++[y])|none=>a4 s)->l.length+s.length<=1000000->bC l j B K s=K (s++l.filterMap f)
 |[],j,s,_,_=>by simp[bC]
 |x::r,j,s,c,h=>by
  simp only[fW]at h;simp only[bC];rw[c j x _ s (by simp) (by omega)];have d:∀(j:Nat) y a4 s,y∈r->s.length<1000000->B j y a4 s=match f y with|some y=>a4 (s++[y])|none=>a4 s:=λj y a4 s e=>c j y a4 s (by simp[e])
  cases b:f x with
  |none=>simp only;rw[F7 f r (j+1) s d (by omega),List.filterMap_cons_none b]
  |some y=>simp only;rw[F7 f r (j+1) (s++[y]) d (by simp;omega),List.filterMap_cons_some b];simp
def KO(h:cE t)(r:Int):(t.Links.filterMap (n3 r)).Nodup:=by
 have p:∀l:mJ,(∀x∈l,x.A<x.B)->l.Pairwise (λa b=>ga a b=true)->(l.filterMap (n3 r)).Nodup:=by
  intro l;induction l with
  |nil=>intros;simp
  |cons x l d=>
   intro g f;rw[fI]at f;have d:=d (λj m=>g j (by simp[m])) f.2;cases c:n3 r x with
   |none=>rw[List.filterMap_cons_none c];exact d
   |some j=>
    rw[List.filterMap_cons_some c,jX];refine⟨λo=>?_,d⟩;obtain⟨k,i,e⟩:=iB.1 o;have n:=f.1 k i;have q:=g x (by simp);have s:=g k (by simp[i]);unfold n3 at c e;simp[ga]at n;split at c<;>split at e<;>(try split at c)<;>(try split at e)<;>simp at c e<;>omega
 exact p _ h.lt h.uu
theorem Xs(c:cE t):x∈t.Links.filterMap (n3 r)↔eO t r x=true:=by
 rw[iB,iJ];constructor
 .rintro⟨l,a,b⟩;unfold n3 at b
  grind
 .rintro⟨l,a,b⟩;refine⟨l,a,?_⟩;have:=c.lt l a;unfold n3
  grind
def MY(a:cE t)(r:Int):w3 t r=some (hH t r):=by
 unfold w3;have:=a.nl;refine(F7 (n3 r) _ _ _ ?_ (by simp;omega)).trans ?_
 .intro f x a4 g _ d;simp only[jn,jU d,aR,n3];by_cases b:r=x.A
  .simp[b]
  .by_cases c:r=x.B<;>simp[b,c]
   simp[<-c,b]
 .have e:(t.Links.filterMap (n3 r)).length<=60:=gP (List.length_filterMap_le _ _) (by omega);simp only[lC];rw[jT (by simp;omega)];congr 1;refine yD (CG (KO a r)) (u7 a r) λx=>?_;rw[Cn,Xs a,j6 a]
def V4(t:aS)(r:Int):AG t r=some (if h3 t=0 then hH t r else[]):=by
 unfold AG;simp only[yE,aR];by_cases a:h3 t=0
 .simp[a,MY (ho.1 a),aR]
 .simp[a]
end
section
variable {α β σ:Type}{L:List α}{G:Option β->Prop}{B:Int->α->(σ->Option β)->σ->Option β}{K:σ->Option β}
def lX(I:List α->σ->Prop)
  (f:∀(p:List α) x r s a4,L=p++x::r->I p s->(∀a,I (p++[x]) a->G (a4 a))->G (B (p.length:Int) x a4 s)) (s:σ) (h:I [] s) (g:∀s,I L s->G (K s)):G (bC L 0 B K s):=by
 have i:∀(c p:List α) (s:σ),L=p++c->I p s->G (bC c p.length B K s):=by
  intro c;induction c with
  |nil=>intro p s b h;exact g s (by rw[b,l5];exact h)
  |cons x r d=>
   intro p s b h;refine f p x r s _ b h λa e=>?_;have:=d (p++[x]) a (by simp[b]) e
   rwa [dF]at this
 exact i L [] s rfl h
def O3{σ β:Type}{B:Int->(σ->Option β)->σ->Option β}{K:Int->σ->Option β}{G:Option β->Prop}(I:Int->σ->Prop)(a hi:Int)
  (d:∀(i:Int) s a4,a<=i->i<hi->I i s->(∀b,I (i+1) b->G (a4 b))->G (B i a4 s)) (e:∀i s,a<=i->(a<=hi->i=hi)->I i s->G (K i s)):∀(n:Nat) (i:Int) (s:σ),n=(hi-i).toNat->a<=i->(a<=hi->i<=hi)->I i s->G (iD n i B K s)
 |0,i,s,j,h1,c,h=>e i s h1 (λf=>by have:=c f;omega) h
 |n+1,i,s,j,h1,c,h=>d i s _ h1 (by omega) h λb g=>O3 I a hi d e n (i+1) b (by omega) (by omega) (λ_=>by omega) g
def DE{F:(σ->Option β)->σ->Option β}(I:σ->Prop)(μ:σ->Nat){s:σ}(h:I s)(c:μ s<1099511627776)
  (f:∀s a4,I s->(∀a,I a->μ a<μ s->G (a4 a))->G (F a4 s)):G (gu F s):=by
 have g:∀(b:Nat) (s:σ),I s->μ s<b->G (iter F b s):=by
  intro b;induction b with
  |zero=>intro s _ h;omega
  |succ b d=>intro s h c;exact f s _ h λa e i=>d a e (by omega)
 exact g fuel s h c
def aFg{Q:β->Prop}(I:List α->σ->Prop)
  (f:∀(p:List α) x r s a4,L=p++x::r->I p s->(∀a,I (p++[x]) a->Ok (a4 a) Q)->Ok (B (p.length:Int) x a4 s) Q) (s:σ) (h:I [] s) (g:∀s,I L s->Ok (K s) Q):Ok (Go.Proofs.YtemmkpdjmgafoaaGreatDoor.bC L 0 B K s) Q:=by
 have i:∀(c p:List α) (s:σ),L=p++c->I p s->Ok (Go.Proofs.YtemmkpdjmgafoaaGreatDoor.bC c p.length B K s) Q:=by
  intro c;induction c with
  |nil=>intro p s b h;exact g s (by rw[b,l5];exact h)
  |cons x r d=>
   intro p s b h;refine f p x r s _ b h λa e=>?_;have:=d (p++[x]) a (by simp[b]) e
   rwa [dF]at this
 exact i L [] s rfl h
def nU{a b:bX}(h:a.Nodup)(d:∀x∈a,x∈b):a.length<=b.length:=by
 induction a generalizing b with
 |nil=>simp
 |cons x a f=>
  rw[jX]at h;have c:=d x (by simp);have:=f (b:=b.erase x) h.2 λi e=>(List.mem_erase_of_ne (λg=>h.1 (by rw[<-g];exact e))).2 (d i (by simp[e]));rw[List.length_erase_of_mem c]at this;have:=List.length_pos_of_mem c;simp only[fW];omega
inductive ds(t:aS)(c:List Int):Int->Int->Prop
 |refl {a:Int} (h:a∉c):ds t c a a
 |step {a b d:Int} (h:ds t c a b) (aG:eO t b d=true) (hd:d∉c):ds t c a d
variable {a b:Int}{t:aS}
def ds.trans{c:bX}{d:Int}(S:ds t c a b)(O:ds t c b d):ds t c a d:=by
 induction O with
 |refl _=>exact S
 |step _ H hd Q=>exact .step Q H hd
def ds.left{c:bX}(h:ds t c a b):a∉c:=by
 induction h with
 |refl h=>exact h
 |step _ _ _ H=>exact H
def ds.right{c:bX}(h:ds t c a b):b∉c:=by
 cases h with
 |refl h=>exact h
 |step _ _ hd=>exact hd
def ds.symm{c:bX}(h:ds t c a b):ds t c b a:=by
 induction h with
 |refl h=>exact .refl h
 |step h H hd O=>exact(ds.step (.refl hd) (sU H) h.right).trans O
def ds.ids{t:aS}(O:cE t){c:bX}{a b:Int}(h:ds t c a b)(H:a∈ids t):b∈ids t:=by
 cases h with
 |refl h=>exact H
 |step _ hd _=>exact o1 O hd
def ds.stays{c:bX}{S:Int->Prop}(h:ds t c a b)(H:S a)(O:∀x,S x->∀y,eO t x y=true->S y\/y∈c):S b:=by
 induction h with
 |refl _=>exact H
 |step _ hd X Q=>exact(O _ Q _ hd).resolve_right X
open Classical in
noncomputable def rS(t:aS)(c:bX)(r:Int):bX:=(ids t).filter λa=>decide (ds t c r a)
variable {r:Int}
def F0(b:cE t){c:bX}{x:Int}(d:r∈ids t):x∈rS t c r↔ds t c r x:=by
 unfold rS;rw[gz];simp only[eY];exact⟨λa=>a.2,λa=>⟨a.ids b d,a⟩⟩
def MZ(a:cE t)(c:bX)(r:Int):(rS t c r).Pairwise (·<·):=(C7 a).sublist pN
def sZ(a:cE t):(ids t).length<=24:=by have:=a.jP;simpa [ids]using this
def Rm(h:cE t)(c:bX):∀(n:Nat) (r:Int) (out:bX),out.Nodup->(∀x∈out,x∈ids t)->r∈ids t->(ids t).length+1<=n+out.length->
  Ok (xb n r out c t.bf t.Links) (λo=>∃e,o=out++e/\o.Nodup/\(∀x∈e,ds t c r x)/\(r∈o\/r∈c)/\(∀x∈e,∀y,eO t x y=true->y∈o\/y∈c)):=by
 intro n;induction n with
 |zero=>intro r out i p _ F;have:=nU i p;omega
 |succ n G=>
  intro r out i p B F;unfold xb;simp only[NG,aR,jn];by_cases m:r∈out
  .simp only[m,ef,cm];exact Ok.s ⟨[],by simp,i,by simp,.inl m,by simp⟩
  .simp only[m,jQ,bH];by_cases l:r∈c
   .simp only[l,ef,cm];exact Ok.s ⟨[],by simp,i,by simp,by simp[l],by simp⟩
   .simp only[l,jQ,bH];have P:=nU i p;have:=sZ h;rw[g9 (by simp;omega),aR,show(aS.mk t.bf t.Links)=t from rfl,MY h,aR];refine aFg (λD f=>∃e,f=(out++[r])++e/\f.Nodup/\(∀x∈e,ds t c r x)/\(∀x∈D,x∈f\/x∈c)/\(∀x∈e,∀y,eO t x y=true->y∈f\/y∈c)) ?_ _ ?_ ?_
    .rintro D s Q f a4 H ⟨e,j,z,q,v,w⟩ I;have C:eO t r s=true:=(j6 h).1 (by rw[H];simp);have J:∀x∈f,x∈ids t:=by
      intro x d;rw[j]at d;simp only[dG,c5,hr,hG]at d;rcases d with(d|rfl)|d
      .exact p x d
      .exact B
      .exact(q x d).ids h B
     refine Ok.af (G s f z J (o1 h C) (by rw[j];simp;omega)) ?_;rintro o ⟨M,u,K,L,O,N⟩;refine I _ ⟨e++M,by rw[u,j];simp,K,?_,?_,?_⟩
     .intro x d;rcases dG.1 d with d|d
      .exact q x d
      .have:=L x d;exact(ds.step (.refl l) C this.left).trans this
     .intro x d;rcases dG.1 d with d|d
      .rcases v x d with g|g
       .exact .inl (by rw[u];simp[g])
       .exact .inr g
      .simp only[c5,hr,hG]at d;subst d;exact O
     .intro x d y k;rcases dG.1 d with d|d
      .rcases w x d y k with g|g
       .exact .inl (by rw[u];simp[g])
       .exact .inr g
      .exact N x d y k
    .refine⟨[],by simp,?_,by simp,by simp,by simp⟩;rw[uf];refine⟨i,by simp,?_⟩;intro a E b A;simp only[c5,hr,hG]at A;subst A;exact λs=>m (s▸E)
    .rintro f ⟨e,j,z,q,v,w⟩;refine Ok.s ⟨r::e,by rw[j];simp,z,?_,.inl (by rw[j];simp),?_⟩
     .intro x d;rcases c5.1 d with rfl|d
      .exact .refl l
      .exact q x d
     .intro x d y k;rcases c5.1 d with rfl|d
      .exact v y ((j6 h).2 k)
      .exact w x d y k
def Wt(a:cE t)(d:r∈ids t)(c:bX):AL t r c=some (rS t c r):=by
 have:=sZ a;obtain⟨l,k,m,e,g,f,aB,j⟩:=Rm a c fuel r [] nx (by simp) d (by unfold fuel;simp;omega);unfold AL;rw[k,aR];rw[lC]at e;subst e;have n:=nU g λb i=>(f b i).ids a d;rw[jT (by simp;omega)];congr 1;refine yD (CG g) (MZ a c r) λb=>?_;rw[Cn,F0 a d];refine⟨f b,λh=>?_⟩;have aB:=aB.resolve_right h.left;exact h.stays (S:=λb=>b∈l) aB j
def Rn{l:bX}{n:Int}(p:l.Pairwise (·<·))(R:l.length<=1000000):Ok (Bs l n) (λm=>m.Pairwise (·<·)/\∀x,x∈m↔x=n\/x∈l):=by
 unfold Bs;refine aFv (λa:Int=>(0<=a/\a<=l.length)/\∀x∈l.take a.toNat,x<n) (λa=>((l.length:Int)-a).toNat) ⟨⟨by omega,by omega⟩,by simp⟩ (by omega) ?_;rintro a a4 ⟨⟨A,W⟩,u⟩ D;have split:l.take a.toNat++l.drop a.toNat=l:=o6 _ _;refine aFj (λf:Bool=>(f=true->a<l.length/\∀x∈l.take (a+1).toNat,x<n)/\(f=false->∀x∈l.drop a.toNat,n<=x)) (λf i=>?_) λN y=>?_
 .refine Ok.cs (λc=>?_) λc=>?_
  .obtain⟨O,B⟩:=i.1 c;rw[fv (by omega) (by omega)];exact D _ ⟨⟨by omega,by omega⟩,B⟩ (by omega)
  .have K:=i.2 c;refine aFj (λf:Bool=>(f=true->n∈l)/\(f=false->∀x∈l.drop a.toNat,n<x)) (λf i=>?_) λP v=>?_
   .refine Ok.cs (λc=>Ok.s ⟨p,λx=>⟨.inr,?_⟩⟩) λc=>?_
    .rintro(rfl|b)
     .exact i.1 c
     .exact b
    .have I:=i.2 c;refine Ok.af (ze ⟨by omega,by omega,by omega⟩) λT L=>?_;refine Ok.af (qp (by simp;omega)) λS s=>?_;refine Ok.af (qp (by simp at s ⊢;omega)) λU w=>?_;refine Ok.af (ze ⟨by omega,by omega,by omega⟩) λV G=>?_;refine Ok.af (qp (by simp at s w ⊢;omega)) λJ H=>?_;have M:J=l.take a.toNat++n::l.drop a.toNat:=by
      rw[H.1,G.1,w.1,s.1,L.1];simp
     refine Ok.s ?_;rw[M];have z:=p;rw[<-split,mG]at z;obtain⟨E,F,C⟩:=z;refine⟨?_,λx=>?_⟩
     .rw[mG,fI];refine⟨E,⟨λt k=>I t k,F⟩,λx b t k=>?_⟩;rcases c5.1 k with rfl|k
      .exact u x b
      .exact C x b t k
     .have:x∈l↔x∈l.take a.toNat\/x∈l.drop a.toNat:=by rw[<-dG,split]
      rw[this];simp only[dG,c5]
      constructor
      .rintro(c|c|c)<;>simp[c]
      .rintro(c|c|c)<;>simp[c]
   .refine Ok.cs (λd=>?_) λd=>v _ ⟨by simp,λ_ x b=>?_⟩
    .have d:a<l.length:=by simpa using d
     refine Ok.af (n2 A d) λe q=>v _ ⟨λc=>?_,λc x b=>?_⟩
     .have:e=n:=by simpa using c
      rw[<-this];exact q.1
     .have Q:e≠n:=by simpa using c
      have g:l.drop a.toNat=e::l.drop (a.toNat+1):=by
       have h:a.toNat<l.length:=by omega
       rw[r3 h];have:=q.2;rw[jW h]at this;injection this with this
       rw[this]
      have r:=K e (by rw[g];simp);rw[g]at b;rcases c5.1 b with rfl|b
      .omega
      .have j:(l.drop a.toNat).Pairwise (·<·):=p.sublist (List.drop_sublist _ _);rw[g,fI]at j;have:=j.1 x b;omega
    .have d:(l.length:Int)<=a:=by simpa using d
     rw[zT (by omega)]at b;simp at b
 .refine Ok.cs (λd=>?_) λd=>y _ ⟨by simp,λ_ x b=>?_⟩
  .have d:a<l.length:=by simpa using d
   have h:a.toNat<l.length:=by omega
   refine Ok.af (n2 A d) λe q=>?_;have o:=q.2;rw[jW h]at o;injection o with o
   have g:l.drop a.toNat=e::l.drop (a.toNat+1):=by rw[r3 h,o]
   refine y _ ⟨λc=>⟨d,λx b=>?_⟩,λc x b=>?_⟩
   .have r:e<n:=by simpa using c
    rw[show(a+1).toNat=a.toNat+1 by omega,HP h,o]at b;rcases dG.1 b with b|b
    .exact u x b
    .simp at b;omega
   .have r:n<=e:=by simpa using c
    rw[g]at b;rcases c5.1 b with rfl|b
    .exact r
    .have j:(l.drop a.toNat).Pairwise (·<·):=p.sublist (List.drop_sublist _ _);rw[g,fI]at j;have:=j.1 x b;omega
  .have d:(l.length:Int)<=a:=by simpa using d
   rw[zT (by omega)]at b;simp at b
def Xd(h:cE t)(I:r∈ids t):Bh t r=some (rS t [] r):=by
 refine aFo ?_;have T:=sZ h;unfold Bh
 refine aFv (λg:bX×Int=>(0<=g.2/\g.2<=g.1.length)/\g.1.Nodup/\(∀c∈g.1,ds t [] r c)/\r∈g.1/\(∀c∈g.1.take g.2.toNat,∀f,eO t c f=true->f∈g.1))
  (λg=>((25:Int)-g.2).toNat) ⟨⟨by simp,by simp⟩,by simp,by intro c e;simp at e;subst e;exact .refl (by simp),by simp,by simp⟩ (by simp only;omega) ?_
 rintro⟨u,s⟩ a4 ⟨⟨J,X⟩,G,m,aB,A⟩ P;simp only at J X G m aB A;have x:∀{l:bX},(∀c∈l,ds t [] r c)->l.Nodup->l.length<=24:=λ{l} E V=>gP (nU V λc e=>(E c e).ids h I) T;have aa:=x m G;refine Ok.cs (λk=>?_) λk=>?_
 .have k:s<u.length:=by simpa using k
  have L:s.toNat<u.length:=by omega
  refine Ok.af (n2 J k) λD K=>?_;have B:=K.2;rw[jW L]at B;injection B with B
  rw[YZ h,aR];refine aFg (λv j=>(∃q,j=u++q)/\j.Nodup/\(∀c∈j,ds t [] r c)/\∀f∈v,f∈j) ?_ _ ⟨⟨[],by simp⟩,G,m,by simp⟩ ?_
  .rintro v c Y j Q F ⟨⟨q,i⟩,n,o,w⟩ y;have R:eO t D c=true:=(j6 h).1 (by rw[F];simp);have W:ds t [] r c:=.step (m D K.1) R (by simp);have fK:=x o n;simp only[jn,CO,aR];by_cases e:c∈j
   .simp only[e,ef,dk,bH];refine y _ ⟨⟨q,i⟩,n,o,λf d=>?_⟩;rcases dG.1 d with d|d
    .exact w f d
    .simp at d;subst d;exact e
   .simp only[e,jQ,js,cm];rw[g9 (by simp;omega),aR];refine y _ ⟨⟨q++[c],by rw[i];simp⟩,?_,λf d=>?_,λf d=>?_⟩
    .rw[uf];refine⟨n,by simp,λa M b H=>?_⟩;simp at H;subst H;exact λD=>e (D▸M)
    .rcases dG.1 d with d|d
     .exact o f d
     .simp at d;subst d;exact W
    .rcases dG.1 d with d|d
     .exact ud _ (w f d)
     .exact List.mem_append_right _ d
  .rintro j ⟨⟨q,i⟩,n,o,w⟩;have fK:=x o n;rw[fv (by omega) (by omega)];refine P _ ⟨⟨by simp only;omega,by simp only[i,dF];omega⟩,n,o,by rw[i];simp[aB],?_⟩ (by simp only;omega);intro c e f d;simp only at e ⊢;rw[show(s+1).toNat=s.toNat+1 by omega,i,zq (by omega),HP L,B]at e;rcases dG.1 e with e|e
   .rw[i];exact ud _ (A c e f d)
   .simp at e;subst e
    exact w f ((j6 h).2 d)
 .have k:(u.length:Int)<=s:=by simpa using k
  rw[qt (by omega)]at A;refine aFg (λv p=>p.Pairwise (·<·)/\∀c,c∈p↔c∈v) ?_ _ ⟨by simp,by simp⟩ ?_
  .rintro v c Y p Q F ⟨z,C⟩ y;have U:p.Nodup:=z.imp (λE=>by omega);have:p.length<=24:=x (λf d=>m f (by rw[F];exact ud _ ((C f).1 d))) U;refine Ok.af (Rn z (by omega)) λZ ⟨N,O⟩=>y _ ⟨N,λf=>?_⟩;rw[O,C];simp[or_comm]
  .rintro p ⟨z,C⟩;refine Ok.s (yD z (MZ h [] r) λc=>?_);rw[C,F0 h I];exact⟨m c,λE=>E.stays (S:=λc=>c∈u) aB λc e f d=>.inl (A c e f d)⟩
end
section
open Classical in
noncomputable def je(t:aS)(a b:Int):Bool:=decide (h3 t=0)&&hx t a&&hx t b&&decide (ds t [] a b)
def M0{t:aS}(e:cE t){c:bX}{a b:Int}(d:a∈ids t):decide (b∈rS t c a)=@decide (ds t c a b) (Classical.propDecidable _):=by
 rw[ns];simp[F0 e d]
def V7(t:aS)(a b:Int):AU t a b=some (je t a b):=by
 unfold AU je;simp only[aav,aR];by_cases c:h3 t=0
 .have e:=ho.1 c;simp only[c,ef,hq];cases d:hx t a
  .rfl
  .cases f:hx t b
   .rfl
   .simp only[cm,Xd e (mB.2 d),aR,CO,M0 e (mB.2 d),hq]
 .simp[c]
def V8(t:aS)(a b:Int)(f:t.bf.length<=1000000):w6 t a b=some (je t a b):=by
 unfold w6 je;simp only[vA _ _ f,aR];by_cases c:h3 t=0
 .have e:=ho.1 c;simp only[c,ef,hq];cases d:hx t a
  .rfl
  .cases g:hx t b
   .rfl
   .simp only[cm,Wt e (mB.2 d),aR,NG,M0 e (mB.2 d),hq]
 .simp[c]
def ih{α:Type}(l:List (Int×α))(n m:Int)(b:α):aO (bW l n b) m=if m=n then some b else aO l m:=by
 induction l with
 |nil=>
  simp only[bW,aO,List.find?];by_cases d:n=m
  .simp[d]
  .simp[d,et d]
 |cons p r c=>
  simp only[bW];by_cases e:p.1=n
  .rw[bx e];simp only[aO,List.find?]at c ⊢;by_cases a:n=m
   .simp[a]
   .have:p.1≠m:=by omega
    simp[a,this,et a]
  .rw[bw e];simp only[aO,List.find?]at c ⊢;by_cases a:p.1=m
   .have:m≠n:=by omega
    simp[a,this]
   .simp[a];exact c
def Y0{α:Type}{l:List (Int×α)}{n:Int}{b:α}(h:aO l n=none):(bW l n b).length=l.length+1:=by
 induction l with
 |nil=>rfl
 |cons p r c=>
  simp only[aO,List.find?]at h;by_cases a:p.1=n
  .simp[a]at h
  .simp only[bW,bw a,fW];rw[c (by simpa [aO,a]using h)]
end
end
end Go.Proofs.YtemmkpdjmgafoaaGreatDoor
