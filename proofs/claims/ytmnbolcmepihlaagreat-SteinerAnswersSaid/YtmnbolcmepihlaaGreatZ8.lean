/- A part of the proof; the last text says of what. No condition but those that stand in each. -/
import Derived.Test.YtmnbolcmepihlaaGreatZ7
import Derived.Test.YtmnbolcmepihlaaGreatZ5
namespace Go.Proofs.YtmnbolcmepihlaaGreat
section
open Go Go.Proofs.Tryz
set_option maxRecDepth 100000
set_option linter.all false
def Rw{t:bH}{p:aK}{c:b0}{g:bH}{f:mR}{root:Int}{r:Bool}(a:vV t p c g f root=some r):bY prog 10 [] [aD af t,.agg (aZ p),.agg (c8 c),aD af g,aD bF f,u root] (.bool r):=by
 refine bT func10 rfl rfl ?_;unfold vV at a;refine aG [(0,.al 91),(1,.al 17)] [(0,aD af t),(3,aD af g),(4,aD bF f),(5,u root),(7,.ptr 91 0),(8,.ptr 17 0)] [(91,.cells 28 (aZ p)),(17,.cells 36 (c8 c))]<|A.seq ?_
 obtain⟨bi,bs,a⟩:=dx a;refine A.J (J:=bi) (r:=r) (λV=>[(0,aD af t),(3,aD af g),(4,aD bF f),(5,u root),(7,.ptr 91 0),(8,.ptr 17 0),(63,.bool V)]) (λV=>[(91,.cells 28 (aZ p)),(17,.cells 36 (c8 c))]) ?_ ?_
 .obtain⟨dp,R,a⟩:=aB a;rcases aV a with⟨G,a⟩|⟨G,a⟩
  .exact bn [(1,a1 (vS R) u9),(3,ai (be G))] [] [(63,.bool true)]<|aX true a
  rcases aV a with⟨N,a⟩|⟨N,a⟩
  .exact bn [(1,a1 (vS R) u9),(3,ai (be G)),(6,ai (bu bl c.Links)),(9,ai (be N))] [] [(63,.bool true)]<|aX true a
  rcases aV a with⟨T,a⟩|⟨T,a⟩
  .exact bn [(1,a1 (vS R) u9),(3,ai (be G)),(6,ai (bu bl c.Links)),(9,ai (be N)),(11,ai (bu af g)),(14,ai (be T))] [] [(63,.bool true)]<|aX true a
  obtain⟨aq,aR,a⟩:=aB a;exact bn [(1,a1 (vS R) u9),(3,ai (be G)),(6,ai (bu bl c.Links)),(9,ai (be N)),(11,ai (bu af g)),(14,ai (be T)),(16,a1 (HP aR) Qn)] [] [(63,.bool (!aq))]<|aX (!aq) a
 rintro V a;rw[bs]at a;rcases aV a with⟨W,a⟩|⟨W,a⟩
 .refine aT W ?_;obtain⟨aW,a3,a⟩:=aB a;refine aG [(0,a1 (Hi a3) Gq)] [(12,.bool aW)] [] ?_;cases a;exact A.ret bk
 refine aS W<|A.skip ?_
 obtain⟨bg,aU,a⟩:=aB a;refine bD [(1,cS [1] (RU aU) Qf)] [0,63] [(13,.ptr 1 0)] [] [(1,.cells 103 (dj bg))] ?_;obtain⟨b,a0,a⟩:=aB a;refine bD [(1,cS [] (av6 (r':=.agg (aZ b.1)) (σ3:=[(1,.cells 103 (dj b.2))]) [205] (HI a0) (by kernel_rfl) (by kernel_rfl)) Qg),(2,.al 24)] [] [(14,.ptr 24 0)] [1] [(1,.cells 103 (dj b.2)),(24,.cells 28 (aZ b.1))] ?_;obtain⟨e,bj,a⟩:=aB a;refine bD [(2,cS [] (HX bj) Qo)] [] [(15,u e.1)] [1] [(1,.cells 103 (dj e.2))] ?_;obtain⟨m,ba,a⟩:=aB a;refine bD [(2,cS [] (Ie ba) Qh)] [] [(16,aD af m.1)] [1] [(1,.cells 103 (dj m.2))]<|A.seq ?_
 obtain⟨d,bP,a⟩:=aB a;refine bD [(4,cS [] (RJ bP) Qp),(6,ai (bu iA ([p,b.1,d.1]:oW)))] [7] [(82,u 0),(80,.aL true (ag iA ([p,b.1,d.1]:oW))),(81,u (([p,b.1,d.1]:oW).length:Int))] [91,1] [(1,.cells 103 (dj d.2))]<|A.block<|auX 80 rfl λa9=>?_
 obtain⟨a6,a7,a4,a5,a⟩:=cZ a;refine auV (l:=([p,b.1,d.1]:oW)) (cD:=0) (B:=a6) (K:=a7) a (λh=>λ(O,M)=>[(3,aD af g),(4,aD bF f),(5,u root),(8,.ptr 17 0),(13,.ptr 1 0),(14,.ptr 24 0),(15,u e.1),(16,aD af m.1),(80,.aL true (ag iA ([p,b.1,d.1]:oW))),(81,u (([p,b.1,d.1]:oW).length:Int)),(82,u h)]) (λh=>λ(O,M)=>[(17,.cells 36 (c8 c)),(1,.c 103 [aD af O,u M]),(24,.cells 28 (aZ b.1))]) ?_ ?_ ?_
 .exact cq
 .rintro h o dn ⟨O,M⟩ a8 S a;rw[a4]at a;refine ak [] [] [(83,.d ((h:Int)<(([p,b.1,d.1]:oW).length:Int)))]<|A.seq<|aT (cU S)<|A.skip<|A.seq<|A.block<|bD [(0,bh (ix iA (cf S))),(2,.al 27)] [83] [(18,.ptr 27 0)] [] [(27,.cells 28 (aZ o))]<|A.seq ?_
  obtain⟨n,bV,a⟩:=aB a;refine bD [(4,cS [] (Ig bV) Qq),(8,ai (bu mu ([c,n.1,(b0.mk e.1 [])]:List b0)))] [] [(95,u 0),(93,.aL true (ag mu ([c,n.1,(b0.mk e.1 [])]:List b0))),(94,u (([c,n.1,(b0.mk e.1 [])]:List b0).length:Int))] [1] [(1,.cells 103 (dj n.2))]<|A.block<|auX 93 rfl λbf=>?_
  obtain⟨bA,bW,bE,bJ,a⟩:=cZ a;refine auV (l:=([c,n.1,(b0.mk e.1 [])]:List b0)) (cD:=0) (B:=bA) (K:=bW) a (λw=>λ()=>[(3,aD af g),(4,aD bF f),(5,u root),(8,.ptr 17 0),(13,.ptr 1 0),(14,.ptr 24 0),(15,u e.1),(16,aD af m.1),(18,.ptr 27 0),(80,.aL true (ag iA ([p,b.1,d.1]:oW))),(81,u (([p,b.1,d.1]:oW).length:Int)),(82,u h),(93,.aL true (ag mu ([c,n.1,(b0.mk e.1 [])]:List b0))),(94,u (([c,n.1,(b0.mk e.1 [])]:List b0).length:Int)),(95,u w)]) (λw=>λ()=>[(17,.cells 36 (c8 c)),(1,.cells 103 (dj n.2)),(24,.cells 28 (aZ b.1)),(27,.cells 28 (aZ o))]) ?_ ?_ ?_
  .exact cq
  .rintro w dh dq ⟨⟩ b4 U a;rw[bE]at a;refine ak [] [] [(96,.d ((w:Int)<(([c,n.1,(b0.mk e.1 [])]:List b0).length:Int)))]<|A.seq<|aT (cU U)<|A.skip<|A.seq<|A.block<|bD [(0,bh (ix mu (cf U))),(2,.al 151)] [96] [(20,.ptr 151 0)] [] [(151,.cells 36 (c8 dh))] ?_
   obtain⟨aC,ca,a⟩:=aB a;refine ak [(2,a1 (HK ca) Qj)] [] [(21,u aC.1),(22,u aC.2)] ?_;obtain⟨aA,ce,a⟩:=aB a;refine ak [(2,a1 (HT ce) Qk)] [] [(23,u aA.1),(24,u aA.2)] ?_;obtain⟨bc,bv,a⟩:=dx a;refine A.J (J:=bc) (r:=r) (λZ=>[(3,aD af g),(4,aD bF f),(5,u root),(8,.ptr 17 0),(13,.ptr 1 0),(14,.ptr 24 0),(15,u e.1),(16,aD af m.1),(18,.ptr 27 0),(80,.aL true (ag iA ([p,b.1,d.1]:oW))),(81,u (([p,b.1,d.1]:oW).length:Int)),(82,u h),(93,.aL true (ag mu ([c,n.1,(b0.mk e.1 [])]:List b0))),(94,u (([c,n.1,(b0.mk e.1 [])]:List b0).length:Int)),(95,u w),(140,.bool Z)]) (λZ=>[(17,.cells 36 (c8 c)),(1,.cells 103 (dj n.2)),(24,.cells 28 (aZ b.1)),(27,.cells 28 (aZ o))]) ?_ ?_
   .rcases aV a with⟨H,a⟩|⟨H,a⟩
    .exact c6 [(3,ai (be H))] [20,21,22,23,24] [(140,.bool true)] [151] []<|aX true a
    rcases aV a with⟨P,a⟩|⟨P,a⟩
    .exact c6 [(3,ai (be H)),(8,ai (be P))] [20,21,22,23,24] [(140,.bool true)] [151] []<|aX true a
    obtain⟨dy,az,a⟩:=aB a;obtain⟨dw,aw,a⟩:=aB a;rcases aV a with⟨Y,a⟩|⟨Y,a⟩
    .exact c6 [(3,ai (be H)),(8,ai (be P)),(12,a1 (vU az) u6),(16,a1 (vX aw) u7),(19,ai (be Y))] [20,21,22,23,24] [(140,.bool true)] [151] []<|aX true a
    obtain⟨aE,cI,a⟩:=aB a;obtain⟨aF,cC,a⟩:=aB a;exact c6 [(3,ai (be H)),(8,ai (be P)),(12,a1 (vU az) u6),(16,a1 (vX aw) u7),(19,ai (be Y)),(23,a1 (vU cI) u6),(27,a1 (vX cC) u7)] [20,21,22,23,24] [(140,.bool (!decide (aE=aF)))] [151] []<|aX (!decide (aE=aF)) a
   rintro Z a;rw[bv]at a;rcases aV a with⟨X,a⟩|⟨X,a⟩
   .refine aT X<|aG [] [(12,.bool false)] [] ?_
    cases a;exact A.ret bk
   exact aS X<|A.skip<|bn [(0,ai (cK U bf))] [95,140] [(95,u ((w+1:Nat):Int))]<|aX () a
  rintro w ⟨⟩ b4 b1 a;rw[bJ]at a;refine ak [] [] [(96,.d ((w:Int)<(([c,n.1,(b0.mk e.1 [])]:List b0).length:Int)))]<|A.seq<|aS (cT b1)<|A.exit<|ak [] [93,94,95,96] [(25,u 0)]<|A.block ?_
  obtain⟨ci,cj,cn,cp,a⟩:=kV a;refine avj (hi:=(2:Int)) (B:=ci) (K:=cj) a rfl (λk=>λ(v,s)=>[(3,aD af g),(4,aD bF f),(5,u root),(8,.ptr 17 0),(13,.ptr 1 0),(14,.ptr 24 0),(15,u e.1),(16,aD af m.1),(18,.ptr 27 0),(25,u k),(80,.aL true (ag iA ([p,b.1,d.1]:oW))),(81,u (([p,b.1,d.1]:oW).length:Int)),(82,u h)]) (λk=>λ(v,s)=>[(17,.cells 36 (c8 c)),(1,.c 103 [aD af v,u s]),(24,.cells 28 (aZ b.1)),(27,.cells 28 (aZ o))]) ?_ ?_ ?_
  .exact cq
  .rintro k dt ⟨v,s⟩ cb ar a;rw[cn]at a;refine A.seq<|ak [] [] [(143,.d ((k:Int)<(2:Int)))] ?_
   refine au3 rfl (decide_eq_true ar)<|A.skip<|A.seq<|A.block<|ak [] [143] [(26,u e.1),(27,aD af m.1)] ?_
   obtain⟨br,cd,a⟩:=dx a;refine A.J (J:=br) (r:=r) (λ(y,x)=>[(3,aD af g),(4,aD bF f),(5,u root),(8,.ptr 17 0),(13,.ptr 1 0),(14,.ptr 24 0),(15,u e.1),(16,aD af m.1),(18,.ptr 27 0),(25,u k),(26,u y),(27,aD af x),(80,.aL true (ag iA ([p,b.1,d.1]:oW))),(81,u (([p,b.1,d.1]:oW).length:Int)),(82,u h)]) (λ(y,x)=>[(17,.cells 36 (c8 c)),(1,.c 103 [aD af v,u s]),(24,.cells 28 (aZ b.1)),(27,.cells 28 (aZ o))]) ?_ ?_
   .refine ak [] [] [(149,.d ((k:Int)=(1:Int)))] ?_;rcases aV a with⟨aa,a⟩|⟨aa,a⟩
    .exact aT aa<|bn [] [26,27,149] [(26,u root),(27,aD af g)]<|Exists.intro (root,g) (And.intro a (dJ [] [27]))
    exact aS aa<|A.skip<|Exists.intro (e.1,m.1) (And.intro a (dJ [] [27]))
   rintro⟨y,x⟩ a;rw[cd]at a;obtain⟨F,cX,a⟩:=aB a;refine bD [(3,a1 (RD cX) Qr),(7,.al 126)] [] [(28,.ptr 126 0),(29,u F.2)] [] [(126,.cells 36 (c8 F.1))] ?_;obtain⟨C,cJ,a⟩:=aB a;refine bD [(3,a1 (RS cJ) Qs),(7,.al 135)] [] [(30,.ptr 135 0),(31,u C.2)] [] [(135,.cells 36 (c8 C.1))]<|avW aY 3 [4,5,6,7,8,9,10,11] [] [] (G1 a) Gp (by kernel_rfl) (by kernel_rfl) (by kernel_rfl) (by rintro _ _ ⟨rfl,_,_,rfl⟩;exact⟨rfl,rfl⟩) ?_
   rintro _ _ ⟨rfl,aI,a,rfl⟩
   try dsimp only at a
   refine⟨[(8,.al 10032)],[(3,aD af g),(4,aD bF f),(5,u root),(8,.ptr 17 0),(13,.ptr 1 0),(14,.ptr 24 0),(15,u e.1),(16,aD af m.1),(18,.ptr 27 0),(25,u k),(26,u y),(27,aD af x),(80,.aL true (ag iA ([p,b.1,d.1]:oW))),(81,u (([p,b.1,d.1]:oW).length:Int)),(82,u h),(28,.ptr 126 0),(29,u F.2),(30,.ptr 135 0),(31,u C.2),(34,u aI.2.2)],[(17,.cells 36 (c8 c)),(1,.c 103 [aD af v,u s]),(24,.cells 28 (aZ b.1)),(27,.cells 28 (aZ o)),(126,.cells 36 (c8 F.1)),(135,.cells 36 (c8 C.1))],by kernel_rfl,?_⟩;obtain⟨dd,cM,a⟩:=aB a;refine aG [(3,a1 (RO cM) Qi)] [(3,aD af g),(4,aD bF f),(5,u root),(8,.ptr 17 0),(13,.ptr 1 0),(14,.ptr 24 0),(15,u e.1),(16,aD af m.1),(18,.ptr 27 0),(25,u k),(26,u y),(27,aD af x),(80,.aL true (ag iA ([p,b.1,d.1]:oW))),(81,u (([p,b.1,d.1]:oW).length:Int)),(82,u h),(28,.ptr 126 0),(29,u F.2),(30,.ptr 135 0),(31,u C.2),(34,u aI.2.2),(36,u dd.2)] [(17,.cells 36 (c8 c)),(1,.c 103 [aD af v,u s]),(24,.cells 28 (aZ b.1)),(27,.cells 28 (aZ o)),(126,.cells 36 (c8 F.1)),(135,.cells 36 (c8 C.1))] ?_;obtain⟨i,cN,a⟩:=aB a;refine ak [(3,a1 (R7 cN) Ql)] [] [(37,aD bF i.1),(38,u i.2)]<|A.seq ?_
   obtain⟨cy,cV,a⟩:=dx a;refine A.J (J:=cy) (r:=r) (λan=>[(3,aD af g),(4,aD bF f),(5,u root),(8,.ptr 17 0),(13,.ptr 1 0),(14,.ptr 24 0),(15,u e.1),(16,aD af m.1),(18,.ptr 27 0),(25,u k),(26,u y),(27,aD af x),(37,aD bF i.1),(80,.aL true (ag iA ([p,b.1,d.1]:oW))),(81,u (([p,b.1,d.1]:oW).length:Int)),(82,u h),(206,.bool an)]) (λan=>[(17,.cells 36 (c8 c)),(1,.c 103 [aD af v,u s]),(24,.cells 28 (aZ b.1)),(27,.cells 28 (aZ o))]) ?_ ?_
   .rcases aV a with⟨I,a⟩|⟨I,a⟩
    .exact c6 [(3,ai (be I))] [28,29,30,31,34,36,38] [(206,.bool true)] [126,135] []<|aX true a
    rcases aV a with⟨Q,a⟩|⟨Q,a⟩
    .exact c6 [(3,ai (be I)),(8,ai (be Q))] [28,29,30,31,34,36,38] [(206,.bool true)] [126,135] []<|aX true a
    obtain⟨dA,ax,a⟩:=aB a;rcases aV a with⟨ae,a⟩|⟨ae,a⟩
    .exact c6 [(3,ai (be I)),(8,ai (be Q)),(11,a1 (G5 ax) Gr),(14,ai (be ae))] [28,29,30,31,34,36,38] [(206,.bool true)] [126,135] []<|aX true a
    exact c6 [(3,ai (be I)),(8,ai (be Q)),(11,a1 (G5 ax) Gr),(14,ai (be ae))] [28,29,30,31,34,36,38] [(206,.bool (!decide (i.2=C.2)))] [126,135] []<|aX (!decide (i.2=C.2)) a
   rintro an a;rw[cV]at a;rcases aV a with⟨am,a⟩|⟨am,a⟩
   .refine aT am<|aG [] [(12,.bool false)] [] ?_
    cases a;exact A.ret bk
   refine aS am<|A.skip ?_
   obtain⟨j,cG,a⟩:=aB a;refine bD [(4,cS [] (HV cG) Qt),(6,ai (bu (eF bF) ([f,i.1,j.1]:q6)))] [37,206] [(212,.aL true (ag (eF bF) ([f,i.1,j.1]:q6))),(213,u (([f,i.1,j.1]:q6).length:Int)),(214,u 0)] [1] [(1,.cells 103 (dj j.2))]<|A.block<|auX 212 rfl λdb=>?_
   obtain⟨c0,c3,c7,da,a⟩:=cZ a;refine auV (l:=([f,i.1,j.1]:q6)) (cD:=0) (B:=c0) (K:=c3) a (λz=>λ()=>[(3,aD af g),(4,aD bF f),(5,u root),(8,.ptr 17 0),(13,.ptr 1 0),(14,.ptr 24 0),(15,u e.1),(16,aD af m.1),(18,.ptr 27 0),(25,u k),(26,u y),(27,aD af x),(80,.aL true (ag iA ([p,b.1,d.1]:oW))),(81,u (([p,b.1,d.1]:oW).length:Int)),(82,u h),(212,.aL true (ag (eF bF) ([f,i.1,j.1]:q6))),(213,u (([f,i.1,j.1]:q6).length:Int)),(214,u z)]) (λz=>λ()=>[(17,.cells 36 (c8 c)),(1,.cells 103 (dj j.2)),(24,.cells 28 (aZ b.1)),(27,.cells 28 (aZ o))]) ?_ ?_ ?_
   .exact cq
   .rintro z bx dv ⟨⟩ cY ab a;rw[c7]at a;refine ak [] [] [(215,.d ((z:Int)<(([f,i.1,j.1]:q6).length:Int)))]<|A.seq<|aT (cU ab)<|A.skip<|A.seq<|A.block<|ak [(0,bh (ix (eF bF) (cf ab)))] [215] [(40,aD bF bx)] ?_
    obtain⟨D,cP,a⟩:=aB a;refine ak [(4,a1 (GX cP) Gt)] [] [(41,u D.1),(42,u D.2)] ?_;obtain⟨E,cz,a⟩:=aB a;refine ak [(4,a1 (RE cz) Qu)] [40] [(43,u E.1),(44,u E.2)]<|au4 [(3,aD af g),(4,aD bF f),(5,u root),(8,.ptr 17 0),(13,.ptr 1 0),(14,.ptr 24 0),(15,u e.1),(16,aD af m.1),(18,.ptr 27 0),(25,u k),(26,u y),(27,aD af x),(80,.aL true (ag iA ([p,b.1,d.1]:oW))),(81,u (([p,b.1,d.1]:oW).length:Int)),(82,u h),(212,.aL true (ag (eF bF) ([f,i.1,j.1]:q6))),(213,u (([f,i.1,j.1]:q6).length:Int)),(214,u z),(241,.bool ((!decide (D.1=E.1))||(!decide (D.2=E.2))))] [(17,.cells 36 (c8 c)),(1,.cells 103 (dj j.2)),(24,.cells 28 (aZ b.1)),(27,.cells 28 (aZ o))] (λaM=>?_) ?_
    .rcases fl (!decide (D.1=E.1))with L|L
     .exact aG [(3,ai (be L)),(7,ai (k4 (q:=!decide (D.2=E.2)) L))] _ _ aM
     exact aG [(3,ai (be L)),(7,ai (iQ (q:=!decide (D.2=E.2)) L))] _ _ aM
    rcases aV a with⟨ao,a⟩|⟨ao,a⟩
    .refine aT ao<|aG [] [(12,.bool false)] [] ?_
     cases a;exact A.ret bk
    exact aS ao<|A.skip<|bn [(0,ai (cK ab db))] [214,241] [(214,u ((z+1:Nat):Int))]<|aX () a
   rintro z ⟨⟩ cY cu a;rw[da]at a;exact ak [] [] [(215,.d ((z:Int)<(([f,i.1,j.1]:q6).length:Int)))]<|A.seq<|aS (cT cu)<|A.exit<|bn [(1,ai (lg (by omega) ar (by decide)))] [25,26,27,212,213,214,215] [(25,u (k+1:Int))]<|aX (j.2.L,j.2.At) a
  rintro k ⟨v,s⟩ cb bL a;rw[cp]at a;refine A.seq<|ak [] [] [(143,.d ((k:Int)<(2:Int)))] ?_
  exact au1 rfl (lG bL)<|A.exit<|c6 [(0,ai (cK S a9))] [18,25,82,143] [(82,u ((h+1:Nat):Int))] [27] []<|aX (v,s) a
 rintro h ⟨O,M⟩ a8 ch a;rw[a5]at a;refine ak [] [] [(83,.d ((h:Int)<(([p,b.1,d.1]:oW).length:Int)))]<|A.seq<|aS (cT ch)<|A.exit ?_
 obtain⟨de,dc,a⟩:=aB a;refine aG [(0,a1 (Hi dc) Gq)] [(12,.bool de)] [] ?_;cases a;exact A.ret bk
end
section
set_option linter.all false
open Go
section
variable {α β:Type}
def aU(a:α)(k:α->Option β):aj (some a) k=k a:=rfl
def PU{c:Bool}{k:Option β}(a:c=true):dR c k=k:=by subst a;rfl
theorem mw{p:Prop}[Decidable p]{x y:α}:(bif decide p then x else y)=if p then x else y:=by grind
def tM{α σ β:Type}{B:Int->α->(σ->Option β)->σ->Option β}{K:σ->Option β}(f:List α->σ->Option β)(b:∀s,K s=f [] s)
  (c:∀(j:Int) x r s bf,(∀a,bf a=f r a)->B j x bf s=f (x::r) s):∀(l:List α) (j:Nat) (s:σ),bZ l j B K s=f l s
 |[],_,s=>b s
 |x::r,j,s=>c j x r s _ λa=>tM f b c r (j+1) a
def Ok{β:Type}(o:Option β)(SN:β->Prop):Prop:=∃r,o=some r/\SN r
variable {SN:β->Prop}
def Ok.s{r:β}(h:SN r):Ok (some r) SN:=⟨r,rfl,h⟩
def Ok.aj{α β:Type}{o:Option α}{k:α->Option β}{P:α->Prop}{SN:β->Prop}(h:Ok o P)(D:∀a,P a->Ok (k a) SN):Ok (aj o k) SN:=by
 obtain⟨a,rfl,u⟩:=h;exact D a u
theorem Ok.cs{c:Bool}{x y:Option β}(D:c=true->Ok x SN)(u:c=false->Ok y SN):Ok (bif c then x else y) SN:=by grind
def Ok.dR{β:Type}{c:Bool}{k:Option β}{SN:β->Prop}(h:c=true)(u:Ok k SN):Ok (dR c k) SN:=by subst h;exact u
variable {σ:Type}
def au0{k:σ->Option β}{t:(σ->Option β)->Option β}(R:σ->Prop)(b:∀s,R s->Ok (k s) SN)(a:∀J,(∀s,R s->Ok (J s) SN)->Ok (t J) SN):Ok (jn k t) SN:=a k b
variable {o:Option β}
def Ok.mono{u:β->Prop}(h:Ok o SN)(F:∀r,SN r->u r):Ok o u:=by
 obtain⟨r,O,D⟩:=h;exact⟨r,O,F r D⟩
def avh{σ β:Type}{B:Int->(σ->Option β)->σ->Option β}{K:Int->σ->Option β}{SN:β->Prop}(I:Int->σ->Prop)(a hi:Int)
  (e:∀(i:Int) s bf,a<=i->i<hi->I i s->(∀b,I (i+1) b->Ok (bf b) SN)->Ok (B i bf s) SN) (d:∀i s,a<=i->(a<=hi->i=hi)->I i s->Ok (K i s) SN):∀(n:Nat) (i:Int) (s:σ),n=(hi-i).toNat->a<=i->(a<=hi->i<=hi)->I i s->Ok (gj n i B K s) SN
 |0,i,s,j,h1,c,h=>d i s h1 (λg=>by have:=c g;omega) h
 |n+1,i,s,j,h1,c,h=>e i s _ h1 (by omega) h λb f=>avh I a hi e d n (i+1) b (by omega) (by omega) (λ_=>by omega) f
def Ok.iter{σ β:Type}{F:(σ->Option β)->σ->Option β}{SN:β->Prop}(I:σ->Prop)(μ:σ->Nat)
  (D:∀s bf,I s->(∀u,I u->μ u<μ s->Ok (bf u) SN)->Ok (F bf s) SN):∀(n:Nat) (s:σ),I s->μ s<n->Ok (iter F n s) SN
 |0,s,_,h=>by omega
 |n+1,s,h,hm=>D s _ h λu O Q=>Ok.iter I μ D n u O (by omega)
def au2{F:(σ->Option β)->σ->Option β}(I:σ->Prop)(μ:σ->Nat){s:σ}(c:I s)(d:μ s<1099511627776)
  (b:∀s bf,I s->(∀a,I a->μ a<μ s->Ok (bf a) SN)->Ok (F bf s) SN):Ok (dn F s) SN:=Ok.iter I μ b fuel s c d
def Ok.eq{r:β}(h:Ok o (λx=>x=r)):o=some r:=by obtain⟨x,u,rfl⟩:=h;exact u
def Fx(p:List α)(x:α)(r:List α):bq (p++x::r) (p.length:Int)=some x:=by
 unfold bq;rw[if_pos (by omega)];simp
variable {i:Int}{l:List α}
def hr(a:0<=i)(b:i<l.length):Ok (bq l i) (λx=>x∈l/\l[i.toNat]?=some x):=by
 unfold bq;rw[if_pos a]
 have:i.toNat<l.length:=by omega
 exact⟨l[i.toNat],List.getElem?_eq_getElem this,List.getElem_mem this,List.getElem?_eq_getElem this⟩
variable {r:List α}
def iB(a:l.length+r.length<=549755813888):dP l r=some (l++r):=by unfold dP;rw[if_pos (by unfold aR;exact a)]
def kG(a:l.length+r.length<=549755813888):Ok (dP l r) (λm=>m=l++r/\m.length=l.length+r.length):=⟨_,iB a,rfl,by simp⟩
def uI{x:α}(a:0<=i)(b:i<l.length):Ok (e3 l i x) (λm=>m=l.set i.toNat x/\m.length=l.length):=by
 unfold e3;rw[if_pos ⟨a,b⟩];exact⟨_,rfl,rfl,by simp⟩
def mq{a b:Int}(c:0<=a/\a<=b/\b<=l.length):Ok (h5 l a b) (λm=>m=(l.take b.toNat).drop a.toNat/\(m.length:Int)=b-a):=by
 unfold h5;rw[if_pos c];exact⟨_,rfl,rfl,by simp;omega⟩
def hH{B:Int->α->(σ->Option β)->σ->Option β}{K:σ->Option β}(p:α->Bool)(a:Option β)(c:∀j x bf s,B j x bf s=bif p x then a else bf s)(l:List α)(j:Nat)(s:σ):bZ l j B K s=bif l.any p then a else K s:=
 tM (f:=λl s=>bif l.any p then a else K s) (λs=>rfl) (λj x r s bf b=>by
  rw[c,b,List.any_cons];cases p x<;>rfl) l j s
end
section
def o6(n:Int):Bool:=decide (1<=n)&&decide (n<=1000)
def eX(t:aK)(r:Int):Bool:=t.aP.any λx=>decide (x.b7=r)
def n1(r:ck):Bool:=decide (r.b7<1)||decide (99<r.b7)
def jF(l:bU):Bool:=!o6 l.eE||!o6 l.eP||decide (l.lJ<0)||decide (1000<l.lJ)
def hc(a b:bU):Bool:=decide (a.A<b.A)||(decide (a.A=b.A)&&decide (a.B<b.B))
def gd{α:Type}(p:α->α->Bool):List α->Bool
 |a::b::r=>p a b&&gd p (b::r)
 |_=>true
def si(t:aK):Bool:=t.aP.any n1
def lI(t:aK):Bool:=gd (λa b=>decide (a.b7<b.b7)) t.aP
def sj(t:aK):Bool:=t.Links.any jF
def sk(t:aK):Bool:=t.Links.any λl=>!eX t l.A||!eX t l.B
def sn(t:aK):Bool:=t.Links.any λl=>decide (l.B<=l.A)
def sp(t:aK):Bool:=gd hc t.Links
def fH(t:aK):Int:=
 bif decide (24<(t.aP.length:Int))||decide (60<(t.Links.length:Int))then 3
 else bif si t then 2 else bif lI t then(bif sj t then 2 else bif sk t then 4 else bif sn t then 8 else bif sp t then 0 else 25)else 25
def yy{α σ β:Type}{B:Int->α->(σ->Option β)->σ->Option β}{K:σ->Option β}{L:List α}(p:α->α->Bool)(a:Option β)
  (b:∀(j:Nat) x y r q s bf,L=q++y::x::r->j=q.length+1->B (j:Int) x bf s=bif p y x then bf s else a):∀(r q:List α) (y:α) (s:σ),L=q++y::r->bZ r (q.length+1) B K s=bif gd p (y::r)then K s else a
 |[],q,y,s,h=>rfl
 |x::r,q,y,s,h=>by
  simp only[bZ];rw[b (q.length+1) x y r q s _ h rfl];have:=yy (B:=B) (K:=K) p a b r (q++[y]) x s (by simpa using h);simp only[List.length_append,List.length_cons,List.length_nil]at this;rw[this];simp only[gd];cases p y x<;>rfl
variable {α β σ:Type}{L:List α}{B:Int->α->(σ->Option β)->σ->Option β}{K:σ->Option β}
def qB(p:α->α->Bool)(a:Option β)
  (b:∀(j:Nat) x y r q s bf,L=q++y::x::r->j=q.length+1->B (j:Int) x bf s=bif p y x then bf s else a) (s:σ):bZ (L.drop 1) 1 B K s=bif gd p L then K s else a:=by
 cases L with
 |nil=>rfl
 |cons y r=>exact yy (B:=B) (K:=K) p a b r [] y s rfl
def Du(p:α->α->Bool)(a:Option β)(c:∀x bf s,B ((0:Nat):Int) x bf s=bf s)
  (b:∀(j:Nat) x y r q s bf,L=q++y::x::r->j=q.length+1->B (j:Int) x bf s=bif p y x then bf s else a) (s:σ):bZ L 0 B K s=bif gd p L then K s else a:=by
 cases L with
 |nil=>rfl
 |cons y r=>
  simp only[bZ];rw[c];exact yy (B:=B) (K:=K) p a b r [] y s rfl
variable {j:Nat}
def nA{y x:α}{r q:List α}(a:L=q++y::x::r)(b:j=q.length+1)(c:(L.length:Int)<=9223372036854775807):bq L (an ((j:Int)-1))=some y:=by
 have d:q.length+2<=L.length:=by rw[a];simp
 rw[dO (by omega) (by omega),show(j:Int)-1=(q.length:Int)by omega,a,Fx]
def K4(n:Int):sQ n=some (o6 n):=rfl
def Ez(t:aK)(r:Int):oH t r=some (eX t r):=by
 unfold oH;refine(hH (λx:ck=>decide (x.b7=r)) (some true) ?_ _ _ _).trans ?_
 .intros;rfl
 .unfold eX;cases t.aP.any _<;>rfl
theorem xL(t:aK):nj t=some (fH t):=by
 unfold nj fH;by_cases d:(decide (24<(t.aP.length:Int))||decide (60<(t.Links.length:Int)))=true
 .rw[d];rfl
 rw[Bool.not_eq_true]at d;rw[d];simp only[cond_false];simp only[Bool.or_eq_false_iff,decide_eq_false_iff_not]at d;refine(hH n1 (some 2) ?_ _ _ _).trans ?_
 .intros;rfl
 unfold si;cases t.aP.any n1
 case true=>rfl
 simp only[cond_false];refine(qB (λa b:ck=>decide (a.b7<b.b7)) (some 25) ?_ _).trans ?_
 .intro j x c h g s bf f e;simp only[nA f e (by omega),aU,mw]
  grind
 unfold lI;cases gd _ t.aP
 case false=>rfl
 simp only[cond_true];refine(hH jF (some 2) ?_ _ _ _).trans ?_
 .intro j x bf s;simp only[jn,K4,aU,jF]
  grind
 unfold sj;cases t.Links.any jF
 case true=>rfl
 simp only[cond_false];refine(hH (λl=>!eX t l.A||!eX t l.B) (some 4) ?_ _ _ _).trans ?_
 .intro j x bf s;simp only[jn,Ez,aU]
  grind
 unfold sk;cases t.Links.any _
 case true=>rfl
 simp only[cond_false];refine(hH (λl=>decide (l.B<=l.A)) (some 8) ?_ _ _ _).trans ?_
 .intros;rfl
 unfold sn;cases t.Links.any _
 case true=>rfl
 simp only[cond_false];refine(qB hc (some 25) ?_ _).trans ?_
 .intro j x c h g s bf f e;have i:(decide (x.A<c.A)||(decide (c.A=x.A)&&decide (x.B<=c.B)))=!hc c x:=by
   rw[Bool.eq_iff_iff];simp[hc];omega
  simp only[nA f e (by omega),aU]
  grind
 unfold sp
 grind
theorem tD{α σ:Type}{B:Int->α->(σ->fe)->σ->fe}{K:σ->fe}(p:α->Bool)(a:∀j x bf s,B j x bf s=bif p x then some j else bf s)(b:∀s,K s=some (-1)):∀(l:List α) (j:Nat) (s:σ),∃r,bZ l j B K s=some r/\decide (0<=r)=l.any p
 |[],j,s=>⟨-1,b s,rfl⟩
 |x::r,j,s=>by
  simp only[bZ,a,List.any_cons];cases p x
  .simpa using tD p a b r (j+1) s
  .grind
def Qe(l:oO)(f:ck->fz)(p:ck->Bool)(d:∀x,f x=some (p x)):rW l f=some (l.any p):=by
 unfold rW vD;obtain⟨k,i,b⟩:=tD (B:=λ(g:Int) (h:ck) (c:Unit->fe) (a:Unit)=>match a with|()=>aj (f h) λ(e:Bool)=>bif e then some (g:Int)else c ()) (K:=λ(a:Unit)=>match a with|()=>some (-1:Int)) p (λj x bf m=>by simp only[d,aU]) (λ_=>rfl) l 0 ();simp only[i,aU,b]
def AL(l:oK)(f:bU->fz)(p:bU->Bool)(d:∀x,f x=some (p x)):oh l f=some (l.any p):=by
 unfold oh vG;obtain⟨k,i,b⟩:=tD (B:=λ(g:Int) (h:bU) (c:Unit->fe) (a:Unit)=>match a with|()=>aj (f h) λ(e:Bool)=>bif e then some (g:Int)else c ()) (K:=λ(a:Unit)=>match a with|()=>some (-1:Int)) p (λj x bf m=>by simp only[d,aU]) (λ_=>rfl) l 0 ();simp only[i,aU,b]
def eY(x y:Int):Int:=if x<y then -1 else if y<x then 1 else 0
theorem zx(x y:Int):hB x y=some (eY x y):=by
 unfold hB qa eY;simp only[aU,decide_true,Bool.not_true,cond_false,mw]
 grind
variable {x:Int}
def EA{y:Int}:eY x y<0↔x<y:=by unfold eY;split<;>(try split)<;>omega
def mo{y:Int}:eY x y=0↔x=y:=by unfold eY;split<;>(try split)<;>omega
def jv:bH->Int
 |[]=>0
 |x::r=>if x=0 then jv r else x
theorem Fy(l:bH):ku l=some (jv l):=by
 unfold ku;refine(tM (f:=λl _=>some (jv l)) ?_ ?_ _ _ _)
 .intros;rfl
 .intro j x b c bf a;simp only[jv,a]
  grind
def ig(a b:bU):Int:=jv [eY a.A b.A,eY a.B b.B]
def Cy(a b:bU):p3 a b=some (ig a b):=by
 unfold p3;simp only[zx,aU,Fy];rfl
def Ee(r:ck)(id:Int):qb r id=some (eY r.b7 id):=by
 unfold qb;simp only[zx,aU]
variable {a b:bU}
def ux:ig a b<0↔hc a b=true:=by
 have:ig a b<0↔a.A<b.A\/(a.A=b.A/\a.B<b.B):=by
  simp only[ig,jv];split
  .rename_i c;rw[mo]at c;split
   .rename_i d;rw[mo]at d;omega
   .rw[EA];omega
  .rename_i c;rw[mo]at c;rw[EA];omega
 rw[this];simp[hc]
def uy:ig a b=0↔a.A=b.A/\a.B=b.B:=by
 simp only[ig,jv];split
 .rename_i d;rw[mo]at d;split
  .rename_i c;rw[mo]at c;omega
  .rename_i c;rw[mo]at c ⊢;omega
 .rename_i d;rw[mo]at d ⊢;omega
def iW{α:Type}[Inhabited α](f:α->Int)(l:List α)(i j:Nat):Nat:=
 if a:i<j then if f (el l ((i+j) / 2:Nat))<0 then iW f l ((i+j) / 2+1) j else iW f l i ((i+j) / 2)else i
 termination_by j-i
 decreasing_by all_goals omega
def jK{α:Type}[Inhabited α](f:α->Int)(l:List α):Nat:=iW f l 0 l.length
def jL{α:Type}[Inhabited α](f:α->Int)(l:List α):Bool:=decide (jK f l<l.length)&&decide (f (el l (jK f l))=0)
variable {f:α->Int}{i:Nat}{l:List α}
def Fz[Inhabited α](b:i<j)(a:f (el l ((i+j) / 2:Nat))<0):iW f l i j=iW f l ((i+j) / 2+1) j:=by
 rw[iW,dif_pos b,if_pos a]
def FA[Inhabited α](b:i<j)(a:¬f (el l ((i+j) / 2:Nat))<0):iW f l i j=iW f l i ((i+j) / 2):=by
 rw[iW,dif_pos b,if_neg a]
def zy[Inhabited α](a:j<=i):iW f l i j=i:=by
 rw[iW,dif_neg (by omega)]
def tW[Inhabited α](a:i<l.length):el l i=l[i]:=by
 simp[el,List.getD_eq_getElem?_getD,a]
def FB[Inhabited α](a:i<l.length):el l i∈l:=by
 rw[tW a];exact List.getElem_mem a
def qY[Inhabited α](a:i<l.length):bq l (i:Int)=some (el l i):=by
 unfold bq;rw[if_pos (by omega),tW a];simp[a]
def EB(d:i+j<=4611686018427387904):an (Int.fdiv (IntKind.wrap .u64 (an ((i:Int)+(j:Int)))) (2 ^ min (1:Int).toNat 64))=(((i+j) / 2:Nat):Int):=by
 have b:an ((i:Int)+(j:Int))=((i+j:Nat):Int):=by rw[dO (by omega) (by omega)];simp
 have c:IntKind.wrap .u64 ((i+j:Nat):Int)=((i+j:Nat):Int):=Lw (by omega) (by omega);rw[b,c];have a:(2:Int) ^ min (1:Int).toNat 64=2:=rfl;rw[a,Int.fdiv_eq_ediv_of_nonneg _ (by omega)];rw[dO (by omega) (by omega)];simp
def EC[Inhabited α]{F:((Int×Int)->Option (Int×Bool))->(Int×Int)->Option (Int×Bool)}(l:List α)(f:α->Int)(k:l.length<=1000000)
  (h:∀(i j:Nat) bf,j<=l.length->F bf ((i:Int),(j:Int))=if m:i<j then(if f (el l ((i+j) / 2:Nat))<0 then bf ((((i+j) / 2+1:Nat):Int),(j:Int))else bf ((i:Int),(((i+j) / 2:Nat):Int)))else some ((i:Int),decide (i<l.length)&&decide (f (el l i)=0))) :
  dn F ((0:Int),(l.length:Int))=some ((jK f l:Int),jL f l):=by
 refine Ok.eq (au2 (I:=λa=>∃i j:Nat,a=((i:Int),(j:Int))/\i<=j/\j<=l.length/\iW f l i j=jK f l) (μ:=λa=>(a.2-a.1).toNat) ⟨0,l.length,rfl,by omega,by omega,rfl⟩ ?_ ?_)
 .omega
 .rintro a bf ⟨i,j,rfl,n,e,c⟩ g;rw[h i j bf e];split
  .rename_i d;split
   .rename_i b;exact g _ ⟨_,_,rfl,by omega,e,by rw[<-c,Fz d b]⟩ (by show((j:Int)-_).toNat<((j:Int)-i).toNat;omega)
   .rename_i b;exact g _ ⟨_,_,rfl,by omega,by omega,by rw[<-c,FA d b]⟩ (by show((((i+j) / 2:Nat):Int)-i).toNat<((j:Int)-i).toNat;omega)
  .rename_i d;have:jK f l=i:=by rw[<-c,zy (by omega)]
   exact⟨_,rfl,by simp only[jL,this]⟩
theorem GL(l:oO)(x:Int)(c:ck->Int->fe)(f:ck->Int)(e:l.length<=1000000)(b:∀r,c r x=some (f r)):pV l x c=some ((jK f l:Int),jL f l):=by
 unfold pV;refine EC l f e λi j bf g=>?_;by_cases a:i<j
 .rw[dif_pos a];simp only[EB (i:=i) (j:=j) (by omega),qY (show(i+j) / 2<l.length by omega),aU,b,mw];rw[if_pos (by omega),dO (by omega) (by omega)];rfl
 .rw[dif_neg a];simp only[mw];rw[if_neg (by omega)];by_cases d:i<l.length
  .rw[if_pos (by omega),qY d];simp only[aU,b];simp[d]
  .grind
theorem Qb(l:oK)(x:bU)(c:bU->bU->fe)(f:bU->Int)(e:l.length<=1000000)(b:∀r,c r x=some (f r)):rV l x c=some ((jK f l:Int),jL f l):=by
 unfold rV;refine EC l f e λi j bf g=>?_;by_cases a:i<j
 .rw[dif_pos a];simp only[EB (i:=i) (j:=j) (by omega),qY (show(i+j) / 2<l.length by omega),aU,b,mw];rw[if_pos (by omega),dO (by omega) (by omega)];rfl
 .rw[dif_neg a];simp only[mw];rw[if_neg (by omega)];by_cases d:i<l.length
  .rw[if_pos (by omega),qY d];simp only[aU,b];simp[d]
  .grind
def K5[Inhabited α](p:∀a b:Nat,a<=b->b<l.length->f (el l a)<=f (el l b)):∀(n i j:Nat),j-i<=n->i<=j->j<=l.length->(∀m:Nat,m<i->f (el l m)<0)->(∀m:Nat,j<=m->m<l.length->0<=f (el l m))->
  iW f l i j<=l.length/\(∀m:Nat,m<iW f l i j->f (el l m)<0)/\(∀m:Nat,iW f l i j<=m->m<l.length->0<=f (el l m)):=by
 intro n;induction n with
 |zero=>
  intro i j s q g e c;rw[zy (by omega)];exact⟨by omega,e,λm d=>c m (by omega)⟩
 |succ n k=>
  intro i j s q g e c;by_cases o:i<j
  .by_cases h:f (el l ((i+j) / 2:Nat))<0
   .rw[Fz o h];refine k _ _ (by omega) (by omega) g (λm d=>?_) c;have:=p m ((i+j) / 2) (by omega) (by omega);omega
   .rw[FA o h];refine k _ _ (by omega) (by omega) (by omega) e (λm d r=>?_);have:=p ((i+j) / 2) m d r;omega
  .rw[zy (by omega)];exact⟨by omega,e,λm d=>c m (by omega)⟩
def K6[Inhabited α](c:∀a b:Nat,a<=b->b<l.length->f (el l a)<=f (el l b)):
  jK f l<=l.length/\(∀m:Nat,m<jK f l->f (el l m)<0)/\(∀m:Nat,jK f l<=m->m<l.length->0<=f (el l m)):=
 K5 c l.length 0 l.length (by omega) (by omega) (by omega) (λm e=>by omega) (λm g d=>by omega)
theorem ED[Inhabited α](i:∀a b:Nat,a<=b->b<l.length->f (el l a)<=f (el l b)):jL f l=true↔∃x∈l,f x=0:=by
 obtain⟨m,j,k⟩:=K6 i;simp only[jL,Bool.and_eq_true,decide_eq_true_eq];constructor
 .rintro⟨e,g⟩;exact⟨_,FB e,g⟩
 .rintro⟨x,c,d⟩;obtain⟨n,h,rfl⟩:=List.getElem_of_mem c;rw[<-tW h]at d
  grind
def Hj[Inhabited α](e:l.Pairwise (λa b=>f a<=f b)):∀a b:Nat,a<=b->b<l.length->f (el l a)<=f (el l b):=by
 intro a b c d;rcases Nat.lt_or_eq_of_le c with c|rfl
 .have:=List.pairwise_iff_getElem.1 e a b (by omega) d c
  rwa [tW (by omega),tW d]
 .exact Int.le_refl _
def qm{α:Type}{p:α->α->Bool}(e:∀a b c,p a b=true->p b c=true->p a c=true):∀{l:List α},gd p l=true->l.Pairwise (λa b=>p a b=true)
 |[],_=>List.Pairwise.nil
 |[x],_=>by simp
 |a::b::r,h=>by
  simp only[gd,Bool.and_eq_true]at h;have f:=qm e h.2;rw[List.pairwise_cons];refine⟨λg d=>?_,f⟩;rcases List.mem_cons.1 d with rfl|d
  .exact h.1
  .exact e _ _ _ h.1 ((List.pairwise_cons.1 f).1 g d)
def oG{α:Type}{p:α->α->Bool}:∀{l:List α},l.Pairwise (λa b=>p a b=true)->gd p l=true
 |[],_=>rfl
 |[x],_=>rfl
 |a::b::r,h=>by
  rw[List.pairwise_cons]at h;simp only[gd,Bool.and_eq_true];exact⟨h.1 b (by simp),oG h.2⟩
variable {t:aK}
theorem FC(d:lI t=true):t.aP.Pairwise (λa b=>a.b7<b.b7):=by
 have:=qm (p:=λa b:ck=>decide (a.b7<b.b7)) (λa b f e c=>by simp at e c ⊢;omega) d
 grind
def Ms(c:lI t=true)(id:Int):∀a b:Nat,a<=b->b<t.aP.length->eY (el t.aP a).b7 id<=eY (el t.aP b).b7 id:=
 Hj (f:=λd:ck=>eY d.b7 id) ((FC c).imp (λ{a b} c=>by unfold eY;split<;>(try split)<;>(try split)<;>(try split)<;>omega))
def AE(t:aK)(id:Int):Bool:=!jL (λa=>eY a.b7 id) t.aP
def EE(a:lI t=true)(id:Int):AE t id=!eX t id:=by
 simp only[AE,eX];congr 1;rw[Bool.eq_iff_iff,ED (Ms a id)];simp[mo]
theorem ti(t:aK):m5 t=some (fH t):=by
 unfold m5 fH;by_cases e:(decide (24<(t.aP.length:Int))||decide (60<(t.Links.length:Int)))=true
 .rw[e];rfl
 rw[Bool.not_eq_true]at e;rw[e];simp only[cond_false];simp only[Bool.or_eq_false_iff,decide_eq_false_iff_not]at e;rw[Qe t.aP _ n1 (λx=>by simp only[wu,nk,aU,n1];congr 1;rw[Bool.eq_iff_iff];simp)];simp only[aU];unfold si;cases t.aP.any n1
 case true=>rfl
 simp only[cond_false];refine(Du (λa b:ck=>decide (a.b7<b.b7)) (some 25) ?_ ?_ _).trans ?_
 .intros;rfl
 .intro j x h c n s bf g f;simp only[jn,nA g f (by omega),aU,mw]
  grind
 cases d:lI t
 case false=>unfold lI at d;rw[d];rfl
 have k:=d;unfold lI at k;rw[k];simp only[cond_true]
 rw[AL t.Links r8 jF (λx=>by
  simp only[r8,nk,aU,jF,o6];simp only[mw,Bool.not_and,Bool.cond_eq_ite,Bool.or_eq_true,Bool.not_eq_true',decide_eq_false_iff_not];split
  .grind
  .split
   .grind
   .congr 1;rw[Bool.eq_iff_iff];simp;omega)]
 simp only[aU];unfold sj;cases t.Links.any jF
 case true=>rfl
 simp only[cond_false]
 have m:∀id,p4 id t=some (!eX t id):=λid=>by
  unfold p4;rw[GL t.aP id _ (λc=>eY c.b7 id) (by omega) (λc=>Ee c id)];simp only[aU];rw[<-EE d];rfl
 rw[AL t.Links _ (λl=>!eX t l.A||!eX t l.B) (λx=>by
  simp only[wz,m,aU];cases eX t x.A<;>rfl)]
 simp only[aU];unfold sk;cases t.Links.any _
 case true=>rfl
 simp only[cond_false];rw[AL t.Links wA (λl=>decide (l.B<=l.A)) (λx=>rfl)];simp only[aU];unfold sn;cases t.Links.any _
 case true=>rfl
 simp only[cond_false];refine(Du hc (some 25) ?_ ?_ _).trans ?_
 .intros;rfl
 .intro j x h c n s bf g f;simp only[jn,nA g f (by omega),aU,Cy,mw];rw[if_pos (by omega)];cases i:hc h x
  .have:¬ig h x<0:=by rw[ux,i];simp
   grind
  .have:=ux.2 i
   grind
 unfold sp
 grind
end
section
variable {α:Type}{l:List α}
theorem Mt[DecidableEq α]{v:α}:l.any (λx=>decide (x=v))=decide (v∈l):=by grind
theorem uz(l:bH)(n:Int):l0 l n=some (decide (n∈l)):=by
 unfold l0 vW;obtain⟨r,f,b⟩:=tD (B:=λ(d:Int) (e:Int) (c:Unit->fe) (a:Unit)=>match a with|()=>bif decide (n=e)then some (d:Int)else c ()) (K:=λ(a:Unit)=>match a with|()=>some (-1:Int)) (λx=>decide (n=x)) (λg x bf h=>rfl) (λ_=>rfl) l 0 ();simp only[f,aU,b]
 grind
def qs(a b:aQ):gH a b=true↔a=b:=by
 cases a;cases b;simp[gH]
def qC{α b β:Type}{B:Int->α->(List b->Option β)->List b->Option β}{K:List b->Option β}(p:α->Bool)(f:α->b):
  ∀(l:List α) (j:Nat) (s:List b),(∀(j:Nat) x bf s,x∈l->s.length<1000000->B j x bf s=bif p x then bf (s++[f x])else bf s)->l.length+s.length<=1000000->bZ l j B K s=K (s++(l.filter p).map f)
 |[],j,s,_,_=>by simp[bZ]
 |x::r,j,s,d,h=>by
  simp only[List.length_cons]at h;simp only[bZ];rw[d j x _ s (by simp) (by omega)];have e:∀(j:Nat) a bf s,a∈r->s.length<1000000->B j a bf s=bif p a then bf (s++[f a])else bf s:=λj a bf s g=>d j a bf s (by simp[g])
  cases c:p x
  .rw[cond_false,qC p f r (j+1) s e (by omega),List.filter_cons_of_neg (by simp[c])]
  .rw[cond_true,qC p f r (j+1) (s++[f x]) e (by simp;omega),List.filter_cons_of_pos c];simp
def pP{s:List α}{x:α}(a:s.length<1000000):dP s [x]=some (s++[x]):=iB (by simp;omega)
theorem J3{a b:bH}(e:a.Pairwise (·<·))(d:b.Pairwise (·<·))(c:∀x,x∈a↔x∈b):a=b:=by
 induction a generalizing b with
 |nil=>
  cases b with
  |nil=>rfl
  |cons y b=>exact absurd ((c y).2 (by simp)) (by simp)
 |cons x a f=>
  cases b with
  |nil=>exact absurd ((c x).1 (by simp)) (by simp)
  |cons y b=>
   rw[List.pairwise_cons]at e d;have g:x=y:=by
    have j:=(c x).1 (by simp);have i:=(c y).2 (by simp)
    grind
   subst g;congr 1;refine f e.2 d.2 λh=>?_;have:=c h;simp only[List.mem_cons]at this;constructor
   .grind
   .grind
theorem K7{l:bH}(b:l.Nodup):(dh l).Pairwise (·<·):=by
 have c:=oF l;have a:(dh l).Nodup:=(mb l).nodup_iff.2 b;have:=c.and a
 grind
variable {x:Int}
def J4{l:bH}:x∈dh l↔x∈l:=(mb l).mem_iff
structure cQ(t:aK):Prop where
 jr:t.aP.length<=24
 nl:t.Links.length<=60
 ng:∀r∈t.aP,1<=r.b7/\r.b7<=99
 iu:t.aP.Pairwise (λa b=>a.b7<b.b7)
 A8:∀l∈t.Links,jF l=false
 ends:∀l∈t.Links,eX t l.A=true/\eX t l.B=true
 lt:∀l∈t.Links,l.A<l.B
 rS:t.Links.Pairwise (λa b=>hc a b=true)
def J5(a b c:bU)(e:hc a b=true)(d:hc b c=true):hc a c=true:=by
 simp[hc]at *;omega
theorem hS{p:α->Bool}:l.any p=false↔∀x∈l,p x=false:=by grind
variable {t:aK}
theorem iL:fH t=0↔cQ t:=by
 unfold fH;constructor
 .intro a;by_cases c:(decide (24<(t.aP.length:Int))||decide (60<(t.Links.length:Int)))=true
  .grind
  simp only[Bool.not_eq_true]at c;rw[c,cond_false]at a;cases d:si t<;>rw[d]at a<;>first|cases a;done|skip
  cases g:lI t<;>rw[g]at a<;>first|cases a;done|skip
  cases e:sj t<;>rw[e]at a<;>first|cases a;done|skip
  cases f:sk t<;>rw[f]at a<;>first|cases a;done|skip
  cases i:sn t<;>rw[i]at a<;>first|cases a;done|skip
  cases h:sp t<;>rw[h]at a<;>first|cases a;done|skip
  simp only[Bool.or_eq_false_iff,decide_eq_false_iff_not]at c;refine⟨by omega,by omega,λr j=>?_,FC g,hS.1 e,λl b=>?_,λl b=>?_,qm J5 h⟩
  .have:=hS.1 d r j;simp[n1]at this;omega
  .have:=hS.1 f l b;simpa using this
  .have:=hS.1 i l b;simpa using this
 .intro a;have c:(decide (24<(t.aP.length:Int))||decide (60<(t.Links.length:Int)))=false:=by
   have:=a.jr;have:=a.nl;simp;omega
  have d:si t=false:=hS.2 λr j=>by have:=a.ng r j;simp[n1];omega
  have g:lI t=true:=oG (a.iu.imp λa=>by simpa using a);have e:sj t=false:=hS.2 a.A8;have f:sk t=false:=hS.2 λl b=>by have:=a.ends l b;simp[this]
  have i:sn t=false:=hS.2 λl b=>by have:=a.lt l b;simp;omega
  have h:sp t=true:=oG a.rS
  grind
def Dv(t:aK):p7 t=some (decide (fH t=0)):=by
 unfold p7;rw[ti];rfl
variable {r:Int}
def tE:eX t r=true↔∃x∈t.aP,x.b7=r:=by simp[eX]
theorem qT(t:aK)(r:Int):jd t r=some (decide (fH t=0)&&eX t r):=by
 unfold jd;simp only[xL,Ez,aU]
 grind
def Ad(t:aK)(r:Int):ck×Bool:=if jL (λx:ck=>eY x.b7 r) t.aP then(el t.aP (jK (λx:ck=>eY x.b7 r) t.aP),true)else(ck.mk 0 false,false)
def K8(t:aK)(r:Int)(c:t.aP.length<=1000000):sB t r=some (Ad t r):=by
 unfold sB Ad;rw[GL t.aP r _ (λx=>eY x.b7 r) c (λx=>Ee x r)];simp only[aU];cases a:jL (λx:ck=>eY x.b7 r) t.aP
 .rfl
 .have b:jK (λx:ck=>eY x.b7 r) t.aP<t.aP.length:=by
   simp only[jL,Bool.and_eq_true,decide_eq_true_eq]at a;exact a.1
  simp only[Bool.not_true,cond_false,qY b,aU,if_true]
def Mu(a:cQ t)(r:Int):jL (λx:ck=>eY x.b7 r) t.aP=eX t r:=by
 have:=EE (t:=t) (oG (a.iu.imp λa=>by simpa using a)) r;simpa [AE]using this
theorem y4(t:aK)(r:Int)(b:t.aP.length<=1000000):oB t r=some (decide (fH t=0)&&eX t r):=by
 unfold oB;simp only[K8 t r b,Dv,aU];by_cases a:fH t=0
 .simp only[a,decide_true,cond_true,Bool.true_and,Ad,Mu (iL.1 a)]
  grind
 .simp[a]
def J6{σ β:Type}{B:Int->α->(σ->Option β)->σ->Option β}{K:σ->Option β}(p:α->Bool)(g:α->Option β)(b:∀j x bf s,B j x bf s=bif p x then g x else bf s)(l:List α)(j:Nat)(s:σ):
  bZ l j B K s=match l.find? p with|some x=>g x|none=>K s:=
 tM (f:=λl s=>match l.find? p with|some x=>g x|none=>K s) (λs=>rfl) (λj x r s bf a=>by
  rw[b,a,List.find?_cons];cases p x<;>rfl) l j s
def Oz(j:cQ t){a b:bU}(i:a∈t.Links)(h:b∈t.Links)(l:a.A=b.A)(k:a.B=b.B):a=b:=by
 obtain⟨d,g,rfl⟩:=List.getElem_of_mem i;obtain⟨e,f,rfl⟩:=List.getElem_of_mem h;have:=List.pairwise_iff_getElem.1 j.rS;rcases Nat.lt_trichotomy d e with c|c|c
 .have:=this d e g f c;simp[hc]at this;omega
 .subst c;rfl
 .have:=this e d f g c;simp[hc]at this;omega
def fZ(l:bU)(a b:Int):Bool:=(decide (l.A=a)&&decide (l.B=b))||(decide (l.B=a)&&decide (l.A=b))
def hZ(a b:Int)(l:bU):Int×Bool:=(bif decide (l.A=a)&&decide (l.B=b)then l.eE else l.eP,true)
def gz(t:aK)(a b:Int):Int×Bool:=match t.Links.find? (λl=>fZ l a b)with|some l=>hZ a b l|none=>(0,false)
def iG(t:aK)(a b:Int):Bool:=t.Links.any λl=>fZ l a b
theorem BO(t:aK)(a b:Int):oD t a b=some (gz t a b):=by
 unfold oD gz;refine(J6 (λl:bU=>fZ l a b) (λl=>some (hZ a b l)) (λc x bf d=>?_) _ _ _).trans ?_
 .unfold fZ hZ
  grind
 .grind
def J7(t:aK)(a b:Int):(gz t a b).2=iG t a b:=by
 unfold gz iG;cases c:t.Links.find? (λl=>fZ l a b)with
 |none=>symm;exact hS.2 λx d=>by simpa using List.find?_eq_none.1 c x d
 |some x=>
  symm;exact List.any_eq_true.2 ⟨x,List.mem_of_find?_eq_some c,by simpa using List.find?_some c⟩
theorem Ef(t:aK)(a b:Int):ql t a b=some (if fH t=0 then gz t a b else(0,false)):=by
 unfold ql;simp only[xL,BO,aU]
 grind
variable {a b:Int}
def ji(d:cQ t){l:bU}(e:l∈t.Links)(g:fZ l a b=true):gz t a b=hZ a b l:=by
 unfold gz;cases c:t.Links.find? (λl=>fZ l a b)with
 |none=>exact absurd g (List.find?_eq_none.1 c l e)
 |some x=>
  have f:=List.mem_of_find?_eq_some c;have h:=List.find?_some c;have j:=d.lt _ e;have i:=d.lt _ f;simp[fZ]at g h;rw[Oz d f e (by omega) (by omega)]
def Mv(k:cQ t)(v:bU):∀a b:Nat,a<=b->b<t.Links.length->ig (el t.Links a) v<=ig (el t.Links b) v:=by
 refine Hj (f:=λl:bU=>ig l v) (k.rS.imp λ{a b} j=>?_)
 have e:∀x c:Int,eY x c = -1\/eY x c=0\/eY x c=1:=λx c=>by
  unfold eY;split
  .exact .inl rfl
  .omega
 have:∀x c:bU,ig x c = -1\/ig x c=0\/ig x c=1:=λx c=>by
  have h:=e x.A c.A;have i:=e x.B c.B;simp only[ig,jv];generalize eY x.A c.A=m at *;generalize eY x.B c.B=p at *;by_cases d:m=0
  .omega
  .simp[d];omega
 have d:=@ux a v;have g:=@ux b v;have o:=@uy a v;have n:=@uy b v;have h:=this a v;have i:=this b v;simp[hc]at j d g;omega
theorem Eg(t:aK)(a b:Int)(u:t.Links.length<=1000000):p6 t a b=some (if fH t=0 then gz t a b else(0,false)):=by
 unfold p6;simp only[Dv,aU];by_cases e:fH t=0
 .have d:=iL.1 e;simp only[e,decide_true,Bool.not_true,cond_false,if_true];generalize o:bU.mk (if b<a then b else a) (if b>a then b else a) 0 0 0=c;rw[Qb t.Links c _ (λx=>ig x c) u (λx=>Cy x c)];simp only[aU];have n:c.A=if b<a then b else a:=by rw[<-o]
  have m:c.B=if b>a then b else a:=by rw[<-o]
  cases g:jL (λx:bU=>ig x c) t.Links
  .simp only[Bool.not_false,cond_true];congr 1;unfold gz;cases i:t.Links.find? (λl=>fZ l a b)with
   |none=>rfl
   |some x=>
    exfalso;have h:=List.mem_of_find?_eq_some i;have s:=List.find?_some i;have w:=e
    have:=(ED (f:=λx:bU=>ig x c) (Mv d c)).2 ⟨x,h,by
     rw[uy,n,m];have:=d.lt _ h;simp[fZ]at s;split<;>split<;>omega⟩
    rw[g]at this;cases this
  .simp only[jL,Bool.and_eq_true,decide_eq_true_eq]at g;obtain⟨j,k⟩:=g;rw[uy,n,m]at k;have p:=FB j;simp only[Bool.not_true,cond_false,qY j,aU];have y:=d.lt _ p
   have v:fZ (el t.Links (jK (λx:bU=>ig x c) t.Links)) a b=true:=by
    simp[fZ];by_cases q:b<a<;>by_cases r:b>a<;>simp only[q,r,if_true,if_false]at k<;>omega
   rw[ji d p v];unfold hZ
   grind
 .simp[e]
def ids(t:aK):bH:=t.aP.map (·.b7)
def uJ(a:cQ t):(ids t).Pairwise (·<·):=List.pairwise_map.2 a.iu
def iZ:r∈ids t↔eX t r=true:=by rw[tE];simp[ids]
def jk:iG t a b=true↔∃l∈t.Links,(l.A=a/\l.B=b)\/(l.B=a/\l.A=b):=by
 simp[iG,fZ]
theorem x5(c:iG t a b=true):iG t b a=true:=by
 rw[jk]at c ⊢
 grind
theorem qU(e:cQ t)(c:iG t a b=true):b∈ids t:=by
 rw[jk]at c;obtain⟨l,f,c⟩:=c;have:=e.ends l f;rcases c with⟨g,d⟩|⟨g,d⟩<;>rw[iZ,<-d]
 all_goals grind
def mB(t:aK)(r:Int):bH:=(ids t).filter λx=>iG t r x
def Eh(a:cQ t)(r:Int):(mB t r).Pairwise (·<·):=(uJ a).sublist List.filter_sublist
def xM(b:cQ t):x∈mB t r↔iG t r x=true:=by
 unfold mB;rw[List.mem_filter]
 exact⟨λa=>a.2,λa=>⟨qU b a,a⟩⟩
def K9(a:cQ t)(r:Int):sR t r=some (mB t r):=by
 unfold sR;have:=a.jr;refine(qC (λx:ck=>iG t r x.b7) (·.b7) _ _ _ ?_ (by simp;omega)).trans ?_
 .intro c x bf d _ b;simp only[jn,BO,J7,aU,pP b]
 .simp only[List.nil_append,mB,ids];rw[List.filter_map];rfl
def qZ(r:Int)(l:bU):fe:=if r=l.A then some l.B else if r=l.B then some l.A else none
def IJ(h:cQ t)(r:Int):(t.Links.filterMap (qZ r)).Nodup:=by
 have p:∀l:oK,(∀x∈l,x.A<x.B)->l.Pairwise (λa b=>hc a b=true)->(l.filterMap (qZ r)).Nodup:=by
  intro l;induction l with
  |nil=>intros;simp
  |cons x l d=>
   intro g f;rw[List.pairwise_cons]at f;have d:=d (λj m=>g j (by simp[m])) f.2;cases c:qZ r x with
   |none=>rw[List.filterMap_cons_none c];exact d
   |some j=>
    rw[List.filterMap_cons_some c,List.nodup_cons];refine⟨λo=>?_,d⟩;obtain⟨k,i,e⟩:=List.mem_filterMap.1 o;have n:=f.1 k i;have q:=g x (by simp);have s:=g k (by simp[i]);unfold qZ at c e;simp[hc]at n;split at c<;>split at e<;>(try split at c)<;>(try split at e)<;>simp at c e<;>omega
 exact p _ h.lt h.rS
end
section
def au7{α σ β:Type}{B:Int->α->(σ->Option β)->σ->Option β}{K:σ->Option β}{a:β->Prop}(I:List α->σ->Prop){L:List α}
  (i:∀(p:List α) x r s bf,L=p++x::r->I p s->(∀d,I (p++[x]) d->Ok (bf d) a)->Ok (B (p.length:Int) x bf s) a) (s:σ) (b:I [] s) (h:∀s,I L s->Ok (K s) a):Ok (Go.Proofs.YtmnbolcmepihlaaGreat.bZ L 0 B K s) a:=by
 have j:∀(e p:List α) (s:σ),L=p++e->I p s->Ok (Go.Proofs.YtmnbolcmepihlaaGreat.bZ e p.length B K s) a:=by
  intro e;induction e with
  |nil=>intro p s c b;exact h s (by rw[c,List.append_nil];exact b)
  |cons x r g=>
   intro p s c b;refine i p x r s _ c b λd f=>?_;have:=g (p++[x]) d (by simp[c]) f
   rwa [List.length_append]at this
 exact j L [] s rfl b
def BP{a b:bH}(c:a.Nodup)(f:∀x∈a,x∈b):a.length<=b.length:=by
 induction a generalizing b with
 |nil=>simp
 |cons x a g=>
  rw[List.nodup_cons]at c;have d:=f x (by simp);have:=g (b:=b.erase x) c.2 λi e=>(List.mem_erase_of_ne (λh=>c.1 (by rw[<-h];exact e))).2 (f i (by simp[e]));rw[List.length_erase_of_mem d]at this;have:=List.length_pos_of_mem d;simp only[List.length_cons];omega
def nJ{t:aK}(a:cQ t):(ids t).length<=24:=by have:=a.jr;simpa [ids]using this
end
section
def gx{α:Type}(l:List (Int×α))(n m:Int)(b:α):ay (bc l n b) m=if m=n then some b else ay l m:=by
 induction l with
 |nil=>
  simp only[bc,ay,List.find?];by_cases d:n=m
  .simp[d]
  .simp[d,Ne.symm d]
 |cons p r c=>
  simp only[bc];by_cases e:p.1=n
  .rw[if_pos e];simp only[ay,List.find?]at c ⊢;by_cases a:n=m
   .simp[a]
   .have:p.1≠m:=by omega
    simp[a,this,Ne.symm a]
  .rw[if_neg e];simp only[ay,List.find?]at c ⊢;by_cases a:p.1=m
   .have:m≠n:=by omega
    simp[a,this]
   .simp[a];exact c
def La{α:Type}{l:List (Int×α)}{n:Int}{b:α}(a:ay l n=none):(bc l n b).length=l.length+1:=by
 induction l with
 |nil=>rfl
 |cons p r d=>
  simp only[ay,List.find?]at a;by_cases c:p.1=n
  .simp[c]at a
  .simp only[bc,if_neg c,List.length_cons];rw[d (by simpa [ay,c]using a)]
end
end
section
set_option linter.all false
open Go
section
def eW(t:bR):Prop:=0<=t.At/\t.At<=t.L.length/\t.L.length<=2000
def FD(n:Int):an n<=9223372036854775807/\-9223372036854775808<=an n:=by
 unfold an;rw[IntKind.wrap_i64];omega
theorem PV(l:bH):Ok (sq l) eW:=by
 unfold sq;refine Ok.aj (mq ⟨by omega,?_,?_⟩) λb a=>Ok.s ⟨by simp,by simp,?_⟩
 all_goals grind
variable {t:bR}
def PW(e:eW t):Ok (r5 t) (λp=>eW p.2):=by
 obtain⟨b,f,a⟩:=e;unfold r5;refine Ok.cs (λ_=>Ok.s ⟨b,f,a⟩) λc=>?_;simp at c;have d:an (t.At+1)=t.At+1:=dO (by omega) (by omega);rw[d,dO (by omega) (by omega)];refine Ok.aj (hr (by omega) (by omega)) λg _=>Ok.s ⟨?_,?_,a⟩<;>show _<;>simp<;>omega
def PX{x n:Int}(g:n<=9223372036854775807):Ok (sr x n) (λr=>0<=r/\(1<=n->r<n)/\(n<1->r=0)):=by
 unfold sr;refine Ok.cs (λa=>Ok.s ?_) λa=>?_
 .simp at a;omega
 have a:1<=n:=by simpa using a
 have h:Int.tmod x n<n:=Int.tmod_lt_of_pos _ (by omega);have f : -n<Int.tmod x n:=Int.lt_tmod_of_pos _ (by omega);refine Ok.dR (by simp;omega) ?_;refine au0 (λr=>0<=r/\r<n) (λi d=>Ok.s ⟨d.1,λ_=>d.2,by omega⟩) λe c=>?_;refine Ok.cs (λb=>c _ ?_) λb=>c _ ?_
 .simp at b;rw[dO (by omega) (by omega)];omega
 .simp at b;omega
def hW{n:Int}(d:eW t)(b:n<=9223372036854775807):Ok (gW t n) (λp=>(0<=p.1/\(1<=n->p.1<n)/\(n<1->p.1=0))/\eW p.2):=by
 unfold gW;exact Ok.aj (PW d) λp a=>Ok.aj (PX b) λe c=>Ok.s ⟨c,a⟩
def qV{low high:Int}(c:eW t):Ok (lz t low high) (λp=>(-2305843009213693952<=low->low<=high->high<2305843009213693952->low<=p.1/\p.1<=high)/\eW p.2):=by
 unfold lz;refine Ok.aj (hW c (FD _).1) λp a=>Ok.s ⟨λg d e=>?_,a.2⟩;obtain⟨⟨f,b,_⟩,_⟩:=a;rw[dO (n:=high-low) (by omega) (by omega),dO (n:=high-low+1) (by omega) (by omega)]at b;show low<=an (low+p.1)/\an (low+p.1)<=high;rw[dO (by omega) (by omega)];omega
def nQ{l:bH}(c:eW t)(e:1<=l.length)(f:l.length<=1000000):Ok (km t l) (λp=>p.1∈l/\eW p.2):=by
 unfold km;refine Ok.aj (hW c (by omega)) λp a=>?_;exact Ok.aj (hr a.1.1 (a.1.2.1 (by omega))) λd b=>Ok.s ⟨b.1,a.2⟩
theorem ob(l:bH)(n:Int):i5 l n=some (decide (n∈l)):=by
 unfold i5;rw[hH (λa=>decide (a=n)) (some true) (λb a bf c=>rfl) l 0 (),Mt]
 grind
def hf:bH->Int->bH
 |[],x=>[x]
 |y::r,x=>if y<x then y::hf r x else if y=x then y::r else x::y::r
theorem x6:∀{l:bH} {x y:Int},y∈hf l x↔y=x\/y∈l
 |[],x,y=>by simp[hf]
 |z::r,x,y=>by
  rw[hf];split
  .rw[List.mem_cons,x6,List.mem_cons]
   grind
  .grind
theorem y5:∀{l:bH} {x:Int},l.Pairwise (·<·)->(hf l x).Pairwise (·<·)
 |[],x,_=>by simp[hf]
 |z::r,x,h=>by
  rw[hf];rw[List.pairwise_cons]at h;split
  .rw[List.pairwise_cons];refine⟨λb a=>?_,y5 h.2⟩;rcases x6.1 a with rfl|a
   all_goals grind
  .split
   .simp_all
   .rw[List.pairwise_cons];refine⟨λb a=>?_,List.pairwise_cons.2 h⟩
    grind
def x7:∀(l:bH) (x:Int),(hf l x).length<=l.length+1
 |[],x=>by simp[hf]
 |z::r,x=>by
  rw[hf];have:=x7 r x;split
  .simp;omega
  .split<;>simp
def EF:∀(p r:bH) (x:Int),(∀y∈p,y<x)->(∀y∈r.head?,x<=y)->hf (p++r) x=if r.head?=some x then p++r else p++x::r
 |[],r,x,_,h=>by
  cases r with
  |nil=>simp[hf]
  |cons y r=>
   have:=h y (by simp);simp only[List.nil_append,hf,if_neg (show ¬y<x by omega),List.head?_cons,Option.some.injEq]
 |z::p,r,x,a,h=>by
  have:=a z (by simp);rw[List.cons_append,hf,if_pos this,EF p r x (λy b=>a y (by simp[b])) h];split<;>rfl
theorem F8(l:bH)(x:Int)(G:l.length<=100000):qc l x=some (hf l x):=by
 unfold qc;refine Ok.eq (au2 (λa:Int=>0<=a/\a<=l.length/\∀b∈l.take a.toNat,b<x) (λa:Int=>((l.length:Int)-a).toNat) ⟨by omega,by omega,by simp⟩ (by omega) ?_);rintro a bf ⟨n,K,d⟩ u;refine au0 (λi:Bool=>(i=true↔∃b∈(l.drop a.toNat).head?,b<x)) ?_ ?_
 .intro i k;refine Ok.cs (λg=>?_) λg=>?_
  .obtain⟨b,f,H⟩:=k.1 g;have C:a.toNat<l.length:=by
    cases m:l.drop a.toNat with
    |nil=>rw[m]at f;simp at f
    |cons A r=>have:=congrArg List.length m;simp at this;omega
   rw[dO (by omega) (by omega)];refine u _ ⟨by omega,by omega,λA h=>?_⟩ (by omega);rw[show(a+1).toNat=a.toNat+1 by omega,List.take_succ]at h;rcases List.mem_append.1 h with h|h
   all_goals simp_all
  .have kz:∀b∈(l.drop a.toNat).head?,x<=b:=λb f=>by
    have:¬b<x:=λj=>by rw[k.2 ⟨b,f,j⟩]at g;cases g
    omega
   have o:=EF (l.take a.toNat) (l.drop a.toNat) x d kz;rw[List.take_append_drop]at o;refine au0 (λi:Bool=>(i=true↔(l.drop a.toNat).head?=some x)) ?_ ?_
   .intro D w;refine Ok.cs (λd=>Ok.s ?_) λd=>?_
    .grind
    .have v:¬(l.drop a.toNat).head?=some x:=λj=>by rw[w.2 j]at d;cases d
     rw[if_neg v]at o;refine Ok.aj (mq ⟨by omega,by omega,by omega⟩) λF s=>?_;refine Ok.aj (kG (by simp;omega)) λE t=>?_;refine Ok.aj (mq ⟨by omega,by omega,by omega⟩) λI q=>?_;refine Ok.aj (kG (by simp at t q s ⊢;omega)) λJ B=>Ok.s ?_
     grind
   .intro p e;refine Ok.cs (λc=>?_) λc=>e _ ?_
    .simp at c;refine Ok.aj (hr n c) λy z=>e _ ?_
     simp_all
    .simp_all
 .intro p e;refine Ok.cs (λc=>?_) λc=>e _ ?_
  .simp at c;refine Ok.aj (hr n c) λy z=>e _ ?_
   simp_all
  .simp_all
end
section
def PY(n:Int):IntKind.wrap .u64 n=n%18446744073709551616:=by
 simp[IntKind.wrap,IntKind.bits,IntKind.signed]
def wrap_u64{n:Int}(a:0<=n)(b:n<18446744073709551616):IntKind.wrap .u64 n=n:=by
 rw[PY];omega
end
section
def yz{α σ β:Type}{B:Int->α->(σ->Option β)->σ->Option β}{K:σ->Option β}{L:List α}(I:List α->σ->Prop)(f:List α->List α->Option β)(c:∀s,I L s->K s=f L [])
  (d:∀p x r s bf,p++x::r=L->I p s->(∀a,I (p++[x]) a->bf a=f (p++[x]) r)->B (p.length:Int) x bf s=f p (x::r)):∀(l p:List α) (s:σ),p++l=L->I p s->bZ l p.length B K s=f p l
 |[],p,s,h,b=>by rw[List.append_nil]at h;subst h;exact c s b
 |x::r,p,s,h,b=>d p x r s _ h b λa e=>by
   have:=yz (B:=B) (K:=K) I f c d r (p++[x]) a (by simpa using h) e;rw[List.length_append]at this;exact this
def Mw{α:Type}{L p r:List α}{x:α}(a:p++x::r=L):h5 L 0 (p.length:Int)=some p:=by
 unfold h5;rw[if_pos ⟨by omega,by omega,by rw[<-a];simp;omega⟩,<-a];simp
def jD(n:Int):Bool:=decide (1<=n)&&decide (n<=99)
def Lb{α β:Type}{B:Int->α->(Bool->Option β)->Bool->Option β}{K:Bool->Option β}(p:α->Bool)(b:∀j x bf s,B j x bf s=bf (s&&!p x))(l:List α)(j:Nat)(s:Bool):bZ l j B K s=K (s&&!l.any p):=
 tM (f:=λl s=>K (s&&!l.any p)) (λs=>by simp) (λj x c s bf a=>by
  rw[b,a,List.any_cons];cases s<;>cases p x<;>simp) l j s
end
section
def kf(h:aQ):Bool:=!jD h.aO||!jD h.aJ
def dV(a b:aQ):Bool:=decide (a.aO<b.aO)||(decide (a.aO=b.aO)&&decide (a.aJ<b.aJ))
def nR(a b:aQ):Bool:=decide (b.aJ=a.aJ)
def jG(root:Int):lR->lR->Bool
 |_,[]=>false
 |p,x::r=>(p.any (nR x)||decide (x.aJ=root))||jG root (p++[x]) r
inductive ir(root:Int)(L:List aQ):Int->Prop
 |root:ir root L root
 |step (h:aQ):h∈L->ir root L h.aO->ir root L h.aJ
noncomputable def jN(t:b0):Int:=
 bif !jD t.cH||t.Links.any kf then 2 else bif gd dV t.Links then(bif jG t.cH [] t.Links then 8 else @ite Int (∀h∈t.Links,ir t.cH t.Links h.aO) (Classical.propDecidable _) 0 10)else 25
def iH(f:Int->Bool)(L:lR):Nat:=(L.filter λh=>!f h.aJ).length
variable {f:Int->Bool}
theorem EG{g:Int->Bool}(h:∀x,f x=true->g x=true)(L:lR):iH g L<=iH f L:=by
 unfold iH;induction L with
 |nil=>simp
 |cons a r c=>
  simp only[List.filter_cons];cases b:f a.aJ
  .grind
  .grind
theorem y6{f g:Int->Bool}(h:∀x,f x=true->g x=true){a:aQ}:∀{L:lR},a∈L->f a.aJ=false->g a.aJ=true->iH g L<iH f L
 |[],c,_,_=>by cases c
 |b::r,c,h1,d=>by
  have bA:=EG h r;unfold iH at *;simp only[List.filter_cons];rcases List.mem_cons.1 c with rfl|c
  .grind
  .have e:=y6 h c h1 d;unfold iH at e
   grind
structure pn(root:Int)(L:List aQ)(f:Int->Bool):Prop where
 rt:f root=true
 sub:∀x,f x=true->ir root L x
structure kk(root:Int)(L:List aQ)(f0:Int->Bool)(p:List aQ)(g:Bool)(f:Int->Bool):Prop where
 qE:pn root L f
 up:∀x,f0 x=true->f x=true
 no:g=false->(∀x,f x=f0 x)/\∀h∈p,f h.aO=true->f h.aJ=true
 yes:g=true->iH f L<iH f0 L
variable {L:lR}{root:Int}
def avF(h:pn root L f):kk root L f [] false f:=⟨h,λ_=>id,λ_=>⟨λ_=>rfl,by simp⟩,λh=>by cases h⟩
variable {f0:Int->Bool}{g:Bool}{h:aQ}{p:lR}
def kk.add{D:Int->Bool}(j:kk root L f0 p g f)(O:h∈L)(X:f h.aO=true)(Q:f h.aJ=false)(F:∀y,D y=(decide (y=h.aJ)||f y)):kk root L f0 (p++[h]) true D:=by
 have up:∀x,f x=true->D x=true:=λx u=>by rw[F,u];simp
 have aa:iH D L<iH f L:=y6 up O Q (by rw[F];simp);refine⟨⟨up _ j.qE.rt,λx u=>?_⟩,λx u=>up x (j.up x u),λh=>(by cases h),λ_=>?_⟩
 .rw[F,Bool.or_eq_true,decide_eq_true_eq]at u;rcases u with rfl|u
  .exact .step h O (j.qE.sub _ X)
  .exact j.qE.sub x u
 .have:=EG j.up L;omega
theorem kk.pass(j:kk root L f0 p g f)(O:f h.aO=false\/f h.aJ=true):kk root L f0 (p++[h]) g f:=by
 refine⟨j.qE,j.up,λD=>⟨(j.no D).1,λx u F=>?_⟩,j.yes⟩;rcases List.mem_append.1 u with u|u
 .exact(j.no D).2 x u F
 .grind
def pn.done(h:pn root L f)(F:∀x∈L,f x.aO=true->f x.aJ=true)(x:Int):f x=true↔ir root L x:=by
 refine⟨h.sub x,λO=>?_⟩;induction O with
 |root=>exact h.rt
 |step y D _ u=>exact F y D u
def yA(f:Int->Bool)(L:lR):iH f L<=L.length:=List.length_filter_le _ _
def gG(m:List (Int×Bool))(x:Int):Bool:=(ay m x).getD false
def tF(m:List (Int×Bool))(n x:Int):gG (bc m n true) x=(decide (x=n)||gG m x):=by
 unfold gG;rw[gx];by_cases h:x=n<;>simp[h]
theorem IK(t:b0)(y:t.Links.length<=1000000):Ok (r6 t) (λm=>∀x,gG m x=true↔ir t.cH t.Links x):=by
 unfold r6;refine au2 (λa:Bool×List (Int×Bool)=>pn t.cH t.Links (gG a.2)/\(a.1=false->∀x∈t.Links,gG a.2 x.aO=true->gG a.2 x.aJ=true)) (λa=>2*iH (gG a.2) t.Links+if a.1 then 1 else 0) ?_ ?_ ?_
 .refine⟨⟨?_,λx d=>?_⟩,λh=>by cases h⟩
  .show gG (bc [] t.cH true) t.cH=true;rw[tF];simp
  .have d:gG (bc [] t.cH true) x=true:=d;rw[tF]at d;simp[gG,ay]at d;subst d;exact .root
 .have:=yA (gG (bc [] t.cH true)) t.Links
  grind
 .rintro⟨g,m⟩ bf ⟨l,n⟩ o;refine Ok.cs (λi=>?_) (λi=>Ok.s (l.done (n i)));refine au7 (L:=t.Links) (λp (a:Bool×List (Int×Bool))=>kk t.cH t.Links (gG m) p a.1 (gG a.2)) (λp x A s w q j k=>?_) (false,m) (avF l) (λs e=>?_)
  .obtain⟨f,b⟩:=s;unfold jn;have u:x∈t.Links:=by rw[q];simp
   refine Ok.cs (λc=>k _ ?_) (λc=>k _ ?_)
   .simp only[Bool.and_eq_true,Bool.not_eq_true']at c;exact j.add u c.1 c.2 (λv=>tF b x.aJ v)
   .refine j.pass ?_
    change (gG b x.aO&&!gG b x.aJ)=false at c
    revert c;cases gG b x.aO<;>cases gG b x.aJ<;>simp
  .obtain⟨f,b⟩:=s;refine o (f,b) ⟨e.qE,λr=>(e.no r).2⟩ ?_;cases f
   .have z:gG b=gG m:=funext (e.no rfl).1
    grind
   .have:=e.yes rfl
    grind
theorem Mx(l:bH)(a x:Int):decide (x∈l++[a])=(decide (x=a)||decide (x∈l)):=by grind
theorem OA{a b:aQ}:(decide (b.aO<a.aO)||(decide (a.aO=b.aO)&&decide (b.aJ<=a.aJ)))=!dV a b:=by
 unfold dV
 grind
def Ho(t:b0)(S:t.Links.length<=1000000):qd t=some (jN t):=by
 unfold qd qj;simp only[aU]
 refine(Lb kf (λC a bf s=>by
  unfold kf jD;cases s
  .rfl
  cases decide (1<=a.aO)&&decide (a.aO<=99)<;>simp) _ _ _).trans ?_
 unfold jN;have J:((decide (1<=t.cH)&&decide (t.cH<=99))&&!t.Links.any kf)=!(!jD t.cH||t.Links.any kf):=by
  unfold jD;cases(decide (1<=t.cH)&&decide (t.cH<=99))<;>simp
 rw[J,Bool.not_not];cases(!jD t.cH||t.Links.any kf)
 .simp only[cond_false]
  refine(qB dV (some 25) (λC a e D T s bf v F=>by
   simp only[nA v F (by omega),aU,OA];cases dV e a<;>rfl) _).trans ?_
  cases gd dV t.Links
  .rfl
  .simp only[cond_true];refine(yz (L:=t.Links) (λ_ _=>True) (λp O=>bif jG t.cH p O then some 8 else some (@ite Int (∀h∈t.Links,ir t.cH t.Links h.aO) (Classical.propDecidable _) 0 10)) (λs _=>?_) (λp a D s bf h _ r=>?_) t.Links [] () rfl trivial).trans ?_
   .simp only[jG,cond_false];refine Ok.eq (au2 (λb:bH×Bool=>(pn t.cH t.Links (λa=>decide (a∈b.1))/\(b.2=false->∀a∈t.Links,a.aO∈b.1->a.aJ∈b.1))/\b.1.length+iH (λa=>decide (a∈b.1)) t.Links<=1+t.Links.length) (λb=>2*iH (λa=>decide (a∈b.1)) t.Links+if b.2 then 1 else 0) ?_ ?_ ?_)
    .refine⟨⟨⟨by simp,λa c=>?_⟩,λh=>by cases h⟩,?_⟩
     .simp at c;subst c;exact .root
     .have:=yA (λa=>decide (a∈[t.cH])) t.Links;simp only[List.length_singleton];omega
    .have:=yA (λa=>decide (a∈[t.cH])) t.Links;show 2*iH (λa=>decide (a∈[t.cH])) t.Links+1<_;omega
    .rintro⟨n,g⟩ bf ⟨⟨A,E⟩,H⟩ r;refine Ok.cs (λk=>?_) (λk=>?_)
     .refine au7 (L:=t.Links) (λp (b:bH×Bool)=>kk t.cH t.Links (λa=>decide (a∈n)) p b.2 (λa=>decide (a∈b.1))/\b.1.length+iH (λa=>decide (a∈b.1)) t.Links<=1+t.Links.length) (λp a D s P v m w=>?_) (n,false) ⟨avF A,H⟩ (λs i=>?_)
      .obtain⟨d,u⟩:=s;obtain⟨m,x⟩:=m;simp only at x;have B:a∈t.Links:=by rw[v];simp
       simp only[jn,ob,aU];by_cases l:a.aO∈d
       .by_cases j:a.aJ∈d
        .simp only[l,j,decide_true,cond_true,Bool.not_true,cond_false];exact w _ ⟨m.pass (.inr (by simpa using j)),x⟩
        .simp only[l,j,decide_true,cond_true,decide_false,Bool.not_false];refine Ok.aj (kG (by simp only[List.length_singleton];omega)) λR G=>?_;rw[G.1];have Q:=y6 (f:=λe=>decide (e∈d)) (g:=λe=>decide (e∈d++[a.aJ])) (λe y=>by simp at y;simp[y]) B (by simpa using j) (by simp);refine w _ ⟨m.add B (by simpa using l) (by simpa using j) (λe=>Mx d a.aJ e),?_⟩;simp only[List.length_append,List.length_singleton];omega
       .simp only[l,decide_false,cond_false];exact w _ ⟨m.pass (.inl (by simpa using l)),x⟩
      .obtain⟨d,u⟩:=s;obtain⟨i,c0⟩:=i;have k:g=true:=k;subst k;refine r (d,u) ⟨⟨i.qE,λM a c q=>by simpa using (i.no M).2 a c (by simpa using q)⟩,c0⟩ ?_;cases u
       .have N:(λa=>decide (a∈d))=(λa=>decide (a∈n)):=funext (i.no rfl).1;simp only[N];simp
       .have:=i.yes rfl;simp;omega
     .have z:=A.done (λa c q=>by simpa using E k a c (by simpa using q));refine⟨@ite Int (∀h∈t.Links,ir t.cH t.Links h.aO) (Classical.propDecidable _) 0 10,(hH (λa:aQ=>!decide (a.aO∈n)) (some 10) (λC a bf s=>by simp only[ob,aU]) _ _ _).trans ?_,rfl⟩;by_cases o:∀h∈t.Links,ir t.cH t.Links h.aO
      .rw[if_pos o,hS.2 (λa c=>by have:=(z a.aO).2 (o a c);simpa using this)];rfl
      .rw[if_neg o]
       have:t.Links.any (λa:aQ=>!decide (a.aO∈n))=true:=by
        refine Classical.byContradiction λK=>o λh I=>(z h.aO).1 ?_;have:=hS.1 (Bool.not_eq_true _▸K) h I;simpa using this
       rw[this];rfl
   .simp only[Mw h,aU];refine(hH (nR a) (some 8) (by intros;rfl) _ _ _).trans ?_;rw[r () trivial,jG];cases p.any (nR a)
    .cases decide (a.aJ=t.cH)<;>rfl
    .rfl
   .cases jG t.cH [] t.Links<;>rfl
 .rfl
def Lc{a b c d:Int}:decide ((0:Int)<=jv [eY a b,eY c d])=!(decide (a<b)||(decide (a=b)&&decide (c<d))):=by
 by_cases h:a<b
 .have f:eY a b = -1:=by unfold eY;rw[if_pos h]
  simp[f,jv,h]
 .by_cases i:a=b
  .subst i;have f:eY a a=0:=mo.2 rfl;by_cases e:c<d
   .have g:eY c d = -1:=by unfold eY;rw[if_pos e]
    simp[f,g,jv,e]
   .by_cases j:d<c
    .have g:eY c d=1:=by unfold eY;rw[if_neg e,if_pos j]
     simp[f,g,jv,e]
    .have g:eY c d=0:=by unfold eY;rw[if_neg e,if_neg j]
     simp[f,g,jv,e]
  .have e:b<a:=by omega
   have f:eY a b=1:=by unfold eY;rw[if_neg h,if_pos e]
   simp[f,jv,h,i]
theorem Hz(t:b0)(l:t.Links.length<=1000000):p0 t=some (jN t):=by
 unfold p0 p5;simp only[aU];unfold jN;show(bif !jD t.cH then _ else _)=_;cases jD t.cH
 .rfl
 simp only[Bool.not_true,cond_false,Bool.false_or]
 refine(hH kf (some 2) (λo a bf s=>by
  unfold kf jD jn;cases decide (1<=a.aO)&&decide (a.aO<=99)<;>rfl) _ _ _).trans ?_
 cases t.Links.any kf
 .simp only[cond_false]
  refine(qB dV (some 25) (λo a f r v s bf k i=>by
   simp only[nA k i (by omega),aU,zx,Fy,Lc];show(bif !dV f a then _ else _)=_;cases dV f a<;>rfl) _).trans ?_
  cases gd dV t.Links
  .rfl
  .simp only[cond_true];refine(yz (L:=t.Links) (λp e=>∀a,gG e a=true↔a=t.cH\/∃h∈p,h.aJ=a) (λp q=>bif jG t.cH p q then some 8 else some (@ite Int (∀h∈t.Links,ir t.cH t.Links h.aO) (Classical.propDecidable _) 0 10)) (λs _=>?_) (λp a r s bf h g j=>?_) t.Links [] _ rfl ?_).trans ?_
   .obtain⟨e,n,u⟩:=IK t l;simp only[n,aU,jG,cond_false];refine(hH (λa:aQ=>!gG e a.aO) (some 10) (by intros;rfl) _ _ _).trans ?_
    grind
   .show(bif gG s a.aJ then _ else _)=_;rw[jG];have m:(p.any (nR a)||decide (a.aJ=t.cH))=gG s a.aJ:=by
     rw[Bool.eq_iff_iff,Bool.or_eq_true,List.any_eq_true,g,decide_eq_true_eq];constructor
     .rintro(⟨c,d,b⟩|h)
      .exact .inr ⟨c,d,by simpa [nR]using b⟩
      .omega
     .rintro(h|⟨c,d,b⟩)
      .omega
      .exact .inl ⟨c,d,by simpa [nR]using b⟩
    rw[m];cases gG s a.aJ
    .refine j _ λf=>?_;rw[tF,Bool.or_eq_true,decide_eq_true_eq,g]
     grind
    .rfl
   .intro a;rw[tF];simp[gG,ay]
   .grind
 .rfl
structure lY(t:b0):Prop where
 rt:1<=t.cH/\t.cH<=99
 s9:∀h∈t.Links,(1<=h.aO/\h.aO<=99)/\1<=h.aJ/\h.aJ<=99
 iu:t.Links.Pairwise λa b=>dV a b=true
 dup:t.Links.Pairwise λa b=>a.aJ≠b.aJ
 A5:∀h∈t.Links,h.aJ≠t.cH
 Bj:∀h∈t.Links,ir t.cH t.Links h.aO
def tj(a b c:aQ)(e:dV a b=true)(d:dV b c=true):dV a c=true:=by
 simp[dV]at *;omega
theorem yB{root:Int}:∀{l p:lR},jG root p l=false↔(∀a∈p,∀b∈l,a.aJ≠b.aJ)/\(∀b∈l,b.aJ≠root)/\l.Pairwise λa b=>a.aJ≠b.aJ
 |[],p=>by simp[jG]
 |x::r,p=>by
  rw[jG,Bool.or_eq_false_iff,Bool.or_eq_false_iff,yB,hS,List.pairwise_cons];constructor
  .rintro⟨⟨g,i⟩,h,e,f⟩;refine⟨λa d b c=>?_,λb c=>?_,λb c=>h x (by simp) b c,f⟩
   .rcases List.mem_cons.1 c with rfl|c
    .have:=g a d;simpa [nR]using this
    .grind
   .grind
  .rintro⟨g,e,h,f⟩;refine⟨⟨λa d=>by simpa [nR]using g a d x (by simp),by simpa using e x (by simp)⟩,λa d b c=>?_,λb c=>e b (by simp[c]),f⟩
   grind
def y7{n:Int}:jD n=true↔1<=n/\n<=99:=by simp[jD]
def Ei:kf h=false↔(1<=h.aO/\h.aO<=99)/\1<=h.aJ/\h.aJ<=99:=by
 simp[kf,y7]
variable {t:b0}
theorem OB:jN t=0↔lY t:=by
 unfold jN;constructor
 .intro h;cases a:jD t.cH with
  |false=>simp[a]at h
  |true=>
  cases b:t.Links.any kf with
  |true=>simp[a,b]at h
  |false=>
  cases c:gd dV t.Links with
  |false=>simp[a,b,c]at h
  |true=>
  cases d:jG t.cH [] t.Links with
  |true=>simp[a,b,c,d]at h
  |false=>
  by_cases g:∀h∈t.Links,ir t.cH t.Links h.aO
  .obtain⟨d1,d2,d3⟩:=yB.1 d;exact⟨y7.1 a,λf e=>Ei.1 (hS.1 b f e),qm tj c,d3,d2,g⟩
  .grind
 .intro h;have a:jD t.cH=true:=y7.2 h.rt;have b:t.Links.any kf=false:=hS.2 λf e=>Ei.2 (h.s9 f e);have c:gd dV t.Links=true:=oG h.iu;have d:jG t.cH [] t.Links=false:=yB.2 ⟨by simp,h.A5,h.dup⟩;simp only[a,b,c,d,if_pos h.Bj];rfl
noncomputable def mL(t:b0):bH:=if jN t=0 then dh (t.cH::t.Links.map (·.aJ))else[]
def lY.nodup(h:lY t):(t.cH::t.Links.map (·.aJ)).Nodup:=by
 rw[List.nodup_cons];refine⟨λD=>?_,?_⟩
 .obtain⟨x,u,e⟩:=List.mem_map.1 D;exact h.A5 x u e
 .exact List.pairwise_map.2 h.dup
theorem IL(t:b0)(d:t.Links.length<=100000):r7 t=some (mL t):=by
 unfold r7 mL;simp only[Hz t (by omega),aU];by_cases h:jN t=0
 .simp only[h,decide_true,Bool.not_true,cond_false,if_true];refine(qC (λ_:aQ=>true) (λa:aQ=>a.aJ) t.Links 0 [t.cH] (λe a bf f c b=>by rw[pP b];rfl) (by simp;omega)).trans ?_;rw[show t.Links.filter (λ_:aQ=>true)=t.Links from List.filter_eq_self.2 λ_ _=>rfl];simp only[List.cons_append,List.nil_append,dR]
  grind
 .simp[h]
theorem J8(l:bH):∀(s:bH),s.Pairwise (·<·)->(l.foldl hf s).Pairwise (·<·)/\(∀x,x∈l.foldl hf s↔x∈s\/x∈l)/\(l.foldl hf s).length<=s.length+l.length:=by
 induction l with
 |nil=>intro s h;exact⟨h,λx=>by simp,by simp⟩
 |cons a r c=>
  intro s h;obtain⟨d,b,e⟩:=c (hf s a) (y5 h);refine⟨d,λx=>?_,?_⟩
  .rw[List.foldl_cons,b,x6,List.mem_cons]
   grind
  .have:=x7 s a
   grind
def Ej{α β:Type}{B:Int->α->(bH->Option β)->bH->Option β}{K:bH->Option β}(f:α->Int)(a:∀j x bf (s:bH),s.length<=100000->B j x bf s=bf (hf s (f x))):∀(l:List α) (j:Nat) (s:bH),s.length+l.length<=100000->bZ l j B K s=K ((l.map f).foldl hf s)
 |[],_,s,_=>rfl
 |x::r,j,s,h=>by
  have:=x7 s (f x);simp only[List.length_cons]at h;simp only[bZ];rw[a _ _ _ _ (by omega),Ej f a r (j+1) _ (by omega),List.map_cons,List.foldl_cons]
def Ih(t:b0)(f:t.Links.length<=90000):sD t=some (mL t):=by
 unfold sD mL;simp only[Ho t (by omega),aU];by_cases h:jN t=0
 .simp only[h,decide_true,Bool.not_true,cond_false,if_true];refine(Ej (λa:aQ=>a.aJ) (λg a bf i c=>by rw[F8 _ _ c];rfl) t.Links 0 [t.cH] (by simp;omega)).trans ?_;obtain⟨d,b,e⟩:=J8 (t.Links.map (·.aJ)) [t.cH] (by simp);rw[J3 d (K7 (OB.1 h).nodup) (λa=>by rw[b,J4];simp)]
 .simp[h]
theorem BQ(l:bH)(g:l.length<=1000000):ot l=some (gd (λa b=>decide (a<b)) l):=by
 unfold ot
 refine(qB (λa b:Int=>decide (a<b)) (some false) (λi c d k j m bf f e=>by
  simp only[nA f e (by omega),aU];by_cases h:d<c
  .grind
  .have:c<=d:=by omega
   simp[h,this]) _).trans ?_
 grind
end
section
structure HH(g:aK)(gT:Int):Prop where
 v:cQ g
 n:1<=g.aP.length/\(g.aP.length:Int)<=gT
 c:∀r∈g.aP,r.uu=true
 i:∀r∈g.aP,r.b7<=5*gT
def xk(n:Nat):Nat->Nat
 |0=>0
 |a+1=>xk n a+(n-1-a)
def FE:∀n,n<=9->∀a,a<=n->xk n a<=36:=by decide
structure kS(n:Nat)(M:List (List Bool)):Prop where
 len:M.length=n
 row:∀r∈M,r.length=n
 up:∀(a b:Nat) (r:ja),M[a]?=some r->r[b]?=some true->a<b
theorem kS.set{n:Nat}{M:fE}(h:kS n M){a b:Nat}{r:ja}(D:M[a]?=some r)(ab:a<b)(X:b<n):kS n (M.set a (r.set b true)):=by
 obtain⟨F,O,aa⟩:=h;have ae:r∈M:=List.mem_of_getElem? D;refine⟨by simpa using F,λq u=>?_,λi j q u Q=>?_⟩
 all_goals grind
variable {M:fE}{i:Int}
def FF{n:Nat}(b:kS n M)(c:0<=i)(hi:i<n):Ok (bq M i) (λr=>M[i.toNat]?=some r/\r.length=n):=by
 refine(hr c (by rw[b.len];exact hi)).mono λr a=>⟨a.2,b.row r a.1⟩
def Ek{n:Nat}(f:kS n M){j:Int}{d:Type}{b:d->Prop}(k:ja->ja->Option d)(h:0<=i)(p:i<j)(o:j<n)(m:∀r c,kS n (List.set M i.toNat c)->Ok (k r c) b):
  Ok (aj (bq M i) λe=>aj (bq e j) λ_=>aj (e3 e j true) λl=>k e l) b:=by
 refine Ok.aj (FF f h (by omega)) λr a=>Ok.aj (hr (by omega) (by rw[a.2];omega)) λ_ _=>?_;refine Ok.aj (uI (by omega) (by rw[a.2];omega)) λl g=>m r l ?_;rw[g.1];exact f.set a.1 (by omega) (by omega)
structure iV(R:List ck)(ls:List bU)(a b:Nat):Prop where
 at_:∀l∈ls,∃i j x y,i<j/\R[i]?=some x/\R[j]?=some y/\l.A=x.b7/\l.B=y.b7/\(i<a\/i=a/\j<b)
 ok:∀l∈ls,jF l=false
 iu:ls.Pairwise λx y=>hc x y=true
 len:ls.length<=xk R.length a+(b-(a+1))
variable {x:ck}
def Ae{R:oO}(g:R.Pairwise λa b=>a.b7<b.b7){i j:Nat}{y:ck}(c:R[i]?=some x)(e:R[j]?=some y)(f:i<j):x.b7<y.b7:=by
 obtain⟨h,rfl⟩:=List.getElem?_eq_some_iff.1 c;obtain⟨d,rfl⟩:=List.getElem?_eq_some_iff.1 e;exact List.pairwise_iff_getElem.1 g i j h d f
variable {a b:Nat}{ls:oK}
theorem iV.add{R:oO}(h:iV R ls a b)(af:R.Pairwise λa b=>a.b7<b.b7){l:bU}{y:ck}(ak:a<b)(O:R[a]?=some x)(ae:R[b]?=some y)(am:l.A=x.b7)(ai:l.B=y.b7)(an:jF l=false):iV R (ls++[l]) a (b+1):=by
 refine⟨λm u=>?_,λm u=>?_,?_,?_⟩
 .rcases List.mem_append.1 u with u|u
  .obtain⟨i,j,x,y,ag,F,Q,aa,ab,D⟩:=h.at_ m u;exact⟨i,j,x,y,ag,F,Q,aa,ab,by omega⟩
  .simp at u;subst u
   exact⟨a,b,x,y,ak,O,ae,am,ai,by omega⟩
 .rcases List.mem_append.1 u with u|u
  .exact h.ok m u
  .grind
 .refine List.pairwise_append.2 ⟨h.iu,by simp,λm u q X=>?_⟩;simp at X;subst X
  obtain⟨i,j,ao,aq,ag,F,Q,aa,ab,D⟩:=h.at_ m u;simp only[hc,Bool.or_eq_true,Bool.and_eq_true,decide_eq_true_eq];rcases D with D|⟨rfl,D⟩
  .have:=Ae af F O D;left;omega
  .rw[O]at F;cases F
   have:=Ae af Q ae D;right;omega
 .have:=h.len;simp;omega
def iV.skip{R:oO}(h:iV R ls a b):iV R ls a (b+1):=
 ⟨λm X=>by
  obtain⟨i,j,x,y,Q,u,O,D,F,aa⟩:=h.at_ m X;exact⟨i,j,x,y,Q,u,O,D,F,by omega⟩,h.ok,h.iu,by have:=h.len;omega⟩
def iV.next{R:oO}(h:iV R ls a b)(aa:b=R.length):iV R ls (a+1) 0:=
 ⟨λm X=>by
  obtain⟨i,j,x,y,Q,u,O,D,F,ab⟩:=h.at_ m X;exact⟨i,j,x,y,Q,u,O,D,F,by omega⟩,h.ok,h.iu,by have:=h.len;simp only[xk];omega⟩
theorem ID{t:bR}{E:Int}(bj:eW t)(ch:1<=E/\E<=9):Ok (sA t E) (λp=>HH p.1 E/\eW p.2):=by
 unfold sA;refine Ok.aj (qV bj) λp a1=>?_;obtain⟨n,t1⟩:=p;obtain⟨aC,N⟩:=a1;have aC:1<=n/\n<=E:=aC (by omega) (by omega) (by omega);have N:eW t1:=N;refine Ok.dR (by simp;omega) ?_;refine avh (λg (c:Int×oO×bH×Int)=>(0<=c.1/\c.1<=5*g)/\(c.2.1.length:Int)=g/\c.2.1.Pairwise (λa b=>a.b7<b.b7)/\(∀d∈c.2.1,(1<=d.b7/\d.b7<=c.1)/\d.uu=true)/\eW (bR.mk c.2.2.1 c.2.2.2)) 0 n ?_ ?_ _ _ _ rfl (by omega) (by omega) ⟨by simp,by simp,by simp,by simp,N⟩
 .rintro g ⟨id,ci,aV,A⟩ bf ab z ⟨⟨Q,R⟩,S,F,C,Z⟩ j;simp only at Q R S F C;refine Ok.aj (nQ Z (by simp) (by simp)) λaT ag=>?_;obtain⟨ag,a8⟩:=ag;have h:1<=aT.1/\aT.1<=5:=by grind
  rw[dO (by omega) (by omega)];refine Ok.aj (kG (by simp;omega)) λcj l=>j _ ⟨⟨by simp only;omega,by simp only;omega⟩,?_,?_,?_,a8⟩
  all_goals grind
 rintro g ⟨id,f,aV,A⟩ ab z ⟨⟨Q,R⟩,S,F,C,Z⟩;have aX:g=n:=z (by omega);subst aX;simp only at Q R S F C;have bV:f.length=g.toNat:=by omega
 refine Ok.dR (by simp;omega) (Ok.dR (by simp;omega) ?_);refine avh (λi (M:fE)=>M.length=g.toNat/\∀(r:Nat),(r:Int)<i->M[r]?=some (List.replicate g.toNat false)) 0 g ?_ ?_ _ _ _ (by simp;omega) (by omega) (by omega) ⟨by simp,λr bl=>by omega⟩
 .rintro i M bf G l ⟨q,k⟩ j;refine Ok.dR (by simp;omega) (Ok.aj (hr G (by omega)) λ_ _=>j _ ⟨by simpa using q,λr bl=>?_⟩);rw[List.getElem?_set];by_cases aF:i.toNat=r
  .rw[if_pos aF,if_pos (by omega)]
  .rw[if_neg aF];exact k r (by omega)
 rintro i M G l ⟨q,k⟩;have bk:i=g:=l (by omega);subst bk;have ax:kS i.toNat M:=by
  have aA:∀(a:Nat) d,M[a]?=some d->d=List.replicate i.toNat false:=λa d e=>by
   have bE:a<M.length:=(List.getElem?_eq_some_iff.1 e).1;rw[k a (by omega)]at e;exact(Option.some.inj e).symm
  refine⟨q,λd e=>?_,λa b d e h=>?_⟩
  .obtain⟨a,w⟩:=List.getElem?_of_mem e;rw[aA a d w];simp
  .rw[aA a d e]at h;have:=List.mem_of_getElem? h;simp at this
 clear q k;refine Ok.dR (by simp;omega) ?_;refine avh (λr (c:bH×Int×fE)=>eW (bR.mk c.1 c.2.1)/\kS i.toNat c.2.2) 1 i ?_ ?_ _ _ _ rfl (by omega) (by omega) ⟨Z,ax⟩
 .rintro r ⟨ba,bg,aM⟩ bf de aZ ⟨q,k⟩ j;refine au0 (λc:fE×bH×Int=>eW (bR.mk c.2.1 c.2.2)/\kS i.toNat c.1) (λs o=>j _ o) λL H=>?_;refine Ok.aj (hW q (by omega)) λbs u=>Ok.cs (λ_=>?_) λ_=>H _ ⟨u.2,k⟩;refine Ok.aj (hW u.2 (by omega)) λaa ae=>?_;exact Ek k (λ_ y=>L (List.set aM aa.1.toNat y,aa.2.L,aa.2.At)) ae.1.1 (ae.1.2.1 (by omega)) (by omega) λd aq B=>H _ ⟨ae.2,B⟩
 rintro r ⟨ba,bg,aM⟩ de aZ ⟨q,k⟩;refine Ok.aj (hW q (FD _).1) λbs u=>?_;rw[dO (n:=i+2) (by omega) (by omega)]at u;have a9:=u.1.2.1 (by omega);refine au2 (λc:Int×bH×Int×fE=>(0<=c.1/\c.1<=11)/\eW (bR.mk c.2.1 c.2.2.1)/\kS i.toNat c.2.2.2) (λc=>c.1.toNat) ⟨⟨u.1.1,by simp only;omega⟩,u.2,k⟩ (by simp only;omega) ?_;rintro⟨K,b1,cd,aR⟩ bf ⟨⟨a7,a3⟩,am,I⟩ j;simp only at a7 a3;refine Ok.cs (λJ=>?_) λJ=>?_
 .have J:0<K:=by simpa using J
  refine au0 (λc:fE×bH×Int=>eW (bR.mk c.2.1 c.2.2)/\kS i.toNat c.1) (λs o=>?_) λL H=>?_
  .rw[dO (n:=K-1) (by omega) (by omega)];exact j _ ⟨⟨by simp only;omega,by simp only;omega⟩,o.1,o.2⟩ (by simp only;omega)
  .refine Ok.aj (hW am (by omega)) λa w=>Ok.aj (hW w.2 (by omega)) λb h=>?_;have bP:=w.1.2.1 (by omega);have bA:=h.1.2.1 (by omega);have b4:=w.1.1;have bT:=h.1.1
   refine Ok.cs (λao=>?_) λ_=>H _ ⟨h.2,I⟩;have ao:a.1≠b.1:=by simpa using ao
   refine Ek I (λ_ y=>L (List.set aR _ y,b.2.L,b.2.At)) (by split<;>omega) (by split<;>split<;>omega) (by split<;>omega) λd aq B=>H _ ⟨h.2,B⟩
 clear j k ax u a9 q;refine Ok.aj (hW am (by omega)) λcp a0=>?_;have aS:aR.length=i.toNat:=I.len;refine Ok.dR (by simp;omega) ?_;refine avh (λa (c:oK×bH×Int)=>iV f c.1 a.toNat 0/\eW (bR.mk c.2.1 c.2.2)) 0 i ?_ ?_ _ _ _ (by rw[aS];omega) (by omega) (by omega) ⟨⟨by simp,by simp,by simp,by simp⟩,a0.2⟩
 .rintro a ⟨ls,be,bh⟩ bf W aw ⟨m,P⟩ j;refine Ok.dR (by simp;omega) ?_;refine avh (λb (c:oK×bH×Int)=>iV f c.1 a.toNat b.toNat/\eW (bR.mk c.2.1 c.2.2)) 0 i ?_ ?_ _ _ _ (by rw[aS];omega) (by omega) (by omega) ⟨m,P⟩
  .rintro b ⟨ls,aI,aG⟩ bx T ak ⟨v,D⟩ a6;have v:iV f ls a.toNat b.toNat:=v;have D:eW (bR.mk aI aG):=D;have bc:iV f ls a.toNat (b+1).toNat:=by rw[show(b+1).toNat=b.toNat+1 by omega];exact v.skip
   refine au0 (λc:bH×Int×oK=>eW (bR.mk c.1 c.2.1)/\iV f c.2.2 a.toNat (b+1).toNat) (λs o=>a6 _ ⟨o.2,o.1⟩) λbF az=>?_;refine Ok.aj (FF I W (by omega)) λcn ar=>Ok.aj (hr T (by rw[ar.2];omega)) λK J=>?_;cases K with
   |false=>exact az _ ⟨D,bc⟩
   |true=>
    have a4:a.toNat<b.toNat:=I.up _ _ _ ar.1 J.2;simp only[Bool.not_true,cond_false];refine Ok.aj (hr W (by omega)) λx aU=>Ok.aj (hr T (by omega)) λaf aY=>Ok.aj (nQ D (by simp) (by simp)) λaE U=>?_;have bW:0<=aE.1/\aE.1<=1000:=by
     have:=U.1;simp only[List.mem_cons,List.not_mem_nil,or_false]at this;omega
    have a5:ls.length<=36+9:=by
     have:=v.len;have:=FE f.length (by omega) a.toNat (by omega);omega
    refine au0 (λc:bH×Int×Int×Int=>eW (bR.mk c.1 c.2.1)/\(1<=c.2.2.1/\c.2.2.1<=1000)/\1<=c.2.2.2/\c.2.2.2<=1000) (λs o=>?_) λbY aD=>?_
    .obtain⟨cb,ca,cf,bu⟩:=s;obtain⟨bn,bi,br⟩:=o;simp only at bi br;refine Ok.aj (kG (by simp;omega)) λce l=>az _ ⟨bn,?_⟩;rw[l.1,show(b+1).toNat=b.toNat+1 by omega];refine v.add F a4 aU.2 aY.2 rfl rfl ?_;simp only[jF,o6];simp;omega
    .refine Ok.cs (λ_=>?_) λ_=>aD _ ⟨U.2,by simp only;omega,by simp only;omega⟩;refine Ok.aj (qV U.2) λbJ V=>Ok.aj (nQ V.2 (by simp) (by simp)) λbD Y=>Ok.aj (qV Y.2) λaq B=>Ok.aj (nQ B.2 (by simp) (by simp)) λbL aB=>aD _ ⟨aB.2,?_,?_⟩
     .have ab:=V.1 (by omega) (by omega) (by omega);have z:=Y.1
      simp only[List.mem_cons,List.not_mem_nil,or_false]at z ⊢;omega
     .have ab:=V.1 (by omega) (by omega) (by omega);have z:=Y.1;have bv:=B.1 (by omega) (by omega) (by omega);have aW:=aB.1
      simp only[List.mem_cons,List.not_mem_nil,or_false]at z aW ⊢;omega
  .rintro b ⟨ls,aI,aG⟩ T ak ⟨v,D⟩;have h:b=i:=ak (by omega);subst h;refine j _ ⟨?_,D⟩;rw[show(a+1).toNat=a.toNat+1 by omega];exact v.next (by omega)
 .rintro a ⟨ls,be,bh⟩ W aw ⟨m,P⟩;have w:a=i:=aw (by omega);subst w;have m:iV f ls a.toNat 0:=m;have a5:ls.length<=36:=by
   have:=m.len;have:=FE f.length (by omega) a.toNat (by omega);omega
  refine Ok.s ⟨⟨⟨?_,?_,λd e=>?_,F,m.ok,λy X=>?_,λy X=>?_,m.iu⟩,⟨?_,?_⟩,λd e=>(C d e).2,λd e=>?_⟩,P⟩
  .show f.length<=24;omega
  .show ls.length<=60;omega
  .have:=(C d e).1;omega
  .obtain⟨i,g,x,af,G,l,O,ai,an,_⟩:=m.at_ y X;exact⟨tE.2 ⟨x,List.mem_of_getElem? l,ai.symm⟩,tE.2 ⟨af,List.mem_of_getElem? O,an.symm⟩⟩
  .obtain⟨i,g,x,af,G,l,O,ai,an,_⟩:=m.at_ y X;have:=Ae F l O G;omega
  .show 1<=f.length;omega
  .show(f.length:Int)<=E;omega
  .have:=(C d e).1;omega
end
section
variable {g:aK}{t:bR}
def Jp(b:eW t)(q:g.aP.length<=1000):Ok (sS t g) (λp=>(p.1∈ids g\/p.1∈[0,98,100])/\eW p.2):=by
 unfold sS;refine au0 (λc:Bool×bH×Int=>eW (bR.mk c.2.1 c.2.2)/\(c.1=false->1<=g.aP.length)) (λs k=>?_) λn e=>?_
 .obtain⟨r,o,A⟩:=s;obtain⟨h,d⟩:=k;refine Ok.cs (λ_=>?_) λj=>?_
  .exact Ok.aj (nQ h (by simp) (by simp)) λi a=>Ok.s ⟨.inr a.1,a.2⟩
  .have d:=d j;refine Ok.aj (hW h (by omega)) λi a=>Ok.aj (hr a.1.1 (a.1.2.1 (by omega))) λm l=>Ok.s ⟨.inl ?_,a.2⟩;exact List.mem_map.2 ⟨m,l.1,rfl⟩
 .refine Ok.cs (λ_=>e _ ⟨b,λb=>by cases b⟩) λf=>?_;have f:¬((g.aP.length:Int)=0):=by simpa using f
  exact Ok.aj (hW b (by omega)) λi a=>e _ ⟨a.2,λ_=>by omega⟩
def IM{c:Type}{b:c->Prop}{k:Int×bR->ck->Option c}(e:eW t)(h:1<=g.aP.length/\g.aP.length<=1000)(f:∀p r,eW p.2->r∈g.aP->r.b7∈ids g->Ok (k p r) b):
  Ok (aj (gW t (g.aP.length:Int)) λp=>aj (bq g.aP p.1) λr=>k p r) b:=
 Ok.aj (hW e (by omega)) λp a=>Ok.aj (hr a.1.1 (a.1.2.1 (by omega))) λr d=>f p r a.2 d.1 (List.mem_map.2 ⟨r,d.1,rfl⟩)
theorem Ld{n:Int}(o:eW t)(s:g.aP.length<=1000)(u:0<=n/\n<=1000):Ok (s7 t g n) (λp=>(p.1.Pairwise (·<·)/\(∀x∈p.1,x∈ids g)/\(p.1.length:Int)<=n)/\eW p.2):=by
 unfold s7;rw[dO (by omega) (by omega)];refine Ok.aj (hW o (by omega)) λB b=>?_;have v:=b.1.2.1 (by omega);refine au2 (λa:bH×Int×bH×Int=>(a.1.Pairwise (·<·)/\(∀x∈a.1,x∈ids g)/\(a.1.length:Int)+a.2.1<=n/\0<=a.2.1)/\eW (bR.mk a.2.2.1 a.2.2.2)) (λa=>a.2.1.toNat) ⟨⟨by simp,by simp,by simp;omega,b.1.1⟩,b.2⟩ (by simp only;omega) ?_;rintro⟨m,z,r,A⟩ bf ⟨⟨c,e,j,i⟩,f⟩ l;simp only at c e j i;refine Ok.cs (λh=>?_) λh=>Ok.s ⟨⟨c,e,by simp only;omega⟩,f⟩;simp only[Bool.and_eq_true,decide_eq_true_eq]at h;refine IM f (by omega) λp q k y w=>?_;rw[F8 _ _ (by omega),aU,dO (by omega) (by omega)];have:=x7 m q.b7;refine l _ ⟨⟨y5 c,λx d=>?_,by simp only;omega,by simp only;omega⟩,k⟩ (by simp only;omega);rcases x6.1 d with rfl|d
 all_goals grind
def hO:lR->aQ->lR
 |[],x=>[x]
 |y::r,x=>if dV y x then y::hO r x else x::y::r
theorem lK:∀{l:lR} {x y:aQ},y∈hO l x↔y=x\/y∈l
 |[],x,y=>by simp[hO]
 |z::r,x,y=>by
  rw[hO];split
  .rw[List.mem_cons,lK,List.mem_cons]
   grind
  .simp
def yp:∀(l:lR) (x:aQ),(hO l x).Perm (x::l)
 |[],x=>by simp[hO]
 |z::r,x=>by
  rw[hO];split
  .exact((yp r x).cons z).trans (.swap x z r)
  .exact .refl _
def J9{a b:aQ}(d:dV a b=false)(c:a≠b):dV b a=true:=by
 cases a;cases b
 simp[dV]at *;omega
theorem EH:∀{l:lR} {x:aQ},l.Pairwise (λa b=>dV a b=true)->x∉l->(hO l x).Pairwise (λa b=>dV a b=true)
 |[],x,_,_=>by simp[hO]
 |z::r,x,h,d=>by
  rw[hO];rw[List.pairwise_cons]at h;simp only[List.mem_cons,not_or]at d;split
  .rename_i f;rw[List.pairwise_cons];refine⟨λg c=>?_,EH h.2 d.2⟩;rcases lK.1 c with rfl|c
   all_goals grind
  .rename_i f;have e:dV x z=true:=J9 (by simpa using f) (Ne.symm d.1);rw[List.pairwise_cons,List.pairwise_cons];refine⟨λg c=>?_,h⟩;rcases List.mem_cons.1 c with rfl|c
   .exact e
   .exact tj _ _ _ e (h.1 g c)
def EI:∀(p r:lR) (x:aQ),(∀y∈p,dV y x=true)->(∀y∈r.head?,dV y x=false)->hO (p++r) x=p++x::r
 |[],r,x,_,h=>by
  cases r with
  |nil=>simp[hO]
  |cons y r=>have:=h y (by simp);simp only[List.nil_append,hO,this];rfl
 |z::p,r,x,a,h=>by
  have:=a z (by simp);rw[List.cons_append,hO,if_pos this,EI p r x (λy b=>a y (by simp[b])) h];rfl
theorem My(l:lR)(x:aQ)(G:l.length<=100000):th l x=some (hO l x):=by
 unfold th;refine Ok.eq (au2 (λa:Int=>0<=a/\a<=l.length/\∀b∈l.take a.toNat,dV b x=true) (λa:Int=>((l.length:Int)-a).toNat) ⟨by omega,by omega,by simp⟩ (by omega) ?_);rintro a bf ⟨u,K,m⟩ t;refine au0 (λk:Bool=>(k=true↔∃b∈(l.drop a.toNat).head?,dV b x=true)) ?_ ?_
 .intro k p;refine Ok.cs (λj=>?_) λj=>?_
  .obtain⟨b,e,H⟩:=p.1 j;have D:a.toNat<l.length:=by
    cases i:l.drop a.toNat with
    |nil=>rw[i]at e;simp at e
    |cons z r=>have:=congrArg List.length i;simp at this;omega
   rw[dO (by omega) (by omega)];refine t _ ⟨by omega,by omega,λz d=>?_⟩ (by omega);rw[show(a+1).toNat=a.toNat+1 by omega,List.take_succ]at d;rcases List.mem_append.1 d with d|d
   all_goals simp_all
  .have kz:∀b∈(l.drop a.toNat).head?,dV b x=false:=λb e=>by
    cases B:dV b x
    .rfl
    .grind
   have y:=EI (l.take a.toNat) (l.drop a.toNat) x m kz;rw[List.take_append_drop]at y;refine Ok.aj (mq ⟨by omega,by omega,by omega⟩) λF q=>?_;refine Ok.aj (kG (by simp;omega)) λE s=>?_;refine Ok.aj (mq ⟨by omega,by omega,by omega⟩) λI o=>?_;refine Ok.aj (kG (by simp at s o q ⊢;omega)) λJ C=>Ok.s ?_
   grind
 .intro A c;refine Ok.cs (λg=>?_) λg=>c _ ?_
  .simp at g;refine Ok.aj (hr u g) λv w=>?_;have f:(l.drop a.toNat).head?=some v:=by rw[List.head?_drop,w.2]
   refine Ok.cs (λh=>c _ ?_) λh=>Ok.cs (λn=>c _ ?_) λn=>c _ ?_
   .rw[f];simp[dV]at *;left;exact h
   .rw[f];simp[dV]at *;omega
   .rw[f];simp[dV]at *;omega
  .simp_all
variable {root:Int}
def ir.mono{L L':lR}(h:∀x∈L,x∈L'){y:Int}(F:ir root L y):ir root L' y:=by
 induction F with
 |root=>exact .root
 |step x u _ D=>exact .step x (h x u) D
variable {x:Int}
def lY.reach{t:b0}(h:lY t)(D:x=t.cH\/∃h∈t.Links,h.aJ=x):ir t.cH t.Links x:=by
 rcases D with rfl|⟨y,u,rfl⟩
 .exact .root
 .exact .step y u (h.Bj y u)
def lY.add{t:b0}(h:lY t){x:aQ}(aa:(1<=x.aO/\x.aO<=99)/\1<=x.aJ/\x.aJ<=99)(Q:x.aO=t.cH\/∃h∈t.Links,h.aJ=x.aO)(D:¬(x.aJ=t.cH\/∃h∈t.Links,h.aJ=x.aJ)):lY (b0.mk t.cH (hO t.Links x)):=by
 rw[not_or]at D;have O:x∉t.Links:=λab=>D.2 ⟨x,ab,rfl⟩;have F:∀y∈t.Links,y∈hO t.Links x:=λy u=>lK.2 (.inr u);refine⟨h.rt,λy u=>?_,EH h.iu O,?_,λy u=>?_,λy u=>?_⟩
 .rcases lK.1 u with rfl|u
  .exact aa
  .exact h.s9 y u
 .refine((yp t.Links x).pairwise_iff (λ{a b} (X:a.aJ≠b.aJ)=>Ne.symm X)).2 ?_;rw[List.pairwise_cons];exact⟨λy u e=>D.2 ⟨y,u,e.symm⟩,h.dup⟩
 .rcases lK.1 u with rfl|u
  .exact D.1
  .exact h.A5 y u
 .rcases lK.1 u with rfl|u
  .exact(h.reach Q).mono F
  .exact(h.Bj y u).mono F
structure yo(g:aK)(root:Int)(t:b0):Prop where
 rt:t.cH=root
 len:t.Links.length<=200
 v:root∈ids g->lY t
 no:root∉ids g->t.Links=[]
 H7:∀h∈t.Links,iG g h.aO h.aJ=true
def Af(a:cQ g)(c:x∈ids g):1<=x/\x<=99:=by
 obtain⟨d,b,rfl⟩:=List.mem_map.1 c;exact a.ng d b
theorem Le(b:eW t)(h:cQ g):Ok (s8 t g root) (λp=>yo g root p.1/\eW p.2):=by
 unfold s8;have ae:=h.nl;rw[dO (n:=2*(g.Links.length:Int)) (by omega) (by omega),dO (by omega) (by omega)];refine Ok.aj (hW b (by omega)) λak r=>?_;have ag:=r.1.2.1 (by omega);refine au2 (λa:bH×Int×lR×bH×Int=>(yo g root (b0.mk root a.2.2.1)/\(∀x,x∈a.1↔x=root\/∃b∈a.2.2.1,b.aJ=x))/\(0<=a.2.1/\(a.1.length:Int)+a.2.1<=130/\a.2.2.1.length<=a.1.length)/\eW (bR.mk a.2.2.2.1 a.2.2.2.2)/\(0<a.2.1->1<=g.Links.length)) (λa=>a.2.1.toNat) ?_ (by simp only;omega) ?_
 .refine⟨⟨⟨rfl,by simp,λj=>⟨Af h j,by simp,by simp,by simp,by simp,by simp⟩,λ_=>rfl,by simp⟩,by simp⟩,⟨r.1.1,by simp;omega,by simp⟩,r.2,λaf=>?_⟩
  grind
 rintro⟨q,V,v,X,A⟩ bf ⟨⟨k,i⟩,⟨J,H,w⟩,B,y⟩ Z;simp only at k i J H w y;refine Ok.cs (λo=>?_) λo=>Ok.s ⟨k,B⟩;have o:0<V:=by simpa using o
 refine au0 (λa:bH×bH×Int×lR=>(yo g root (b0.mk root a.2.2.2)/\(∀x,x∈a.1↔x=root\/∃b∈a.2.2.2,b.aJ=x))/\((a.1.length:Int)<=q.length+1/\a.2.2.2.length<=a.1.length)/\eW (bR.mk a.2.1 a.2.2.1)) (λs e=>?_) λW z=>?_
 .obtain⟨am,ai,an⟩:=e;rw[dO (by omega) (by omega)]
  grind
 refine Ok.aj (hW B (by omega)) λp m=>Ok.aj (hr m.1.1 (m.1.2.1 (by have:=y o;omega))) λu Q=>?_;have E:iG g u.A u.B=true:=jk.2 ⟨u,Q.1,.inl ⟨rfl,rfl⟩⟩;refine au0 (λa:Int×Int=>iG g a.1 a.2=true) (λs e=>?_) λY C=>?_
 .obtain⟨d,f⟩:=s;have e:iG g d f=true:=e;refine au0 (λG:Bool=>G=true->d∈q/\f∉q) (λG P=>?_) λaa D=>?_
  .refine Ok.cs (λO=>?_) λ_=>z _ ⟨⟨k,i⟩,⟨by simp only;omega,w⟩,m.2⟩;obtain⟨F,I⟩:=P O;refine Ok.aj (kG (by simp;omega)) λab K=>?_;rw[My _ _ (by omega),aU,K.1];have N:=(yp v (aQ.mk d f)).length_eq;simp only[List.length_cons]at N
   have M:∀x,x∈q++[f]↔x=root\/∃b∈hO v (aQ.mk d f),b.aJ=x:=λx=>by
    rw[List.mem_append,i];constructor
    .rintro((b|⟨l,c,b⟩)|b)
     .exact .inl b
     .exact .inr ⟨l,lK.2 (.inr c),b⟩
     .simp at b;subst b;exact .inr ⟨aQ.mk d x,lK.2 (.inl rfl),rfl⟩
    .rintro(b|⟨l,c,b⟩)
     .exact .inl (.inl b)
     .rcases lK.1 c with rfl|c
      .exact .inr (by simp[<-b])
      .exact .inl (.inr ⟨l,c,b⟩)
   refine z _ ⟨⟨⟨rfl,?_,λj=>?_,λj=>?_,λl c=>?_⟩,M⟩,⟨by simp,by simp;omega⟩,m.2⟩
   .show(hO v (aQ.mk d f)).length<=200;omega
   .have T:=Af h (qU h (x5 e));have U:=Af h (qU h e)
    exact(k.v j).add (x:=aQ.mk d f) ⟨T,U⟩ ((i d).1 F) (λL=>I ((i f).2 L))
   .have:=k.no j;simp only at this;subst this;have:=(i d).1 F;simp at this;subst this;exact absurd (qU h (x5 e)) j
   .rcases lK.1 c with rfl|c
    .exact e
    .exact k.H7 l c
  .simp only[ob,aU];refine Ok.cs (λR=>D _ λS=>⟨by simpa using R,by simpa using S⟩) λ_=>D _ λb=>by cases b
 .simp only[ob,aU];exact Ok.cs (λ_=>C _ (x5 E)) λ_=>C _ E
end
end
section
set_option linter.all false
open Go
section
abbrev fO:=Int->Int->fe
def kj(c:fO):Prop:=∀x a k,c x a=some k->1<=k
def mU(c:fO):fO:=λx a=>c a x
inductive ez(c:fO)(a:Int):Int->Int->Prop
 |nil:ez c a a 0
 |snoc {x b m k:Int}:ez c a x m->c x b=some k->ez c a b (m+k)
variable {a b m:Int}
def ez.jo{c:fO}(u:kj c)(h:ez c a b m):0<=m:=by
 induction h with
 |nil=>omega
 |snoc _ hk D=>have:=u _ _ _ hk;omega
variable {x:Int}
def ez.trans{c:fO}{n:Int}(h:ez c a x m)(u:ez c x b n):ez c a b (m+n):=by
 induction u with
 |nil=>simpa using h
 |snoc _ hk D=>rw[<-Int.add_assoc];exact .snoc D hk
variable {k:Int}
def ez.one{c:fO}(h:c a b=some k):ez c a b k:=by have:=ez.snoc (.nil:ez c a a 0) h;simpa using this
def ez.rev{c:fO}(h:ez c a b m):ez (mU c) b a m:=by
 induction h with
 |nil=>exact .nil
 |@snoc x b m k _ hk u=>
  have D:ez (mU c) b x k:=.one hk;have:=D.trans u
  rwa [Int.add_comm]at this
def ez.F9{c:fO}(h:ez (mU c) a b m):ez c b a m:=h.rev
def lp(c:fO)(a b k:Int):Prop:=ez c a b k/\∀m,ez c a b m->k<=m
def lp.uniq{c:fO}(h:lp c a b k)(u:lp c a b m):k=m:=by
 have:=h.2 _ u.1;have:=u.2 _ h.1;omega
theorem FJ{c:fO}(h:kj c)(g:ez c a b m):∃k,lp c a b k/\k<=m:=by
 have j:∀(e:Nat) (m:Int),m.toNat=e->ez c a b m->∃k,lp c a b k/\k<=m:=by
  intro e;induction e using Nat.strongRecOn with
  |_ e n=>
   intro m p g;by_cases f:∀d,ez c a b d->m<=d
   .exact⟨m,⟨g,f⟩,Int.le_refl _⟩
   .have f:∃d,ez c a b d/\¬m<=d:=by grind
    obtain⟨d,i,l⟩:=f;have o:=i.jo h
    grind
 exact j _ m rfl g
open Classical in
noncomputable def dst(c:fO)(a b:Int):fe:=if d:∃k,lp c a b k then some (Classical.choose d)else none
theorem g1{c:fO}:dst c a b=some k↔lp c a b k:=by
 unfold dst;constructor
 .intro d;split at d
  all_goals grind
 .intro d;rw[dif_pos ⟨k,d⟩];exact congrArg some ((Classical.choose_spec (⟨k,d⟩:∃k,lp c a b k)).uniq d)
def yC{c:fO}(f:kj c):dst c a b=none↔∀m,¬ez c a b m:=by
 constructor
 .intro d m h;obtain⟨k,g,_⟩:=FJ f h;rw[g1.2 g]at d;cases d
 .intro d;cases e:dst c a b with
  |none=>rfl
  |some k=>exact absurd (g1.1 e).1 (d k)
def Ep{c:fO}(b:kj c)(a:Int):dst c a a=some 0:=g1.2 ⟨.nil,λm d=>d.jo b⟩
def zL{c:fO}(e:kj c)(f:ez c a b m):∃k,dst c a b=some k/\k<=m:=by
 obtain⟨k,g,d⟩:=FJ e f;exact⟨k,g1.2 g,d⟩
def xm{c:fO}(d:kj c)(e:dst c a b=some k):0<=k:=(g1.1 e).1.jo d
def MD{c:fO}(f:kj c){d i j:Int}(g:dst c a b=some i)(e:dst c b d=some j):∃k,dst c a d=some k/\k<=i+j:=
 zL f ((g1.1 g).1.trans (g1.1 e).1)
def EK{c:fO}:lp (mU c) a b k↔lp c b a k:=
 ⟨λd=>⟨d.1.F9,λm e=>d.2 m e.rev⟩,λd=>⟨d.1.rev,λm e=>d.2 m e.F9⟩⟩
def za{c:fO}(a b:Int):dst (mU c) a b=dst c b a:=by
 cases d:dst c b a with
 |some k=>exact g1.2 (EK.2 (g1.1 d))
 |none=>
  cases e:dst (mU c) a b with
  |none=>rfl
  |some k=>rw[g1.2 (EK.1 (g1.1 e))]at d;cases d
def Lh{c:fO}(i:dst c a b=some k)(h:a≠b):∃x w m,dst c a x=some m/\c x b=some w/\k=m+w:=by
 obtain⟨j,f⟩:=g1.1 i;cases j with
 |nil=>exact absurd rfl h
 |@snoc x b m w e d=>exact⟨x,w,m,g1.2 ⟨e,λl g=>by have:=f _ (.snoc g d);omega⟩,d,rfl⟩
def Dx{c:fO}(d:dst c a b=some k)(g:a≠b):∃x w m,c a x=some w/\dst c x b=some m/\k=w+m:=by
 rw[<-za]at d;obtain⟨x,w,m,e,f,h⟩:=Lh d (Ne.symm g);rw[za]at e;exact⟨x,w,m,f,e,by omega⟩
def CA{c:fO}(e:kj c){w:Int}(f:c a x=some w)(d:dst c x b=some m):∃k,dst c a b=some k/\k<=w+m:=
 zL e ((ez.one f).trans (g1.1 d).1)
def eM(t:aK):fO:=λx a=>if iG t x a then some (gz t x a).1 else none
variable {t:aK}
theorem xN(a:cQ t){y:Int}(e:iG t x y=true):1<=(gz t x y).1/\(gz t x y).1<=1000:=by
 obtain⟨c,b,d⟩:=jk.1 e;have f:fZ c x y=true:=by simp[fZ];exact d
 rw[ji a b f];have:=a.A8 c b;simp only[jF,Bool.or_eq_false_iff,Bool.not_eq_false',o6,Bool.and_eq_true,decide_eq_true_eq]at this;unfold hZ
 grind
def jl(b:cQ t):kj (eM t):=λx d k a=>by
 unfold eM at a;split at a
 .rename_i c;cases a;exact(xN b c).1
 .cases a
theorem jj{y:Int}:eM t x y=some k↔iG t x y=true/\(gz t x y).1=k:=by
 unfold eM
 grind
def nS(a:cQ t){y:Int}(b:eM t x y=some k):1<=k/\k<=1000:=by
 obtain⟨c,rfl⟩:=jj.1 b;exact xN a c
def kE(a:cQ t){y:Int}(c:eM t x y=some k):x∈ids t/\y∈ids t:=by
 obtain⟨b,_⟩:=jj.1 c;exact⟨qU a (x5 b),qU a b⟩
def ez.ids{t:aK}(u:cQ t){a b m:Int}(h:ez (eM t) a b m)(D:a∈ids t):b∈ids t:=by
 cases h with
 |nil=>exact D
 |snoc _ hk=>exact(kE u hk).2
end
section
def eT{α:Type}(l:List (Int×α)):Prop:=(l.map (·.1)).Nodup
variable {α:Type}{l:List (Int×α)}
theorem Li{n:Int}{v:α}(a:ay l n=some v):(n,v)∈l:=by
 induction l with
 |nil=>simp[ay]at a
 |cons p r b=>
  rw[fP]at a;split at a
  .grind
  .grind
def yD{n:Int}{v:α}(b:eT l)(a:(n,v)∈l):ay l n=some v:=by
 induction l with
 |nil=>simp at a
 |cons p r c=>
  simp only[eT,List.map_cons,List.nodup_cons]at b;rw[fP];rcases List.mem_cons.1 a with rfl|a
  .rw[if_pos rfl]
  .have:p.1≠n:=λd=>b.1 (by rw[d];exact List.mem_map.2 ⟨_,a,rfl⟩);rw[if_neg this];exact c b.2 a
theorem kY{n:Int}:(ay l n).isSome=true↔n∈l.map (·.1):=by
 induction l with
 |nil=>simp[ay]
 |cons p r b=>
  rw[fP];by_cases a:p.1=n
  .simp[a]
  .grind
theorem Lj{n m:Int}{v:α}:m∈(bc l n v).map (·.1)↔m=n\/m∈l.map (·.1):=by
 rw[<-kY,<-kY,gx]
 grind
theorem nL{n:Int}{v:α}(a:eT l):eT (bc l n v):=by
 induction l with
 |nil=>simp[bc,eT]
 |cons p r c=>
  simp only[eT,List.map_cons,List.nodup_cons]at a;simp only[bc];split
  .rename_i b;subst b;simp only[eT,List.map_cons,List.nodup_cons];exact a
  .rename_i b;simp only[eT,List.map_cons,List.nodup_cons];refine⟨λe=>?_,c a.2⟩;rcases Lj.1 e with d|d
   all_goals grind
theorem yE{n:Int}(c:eT l)(m:Int):ay (h6 l n) m=if m=n then none else ay l m:=by
 induction l with
 |nil=>simp[h6,ay]
 |cons p r e=>
  simp only[eT,List.map_cons,List.nodup_cons]at c;simp only[h6];by_cases a:p.1=n
  .rw[if_pos a];by_cases b:m=n
   .rw[if_pos b];cases d:ay r m with
    |none=>rfl
    |some v=>exact absurd (kY.1 (by rw[d];rfl)) (by rw[b,<-a];exact c.1)
   .rw[if_neg b,fP,if_neg (λf=>b (by rw[<-f,a]))]
  .rw[if_neg a,fP,fP,e c.2]
   grind
def ME{n:Int}(a:eT l):eT (h6 l n):=by
 induction l with
 |nil=>exact a
 |cons p r b=>
  simp only[eT,List.map_cons,List.nodup_cons]at a;simp only[h6];split
  .exact a.2
  .rename_i d;simp only[eT,List.map_cons,List.nodup_cons];refine⟨λc=>a.1 ?_,b a.2⟩;have:=kY.2 c;rw[yE a.2]at this;split at this
   .cases this
   .exact kY.1 this
variable {V:bH}
def eT.len(F:eT l)(h:∀n v,ay l n=some v->n∈V):l.length<=V.length:=by
 have:=BP F λx u=>by
  obtain⟨v,D⟩:=Option.isSome_iff_exists.1 (kY.2 u);exact h x v D
 simpa using this
theorem eT.all(Q:eT l)(ab:V.Nodup)(h:∀n v,ay l n=some v->n∈V)(ae:V.length<=l.length){x:Int}(X:x∈V):(ay l x).isSome=true:=by
 refine Classical.byContradiction λF=>?_
 have O:∀y∈l.map (·.1),y∈V.erase x:=λy D=>by
  obtain⟨v,u⟩:=Option.isSome_iff_exists.1 (kY.2 D);refine(List.mem_erase_of_ne λe=>F ?_).2 (h y v u);rw[<-e,u];rfl
 have aa:=BP Q O
 grind
def uS(m:List (Int×Int))(n v b:Int):Bool:=((decide (b=(0:Int)))||((decide (v<((ay m b).getD (0:Int))))||((decide (v=((ay m b).getD (0:Int))))&&(decide (n<b)))))
def ri(m:List (Int×Int)):Int->Int->Int->fe:=λb c a=>bif uS m b c a then some b else some a
theorem Dy{m:List (Int×Int)}(w:∀n v,ay m n=some v->n≠0):∀(l:List (Int×Int)) (s:Int),(∀p∈l,ay m p.1=some p.2)->(s=0\/∃k,ay m s=some k)->
  ∃b,gX (ri m) l s=some b/\(b=s\/∃v,(b,v)∈l)/\(l≠[]->b≠0)/\(s≠0->b≠0)/\∀n v,((n,v)∈l\/(n=s/\s≠0/\ay m s=some v))->∀k,ay m b=some k->k<v\/(k=v/\b<=n)
 |[],s,_,B=>⟨s,rfl,.inl rfl,by simp,id,λn v e k a=>by
   rcases e with e|⟨rfl,_,e⟩
   .simp at e
   .rw[a]at e;cases e;exact .inr ⟨rfl,Int.le_refl _⟩⟩
 |(n,v)::r,s,u,B=>by
  have i:=u (n,v) (by simp);have D:=w n v i;have step:∃c,ri m n v s=some c/\(c=n\/c=s)/\c≠0/\(∀k,ay m c=some k->k<v\/(k=v/\c<=n))/\(s≠0->∀f,ay m s=some f->∀k,ay m c=some k->k<f\/(k=f/\c<=s)):=by
   unfold ri;cases d:uS m n v s with
   |true=>
    refine⟨n,rfl,.inl rfl,D,λk a=>by rw[i]at a;cases a;exact .inr ⟨rfl,Int.le_refl _⟩,λN f h k a=>?_⟩;rw[i]at a;cases a
    simp only[uS,h,Option.getD_some,Bool.or_eq_true,Bool.and_eq_true,decide_eq_true_eq]at d;rcases d with d|d|⟨d,J⟩
    .omega
    .exact .inl d
    .omega
   |false=>
    simp only[uS,Bool.or_eq_false_iff,Bool.and_eq_false_iff,decide_eq_false_iff_not]at d;obtain⟨z,o,t⟩:=d;refine⟨s,rfl,.inr rfl,z,λk a=>?_,λ_ f h k a=>by rw[h]at a;cases a;exact .inr ⟨rfl,Int.le_refl _⟩⟩;rw[a]at o t;simp only[Option.getD_some]at o t;by_cases P:k=v
    .omega
    .omega
  obtain⟨c,E,Q,g,L,K⟩:=step;have q:c=0\/∃k,ay m c=some k:=by grind
  obtain⟨b,y,H,G,j,A⟩:=Dy w r c (λp x=>u p (by simp[x])) q;refine⟨b,by simp only[gX,E];exact y,?_,λ_=>j g,λ_=>j g,λM I e k a=>?_⟩
  .grind
  ·
   obtain⟨F,C⟩:=q.resolve_left g;have O:=A c F (.inr ⟨rfl,g,C⟩) k a
   grind
def Lk{m:List (Int×Int)}(h:eT m)(y:∀n v,ay m n=some v->n≠0)(u:m≠[]):
  ∃b k,ay m b=some k/\(∀n v,ay m n=some v->k<v\/(k=v/\b<=n))/\nO m (ri m) 0=some b:=by
 have i:∀c:List (Int×Int),c.Perm m->∃b k,gX (ri m) c 0=some b/\ay m b=some k/\∀n v,ay m n=some v->k<v\/(k=v/\b<=n):=λc a=>by
  obtain⟨b,p,q,j,B,r⟩:=Dy y c 0 (λG o=>yD h (a.mem_iff.1 o)) (.inl rfl);have C:=j λz=>u (by rw[z]at a;exact a.symm.eq_nil);rcases q with rfl|⟨k,A⟩
  .omega
  .have e:=yD h (a.mem_iff.1 A);exact⟨b,k,p,e,λn v l=>r n v (.inl (a.mem_iff.2 (Li l))) k e⟩
 obtain⟨b,k,F,d,g⟩:=i m (List.Perm.refl m);refine⟨b,k,d,g,Dd λc a=>?_⟩;obtain⟨f,w,t,s,x⟩:=i c a;have D:=g f w s;have E:=x b k d;have:f=b:=by omega
 rw[t,this]
structure pl(dH:List (Int×List cL))(V:List Int)(c:fO):Prop where
 keys:∀x,(ay dH x).isSome=true↔x∈V
 len:dH.length=V.length
 nd:V.Nodup
 small:V.length<=24
 nz:∀x∈V,x≠0
 row:∀x y k,(∃s∈(ay dH x).getD [],s.dm=y/\s.fS=k)↔c x y=some k
 cs:∀x y k,c x y=some k->1<=k/\k<=1000
 vO:∀x y k,c x y=some k->y∈V
structure pg(V:List Int)(c:fO)(a:Int)(bN ij:List (Int×Int)):Prop where
 AY:eT bN
 kp:eT ij
 qo:∀x k,ay bN x=some k->x∈V/\dst c a x=some k/\k<=1000*(bN.length:Int)
 Bd:∀x k,ay ij x=some k->x∈V/\ay bN x=none/\ez c a x k/\k<=1000*(bN.length:Int)
 cl:∀x k y w,ay bN x=some k->c x y=some w->(ay bN y).isSome=true\/∃m,ay ij y=some m/\m<=k+w
 st:(ay bN a).isSome=true\/∃k,ay ij a=some k/\k<=0
variable {dH:List (Int×mZ)}
def pl.pos{c:fO}(h:pl dH V c):kj c:=λx y k u=>(h.cs x y k u).1
variable {a:Int}{bN ij:List (Int×Int)}
theorem pg.front{c:fO}(X:kj c)(h:pg V c a bN ij){z m:Int}(Q:ez c a z m):(ay bN z).isSome=true\/∃y k,ay ij y=some k/\k<=m:=by
 induction Q with
 |nil=>
  rcases h.st with q|⟨k,u,D⟩
  .exact .inl q
  .grind
 |@snoc x b m k F hk O=>
  have:=X _ _ _ hk;rcases O with q|⟨y,aa,u,D⟩
  .obtain⟨d,Z⟩:=Option.isSome_iff_exists.1 q;have bA:=(g1.1 (h.qo x d Z).2.1).2 _ F;rcases h.cl x d b k Z hk with q|⟨ab,u,D⟩
   all_goals grind
  .grind
def pg.done{c:fO}(Q:kj c)(h:pg V c a bN ij)(O:∀z m,ez c a z m->(ay bN z).isSome=true)(x:Int):ay bN x=dst c a x:=by
 cases Z:dst c a x with
 |some k=>
  obtain⟨F,u⟩:=Option.isSome_iff_exists.1 (O x k (g1.1 Z).1);have:=(h.qo x F u).2.1;rw[Z]at this;cases this;exact u
 |none=>
  cases D:ay bN x with
  |none=>rfl
  |some k=>have:=(h.qo x k D).2.1;rw[Z]at this;cases this
def uK{n:Int}(a : -1000000<=n)(b:n<=4000000000):an n=n:=by unfold an;rw[IntKind.wrap_i64];omega
theorem GG{c:fO}(p:pl dH V c)(N:a∈V):
  Ok (lE dH a) (λl=>eT l/\(∀x,ay l x=dst c a x)/\∀x k,dst c a x=some k->0<=k/\k<=24000):=by
 have I:=p.pos
 have fin:∀bN ij,pg V c a bN ij->(∀j m,ez c a j m->(ay bN j).isSome=true)->eT bN/\(∀x,ay bN x=dst c a x)/\∀x k,dst c a x=some k->0<=k/\k<=24000:=λbN ij h F=>by
  have ai:=h.done I F;refine⟨h.AY,ai,λx k q=>⟨xm I q,?_⟩⟩;rw[<-ai x]at q;have O:=(h.qo x k q).2.2;have E:=h.AY.len (V:=V) λt w A=>(h.qo t w A).1;have:=p.small;omega
 unfold lE;rw[show(ay dH a).isSome=true from(p.keys a).2 N];simp only[Bool.not_true,cond_false];refine au0 (λs=>eT s.1/\(∀x,ay s.1 x=dst c a x)/\∀x k,dst c a x=some k->0<=k/\k<=24000) (λs B=>.s B) λaM ae=>?_;refine au2 (λs=>pg V c a s.1 s.2) (λs=>V.length+1-s.1.length) ?_ (by have:=p.small;omega) ?_
 .refine⟨List.nodup_nil,by simp[eT,bc],λx k q=>by simp[ay]at q,λx k q=>?_,λx k b Z q=>by simp[ay]at q,.inr ⟨0,by rw[gx,if_pos rfl],Int.le_refl _⟩⟩;rw[gx]at q;split at q
  .rename_i f;subst f;cases q;exact⟨N,rfl,.nil,by simp⟩
  .simp[ay]at q
 rintro⟨bN,ij⟩ bf h af;simp only at h af ⊢;refine Ok.cs (λO=>?_) λO=>?_
 .have aq:ij≠[]:=λf=>by simp[f]at O
  have aB:∀t w,ay ij t=some w->t≠0:=λt w A=>p.nz t (h.Bd t w A).1;obtain⟨am,k,ab,az,aD⟩:=Lk h.kp aB aq;refine Ok.aj (P:=λx=>x=am) ⟨am,aD,rfl⟩ λx ao=>?_;subst ao;simp only[ab,Option.getD_some];obtain⟨aW,aC,Y,aX⟩:=h.Bd x k ab
  have aZ:dst c a x=some k:=g1.2 ⟨Y,λm aG=>by
   rcases h.front I aG with v|⟨b,T,o,y⟩
   .grind
   .have:=az b T o;omega⟩
  have J:(bc bN x k).length=bN.length+1:=La aC;have K:eT (bc bN x k):=nL h.AY;have g5:=Y.jo I
  have M:∀b d,ay (bc bN x k) b=some d->b∈V/\dst c a b=some d/\d<=1000*((bc bN x k).length:Int):=λb d e=>by
   rw[gx]at e;rw[J];split at e
   .grind
   .obtain⟨o,y,aa⟩:=h.qo b d e
    grind
  have aY:(bc bN x k).length<=V.length:=K.len λt w A=>(M t w A).1
  have ak:∀b,(ay bN b).isSome=true->(ay (bc bN x k) b).isSome=true:=λb e=>by
   rw[gx];split
   .rfl
   .exact e
  refine Ok.cs (λE=>ae _ ?_) λE=>?_
  ·
   have E:(bc bN x k).length=dH.length:=by have:=of_decide_eq_true E;omega
   have F:∀j∈V,(ay (bc bN x k) j).isSome=true:=λj aI=>K.all p.nd (λt w A=>(M t w A).1) (by rw[E,p.len];exact Nat.le_refl _) aI
   have aE:∀j m,ez c a j m->j∈V:=λj m n=>by
    cases n with
    |nil=>exact N
    |snoc _ q=>exact p.vO _ _ _ q
   refine fin _ [] ⟨K,List.nodup_nil,M,λb d e=>by simp[ay]at e,λb d j Z e n=>.inl (F j (p.vO _ _ _ n)),.inl (F a N)⟩ λj m n=>F j (aE j m n)
  .refine au7 (L:=(ay dH x).getD []) (λX m=>eT m/\(∀b d,ay m b=some d->b∈V/\ay (bc bN x k) b=none/\ez c a b d/\d<=1000*((bc bN x k).length:Int))/\(∀b d,b≠x->ay ij b=some d->∃i,ay m b=some i/\i<=d)/\
    ∀s∈X,(ay (bc bN x k) s.dm).isSome=true\/∃i,ay m s.dm=some i/\i<=k+s.fS) ?_ _ ?_ ?_
   .rintro X s a0 m aU aw ⟨G,H,D,C⟩ ax;have B:s∈(ay dH x).getD []:=by rw[aw];simp
    have U:=(p.row x s.dm s.fS).1 ⟨s,B,rfl,rfl⟩;obtain⟨aT,aR⟩:=p.cs _ _ _ U;have n:an (k+s.fS)=k+s.fS:=uK (by omega) (by have:=p.small;omega)
    refine au0 (λz=>eT z/\(∀b d,ay z b=some d->b∈V/\ay (bc bN x k) b=none/\ez c a b d/\d<=1000*((bc bN x k).length:Int))/\(∀b d,b≠x->ay ij b=some d->∃i,ay z b=some i/\i<=d)/\
     ∀r∈X++[s],(ay (bc bN x k) r.dm).isSome=true\/∃i,ay z r.dm=some i/\i<=k+r.fS) (λz aA=>ax z aA) λaV S=>?_
    refine Ok.cs (λQ=>S m ⟨G,H,D,λr g=>?_⟩) λQ=>Ok.cs (λu=>S _ ?_) λu=>S m ⟨G,H,D,λr g=>?_⟩
    .rcases List.mem_append.1 g with g|g
     .exact C r g
     .rw[List.mem_singleton.1 g];exact .inl Q
    ·
     rw[n];rw[n]at u;refine⟨nL G,λb d e=>?_,λb d W e=>?_,λr g=>?_⟩
     .rw[gx]at e;split at e
      .rename_i f;subst f;cases e
       refine⟨p.vO _ _ _ U,by simpa using Q,.snoc Y U,by rw[J];omega⟩
      .exact H b d e
     .obtain⟨i,o,y⟩:=D b d W e;rw[gx];by_cases f:b=s.dm
      .rw[if_pos f];refine⟨_,rfl,?_⟩;subst f;rw[o]at u;simp at u;omega
      .rw[if_neg f];exact⟨i,o,y⟩
     .rw[gx m];by_cases f:r.dm=s.dm
      .rcases List.mem_append.1 g with g|g
       .rcases C r g with v|⟨i,o,y⟩
        .exact .inl v
        .right;rw[if_pos f];refine⟨_,rfl,?_⟩;rw[f]at o;rw[o]at u;simp at u;omega
       .rw[List.mem_singleton.1 g,if_pos rfl];exact .inr ⟨_,rfl,Int.le_refl _⟩
      .rw[if_neg f];rcases List.mem_append.1 g with g|g
       .exact C r g
       .exact absurd (by rw[List.mem_singleton.1 g]) f
    .rcases List.mem_append.1 g with g|g
     .exact C r g
     .rw[List.mem_singleton.1 g];right;rw[n]at u;simp only[Bool.or_eq_false_iff,Bool.not_eq_false',decide_eq_false_iff_not]at u;obtain⟨i,ag⟩:=Option.isSome_iff_exists.1 u.1;refine⟨i,ag,?_⟩;have:=u.2;rw[ag]at this;simp at this;omega
   .refine⟨ME h.kp,λb d e=>?_,λb d W e=>⟨d,by rw[yE h.kp,if_neg W];exact e,Int.le_refl _⟩,λs B=>by simp at B⟩;rw[yE h.kp]at e;split at e
    .cases e
    .rename_i f;obtain⟨o,y,aa,aS⟩:=h.Bd b d e;exact⟨o,by rw[gx,if_neg f];exact y,aa,by rw[J];omega⟩
   .rintro m ⟨G,H,D,C⟩;refine af _ ⟨K,G,M,H,λb d j Z e n=>?_,?_⟩ (by simp only[J];omega)
    .rw[gx]at e;split at e
     .rename_i f;subst f;cases e
      obtain⟨s,B,rfl,rfl⟩:=(p.row _ _ _).2 n;exact C s B
     .rcases h.cl b d j Z e n with v|⟨z,o,y⟩
      .exact .inl (ak j v)
      .by_cases f:j=x
       .left;rw[gx,if_pos f];rfl
       .obtain⟨i,R,ar⟩:=D j z f o;exact .inr ⟨i,R,by omega⟩
    .rcases h.st with v|⟨T,o,y⟩
     .exact .inl (ak a v)
     .by_cases f:a=x
      .left;rw[gx,if_pos f];rfl
      .obtain⟨i,R,ar⟩:=D a T f o;exact .inr ⟨i,R,by omega⟩
 ·
  have aF:ij=[]:=by
   have:=of_decide_eq_false O;exact List.eq_nil_of_length_eq_zero (by omega)
  subst aF;refine ae _ (fin _ _ h λj m n=>?_);rcases h.front I n with v|⟨b,k,v,_⟩
  .exact v
  .simp[ay]at v
def EL(b:(ay dH a).isSome=false):lE dH a=some []:=by
 unfold lE;rw[b];rfl
end
section
theorem CB{α:Type}{d:α->α->Int}(n:∀a b c,d a b<0->d b c<0->d a c<0):∀{l:List α},(l.Pairwise λa b=>d a b<0\/d b a<0)->(h2 d l).Pairwise λa b=>d a b<0
 |[],_=>List.Pairwise.nil
 |x::r,h=>by
  rw[List.pairwise_cons]at h;have g:=CB n h.2;have i:∀e∈h2 d r,d x e<0\/d e x<0:=λe o=>h.1 e ((l8 d r).mem_iff.1 o);simp only[h2];generalize h2 d r=j at g i;clear h;induction j with
  |nil=>simp[mK]
  |cons e j p=>
   rw[List.pairwise_cons]at g;simp only[mK];split
   .rename_i m;rw[List.pairwise_cons];refine⟨λk f=>?_,p g.2 λk f=>i k (by simp[f])⟩;rcases List.mem_cons.1 ((xC d x j).mem_iff.1 f)with rfl|f
    all_goals grind
   .rename_i m;have q:=(i e (by simp)).resolve_right m;rw[List.pairwise_cons];refine⟨λk f=>?_,List.pairwise_cons.2 g⟩
    grind
def CX{α:Type}{c:α->α->Int}:∀{l:List α},(l.Pairwise λa b=>c a b<0)->lV c l=true
 |[],_=>rfl
 |[x],_=>rfl
 |a::b::r,h=>by
  rw[List.pairwise_cons]at h;simp only[lV,Bool.and_eq_true,decide_eq_true_eq];exact⟨h.1 b (by simp),CX h.2⟩
theorem Jt{α:Type}(f:α->Int){a b:List α}(e:a.Pairwise λx y=>f x<f y)(d:b.Pairwise λx y=>f x<f y)(c:∀x,x∈a↔x∈b):a=b:=by
 induction a generalizing b with
 |nil=>
  cases b with
  |nil=>rfl
  |cons y b=>exact absurd ((c y).2 (by simp)) (by simp)
 |cons x a g=>
  cases b with
  |nil=>exact absurd ((c x).1 (by simp)) (by simp)
  |cons y b=>
   rw[List.pairwise_cons]at e d;have h:x=y:=by grind
   subst h;congr 1;refine g e.2 d.2 λi=>?_;have:=c i;simp only[List.mem_cons]at this;constructor
   .grind
   .grind
def eT.ext{α:Type}:∀{l m:List (Int×α)},eT l->l.map (·.1)=m.map (·.1)->(∀x,ay l x=ay m x)->l=m
 |[],m,_,u,_=>by
  cases m with
  |nil=>rfl
  |cons q m=>simp at u
 |(n,v)::l,[],_,u,_=>by simp at u
 |(n,v)::l,(af,ae)::m,D,u,h=>by
  simp only[List.map_cons,List.cons.injEq]at u;obtain⟨rfl,u⟩:=u;simp only[eT,List.map_cons,List.nodup_cons]at D;have X:=h n;rw[fP,fP,if_pos rfl,if_pos rfl]at X;cases X;congr 1;refine eT.ext D.2 u λx=>?_;have Q:=h x;rw[fP,fP]at Q;by_cases F:n=x
  .subst F;have aa:ay l n=none:=by
    cases O:ay l n with
    |none=>rfl
    |some a=>exact absurd (kY.1 (by rw[O];rfl)) D.1
   have ab:ay m n=none:=by
    cases O:ay m n with
    |none=>rfl
    |some a=>exact absurd (by rw[u];exact kY.1 (by rw[O];rfl)) D.1
   rw[aa,ab]
  .rwa [if_neg F,if_neg F]at Q
def cF(x:Int)(l:bU):Option cL:=if l.A=x then some ⟨l.B,l.eE⟩else if l.B=x then some ⟨l.A,l.eP⟩else none
def kU(x:Int)(l:bU):Option cL:=if l.B=x then some ⟨l.A,l.eE⟩else if l.A=x then some ⟨l.B,l.eP⟩else none
variable {t:aK}
def Er(d:cQ t)(x y k:Int):(∃s∈t.Links.filterMap (cF x),s.dm=y/\s.fS=k)↔eM t x y=some k:=by
 rw[jj];constructor
 .rintro⟨s,i,rfl,rfl⟩;obtain⟨a,b,c⟩:=List.mem_filterMap.1 i;have h:=d.lt a b;unfold cF at c;split at c
  .rename_i e;cases c
   have f:fZ a x a.B=true:=by simp[fZ,e]
   refine⟨jk.2 ⟨a,b,.inl ⟨e,rfl⟩⟩,?_⟩;rw[ji d b f];simp[hZ,e]
  .split at c
   .rename_i e g;cases c
    have f:fZ a x a.A=true:=by simp[fZ,g]
    refine⟨jk.2 ⟨a,b,.inr ⟨g,rfl⟩⟩,?_⟩;rw[ji d b f];simp[hZ,e]
   .cases c
 .rintro⟨f,rfl⟩;obtain⟨a,b,c⟩:=jk.1 f;have h:=d.lt a b;rcases c with⟨rfl,rfl⟩|⟨rfl,rfl⟩
  .refine⟨⟨a.B,a.eE⟩,List.mem_filterMap.2 ⟨a,b,by simp[cF]⟩,rfl,?_⟩;rw[ji d b (by simp[fZ])];simp[hZ]
  .refine⟨⟨a.A,a.eP⟩,List.mem_filterMap.2 ⟨a,b,by have:a.A≠a.B:=by omega
                                                  simp[cF,this]⟩,rfl,?_⟩
   have:a.A≠a.B:=by omega
   rw[ji d b (by simp[fZ])];simp[hZ,this]
def MF(d:cQ t)(x y k:Int):(∃s∈t.Links.filterMap (kU x),s.dm=y/\s.fS=k)↔mU (eM t) x y=some k:=by
 show _↔eM t y x=some k;rw[jj];constructor
 .rintro⟨s,i,rfl,rfl⟩;obtain⟨a,b,c⟩:=List.mem_filterMap.1 i;have h:=d.lt a b;unfold kU at c;split at c
  .rename_i f;cases c
   have e:fZ a a.A x=true:=by simp[fZ,f]
   refine⟨jk.2 ⟨a,b,.inl ⟨rfl,f⟩⟩,?_⟩;rw[ji d b e];simp[hZ,f]
  .split at c
   .rename_i f g;cases c
    have e:fZ a a.B x=true:=by simp[fZ,g]
    refine⟨jk.2 ⟨a,b,.inr ⟨rfl,g⟩⟩,?_⟩;have:¬a.A=a.B:=by omega
    rw[ji d b e];simp[hZ,this]
   .cases c
 .rintro⟨e,rfl⟩;obtain⟨a,b,c⟩:=jk.1 e;have h:=d.lt a b;rcases c with⟨rfl,rfl⟩|⟨rfl,rfl⟩
  .refine⟨⟨a.A,a.eE⟩,List.mem_filterMap.2 ⟨a,b,by simp[kU]⟩,rfl,?_⟩;rw[ji d b (by simp[fZ])];simp[hZ]
  .refine⟨⟨a.B,a.eP⟩,List.mem_filterMap.2 ⟨a,b,by have:a.B≠a.A:=by omega
                                                  simp[kU,this]⟩,rfl,?_⟩
   have:a.A≠a.B:=by omega
   rw[ji d b (by simp[fZ])];simp[hZ,this]
def lS(t:aK)(x:Int):mZ:=(mB t x).map λa=>⟨a,(gz t x a).1⟩
theorem x8(b:cQ t){x:Int}{s:cL}:s∈lS t x↔eM t x s.dm=some s.fS:=by
 rw[jj];simp only[lS,List.mem_map,xM b];constructor
 .grind
 .rintro⟨c,a⟩;exact⟨s.dm,c,by rw[a]⟩
def Ll(c:cQ t)(x:Int):(lS t x).Pairwise λa b=>a.dm<b.dm:=List.pairwise_map.2 (Eh c x)
abbrev lT:cL->cL->Int:=c9 [λa:cL=>a.dm]
def zb(a b:cL):lT a b<0↔a.dm<b.dm:=by rw[lT,iX];simp[c9]
theorem MG(d:cQ t)(x:Int):(t.Links.filterMap (cF x)).Pairwise λa b=>lT a b<0\/lT b a<0:=by
 have c:=IJ d x;have e:t.Links.filterMap (qZ x)=(t.Links.filterMap (cF x)).map (·.dm):=by
  rw[List.map_filterMap];congr 1;funext g;unfold qZ cF
  grind
 rw[e]at c;refine(List.pairwise_map.1 c).imp λ{a b} f=>?_;rw[zb,zb];omega
theorem Es(a:cQ t)(x:Int):gA lT (t.Links.filterMap (cF x))=some (lS t x):=by
 have f:=CB (mc _) (MG a x);have h:h2 lT (t.Links.filterMap (cF x))=lS t x:=by
  refine Jt (·.dm) (f.imp λ{d e} i=>(zb d e).1 i) (Ll a x) λb=>?_;rw[(l8 _ _).mem_iff,x8 a];constructor
  .intro c;exact(Er a x b.dm b.fS).1 ⟨b,c,rfl,rfl⟩
  .intro c;obtain⟨g,j,m,k⟩:=(Er a x b.dm b.fS).2 c;obtain⟨d,e⟩:=b;obtain⟨n,l⟩:=g
   grind
 have o:(t.Links.filterMap (cF x)).length<=60:=Nat.le_trans (List.length_filterMap_le _ _) a.nl;have:(decide ((t.Links.filterMap (cF x)).length<4611686018427387904))=true:=by simp;omega
 unfold gA;rw[CX f,this,h];rfl
theorem CY{mx:mZ->mZ}:∀(l s:List (Int×mZ)),eT l->(∀p∈l,∃row,ay s p.1=some row/\gA lT row=some (mx row))->
  ∃a,gX (λ(b:Int) (_:mZ) (c:List (Int×mZ))=>dR (ay c b).isSome (aj (gA lT ((ay c b).getD [])) λ(o:mZ)=>some (bc c b o))) l s=some a/\
   a.map (·.1)=s.map (·.1)/\∀x,ay a x=if x∈l.map (·.1)then(ay s x).map mx else ay s x
 |[],s,_,_=>⟨s,rfl,rfl,λx=>by simp⟩
 |(n,v)::l,s,hk,h=>by
  simp only[eT,List.map_cons,List.nodup_cons]at hk;obtain⟨row,e,f⟩:=h (n,v) (by simp)
  obtain⟨a,k,m,i⟩:=CY (mx:=mx) l (bc s n (mx row)) hk.2 λp d=>by
   obtain⟨r,j,g⟩:=h p (by simp[d]);have:p.1≠n:=λq=>hk.1 (by rw[<-q];exact List.mem_map.2 ⟨p,d,rfl⟩);exact⟨r,by rw[gx,if_neg this];exact j,g⟩
  refine⟨a,?_,m.trans (BT _ (by rw[e];rfl)),λx=>?_⟩
  .simp only[gX,e,Option.isSome_some,Option.getD_some,f];exact k
  .rw[i,gx]
   grind
structure um(t:aK)(g:jP):Prop where
 fw:pl g.gZ (ids t) (eM t)
 pT:pl g.nh (ids t) (mU (eM t))
 row:∀x∈ids t,ay g.gZ x=some (lS t x)
theorem FK(e:cQ t){g:List (Int×mZ)}{c:fO}{f:Int->mZ}(n:eT g)(d:∀x,ay g x=if x∈ids t then some (f x)else none)
  (p:∀x y k,(∃s∈f x,s.dm=y/\s.fS=k)↔c x y=some k) (i:∀x y k,c x y=some k->(1<=k/\k<=1000)/\x∈ids t/\y∈ids t):pl g (ids t) c where
 keys:=λx=>by rw[d];by_cases a:x∈ids t<;>simp[a]
 len:=by
  have m:(ids t).Nodup:=(uJ e).imp λa=>Int.ne_of_lt a
  have j:=n.len (V:=ids t) λq r a=>by
   rw[d]at a;split at a
   .assumption
   .cases a
  have l:=BP m (b:=g.map (·.1)) λx h=>kY.1 (by rw[d,if_pos h];rfl);rw[List.length_map]at l;omega
 nd:=(uJ e).imp λa=>Int.ne_of_lt a
 small:=nJ e
 nz:=λx h=>by
  obtain⟨o,j,rfl⟩:=List.mem_map.1 h;have:=(e.ng o j).1;omega
 row:=λx y k=>by
  rw[d];by_cases a:x∈ids t
  .grind
  .grind
 cs:=λx y k a=>(i x y k a).1
 vO:=λx y k a=>(i x y k a).2.2
theorem EM(d:cQ t):Ok (qg t) (um t):=by
 unfold qg
 have X:∀e∈t.Links,e.A∈ids t/\e.B∈ids t/\e.A≠e.B:=λe j=>by
  have q:=d.ends e j;have v:=d.lt e j;exact⟨iZ.2 q.1,iZ.2 q.2,by omega⟩
 refine au7 (λc s=>(eT s.1/\∀a,ay s.1 a=if a∈c.map (·.b7)then some []else none)/\(eT s.2/\∀a,ay s.2 a=if a∈c.map (·.b7)then some []else none)) ?_ _ ?_ ?_
 .rintro c b ai ⟨af,ag⟩ bf _ ⟨⟨q,v⟩,y,x⟩ I;refine I _ ⟨⟨nL q,λa=>?_⟩,nL y,λa=>?_⟩
  .rw[gx,v]
   grind
  .rw[gx,x]
   grind
 .exact⟨⟨List.nodup_nil,λa=>by simp[ay]⟩,List.nodup_nil,λa=>by simp[ay]⟩
 rintro⟨af,ag⟩ ⟨⟨q,v⟩,y,x⟩;simp only at q v y x ⊢;refine au7 (λc s=>(eT s.1/\∀a,ay s.1 a=if a∈ids t then some (c.filterMap (cF a))else none)/\(eT s.2/\∀a,ay s.2 a=if a∈ids t then some (c.filterMap (kU a))else none)) ?_ _ ⟨⟨q,λa=>by rw[v];rfl⟩,y,λa=>by rw[x];rfl⟩ ?_
 .rintro c b ai ⟨i,M⟩ bf S ⟨⟨k,h⟩,w,o⟩ I;simp only at k h w o ⊢;obtain⟨z,A,B⟩:=X b (by rw[S];simp);have F:c.length<=60:=by have:=d.nl;rw[S]at this;simp at this;omega
  have V:∀(p:bU->Option cL),(c.filterMap p).length<=60:=λp=>Nat.le_trans (List.length_filterMap_le _ _) F;have C:∀(p:bU->Option cL) (s:cL),dP (c.filterMap p) [s]=some (c.filterMap p++[s]):=λp s=>iB (by have:=V p;simp;omega);have ab:(ay i b.A).getD []=c.filterMap (cF b.A):=by rw[h,if_pos z];rfl
  have ae:∀e,(ay (bc i b.A e) b.B).getD []=c.filterMap (cF b.B):=λe=>by rw[gx,if_neg (Ne.symm B),h,if_pos A];rfl
  have W:(ay M b.B).getD []=c.filterMap (kU b.B):=by rw[o,if_pos A];rfl
  have Y:∀e,(ay (bc M b.B e) b.A).getD []=c.filterMap (kU b.A):=λe=>by rw[gx,if_neg B,o,if_pos z];rfl
  rw[ab,C,aU,ae,C,aU,W,C,aU,Y,C,aU];refine I _ ⟨⟨nL (nL k),λa=>?_⟩,nL (nL w),λa=>?_⟩
  .rw[gx,gx,h,List.filterMap_append];by_cases l:a=b.B
   .subst l;rw[if_pos rfl,if_pos A];simp[cF,B]
   .rw[if_neg l];by_cases n:a=b.A
    .subst n;rw[if_pos rfl,if_pos z];simp[cF]
    .rw[if_neg n];have:cF a b=none:=by simp[cF,Ne.symm n,Ne.symm l]
     simp[this]
  .rw[gx,gx,o,List.filterMap_append];by_cases n:a=b.A
   .subst n;rw[if_pos rfl,if_pos z];simp[kU,Ne.symm B]
   .rw[if_neg n];by_cases l:a=b.B
    .subst l;rw[if_pos rfl,if_pos A];simp[kU]
    .rw[if_neg l];have:kU a b=none:=by simp[kU,Ne.symm n,Ne.symm l]
     simp[this]
 rintro⟨i,M⟩ ⟨⟨k,h⟩,w,o⟩;simp only at k h w o ⊢
 have mx:∀m:List (Int×mZ),m.Perm i->∃u,gX (λ(J:Int) (_:mZ) (K:List (Int×mZ))=>dR (ay K J).isSome (aj (gA lT ((ay K J).getD [])) λ(aa:mZ)=>some (bc K J aa))) m i=some u/\
   u.map (·.1)=i.map (·.1)/\∀a,ay u a=if a∈ids t then some (lS t a)else none:=λm j=>by
  obtain⟨u,G,H,E⟩:=CY (mx:=λak=>(gA lT ak).getD []) m i ((j.map _).nodup_iff.2 k) λc F=>by
   have Q:=yD k (j.mem_iff.1 F);have r:=h c.1;rw[Q]at r;split at r
   .have r:=Option.some.inj r;exact⟨_,Q,by rw[r,Es d];rfl⟩
   .cases r
  refine⟨u,G,H,λa=>?_⟩;rw[E,h];have U:a∈m.map (·.1)↔a∈ids t:=by
   rw[(j.map _).mem_iff,<-kY,h];by_cases f:a∈ids t<;>simp[f]
  by_cases f:a∈ids t
  .rw[if_pos (U.2 f),if_pos f,if_pos f];simp[Es d]
  .rw[if_neg (λg=>f (U.1 g)),if_neg f,if_neg f]
 obtain⟨D,am,R,L⟩:=mx i (List.Perm.refl _);have T:eT D:=by rw[eT,R];exact k
 refine Ok.aj (P:=λa=>a=D) ⟨D,Dd λm j=>?_,rfl⟩ λa f=>?_
 .obtain⟨u,G,H,E⟩:=mx m j;rw[eT.ext T (R.trans H.symm) λa=>by rw[L,E]];exact G
 subst f;refine .s ⟨FK d T L (λa O N=>?_) λa O N g=>⟨nS d g,kE d g⟩,FK d w o (MF d) λa O N g=>⟨nS d g,(kE d g).2,(kE d g).1⟩,λa f=>by rw[L,if_pos f]⟩;constructor
 .rintro⟨s,Z,rfl,rfl⟩;exact(x8 d).1 Z
 .intro g;exact⟨⟨O,N⟩,(x8 d).2 g,rfl,rfl⟩
end
end
end Go.Proofs.YtmnbolcmepihlaaGreat
