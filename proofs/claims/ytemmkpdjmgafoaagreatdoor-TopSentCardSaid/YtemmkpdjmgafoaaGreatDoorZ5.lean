/- A part of the proof; the last text says of what. No condition but those that stand in each. -/
import Derived.Test.YtemmkpdjmgafoaaGreatDoorZ4
import Derived.Test.YtemmkpdjmgafoaaGreatDoorZ1
import Derived.Shelf.Sort.Plain
import Derived.Test.YtemmkpdjmgafoaaGreatDoorZ2
import Derived.Lib.BytesEntry
import Derived.Laws.Externs
namespace Go.Proofs.YtemmkpdjmgafoaaGreatDoor
set_option linter.all false
set_option maxRecDepth 100000
section
open Go Go.Proofs.Tryz
variable {au:Bool}
variable {afc:Int}
def J5{r}(a:xC afc=some r):bb au prog 148 [] [H afc] (.bool r):=by
 refine a5 func148 rfl rfl ?_;unfold xC at a;exact aj [] [(0,H afc)] []<|aj [] [(2,.bool (!decide (afc=afc)))] []<|aN
def mW{y r}(a:j4 afc y=some r):bb au prog 66 [] [H afc,H y] (H r):=by
 refine a5 func66 rfl rfl ?_;unfold j4 at a;refine aj [] [(0,H afc),(1,H y)] [] ?_;obtain⟨h,j,a⟩:=az a;refine ak [(1,aB (J5 j) OU)] [] [(5,.bool h)] ?_;obtain⟨b,i,a⟩:=az a;refine ak [(1,aB (J5 i) OU)] [] [(6,.bool b)]<|aq<|ak [] [5] [(11,.bool h)] ?_
 rcases aC a with⟨d,a⟩|⟨d,a⟩
 .refine aI d<|aq<|aj [] [(12,.bool b)] [] ?_
  rcases aC a with⟨c,a⟩|⟨c,a⟩
  .exact aI c<|aj [] [(4,H 0)] []<|aN
  exact aH c<|aK<|aj [] [(4,H (-1))] []<|aN
 refine aH d<|aK<|aq<|ak [] [6,11] [(13,.bool b)] ?_
 rcases aC a with⟨f,a⟩|⟨f,a⟩
 .exact aI f<|aj [] [(4,H 1)] []<|aN
 refine aH f<|aK<|aq<|ak [] [13] [(16,.d (afc<y))] ?_
 rcases aC a with⟨g,a⟩|⟨g,a⟩
 .exact aI g<|aj [] [(4,H (-1))] []<|aN
 refine aH g<|aK<|aq<|aj [] [(19,.d (y<afc))] [] ?_
 rcases aC a with⟨e,a⟩|⟨e,a⟩
 .exact aI e<|aj [] [(4,H 1)] []<|aN
 exact aH e<|aK<|aj [] [(4,H 0)] []<|aN
def E4{b r}(a:q4 b=some r):bb au prog 65 [] [an aJ b] (H r):=by
 refine a5 func65 rfl rfl ?_;unfold q4 at a;refine aj [] [(0,an aJ b)] []<|ak [] [] [(3,H 0)]<|aq<|ak [(1,Y (bk aJ b))] [0] [(6,an aJ b),(7,H b.length),(8,H 0)]<|aX<|aFd 6 rfl λg=>?_
 obtain⟨m,n,j,k,a⟩:=cG a;refine cO a (λc()=>[(3,H 0),(6,an aJ b),(7,H b.length),(8,H c)]) (λc()=>[]) ?_ ?_ ?_
 .exact c8
 .rintro c f l ⟨⟩ i e a;rw[j]at a;refine ak [] [] [(9,.d ((c:Int)<b.length))]<|aq<|aI (cL e)<|aK<|aq<|aX<|ak [(0,be (ix aJ (bU e)))] [9] [(5,H f)]<|ak [] [] [(14,.bool (!decide (f=0)))] ?_
  rcases aC a with⟨d,a⟩|⟨d,a⟩
  .exact aI d<|aj [] [(2,H f)] []<|aN
  exact aH d<|aK<|a7 [(0,Y (cI e g))] [8,5,14] [(8,H ((c+1:Nat):Int))]<|aT () a
 rintro c ⟨⟩ i h a;rw[k]at a;exact ak [] [] [(9,.d ((c:Int)<b.length))]<|aq<|aH (cK h)<|bQ<|aj [] [(2,H 0)] []<|aN
variable {aiG:Int}{jr:Nat}{kF:List U}
def PE{afc:uX}{i:bV->Int->ir}(oe:a3 prog jr)(og:∀(g:bV) (h:Int) (q:Int),i g h=some q->bb au prog jr [] ([.agg (jl g),H h]++kF) (H q)){r:Int×Bool}(a:wO afc aiG i=some r):bb au prog 118 [] [an bJ afc,H aiG,.cD jr kF] (.bO [H r.1,.bool r.2]):=by
 refine a5 func118 rfl rfl ?_;unfold wO at a;refine aj [] [(0,an bJ afc),(1,H aiG),(2,.cD jr kF)] []<|ak [(1,Y (bk bJ afc))] [] [(8,H afc.length)]<|ak [] [] [(9,H 0),(10,H afc.length)]<|aq<|aX ?_
 obtain⟨w,v,o,a⟩:=jL a;refine aFn a (λ(b,c)=>[(0,an bJ afc),(1,H aiG),(2,.cD jr kF),(8,H afc.length),(9,H b),(10,H c)]) (λ(b,c)=>[]) ?_ ?_
 .exact c8
 rintro t ⟨b,c⟩ a;rw[o]at a;refine aq<|ak [] [] [(17,.d (b<c))] ?_
 rcases aC a with⟨e,a⟩|⟨e,a⟩
 .refine aI e<|aK<|aX<|ak [(4,.sh (1:Int) (by decide))] [17] [(11,H (a2 (Int.fdiv (IntKind.wrap .u64 (a2 (b+c))) (2 ^ min (1:Int).toNat 64))))] ?_
  obtain⟨s,p,l,k,a⟩:=er a;refine ak [(3,be (ix bJ p)),(6,jH (og _ _ _ k) oe)] [] [(31,.d (l<0))] ?_;rcases aC a with⟨d,a⟩|⟨d,a⟩
  .exact aI d<|a7 [] [9,11,31] [(9,H (a2 ((a2 (Int.fdiv (IntKind.wrap .u64 (a2 (b+c))) (2 ^ min (1:Int).toNat 64)))+(1:Int))))]<|aT (a2 ((a2 (Int.fdiv (IntKind.wrap .u64 (a2 (b+c))) (2 ^ min (1:Int).toNat 64)))+(1:Int)),c) a
  exact aH d<|a7 [] [10,11,31] [(10,H (a2 (Int.fdiv (IntKind.wrap .u64 (a2 (b+c))) (2 ^ min (1:Int).toNat 64))))]<|aT (b,a2 (Int.fdiv (IntKind.wrap .u64 (a2 (b+c))) (2 ^ min (1:Int).toNat 64))) a
 refine aH e<|bQ ?_
 rcases aC a with⟨f,a⟩|⟨f,a⟩
 .obtain⟨u,m,j,n,a⟩:=er a;exact aj [(4,Y (ax f)),(8,be (ix bJ m)),(11,jH (og _ _ _ n) oe)] [(6,H b),(7,.d (j=0))] []<|aN
 exact aj [(4,Y (ax f))] [(6,H b),(7,.bool false)] []<|aN
variable {bZ:Nat}{cp:List U}
def adf{aed:Ew}{f:c4->dw}(dQ:a3 prog bZ)(dP:∀(e:c4) (q:Bool),f e=some q->bb au prog bZ [] ([.agg (e7 e)]++cp) (.bool q)){r:Int}(a:DS aed f=some r):bb au prog 140 [] [an g3 aed,.cD bZ cp] (H r):=by
 refine a5 func140 rfl rfl ?_;unfold DS at a;refine aj [] [(0,an g3 aed),(1,.cD bZ cp)] []<|aq<|ak [(1,Y (bk g3 aed))] [] [(7,H aed.length),(8,H 0)]<|aX<|aFd 0 rfl λh=>?_
 obtain⟨o,p,k,l,a⟩:=cG a;refine cO a (λb()=>[(0,an g3 aed),(1,.cD bZ cp),(7,H aed.length),(8,H b)]) (λb()=>[]) ?_ ?_ ?_
 .exact c8
 .rintro b s n ⟨⟩ j d a;rw[k]at a;refine ak [] [] [(9,.d ((b:Int)<aed.length))]<|aq<|aI (cL d)<|aK<|aq<|aX<|ak [] [9] [(5,H b)] ?_
  obtain⟨g,m,a⟩:=az a;refine ak [(3,be (ix g3 (bU d))),(5,jH (dP _ _ m) dQ)] [] [(16,.bool g)] ?_;rcases aC a with⟨c,a⟩|⟨c,a⟩
  .exact aI c<|aj [] [(4,H b)] []<|aN
  exact aH c<|aK<|a7 [(0,Y (cI d h))] [8,5,16] [(8,H ((b+1:Nat):Int))]<|aT () a
 rintro b ⟨⟩ j i a;rw[l]at a;exact ak [] [] [(9,.d ((b:Int)<aed.length))]<|aq<|aH (cK i)<|bQ<|aj [] [(4,H (-1))] []<|aN
variable {aed:zw}
def adD{v r}(a:An aed v=some r):bb au prog 142 [] [an eM aed,.agg (iK v)] (H r):=by
 refine a5 func142 rfl rfl ?_;unfold An at a;refine aj [(0,.al 195)] [(0,an eM aed),(3,.ptr 195 0)] [(195,.cells 49 (iK v))]<|aq<|ak [(1,Y (bk eM aed))] [] [(7,H aed.length),(8,H 0)]<|aX<|aFd 0 rfl λf=>?_
 obtain⟨o,p,i,j,a⟩:=cG a;refine cO a (λb()=>[(0,an eM aed),(3,.ptr 195 0),(7,H aed.length),(8,H b)]) (λb()=>[(195,.cells 49 (iK v))]) ?_ ?_ ?_
 .exact c8
 .rintro b e n ⟨⟩ h d a;rw[i]at a;refine ak [] [] [(9,.d ((b:Int)<aed.length))]<|aq<|aI (cL d)<|aK<|aq<|aX<|ak [] [9] [(5,H b)]<|ak [(3,be (ix eM (bU d))),(5,.xT false 49 (.agg (iK v)) (.agg (iK e)) (vv v e) (λl m k=>XY l m _ _ _ _ k))] [] [(16,.bool (vv v e))] ?_
  rcases aC a with⟨c,a⟩|⟨c,a⟩
  .exact aI c<|aj [] [(4,H b)] []<|aN
  exact aH c<|aK<|a7 [(0,Y (cI d f))] [8,5,16] [(8,H ((b+1:Nat):Int))]<|aT () a
 rintro b ⟨⟩ h g a;rw[j]at a;exact ak [] [] [(9,.d ((b:Int)<aed.length))]<|aq<|aH (cK g)<|bQ<|aj [] [(4,H (-1))] []<|aN
def adj{aed:p6}{f:c1->dw}(dQ:a3 prog bZ)(dP:∀(e:c1) (q:Bool),f e=some q->bb au prog bZ [] ([.agg (nQ e)]++cp) (.bool q)){r:Int}(a:Ad aed f=some r):bb au prog 145 [] [an dM aed,.cD bZ cp] (H r):=by
 refine a5 func145 rfl rfl ?_;unfold Ad at a;refine aj [] [(0,an dM aed),(1,.cD bZ cp)] []<|aq<|ak [(1,Y (bk dM aed))] [] [(7,H aed.length),(8,H 0)]<|aX<|aFd 0 rfl λh=>?_
 obtain⟨o,p,k,l,a⟩:=cG a;refine cO a (λb()=>[(0,an dM aed),(1,.cD bZ cp),(7,H aed.length),(8,H b)]) (λb()=>[]) ?_ ?_ ?_
 .exact c8
 .rintro b s n ⟨⟩ j d a;rw[k]at a;refine ak [] [] [(9,.d ((b:Int)<aed.length))]<|aq<|aI (cL d)<|aK<|aq<|aX<|ak [] [9] [(5,H b)] ?_
  obtain⟨g,m,a⟩:=az a;refine ak [(3,be (ix dM (bU d))),(5,jH (dP _ _ m) dQ)] [] [(16,.bool g)] ?_;rcases aC a with⟨c,a⟩|⟨c,a⟩
  .exact aI c<|aj [] [(4,H b)] []<|aN
  exact aH c<|aK<|a7 [(0,Y (cI d h))] [8,5,16] [(8,H ((b+1:Nat):Int))]<|aT () a
 rintro b ⟨⟩ j i a;rw[l]at a;exact ak [] [] [(9,.d ((b:Int)<aed.length))]<|aq<|aH (cK i)<|bQ<|aj [] [(4,H (-1))] []<|aN
def ac5{aed:sD}{f:cF->dw}(dQ:a3 prog bZ)(dP:∀(e:cF) (q:Bool),f e=some q->bb au prog bZ [] ([.agg (qV e)]++cp) (.bool q)){r:Int}(a:DR aed f=some r):bb au prog 154 [] [an b2 aed,.cD bZ cp] (H r):=by
 refine a5 func154 rfl rfl ?_;unfold DR at a;refine aj [] [(0,an b2 aed),(1,.cD bZ cp)] []<|aq<|ak [(1,Y (bk b2 aed))] [] [(7,H aed.length),(8,H 0)]<|aX<|aFd 0 rfl λh=>?_
 obtain⟨o,p,k,l,a⟩:=cG a;refine cO a (λb()=>[(0,an b2 aed),(1,.cD bZ cp),(7,H aed.length),(8,H b)]) (λb()=>[]) ?_ ?_ ?_
 .exact c8
 .rintro b s n ⟨⟩ j d a;rw[k]at a;refine ak [] [] [(9,.d ((b:Int)<aed.length))]<|aq<|aI (cL d)<|aK<|aq<|aX<|ak [] [9] [(5,H b)] ?_
  obtain⟨g,m,a⟩:=az a;refine ak [(3,be (ix b2 (bU d))),(5,jH (dP _ _ m) dQ)] [] [(16,.bool g)] ?_;rcases aC a with⟨c,a⟩|⟨c,a⟩
  .exact aI c<|aj [] [(4,H b)] []<|aN
  exact aH c<|aK<|a7 [(0,Y (cI d h))] [8,5,16] [(8,H ((b+1:Nat):Int))]<|aT () a
 rintro b ⟨⟩ j i a;rw[l]at a;exact ak [] [] [(9,.d ((b:Int)<aed.length))]<|aq<|aH (cK i)<|bQ<|aj [] [(4,H (-1))] []<|aN
def acX{afc:mJ}{aiG:bm}{i:bm->bm->ir}(oe:a3 prog jr)(og:∀(g:bm) (h:bm) (q:Int),i g h=some q->bb au prog jr [] ([.agg (dJ g),.agg (dJ h)]++kF) (H q)){r:Int×Bool}(a:z3 afc aiG i=some r):bb au prog 155 [] [an aW afc,.agg (dJ aiG),.cD jr kF] (.bO [H r.1,.bool r.2]):=by
 refine a5 func155 rfl rfl ?_;unfold z3 at a;refine aj [(0,.al 179)] [(0,an aW afc),(2,.cD jr kF),(4,.ptr 179 0)] [(179,.cells 139 (dJ aiG))]<|ak [(1,Y (bk aW afc))] [] [(8,H afc.length)]<|ak [] [] [(9,H 0),(10,H afc.length)]<|aq<|aX ?_
 obtain⟨w,v,o,a⟩:=jL a;refine aFn a (λ(b,c)=>[(0,an aW afc),(2,.cD jr kF),(4,.ptr 179 0),(8,H afc.length),(9,H b),(10,H c)]) (λ(b,c)=>[(179,.cells 139 (dJ aiG))]) ?_ ?_
 .exact c8
 rintro t ⟨b,c⟩ a;rw[o]at a;refine aq<|ak [] [] [(17,.d (b<c))] ?_
 rcases aC a with⟨e,a⟩|⟨e,a⟩
 .refine aI e<|aK<|aX<|ak [(4,.sh (1:Int) (by decide))] [17] [(11,H (a2 (Int.fdiv (IntKind.wrap .u64 (a2 (b+c))) (2 ^ min (1:Int).toNat 64))))] ?_
  obtain⟨s,p,l,k,a⟩:=er a;refine ak [(3,be (ix aW p)),(6,jH (og _ _ _ k) oe)] [] [(31,.d (l<0))] ?_;rcases aC a with⟨d,a⟩|⟨d,a⟩
  .exact aI d<|a7 [] [9,11,31] [(9,H (a2 ((a2 (Int.fdiv (IntKind.wrap .u64 (a2 (b+c))) (2 ^ min (1:Int).toNat 64)))+(1:Int))))]<|aT (a2 ((a2 (Int.fdiv (IntKind.wrap .u64 (a2 (b+c))) (2 ^ min (1:Int).toNat 64)))+(1:Int)),c) a
  exact aH d<|a7 [] [10,11,31] [(10,H (a2 (Int.fdiv (IntKind.wrap .u64 (a2 (b+c))) (2 ^ min (1:Int).toNat 64))))]<|aT (b,a2 (Int.fdiv (IntKind.wrap .u64 (a2 (b+c))) (2 ^ min (1:Int).toNat 64))) a
 refine aH e<|bQ ?_
 rcases aC a with⟨f,a⟩|⟨f,a⟩
 .obtain⟨u,m,j,n,a⟩:=er a;exact aj [(4,Y (ax f)),(8,be (ix aW m)),(11,jH (og _ _ _ n) oe)] [(6,H b),(7,.d (j=0))] []<|aN
 exact aj [(4,Y (ax f))] [(6,H b),(7,.bool false)] []<|aN
variable {f:Int->dw}
def Uc{aed:bX}(dQ:a3 prog bZ)(dP:∀(e:Int) (q:Bool),f e=some q->bb au prog bZ [] ([H e]++cp) (.bool q)){r:Int}(a:Ee aed f=some r):bb au prog 178 [] [an aJ aed,.cD bZ cp] (H r):=by
 refine a5 func178 rfl rfl ?_;unfold Ee at a;refine aj [] [(0,an aJ aed),(1,.cD bZ cp)] []<|aq<|ak [(1,Y (bk aJ aed))] [] [(7,H aed.length),(8,H 0)]<|aX<|aFd 0 rfl λh=>?_
 obtain⟨o,p,k,l,a⟩:=cG a;refine cO a (λb()=>[(0,an aJ aed),(1,.cD bZ cp),(7,H aed.length),(8,H b)]) (λb()=>[]) ?_ ?_ ?_
 .exact c8
 .rintro b s n ⟨⟩ j d a;rw[k]at a;refine ak [] [] [(9,.d ((b:Int)<aed.length))]<|aq<|aI (cL d)<|aK<|aq<|aX<|ak [] [9] [(5,H b)] ?_
  obtain⟨g,m,a⟩:=az a;refine ak [(3,be (ix aJ (bU d))),(5,jH (dP _ _ m) dQ)] [] [(16,.bool g)] ?_;rcases aC a with⟨c,a⟩|⟨c,a⟩
  .exact aI c<|aj [] [(4,H b)] []<|aN
  exact aH c<|aK<|a7 [(0,Y (cI d h))] [8,5,16] [(8,H ((b+1:Nat):Int))]<|aT () a
 rintro b ⟨⟩ j i a;rw[l]at a;exact ak [] [] [(9,.d ((b:Int)<aed.length))]<|aq<|aH (cK i)<|bQ<|aj [] [(4,H (-1))] []<|aN
def adg{aed:uX}{f:bV->dw}(dQ:a3 prog bZ)(dP:∀(e:bV) (q:Bool),f e=some q->bb au prog bZ [] ([.agg (jl e)]++cp) (.bool q)){r:Int}(a:DT aed f=some r):bb au prog 181 [] [an bJ aed,.cD bZ cp] (H r):=by
 refine a5 func181 rfl rfl ?_;unfold DT at a;refine aj [] [(0,an bJ aed),(1,.cD bZ cp)] []<|aq<|ak [(1,Y (bk bJ aed))] [] [(7,H aed.length),(8,H 0)]<|aX<|aFd 0 rfl λh=>?_
 obtain⟨o,p,k,l,a⟩:=cG a;refine cO a (λb()=>[(0,an bJ aed),(1,.cD bZ cp),(7,H aed.length),(8,H b)]) (λb()=>[]) ?_ ?_ ?_
 .exact c8
 .rintro b s n ⟨⟩ j d a;rw[k]at a;refine ak [] [] [(9,.d ((b:Int)<aed.length))]<|aq<|aI (cL d)<|aK<|aq<|aX<|ak [] [9] [(5,H b)] ?_
  obtain⟨g,m,a⟩:=az a;refine ak [(3,be (ix bJ (bU d))),(5,jH (dP _ _ m) dQ)] [] [(16,.bool g)] ?_;rcases aC a with⟨c,a⟩|⟨c,a⟩
  .exact aI c<|aj [] [(4,H b)] []<|aN
  exact aH c<|aK<|a7 [(0,Y (cI d h))] [8,5,16] [(8,H ((b+1:Nat):Int))]<|aT () a
 rintro b ⟨⟩ j i a;rw[l]at a;exact ak [] [] [(9,.d ((b:Int)<aed.length))]<|aq<|aH (cK i)<|bQ<|aj [] [(4,H (-1))] []<|aN
def adw{aed:mJ}{f:bm->dw}(dQ:a3 prog bZ)(dP:∀(e:bm) (q:Bool),f e=some q->bb au prog bZ [] ([.agg (dJ e)]++cp) (.bool q)){r:Int}(a:DX aed f=some r):bb au prog 182 [] [an aW aed,.cD bZ cp] (H r):=by
 refine a5 func182 rfl rfl ?_;unfold DX at a;refine aj [] [(0,an aW aed),(1,.cD bZ cp)] []<|aq<|ak [(1,Y (bk aW aed))] [] [(7,H aed.length),(8,H 0)]<|aX<|aFd 0 rfl λh=>?_
 obtain⟨o,p,k,l,a⟩:=cG a;refine cO a (λb()=>[(0,an aW aed),(1,.cD bZ cp),(7,H aed.length),(8,H b)]) (λb()=>[]) ?_ ?_ ?_
 .exact c8
 .rintro b s n ⟨⟩ j d a;rw[k]at a;refine ak [] [] [(9,.d ((b:Int)<aed.length))]<|aq<|aI (cL d)<|aK<|aq<|aX<|ak [] [9] [(5,H b)] ?_
  obtain⟨g,m,a⟩:=az a;refine ak [(3,be (ix aW (bU d))),(5,jH (dP _ _ m) dQ)] [] [(16,.bool g)] ?_;rcases aC a with⟨c,a⟩|⟨c,a⟩
  .exact aI c<|aj [] [(4,H b)] []<|aN
  exact aH c<|aK<|a7 [(0,Y (cI d h))] [8,5,16] [(8,H ((b+1:Nat):Int))]<|aT () a
 rintro b ⟨⟩ j i a;rw[l]at a;exact ak [] [] [(9,.d ((b:Int)<aed.length))]<|aq<|aH (cK i)<|bQ<|aj [] [(4,H (-1))] []<|aN
def adk{aed:yz}{f:cH->dw}(dQ:a3 prog bZ)(dP:∀(e:cH) (q:Bool),f e=some q->bb au prog bZ [] ([.agg (eT e)]++cp) (.bool q)){r:Int}(a:DW aed f=some r):bb au prog 183 [] [an eA aed,.cD bZ cp] (H r):=by
 refine a5 func183 rfl rfl ?_;unfold DW at a;refine aj [] [(0,an eA aed),(1,.cD bZ cp)] []<|aq<|ak [(1,Y (bk eA aed))] [] [(7,H aed.length),(8,H 0)]<|aX<|aFd 0 rfl λh=>?_
 obtain⟨o,p,k,l,a⟩:=cG a;refine cO a (λb()=>[(0,an eA aed),(1,.cD bZ cp),(7,H aed.length),(8,H b)]) (λb()=>[]) ?_ ?_ ?_
 .exact c8
 .rintro b s n ⟨⟩ j d a;rw[k]at a;refine ak [] [] [(9,.d ((b:Int)<aed.length))]<|aq<|aI (cL d)<|aK<|aq<|aX<|ak [] [9] [(5,H b)] ?_
  obtain⟨g,m,a⟩:=az a;refine ak [(3,be (ix eA (bU d))),(5,jH (dP _ _ m) dQ)] [] [(16,.bool g)] ?_;rcases aC a with⟨c,a⟩|⟨c,a⟩
  .exact aI c<|aj [] [(4,H b)] []<|aN
  exact aH c<|aK<|a7 [(0,Y (cI d h))] [8,5,16] [(8,H ((b+1:Nat):Int))]<|aT () a
 rintro b ⟨⟩ j i a;rw[l]at a;exact ak [] [] [(9,.d ((b:Int)<aed.length))]<|aq<|aH (cK i)<|bQ<|aj [] [(4,H (-1))] []<|aN
def adx{f:cT->dw}(dQ:a3 prog bZ)(dP:∀(e:cT) (q:Bool),f e=some q->bb au prog bZ [] ([.agg (iK e)]++cp) (.bool q)){r:Int}(a:wS aed f=some r):bb au prog 201 [] [an eM aed,.cD bZ cp] (H r):=by
 refine a5 func201 rfl rfl ?_;unfold wS at a;refine aj [] [(0,an eM aed),(1,.cD bZ cp)] []<|aq<|ak [(1,Y (bk eM aed))] [] [(7,H aed.length),(8,H 0)]<|aX<|aFd 0 rfl λh=>?_
 obtain⟨o,p,k,l,a⟩:=cG a;refine cO a (λb()=>[(0,an eM aed),(1,.cD bZ cp),(7,H aed.length),(8,H b)]) (λb()=>[]) ?_ ?_ ?_
 .exact c8
 .rintro b s n ⟨⟩ j d a;rw[k]at a;refine ak [] [] [(9,.d ((b:Int)<aed.length))]<|aq<|aI (cL d)<|aK<|aq<|aX<|ak [] [9] [(5,H b)] ?_
  obtain⟨g,m,a⟩:=az a;refine ak [(3,be (ix eM (bU d))),(5,jH (dP _ _ m) dQ)] [] [(16,.bool g)] ?_;rcases aC a with⟨c,a⟩|⟨c,a⟩
  .exact aI c<|aj [] [(4,H b)] []<|aN
  exact aH c<|aK<|a7 [(0,Y (cI d h))] [8,5,16] [(8,H ((b+1:Nat):Int))]<|aT () a
 rintro b ⟨⟩ j i a;rw[l]at a;exact ak [] [] [(9,.d ((b:Int)<aed.length))]<|aq<|aH (cK i)<|bQ<|aj [] [(4,H (-1))] []<|aN
def ady{aed:ri}{f:br->dw}(dQ:a3 prog bZ)(dP:∀(e:br) (q:Bool),f e=some q->bb au prog bZ [] ([.agg (kQ e)]++cp) (.bool q)){r:Int}(a:DY aed f=some r):bb au prog 215 [] [an bF aed,.cD bZ cp] (H r):=by
 refine a5 func215 rfl rfl ?_;unfold DY at a;refine aj [] [(0,an bF aed),(1,.cD bZ cp)] []<|aq<|ak [(1,Y (bk bF aed))] [] [(7,H aed.length),(8,H 0)]<|aX<|aFd 0 rfl λh=>?_
 obtain⟨o,p,k,l,a⟩:=cG a;refine cO a (λb()=>[(0,an bF aed),(1,.cD bZ cp),(7,H aed.length),(8,H b)]) (λb()=>[]) ?_ ?_ ?_
 .exact c8
 .rintro b s n ⟨⟩ j d a;rw[k]at a;refine ak [] [] [(9,.d ((b:Int)<aed.length))]<|aq<|aI (cL d)<|aK<|aq<|aX<|ak [] [9] [(5,H b)] ?_
  obtain⟨g,m,a⟩:=az a;refine ak [(3,be (ix bF (bU d))),(5,jH (dP _ _ m) dQ)] [] [(16,.bool g)] ?_;rcases aC a with⟨c,a⟩|⟨c,a⟩
  .exact aI c<|aj [] [(4,H b)] []<|aN
  exact aH c<|aK<|a7 [(0,Y (cI d h))] [8,5,16] [(8,H ((b+1:Nat):Int))]<|aT () a
 rintro b ⟨⟩ j i a;rw[l]at a;exact ak [] [] [(9,.d ((b:Int)<aed.length))]<|aq<|aH (cK i)<|bQ<|aj [] [(4,H (-1))] []<|aN
def Ug{aed v r}(a:AB aed v=some r):bb au prog 221 [] [an aJ aed,H v] (H r):=by
 refine a5 func221 rfl rfl ?_;unfold AB at a;refine aj [] [(0,an aJ aed),(1,H v)] []<|aq<|ak [(1,Y (bk aJ aed))] [] [(7,H aed.length),(8,H 0)]<|aX<|aFd 0 rfl λe=>?_
 obtain⟨l,m,h,i,a⟩:=cG a;refine cO a (λb()=>[(0,an aJ aed),(1,H v),(7,H aed.length),(8,H b)]) (λb()=>[]) ?_ ?_ ?_
 .exact c8
 .rintro b j k ⟨⟩ g d a;rw[h]at a;refine ak [] [] [(9,.d ((b:Int)<aed.length))]<|aq<|aI (cL d)<|aK<|aq<|aX<|ak [] [9] [(5,H b)]<|ak [(3,be (ix aJ (bU d)))] [] [(16,.d (v=j))] ?_
  rcases aC a with⟨c,a⟩|⟨c,a⟩
  .exact aI c<|aj [] [(4,H b)] []<|aN
  exact aH c<|aK<|a7 [(0,Y (cI d e))] [8,5,16] [(8,H ((b+1:Nat):Int))]<|aT () a
 rintro b ⟨⟩ g f a;rw[i]at a;exact ak [] [] [(9,.d ((b:Int)<aed.length))]<|aq<|aH (cK f)<|bQ<|aj [] [(4,H (-1))] []<|aN
def adh{aed:td}{f:a6->dw}(dQ:a3 prog bZ)(dP:∀(e:a6) (q:Bool),f e=some q->bb au prog bZ [] ([.agg (ej e)]++cp) (.bool q)){r:Int}(a:DU aed f=some r):bb au prog 224 [] [an cN aed,.cD bZ cp] (H r):=by
 refine a5 func224 rfl rfl ?_;unfold DU at a;refine aj [] [(0,an cN aed),(1,.cD bZ cp)] []<|aq<|ak [(1,Y (bk cN aed))] [] [(7,H aed.length),(8,H 0)]<|aX<|aFd 0 rfl λh=>?_
 obtain⟨o,p,k,l,a⟩:=cG a;refine cO a (λb()=>[(0,an cN aed),(1,.cD bZ cp),(7,H aed.length),(8,H b)]) (λb()=>[]) ?_ ?_ ?_
 .exact c8
 .rintro b s n ⟨⟩ j d a;rw[k]at a;refine ak [] [] [(9,.d ((b:Int)<aed.length))]<|aq<|aI (cL d)<|aK<|aq<|aX<|ak [] [9] [(5,H b)] ?_
  obtain⟨g,m,a⟩:=az a;refine ak [(3,be (ix cN (bU d))),(5,jH (dP _ _ m) dQ)] [] [(16,.bool g)] ?_;rcases aC a with⟨c,a⟩|⟨c,a⟩
  .exact aI c<|aj [] [(4,H b)] []<|aN
  exact aH c<|aK<|a7 [(0,Y (cI d h))] [8,5,16] [(8,H ((b+1:Nat):Int))]<|aT () a
 rintro b ⟨⟩ j i a;rw[l]at a;exact ak [] [] [(9,.d ((b:Int)<aed.length))]<|aq<|aH (cK i)<|bQ<|aj [] [(4,H (-1))] []<|aN
def adA{aed:List eR}{f:eR->dw}(dQ:a3 prog bZ)(dP:∀(e:eR) (q:Bool),f e=some q->bb au prog bZ [] ([.agg (lb e)]++cp) (.bool q)){r:Int}(a:D4 aed f=some r):bb au prog 254 [] [an eL aed,.cD bZ cp] (H r):=by
 refine a5 func254 rfl rfl ?_;unfold D4 at a;refine aj [] [(0,an eL aed),(1,.cD bZ cp)] []<|aq<|ak [(1,Y (bk eL aed))] [] [(7,H aed.length),(8,H 0)]<|aX<|aFd 0 rfl λh=>?_
 obtain⟨o,p,k,l,a⟩:=cG a;refine cO a (λb()=>[(0,an eL aed),(1,.cD bZ cp),(7,H aed.length),(8,H b)]) (λb()=>[]) ?_ ?_ ?_
 .exact c8
 .rintro b s n ⟨⟩ j d a;rw[k]at a;refine ak [] [] [(9,.d ((b:Int)<aed.length))]<|aq<|aI (cL d)<|aK<|aq<|aX<|ak [] [9] [(5,H b)] ?_
  obtain⟨g,m,a⟩:=az a;refine ak [(3,be (ix eL (bU d))),(5,jH (dP _ _ m) dQ)] [] [(16,.bool g)] ?_;rcases aC a with⟨c,a⟩|⟨c,a⟩
  .exact aI c<|aj [] [(4,H b)] []<|aN
  exact aH c<|aK<|a7 [(0,Y (cI d h))] [8,5,16] [(8,H ((b+1:Nat):Int))]<|aT () a
 rintro b ⟨⟩ j i a;rw[l]at a;exact ak [] [] [(9,.d ((b:Int)<aed.length))]<|aq<|aH (cK i)<|bQ<|aj [] [(4,H (-1))] []<|aN
def acW{afc:td}{i:a6->Int->ir}(oe:a3 prog jr)(og:∀(g:a6) (h:Int) (q:Int),i g h=some q->bb au prog jr [] ([.agg (ej g),H h]++kF) (H q)){r:Int×Bool}(a:z8 afc aiG i=some r):bb au prog 267 [] [an cN afc,H aiG,.cD jr kF] (.bO [H r.1,.bool r.2]):=by
 refine a5 func267 rfl rfl ?_;unfold z8 at a;refine aj [] [(0,an cN afc),(1,H aiG),(2,.cD jr kF)] []<|ak [(1,Y (bk cN afc))] [] [(8,H afc.length)]<|ak [] [] [(9,H 0),(10,H afc.length)]<|aq<|aX ?_
 obtain⟨w,v,o,a⟩:=jL a;refine aFn a (λ(b,c)=>[(0,an cN afc),(1,H aiG),(2,.cD jr kF),(8,H afc.length),(9,H b),(10,H c)]) (λ(b,c)=>[]) ?_ ?_
 .exact c8
 rintro t ⟨b,c⟩ a;rw[o]at a;refine aq<|ak [] [] [(17,.d (b<c))] ?_
 rcases aC a with⟨e,a⟩|⟨e,a⟩
 .refine aI e<|aK<|aX<|ak [(4,.sh (1:Int) (by decide))] [17] [(11,H (a2 (Int.fdiv (IntKind.wrap .u64 (a2 (b+c))) (2 ^ min (1:Int).toNat 64))))] ?_
  obtain⟨s,p,l,k,a⟩:=er a;refine ak [(3,be (ix cN p)),(6,jH (og _ _ _ k) oe)] [] [(31,.d (l<0))] ?_;rcases aC a with⟨d,a⟩|⟨d,a⟩
  .exact aI d<|a7 [] [9,11,31] [(9,H (a2 ((a2 (Int.fdiv (IntKind.wrap .u64 (a2 (b+c))) (2 ^ min (1:Int).toNat 64)))+(1:Int))))]<|aT (a2 ((a2 (Int.fdiv (IntKind.wrap .u64 (a2 (b+c))) (2 ^ min (1:Int).toNat 64)))+(1:Int)),c) a
  exact aH d<|a7 [] [10,11,31] [(10,H (a2 (Int.fdiv (IntKind.wrap .u64 (a2 (b+c))) (2 ^ min (1:Int).toNat 64))))]<|aT (b,a2 (Int.fdiv (IntKind.wrap .u64 (a2 (b+c))) (2 ^ min (1:Int).toNat 64))) a
 refine aH e<|bQ ?_
 rcases aC a with⟨f,a⟩|⟨f,a⟩
 .obtain⟨u,m,j,n,a⟩:=er a;exact aj [(4,Y (ax f)),(8,be (ix cN m)),(11,jH (og _ _ _ n) oe)] [(6,H b),(7,.d (j=0))] []<|aN
 exact aj [(4,Y (ax f))] [(6,H b),(7,.bool false)] []<|aN
def ac1{aed:Ew}{f:c4->dw}(dQ:a3 prog bZ)(dP:∀(b:c4) (q:Bool),f b=some q->bb au prog bZ [] ([.agg (e7 b)]++cp) (.bool q)){r:Bool}(a:Aa aed f=some r):bb au prog 55 [] [an g3 aed,.cD bZ cp] (.bool r):=by
 refine a5 func55 rfl rfl ?_;unfold Aa at a;refine aj [] [(0,an g3 aed),(1,.cD bZ cp)] [] ?_;obtain⟨c,d,a⟩:=az a;exact aj [(2,aB (adf (dQ:=dQ) (dP:=dP) d) S3)] [(4,.d (0<=c))] []<|aN
def adr{v r}(a:Ag aed v=some r):bb au prog 59 [] [an eM aed,.agg (iK v)] (.bool r):=by
 refine a5 func59 rfl rfl ?_;unfold Ag at a;refine aj [(0,.al 554)] [(0,an eM aed),(3,.ptr 554 0)] [(554,.cells 49 (iK v))] ?_;obtain⟨b,c,a⟩:=az a;exact aj [(2,aB (adD c) S4)] [(4,.d (0<=b))] []<|aN
def PG{aed:p6}{f:c1->dw}(dQ:a3 prog bZ)(dP:∀(b:c1) (q:Bool),f b=some q->bb au prog bZ [] ([.agg (nQ b)]++cp) (.bool q)){r:Bool}(a:sp aed f=some r):bb au prog 62 [] [an dM aed,.cD bZ cp] (.bool r):=by
 refine a5 func62 rfl rfl ?_;unfold sp at a;refine aj [] [(0,an dM aed),(1,.cD bZ cp)] [] ?_;obtain⟨c,d,a⟩:=az a;exact aj [(2,aB (adj (dQ:=dQ) (dP:=dP) d) S7)] [(4,.d (0<=c))] []<|aN
def Ao{aed:bX}(dQ:a3 prog bZ)(dP:∀(b:Int) (q:Bool),f b=some q->bb au prog bZ [] ([H b]++cp) (.bool q)){r:Bool}(a:su aed f=some r):bb au prog 108 [] [an aJ aed,.cD bZ cp] (.bool r):=by
 refine a5 func108 rfl rfl ?_;unfold su at a;refine aj [] [(0,an aJ aed),(1,.cD bZ cp)] [] ?_;obtain⟨c,d,a⟩:=az a;exact aj [(2,aB (Uc (dQ:=dQ) (dP:=dP) d) To)] [(4,.d (0<=c))] []<|aN
def ac2{aed:uX}{f:bV->dw}(dQ:a3 prog bZ)(dP:∀(b:bV) (q:Bool),f b=some q->bb au prog bZ [] ([.agg (jl b)]++cp) (.bool q)){r:Bool}(a:Ab aed f=some r):bb au prog 114 [] [an bJ aed,.cD bZ cp] (.bool r):=by
 refine a5 func114 rfl rfl ?_;unfold Ab at a;refine aj [] [(0,an bJ aed),(1,.cD bZ cp)] [] ?_;obtain⟨c,d,a⟩:=az a;exact aj [(2,aB (adg (dQ:=dQ) (dP:=dP) d) Sz)] [(4,.d (0<=c))] []<|aN
def IJ{aed:mJ}{f:bm->dw}(dQ:a3 prog bZ)(dP:∀(b:bm) (q:Bool),f b=some q->bb au prog bZ [] ([.agg (dJ b)]++cp) (.bool q)){r:Bool}(a:ux aed f=some r):bb au prog 120 [] [an aW aed,.cD bZ cp] (.bool r):=by
 refine a5 func120 rfl rfl ?_;unfold ux at a;refine aj [] [(0,an aW aed),(1,.cD bZ cp)] [] ?_;obtain⟨c,d,a⟩:=az a;exact aj [(2,aB (adw (dQ:=dQ) (dP:=dP) d) SA)] [(4,.d (0<=c))] []<|aN
def PI{aed:yz}{f:cH->dw}(dQ:a3 prog bZ)(dP:∀(b:cH) (q:Bool),f b=some q->bb au prog bZ [] ([.agg (eT b)]++cp) (.bool q)){r:Bool}(a:uw aed f=some r):bb au prog 125 [] [an eA aed,.cD bZ cp] (.bool r):=by
 refine a5 func125 rfl rfl ?_;unfold uw at a;refine aj [] [(0,an eA aed),(1,.cD bZ cp)] [] ?_;obtain⟨c,d,a⟩:=az a;exact aj [(2,aB (adk (dQ:=dQ) (dP:=dP) d) SB)] [(4,.d (0<=c))] []<|aN
def PJ{f:cT->dw}(dQ:a3 prog bZ)(dP:∀(b:cT) (q:Bool),f b=some q->bb au prog bZ [] ([.agg (iK b)]++cp) (.bool q)){r:Bool}(a:qK aed f=some r):bb au prog 138 [] [an eM aed,.cD bZ cp] (.bool r):=by
 refine a5 func138 rfl rfl ?_;unfold qK at a;refine aj [] [(0,an eM aed),(1,.cD bZ cp)] [] ?_;obtain⟨c,d,a⟩:=az a;exact aj [(2,aB (adx (dQ:=dQ) (dP:=dP) d) SM)] [(4,.d (0<=c))] []<|aN
def wU{aed v r}(a:oG aed v=some r):bb au prog 164 [] [an aJ aed,H v] (.bool r):=by
 refine a5 func164 rfl rfl ?_;unfold oG at a;refine aj [] [(0,an aJ aed),(1,H v)] [] ?_;obtain⟨b,c,a⟩:=az a;exact aj [(2,aB (Ug c) SS)] [(4,.d (0<=b))] []<|aN
def ac3{aed:td}{f:a6->dw}(dQ:a3 prog bZ)(dP:∀(b:a6) (q:Bool),f b=some q->bb au prog bZ [] ([.agg (ej b)]++cp) (.bool q)){r:Bool}(a:Ac aed f=some r):bb au prog 169 [] [an cN aed,.cD bZ cp] (.bool r):=by
 refine a5 func169 rfl rfl ?_;unfold Ac at a;refine aj [] [(0,an cN aed),(1,.cD bZ cp)] [] ?_;obtain⟨c,d,a⟩:=az a;exact aj [(2,aB (adh (dQ:=dQ) (dP:=dP) d) SV)] [(4,.d (0<=c))] []<|aN
def DV{aed:List eR}{f:eR->dw}(dQ:a3 prog bZ)(dP:∀(b:eR) (q:Bool),f b=some q->bb au prog bZ [] ([.agg (lb b)]++cp) (.bool q)){r:Bool}(a:nF aed f=some r):bb au prog 185 [] [an eL aed,.cD bZ cp] (.bool r):=by
 refine a5 func185 rfl rfl ?_;unfold nF at a;refine aj [] [(0,an eL aed),(1,.cD bZ cp)] [] ?_;obtain⟨c,d,a⟩:=az a;exact aj [(2,aB (adA (dQ:=dQ) (dP:=dP) d) Sp)] [(4,.d (0<=c))] []<|aN
def uK{n c a r}(e:sI n c a=some r):bb au prog 116 [] [H n,H c,H a] (.bool r):=by
 refine a5 func116 rfl rfl ?_;unfold sI at e;refine aj [] [(0,H n),(1,H c),(2,H a)] []<|aFe [(6,.bool ((decide (c<=n))&&(decide (n<=a))))] [] (λd=>?_) ?_
 .rcases eU (decide (c<=n))with b|b
  .exact aj [(3,Y (ax b)),(8,Y (ko (q:=decide (n<=a)) b))] _ _ d
  exact aj [(3,Y (ax b)),(8,Y (kK (q:=decide (n<=a)) b))] _ _ d
 exact aN
def Qa{a b r}(c:xc a b=some r):bb au prog 124 [] [.agg (dJ a),.agg (dJ b)] (H r):=by
 refine a5 func124 rfl rfl ?_;unfold xc at c;refine aj [(0,.al 497),(1,.al 498)] [(2,.ptr 497 0),(3,.ptr 498 0)] [(497,.cells 139 (dJ a)),(498,.cells 139 (dJ b))] ?_;obtain⟨i,g,h,e,d,f,c⟩:=mT c;exact aj [(4,aB (mW g) mL),(9,aB (mW e) mL),(11,aB (E4 f) Dy)] [(4,H d)] []<|aN
variable {afK:bV}{id:Int}
def J6{r}(a:xD afK id=some r):bb au prog 119 [] [.agg (jl afK),H id] (H r):=by
 refine a5 func119 rfl rfl ?_;unfold xD at a;refine aj [(0,.al 493)] [(1,H id),(2,.ptr 493 0)] [(493,.cells 82 (jl afK))] ?_;obtain⟨b,c,a⟩:=az a;exact aj [(3,aB (mW c) mL)] [(4,H b)] []<|aN
def Uo{r}(a:EJ afK=some r):bb au prog 115 [] [.agg (jl afK)] (.bool r):=by
 refine a5 func115 rfl rfl ?_;unfold EJ at a;refine aj [(0,.al 492)] [(1,.ptr 492 0)] [(492,.cells 82 (jl afK))] ?_;obtain⟨b,c,a⟩:=az a;exact aj [(2,aB (uK c) tv)] [(2,.bool (!b))] []<|aN
variable {l:bm}
def Up{r}(a:AK l=some r):bb au prog 121 [] [.agg (dJ l)] (.bool r):=by
 refine a5 func121 rfl rfl ?_;unfold AK at a;refine aj [(0,.al 494)] [(1,.ptr 494 0)] [(494,.cells 139 (dJ l))] ?_;obtain⟨i,d,a⟩:=az a;rcases aC a with⟨b,a⟩|⟨b,a⟩
 .exact aj [(2,aB (uK d) tv),(4,Y (ax b))] [(2,.bool true)] []<|aN
 obtain⟨h,e,a⟩:=az a;rcases aC a with⟨c,a⟩|⟨c,a⟩
 .exact aj [(2,aB (uK d) tv),(4,Y (ax b)),(7,aB (uK e) tv),(10,Y (ax c))] [(2,.bool true)] []<|aN
 obtain⟨f,g,a⟩:=az a;exact aj [(2,aB (uK d) tv),(4,Y (ax b)),(7,aB (uK e) tv),(10,Y (ax c)),(13,aB (uK g) tv)] [(2,.bool (!f))] []<|aN
variable {afV:aS}
def I8{r}(a:xd id afV=some r):bb au prog 117 [] [H id,.dI (bz afV)] (.bool r):=by
 refine a5 func117 rfl rfl ?_;unfold xd at a;refine aj [] [(0,H id),(1,.dI (bz afV))] [] ?_;obtain⟨b,d,a⟩:=az a;exact aj [(3,aB (PE (jr:=119) (kF:=[]) (oe:=ON) (og:=λ_ _ _ c=>J6 c) d) OM)] [(5,.bool b.2)] []<|aj [] [(3,.bool (!b.2))] []<|aN
def Uq{r}(a:EK l afV=some r):bb au prog 122 [] [.agg (dJ l),.dI [.fn 117 [.dI (bz afV)]]] (.bool r):=by
 refine a5 func122 rfl rfl ?_;unfold EK at a;refine aj [(0,.al 495)] [(1,.dI [.fn 117 [.dI (bz afV)]]),(2,.ptr 495 0)] [(495,.cells 139 (dJ l))] ?_;obtain⟨f,c,a⟩:=az a;rcases aC a with⟨b,a⟩|⟨b,a⟩
 .exact aj [(3,bt [] (I8 c) HE),(4,Y (ax b))] [(3,.bool true)] []<|aN
 obtain⟨d,e,a⟩:=az a;exact aj [(3,bt [] (I8 c) HE),(4,Y (ax b)),(8,bt [] (I8 e) HE)] [(3,.bool d)] []<|aN
def Ur{r}(a:EL l=some r):bb au prog 123 [] [.agg (dJ l)] (.bool r):=by
 refine a5 func123 rfl rfl ?_;unfold EL at a;exact aj [(0,.al 496)] [(1,.ptr 496 0)] [(496,.cells 139 (dJ l))]<|aj [] [(2,.d (l.B<=l.A))] []<|aN
variable {t:aS}
def kP{r}(a:k6 t=some r):bb au prog 47 [] [.agg (bz t)] (H r):=by
 refine a5 func47 rfl rfl ?_;unfold k6 at a;refine aj [(0,.al 44)] [(1,.ptr 44 0)] [(44,.cells 41 (bz t))]<|aq<|aX<|aFe [(1,.ptr 44 0),(6,.bool ((decide (24<(t.bf.length:Int)))||(decide (60<(t.Links.length:Int)))))] [(44,.cells 41 (bz t))] (λy=>?_) ?_
 .rcases eU (decide (24<(t.bf.length:Int)))with e|e
  .exact aj [(2,Y (bk bJ t.bf)),(4,Y (ax e)),(10,Y (hj (q:=decide (60<(t.Links.length:Int))) e))] _ _ y
  exact aj [(2,Y (bk bJ t.bf)),(4,Y (ax e)),(7,Y (bk aW t.Links)),(10,Y (eW (q:=decide (60<(t.Links.length:Int))) e))] _ _ y
 rcases aC a with⟨f,a⟩|⟨f,a⟩
 .exact aI f<|aj [] [(2,H 3)] []<|aN
 refine aH f ?_;obtain⟨C,Z,a⟩:=az a;refine ak [(2,aB (ac2 (bZ:=115) (cp:=[]) (dQ:=Ru) (dP:=λ_ _ d=>Uo d) Z) Rt)] [6] [(17,.bool C)] ?_;rcases aC a with⟨i,a⟩|⟨i,a⟩
 .exact aI i<|aj [] [(2,H 2)] []<|aN
 refine aH i<|aK<|aq<|ak [(2,Y (bk bJ t.bf))] [17] [(23,H t.bf.length),(24,H 0)]<|aX<|aFm 1 0 rfl rfl rfl λG=>?_
 obtain⟨ab,ae,K,L,a⟩:=cG a;refine cO a (λb()=>[(1,.ptr 44 0),(23,H t.bf.length),(24,H b)]) (λb()=>[(44,.cells 41 (bz t))]) ?_ ?_ ?_
 .exact c8
 .rintro b x aa ⟨⟩ J h a;rw[K]at a;refine ak [] [] [(25,.d ((b:Int)<t.bf.length))]<|aq<|aI (cL h)<|aK<|aq<|aX<|ak [] [25] [(3,H b)] ?_
  obtain⟨N,M,a⟩:=cV a;refine cW N r (λj=>[(1,.ptr 44 0),(23,H t.bf.length),(24,H b),(44,.bool j)]) (λj=>[(44,.cells 41 (bz t))]) ?_ ?_
  .rcases aC a with⟨k,a⟩|⟨k,a⟩
   .obtain⟨w,B,a⟩:=az a;exact a7 [(2,Y (ax k)),(7,be (ix bJ B)),(13,be (ix bJ (bU h)))] [3] [(44,.d (x.aP<=w.aP))]<|aT (decide (x.aP<=w.aP)) a
   exact a7 [(2,Y (ax k))] [3] [(44,.bool false)]<|aT false a
  rintro j a;rw[M]at a;rcases aC a with⟨g,a⟩|⟨g,a⟩
  .exact aI g<|aj [] [(2,H 25)] []<|aN
  exact aH g<|aK<|a7 [(0,Y (cI h G))] [24,44] [(24,H ((b+1:Nat):Int))]<|aT () a
 rintro b ⟨⟩ J I a;rw[L]at a;refine ak [] [] [(25,.d ((b:Int)<t.bf.length))]<|aq<|aH (cK I)<|bQ<|aV [(1,.al 370)] [23,24,25] [(4,.ptr 370 0)] [] [(370,.c 107 [.fn 117 [.ptr 44 0]])]<|aq<|aX ?_
 obtain⟨z,D,a⟩:=az a;refine ak [(2,aB (IJ (bZ:=121) (cp:=[]) (dQ:=Rv) (dP:=λ_ _ d=>Up d) D) HF)] [] [(47,.bool z)] ?_;rcases aC a with⟨p,a⟩|⟨p,a⟩
 .exact aI p<|aj [] [(2,H 2)] []<|aN
 refine aH p ?_;obtain⟨A,O,a⟩:=az a;refine aV [(3,bt [370,44] (IJ (bZ:=122) (cp:=[.dI [.fn 117 [.dI (bz t)]]]) (dQ:=Rw) (dP:=λ_ _ d=>Uq d) O) HF)] [4,47] [(51,.bool A)] [370] [] ?_;rcases aC a with⟨m,a⟩|⟨m,a⟩
 .exact aI m<|aj [] [(2,H 4)] []<|aN
 refine aH m ?_;obtain⟨P,Q,a⟩:=az a;refine ak [(2,aB (IJ (bZ:=123) (cp:=[]) (dQ:=Rx) (dP:=λ_ _ d=>Ur d) Q) HF)] [51] [(56,.bool P)] ?_;rcases aC a with⟨l,a⟩|⟨l,a⟩
 .exact aI l<|aj [] [(2,H 8)] []<|aN
 refine aH l<|aK<|aq<|ak [(2,Y (bk aW t.Links))] [56] [(62,H t.Links.length),(63,H 0)]<|aX<|aFm 1 1 rfl rfl rfl λT=>?_
 obtain⟨ao,an,V,W,a⟩:=cG a;refine cO a (λc()=>[(1,.ptr 44 0),(62,H t.Links.length),(63,H c)]) (λc()=>[(44,.cells 41 (bz t))]) ?_ ?_ ?_
 .exact c8
 .rintro c ar am ⟨⟩ X o a;rw[V]at a;refine ak [] [] [(64,.d ((c:Int)<t.Links.length))]<|aq<|aI (cL o)<|aK<|aq<|aX<|ak [] [64] [(5,H c)] ?_
  obtain⟨E,R,a⟩:=cV a;refine cW E r (λn=>[(1,.ptr 44 0),(62,H t.Links.length),(63,H c),(82,.bool n)]) (λn=>[(44,.cells 41 (bz t))]) ?_ ?_
  .rcases aC a with⟨s,a⟩|⟨s,a⟩
   .obtain⟨ag,F,v,U,a⟩:=er a;exact a7 [(2,Y (ax s)),(7,be (ix aW F)),(12,be (ix aW (bU o))),(14,aB (Qa U) OO)] [5] [(82,.d (0<=v))]<|aT (decide (0<=v)) a
   exact a7 [(2,Y (ax s))] [5] [(82,.bool false)]<|aT false a
  rintro n a;rw[R]at a;rcases aC a with⟨u,a⟩|⟨u,a⟩
  .exact aI u<|aj [] [(2,H 25)] []<|aN
  exact aH u<|aK<|a7 [(0,Y (cI o T))] [63,82] [(63,H ((c+1:Nat):Int))]<|aT () a
 rintro c ⟨⟩ X S a;rw[W]at a;exact ak [] [] [(64,.d ((c:Int)<t.Links.length))]<|aq<|aH (cK S)<|bQ<|aj [] [(2,H 0)] []<|aN
def w8{r}(a:sC t=some r):bb au prog 147 [] [.agg (bz t)] (.bool r):=by
 refine a5 func147 rfl rfl ?_;unfold sC at a;refine aj [(0,.al 506)] [(1,.ptr 506 0)] [(506,.cells 41 (bz t))] ?_;obtain⟨b,c,a⟩:=az a;exact aj [(1,aB (kP c) kX)] [(2,.d (b=0))] []<|aN
variable {aey:Int}
def J7{r}(a:xE t aey=some r):bb au prog 146 [] [.agg (bz t),H aey] (.bO [.agg (jl r.1),.bool r.2]):=by
 refine a5 func146 rfl rfl ?_;unfold xE at a;refine aj [(0,.al 313),(1,.al 254)] [(1,H aey),(2,.ptr 313 0),(4,.ptr 254 0)] [(313,.cells 41 (bz t)),(254,.c 82 [H 0,.bool false])] ?_;obtain⟨b,g,a⟩:=az a;refine ak [(3,aB (PE (jr:=119) (kF:=[]) (oe:=ON) (og:=λ_ _ _ f=>J6 f) g) OM)] [1] [(6,H b.1),(7,.bool b.2)]<|aq<|ak [] [7] [(16,.bool (!b.2))] ?_
 rcases aC a with⟨c,a⟩|⟨c,a⟩
 .exact aI c<|aV [] [2,6,16] [(5,.bool false)] [313] []<|aN
 refine aH c<|aK ?_
 obtain⟨e,d,a⟩:=az a;exact aj [(3,be (ix bJ d))] [(4,.ptr 254 0),(5,.bool true)] [(254,.cells 82 (jl e))]<|aN
def nK{r}(a:lM t aey=some r):bb au prog 64 [] [.agg (bz t),H aey] (.bool r):=by
 refine a5 func64 rfl rfl ?_;unfold lM at a;refine aj [(0,.al 442)] [(1,H aey),(2,.ptr 442 0)] [(442,.cells 41 (bz t))] ?_;obtain⟨d,e,a⟩:=az a;refine ak [(2,aB (J7 e) OT),(6,.al 64005)] [1] [(6,.bool d.2)] ?_;obtain⟨f,c,a⟩:=az a;rcases aC a with⟨b,a⟩|⟨b,a⟩
 .exact aj [(1,aB (w8 c) vT),(2,Y (ax b))] [(4,.bool d.2)] []<|aN
 exact aj [(1,aB (w8 c) vT),(2,Y (ax b))] [(4,.bool false)] []<|aN
def AF{r}(a:hW t aey=some r):bb au prog 104 [] [.agg (bz t),H aey] (.bool r):=by
 refine a5 func104 rfl rfl ?_;unfold hW at a;refine aj [(0,.al 392)] [(1,H aey),(2,.ptr 392 0)] [(392,.cells 41 (bz t))] ?_;obtain⟨d,e,a⟩:=az a;refine aV [(2,aB (J7 e) OT),(6,.al 490)] [1] [(5,.ptr 490 0)] [] [(490,.cells 82 (jl d.1))] ?_;obtain⟨f,c,a⟩:=az a;rcases aC a with⟨b,a⟩|⟨b,a⟩
 .exact aj [(1,aB (w8 c) vT),(2,Y (ax b))] [(4,.bool d.1.bK)] []<|aN
 exact aj [(1,aB (w8 c) vT),(2,Y (ax b))] [(4,.bool false)] []<|aN
def J8{c b r}(a:uH t c b=some r):bb au prog 75 [] [.agg (bz t),H c,H b] (.bO [H r.1,.bool r.2]):=by
 refine a5 func75 rfl rfl ?_;unfold uH at a;refine aj [(0,.al 274)] [(1,H c),(2,H b),(3,.ptr 274 0)] [(274,.cells 41 (bz t))]<|aq ?_
 obtain⟨i,o,a⟩:=az a;refine ak [(1,aB (w8 o) vT)] [] [(12,.bool (!i))] ?_;rcases aC a with⟨f,a⟩|⟨f,a⟩
 .exact aI f<|aj [] [(6,H 0),(7,.bool false)] []<|aN
 refine aH f<|aK ?_
 obtain⟨d,h,a⟩:=az a;refine ak [(9,aB (acX (jr:=124) (kF:=[]) (oe:=OO) (og:=λ_ _ _ n=>Qa n) h) Ta)] [12] [(8,H d.1),(9,.bool d.2)]<|aq<|aX<|ak [] [9] [(26,.bool (!d.2))] ?_
 rcases aC a with⟨e,a⟩|⟨e,a⟩
 .exact aI e<|aj [] [(6,H 0),(7,.bool false)] []<|aN
 refine aH e<|ak [] [1,2,26] [(29,.d (c<b))] ?_
 rcases aC a with⟨g,a⟩|⟨g,a⟩
 .refine aI g ?_;obtain⟨l,j,a⟩:=az a;exact aj [(3,be (ix aW j))] [(6,H l.iA),(7,.bool true)] []<|aN
 refine aH g<|aK ?_
 obtain⟨m,k,a⟩:=az a;exact aj [(3,be (ix aW k))] [(6,H m.iq),(7,.bool true)] []<|aN
variable {au:Bool}
variable {afc:Int}
def US{r}(a:Jd afc=some r):bb au prog 213 [] [.int .u64 afc] (H r):=by
 refine a5 func213 rfl rfl ?_;unfold Jd at a;refine aj [] [(0,.int .u64 afc),(2,H 0)] [] ?_;obtain⟨n,m,a⟩:=cV a;refine cW n r (λ(c,d)=>[(0,.int .u64 c),(2,H d)]) (λ(c,d)=>[]) ?_ ?_
 .refine ak [] [] [(4,.d (4294967296<=afc))] ?_;rcases aC a with⟨i,a⟩|⟨i,a⟩
  .exact aI i<|aj [(1,.sh (32:Int) (by decide))] [(0,.int .u64 (Int.fdiv afc (2 ^ min (32:Int).toNat 64)))] []<|a7 [] [] [(2,H 32)]<|aT (Int.fdiv afc (2 ^ min (32:Int).toNat 64),(32:Int)) a
  exact aH i<|aK<|aT (afc,(0:Int)) a
 rintro⟨c,d⟩ a;rw[m]at a;obtain⟨l,o,a⟩:=cV a;refine cW l r (λ(b,e)=>[(0,.int .u64 b),(2,H e)]) (λ(b,e)=>[]) ?_ ?_
 .refine ak [] [] [(8,.d (65536<=c))] ?_;rcases aC a with⟨h,a⟩|⟨h,a⟩
  .exact aI h<|ak [(1,.sh (16:Int) (by decide))] [0,8] [(0,.int .u64 (Int.fdiv c (2 ^ min (16:Int).toNat 64)))]<|a7 [] [2] [(2,H (a2 (d+16)))]<|aT (Int.fdiv c (2 ^ min (16:Int).toNat 64),a2 (d+16)) a
  exact aH h<|aK<|aT (c,d) a
 rintro⟨b,e⟩ a;rw[o]at a;obtain⟨p,q,a⟩:=cV a;refine cW p r (λ(f,g)=>[(0,.int .u64 f),(2,H g)]) (λ(f,g)=>[]) ?_ ?_
 .refine ak [] [] [(14,.d (256<=b))] ?_;rcases aC a with⟨j,a⟩|⟨j,a⟩
  .exact aI j<|ak [(1,.sh (8:Int) (by decide))] [0,14] [(0,.int .u64 (Int.fdiv b (2 ^ min (8:Int).toNat 64)))]<|a7 [] [2] [(2,H (a2 (e+8)))]<|aT (Int.fdiv b (2 ^ min (8:Int).toNat 64),a2 (e+8)) a
  exact aH j<|aK<|aT (b,e) a
 rintro⟨f,g⟩ a;rw[q]at a;obtain⟨k,s,a⟩:=az a;exact aj [(3,.is Pu (IntKind.wrap .u8 f) k (XZ s))] [(2,H (a2 (g+(a2 (k.toNat:Int)))))] []<|aN
def U6{r}(a:Fu afc=some r):bb au prog 144 [] [.int .u64 afc] (H r):=by
 refine a5 func144 rfl rfl ?_;unfold Fu at a;refine aj [] [(0,.int .u64 afc)] []<|aq<|aFl rfl rfl<|aK ?_
 obtain⟨b,c,a⟩:=az a;exact aj [(1,aB (US c) SP)] [(2,H b)] []<|aN
variable {r:Unit}
def adz(a:IP=some r):bb au prog 203 [] [.aF,H 0,H 0] (.bO []):=by
 refine a5 func203 rfl rfl ?_;unfold IP at a;refine aj [] [(0,.aF),(1,H 0),(2,H 0),(6,H 1)] []<|aX ?_
 obtain⟨e,d,b,a⟩:=jL a;refine aFn a (λ()=>[(0,.aF),(1,H 0),(2,H 0),(6,H 1)]) (λ()=>[]) ?_ ?_
 .exact c8
 rintro c ⟨⟩ a;rw[b]at a;refine aq<|ak [] [] [(12,.bool false)] ?_
 refine aFl rfl rfl<|bQ ?_
 obtain rfl:=cy a;exact c0 []
def adH{b}(a:IW b=some r):bb au prog 143 [] [.aF,H 0,H 0,H b] (.bO []):=by
 refine a5 func143 rfl rfl ?_;unfold IW at a;refine aj [] [(0,.aF),(1,H 0),(2,H 0),(3,H b),(8,.bool true)] []<|ak [] [] [(9,.bool true)]<|aX ?_
 obtain⟨h,g,c,a⟩:=jL a;refine aFn a (λ()=>[(0,.aF),(1,H 0),(2,H 0),(3,H b),(8,.bool true),(9,.bool true)]) (λ()=>[]) ?_ ?_
 .exact c8
 rintro f ⟨⟩ a;rw[c]at a;refine aX<|ak [] [] [(10,H 0)] ?_
 refine aq<|ak [] [] [(23,.bool true)] ?_
 refine aFu rfl rfl ?_;obtain⟨e,d,a⟩:=az a;exact aj [(3,Pp 1 (adz d) SO)] [] []<|aN
def Ua(a:PW=some r):bb au prog 60 [] [.aF] (.bO []):=by
 refine a5 func60 rfl rfl ?_;unfold PW at a;refine aj [] [(0,.aF),(2,H 0)] [] ?_;obtain⟨e,c,d,b,a⟩:=er a;refine lU [(4,aB (U6 c) S6),(5,Pp 1 (adH b) S5)] [] [] ?_;obtain rfl:=cy a;exact c0 []
end
section
open Go Go.Proofs.Tryz
def aF4:Shelf.Ren:=
 {f:=λa=>match a with|189=>60|125=>144|257=>143|128=>212|129=>213|294=>203|295=>204|296=>205|297=>206|298=>207|299=>208|216=>209|300=>210|301=>211|328=>262|329=>263|330=>264|331=>265|332=>266|215=>148|343=>282|n=>n,t:=λa=>match a with|28=>22|46=>239|51=>292|53=>50|183=>286|182=>285|131=>134|218=>331|222=>335|228=>352|229=>353|n=>n,g:=λn=>n}
def aGh:Lays.n189 prog aF4:=by constructor<;>first|kernel_rfl|exact λ_=>by kernel_rfl
def YQ:Mw prog 60:=λbR d aY f e c a b=>Any.slices_Sort_int aGh bR d aY f e c a b
end
section
open Go Go.Proofs.Tryz
variable {au:Bool}
def CE{d T:Nat}(zs:bX)(h:zs.length<4611686018427387904):cz au prog 60 [(d,.slice T 1 (bc aJ zs) 0 false)] [.own d] (λa b=>a=.bO []/\b=[(d,.slice T 1 (bc aJ (hS zs)) 0 false)]):=
 Wm YQ (Ua (r:=()) (by kernel_rfl)) zs h
end
section
open Go Go.Proofs.Tryz
variable {au:Bool}
variable {aey:Int}{r:(bX)}{t:aS}
def P4(a:w3 t aey=some r):cz au prog 220 [] [.agg (bz t),H aey] (eH (.own 152) [(152,.s 3 aJ r)]):=by
 refine a5 func220 rfl rfl ?_;unfold w3 at a;refine aj [(0,.al 408)] [(1,H aey),(2,.ptr 408 0)] [(408,.cells 41 (bz t))]<|ak [] [] [(5,.aF)]<|aq<|aV [(2,Y (bk aW t.Links))] [2] [(9,an aW t.Links),(10,H t.Links.length),(11,H 0)] [408] []<|aX<|aFd 9 rfl λn=>?_
 obtain⟨y,z,q,s,a⟩:=cG a;refine cO a (λb=>λc=>[(1,H aey),(5,.own 600220005),(9,an aW t.Links),(10,H t.Links.length),(11,H b)]) (λb=>λc=>[(600220005,.s 3 aJ c)]) ?_ ?_ ?_
 .exact cr [.ad 5 600220005 3 1] []
 .rintro b i x c p h a;rw[q]at a;refine ak [] [] [(12,.d ((b:Int)<t.Links.length))]<|aq<|aI (cL h)<|aK ?_
  obtain⟨v,u,a⟩:=cV a;refine cW v r (λe=>[(1,H aey),(5,.own 600220005),(9,an aW t.Links),(10,H t.Links.length),(11,H b)]) (λe=>[(600220005,.s 3 aJ e)]) ?_ ?_
  .refine aX<|aV [(0,be (ix aW (bU h))),(2,.al 288)] [12] [(7,.ptr 288 0)] [] [(288,.cells 139 (dJ i))] ?_
   refine ak [] [] [(15,H aey)]<|aX<|ak [] [] [(16,.d (aey=i.A))] ?_
   rcases aC a with⟨g,a⟩|⟨g,a⟩
   .refine aI g ?_;obtain⟨k,w,a⟩:=az a;exact b0 [(4,dS 469 (ap aJ (bytes:=8) (by decide) w))] [5,7,15,16] [(5,.own 469)] [600220005,288] [(469,.s 3 aJ k)]<|Exists.intro k (And.intro a (cr [.b8 469 600220005] []))
   refine aH g<|ak [] [15,16] [(25,.d (aey=i.B))] ?_
   rcases aC a with⟨f,a⟩|⟨f,a⟩
   .refine aI f ?_;obtain⟨j,l,a⟩:=az a;exact b0 [(4,dS 470 (ap aJ (bytes:=8) (by decide) l))] [5,7,25] [(5,.own 470)] [600220005,288] [(470,.s 3 aJ j)]<|Exists.intro j (And.intro a (cr [.b8 470 600220005] []))
   exact aH f<|aK<|aT c a
  rintro e a;rw[u]at a;exact a7 [(0,Y (cI h n))] [11] [(11,H ((b+1:Nat):Int))]<|aT e a
 rintro b c p o a;rw[s]at a;refine ak [] [] [(12,.d ((b:Int)<t.Links.length))]<|aq<|aH (cK o)<|bQ ?_
 obtain⟨m,a⟩:=g0 a;refine aj [(1,b3 [] (CE (d:=600220005) (T:=3) c (fF m)) Dx)] [(5,.own 600220005)] [(600220005,.s 3 aJ (hS c))]<|ak [] [5] [(4,.own 600220005)]<|c2 ?_
 obtain rfl:=cy a;exact c0 [.b8 600220005 152]
def Ui:∀(k:Nat) {g:Int} {h:bX} {b:bX} {c:uX} {d:mJ} {r:(bX)} (a:xb k g h b c d=some r),cz au prog 222 [(118,.c 22 [.own 244]),(135,.c 22 [an aJ b]),(111,.c 41 [an bJ c,an aW d]),(93,.c 157 [.fn 222 [.ptr 118 0,.ptr 135 0,.ptr 111 0,.ptr 93 0]]),(244,.s 3 aJ h)] [H g,.ptr 118 0,.ptr 135 0,.ptr 111 0,.ptr 93 0] (eH (.bO []) [(118,.c 22 [.own 386]),(135,.c 22 [an aJ b]),(111,.c 41 [an bJ c,an aW d]),(93,.c 157 [.fn 222 [.ptr 118 0,.ptr 135 0,.ptr 111 0,.ptr 93 0]]),(386,.s 3 aJ r)]):=by
 intro k;induction k with
 |zero=>intros;rename_i a;cases a
 |succ k u=>
 intro g h b c d r a;refine a5 func222 rfl rfl ?_;rw[xb]at a;refine aq ?_;obtain⟨B,A,a⟩:=cV a;refine cW B r (λn=>[(0,H g),(1,.ptr 118 0),(3,.ptr 111 0),(4,.ptr 93 0),(15,.bool n)]) (λn=>[(118,.c 22 [.own 244]),(135,.c 22 [an aJ b]),(111,.c 41 [an bJ c,an aW d]),(93,.c 157 [.fn 222 [.ptr 118 0,.ptr 135 0,.ptr 111 0,.ptr 93 0]]),(244,.s 3 aJ h)]) ?_ ?_
 .obtain⟨G,q,a⟩:=az a;rcases aC a with⟨m,a⟩|⟨m,a⟩
  .exact lU [(2,bt [244] (wU q) vV),(3,Y (ax m))] [(0,H g),(1,.ptr 118 0),(3,.ptr 111 0),(4,.ptr 93 0),(15,.bool true)] [(118,.c 22 [.own 244]),(135,.c 22 [an aJ b]),(111,.c 41 [an bJ c,an aW d]),(93,.c 157 [.fn 222 [.ptr 118 0,.ptr 135 0,.ptr 111 0,.ptr 93 0]]),(244,.s 3 aJ h)]<|aT true a
  obtain⟨o,s,a⟩:=az a;exact lU [(2,bt [244] (wU q) vV),(3,Y (ax m)),(6,aB (wU s) vV)] [(0,H g),(1,.ptr 118 0),(3,.ptr 111 0),(4,.ptr 93 0),(15,.bool o)] [(118,.c 22 [.own 244]),(135,.c 22 [an aJ b]),(111,.c 41 [an bJ c,an aW d]),(93,.c 157 [.fn 222 [.ptr 118 0,.ptr 135 0,.ptr 111 0,.ptr 93 0]]),(244,.s 3 aJ h)]<|aT o a
 rintro n a;rw[A]at a;rcases aC a with⟨l,a⟩|⟨l,a⟩
 .refine aI l<|c2 ?_
  obtain rfl:=cy a;exact c0 [.rn 244 386]
 refine aH l<|aK ?_
 obtain⟨D,t,a⟩:=az a;refine aV [(3,dS 365 (ap aJ (bytes:=8) (by decide) t))] [1,15] [] [118,244] [(118,.c 22 [.own 365]),(365,.s 3 aJ D)] ?_;obtain⟨e,C,a⟩:=az a;refine aV [(2,b3 [152] (P4 C) OC),(3,Y (bk aJ e))] [0,3] [(22,.own 152),(23,H e.length),(24,H 0)] [] [(152,.s 3 aJ e)]<|aX<|aF2 22 rfl rfl λv=>?_
 obtain⟨J,K,y,z,a⟩:=cG a;refine cO a (λf=>λi=>[(4,.ptr 93 0),(22,.own 152),(23,H e.length),(24,H f)]) (λf=>λi=>[(118,.c 22 [.own 253]),(135,.c 22 [an aJ b]),(111,.c 41 [an bJ c,an aW d]),(93,.c 157 [.fn 222 [.ptr 118 0,.ptr 135 0,.ptr 111 0,.ptr 93 0]]),(152,.s 3 aJ e),(253,.s 3 aJ i)]) ?_ ?_ ?_
 .exact cr [.b8 365 253] []
 .rintro f F I i x j a;rw[y]at a;refine ak [] [] [(25,.d ((f:Int)<e.length))]<|aq<|aI (cL j)<|aK<|aq<|aX<|ak [(0,be (ix aJ (bU j))),(1,fK 152 0 (ix aJ (bU j)))] [25] [(7,H F)] ?_
  obtain⟨p,E,a⟩:=az a;exact b0 [(2,b3 [347] (e0.at [(244,253),(386,347)] (u E)) OD)] [7] [] [118,253] [(118,.c 22 [.own 347]),(347,.s 3 aJ p)]<|a7 [(0,Y (cI j v))] [24] [(24,H ((f+1:Nat):Int))]<|Exists.intro p (And.intro a (cr [.b8 347 253] []))
 rintro f i x w a;rw[z]at a;refine ak [] [] [(25,.d ((f:Int)<e.length))]<|aq<|aH (cK w)<|bQ ?_
 obtain rfl:=cy a;exact c0 [.b8 253 386]
def Us{c e}(a:AL t c e=some r):bb au prog 165 [] [.agg (bz t),H c,an aJ e] (an aJ r):=by
 refine a5 func165 rfl rfl ?_;unfold AL at a;refine aj [(0,.al 276),(1,.al 277)] [(1,H c),(3,.ptr 276 0),(5,.ptr 277 0)] [(276,.cells 41 (bz t)),(277,.c 22 [an aJ e])]<|aV [(0,.al 226)] [] [(7,.ptr 226 0)] [] [(226,.c 22 [.aF])]<|aV [(0,.al 315)] [] [(8,.ptr 315 0)] [] [(315,.c 157 [.dH])]<|aV [] [3,5] [] [315] [(315,.c 157 [.fn 222 [.ptr 226 0,.ptr 277 0,.ptr 276 0,.ptr 315 0]])] ?_
 obtain⟨b,g,a⟩:=az a;refine aFx fN [.ac 226 244 3 1 0] [(2,b3 [520165001] (e0.at [(118,226),(135,277),(111,276),(93,315),(386,520165001)] (Ui fuel g)) OD)] [(7,.ptr 226 0)] [(226,.c 22 [.own 520165001]),(520165001,.s 3 aJ b)] (by kernel_rfl) ?_;obtain⟨f,a⟩:=g0 a;refine aj [(1,b3 [] (CE (d:=520165001) (T:=3) b (fF f)) Dx)] [(7,.ptr 226 0)] [(226,.c 22 [.own 520165001]),(520165001,.s 3 aJ (hS b))]<|aV [] [7] [(6,.own 520165001)] [226] []<|c2 ?_
 obtain rfl:=cy a;exact c0 [.bL [520165001]]
def Ul(a:AG t aey=some r):cz au prog 161 [] [.agg (bz t),H aey] (eH (.own 173) [(173,.s 3 aJ r)]):=by
 refine a5 func161 rfl rfl ?_;unfold AG at a;refine aj [(0,.al 399)] [(1,H aey),(2,.ptr 399 0)] [(399,.cells 41 (bz t))]<|aq ?_
 obtain⟨e,f,a⟩:=az a;refine ak [(1,aB (w8 f) vT)] [] [(7,.bool (!e))] ?_;rcases aC a with⟨b,a⟩|⟨b,a⟩
 .refine aI b<|aj [] [(4,.aF)] []<|c2 ?_
  obtain rfl:=cy a;exact c0 [.ad 4 173 3 1]
 refine aH b<|aK ?_
 obtain⟨c,d,a⟩:=az a;refine aj [(2,b3 [152] (P4 d) OC)] [(4,.own 152)] [(152,.s 3 aJ c)]<|c2 ?_
 obtain rfl:=cy a;exact c0 [.b8 152 173]
def P8{a b r}(c:w6 t a b=some r):bb au prog 88 [] [.agg (bz t),H a,H b] (.bool r):=by
 refine a5 func88 rfl rfl ?_;unfold w6 at c;refine aj [(0,.al 569)] [(1,H a),(2,H b),(3,.ptr 569 0)] [(569,.cells 41 (bz t))] ?_;obtain⟨m,f,c⟩:=az c;rcases aC c with⟨d,c⟩|⟨d,c⟩
 .obtain⟨k,g,c⟩:=az c;rcases aC c with⟨e,c⟩|⟨e,c⟩
  .obtain⟨l,h,j,i,c⟩:=er c;exact aj [(2,aB (nK f) nC),(3,Y (ax d)),(6,aB (nK g) nC),(8,Y (ax e)),(11,aB (Us h) Tf),(13,aB (wU i) vV)] [(6,.bool j)] []<|aN
  exact aj [(2,aB (nK f) nC),(3,Y (ax d)),(6,aB (nK g) nC),(8,Y (ax e))] [(6,.bool false)] []<|aN
 exact aj [(2,aB (nK f) nC),(3,Y (ax d))] [(6,.bool false)] []<|aN
variable {au:Bool}
def Ut{n r}(e:Ez n=some r):bb au prog 177 [] [H n] (.bool r):=by
 refine a5 func177 rfl rfl ?_;unfold Ez at e;refine aj [] [(0,H n)] []<|aFe [(2,.bool ((decide (n=8))||((decide (n=16))||((decide (n=32))||(decide (n=64))))))] [] (λd=>?_) ?_
 .rcases eU (decide (n=8))with a|a
  .exact aj [(2,Y (ax a)),(14,Y (hj (q:=((decide (n=16))||((decide (n=32))||(decide (n=64))))) a))] _ _ d
  rcases eU (decide (n=16))with b|b
  .exact aj [(2,Y (ax a)),(6,Y (ax b)),(14,Y ((hj (q:=((decide (n=32))||(decide (n=64)))) b).trans (eW (q:=((decide (n=16))||((decide (n=32))||(decide (n=64))))) a)))] _ _ d
  rcases eU (decide (n=32))with c|c
  .exact aj [(2,Y (ax a)),(6,Y (ax b)),(10,Y (ax c)),(14,Y (((hj (q:=decide (n=64)) c).trans (eW (q:=((decide (n=32))||(decide (n=64)))) b)).trans (eW (q:=((decide (n=16))||((decide (n=32))||(decide (n=64))))) a)))] _ _ d
  exact aj [(2,Y (ax a)),(6,Y (ax b)),(10,Y (ax c)),(14,Y (((eW (q:=decide (n=64)) c).trans (eW (q:=((decide (n=32))||(decide (n=64)))) b)).trans (eW (q:=((decide (n=16))||((decide (n=32))||(decide (n=64))))) a)))] _ _ d
 exact aN
variable {au:Bool}
variable {r:Int}
def UT{a b}(c:EO a b=some r):bb au prog 95 [] [.agg (jl a),.agg (jl b)] (H r):=by
 refine a5 func95 rfl rfl ?_;unfold EO at c;refine aj [(0,.al 575),(1,.al 576)] [(2,.ptr 575 0),(3,.ptr 576 0)] [(575,.cells 82 (jl a)),(576,.cells 82 (jl b))] ?_;obtain⟨d,e,c⟩:=az c;exact aj [(4,aB (mW e) mL)] [(4,H d)] []<|aN
def UU{a b}(c:EP a b=some r):bb au prog 97 [] [.agg (dJ a),.agg (dJ b)] (H r):=by
 refine a5 func97 rfl rfl ?_;unfold EP at c;refine aj [(0,.al 577),(1,.al 578)] [(2,.ptr 577 0),(3,.ptr 578 0)] [(577,.cells 139 (dJ a)),(578,.cells 139 (dJ b))] ?_;obtain⟨i,g,h,e,d,f,c⟩:=mT c;exact aj [(4,aB (mW g) mL),(9,aB (mW e) mL),(11,aB (E4 f) Dy)] [(4,H d)] []<|aN
def UW{a b}(c:ER a b=some r):bb au prog 281 [] [.agg (sx a),.agg (sx b)] (H r):=by
 refine a5 func281 rfl rfl ?_;unfold ER at c;refine aj [(0,.al 539),(1,.al 540)] [(2,.ptr 539 0),(3,.ptr 540 0)] [(539,.cells 348 (sx a)),(540,.cells 348 (sx b))] ?_;obtain⟨d,e,c⟩:=az c;exact aj [(4,aB (mW e) mL)] [(4,H d)] []<|aN
def UX{a b}(c:ES a b=some r):bb au prog 103 [] [.agg (iK a),.agg (iK b)] (H r):=by
 refine a5 func103 rfl rfl ?_;unfold ES at c;refine aj [(0,.al 488),(1,.al 489)] [(2,.ptr 488 0),(3,.ptr 489 0)] [(488,.cells 49 (iK a)),(489,.cells 49 (iK b))] ?_;obtain⟨d,e,c⟩:=az c;exact aj [(4,aB (mW e) mL)] [(4,H d)] []<|aN
end
section
open Go Go.Proofs.Tryz Go.Sort Go.Lib Go.Shelf Go.RowKit
variable {au:Bool}
def vW(x y:Int):Int:=if x<y then -1 else if y<x then 1 else 0
def CM(x y:Int):j4 x y=some (vW x y):=by
 unfold j4 xC vW;by_cases a:x<y
 .simp[a,af]
 .by_cases b:y<x<;>simp[a,b,af]
def aGk:Shelf.Ren:=
 {f:=λa=>match a with|6=>94|15=>144|14=>171|28=>212|29=>213|20=>225|21=>226|22=>227|23=>228|24=>229|25=>230|26=>231|27=>232|46=>271|47=>263|48=>264|49=>272|50=>273|57=>287|n=>n,t:=λa=>match a with|22=>39|24=>82|25=>189|39=>239|53=>292|55=>50|46=>286|45=>285|50=>134|66=>331|70=>335|76=>352|77=>353|n=>n,g:=λn=>n}
def CF{P:Program}{n:Nat}{B:Func}(h:(((P.funcs[n]?).map (·.name)).getD default== "runtime.NumGoroutine")=false)(k:P.funcs[n]?=some {B with name:=((P.funcs[n]?).map (·.name)).getD default}):Bears P n B:=⟨_,h,k⟩
def aFS:SlLaysF0.n6 prog aGk:=by constructor<;>first|kernel_rfl|exact CF (by kernel_rfl) (by kernel_rfl)|exact λ_=>by kernel_rfl
def vE(x:bV):hD:=[.int .i64 x.aP,.bool x.bK]
def adt(I:a8)(x:bV)(vs:hD):bP I (bJ.enc x) vs↔vs=vE x:=by
 show bP I [.int .i64 x.aP,.bool x.bK] vs↔vs=_;simp only[bP,a1];constructor
 .rintro⟨_,_,rfl,rfl,⟨_,_,rfl,rfl,rfl⟩⟩;rfl
 .rintro rfl;exact⟨_,_,rfl,rfl,⟨_,_,rfl,rfl,rfl⟩⟩
def adv(I:a8)(β:Nat->Value)(x:bV):bD I β (bJ.enc x) (vE x):=by
 show bD I β [.int .i64 x.aP,.bool x.bK] _;simp only[bD,aD,a1];exact⟨_,_,rfl,rfl,⟨_,_,rfl,rfl,rfl⟩⟩
def adm(x:bV):∀v∈vE x,v.oneCell'=true:=by
 intro v a;simp only[vE,c5,hr,hG]at a;rcases a with rfl|rfl<;>rfl
def abF(a b:bV):EO a b=some (eF [λx:bV=>x.aP] a b):=by
 unfold EO;simp only[CM];unfold vW eF;simp only[af,eF]
def Qe:zA prog 94 95 vE 2 (eF [λx:bV=>x.aP]):=λbR b aY a c f d e=>
 AnyQ.slices_SortFunc aFS 2 isAgg82 sizeOf82 vE (λ_=>rfl) adm _ (Ct _) 95 #[] bR b aY a c (enters_of func95 (by kernel_rfl) rfl)
  (Cb adv (λx g=>UT (abF x g)) bR b a.size c) f d e
def Zy{d T:Nat}{zs ys:uX}(h:kg (eF [λx:bV=>x.aP]) zs=some ys):cz au prog 94 [(d,.slice T 2 (bc bJ zs) 0 false)] [.own d,.fn 95 []] (λr a=>r=.bO []/\a=[(d,.slice T 2 (bc bJ ys) 0 false)]):=
 Cg adt (by decide) (λ_=>rfl) (λ_=>rfl) (sP _) Qe (λc aY b e=>AnyF.slices_SortFunc_none aFS c aY b e) h
def aGl:Shelf.Ren:=
 {f:=λa=>match a with|6=>96|15=>144|14=>172|28=>212|29=>213|20=>233|21=>234|22=>235|23=>236|24=>237|25=>238|26=>239|27=>240|46=>274|47=>263|48=>264|49=>275|50=>276|57=>288|n=>n,t:=λa=>match a with|22=>25|24=>139|25=>191|39=>239|53=>292|55=>50|46=>286|45=>285|50=>134|66=>331|70=>335|76=>352|77=>353|n=>n,g:=λn=>n}
def aFR:SlLaysF0.n6 prog aGl:=by constructor<;>first|kernel_rfl|exact CF (by kernel_rfl) (by kernel_rfl)|exact λ_=>by kernel_rfl
def vw(x:bm):hD:=[.int .i64 x.A,.int .i64 x.B,.int .i64 x.iA,.int .i64 x.iq,.int .i64 x.fo]
def TQ(I:a8)(x:bm)(vs:hD):bP I (aW.enc x) vs↔vs=vw x:=by
 show bP I [.int .i64 x.A,.int .i64 x.B,.int .i64 x.iA,.int .i64 x.iq,.int .i64 x.fo] vs↔vs=_;simp only[bP,a1];constructor
 .rintro⟨_,_,rfl,rfl,⟨_,_,rfl,rfl,⟨_,_,rfl,rfl,⟨_,_,rfl,rfl,⟨_,_,rfl,rfl,rfl⟩⟩⟩⟩⟩;rfl
 .rintro rfl;exact⟨_,_,rfl,rfl,⟨_,_,rfl,rfl,⟨_,_,rfl,rfl,⟨_,_,rfl,rfl,⟨_,_,rfl,rfl,rfl⟩⟩⟩⟩⟩
def TR(I:a8)(β:Nat->Value)(x:bm):bD I β (aW.enc x) (vw x):=by
 show bD I β [.int .i64 x.A,.int .i64 x.B,.int .i64 x.iA,.int .i64 x.iq,.int .i64 x.fo] _;simp only[bD,aD,a1];exact⟨_,_,rfl,rfl,⟨_,_,rfl,rfl,⟨_,_,rfl,rfl,⟨_,_,rfl,rfl,⟨_,_,rfl,rfl,rfl⟩⟩⟩⟩⟩
def TS(x:bm):∀v∈vw x,v.oneCell'=true:=by
 intro v a;simp only[vw,c5,hr,hG]at a;rcases a with rfl|rfl|rfl|rfl|rfl<;>rfl
def abG(a b:bm):EP a b=some (eF [λx:bm=>x.A,λx:bm=>x.B] a b):=by
 unfold EP q4;simp only[CM,vW,eF];rcases Int.lt_trichotomy a.A b.A with c|c|c<;>rcases Int.lt_trichotomy a.B b.B with d|d|d<;>simp[af,bC,c,d]<;>(repeat (first|rw[bw (by omega)]|rw[bx (by omega)]))<;>simp
def Re:zA prog 96 97 vw 5 (eF [λx:bm=>x.A,λx:bm=>x.B]):=λbR b aY a c f d e=>
 AnyQ.slices_SortFunc aFR 5 isAgg139 sizeOf139 vw (λ_=>rfl) TS _ (Ct _) 97 #[] bR b aY a c (enters_of func97 (by kernel_rfl) rfl)
  (Cb TR (λx g=>UU (abG x g)) bR b a.size c) f d e
def ZA{d T:Nat}{zs ys:mJ}(h:kg (eF [λx:bm=>x.A,λx:bm=>x.B]) zs=some ys):cz au prog 96 [(d,.slice T 5 (bc aW zs) 0 false)] [.own d,.fn 97 []] (λr a=>r=.bO []/\a=[(d,.slice T 5 (bc aW ys) 0 false)]):=
 Cg TQ (by decide) (λ_=>rfl) (λ_=>rfl) (sP _) Re (λc aY b e=>AnyF.slices_SortFunc_none aFR c aY b e) h
def aGi:Shelf.Ren:=
 {f:=λa=>match a with|6=>280|15=>144|14=>290|28=>212|29=>213|20=>295|21=>296|22=>297|23=>298|24=>299|25=>300|26=>301|27=>302|46=>307|47=>263|48=>264|49=>308|50=>309|57=>313|n=>n,t:=λa=>match a with|22=>346|24=>348|25=>350|39=>239|53=>292|55=>50|46=>286|45=>285|50=>134|66=>331|70=>335|76=>352|77=>353|n=>n,g:=λn=>n}
def aFT:SlLaysF0.n6 prog aGi:=by constructor<;>first|kernel_rfl|exact CF (by kernel_rfl) (by kernel_rfl)|exact λ_=>by kernel_rfl
def vx(x:dU):hD:=[.int .i64 x.ec,.int .i64 x.hU]
def TT(I:a8)(x:dU)(vs:hD):bP I (c3.enc x) vs↔vs=vx x:=by
 show bP I [.int .i64 x.ec,.int .i64 x.hU] vs↔vs=_;simp only[bP,a1];constructor
 .rintro⟨_,_,rfl,rfl,⟨_,_,rfl,rfl,rfl⟩⟩;rfl
 .rintro rfl;exact⟨_,_,rfl,rfl,⟨_,_,rfl,rfl,rfl⟩⟩
def TU(I:a8)(β:Nat->Value)(x:dU):bD I β (c3.enc x) (vx x):=by
 show bD I β [.int .i64 x.ec,.int .i64 x.hU] _;simp only[bD,aD,a1];exact⟨_,_,rfl,rfl,⟨_,_,rfl,rfl,rfl⟩⟩
def TV(x:dU):∀v∈vx x,v.oneCell'=true:=by
 intro v a;simp only[vx,c5,hr,hG]at a;rcases a with rfl|rfl<;>rfl
def TW(a b:dU):ER a b=some (eF [λx:dU=>x.ec] a b):=by
 unfold ER;simp only[CM];unfold vW eF;simp only[af,eF]
def ZB:zA prog 280 281 vx 2 (eF [λx:dU=>x.ec]):=λbR b aY a c f d e=>
 AnyQ.slices_SortFunc aFT 2 isAgg348 sizeOf348 vx (λ_=>rfl) TV _ (Ct _) 281 #[] bR b aY a c (enters_of func281 (by kernel_rfl) rfl)
  (Cb TU (λx g=>UW (TW x g)) bR b a.size c) f d e
def YS{d T:Nat}{zs ys:zg}(h:kg (eF [λx:dU=>x.ec]) zs=some ys):cz au prog 280 [(d,.slice T 2 (bc c3 zs) 0 false)] [.own d,.fn 281 []] (λr a=>r=.bO []/\a=[(d,.slice T 2 (bc c3 ys) 0 false)]):=
 Cg TT (by decide) (λ_=>rfl) (λ_=>rfl) (sP _) ZB (λc aY b e=>AnyF.slices_SortFunc_none aFT c aY b e) h
def aGj:Shelf.Ren:=
 {f:=λa=>match a with|6=>102|15=>144|14=>174|28=>212|29=>213|20=>241|21=>242|22=>243|23=>244|24=>245|25=>246|26=>247|27=>248|46=>277|47=>263|48=>264|49=>278|50=>279|57=>289|n=>n,t:=λa=>match a with|22=>42|24=>49|25=>199|39=>239|53=>292|55=>50|46=>286|45=>285|50=>134|66=>331|70=>335|76=>352|77=>353|n=>n,g:=λn=>n}
def aFU:SlLaysF0.n6 prog aGj:=by constructor<;>first|kernel_rfl|exact CF (by kernel_rfl) (by kernel_rfl)|exact λ_=>by kernel_rfl
def vF(x:cT):hD:=[.int .i64 x.ai,.int .i64 x.aP]
def ads(I:a8)(x:cT)(vs:hD):bP I (eM.enc x) vs↔vs=vF x:=by
 show bP I [.int .i64 x.ai,.int .i64 x.aP] vs↔vs=_;simp only[bP,a1];constructor
 .rintro⟨_,_,rfl,rfl,⟨_,_,rfl,rfl,rfl⟩⟩;rfl
 .rintro rfl;exact⟨_,_,rfl,rfl,⟨_,_,rfl,rfl,rfl⟩⟩
def adu(I:a8)(β:Nat->Value)(x:cT):bD I β (eM.enc x) (vF x):=by
 show bD I β [.int .i64 x.ai,.int .i64 x.aP] _;simp only[bD,aD,a1];exact⟨_,_,rfl,rfl,⟨_,_,rfl,rfl,rfl⟩⟩
def adl(x:cT):∀v∈vF x,v.oneCell'=true:=by
 intro v a;simp only[vF,c5,hr,hG]at a;rcases a with rfl|rfl<;>rfl
def TX(a b:cT):ES a b=some (eF [λx:cT=>x.aP] a b):=by
 unfold ES;simp only[CM];unfold vW eF;simp only[af,eF]
def ZC:zA prog 102 103 vF 2 (eF [λx:cT=>x.aP]):=λbR b aY a c f d e=>
 AnyQ.slices_SortFunc aFU 2 isAgg49 sizeOf49 vF (λ_=>rfl) adl _ (Ct _) 103 #[] bR b aY a c (enters_of func103 (by kernel_rfl) rfl)
  (Cb adu (λx g=>UX (TX x g)) bR b a.size c) f d e
def YU{d T:Nat}{zs ys:zw}(h:kg (eF [λx:cT=>x.aP]) zs=some ys):cz au prog 102 [(d,.slice T 2 (bc eM zs) 0 false)] [.own d,.fn 103 []] (λr a=>r=.bO []/\a=[(d,.slice T 2 (bc eM ys) 0 false)]):=
 Cg ads (by decide) (λ_=>rfl) (λ_=>rfl) (sP _) ZC (λc aY b e=>AnyF.slices_SortFunc_none aFU c aY b e) h
end
section
open Go Go.Proofs.Tryz
variable {au:Bool}
def j2{n r}(e:nH n=some r):bb au prog 137 [] [H n] (.bool r):=by
 refine a5 func137 rfl rfl ?_;unfold nH at e;refine aj [] [(0,H n)] []<|aFe [(2,.bool ((decide (n=8))||((decide (n=16))||((decide (n=32))||(decide (n=64))))))] [] (λd=>?_) ?_
 .rcases eU (decide (n=8))with a|a
  .exact aj [(2,Y (ax a)),(14,Y (hj (q:=((decide (n=16))||((decide (n=32))||(decide (n=64))))) a))] _ _ d
  rcases eU (decide (n=16))with b|b
  .exact aj [(2,Y (ax a)),(6,Y (ax b)),(14,Y ((hj (q:=((decide (n=32))||(decide (n=64)))) b).trans (eW (q:=((decide (n=16))||((decide (n=32))||(decide (n=64))))) a)))] _ _ d
  rcases eU (decide (n=32))with c|c
  .exact aj [(2,Y (ax a)),(6,Y (ax b)),(10,Y (ax c)),(14,Y (((hj (q:=decide (n=64)) c).trans (eW (q:=((decide (n=32))||(decide (n=64)))) b)).trans (eW (q:=((decide (n=16))||((decide (n=32))||(decide (n=64))))) a)))] _ _ d
  exact aj [(2,Y (ax a)),(6,Y (ax b)),(10,Y (ax c)),(14,Y (((eW (q:=decide (n=64)) c).trans (eW (q:=((decide (n=32))||(decide (n=64)))) b)).trans (eW (q:=((decide (n=16))||((decide (n=32))||(decide (n=64))))) a)))] _ _ d
 exact aN
def hv{n c a r}(e:p5 n c a=some r):bb au prog 214 [] [H n,H c,H a] (.bool r):=by
 refine a5 func214 rfl rfl ?_;unfold p5 at e;refine aj [] [(0,H n),(1,H c),(2,H a)] []<|aFe [(6,.bool ((decide (c<=n))&&(decide (n<=a))))] [] (λd=>?_) ?_
 .rcases eU (decide (c<=n))with b|b
  .exact aj [(3,Y (ax b)),(8,Y (ko (q:=decide (n<=a)) b))] _ _ d
  exact aj [(3,Y (ax b)),(8,Y (kK (q:=decide (n<=a)) b))] _ _ d
 exact aN
variable {a:a6}
def xx{r}(b:q1 a=some r):bb au prog 149 [] [.agg (ej a)] (.bool r):=by
 refine a5 func149 rfl rfl ?_;unfold q1 at b;refine aj [(0,.al 27)] [(1,.ptr 27 0)] [(27,.cells 167 (ej a))]<|aq ?_
 obtain⟨U,T,b⟩:=cV b;refine cW U r (λw=>[(1,.ptr 27 0),(28,.bool w)]) (λw=>[(27,.cells 167 (ej a))]) ?_ ?_
 .obtain⟨aw,s,b⟩:=az b;rcases aC b with⟨i,b⟩|⟨i,b⟩
  .exact a7 [(2,aB (hv s) hA),(4,Y (ax i))] [] [(28,.bool true)]<|aT true b
  obtain⟨ao,t,b⟩:=az b;rcases aC b with⟨m,b⟩|⟨m,b⟩
  .exact a7 [(2,aB (hv s) hA),(4,Y (ax i)),(7,aB (hv t) hA),(10,Y (ax m))] [] [(28,.bool true)]<|aT true b
  rcases aC b with⟨v,b⟩|⟨v,b⟩
  .exact a7 [(2,aB (hv s) hA),(4,Y (ax i)),(7,aB (hv t) hA),(10,Y (ax m)),(13,Y (bk dO a.Links)),(16,Y (ax v))] [] [(28,.bool true)]<|aT true b
  exact a7 [(2,aB (hv s) hA),(4,Y (ax i)),(7,aB (hv t) hA),(10,Y (ax m)),(13,Y (bk dO a.Links)),(16,Y (ax v)),(19,Y (bk dL a.Claims))] [] [(28,.d (8<(a.Claims.length:Int)))]<|aT (decide (8<(a.Claims.length:Int))) b
 rintro w b;rw[T]at b;rcases aC b with⟨y,b⟩|⟨y,b⟩
 .exact aI y<|aj [] [(2,.bool false)] []<|aN
 refine aH y<|aK<|aq<|ak [(2,Y (bk dO a.Links))] [28] [(30,an dO a.Links),(31,H a.Links.length),(32,H 0)]<|aX<|aFd 30 rfl λO=>?_
 obtain⟨aG,aJ,R,S,b⟩:=cG b;refine cO b (λc()=>[(1,.ptr 27 0),(30,an dO a.Links),(31,H a.Links.length),(32,H c)]) (λc()=>[(27,.cells 167 (ej a))]) ?_ ?_ ?_
 .exact c8
 .rintro c I aD ⟨⟩ Q u b;rw[R]at b;refine ak [] [] [(33,.d ((c:Int)<a.Links.length))]<|aq<|aI (cL u)<|aK<|aq<|aX<|aV [(1,be (ix dO (bU u))),(3,.al 507)] [33] [(4,.ptr 507 0),(3,H c)] [] [(507,.cells 185 (nR I))] ?_
  obtain⟨M,V,b⟩:=cV b;refine cW M r (λz=>[(1,.ptr 27 0),(30,an dO a.Links),(31,H a.Links.length),(32,H c),(75,.bool z)]) (λz=>[(27,.cells 167 (ej a))]) ?_ ?_
  .obtain⟨ar,f,b⟩:=az b;rcases aC b with⟨e,b⟩|⟨e,b⟩
   .exact b0 [(2,aB (hv f) hA),(4,Y (ax e))] [4,3] [(75,.bool true)] [507] []<|aT true b
   rcases aC b with⟨g,b⟩|⟨g,b⟩
   .exact b0 [(2,aB (hv f) hA),(4,Y (ax e)),(11,Y (ax g))] [4,3] [(75,.bool true)] [507] []<|aT true b
   obtain⟨aE,n,b⟩:=az b;rcases aC b with⟨j,b⟩|⟨j,b⟩
   .exact b0 [(2,aB (hv f) hA),(4,Y (ax e)),(11,Y (ax g)),(14,aB (hv n) hA),(17,Y (ax j))] [4,3] [(75,.bool true)] [507] []<|aT true b
   obtain⟨ay,x,b⟩:=az b;rcases aC b with⟨o,b⟩|⟨o,b⟩
   .exact b0 [(2,aB (hv f) hA),(4,Y (ax e)),(11,Y (ax g)),(14,aB (hv n) hA),(17,Y (ax j)),(20,aB (hv x) hA),(23,Y (ax o))] [4,3] [(75,.bool true)] [507] []<|aT true b
   rcases aC b with⟨C,b⟩|⟨C,b⟩
   .obtain⟨K,N,b⟩:=az b;exact b0 [(2,aB (hv f) hA),(4,Y (ax e)),(11,Y (ax g)),(14,aB (hv n) hA),(17,Y (ax j)),(20,aB (hv x) hA),(23,Y (ax o)),(26,Y (ax C)),(31,be (ix dO N))] [4,3] [(75,.d (I.ez<=K.ez))] [507] []<|aT (decide (I.ez<=K.ez)) b
   exact b0 [(2,aB (hv f) hA),(4,Y (ax e)),(11,Y (ax g)),(14,aB (hv n) hA),(17,Y (ax j)),(20,aB (hv x) hA),(23,Y (ax o)),(26,Y (ax C))] [4,3] [(75,.bool false)] [507] []<|aT false b
  rintro z b;rw[V]at b;rcases aC b with⟨D,b⟩|⟨D,b⟩
  .exact aI D<|aj [] [(2,.bool false)] []<|aN
  exact aH D<|aK<|a7 [(0,Y (cI u O))] [32,75] [(32,H ((c+1:Nat):Int))]<|aT () b
 rintro c ⟨⟩ Q P b;rw[S]at b;refine ak [] [] [(33,.d ((c:Int)<a.Links.length))]<|aq<|aH (cK P)<|bQ<|aq<|ak [(2,Y (bk dL a.Claims))] [30,31,32,33] [(78,an dL a.Claims),(79,H a.Claims.length),(80,H 0)]<|aX<|aFd 78 rfl λX=>?_
 obtain⟨aY,aW,Z,aa,b⟩:=cG b;refine cO b (λd()=>[(1,.ptr 27 0),(78,an dL a.Claims),(79,H a.Claims.length),(80,H d)]) (λd()=>[(27,.cells 167 (ej a))]) ?_ ?_ ?_
 .exact c8
 .rintro d J aU ⟨⟩ ab A b;rw[Z]at b;refine ak [] [] [(81,.d ((d:Int)<a.Claims.length))]<|aq<|aI (cL A)<|aK<|aq<|aX<|aV [(1,be (ix dL (bU A))),(3,.al 508)] [81] [(6,.ptr 508 0),(5,H d)] [] [(508,.cells 141 (uD J))] ?_
  obtain⟨ae,am,b⟩:=cV b;refine cW ae r (λE=>[(1,.ptr 27 0),(78,an dL a.Claims),(79,H a.Claims.length),(80,H d),(116,.bool E)]) (λE=>[(27,.cells 167 (ej a))]) ?_ ?_
  .obtain⟨aA,k,b⟩:=az b;rcases aC b with⟨h,b⟩|⟨h,b⟩
   .exact b0 [(2,aB (hv k) hA),(4,Y (ax h))] [6,5] [(116,.bool true)] [508] []<|aT true b
   obtain⟨aR,p,b⟩:=az b;rcases aC b with⟨l,b⟩|⟨l,b⟩
   .exact b0 [(2,aB (hv k) hA),(4,Y (ax h)),(7,aB (hv p) hA),(10,Y (ax l))] [6,5] [(116,.bool true)] [508] []<|aT true b
   obtain⟨aL,B,b⟩:=az b;rcases aC b with⟨q,b⟩|⟨q,b⟩
   .exact b0 [(2,aB (hv k) hA),(4,Y (ax h)),(7,aB (hv p) hA),(10,Y (ax l)),(13,aB (j2 B) j8),(16,Y (ax q))] [6,5] [(116,.bool true)] [508] []<|aT true b
   rcases aC b with⟨F,b⟩|⟨F,b⟩
   .obtain⟨L,ag,b⟩:=az b;exact b0 [(2,aB (hv k) hA),(4,Y (ax h)),(7,aB (hv p) hA),(10,Y (ax l)),(13,aB (j2 B) j8),(16,Y (ax q)),(19,Y (ax F)),(24,be (ix dL ag))] [6,5] [(116,.d (J.bA<=L.bA))] [508] []<|aT (decide (J.bA<=L.bA)) b
   exact b0 [(2,aB (hv k) hA),(4,Y (ax h)),(7,aB (hv p) hA),(10,Y (ax l)),(13,aB (j2 B) j8),(16,Y (ax q)),(19,Y (ax F))] [6,5] [(116,.bool false)] [508] []<|aT false b
  rintro E b;rw[am]at b;rcases aC b with⟨G,b⟩|⟨G,b⟩
  .exact aI G<|aj [] [(2,.bool false)] []<|aN
  exact aH G<|aK<|a7 [(0,Y (cI A X))] [80,116] [(80,H ((d+1:Nat):Int))]<|aT () b
 rintro d ⟨⟩ ab W b;rw[aa]at b;exact ak [] [] [(81,.d ((d:Int)<a.Claims.length))]<|aq<|aH (cK W)<|bQ<|aj [] [(2,.bool true)] []<|aN
def PY{a b r}(c:Az a b=some r):bb au prog 157 [] [an dO a,an dO b] (.bool r):=by
 refine a5 func157 rfl rfl ?_;unfold Az at c;refine aj [] [(0,an dO a),(1,an dO b)] []<|aq<|ak [(1,Y (bk dO a)),(3,Y (bk dO b))] [] [(11,.bool (!decide ((a.length:Int)=(b.length:Int))))] ?_
 rcases aC c with⟨g,c⟩|⟨g,c⟩
 .exact aI g<|aj [] [(4,.bool false)] []<|aN
 refine aH g<|aK<|aq<|ak [(1,Y (bk dO a))] [0,11] [(12,an dO a),(13,H a.length),(14,H 0)]<|aX<|aFd 12 rfl λj=>?_
 obtain⟨u,v,m,n,c⟩:=cG c;refine cO c (λd()=>[(1,an dO b),(12,an dO a),(13,H a.length),(14,H d)]) (λd()=>[]) ?_ ?_ ?_
 .exact c8
 .rintro d e t ⟨⟩ l h c;rw[m]at c;refine ak [] [] [(15,.d ((d:Int)<a.length))]<|aq<|aI (cL h)<|aK<|aq<|aX<|aV [(1,be (ix dO (bU h))),(3,.al 513)] [15] [(6,.ptr 513 0),(5,H d)] [] [(513,.cells 185 (nR e))] ?_
  obtain⟨i,o,c⟩:=az c;refine aV [(3,be (ix dO o)),(5,.xT true 185 (.agg (nR e)) (.agg (nR i)) (!(sT e i)) (λq s p=>Xb q s _ _ _ _ _ _ p))] [6,5] [(24,.bool (!(sT e i)))] [513] [] ?_;rcases aC c with⟨f,c⟩|⟨f,c⟩
  .exact aI f<|aj [] [(4,.bool false)] []<|aN
  exact aH f<|aK<|a7 [(0,Y (cI h j))] [14,24] [(14,H ((d+1:Nat):Int))]<|aT () c
 rintro d ⟨⟩ l k c;rw[n]at c;exact ak [] [] [(15,.d ((d:Int)<a.length))]<|aq<|aH (cK k)<|bQ<|aj [] [(4,.bool true)] []<|aN
def Ue{a b r}(c:AA a b=some r):bb au prog 158 [] [an dL a,an dL b] (.bool r):=by
 refine a5 func158 rfl rfl ?_;unfold AA at c;refine aj [] [(0,an dL a),(1,an dL b)] []<|aq<|ak [(1,Y (bk dL a)),(3,Y (bk dL b))] [] [(11,.bool (!decide ((a.length:Int)=(b.length:Int))))] ?_
 rcases aC c with⟨g,c⟩|⟨g,c⟩
 .exact aI g<|aj [] [(4,.bool false)] []<|aN
 refine aH g<|aK<|aq<|ak [(1,Y (bk dL a))] [0,11] [(12,an dL a),(13,H a.length),(14,H 0)]<|aX<|aFd 12 rfl λj=>?_
 obtain⟨u,v,m,n,c⟩:=cG c;refine cO c (λd()=>[(1,an dL b),(12,an dL a),(13,H a.length),(14,H d)]) (λd()=>[]) ?_ ?_ ?_
 .exact c8
 .rintro d e t ⟨⟩ l h c;rw[m]at c;refine ak [] [] [(15,.d ((d:Int)<a.length))]<|aq<|aI (cL h)<|aK<|aq<|aX<|aV [(1,be (ix dL (bU h))),(3,.al 514)] [15] [(6,.ptr 514 0),(5,H d)] [] [(514,.cells 141 (uD e))] ?_
  obtain⟨i,o,c⟩:=az c;refine aV [(3,be (ix dL o)),(5,.xT true 141 (.agg (uD e)) (.agg (uD i)) (!(sS e i)) (λq s p=>Xa q s _ _ _ _ _ _ p))] [6,5] [(24,.bool (!(sS e i)))] [514] [] ?_;rcases aC c with⟨f,c⟩|⟨f,c⟩
  .exact aI f<|aj [] [(4,.bool false)] []<|aN
  exact aH f<|aK<|a7 [(0,Y (cI h j))] [14,24] [(14,H ((d+1:Nat):Int))]<|aT () c
 rintro d ⟨⟩ l k c;rw[n]at c;exact ak [] [] [(15,.d ((d:Int)<a.length))]<|aq<|aH (cK k)<|bQ<|aj [] [(4,.bool true)] []<|aN
def acR{s1:td}{c:td}{i:a6->a6->dw}{wL:Nat}{zJ:List U}(JM:a3 prog wL)(JN:∀(g:a6) (h:a6) (q:Bool),i g h=some q->bb au prog wL [] ([.agg (ej g),.agg (ej h)]++zJ) (.bool q)){r:Bool}(a:DP s1 c i=some r):bb au prog 166 [] [an cN s1,an cN c,.cD wL zJ] (.bool r):=by
 refine a5 func166 rfl rfl ?_;unfold DP at a;refine aj [] [(0,an cN s1),(1,an cN c),(2,.cD wL zJ)] []<|aq<|ak [(1,Y (bk cN s1)),(3,Y (bk cN c))] [] [(14,.bool (!decide ((s1.length:Int)=(c.length:Int))))] ?_
 rcases aC a with⟨e,a⟩|⟨e,a⟩
 .exact aI e<|aj [] [(6,.bool false)] []<|aN
 refine aH e<|aK<|aq<|ak [(1,Y (bk cN s1))] [0,14] [(15,an cN s1),(16,H s1.length),(17,H 0)]<|aX<|aFd 15 rfl λl=>?_
 obtain⟨w,x,o,p,a⟩:=cG a;refine cO a (λb()=>[(1,an cN c),(2,.cD wL zJ),(15,an cN s1),(16,H s1.length),(17,H b)]) (λb()=>[]) ?_ ?_ ?_
 .exact c8
 .rintro b t v ⟨⟩ n f a;rw[o]at a;refine ak [] [] [(18,.d ((b:Int)<s1.length))]<|aq<|aI (cL f)<|aK<|aq<|aX<|aV [(1,be (ix cN (bU f))),(3,.al 401)] [18] [(8,.ptr 401 0),(7,H b)] [] [(401,.cells 167 (ej t))] ?_
  obtain⟨s,u,a⟩:=az a;refine aV [(2,be (ix cN u)),(4,.al 516)] [7] [(9,.ptr 516 0)] [] [(516,.cells 167 (ej s))] ?_;obtain⟨k,j,a⟩:=az a;refine aV [(3,jH (JN _ _ _ j) JM)] [8,9] [(30,.bool (!k))] [401,516] [] ?_;rcases aC a with⟨d,a⟩|⟨d,a⟩
  .exact aI d<|aj [] [(6,.bool false)] []<|aN
  exact aH d<|aK<|a7 [(0,Y (cI f l))] [17,30] [(17,H ((b+1:Nat):Int))]<|aT () a
 rintro b ⟨⟩ n m a;rw[p]at a;exact ak [] [] [(18,.d ((b:Int)<s1.length))]<|aq<|aH (cK m)<|bQ<|aj [] [(6,.bool true)] []<|aN
def xk{b r}(c:sJ a b=some r):bb au prog 77 [] [.agg (ej a),.agg (ej b)] (.bool r):=by
 refine a5 func77 rfl rfl ?_;unfold sJ at c;refine aj [(0,.al 562),(1,.al 563)] [(2,.ptr 562 0),(3,.ptr 563 0)] [(562,.cells 167 (ej a)),(563,.cells 167 (ej b))] ?_;rcases aC c with⟨d,c⟩|⟨d,c⟩
 .rcases aC c with⟨e,c⟩|⟨e,c⟩
  .rcases aC c with⟨f,c⟩|⟨f,c⟩
   .obtain⟨k,h,c⟩:=az c;rcases aC c with⟨g,c⟩|⟨g,c⟩
    .obtain⟨i,j,c⟩:=az c;exact aj [(5,Y (ax d)),(12,Y (ax e)),(19,Y (ax f)),(24,aB (PY h) Ou),(26,Y (ax g)),(31,aB (Ue j) Tc)] [(4,.bool i)] []<|aN
    exact aj [(5,Y (ax d)),(12,Y (ax e)),(19,Y (ax f)),(24,aB (PY h) Ou),(26,Y (ax g))] [(4,.bool false)] []<|aN
   exact aj [(5,Y (ax d)),(12,Y (ax e)),(19,Y (ax f))] [(4,.bool false)] []<|aN
  exact aj [(5,Y (ax d)),(12,Y (ax e))] [(4,.bool false)] []<|aN
 exact aj [(5,Y (ax d))] [(4,.bool false)] []<|aN
def adB{a}(d:bc aW a≠[]){r}(b:Ap a=some r):cz au prog 67 [] [an aW a] (eH (.own 13) [(13,.s 139 aW r)]):=by
 refine a5 func67 rfl rfl ?_;unfold Ap at b;refine aj [] [(0,an aW a)] []<|aq<|ak [(1,.kH false (an aW a) (Cy d))] [] [(4,.bool false)]<|aFl rfl rfl<|aK ?_
 obtain⟨c,e,b⟩:=az b;refine aj [(0,.al 67005),(2,dS 311 (ap aW (bytes:=40) (by decide) e))] [(2,.own 311)] [(311,.s 139 aW c)]<|c2 ?_
 obtain rfl:=cy b;exact c0 [.b8 311 13]
def adC{r}(a:PO=some r):cz au prog 67 [] [.gj] (eH (.own 13) [(13,.s 139 aW r)]):=by
 refine a5 func67 rfl rfl ?_;unfold PO at a;refine aj [] [(0,.gj)] []<|aq<|ak [(1,.kH false .gj (Cz))] [] [(4,.bool false)]<|aFl rfl rfl<|aK ?_
 obtain⟨b,c,a⟩:=az a;refine aj [(0,.al 67005),(2,dS 311 (ap aW (bytes:=40) (by decide) c))] [(2,.own 311)] [(311,.s 139 aW b)]<|c2 ?_
 obtain rfl:=cy a;exact c0 [.b8 311 13]
def adG(n c:Nat)(w:World):Calls prog 67 #[.slice none n c] w λe w'=>e=.returned (.slice none 0 0)/\w'=w:=by
 have f:∀(w:World) (a:Option Addr) (n c d b:Nat),(binOp .eql 25 (.slice a n c) (.slice none d b)).run prog w=.ok (.bool a.isNone) w:=λw a n c d b=>Lib.run_eql_slice_nil w _ _ a n c d b underlying25
 go_enter func67,Tryz.ntmps67
 go_wp2
 go_ret
 exact⟨rfl,rfl⟩
def D3{s r}(d:qJ s=some r):cz au prog 67 [] [.bn false (bc aW s)] (eH (.own 13) [(13,.s 139 aW r)]):=by
 obtain rfl:s=r:=by
  unfold qJ Ap at d;obtain⟨f,c,d⟩:=az d;have:=(CK c).symm;simp at this;subst this
  exact cy d
 refine Cf adG (λc=>adB c d) (λc=>?_) (λc=>c);have e:s=[]:=by cases s with|nil=>rfl|cons a b=>simp[bc]at c
 subst e;exact adC d
def adn{a}(d:bc dL a≠[]){r}(b:Ae a=some r):cz au prog 152 [] [an dL a] (eH (.own 215) [(215,.s 141 dL r)]):=by
 refine a5 func152 rfl rfl ?_;unfold Ae at b;refine aj [] [(0,an dL a)] []<|aq<|ak [(1,.kH false (an dL a) (Cy d))] [] [(4,.bool false)]<|aFl rfl rfl<|aK ?_
 obtain⟨c,e,b⟩:=az b;refine aj [(0,.al 152005),(2,dS 300 (ap dL (bytes:=24) (by decide) e))] [(2,.own 300)] [(300,.s 141 dL c)]<|c2 ?_
 obtain rfl:=cy b;exact c0 [.b8 300 215]
def ado{r}(a:PM=some r):cz au prog 152 [] [.gj] (eH (.own 215) [(215,.s 141 dL r)]):=by
 refine a5 func152 rfl rfl ?_;unfold PM at a;refine aj [] [(0,.gj)] []<|aq<|ak [(1,.kH false .gj (Cz))] [] [(4,.bool false)]<|aFl rfl rfl<|aK ?_
 obtain⟨b,c,a⟩:=az a;refine aj [(0,.al 152005),(2,dS 300 (ap dL (bytes:=24) (by decide) c))] [(2,.own 300)] [(300,.s 141 dL b)]<|c2 ?_
 obtain rfl:=cy a;exact c0 [.b8 300 215]
def adE(n c:Nat)(w:World):Calls prog 152 #[.slice none n c] w λe w'=>e=.returned (.slice none 0 0)/\w'=w:=by
 have f:∀(w:World) (a:Option Addr) (n c d b:Nat),(binOp .eql 32 (.slice a n c) (.slice none d b)).run prog w=.ok (.bool a.isNone) w:=λw a n c d b=>Lib.run_eql_slice_nil w _ _ a n c d b underlying32
 go_enter func152,Tryz.ntmps152
 go_wp2
 go_ret
 exact⟨rfl,rfl⟩
def IL{s r}(d:uy s=some r):cz au prog 152 [] [.bn false (bc dL s)] (eH (.own 215) [(215,.s 141 dL r)]):=by
 obtain rfl:s=r:=by
  unfold uy Ae at d;obtain⟨f,c,d⟩:=az d;have:=(CK c).symm;simp at this;subst this
  exact cy d
 refine Cf adE (λc=>adn c d) (λc=>?_) (λc=>c);have e:s=[]:=by cases s with|nil=>rfl|cons a b=>simp[bc]at c
 subst e;exact ado d
def T8{a}(d:bc aJ a≠[]){r}(b:Ax a=some r):cz au prog 190 [] [an aJ a] (eH (.own 279) [(279,.s 3 aJ r)]):=by
 refine a5 func190 rfl rfl ?_;unfold Ax at b;refine aj [] [(0,an aJ a)] []<|aq<|ak [(1,.kH false (an aJ a) (Cy d))] [] [(4,.bool false)]<|aFl rfl rfl<|aK ?_
 obtain⟨c,e,b⟩:=az b;refine aj [(0,.al 190005),(2,dS 303 (ap aJ (bytes:=8) (by decide) e))] [(2,.own 303)] [(303,.s 3 aJ c)]<|c2 ?_
 obtain rfl:=cy b;exact c0 [.b8 303 279]
def T9{r}(a:P6=some r):cz au prog 190 [] [.gj] (eH (.own 279) [(279,.s 3 aJ r)]):=by
 refine a5 func190 rfl rfl ?_;unfold P6 at a;refine aj [] [(0,.gj)] []<|aq<|ak [(1,.kH false .gj (Cz))] [] [(4,.bool false)]<|aFl rfl rfl<|aK ?_
 obtain⟨b,c,a⟩:=az a;refine aj [(0,.al 190005),(2,dS 303 (ap aJ (bytes:=8) (by decide) c))] [(2,.own 303)] [(303,.s 3 aJ b)]<|c2 ?_
 obtain rfl:=cy a;exact c0 [.b8 303 279]
def Uh(n c:Nat)(w:World):Calls prog 190 #[.slice none n c] w λe w'=>e=.returned (.slice none 0 0)/\w'=w:=by
 have f:∀(w:World) (a:Option Addr) (n c d b:Nat),(binOp .eql 22 (.slice a n c) (.slice none d b)).run prog w=.ok (.bool a.isNone) w:=λw a n c d b=>Lib.run_eql_slice_nil w _ _ a n c d b underlying22
 go_enter func190,Tryz.ntmps190
 go_wp2
 go_ret
 exact⟨rfl,rfl⟩
def PX{s r}(d:wY s=some r):cz au prog 190 [] [.bn false (bc aJ s)] (eH (.own 279) [(279,.s 3 aJ r)]):=by
 obtain rfl:s=r:=by
  unfold wY Ax at d;obtain⟨f,c,d⟩:=az d;have:=(CK c).symm;simp at this;subst this
  exact cy d
 refine Cf Uh (λc=>T8 c d) (λc=>?_) (λc=>c);have e:s=[]:=by cases s with|nil=>rfl|cons a b=>simp[bc]at c
 subst e;exact T9 d
def adp{a}(d:bc dO a≠[]){r}(b:Af a=some r):cz au prog 219 [] [an dO a] (eH (.own 222) [(222,.s 185 dO r)]):=by
 refine a5 func219 rfl rfl ?_;unfold Af at b;refine aj [] [(0,an dO a)] []<|aq<|ak [(1,.kH false (an dO a) (Cy d))] [] [(4,.bool false)]<|aFl rfl rfl<|aK ?_
 obtain⟨c,e,b⟩:=az b;refine aj [(0,.al 219005),(2,dS 305 (ap dO (bytes:=24) (by decide) e))] [(2,.own 305)] [(305,.s 185 dO c)]<|c2 ?_
 obtain rfl:=cy b;exact c0 [.b8 305 222]
def adq{r}(a:PN=some r):cz au prog 219 [] [.gj] (eH (.own 222) [(222,.s 185 dO r)]):=by
 refine a5 func219 rfl rfl ?_;unfold PN at a;refine aj [] [(0,.gj)] []<|aq<|ak [(1,.kH false .gj (Cz))] [] [(4,.bool false)]<|aFl rfl rfl<|aK ?_
 obtain⟨b,c,a⟩:=az a;refine aj [(0,.al 219005),(2,dS 305 (ap dO (bytes:=24) (by decide) c))] [(2,.own 305)] [(305,.s 185 dO b)]<|c2 ?_
 obtain rfl:=cy a;exact c0 [.b8 305 222]
def adF(n c:Nat)(w:World):Calls prog 219 #[.slice none n c] w λe w'=>e=.returned (.slice none 0 0)/\w'=w:=by
 have f:∀(w:World) (a:Option Addr) (n c d b:Nat),(binOp .eql 165 (.slice a n c) (.slice none d b)).run prog w=.ok (.bool a.isNone) w:=λw a n c d b=>Lib.run_eql_slice_nil w _ _ a n c d b underlying165
 go_enter func219,Tryz.ntmps219
 go_wp2
 go_ret
 exact⟨rfl,rfl⟩
def PL{s r}(d:wT s=some r):cz au prog 219 [] [.bn false (bc dO s)] (eH (.own 222) [(222,.s 185 dO r)]):=by
 obtain rfl:s=r:=by
  unfold wT Af at d;obtain⟨f,c,d⟩:=az d;have:=(CK c).symm;simp at this;subst this
  exact cy d
 refine Cf adF (λc=>adp c d) (λc=>?_) (λc=>c);have e:s=[]:=by cases s with|nil=>rfl|cons a b=>simp[bc]at c
 subst e;exact adq d
def Es{r}(b:qS a=some r):bb au prog 163 [] [.agg (ej a)] (.agg (ej r)):=by
 refine a5 func163 rfl rfl ?_;unfold qS at b;refine aj [(0,.al 400),(1,.al 314)] [(1,.ptr 400 0),(2,.ptr 314 0)] [(400,.cells 167 (ej a)),(314,.c 167 [H 0,H 0,.bool false,.aF,.aF])] ?_;obtain⟨e,f,c,d,b⟩:=er b;refine aV [(2,b3 [222] (PL f) OB),(5,b3 [215] (IL d) HG)] [] [] [400] [(400,.c 167 [H a.ai,H a.Seq,.bool a.bK,.own 222,.own 215]),(222,.s 185 dO e),(215,.s 141 dL c)]<|aV [] [1] [] [400,314] [(314,.c 167 [H a.ai,H a.Seq,.bool a.bK,.own 222,.own 215])]<|c2 ?_
 obtain rfl:=cy b;exact c0 [.bL [222,215]]
def Uy{r}(b:EM a=some r):bb au prog 170 [] [.agg (ej a)] (.bool r):=by
 refine a5 func170 rfl rfl ?_;unfold EM at b;refine aj [(0,.al 519)] [(1,.ptr 519 0)] [(519,.cells 167 (ej a))] ?_;obtain⟨c,d,b⟩:=az b;exact aj [(1,aB (xx d) vU)] [(2,.bool (!c))] []<|aN
def qO{d r}(a:pZ d=some r):bb au prog 92 [] [.agg (fZ d)] (H r):=by
 refine a5 func92 rfl rfl ?_;unfold pZ at a;refine aj [(0,.al 145)] [(1,.ptr 145 0)] [(145,.cells 35 (fZ d))]<|aq<|aX<|ak [(2,Y (bk cN d.bq))] [] [(4,.d (99<(d.bq.length:Int)))] ?_
 rcases aC a with⟨e,a⟩|⟨e,a⟩
 .exact aI e<|aj [] [(2,H 3)] []<|aN
 refine aH e ?_;obtain⟨m,w,a⟩:=az a;refine ak [(2,aB (ac3 (bZ:=170) (cp:=[]) (dQ:=Tk) (dP:=λ_ _ v=>Uy v) w) Tj)] [4] [(9,.bool m)] ?_;rcases aC a with⟨c,a⟩|⟨c,a⟩
 .exact aI c<|aj [] [(2,H 1)] []<|aN
 refine aH c<|aK<|aq<|ak [(2,Y (bk cN d.bq))] [9] [(15,H d.bq.length),(16,H 0)]<|aX<|aFm 1 0 rfl rfl rfl λn=>?_
 obtain⟨y,z,q,s,a⟩:=cG a;refine cO a (λb()=>[(1,.ptr 145 0),(15,H d.bq.length),(16,H b)]) (λb()=>[(145,.cells 35 (fZ d))]) ?_ ?_ ?_
 .exact c8
 .rintro b k x ⟨⟩ p f a;rw[q]at a;refine ak [] [] [(17,.d ((b:Int)<d.bq.length))]<|aq<|aI (cL f)<|aK<|aq<|aX<|ak [] [17] [(3,H b)] ?_
  obtain⟨u,t,a⟩:=cV a;refine cW u r (λh=>[(1,.ptr 145 0),(15,H d.bq.length),(16,H b),(36,.bool h)]) (λh=>[(145,.cells 35 (fZ d))]) ?_ ?_
  .rcases aC a with⟨g,a⟩|⟨g,a⟩
   .obtain⟨j,l,a⟩:=az a;exact a7 [(2,Y (ax g)),(7,be (ix cN l)),(13,be (ix cN (bU f)))] [3] [(36,.d (k.ai<=j.ai))]<|aT (decide (k.ai<=j.ai)) a
   exact a7 [(2,Y (ax g))] [3] [(36,.bool false)]<|aT false a
  rintro h a;rw[t]at a;rcases aC a with⟨i,a⟩|⟨i,a⟩
  .exact aI i<|aj [] [(2,H 25)] []<|aN
  exact aH i<|aK<|a7 [(0,Y (cI f n))] [16,36] [(16,H ((b+1:Nat):Int))]<|aT () a
 rintro b ⟨⟩ p o a;rw[s]at a;exact ak [] [] [(17,.d ((b:Int)<d.bq.length))]<|aq<|aH (cK o)<|bQ<|aj [] [(2,H 0)] []<|aN
def U7{a b r}(c:xF a b=some r):bb au prog 89 [] [.agg (fZ a),.agg (fZ b)] (.bool r):=by
 refine a5 func89 rfl rfl ?_;unfold xF at c;refine aj [(0,.al 570),(1,.al 571)] [(2,.ptr 570 0),(3,.ptr 571 0)] [(570,.cells 35 (fZ a)),(571,.cells 35 (fZ b))] ?_;obtain⟨d,f,c⟩:=az c;exact aj [(4,aB (acR (wL:=77) (zJ:=[]) (JM:=wK) (JN:=λ_ _ _ e=>xk e) f) Tg)] [(4,.bool d)] []<|aN
def AM{d c r}(a:qY d c=some r):bb au prog 87 [] [.agg (fZ d),H c] (.bO [.agg (ej r.1),.bool r.2]):=by
 refine a5 func87 rfl rfl ?_;unfold qY at a;refine aj [(0,.al 568),(1,.al 169)] [(1,H c),(2,.ptr 568 0),(4,.ptr 169 0)] [(568,.cells 35 (fZ d)),(169,.c 167 [H 0,H 0,.bool false,.aF,.aF])]<|aq<|aV [(2,Y (bk cN d.bq))] [2] [(9,an cN d.bq),(10,H d.bq.length),(11,H 0)] [568] []<|aX<|aFd 9 rfl λi=>?_
 obtain⟨p,q,l,m,a⟩:=cG a;refine cO a (λb()=>[(1,H c),(4,.ptr 169 0),(9,an cN d.bq),(10,H d.bq.length),(11,H b)]) (λb()=>[(169,.c 167 [H 0,H 0,.bool false,.aF,.aF])]) ?_ ?_ ?_
 .exact c8
 .rintro b g o ⟨⟩ k f a;rw[l]at a;refine ak [] [] [(12,.d ((b:Int)<d.bq.length))]<|aq<|aI (cL f)<|aK<|aq<|aX<|aV [(0,be (ix cN (bU f))),(2,.al 452)] [12] [(7,.ptr 452 0)] [] [(452,.cells 167 (ej g))]<|ak [] [] [(18,.d (g.ai=c))] ?_
  rcases aC a with⟨e,a⟩|⟨e,a⟩
  .refine aI e ?_;obtain⟨h,n,a⟩:=az a;exact aj [(1,aB (Es n) Db)] [(4,.ptr 169 0),(5,.bool true)] [(169,.cells 167 (ej h))]<|aN
  exact aH e<|aK<|b0 [(0,Y (cI f i))] [11,7,18] [(11,H ((b+1:Nat):Int))] [452] []<|aT () a
 rintro b ⟨⟩ k j a;rw[m]at a;exact ak [] [] [(12,.d ((b:Int)<d.bq.length))]<|aq<|aH (cK j)<|bQ<|ak [] [1,9,10,11,12] [(5,.bool false)]<|aN
def UP{d r}(b:A3 a d=some r):bb au prog 93 [] [.agg (ej a),H d] (.bO [.agg (nR r.1),.bool r.2]):=by
 refine a5 func93 rfl rfl ?_;unfold A3 at b;refine aj [(0,.al 574),(1,.al 170)] [(1,H d),(2,.ptr 574 0),(4,.ptr 170 0)] [(574,.cells 167 (ej a)),(170,.c 185 [H 0,H 0,H 0])]<|aq<|aV [(2,Y (bk dO a.Links))] [2] [(9,an dO a.Links),(10,H a.Links.length),(11,H 0)] [574] []<|aX<|aFd 9 rfl λh=>?_
 obtain⟨n,o,k,l,b⟩:=cG b;refine cO b (λc()=>[(1,H d),(4,.ptr 170 0),(9,an dO a.Links),(10,H a.Links.length),(11,H c)]) (λc()=>[(170,.c 185 [H 0,H 0,H 0])]) ?_ ?_ ?_
 .exact c8
 .rintro c g m ⟨⟩ j f b;rw[k]at b;refine ak [] [] [(12,.d ((c:Int)<a.Links.length))]<|aq<|aI (cL f)<|aK<|aq<|aX<|aV [(0,be (ix dO (bU f))),(2,.al 453)] [12] [(7,.ptr 453 0)] [] [(453,.cells 185 (nR g))]<|ak [] [] [(18,.d (g.ez=d))] ?_
  rcases aC b with⟨e,b⟩|⟨e,b⟩
  .exact aI e<|aj [] [(4,.ptr 170 0),(5,.bool true)] [(170,.cells 185 (nR g))]<|aN
  exact aH e<|aK<|b0 [(0,Y (cI f h))] [11,7,18] [(11,H ((c+1:Nat):Int))] [453] []<|aT () b
 rintro c ⟨⟩ j i b;rw[l]at b;exact ak [] [] [(12,.d ((c:Int)<a.Links.length))]<|aq<|aH (cK i)<|bQ<|ak [] [1,9,10,11,12] [(5,.bool false)]<|aN
variable {akx:Int}
def Jc{d r}(a:pX d akx=some r):bb au prog 34 [] [.agg (fZ d),H akx] (.agg (bz r)):=by
 refine a5 func34 rfl rfl ?_;unfold pX at a;refine aj [(0,.al 34),(1,.al 21)] [(1,H akx),(2,.ptr 34 0),(4,.ptr 21 0)] [(34,.cells 35 (fZ d)),(21,.c 41 [.aF,.aF])] ?_;obtain⟨i,aR,a⟩:=az a;refine aV [(2,aB (AM aR) zH),(6,.al 233)] [] [(5,.ptr 233 0),(6,.bool i.2)] [] [(233,.cells 167 (ej i.1))]<|aq ?_
 obtain⟨U,S,a⟩:=cV a;refine cW U r (λA=>[(1,H akx),(2,.ptr 34 0),(4,.ptr 21 0),(5,.ptr 233 0),(29,.bool A)]) (λA=>[(34,.cells 35 (fZ d)),(21,.c 41 [.aF,.aF]),(233,.cells 167 (ej i.1))]) ?_ ?_
 .obtain⟨aZ,I,a⟩:=az a;rcases aC a with⟨w,a⟩|⟨w,a⟩
  .exact a7 [(1,aB (qO I) qy),(3,Y (ax w))] [6] [(29,.bool true)]<|aT true a
  exact a7 [(1,aB (qO I) qy),(3,Y (ax w))] [6] [(29,.bool (!i.2))]<|aT (!i.2) a
 rintro A a;rw[S]at a;rcases aC a with⟨u,a⟩|⟨u,a⟩
 .exact aI u<|aV [] [1,2,5,29] [] [34,233] []<|aN
 refine aH u<|aK<|aV [(0,.al 37)] [29] [(7,.ptr 37 0)] [] [(37,.c 41 [.aF,.aF])]<|aV [(0,.al 59),(2,sv (nh (k:=.i64) (enc:=h6) [] akx true rfl))] [1] [(8,.cc 59)] [] [(59,.map 3 4 (bo .i64 h6 (bW [] akx true)))]<|aq<|aV [(1,.al 418)] [5] [(9,.own 418)] [233] [(418,.s 167 cN ([i.1]:td))]<|aX ?_
 obtain⟨bi,bh,ay,a⟩:=jL a;refine aFn a (λ(o,v,B,y)=>[(2,.ptr 34 0),(4,.ptr 21 0),(7,.ptr 37 0),(8,.cc 59),(9,.own 600034009)]) (λ(o,v,B,y)=>[(34,.cells 35 (fZ d)),(21,.c 41 [.aF,.aF]),(37,.c 41 [.own 703400700,.own 703400701]),(59,.map 3 4 (bo .i64 h6 y)),(600034009,.win 167 5 (bc cN o)),(703400700,.s 82 bJ v),(703400701,.s 139 aW B)]) ?_ ?_
 .exact cr [.wi 418,.b8 418 600034009,.ac 37 703400700 82 2 0,.ac 37 703400701 139 5 1] []
 rintro a2 ⟨o,v,B,y⟩ a;rw[ay]at a;refine aq<|ak [(1,Y (bk cN o))] [] [(38,.d (0<(o.length:Int)))] ?_
 rcases aC a with⟨z,a⟩|⟨z,a⟩
 .refine aI z<|aK<|aq<|aX ?_
  obtain⟨b,O,a⟩:=az a;refine aV [(1,be (ix cN O)),(3,.al 97)] [38] [(10,.ptr 97 0)] [] [(97,.cells 167 (ej b))] ?_;obtain⟨j,V,a⟩:=az a;refine aV [(8,dS 94 (ap bJ (bytes:=16) (by decide) V))] [] [] [37,703400700] [(37,.c 41 [.own 94,.own 703400701]),(94,.s 82 bJ j)]<|ak [(2,Y (bk dO b.Links))] [] [(55,an dO b.Links),(56,H b.Links.length),(57,H 0)]<|aX<|aFd 55 rfl λaa=>?_
  obtain⟨ba,a9,ae,ag,a⟩:=cG a;refine cO a (λf(h,g,c)=>[(2,.ptr 34 0),(4,.ptr 21 0),(7,.ptr 37 0),(8,.cc 59),(9,.own 600034009),(10,.ptr 97 0),(55,an dO b.Links),(56,H b.Links.length),(57,H f)]) (λf(h,g,c)=>[(34,.cells 35 (fZ d)),(21,.c 41 [.aF,.aF]),(37,.c 41 [.own 94,.own 703400701]),(59,.map 3 4 (bo .i64 h6 c)),(600034009,.win 167 5 (bc cN h)),(703400701,.s 139 aW g),(97,.cells 167 (ej b)),(94,.s 82 bJ j)]) ?_ ?_ ?_
  .exact c8
  .rintro f M a4 ⟨h,g,c⟩ am F a;rw[ae]at a;refine ak [] [] [(58,.d ((f:Int)<b.Links.length))]<|aq<|aI (cL F)<|aK ?_
   obtain⟨P,X,a⟩:=cV a;refine cW P r (λ(t,p,s)=>[(2,.ptr 34 0),(4,.ptr 21 0),(7,.ptr 37 0),(8,.cc 59),(9,.own 600034009),(10,.ptr 97 0),(55,an dO b.Links),(56,H b.Links.length),(57,H f)]) (λ(t,p,s)=>[(34,.cells 35 (fZ d)),(21,.c 41 [.aF,.aF]),(37,.c 41 [.own 94,.own 703400701]),(59,.map 3 4 (bo .i64 h6 p)),(600034009,.win 167 5 (bc cN t)),(703400701,.s 139 aW s),(97,.cells 167 (ej b)),(94,.s 82 bJ j)]) ?_ ?_
   .refine aX<|aV [(0,be (ix dO (bU F))),(2,.al 260)] [58] [(12,.ptr 260 0)] [] [(260,.cells 185 (nR M))] ?_
    obtain⟨e,W,a⟩:=az a;refine aV [(3,aB (AM W) zH),(7,.al 200)] [] [(13,.ptr 200 0),(14,.bool e.2)] [] [(200,.cells 167 (ej e.1))] ?_;obtain⟨l,Q,a⟩:=az a;refine aV [(3,aB (UP Q) acp),(7,.al 323)] [] [(15,.ptr 323 0),(16,.bool l.2)] [] [(323,.cells 185 (nR l.1))]<|aq<|aFe [(2,.ptr 34 0),(4,.ptr 21 0),(7,.ptr 37 0),(8,.cc 59),(9,.own 600034009),(10,.ptr 97 0),(55,an dO b.Links),(56,H b.Links.length),(57,H f),(12,.ptr 260 0),(13,.ptr 200 0),(15,.ptr 323 0),(80,.bool ((!e.2)||(!l.2)))] [(34,.cells 35 (fZ d)),(21,.c 41 [.aF,.aF]),(37,.c 41 [.own 94,.own 703400701]),(59,.map 3 4 (bo .i64 h6 c)),(600034009,.win 167 5 (bc cN h)),(703400701,.s 139 aW g),(97,.cells 167 (ej b)),(94,.s 82 bJ j),(260,.cells 185 (nR M)),(200,.cells 167 (ej e.1)),(323,.cells 185 (nR l.1))] (λN=>?_) ?_
    .rcases eU (!e.2)with m|m
     .exact aj [(2,Y (ax m)),(5,Y (hj (q:=!l.2) m))] _ _ N
     exact aj [(2,Y (ax m)),(5,Y (eW (q:=!l.2) m))] _ _ N
    rcases aC a with⟨x,a⟩|⟨x,a⟩
    .exact aI x<|bQ<|aT (h,c,g) a
    refine aH x<|aK ?_
    obtain⟨ao,aE,a⟩:=cV a;refine cW ao r (λn=>[(2,.ptr 34 0),(4,.ptr 21 0),(7,.ptr 37 0),(8,.cc 59),(9,.own 600034009),(10,.ptr 97 0),(13,.ptr 200 0),(55,an dO b.Links),(56,H b.Links.length),(57,H f)]) (λn=>[(34,.cells 35 (fZ d)),(21,.c 41 [.aF,.aF]),(37,.c 41 [.own 94,.own 703400701]),(59,.map 3 4 (bo .i64 h6 c)),(600034009,.win 167 5 (bc cN h)),(703400701,.s 139 aW n),(97,.cells 167 (ej b)),(94,.s 82 bJ j),(200,.cells 167 (ej e.1))]) ?_ ?_
    .refine ak [] [80] [(85,.d (b.ai<e.1.ai))] ?_;rcases aC a with⟨G,a⟩|⟨G,a⟩
     .refine aI G ?_;obtain⟨J,ab,a⟩:=az a;exact b0 [(17,dS 476 (ap aW (bytes:=40) (by decide) ab))] [12,15,85] [] [37,703400701,260,323] [(37,.c 41 [.own 94,.own 476]),(476,.s 139 aW J)]<|Exists.intro J (And.intro a (cr [.b8 476 703400701] []))
     exact aH G<|aK<|aT g a
    rintro n a;rw[aE]at a;refine ak [(3,jj (lk (E:=4) (k:=.i64) (enc:=h6) c e.1.ai false (λaU=>⟨_,zeroValue4 aU,λaY=>by simp[a1,dZ,h6]⟩)))] [] [(109,.bool (!((aO c e.1.ai).getD false)))] ?_;rcases aC a with⟨D,a⟩|⟨D,a⟩
    .refine aI D<|aV [(3,sv (nh (k:=.i64) (enc:=h6) c e.1.ai true rfl))] [109] [] [59] [(59,.map 3 4 (bo .i64 h6 (bW c e.1.ai true)))] ?_
     obtain⟨K,ar,a⟩:=az a;exact b0 [(3,dS 34616 (ap cN (bytes:=72) (by decide) ar))] [9,13] [(9,.own 34616)] [600034009,200] [(34616,.win 167 5 (bc cN K))]<|Exists.intro (K,bW c e.1.ai true,n) (And.intro a (cr [.b8 34616 600034009] []))
    exact aH D<|aK<|aT (h,c,n) a
   rintro⟨t,p,s⟩ a;rw[X]at a;exact a7 [(0,Y (cI F aa))] [57] [(57,H ((f+1:Nat):Int))]<|aT (t,s,p) a
  rintro f ⟨h,g,c⟩ am Z a;rw[ag]at a;refine ak [] [] [(58,.d ((f:Int)<b.Links.length))]<|aq<|aH (cK Z)<|bQ ?_
  obtain⟨L,aw,a⟩:=az a;exact b0 [(1,pW 34540 (zL cN aw))] [9,10,55,56,57,58] [(9,.own 34540)] [600034009,97] [(34540,.win 167 5 (bc cN L))]<|Exists.intro (L,j,g,c) (And.intro a (cr [.b8 34540 600034009,.b8 94 703400700] []))
 refine aH z<|bQ ?_
 obtain⟨aG,aA,a⟩:=az a;refine aV [(2,b3 [] (Zy (d:=703400700) (T:=82) aA) acq)] [2,8,9,38] [] [34,59,600034009,703400700] [(703400700,.s 82 bJ aG)] ?_;obtain⟨aL,aD,a⟩:=az a;refine aV [(2,b3 [] (ZA (d:=703400701) (T:=139) aD) acr)] [] [] [703400701] [(703400701,.s 139 aW aL)]<|aq ?_
 obtain⟨R,aJ,a⟩:=az a;refine ak [(1,bt [703400700,703400701] (kP aJ) kX)] [] [(126,.bool (!decide (R=0)))] ?_;rcases aC a with⟨C,a⟩|⟨C,a⟩
 .exact aI C<|aV [] [7,126] [] [37,703400700,703400701] []<|aN
 refine aH C<|aK<|aV [] [7,126] [] [21,37] [(21,.c 41 [.own 703400700,.own 703400701])]<|c2 ?_
 obtain rfl:=cy a;exact c0 [.bL [703400700,703400701]]
def J1{d r}(a:sy d akx=some r):bb au prog 36 [] [.agg (fZ d),H akx] (an dM r):=by
 refine a5 func36 rfl rfl ?_;unfold sy at a;refine aj [(0,.al 98)] [(1,H akx),(2,.ptr 98 0)] [(98,.cells 35 (fZ d))]<|ak [] [] [(5,.aF)]<|aq ?_
 obtain⟨b,E,a⟩:=az a;refine ak [(2,aB (Jc E) Ii),(4,Y (bk bJ b.bf))] [1] [(15,an bJ b.bf),(16,H b.bf.length),(17,H 0)]<|aX<|aFd 15 rfl λq=>?_
 obtain⟨G,I,u,v,a⟩:=cG a;refine cO a (λc=>λg=>[(2,.ptr 98 0),(5,.own 114),(15,an bJ b.bf),(16,H b.bf.length),(17,H c)]) (λc=>λg=>[(98,.cells 35 (fZ d)),(114,.s 143 dM g)]) ?_ ?_ ?_
 .exact cr [.ad 5 114 143 4] []
 .rintro c m F g t k a;rw[u]at a;refine ak [] [] [(18,.d ((c:Int)<b.bf.length))]<|aq<|aI (cL k)<|aK ?_
  obtain⟨x,w,a⟩:=cV a;refine cW x r (λi=>[(2,.ptr 98 0),(5,.own 114),(15,an bJ b.bf),(16,H b.bf.length),(17,H c)]) (λi=>[(98,.cells 35 (fZ d)),(114,.s 143 dM i)]) ?_ ?_
  .refine aX<|aV [(0,be (ix bJ (bU k))),(2,.al 164)] [18] [(7,.ptr 164 0)] [] [(164,.cells 82 (jl m))] ?_
   refine aq<|ak [] [] [(23,.bool (!m.bK))] ?_
   rcases aC a with⟨j,a⟩|⟨j,a⟩
   .exact aI j<|bQ<|aT g a
   refine aH j<|aK ?_
   obtain⟨e,o,a⟩:=az a;refine aV [(3,aB (AM o) zH),(7,.al 546)] [23] [(8,.ptr 546 0)] [] [(546,.cells 167 (ej e.1))]<|aV [(2,Y (bk dL e.1.Claims))] [8] [(32,an dL e.1.Claims),(33,H e.1.Claims.length),(34,H 0)] [546] []<|aX<|aFd 32 rfl λz=>?_
   obtain⟨L,K,A,B,a⟩:=cG a;refine cO a (λf=>λh=>[(2,.ptr 98 0),(5,.own 114),(7,.ptr 164 0),(15,an bJ b.bf),(16,H b.bf.length),(17,H c),(32,an dL e.1.Claims),(33,H e.1.Claims.length),(34,H f)]) (λf=>λh=>[(98,.cells 35 (fZ d)),(114,.s 143 dM h),(164,.cells 82 (jl m))]) ?_ ?_ ?_
   .exact c8
   .rintro f D J h C l a;rw[A]at a;refine ak [] [] [(35,.d ((f:Int)<e.1.Claims.length))]<|aq<|aI (cL l)<|aK<|aq<|aX<|aV [(0,be (ix dL (bU l))),(2,.al 547)] [35] [(11,.ptr 547 0)] [] [(547,.cells 141 (uD D))] ?_
    obtain⟨n,p,a⟩:=az a;exact b0 [(6,dS 368 (ap dM (bytes:=32) (by decide) p))] [5,11] [(5,.own 368)] [114,547] [(368,.s 143 dM n)]<|a7 [(0,Y (cI l z))] [34] [(34,H ((f+1:Nat):Int))]<|Exists.intro n (And.intro a (cr [.b8 368 114] []))
   rintro f h C y a;rw[B]at a;exact ak [] [] [(35,.d ((f:Int)<e.1.Claims.length))]<|aq<|aH (cK y)<|bQ<|aT h a
  rintro i a;rw[w]at a;exact a7 [(0,Y (cI k q))] [17] [(17,H ((c+1:Nat):Int))]<|aT i a
 rintro c g t s a;rw[v]at a;refine ak [] [] [(18,.d ((c:Int)<b.bf.length))]<|aq<|aH (cK s)<|bQ<|aj [] [(4,.own 114)] [(114,.s 143 dM g)]<|c2 ?_
 obtain rfl:=cy a;exact c0 [.bL [114]]
variable {au:Bool}
variable {r:Int}
def Vv{n}(a:Bw n=some r):bb au prog 312 [] [H n] (H r):=by
 refine a5 func312 rfl rfl ?_;unfold Bw at a;exact aj [] [(0,H n)] []<|aj [(2,.qr (8:Int) (by decide))] [(2,H (a2 (Int.tdiv (a2 (n+7)) (8:Int))))] []<|aN
variable {aed:e4}
def Ki{r}(a:xQ aed=some r):bb au prog 305 [] [.agg [an (c9 .u8) aed.Data,H aed.Bits]] (.bool r):=by
 refine a5 func305 rfl rfl ?_;unfold xQ at a;refine aj [(0,.al 232)] [(1,.ptr 232 0)] [(232,.c 365 [an (c9 .u8) aed.Data,H aed.Bits])]<|aq ?_
 obtain⟨k,j,a⟩:=cV a;refine cW k r (λe=>[(1,.ptr 232 0),(20,.bool e)]) (λe=>[(232,.c 365 [an (c9 .u8) aed.Data,H aed.Bits])]) ?_ ?_
 .rcases aC a with⟨b,a⟩|⟨b,a⟩
  .exact a7 [(3,Y (ax b))] [] [(20,.bool true)]<|aT true a
  rcases aC a with⟨c,a⟩|⟨c,a⟩
  .exact a7 [(3,Y (ax b)),(8,Y (ax c))] [] [(20,.bool true)]<|aT true a
  obtain⟨g,m,a⟩:=az a;exact a7 [(3,Y (ax b)),(8,Y (ax c)),(11,Y (bk (c9 .u8) aed.Data)),(14,aB (Vv m) TO)] [] [(20,.bool (!decide ((aed.Data.length:Int)=g)))]<|aT (!decide ((aed.Data.length:Int)=g)) a
 rintro e a;rw[j]at a;rcases aC a with⟨d,a⟩|⟨d,a⟩
 .exact aI d<|aj [] [(2,.bool false)] []<|aN
 refine aH d<|aK<|ak [(2,Y (bk (c9 .u8) aed.Data))] [20] [(3,H (a2 ((a2 ((8:Int)*(aed.Data.length:Int)))-aed.Bits)))] ?_
 rcases aC a with⟨f,a⟩|⟨f,a⟩
 .exact aj [(2,Y (ax f))] [(2,.bool true)] []<|aN
 obtain⟨l,h,a⟩:=az a;obtain⟨i,a⟩:=g0 a;exact aj [(2,Y (ax f)),(7,Y (bk (c9 .u8) aed.Data)),(9,be (ix (c9 .u8) h)),(13,.sh (a2 ((8:Int)-(a2 ((a2 ((8:Int)*(aed.Data.length:Int)))-aed.Bits)))) (fF i))] [(2,.d (IntKind.wrap .u8 (l*2 ^ min (a2 ((8:Int)-(a2 ((a2 ((8:Int)*(aed.Data.length:Int)))-aed.Bits)))).toNat 8)=(0:Int)))] []<|aN
def VX{i}(a:BQ aed i=some r):bb au prog 306 [] [.agg [an (c9 .u8) aed.Data,H aed.Bits],H i] (.int .u64 r):=by
 refine a5 func306 rfl rfl ?_;unfold BQ at a;refine aj [(0,.al 543)] [(1,H i),(2,.ptr 543 0)] [(543,.c 365 [an (c9 .u8) aed.Data,H aed.Bits])] ?_;obtain⟨c,d,a⟩:=az a;obtain⟨b,a⟩:=g0 a;exact aj [(3,.qr (8:Int) (by decide)),(4,be (ix (c9 .u8) d)),(7,.qr (8:Int) (by decide)),(9,.sh (a2 ((7:Int)-(Int.tmod i (8:Int)))) (fF b))] [(4,.int .u64 (IntKind.wrap .u64 (bT .and .u8 (Int.fdiv c (2 ^ min (a2 ((7:Int)-(Int.tmod i (8:Int)))).toNat 8)) (1:Int))))] []<|aN
variable {value:Int}
def VD{n r}(b:Bx aed value n=some r):cz au prog 311 [(483,.slice 5 1 (bc (c9 .u8) aed.Data) 0 false),(141,.c 365 [.own 483,H aed.Bits])] [.ptr 141 0,.int .u64 value,H n] (eH (.bO []) [(141,.c 365 [.own 484,H r.Bits]),(484,.slice 5 1 (bc (c9 .u8) r.Data) 0 false)]):=by
 refine a5 func311 rfl rfl ?_;unfold Bx at b;refine aX ?_;obtain⟨y,x,u,b⟩:=jL b;refine aFn b (λ(a,e,d)=>[(0,.ptr 141 0),(1,.int .u64 value),(2,H a)]) (λ(a,e,d)=>[(141,.c 365 [.own 143,H d]),(143,.slice 5 1 (bc (c9 .u8) e) 0 false)]) ?_ ?_
 .exact cr [.rn 483 143] []
 rintro w ⟨a,e,d⟩ b;rw[u]at b;refine aq<|ak [] [] [(10,.d (0<a))] ?_
 rcases aC b with⟨i,b⟩|⟨i,b⟩
 .refine aI i<|aK<|aX<|ak [(4,Y (bk (c9 .u8) e))] [10] [(6,H (a2 ((a2 ((8:Int)*(e.length:Int)))-d)))] ?_
  obtain⟨q,p,b⟩:=cV b;refine cW q r (λ(c,g)=>[(0,.ptr 141 0),(1,.int .u64 value),(2,H a),(6,H c)]) (λ(c,g)=>[(141,.c 365 [.own 143,H d]),(143,.slice 5 1 (bc (c9 .u8) g) 0 false)]) ?_ ?_
  .refine ak [] [] [(23,.d (a2 ((a2 ((8:Int)*(e.length:Int)))-d)=(0:Int)))] ?_;rcases aC b with⟨h,b⟩|⟨h,b⟩
   .refine aI h ?_;obtain⟨k,v,b⟩:=az b;exact b0 [(6,dS 475 (ap (c9 .u8) (bytes:=1) (by decide) v))] [6,23] [(6,H 8)] [141,143] [(141,.c 365 [.own 475,H d]),(475,.slice 5 1 (bc (c9 .u8) k) 0 false)]<|Exists.intro ((8:Int),k) (And.intro b (cr [.b8 475 143] []))
   exact aH h<|aK<|aT (a2 ((a2 ((8:Int)*(e.length:Int)))-d),e) b
  rintro⟨c,g⟩ b;rw[p]at b;refine ak [] [] [(7,H (if c<a then c else a))] ?_;obtain⟨l,b⟩:=g0 b;obtain⟨m,b⟩:=g0 b;refine ak [(4,.sh (a2 (a-(if c<a then c else a))) (fF l)),(6,.sh (if c<a then c else a) (fF m))] [] [(8,.int .u64 (bT .and .u64 (Int.fdiv value (2 ^ min (a2 (a-(if c<a then c else a))).toNat 64)) (IntKind.wrap .u64 ((IntKind.wrap .u64 ((1:Int)*2 ^ min (if c<a then c else a).toNat 64))-(1:Int)))))] ?_;obtain⟨s,f,b⟩:=az b;obtain⟨t,b⟩:=g0 b;obtain⟨j,o,b⟩:=az b;exact aV [(8,Y (bk (c9 .u8) g)),(10,be (ix (c9 .u8) f)),(11,fK 143 0 (ix (c9 .u8) f)),(16,.sh (a2 (c-(if c<a then c else a))) (fF t)),(19,be (ix (c9 .u8) f)),(20,mY 143 (st (c9 .u8) (off:=0) (ca:=[.int .u8 (bT .or .u8 s (IntKind.wrap .u8 (IntKind.wrap .u64 ((bT .and .u64 (Int.fdiv value (2 ^ min (a2 (a-(if c<a then c else a))).toNat 64)) (IntKind.wrap .u64 ((IntKind.wrap .u64 ((1:Int)*2 ^ min (if c<a then c else a).toNat 64))-(1:Int))))*2 ^ min (a2 (c-(if c<a then c else a))).toNat 64))))]) f o rfl) (oU f).1.1)] [6,8] [] [143] [(143,.slice 5 1 (bc (c9 .u8) j) 0 false)]<|aV [] [] [] [141] [(141,.c 365 [.own 143,H (a2 (d+(if c<a then c else a)))])]<|a7 [] [2,7] [(2,H (a2 (a-(if c<a then c else a))))]<|aT (a2 (a-(if c<a then c else a)),j,a2 (d+(if c<a then c else a))) b
 refine aH i<|bQ ?_
 obtain rfl:=cy b;exact c0 [.b8 143 484]
def VE{r}(a:Fa aed=some r):cz au prog 310 [] [.agg [an (c9 .u8) aed.Data,H aed.Bits]] (eH (.agg [.own 329,H r.Bits]) [(329,.slice 5 1 (bc (c9 .u8) r.Data) 0 false)]):=by
 refine a5 func310 rfl rfl ?_;unfold Fa at a;refine aj [(0,.al 544),(1,.al 417)] [(1,.ptr 544 0),(2,.ptr 417 0)] [(544,.c 365 [an (c9 .u8) aed.Data,H aed.Bits]),(417,.c 365 [.aF,H 0])] ?_;obtain⟨b,c,a⟩:=az a;refine aj [(2,dS 474 (ap (c9 .u8) (bytes:=1) (by decide) c))] [(2,.ptr 417 0)] [(417,.c 365 [.own 474,H aed.Bits]),(474,.slice 5 1 (bc (c9 .u8) b) 0 false)]<|c2 ?_
 obtain rfl:=cy a;exact c0 [.b8 474 329]
def Vn{n r}(a:Bj aed value n=some r):bb au prog 304 [] [.agg [an (c9 .u8) aed.Data,H aed.Bits],.int .u64 value,H n] (.bO [.agg [an (c9 .u8) r.1.Data,H r.1.Bits],H r.2]):=by
 refine a5 func304 rfl rfl ?_;unfold Bj at a;refine aj [(0,.al 199),(1,.al 127)] [(1,.int .u64 value),(2,H n),(3,.ptr 199 0),(6,.ptr 127 0)] [(199,.c 365 [an (c9 .u8) aed.Data,H aed.Bits]),(127,.c 365 [.aF,H 0])]<|aq<|aX ?_
 obtain⟨l,s,a⟩:=az a;refine ak [(1,aB (Ki s) O0)] [] [(9,.bool (!l))] ?_;rcases aC a with⟨e,a⟩|⟨e,a⟩
 .exact aI e<|aV [] [1,2,3,9] [(7,H 1)] [199] []<|aN
 refine aH e ?_;obtain⟨p,o,a⟩:=cV a;refine cW p r (λg=>[(1,.int .u64 value),(2,H n),(3,.ptr 199 0),(6,.ptr 127 0),(14,.bool g)]) (λg=>[(199,.c 365 [an (c9 .u8) aed.Data,H aed.Bits]),(127,.c 365 [.aF,H 0])]) ?_ ?_
 .rcases aC a with⟨b,a⟩|⟨b,a⟩
  .exact a7 [(2,Y (ax b))] [9] [(14,.bool true)]<|aT true a
  rcases aC a with⟨c,a⟩|⟨c,a⟩
  .exact a7 [(2,Y (ax b)),(6,Y (ax c))] [9] [(14,.bool true)]<|aT true a
  rcases aC a with⟨h,a⟩|⟨h,a⟩
  .obtain⟨k,a⟩:=g0 a;exact a7 [(2,Y (ax b)),(6,Y (ax c)),(9,Y (ax h)),(12,.sh n (fF k))] [9] [(14,.bool (!decide (Int.fdiv value (2 ^ min n.toNat 64)=(0:Int))))]<|aT (!decide (Int.fdiv value (2 ^ min n.toNat 64)=(0:Int))) a
  exact a7 [(2,Y (ax b)),(6,Y (ax c)),(9,Y (ax h))] [9] [(14,.bool false)]<|aT false a
 rintro g a;rw[o]at a;rcases aC a with⟨f,a⟩|⟨f,a⟩
 .exact aI f<|aV [] [1,2,3,14] [(7,H 2)] [199] []<|aN
 refine aH f<|ak [] [14] [(32,.d (8192<a2 (aed.Bits+n)))] ?_
 rcases aC a with⟨i,a⟩|⟨i,a⟩
 .exact aI i<|aV [] [1,2,3,32] [(7,H 3)] [199] []<|aN
 refine aH i<|aK ?_
 obtain⟨j,m,a⟩:=az a;refine aV [(1,b3 [329] (VE m) TM),(2,.al 366)] [3,32] [(8,.ptr 366 0)] [199] [(329,.slice 5 1 (bc (c9 .u8) j.Data) 0 false),(366,.c 365 [.own 329,H j.Bits])] ?_;obtain⟨d,q,a⟩:=az a;refine aV [(2,b3 [348] (e0.at [(483,329),(141,366),(484,348)] (VD q)) TN)] [1,2] [] [329,366] [(366,.c 365 [.own 348,H d.Bits]),(348,.slice 5 1 (bc (c9 .u8) d.Data) 0 false)]<|aV [] [8] [(7,H 0)] [127,366] [(127,.c 365 [.own 348,H d.Bits])]<|c2 ?_
 obtain rfl:=cy a;exact c0 [.bL [348]]
def VF{r}(a:By aed=some r):bb au prog 293 [] [.agg [an (c9 .u8) aed.Data,H aed.Bits]] (.bO [.int .u64 r.1,H r.2]):=by
 refine a5 func293 rfl rfl ?_;unfold By at a;refine aj [(0,.al 126)] [(1,.ptr 126 0)] [(126,.c 365 [an (c9 .u8) aed.Data,H aed.Bits])]<|A.scope<|aq ?_
 obtain⟨j,s,a⟩:=az a;refine aj [(1,aB (Ki s) O0)] [(1,.ptr 126 0),(9,.bool (!j))] [(126,.c 365 [an (c9 .u8) aed.Data,H aed.Bits])] ?_;rcases aC a with⟨f,a⟩|⟨f,a⟩
 .exact aI f<|aj [] [(2,.int .u64 (0:Int)),(3,H 1)] []<|aN
 refine aH f<|aK<|ak [] [9] [(4,.int .u64 (65535:Int))]<|aq<|A.label<|aq<|aj [] [(1,.ptr 126 0),(4,.int .u64 (65535:Int)),(11,H aed.Bits),(12,H 0)] [(126,.c 365 [an (c9 .u8) aed.Data,H aed.Bits])]<|aX ?_
 obtain⟨q,a⟩:=g0 a;obtain⟨u,v,m,n,a⟩:=sR a;refine aFE (hi:=aed.Bits) a rfl (λc=>λb=>[(1,.ptr 126 0),(4,.int .u64 b),(11,H aed.Bits),(12,H c)]) (λc=>λb=>[(126,.c 365 [an (c9 .u8) aed.Data,H aed.Bits])]) ?_ ?_ ?_
 .exact c8
 .rintro c t b l g a;rw[m]at a;refine ak [] [] [(13,.d ((c:Int)<aed.Bits))]<|aq<|aFu rfl (fU g)<|aK ?_
  obtain⟨p,o,a⟩:=cV a;refine cW p r (λd=>[(1,.ptr 126 0),(4,.int .u64 d),(11,H aed.Bits),(12,H c)]) (λd=>[(126,.c 365 [an (c9 .u8) aed.Data,H aed.Bits])]) ?_ ?_
  .refine aX<|ak [] [13] [(5,H c)] ?_
   refine ak [(1,.sh (15:Int) (by decide))] [] [(6,.int .u64 (Int.fdiv b (2 ^ min (15:Int).toNat 64)))]<|ak [(1,.sh (1:Int) (by decide))] [4] [(4,.int .u64 (bT .and .u64 (IntKind.wrap .u64 (b*2 ^ min (1:Int).toNat 64)) (65535:Int)))]<|aq ?_
   obtain⟨h,i,a⟩:=az a;refine ak [(3,aB (VX i) TL)] [5,6] [(24,.d (Int.fdiv b (2 ^ min (15:Int).toNat 64)=h))] ?_;rcases aC a with⟨e,a⟩|⟨e,a⟩
   .exact aI e<|bQ<|aT (bT .and .u64 (IntKind.wrap .u64 (b*2 ^ min (1:Int).toNat 64)) (65535:Int)) a
   exact aH e<|aK<|a7 [] [4,24] [(4,.int .u64 (bT .xor .u64 (bT .and .u64 (IntKind.wrap .u64 (b*2 ^ min (1:Int).toNat 64)) (65535:Int)) (4129:Int)))]<|aT (bT .xor .u64 (bT .and .u64 (IntKind.wrap .u64 (b*2 ^ min (1:Int).toNat 64)) (65535:Int)) (4129:Int)) a
  rintro d a;rw[o]at a;exact a7 [(0,Y (si (by omega) g (fF q)))] [12] [(12,H (c+1:Int))]<|aT d a
 rintro c b l k a;rw[n]at a;exact ak [] [] [(13,.d ((c:Int)<aed.Bits))]<|aq<|aFl rfl (Ah k)<|bQ<|aj [] [(2,.int .u64 b),(3,H 0)] []<|aN
end
section
open Go Go.Lib
variable {au:Bool}
def Lc{I:a8}{b:Nat}:∀(xs:bX) (o:Nat),fT I b (bc (c9 .u8) xs) o->∀(j:Nat) (x:Int),xs[j]?=some x->I b (o+j)=some (.int .u8 x)
 |[],_,_,j,x,h=>by simp at h
 |y::xs,o,h,0,x,a=>by
  simp at a;subst a
  simp only[bc,dr,fT]at h;obtain⟨⟨⟨f,e,c⟩,_⟩,_⟩:=h;have d:f=.int .u8 y:=by simpa [a1]using c
  subst d;simpa using e
 |y::xs,o,h,j+1,x,a=>by
  simp only[bc,dr,fT]at h;have:=Lc xs (o+1) (by simpa [bc,c9]using h.2) j x (by simpa using a);rw[show o+(j+1)=o+1+j by omega];exact this
variable {G:bI}{I:a8}{P:Program}{cx:dz}{w:World}{xs:bX}{β:Nat->Value}{σ:ah}
theorem KM(h:bE G cx I β σ w){f:Bool}{v:Value}(e:a1 I (.bn f (bc (c9 .u8) xs)) v):
  (Extern.Bytes.bytesOf v).run P w=.ok ⟨(bytesOf xs).toArray⟩ w:=by
 simp only[a1]at e;obtain⟨g,o,rfl,p,m,n,a⟩:=e;have l:(bc (c9 .u8) xs).length=xs.length:=by simp[bc]
 rcases a with a|⟨c,b,rfl,a⟩
 .have:xs=[]:=by cases xs with|nil=>rfl|cons y ys=>simp[bc]at a
  subst this;cases g<;>rfl
 .have:=run_loadBytesX (P:=P) w xs ⟨c,b,none⟩ .empty (λd k i=>by
   have j:(⟨c,b,none⟩:Addr).add d=⟨c,b+d,none⟩:=by unfold Addr.add;split<;>simp_all
   rw[j];exact h.good _ _ _ (Lc xs b a d k i))
  show(Extern.Bytes.loadBytes ⟨c,b,none⟩ (bc (c9 .u8) xs).length .empty).run P w=_
  simp_all
variable {ys:bX}
def YV(b:bE G cx I β σ w){f g:Bool}{a v:Value}(h:a1 I (.bn f (bc (c9 .u8) xs)) a)(c:a1 I (.bn g (bc (c9 .u8) ys)) v):
  (Extern.BytealgCompare.compare #[a,v]).run P w=.ok (.int .i64 (Go.Extern.BytealgCompare.cmp ⟨(bytesOf xs).toArray⟩ ⟨(bytesOf ys).toArray⟩)) w:=by
 have e:=KM (P:=P) b h;have d:=KM (P:=P) b c
 change Sem.run P (do pure (goInt (Go.Extern.BytealgCompare.cmp (<-Extern.Bytes.bytesOf a) (<-Extern.Bytes.bytesOf v)))) w=_
 simp[fD,e,d,Result.andThen,goInt]
def ZD{f:Nat}(g:∀(a v:Value) (n:Int) (w:World),(Extern.BytealgCompare.compare #[a,v]).run P w=.ok (.int .i64 n) w->Calls P f #[a,v] w λe w'=>e=.returned (.int .i64 n)/\w'=w)
  {p q:Bool} :bb au P f [] [.bn p (bc (c9 .u8) xs),.bn q (bc (c9 .u8) ys)] (.int .i64 (Go.Extern.BytealgCompare.cmp ⟨(bytesOf xs).toArray⟩ ⟨(bytesOf ys).toArray⟩)):=λcx w I β i c b=>by
 simp only[bD]at b;obtain⟨a,_,rfl,h,v,_,rfl,d,rfl⟩:=b;refine(g a v _ w (YV c (by simpa [aD]using h) (by simpa [aD]using d))).mono ?_;rintro e w' ⟨rfl,rfl⟩;exact⟨_,rfl,_,_,I,β,⟨rfl,rfl⟩,by simp[aD,a1],c⟩
end
section
open Go Go.Proofs.Tryz
variable {au:Bool}
def nJ{w n bits r}(a:k5 w n bits=some r):cz au prog 292 [(217,.c 367 [an (c9 .u8) w.e8.Data,H w.e8.Bits])] [.ptr 217 0,H n,H bits] (eH (.bO []) [(217,.c 367 [an (c9 .u8) r.e8.Data,H r.e8.Bits])]):=by
 refine a5 func292 rfl rfl ?_;unfold k5 at a;obtain⟨b,c,a⟩:=az a;refine lU [(8,aB (Vn c) TK)] [] [(217,.c 367 [an (c9 .u8) b.1.Data,H b.1.Bits])] ?_;obtain rfl:=cy a;exact c0 []
def Rf(a v:Value)(n:Int)(w:World)(h:(Extern.BytealgCompare.compare #[a,v]).run prog w=.ok (.int .i64 n) w):Calls prog 286 #[a,v] w λe w'=>e=.returned (.int .i64 n)/\w'=w:=by
 have b:(callFunc 294 #[a,v]).run prog w=.ok (.value (.int .i64 n)) w:=by
  rw[run_callFunc_extern func294 (by kernel_rfl) (by kernel_rfl) (by kernel_rfl) (e:=Extern.BytealgCompare.compare) (by kernel_rfl),h];rfl
 go_enter func286,Tryz.ntmps286
 go_wp2
 go_ret
 exact⟨rfl,rfl⟩
def U8{a b r}(c:Fv a b=some r):bb au prog 286 [] [.bn false (bc (c9 .u8) a),.bn false (bc (c9 .u8) b)] (.int .i64 r):=by
 cases c;exact ZD Rf
def J9{a r}(b:pY a=some r):bb au prog 285 [] [.agg (ej a)] (.bO [an (c9 .u8) r.1,H r.2]):=by
 refine a5 func285 rfl rfl ?_;unfold pY at b;refine aj [(0,.al 71)] [(1,.ptr 71 0)] [(71,.cells 167 (ej a))]<|aq ?_
 obtain⟨E,ay,b⟩:=az b;refine ak [(1,aB (xx ay) vU)] [] [(15,.bool (!E))] ?_;rcases aC b with⟨n,b⟩|⟨n,b⟩
 .exact aI n<|aj [] [(2,.aF),(3,H 1)] []<|aN
 refine aH n<|aK<|aV [(0,.al 15)] [15] [(4,.ptr 15 0)] [] [(15,.c 367 [.aF,H 0])] ?_
 obtain⟨v,D,b⟩:=az b;refine aFx fN [.sc 15 [71,15]] [(2,b3 [] (e0.at [(217,15)] (nJ D)) od)] [(1,.ptr 71 0),(4,.ptr 15 0)] [(71,.cells 167 (ej a)),(15,.c 367 [an (c9 .u8) v.e8.Data,H v.e8.Bits])] (by kernel_rfl) ?_;obtain⟨h,F,b⟩:=az b;refine aj [(2,b3 [] (e0.at [(217,15)] (nJ F)) od)] [(1,.ptr 71 0),(4,.ptr 15 0)] [(71,.cells 167 (ej a)),(15,.c 367 [an (c9 .u8) h.e8.Data,H h.e8.Bits])]<|ak [] [] [(5,H 0)] ?_
 obtain⟨O,N,b⟩:=cV b;refine cW O r (λt=>[(1,.ptr 71 0),(4,.ptr 15 0),(5,H t)]) (λt=>[(71,.cells 167 (ej a)),(15,.c 367 [an (c9 .u8) h.e8.Data,H h.e8.Bits])]) ?_ ?_
 .refine ak [] [] [(23,.bool a.bK)] ?_;rcases aC b with⟨m,b⟩|⟨m,b⟩
  .exact aI m<|a7 [] [5,23] [(5,H 1)]<|aT (1:Int) b
  exact aH m<|aK<|aT (0:Int) b
 rintro t b;rw[N]at b;obtain⟨y,P,b⟩:=az b;refine aV [(1,b3 [] (e0.at [(217,15)] (nJ P)) od)] [5] [] [15] [(15,.c 367 [an (c9 .u8) y.e8.Data,H y.e8.Bits])] ?_;obtain⟨w,Q,b⟩:=az b;refine aV [(2,Y (bk dO a.Links)),(3,b3 [] (e0.at [(217,15)] (nJ Q)) od)] [] [] [15] [(15,.c 367 [an (c9 .u8) w.e8.Data,H w.e8.Bits])]<|aq<|ak [(2,Y (bk dO a.Links))] [] [(31,an dO a.Links),(32,H a.Links.length),(33,H 0)]<|aX<|aFd 31 rfl λI=>?_
 obtain⟨aD,aE,L,M,b⟩:=cG b;refine cO b (λd(i,j)=>[(1,.ptr 71 0),(4,.ptr 15 0),(31,an dO a.Links),(32,H a.Links.length),(33,H d)]) (λd(i,j)=>[(71,.cells 167 (ej a)),(15,.c 367 [an (c9 .u8) i,H j])]) ?_ ?_ ?_
 .exact c8
 .rintro d ax aA ⟨i,j⟩ K o b;rw[L]at b;refine ak [] [] [(34,.d ((d:Int)<a.Links.length))]<|aq<|aI (cL o)<|aK<|aq<|aX<|aV [(0,be (ix dO (bU o))),(2,.al 322)] [34] [(7,.ptr 322 0)] [] [(322,.cells 185 (nR ax))] ?_
  obtain⟨x,G,b⟩:=az b;refine aV [(2,b3 [] (e0.at [(217,15)] (nJ G)) od)] [] [] [15] [(15,.c 367 [an (c9 .u8) x.e8.Data,H x.e8.Bits])] ?_;obtain⟨z,T,b⟩:=az b;refine aV [(2,b3 [] (e0.at [(217,15)] (nJ T)) od)] [] [] [15] [(15,.c 367 [an (c9 .u8) z.e8.Data,H z.e8.Bits])] ?_;obtain⟨k,X,b⟩:=az b;exact b0 [(2,b3 [] (e0.at [(217,15)] (nJ X)) od)] [7] [] [15,322] [(15,.c 367 [an (c9 .u8) k.e8.Data,H k.e8.Bits])]<|a7 [(0,Y (cI o I))] [33] [(33,H ((d+1:Nat):Int))]<|aT (k.e8.Data,k.e8.Bits) b
 rintro d ⟨i,j⟩ K J b;rw[M]at b;refine ak [] [] [(34,.d ((d:Int)<a.Links.length))]<|aq<|aH (cK J)<|bQ ?_
 obtain⟨A,Z,b⟩:=az b;refine aV [(2,Y (bk dL a.Claims)),(3,b3 [] (e0.at [(217,15)] (nJ Z)) od)] [31,32,33,34] [] [15] [(15,.c 367 [an (c9 .u8) A.e8.Data,H A.e8.Bits])]<|aq<|aV [(2,Y (bk dL a.Claims))] [1] [(52,an dL a.Claims),(53,H a.Claims.length),(54,H 0)] [71] []<|aX<|aFd 52 rfl λS=>?_
 obtain⟨aR,aJ,U,V,b⟩:=cG b;refine cO b (λc(f,g)=>[(4,.ptr 15 0),(52,an dL a.Claims),(53,H a.Claims.length),(54,H c)]) (λc(f,g)=>[(15,.c 367 [an (c9 .u8) f,H g])]) ?_ ?_ ?_
 .exact c8
 .rintro c u aG ⟨f,g⟩ W q b;rw[U]at b;refine ak [] [] [(55,.d ((c:Int)<a.Claims.length))]<|aq<|aI (cL q)<|aK<|aq<|aX<|aV [(0,be (ix dL (bU q))),(2,.al 231)] [55] [(9,.ptr 231 0)] [] [(231,.cells 141 (uD u))]<|ak [] [] [(10,H 0)]<|aq<|aX ?_
  obtain⟨aU,aW,aw,b⟩:=jL b;refine aFn b (λe=>[(4,.ptr 15 0),(9,.ptr 231 0),(10,H e),(52,an dL a.Claims),(53,H a.Claims.length),(54,H c)]) (λe=>[(15,.c 367 [an (c9 .u8) f,H g]),(231,.cells 141 (uD u))]) ?_ ?_
  .exact c8
  rintro aL e b;rw[aw]at b;refine aq ?_;obtain⟨aa,b⟩:=g0 b;refine ak [(1,.sh e (fF aa))] [] [(62,.d (IntKind.wrap .i64 ((8:Int)*2 ^ min e.toNat 64)<u.Length))] ?_;rcases aC b with⟨p,b⟩|⟨p,b⟩
  .exact aI p<|aK<|aX<|a7 [] [10,62] [(10,H (a2 (e+1)))]<|aT (a2 (e+1)) b
  refine aH p<|bQ ?_
  obtain⟨B,ab,b⟩:=az b;refine aV [(2,b3 [] (e0.at [(217,15)] (nJ ab)) od)] [62] [] [15] [(15,.c 367 [an (c9 .u8) B.e8.Data,H B.e8.Bits])] ?_;obtain⟨C,ae,b⟩:=az b;refine aV [(2,b3 [] (e0.at [(217,15)] (nJ ae)) od)] [9] [] [15,231] [(15,.c 367 [an (c9 .u8) C.e8.Data,H C.e8.Bits])] ?_;obtain⟨l,am,b⟩:=az b;exact b0 [(1,b3 [] (e0.at [(217,15)] (nJ am)) od)] [10] [] [15] [(15,.c 367 [an (c9 .u8) l.e8.Data,H l.e8.Bits])]<|a7 [(0,Y (cI q S))] [54] [(54,H ((c+1:Nat):Int))]<|aT (l.e8.Data,l.e8.Bits) b
 rintro c ⟨f,g⟩ W R b;rw[V]at b;refine ak [] [] [(55,.d ((c:Int)<a.Claims.length))]<|aq<|aH (cK R)<|bQ ?_
 obtain⟨ag,ao,b⟩:=az b;refine ak [(2,aB (VF ao) TJ)] [52,53,54,55] [(11,.int .u64 ag.1)] ?_;obtain⟨s,ar,b⟩:=az b;exact aV [(2,b3 [] (e0.at [(217,15)] (nJ ar)) od)] [11] [] [15] [(15,.c 367 [an (c9 .u8) s.e8.Data,H s.e8.Bits])]<|aj [] [(2,an (c9 .u8) s.e8.Data),(3,H 0)] []<|aN
def Vo{a b r}(c:Bk a b=some r):bb au prog 270 [] [.agg (ej a),.agg (ej b)] (.bool r):=by
 refine a5 func270 rfl rfl ?_;unfold Bk at c;refine aj [(0,.al 291),(1,.al 292)] [(2,.ptr 291 0),(3,.ptr 292 0)] [(291,.cells 167 (ej a)),(292,.cells 167 (ej b))] ?_;obtain⟨g,o,c⟩:=az c;refine ak [(1,aB (J9 o) OZ)] [] [(5,an (c9 .u8) g.1),(6,H g.2)] ?_;obtain⟨d,m,c⟩:=az c;refine ak [(1,aB (J9 m) OZ)] [] [(7,an (c9 .u8) d.1),(8,H d.2)]<|aq<|aFe [(2,.ptr 291 0),(3,.ptr 292 0),(5,an (c9 .u8) g.1),(7,an (c9 .u8) d.1),(31,.bool ((!decide (g.2=0))||((!decide (d.2=0))||(!decide (a.ai=b.ai)))))] [(291,.cells 167 (ej a)),(292,.cells 167 (ej b))] (λk=>?_) ?_
 .rcases eU (!decide (g.2=0))with e|e
  .exact aj [(2,Y (ax e)),(12,Y (hj (q:=((!decide (d.2=0))||(!decide (a.ai=b.ai)))) e))] _ _ k
  rcases eU (!decide (d.2=0))with f|f
  .exact aj [(2,Y (ax e)),(6,Y (ax f)),(12,Y ((hj (q:=!decide (a.ai=b.ai)) f).trans (eW (q:=((!decide (d.2=0))||(!decide (a.ai=b.ai)))) e)))] _ _ k
  exact aj [(2,Y (ax e)),(6,Y (ax f)),(12,Y ((eW (q:=!decide (a.ai=b.ai)) f).trans (eW (q:=((!decide (d.2=0))||(!decide (a.ai=b.ai)))) e)))] _ _ k
 rcases aC c with⟨j,c⟩|⟨j,c⟩
 .exact aI j<|aj [] [(4,.bool false)] []<|aN
 refine aH j<|aK ?_
 rcases aC c with⟨h,c⟩|⟨h,c⟩
 .exact aj [(5,Y (ax h))] [(4,.bool true)] []<|aN
 rcases aC c with⟨i,c⟩|⟨i,c⟩
 .obtain⟨l,n,c⟩:=az c;exact aj [(5,Y (ax h)),(11,Y (ax i)),(14,aB (U8 n) TI)] [(4,.d (0<l))] []<|aN
 exact aj [(5,Y (ax h)),(11,Y (ax i))] [(4,.bool false)] []<|aN
end
section
open Go Go.Proofs.Tryz Go.Lib Go.RowKit Go.Shelf
variable {au:Bool}
set_option maxHeartbeats 4000000
theorem TY:Nz prog 83 161 3:=by
 intro b n c i a arr cs w F D J u Z hn fJ I;have ae:=ul;obtain⟨N,G,X,m,Y⟩:=info_parts (by kernel_rfl:(prog.info? 161).map (λi=>(i.zero,i.size,i.bytes))=some (some (.agg #[.int .i64 0,.int .i64 0,.slice none 0 0]),3,40));have K:n*3<=arr.size:=by rw[hn];exact hp _ J
 have y:cs.length=n*3:=by rw[<-fJ,hg];simp;omega
 have ag:a*3<=n*3:=hp _ D;have V:i*3+3<=a*3:=by rw[<-rR];exact hp _ F
 have l:(cs.drop (a*3)).length=(n-a)*3:=by rw[l2,y,Nat.sub_mul]
 obtain⟨A,E,x⟩:∃A:Addr,(if c=a then some (⟨b,0,none⟩:Addr)else some ⟨b,a*3,none⟩)=some A/\(∀h k,(cs.drop (a*3))[h]?=some k->w.drew.cell? (A.add h)=some k):=by
  by_cases M:c=a
  .simp_all
  .refine⟨⟨b,a*3,none⟩,by simp[M],λh k p=>?_⟩;rw[wu]at p;have U:a*3+h<cs.length:=(k0.1 p).1;have L:arr[a*3+h]?=some k:=by rw[<-p,<-fJ,l8,bx (by omega),lH]
   rw[Addr.add_lit];show w.cell? _=_;simp only[World.cell?,Z,L];rfl
 obtain⟨d,o⟩:∃d:ig,d=(arr.toList.take (0+i*3)++cs.drop (a*3)++arr.toList.drop (0+i*3+(cs.drop (a*3)).length)).toArray:=⟨_,rfl⟩;have v:d.size=arr.size:=by rw[o];simp;omega
 have dS:∀f,(Builtin.append_ #[27,27] f #[.slice (some ⟨b,0,none⟩) i c,.slice (some A) (n-a) (c-a)]).run prog w.drew=.ok (.slice (some ⟨b,0,none⟩) (i+(n-a)) c) (w.drew.setRow b d):=λf=>by
  have:=Ja w.drew 27 f 161 N underlying27 G b 0 i c arr Z A (n-a) (c-a) (cs.drop (a*3)) (by rw[m,l]) x (λO aa=>I O (wA aa)) (by omega) (by rw[m,l,Nat.sub_mul];omega);rw[m,<-o]at this;exact this
 obtain⟨g,j⟩:∃g:hD,g=(Builtin.zeroCells (.agg #[.int .i64 0,.int .i64 0,.slice none 0 0]:Value).cells (n-(i+(n-a)))).toList:=⟨_,rfl⟩;have z:g.length=(a-i)*3:=by
  rw[j,kr,E6];show(n-(i+(n-a)))*3=(a-i)*3;congr 1;omega
 obtain⟨e,t⟩:∃e:ig,e=(d.toList.take ((i+(n-a))*3)++g++d.toList.drop ((i+(n-a))*3+g.length)).toArray:=⟨_,rfl⟩;have H:(i+(n-a))*3+(a-i)*3=n*3:=by rw[<-ha];congr 1;omega
 have W:∀f,(Builtin.clear_ #[27] f #[.slice (some ⟨b,(i+(n-a))*3,none⟩) (n-(i+(n-a))) (c-(i+(n-a)))]).run prog (w.drew.setRow b d)=.ok (.tuple #[]) ((w.drew.setRow b d).setRow b e):=λf=>by
  have:=Kn (P:=prog) (w.drew.setRow b d) 27 161 f (.agg #[.int .i64 0,.int .i64 0,.slice none 0 0]) underlying27 zeroValue161 b ((i+(n-a))*3) (n-(i+(n-a))) (c-(i+(n-a))) d 161 (kf w.drew b arr d 161 (0,0) Z) (by omega) (by rw[<-j,z,v];omega) (Ky (by decide) _);rw[<-j,<-t]at this;exact this
 have q:ll w b (i+(n-a)) 161 3 (cs.take (i*3)++cs.drop (a*3)) (.returned (.slice (some ⟨b,0,none⟩) (i+(n-a)) c)) ((w.drew.setRow b d).setRow b e):=by
  refine⟨b,c,e,rfl,by omega,u,kf _ b d e 161 (0,0) (kf w.drew b arr d 161 (0,0) Z),?_,?_,.inl rfl,λC B Q=>?_,?_,rfl,rfl,rfl,Nat.le_succ _⟩
  .grind
  .grind
  .rw[pg _ b C e B,pg _ b C d B];rfl
  .simp_all
 obtain⟨r,s⟩:∃r,r=cs.take (i*3)++cs.drop (a*3):=⟨_,rfl⟩;rw[<-s]at q ⊢;have S:¬((i:Int)=(a:Int)):=by omega
 have R:i<=c:=by omega
 have T:a<=c:=by omega
 have aj:¬(c=i+(n-a)):=by omega
 have ab:c<=9223372036854775807:=by unfold maxLen at u;omega
 clear o v t j z s x l y K H
 go_enter func83,Tryz.ntmps83
 go_wp2_with fail
 go_region_law_o (refine Vs rfl (.tmp 22) (.tmp 25) 27 27 rfl (.slice (some ⟨b,0,none⟩) i c) (.slice (some A) (n-a) (c-a)) (by simp[Act.eval,Act.put]) (by simp[Act.eval,Act.put,E]) (dS _) ?_)
 go_wp2
 go_ret
 exact q
def Md{d D:Nat}{l m:sD}{i j:Int}(h:qG l i j=some m)(c:D∉[d]):cz au prog 83 [(d,.slice 161 3 (bc b2 l) 0 false)] [.own d,.int .i64 i,.int .i64 j] (λa b=>a=.own D/\b=[(D,.slice 161 3 (bc b2 m) 0 false)]):=by
 obtain⟨f,rfl⟩:=WU h;have g:=WK (au:=au) TY (d:=d) (D:=D) (i:=i) (j:=j) (xs:=bc b2 l) (wh b2 l) (Ho b2 l) (by rw[lR];exact f) c;have e:bc b2 (l.take i.toNat++l.drop j.toNat)=(bc b2 l).take i.toNat++(bc b2 l).drop j.toNat:=by simp[bc,List.map_take,List.map_drop]
 rw[e];exact g
section
variable {b n c i agR ait:Nat}{arr aiF:ig}{alh:TypeId}{cs row:hD}{w:World}(Z:w.heap[b]?=some (.cells arr 167 (0,0)))(hn:arr.size=c*5)(fJ:arr.toList.take (n*5)=cs)(aa:w.heap[agR]?=some (.cells aiF alh (0,0)))(e5:aiF.toList.take 5=row)(hY:row.length=5)
include Z hn fJ aa e5 hY
theorem Wa(hi:i<n)(A:n+1<=c)(x:c<=maxLen)(C:agR≠b)(K:∀v∈cs,v.oneCell'=true)(J:∀v∈row,v.oneCell'=true):
  Calls prog 269 #[.slice (some ⟨b,0,none⟩) n c,.int .i64 i,.slice (some ⟨agR,0,none⟩) 1 ait] w (ll w b (n+1) 167 5 (cs.take (i*5)++row++cs.drop (i*5))):=by
 obtain⟨r,s⟩:∃r,r=cs.take (i*5)++row++cs.drop (i*5):=⟨_,rfl⟩;rw[<-s];have X:=ul;have T:¬((1:Int)=0):=by omega
 have S:¬((i:Int)=(n:Int)):=by omega
 have W:n*5+5<=arr.size:=by rw[hn,<-rR];exact hp _ A
 have q:cs.length=n*5:=by rw[<-fJ,hg];simp;omega
 have jI:5<=aiF.size:=by grind
 have H:∀d,d<n*5->w.cell? ⟨b,d,none⟩=cs[d]?:=λd k=>by
  simp only[World.cell?,Z];rw[<-fJ,l8,bx k,lH];rfl
 have I:∀(f:World),f.heap[agR]?=some (.cells aiF alh (0,0))->∀d v,row[d]?=some v->f.cell? ⟨agR,d,none⟩=some v:=λf l d v=>G5 l e5;have R:i*5+5<=n*5:=by rw[<-rR];exact hp _ hi
 have kA:(cs.drop (i*5)).length=(n-i)*5:=by rw[l2,q,Nat.sub_mul]
 obtain⟨a,o⟩:∃a:ig,a=(arr.toList.take (i*5+5)++cs.drop (i*5)++arr.toList.drop (i*5+5+(cs.drop (i*5)).length)).toArray:=⟨_,rfl⟩;have B:a.size=arr.size:=by rw[o];simp;omega
 obtain⟨g,t⟩:∃g:ig,g=(a.toList.take (i*5)++row++a.toList.drop (i*5+row.length)).toArray:=⟨_,rfl⟩
 have L:∀j h z,(Builtin.copy_ #[33,33] j #[.slice (some ⟨b,(i+1)*5,none⟩) (n-i) h,.slice (some ⟨b,i*5,none⟩) (n+1-i) z]).run prog w.drew=.ok (goInt (n-i:Nat)) (w.drew.setRow b a):=λj h z=>by
  rw[o,rR]
  exact E9 w.drew 33 33 j 167 b (i*5+5) (n-i) h ⟨b,i*5,none⟩ (n+1-i) z 5 (n-i) arr 167 (cs.drop (i*5)) underlying33 sizeOf167 Z (by simp only[Nat.min_def];split<;>omega) kA
   (λd v k=>by
    have F:d<(cs.drop (i*5)).length:=(k0.1 k).1;rw[Addr.add_lit];show w.cell? _=_;rw[H (i*5+d) (by rw[l2,q]at F;omega),<-k,wu])
   (by rw[kA,Nat.sub_mul];omega) (λv aa=>K v (wA aa))
 have Y:b<w.heap.size:=gZ Z
 have M:∀(f:World),f.heap=(w.drew.setRow b a).heap->∀j h,(Builtin.copy_ #[33,33] j #[.slice (some ⟨b,i*5,none⟩) (n+1-i) h,.slice (some ⟨agR,0,none⟩) 1 ait]).run prog f=.ok (goInt (1:Nat)) (f.setRow b g):=λf l j h=>by
  rw[t]
  exact E9 f 33 33 j 167 b (i*5) (n+1-i) h ⟨agR,0,none⟩ 1 ait 5 1 a 167 row underlying33 sizeOf167 (by rw[l];exact kf w.drew b arr a 167 (0,0) Z) (by simp only[Nat.min_def];split<;>omega) (by omega)
   (λd v k=>by rw[Addr.add_lit,hR];exact I f (by rw[l,pg w.drew b agR a C];exact aa) d v k)
   (by rw[B];omega) J
 have N:∀y u,(callFunc 283 #[.slice (some ⟨agR,0,none⟩) 1 ait,.slice (some ⟨b,(i+1)*5,none⟩) y u]).run prog w=.ok (.value (.bool false)) w:=λy u=>by
  rw[run_callFunc_extern func283 (by kernel_rfl) (by kernel_rfl) (by kernel_rfl) (e:=Extern.SlicesOverlaps.overlaps #[33,33] #[4]) (by kernel_rfl),
   Lib.run_overlaps_apart w 33 4 167 underlying33 5 sizeOf167 ⟨agR,0,none⟩ ⟨b,(i+1)*5,none⟩ 1 ait y u C alh 167 aiF.size arr.size (by simp[World.shape?,aa]) (by simp[World.shape?,Z]) (by omega) (by simp[World.frozen?,aa]) (by simp[World.frozen?,aa])]
  rfl
 have U:IntKind.i64.wrap ((i:Int)+(1:Int))=(i:Int)+(1:Int):=by rw[wm];unfold maxLen at x;omega
 have P:(0:Int)<=(i:Int)+(1:Int):=by omega
 have ag:i<=n:=by omega
 have aj:((i:Int)+(1:Int)).toNat=i+1:=by omega
 have Q:¬(c=i+1):=by omega
 have V:(i:Int)<=(n:Int)+(1:Int):=by omega
 have ab:¬(c=i):=by omega
 have ae:c<=9223372036854775807:=by unfold maxLen at x;omega
 have G:ll w b (n+1) 167 5 r (.returned (.slice (some ⟨b,0,none⟩) (n+1) c)) ((w.drew.setRow b a).setRow b g):=by
  refine⟨b,c,g,rfl,A,x,kf _ b a g 167 (0,0) (kf w.drew b arr a 167 (0,0) Z),?_,?_,.inl rfl,λE D O=>?_,?_,rfl,rfl,rfl,?_⟩
  .grind
  .rw[t,s,o];have:=XI (arr:=arr.toList) (cs:=cs) (row:=row) (p:=i*5) (m:=n*5) fJ (by omega) (by rw[hY];simp;omega) (by omega)
   grind
  .rw[pg _ b E g D,pg _ b E a D];rfl
  all_goals simp_all
 clear o t B s q kA
 go_enter func269,Tryz.ntmps269
 go_wp2_with (simp only[N])
 go_region_law_o (refine step_copy_runI rfl _ _ 33 33 rfl _ _ (by simp[Act.eval,Act.put]) (by simp[Act.eval,Act.put]) (L _ _ _) ?_)
 go_wp2_with (refine wpList_copy_runI _ rfl _ _ 33 33 rfl _ _ rfl rfl (M _ rfl _ _) ?_)
 go_ret
 exact G
theorem VY(a:n+1<=c)(l:c<=maxLen)(r:∀v∈row,v.oneCell'=true):
  Calls prog 269 #[.slice (some ⟨b,0,none⟩) n c,.int .i64 n,.slice (some ⟨agR,0,none⟩) 1 ait] w (ll w b (n+1) 167 5 (cs++row)):=by
 have D:=ul;obtain⟨u,p,B,d,C⟩:=info_parts (by kernel_rfl:(prog.info? 167).map (λi=>(i.zero,i.size,i.bytes))=some (some (.agg #[.int .i64 0,.int .i64 0,.bool false,.slice none 0 0,.slice none 0 0]),5,72));have s:n*5+5<=arr.size:=by rw[hn,<-rR];exact hp _ a
 have m:cs.length=n*5:=by rw[<-fJ,hg];simp;omega
 have q:∀e v,row[e]?=some v->w.cell? ((⟨agR,0,none⟩:Addr).add e)=some v:=λe v=>yV aa e5;obtain⟨A,g⟩:∃A:ig,A=(arr.toList.take (0+n*5)++row++arr.toList.drop (0+n*5+row.length)).toArray:=⟨_,rfl⟩
 have o:∀f,(Builtin.append_ #[33,33] f #[.slice (some ⟨b,0,none⟩) n c,.slice (some ⟨agR,0,none⟩) 1 ait]).run prog w=.ok (.slice (some ⟨b,0,none⟩) (n+1) c) (w.setRow b A):=λf=>by
  have:=Ja w 33 f 167 u underlying33 p b 0 n c arr Z ⟨agR,0,none⟩ 1 ait row (by rw[d,hY]) q r a (by rw[d,hY];omega);rw[d,<-g]at this;exact this
 have h:ll w b (n+1) 167 5 (cs++row) (.returned (.slice (some ⟨b,0,none⟩) (n+1) c)) (w.setRow b A):=by
  refine⟨b,c,A,rfl,a,l,kf w b arr A 167 (0,0) Z,?_,?_,.inl rfl,λx t y=>pg w b x A t,?_,rfl,rfl,rfl,eb _⟩
  .grind
  .grind
  .simp_all
 have z:¬((1:Int)=0):=by omega
 have E:c<=9223372036854775807:=by unfold maxLen at l;omega
 obtain⟨j,k⟩:∃j,j=cs++row:=⟨_,rfl⟩;rw[<-k]at h ⊢;clear g m s k
 go_enter func269,Tryz.ntmps269
 go_wp2_with (at_builtin;refine Lib.wpList_append_run _ rfl _ _ _ _ rfl _ _ rfl rfl _ _ (o _) ?_)
 go_ret
 exact h
theorem VZ(y:n<=c)(l:c<n+1)(x:(n+1)*72<=140737488355328):
  Calls prog 269 #[.slice (some ⟨b,0,none⟩) n c,.int .i64 n,.slice (some ⟨agR,0,none⟩) 1 ait] w (ll w b (n+1) 167 5 (cs++row)):=by
 have H:=ul;obtain⟨E,s,u,q,z⟩:=info_parts (by kernel_rfl:(prog.info? 167).map (λi=>(i.zero,i.size,i.bytes))=some (some (.agg #[.int .i64 0,.int .i64 0,.bool false,.slice none 0 0,.slice none 0 0]),5,72));have A:n*5<=arr.size:=by rw[hn];exact hp _ y
 have h:cs.length=n*5:=by rw[<-fJ,hg];simp;omega
 have v:∀d e,row[d]?=some e->w.cell? ((⟨agR,0,none⟩:Addr).add d)=some e:=λd e=>yV aa e5;have t:∀d e,cs[d]?=some e->w.cell? ((⟨b,0,none⟩:Addr).add d)=some e:=λd e=>yV Z fJ;obtain⟨a,g⟩:∃a,a=grownCap w (n+1) c 167:=⟨_,rfl⟩;have C:n+1<=a:=by rw[g];exact grownCap_ge w _ _ _
 have B:a<=maxLen:=by rw[g];exact v5 w _ _ _ (by unfold maxLen;omega)
 obtain⟨f,j⟩:∃f:ig,f=cs.toArray++row.toArray++Builtin.zeroCells (.agg #[.int .i64 0,.int .i64 0,.bool false,.slice none 0 0,.slice none 0 0]:Value).cells (a-(n+1)):=⟨_,rfl⟩
 have r:∀k,(Builtin.append_ #[33,33] k #[.slice (some ⟨b,0,none⟩) n c,.slice (some ⟨agR,0,none⟩) 1 ait]).run prog w=.ok (.slice (some ⟨w.heap.size,0,none⟩) (n+1) a) (w.drew.alloc (.cells f 167)):=λk=>by
  have:=run_append_grow w 33 k 167 E _ underlying33 s u ⟨b,0,none⟩ n c cs (by rw[q,h]) t ⟨agR,0,none⟩ 1 ait row (by rw[q,hY]) v l (by omega) (by rw[z];exact growslice_fits l x);rw[<-g,<-j]at this;exact this
 have m:ll w b (n+1) 167 5 (cs++row) (.returned (.slice (some ⟨w.heap.size,0,none⟩) (n+1) a)) (w.drew.alloc (.cells f 167)):=by
  refine Ga C B (arr:=f) ?_ ?_ (yW w _) (λF D=>yt w _ F D) (by show w.heap.size<=(w.heap.push _).size;simp) rfl rfl rfl (Nat.le_succ _)
  .rw[j];simp only[ye,pe,E6,h,hY];show n*5+5+(a-(n+1))*5=a*5;omega
  .grind
 have G:¬((1:Int)=0):=by omega
 have I:c<=9223372036854775807:=by omega
 obtain⟨o,p⟩:∃o,o=cs++row:=⟨_,rfl⟩;rw[<-p]at m ⊢;clear j h A p g
 go_enter func269,Tryz.ntmps269
 go_wp2_with (at_builtin;refine Lib.wpList_append_run _ rfl _ _ _ _ rfl _ _ rfl rfl _ _ (r _) ?_)
 all_goals (go_ret;exact m)
theorem Wr(hi:i<n)(ag:n<=c)(R:c<n+1)(ae:(n+1)*72<=140737488355328)(ab:∀v∈cs,v.oneCell'=true)(Y:∀v∈row,v.oneCell'=true):
  Calls prog 269 #[.slice (some ⟨b,0,none⟩) n c,.int .i64 i,.slice (some ⟨agR,0,none⟩) 1 ait] w (ll w b (n+1) 167 5 (cs.take (i*5)++row++cs.drop (i*5))):=by
 obtain⟨u,x⟩:∃u,u=cs.take (i*5)++row++cs.drop (i*5):=⟨_,rfl⟩;rw[<-x];have aK:=ul;obtain⟨N,T,W,U,G⟩:=info_parts (by kernel_rfl:(prog.info? 167).map (λi=>(i.zero,i.size,i.bytes))=some (some (.agg #[.int .i64 0,.int .i64 0,.bool false,.slice none 0 0,.slice none 0 0]),5,72));have aJ:n*5<=arr.size:=by rw[hn];exact hp _ ag
 have r:cs.length=n*5:=by rw[<-fJ,hg];simp;omega
 have aj:b<w.heap.size:=gZ Z;have jI:agR<w.heap.size:=gZ aa;have aB:i*5+5<=n*5:=by rw[<-rR];exact hp _ hi
 have kA:(cs.drop (i*5)).length=(n-i)*5:=by rw[l2,r,Nat.sub_mul]
 have X:∀(a:World),a.heap[agR]?=some (.cells aiF alh (0,0))->∀h v,row[h]?=some v->a.cell? ((⟨agR,0,none⟩:Addr).add h)=some v:=λa j h v=>yV j e5;have V:∀(a:World),a.heap[b]?=some (.cells arr 167 (0,0))->∀h v,cs[h]?=some v->a.cell? ⟨b,h,none⟩=some v:=λa j h v=>G5 j fJ;obtain⟨d,s⟩:∃d,d=grownCap w (n+1) c 167:=⟨_,rfl⟩;have I:n+1<=d:=by rw[s];exact grownCap_ge w _ _ _
 have H:d<=maxLen:=by rw[s];exact v5 w _ _ _ (by unfold maxLen;omega)
 obtain⟨e,y⟩:∃e:ig,e=(cs.take (i*5)).toArray++Builtin.zeroCells (.agg #[.int .i64 0,.int .i64 0,.bool false,.slice none 0 0,.slice none 0 0]:Value).cells (n+1-i)++Builtin.zeroCells (.agg #[.int .i64 0,.int .i64 0,.bool false,.slice none 0 0,.slice none 0 0]:Value).cells (d-(n+1)):=⟨_,rfl⟩;have J:e.size=d*5:=by
  rw[y];simp only[ye,pe,E6,hg,r];show min (i*5) (n*5)+(n+1-i)*5+(d-(n+1))*5=d*5;omega
 have ax:n*5+5<=d*5:=by rw[<-rR];exact hp _ I
 have L:e.toList.take (i*5)=cs.take (i*5):=by grind
 have F:(n:Int)+(1:Int)-(i:Int)=((n+1-i:Nat):Int):=by omega
 have z:i+(n+1-i)=n+1:=by omega
 have E:(Builtin.firstCells N.size i (.slice (some ⟨b,0,none⟩) i c)).run prog w.drew=.ok (cs.take (i*5)).toArray w.drew:=by
  rw[U]
  exact run_firstCells_some w.drew 5 i ⟨b,0,none⟩ i c (cs.take (i*5)) (by rw[hg];omega) (λh v q=>by
   rw[Addr.add_lit,hR];rw[l8]at q;split at q
   .simp_all
   .cases q)
 have an:∀g,(Builtin.append_ #[33,3] g #[.slice (some ⟨b,0,none⟩) i c,.int .i64 ((n:Int)+(1:Int)-(i:Int))]).run prog w=.ok (.slice (some ⟨w.heap.size,0,none⟩) (n+1) d) (w.drew.alloc (.cells e 167)):=λg=>by
  have M:=Lib.run_append_grow_zeros w 33 3 g 167 N _ .i64 .i64 underlying33 underlying3 T W (some ⟨b,0,none⟩) i c (cs.take (i*5)) E (n+1-i) (by omega) (by omega) (by omega) (by omega) (by rw[G];omega) (by rw[G,z];exact growslice_fits R ae);rw[z,<-s]at M;rw[F,y];exact M
 obtain⟨f,t⟩:∃f:ig,f=(e.toList.take (i*5)++row++e.toList.drop (i*5+row.length)).toArray:=⟨_,rfl⟩;have K:f.size=e.size:=by rw[t];simp;omega
 obtain⟨o,A⟩:∃o:ig,o=(f.toList.take (i*5+5)++cs.drop (i*5)++f.toList.drop (i*5+5+(cs.drop (i*5)).length)).toArray:=⟨_,rfl⟩
 have ak:∀(a:World),a.heap=(w.drew.alloc (.cells e 167)).heap->∀g k,(Builtin.copy_ #[33,33] g #[.slice (some ⟨w.heap.size,i*5,none⟩) (n+1-i) k,.slice (some ⟨agR,0,none⟩) 1 ait]).run prog a=.ok (goInt (1:Nat)) (a.setRow w.heap.size f):=λa j g k=>by
  rw[t]
  exact E9 a 33 33 g 167 w.heap.size (i*5) (n+1-i) k ⟨agR,0,none⟩ 1 ait 5 1 e 167 row underlying33 sizeOf167 (by rw[j];exact yW w _) (by simp only[Nat.min_def];split<;>omega) (by omega)
   (X a (by rw[j,yt w _ agR jI];exact aa)) (by omega) Y
 have am:∀(a:World),a.heap=((w.drew.alloc (.cells e 167)).setRow w.heap.size f).heap->∀g k C,(Builtin.copy_ #[33,33] g #[.slice (some ⟨w.heap.size,(i+1)*5,none⟩) (n-i) k,.slice (some ⟨b,i*5,none⟩) (n-i) C]).run prog a=.ok (goInt (n-i:Nat)) (a.setRow w.heap.size o):=λa j g k C=>by
  rw[A,rR]
  exact E9 a 33 33 g 167 w.heap.size (i*5+5) (n-i) k ⟨b,i*5,none⟩ (n-i) C 5 (n-i) f 167 (cs.drop (i*5)) underlying33 sizeOf167 (by rw[j];exact kf _ _ e f 167 (0,0) (yW w _)) (by simp only[Nat.min_def];split<;>omega) kA
   (λh v q=>by
    rw[Addr.add_lit];exact V a (by rw[j,pg _ _ b _ (by omega),yt w _ b aj];exact Z) (i*5+h) v (by rwa [wu]at q))
   (by rw[kA,K,J,Nat.sub_mul];omega) (λv aa=>ab v (wA aa))
 have S:∀(l:World),l.heap=(((w.drew.alloc (.cells e 167)).setRow w.heap.size f).setRow w.heap.size o).heap->l.tape=w.tape->l.os=w.os->l.output=w.output->w.drawn<=l.drawn->ll w b (n+1) 167 5 u (.returned (.slice (some ⟨w.heap.size,0,none⟩) (n+1) d)) l:=λl D ao O P Q=>by
  refine Ga I H (arr:=o) ?_ ?_ (by rw[D];exact kf _ _ f o 167 (0,0) (kf _ _ e f 167 (0,0) (yW w _))) (λB aq=>by rw[D,pg _ _ B _ (by omega),pg _ _ B _ (by omega),yt w _ B aq]) ?_ ao O P Q
  .grind
  .rw[A,x,t];have:=WI (fl:=e.toList) (cs:=cs) (row:=row) (p:=i*5) (m:=n*5) L r (by omega) (by rw[hY];simp;omega)
   grind
  .simp_all
 have aD:¬((1:Int)=0):=by omega
 have aC:¬((i:Int)=(n:Int)):=by omega
 have aI:(c:Int)<(n:Int)+(1:Int):=by omega
 have ay:d<=9223372036854775807:=by unfold maxLen at H;omega
 have az:¬(d=i):=by omega
 have ar:¬(d=i+1):=by omega
 have aN:¬(c=i):=by omega
 have aw:b≠w.heap.size:=by omega
 have aG:IntKind.i64.wrap ((i:Int)+(1:Int))=(i:Int)+(1:Int):=by rw[wm];omega
 have aE:IntKind.i64.wrap ((n:Int)+(1:Int))=(n:Int)+(1:Int):=by rw[wm];omega
 have aA:(0:Int)<=(i:Int)+(1:Int):=by omega
 have aL:i<=n:=by omega
 have aR:((i:Int)+(1:Int)).toNat=i+1:=by omega
 have aH:(i:Int)<=(n:Int):=by omega
 clear F z E y s J L t A K r kA x
 go_enter func269,Tryz.ntmps269
 go_wp2_with (first
  |(at_builtin;refine Lib.wpList_append_run _ rfl _ _ _ _ rfl _ _ rfl rfl _ _ (an _) ?_)
  |(refine wpList_copy_runI _ rfl _ _ 33 33 rfl _ _ rfl rfl (ak _ rfl _ _) ?_))
 go_region_law_o (refine step_copy_runI rfl _ _ 33 33 rfl (.slice (some ⟨w.heap.size,(i+1)*5,none⟩) (n-i) (d-(i+1))) (.slice (some ⟨b,i*5,none⟩) (n-i) (c-i)) (by simp[Act.eval,Act.put]) (by simp[Act.eval,Act.put]) (am (((w.alloc (.cells e 167)).drew.setRow w.heap.size f).drew) rfl 3 (d-(i+1)) (c-i)) ?_)
 go_wp2
 go_ret
 exact S _ rfl rfl rfl rfl (Nat.le_add_right w.drawn 2)
end
theorem WG{agR ait b:Nat}{aiF:ig}{alh:TypeId}{row:hD}{w:World}(aa:w.heap[agR]?=some (.cells aiF alh (0,0)))(e5:aiF.toList.take 5=row)(hY:row.length=5):
  Calls prog 269 #[.slice none 0 0,.int .i64 (0:Nat),.slice (some ⟨agR,0,none⟩) 1 ait] w (ll w b 1 167 5 row):=by
 have x:=ul;obtain⟨t,l,n,m,p⟩:=info_parts (by kernel_rfl:(prog.info? 167).map (λi=>(i.zero,i.size,i.bytes))=some (some (.agg #[.int .i64 0,.int .i64 0,.bool false,.slice none 0 0,.slice none 0 0]),5,72));have o:∀f h,row[f]?=some h->w.cell? ((⟨agR,0,none⟩:Addr).add f)=some h:=λf h=>yV aa e5;obtain⟨a,d⟩:∃a,a=grownCap w 1 0 167:=⟨_,rfl⟩;have r:1<=a:=by rw[d];exact grownCap_ge w _ _ _
 have q:a<=maxLen:=by rw[d];exact v5 w _ _ _ (by unfold maxLen;omega)
 obtain⟨c,e⟩:∃c:ig,c=row.toArray++Builtin.zeroCells (.agg #[.int .i64 0,.int .i64 0,.bool false,.slice none 0 0,.slice none 0 0]:Value).cells (a-1):=⟨_,rfl⟩
 have j:∀g,(Builtin.append_ #[33,33] g #[.slice none 0 0,.slice (some ⟨agR,0,none⟩) 1 ait]).run prog w=.ok (.slice (some ⟨w.heap.size,0,none⟩) 1 a) (w.drew.alloc (.cells c 167)):=λg=>by
  have:=run_append_nil w 33 g 167 t _ underlying33 l n ⟨agR,0,none⟩ 1 ait row (by rw[m,hY]) o (by omega) (by omega) (by rw[p];omega);rw[<-d,<-e]at this;exact this
 have k:ll w b 1 167 5 row (.returned (.slice (some ⟨w.heap.size,0,none⟩) 1 a)) (w.drew.alloc (.cells c 167)):=by
  refine Ga r q (arr:=c) ?_ ?_ (yW w _) (λu s=>yt w _ u s) (by show w.heap.size<=(w.heap.push _).size;simp) rfl rfl rfl (Nat.le_succ _)
  .rw[e];simp only[ye,pe,E6,hY];show 5+(a-1)*5=a*5;omega
  .grind
 have v:¬((1:Int)=0):=by omega
 clear e d
 go_enter func269,Tryz.ntmps269
 go_wp2_with (at_builtin;refine Lib.wpList_append_run _ rfl _ _ _ _ rfl _ _ rfl rfl _ _ (j _) ?_)
 all_goals (go_ret;exact k)
def Rg:Ny prog 269 167 5 72:=by
 refine⟨λb n c i agR ait arr aiF alh cs row w m j k l h Z hn fJ aa e5 hY g d=>?_,λagR ait b aiF alh row w aa e5 hY=>WG aa e5 hY⟩;rcases Nat.lt_or_eq_of_le m with e|rfl
 .by_cases a:n+1<=c
  .exact Wa Z hn fJ aa e5 hY e a k l g d
  .exact Wr Z hn fJ aa e5 hY e j (by omega) h g d
 .have f:cs.length<=i*5:=by rw[<-fJ,hg];omega
  rw[qt f,zT f,l5];by_cases a:i+1<=c
  .exact VY Z hn fJ aa e5 hY a k d
  .exact VZ Z hn fJ aa e5 hY j (by omega) h
def XP{d d2 D:Nat}{l m:td}{i:Int}{x:a6}(h:wk l i x=some m)(j:d2≠d)(e:D∉[d,d2]):cz au prog 269 [(d,.slice 167 5 (bc cN l) 0 false),(d2,.slice 167 5 (bc cN [x]) 0 false)] [.own d,.int .i64 i,.own d2] (λa b=>a=.own D/\b=[(D,.slice 167 5 (bc cN m) 0 false)]):=by
 obtain⟨g,c,rfl⟩:=WT h;have k:=WJ (au:=au) Rg (by decide) (d:=d) (d2:=d2) (D:=D) (i:=i) (xs:=bc cN l) (row:=cN.enc x) (wh cN l) (cN.hz x) (Ho cN l) (cN.one x) (by rw[lR];exact g) (by rw[lR];exact c) j e;have f:bc cN (l.take i.toNat++x::l.drop i.toNat)=(bc cN l).take i.toNat++cN.enc x::(bc cN l).drop i.toNat:=by simp[bc,List.map_take,List.map_drop]
 rw[f];exact k
end
section
open Go Go.Proofs.Tryz
variable {au:Bool}
def UQ{b a r}(c:A4 b a=some r):bb au prog 268 [] [.agg (ej b),H a] (H r):=by
 refine a5 func268 rfl rfl ?_;unfold A4 at c;refine aj [(0,.al 537)] [(1,H a),(2,.ptr 537 0)] [(537,.cells 167 (ej b))] ?_;obtain⟨d,e,c⟩:=az c;exact aj [(3,aB (mW e) mL)] [(4,H d)] []<|aN
def JV{d r}(a:xm d=some r):cz au prog 217 [] [.agg (fZ d)] (eH (.agg [.own 157]) [(157,.s 167 cN r.bq)]):=by
 refine a5 func217 rfl rfl ?_;unfold xm at a;refine aj [(0,.al 407),(1,.al 161)] [(1,.ptr 407 0),(2,.ptr 161 0)] [(407,.cells 35 (fZ d)),(161,.c 35 [.aF])]<|aV [(0,.al 186)] [] [(3,.ptr 186 0)] [] [(186,.c 35 [.aF])]<|aq<|aV [(2,Y (bk cN d.bq))] [1] [(7,an cN d.bq),(8,H d.bq.length),(9,H 0)] [407] []<|aX<|aFd 7 rfl λh=>?_
 obtain⟨q,s,k,l,a⟩:=cG a;refine cO a (λb=>λc=>[(2,.ptr 161 0),(3,.ptr 186 0),(7,an cN d.bq),(8,H d.bq.length),(9,H b)]) (λb=>λc=>[(161,.c 35 [.aF]),(186,.c 35 [.own 242]),(242,.s 167 cN c)]) ?_ ?_ ?_
 .exact cr [.ac 186 242 167 5 0] []
 .rintro b m p c j e a;rw[k]at a;refine ak [] [] [(10,.d ((b:Int)<d.bq.length))]<|aq<|aI (cL e)<|aK<|aq<|aX<|aV [(0,be (ix cN (bU e))),(2,.al 529)] [10] [(5,.ptr 529 0)] [] [(529,.cells 167 (ej m))] ?_
  obtain⟨o,n,f,g,a⟩:=er a;exact b0 [(3,aB (Es n) Db),(5,dS 364 (ap cN (bytes:=72) (by decide) g))] [5] [] [186,242,529] [(186,.c 35 [.own 364]),(364,.s 167 cN f)]<|a7 [(0,Y (cI e h))] [9] [(9,H ((b+1:Nat):Int))]<|Exists.intro f (And.intro a (cr [.b8 364 242] []))
 rintro b c j i a;rw[l]at a;refine ak [] [] [(10,.d ((b:Int)<d.bq.length))]<|aq<|aH (cK i)<|bQ<|aV [] [3,7,8,9,10] [] [161,186] [(161,.c 35 [.own 242])]<|c2 ?_
 obtain rfl:=cy a;exact c0 [.b8 242 157]
def Ke{d a r}(b:xK d a=some r):cz au prog 218 [(505021800,.s 167 cN d.bq),(191,.c 35 [.own 505021800])] [.ptr 191 0,.agg (ej a)] (eH (.bool r.1) [(191,.c 35 [.own 373]),(373,.s 167 cN r.2.bq)]):=by
 refine a5 func218 rfl rfl ?_;unfold xK at b;refine aj [(0,.al 287)] [(0,.ptr 191 0),(3,.ptr 287 0)] [(505021800,.s 167 cN d.bq),(191,.c 35 [.own 505021800]),(287,.cells 167 (ej a))] ?_;obtain⟨g,v,b⟩:=az b;refine ak [(6,bt [505021800] (acW (jr:=268) (kF:=[]) (oe:=Sv) (og:=λ_ _ _ u=>UQ u) v) Su)] [] [(5,H g.1),(6,.bool g.2)] ?_;obtain⟨p,o,b⟩:=cV b;refine cW p r (λf=>[]) (λf=>[(191,.c 35 [.own 352]),(352,.s 167 cN f)]) ?_ ?_
 .refine aX<|ak [] [6] [(17,.bool (!g.2))] ?_
  rcases aC b with⟨h,b⟩|⟨h,b⟩
  .refine aI h ?_;obtain⟨w,l,j,m,b⟩:=er b;exact lU [(7,aB (Es l) Db),(8,.al 218028),(9,b3 [520218001] (XP (d:=505021800) (d2:=218028) (D:=520218001) m (by decide) (by decide)) Sw)] [] [(191,.c 35 [.own 520218001]),(520218001,.s 167 cN j)]<|Exists.intro j (And.intro b (cr [.b8 520218001 352] []))
  refine aH h ?_;obtain⟨x,c,k,s,b⟩:=er b;refine ak [(6,be (ix cN c)),(7,fK 505021800 0 (ix cN c)),(8,aB (Vo s) Sx)] [17] [(32,.bool k)] ?_;rcases aC b with⟨e,b⟩|⟨e,b⟩
  .refine aI e ?_;obtain⟨q,n,i,t,b⟩:=er b;exact lU [(6,aB (Es n) Db),(7,be (ix cN c)),(8,mY 505021800 (st cN (off:=0) (ca:=(ej q)) c t rfl) (oU c).1.1)] [] [(505021800,.s 167 cN i),(191,.c 35 [.own 505021800])]<|Exists.intro i (And.intro b (cr [.rn 505021800 352] []))
  refine aH e<|aV [] [0,3,5,32] [(4,.bool false)] [287] []<|c2 ?_
  obtain rfl:=cy b;exact c0 [.rn 505021800 373]
 rintro f b;rw[o]at b;refine ak [] [] [(4,.bool true)]<|c2 ?_
 obtain rfl:=cy b;exact c0 [.b8 352 373]
def Vp{d a r}(b:Bl d a=some r):bb au prog 151 [] [.agg (fZ d),.agg (ej a)] (.bO [.agg (fZ r.1),.bool r.2]):=by
 refine a5 func151 rfl rfl ?_;unfold Bl at b;refine aj [(0,.al 396),(1,.al 255),(2,.al 196)] [(2,.ptr 396 0),(3,.ptr 255 0),(4,.ptr 196 0)] [(396,.cells 35 (fZ d)),(255,.cells 167 (ej a)),(196,.c 35 [.aF])] ?_;obtain⟨j,o,b⟩:=az b;refine aV [(1,b3 [157] (JV o) Oz),(2,.al 246)] [] [(6,.ptr 246 0)] [] [(157,.s 167 cN j.bq),(246,.c 35 [.own 157])]<|aq ?_
 obtain⟨m,l,b⟩:=cV b;refine cW m r (λg=>[(3,.ptr 255 0),(4,.ptr 196 0),(6,.ptr 246 0),(17,.bool g)]) (λg=>[(255,.cells 167 (ej a)),(196,.c 35 [.aF]),(157,.s 167 cN j.bq),(246,.c 35 [.own 157])]) ?_ ?_
 .obtain⟨p,i,b⟩:=az b;rcases aC b with⟨e,b⟩|⟨e,b⟩
  .exact b0 [(1,aB (qO i) qy),(3,Y (ax e))] [2] [(17,.bool true)] [396] []<|aT true b
  obtain⟨h,k,b⟩:=az b;exact b0 [(1,aB (qO i) qy),(3,Y (ax e)),(5,aB (xx k) vU)] [2] [(17,.bool (!h))] [396] []<|aT (!h) b
 rintro g b;rw[l]at b;rcases aC b with⟨c,b⟩|⟨c,b⟩
 .refine aI c<|aV [] [3,6,17] [(5,.bool false)] [255,196,246] [(196,.c 35 [.own 157])]<|c2 ?_
  obtain rfl:=cy b;exact c0 [.bL [157]]
 refine aH c<|aK ?_
 obtain⟨f,n,b⟩:=az b;refine aV [(1,b3 [344] (e0.at [(505021800,157),(191,246),(373,344)] (Ke n)) OA)] [3,17] [(7,.bool f.1)] [255,157,246] [(246,.c 35 [.own 344]),(344,.s 167 cN f.2.bq)]<|aV [] [6,7] [(5,.bool f.1)] [196,246] [(196,.c 35 [.own 344])]<|c2 ?_
 obtain rfl:=cy b;exact c0 [.bL [344]]
def UR{a b r}(c:A5 a b=some r):bb au prog 162 [] [.agg (fZ a),.agg (fZ b)] (.bO [.agg (fZ r.1),H r.2]):=by
 refine a5 func162 rfl rfl ?_;unfold A5 at c;refine aj [(0,.al 286),(1,.al 256),(2,.al 125)] [(2,.ptr 286 0),(3,.ptr 256 0),(4,.ptr 125 0)] [(286,.cells 35 (fZ a)),(256,.cells 35 (fZ b)),(125,.c 35 [.aF])]<|aq ?_
 obtain⟨w,v,c⟩:=cV c;refine cW w r (λi=>[(2,.ptr 286 0),(3,.ptr 256 0),(4,.ptr 125 0),(16,.bool i)]) (λi=>[(286,.cells 35 (fZ a)),(256,.cells 35 (fZ b)),(125,.c 35 [.aF])]) ?_ ?_
 .obtain⟨z,l,c⟩:=az c;rcases aC c with⟨g,c⟩|⟨g,c⟩
  .exact a7 [(1,aB (qO l) qy),(3,Y (ax g))] [] [(16,.bool true)]<|aT true c
  obtain⟨j,n,c⟩:=az c;exact a7 [(1,aB (qO l) qy),(3,Y (ax g)),(5,aB (qO n) qy)] [] [(16,.bool (!decide (j=0)))]<|aT (!decide (j=0)) c
 rintro i c;rw[v]at c;rcases aC c with⟨f,c⟩|⟨f,c⟩
 .exact aI f<|aV [] [2,3,16] [(5,H 1)] [286,256] []<|aN
 refine aH f<|aK ?_
 obtain⟨m,o,c⟩:=az c;refine aV [(1,b3 [157] (JV o) Oz),(2,.al 185)] [2,16] [(6,.ptr 185 0)] [286] [(157,.s 167 cN m.bq),(185,.c 35 [.own 157])]<|aq<|aV [(2,Y (bk cN b.bq))] [3] [(21,an cN b.bq),(22,H b.bq.length),(23,H 0)] [256] []<|aX<|aFd 21 rfl λp=>?_
 obtain⟨B,C,t,u,c⟩:=cG c;refine cO c (λd=>λe=>[(4,.ptr 125 0),(6,.ptr 185 0),(21,an cN b.bq),(22,H b.bq.length),(23,H d)]) (λd=>λe=>[(125,.c 35 [.aF]),(185,.c 35 [.own 227]),(227,.s 167 cN e)]) ?_ ?_ ?_
 .exact cr [.b8 157 227] []
 .rintro d y A e s h c;rw[t]at c;refine ak [] [] [(24,.d ((d:Int)<b.bq.length))]<|aq<|aI (cL h)<|aK<|aq<|aX<|aV [(0,be (ix cN (bU h))),(2,.al 515)] [24] [(8,.ptr 515 0)] [] [(515,.cells 167 (ej y))] ?_
  obtain⟨k,x,c⟩:=az c;exact b0 [(1,b3 [346] (e0.at [(505021800,227),(191,185),(373,346)] (Ke x)) OA)] [8] [] [185,227,515] [(185,.c 35 [.own 346]),(346,.s 167 cN k.2.bq)]<|a7 [(0,Y (cI h p))] [23] [(23,H ((d+1:Nat):Int))]<|Exists.intro k.2.bq (And.intro c (cr [.b8 346 227] []))
 rintro d e s q c;rw[u]at c;refine ak [] [] [(24,.d ((d:Int)<b.bq.length))]<|aq<|aH (cK q)<|bQ<|aV [] [6,21,22,23,24] [(5,H 0)] [125,185] [(125,.c 35 [.own 227])]<|c2 ?_
 obtain rfl:=cy c;exact c0 [.bL [227]]
variable {au:Bool}
def V0{t b seq n r}(a:BR t b seq n=some r):cz au prog 156 [] [.agg (bz t),H b,H seq,an dL n] (eH (.bO [.agg [H r.1.ai,H r.1.Seq,.bool r.1.bK,.own 251,.own 252],H r.2]) [(251,.s 185 dO r.1.Links),(252,.s 141 dL r.1.Claims)]):=by
 refine a5 func156 rfl rfl ?_;unfold BR at a;refine aj [(0,.al 284),(1,.al 52)] [(1,H b),(2,H seq),(3,an dL n),(4,.ptr 284 0),(8,.ptr 52 0)] [(284,.cells 41 (bz t)),(52,.c 167 [H 0,H 0,.bool false,.aF,.aF])]<|aq<|aX ?_
 obtain⟨v,K,a⟩:=az a;refine ak [(1,aB (kP K) kX)] [] [(13,.bool (!decide (v=0)))] ?_;rcases aC a with⟨h,a⟩|⟨h,a⟩
 .refine aI h<|aV [] [1,2,3,4,13] [(9,H 1)] [284] []<|c2 ?_
  obtain rfl:=cy a;exact c0 [.ac 52 251 185 3 3,.ac 52 252 141 3 4]
 refine aH h ?_;obtain⟨s,u,a⟩:=az a;refine ak [(2,aB (nK u) nC)] [13] [(18,.bool (!s))] ?_;rcases aC a with⟨g,a⟩|⟨g,a⟩
 .refine aI g<|aV [] [1,2,3,4,18] [(9,H 4)] [284] []<|c2 ?_
  obtain rfl:=cy a;exact c0 [.ac 52 251 185 3 3,.ac 52 252 141 3 4]
 refine aH g<|aK ?_
 obtain⟨d,w,l,F,a⟩:=er a;refine aV [(4,aB (AF w) zC),(6,dS 106 (ap dL (bytes:=24) (by decide) F)),(8,.al 121)] [2,3,18] [(10,.ptr 121 0)] [] [(106,.s 141 dL l),(121,.c 167 [H b,H seq,.bool d,.aF,.own 106])]<|aq<|aV [(2,Y (bk aW t.Links))] [4] [(33,an aW t.Links),(34,H t.Links.length),(35,H 0)] [284] []<|aX<|aFd 33 rfl λy=>?_
 obtain⟨M,N,B,C,a⟩:=cG a;refine cO a (λc=>λe=>[(1,H b),(8,.ptr 52 0),(10,.ptr 121 0),(33,an aW t.Links),(34,H t.Links.length),(35,H c)]) (λc=>λe=>[(52,.c 167 [H 0,H 0,.bool false,.aF,.aF]),(106,.s 141 dL l),(121,.c 167 [H b,H seq,.bool d,.own 137,.own 106]),(137,.s 185 dO e)]) ?_ ?_ ?_
 .exact cr [.ac 121 137 185 3 3] []
 .rintro c o L e A j a;rw[B]at a;refine ak [] [] [(36,.d ((c:Int)<t.Links.length))]<|aq<|aI (cL j)<|aK ?_
  obtain⟨E,D,a⟩:=cV a;refine cW E r (λf=>[(1,H b),(8,.ptr 52 0),(10,.ptr 121 0),(33,an aW t.Links),(34,H t.Links.length),(35,H c)]) (λf=>[(52,.c 167 [H 0,H 0,.bool false,.aF,.aF]),(106,.s 141 dL l),(121,.c 167 [H b,H seq,.bool d,.own 137,.own 106]),(137,.s 185 dO f)]) ?_ ?_
  .refine aX<|aV [(0,be (ix aW (bU j))),(2,.al 285)] [36] [(12,.ptr 285 0)] [] [(285,.cells 139 (dJ o))] ?_
   refine ak [] [] [(39,H b)]<|aX<|ak [] [] [(40,.d (b=o.A))] ?_
   rcases aC a with⟨k,a⟩|⟨k,a⟩
   .refine aI k ?_;obtain⟨p,I,a⟩:=az a;exact b0 [(10,dS 458 (ap dO (bytes:=24) (by decide) I))] [12,39,40] [] [121,137,285] [(121,.c 167 [H b,H seq,.bool d,.own 458,.own 106]),(458,.s 185 dO p)]<|Exists.intro p (And.intro a (cr [.b8 458 137] []))
   refine aH k<|ak [] [39,40] [(56,.d (b=o.B))] ?_
   rcases aC a with⟨m,a⟩|⟨m,a⟩
   .refine aI m ?_;obtain⟨q,x,a⟩:=az a;exact b0 [(10,dS 459 (ap dO (bytes:=24) (by decide) x))] [12,56] [] [121,137,285] [(121,.c 167 [H b,H seq,.bool d,.own 459,.own 106]),(459,.s 185 dO q)]<|Exists.intro q (And.intro a (cr [.b8 459 137] []))
   exact aH m<|aK<|aT e a
  rintro f a;rw[D]at a;exact a7 [(0,Y (cI j y))] [35] [(35,H ((c+1:Nat):Int))]<|aT f a
 rintro c e A z a;rw[C]at a;refine ak [] [] [(36,.d ((c:Int)<t.Links.length))]<|aq<|aH (cK z)<|bQ<|aq ?_
 obtain⟨G,J,a⟩:=az a;refine ak [(1,bt [137,106] (xx J) vU)] [1,33,34,35,36] [(75,.bool (!G))] ?_;rcases aC a with⟨i,a⟩|⟨i,a⟩
 .refine aI i<|aV [] [10,75] [(9,H 2)] [106,121,137] []<|c2 ?_
  obtain rfl:=cy a;exact c0 [.ac 52 251 185 3 3,.ac 52 252 141 3 4]
 refine aH i<|aK<|aV [] [10,75] [(9,H 0)] [52,121] [(52,.c 167 [H b,H seq,.bool d,.own 137,.own 106])]<|c2 ?_
 obtain rfl:=cy a;exact c0 [.b8 137 251,.b8 106 252]
variable {au:Bool}
variable {f:aQ}
def uC{r}(a:oI f=some r):cz au prog 72 [] [.agg (c6 f)] (eH (.agg [.own 29,.own 30]) [(29,.s 82 bJ r.bf),(30,.s 139 aW r.Links)]):=by
 refine a5 func72 rfl rfl ?_;unfold oI at a;refine aj [(0,.al 446),(1,.al 168)] [(1,.ptr 446 0),(2,.ptr 168 0)] [(446,.cells 29 (c6 f)),(168,.c 41 [.aF,.aF])] ?_;obtain⟨e,o,a⟩:=az a;refine aV [(2,b3 [13] (D3 o) Dj),(4,.al 190)] [] [(3,.ptr 190 0)] [] [(13,.s 139 aW e),(190,.c 41 [.aF,.own 13])]<|aq<|aV [(2,Y (bk bF f.aM))] [1] [(11,an bF f.aM),(12,H f.aM.length),(13,H 0)] [446] []<|aX<|aFd 11 rfl λi=>?_
 obtain⟨q,s,l,m,a⟩:=cG a;refine cO a (λb=>λc=>[(2,.ptr 168 0),(3,.ptr 190 0),(11,an bF f.aM),(12,H f.aM.length),(13,H b)]) (λb=>λc=>[(168,.c 41 [.aF,.aF]),(13,.s 139 aW e),(190,.c 41 [.own 240,.own 13]),(240,.s 82 bJ c)]) ?_ ?_ ?_
 .exact cr [.ac 190 240 82 2 0] []
 .rintro b n p c k d a;rw[l]at a;refine ak [] [] [(14,.d ((b:Int)<f.aM.length))]<|aq<|aI (cL d)<|aK<|aq<|aX<|aV [(0,be (ix bF (bU d))),(2,.al 559)] [14] [(5,.ptr 559 0)] [] [(559,.cells 37 (kQ n))] ?_
  obtain⟨g,h,a⟩:=az a;exact b0 [(8,dS 385 (ap bJ (bytes:=16) (by decide) h))] [5] [] [190,240,559] [(190,.c 41 [.own 385,.own 13]),(385,.s 82 bJ g)]<|a7 [(0,Y (cI d i))] [13] [(13,H ((b+1:Nat):Int))]<|Exists.intro g (And.intro a (cr [.b8 385 240] []))
 rintro b c k j a;rw[m]at a;refine ak [] [] [(14,.d ((b:Int)<f.aM.length))]<|aq<|aH (cK j)<|bQ<|aV [] [3,11,12,13,14] [] [168,190] [(168,.c 41 [.own 240,.own 13])]<|c2 ?_
 obtain rfl:=cy a;exact c0 [.b8 240 29,.b8 13 30]
def UY{n a r}(b:ET n a=some r):bb au prog 216 [] [.agg (kQ n),.dI [H a]] (.bool r):=by
 refine a5 func216 rfl rfl ?_;unfold ET at b;exact aj [(0,.al 528)] [(1,.dI [H a]),(2,.ptr 528 0)] [(528,.cells 37 (kQ n))]<|aj [] [(3,.d (n.ai=a))] []<|aN
def AO{a r}(c:q0 f a=some r):bb au prog 150 [] [.agg (c6 f),H a] (.bO [H r.1,.bool r.2]):=by
 refine a5 func150 rfl rfl ?_;unfold q0 at c;refine aj [(0,.al 509),(1,.al 457)] [(2,.ptr 509 0),(3,.ptr 457 0)] [(509,.cells 29 (c6 f)),(457,.c 3 [H a])] ?_;obtain⟨b,e,c⟩:=az c;exact aj [(3,bt [457] (ady (bZ:=216) (cp:=[.dI [H a]]) (dQ:=SR) (dP:=λ_ _ d=>UY d) e) SQ)] [(6,H b)] []<|aj [] [(4,H b),(5,.d (0<=b))] []<|aN
def oJ{r}(a:ml f=some r):bb au prog 68 [] [.agg (c6 f)] (H r):=by
 refine a5 func68 rfl rfl ?_;unfold ml at a;refine aj [(0,.al 38)] [(1,.ptr 38 0)] [(38,.cells 29 (c6 f))]<|aq ?_
 obtain⟨K,I,a⟩:=cV a;refine cW K r (λm=>[(1,.ptr 38 0),(20,.bool m)]) (λm=>[(38,.cells 29 (c6 f))]) ?_ ?_
 .obtain⟨ab,y,Z,u,a⟩:=er a;rcases aC a with⟨j,a⟩|⟨j,a⟩
  .exact a7 [(1,b3 [510068001,510068002] (e0.at [(29,510068001),(30,510068002)] (uC y)) tY),(2,bt [510068001,510068002] (kP u) kX),(4,Y (ax j))] [] [(20,.bool true)]<|aT true a
  exact a7 [(1,b3 [510068001,510068002] (e0.at [(29,510068001),(30,510068002)] (uC y)) tY),(2,bt [510068001,510068002] (kP u) kX),(4,Y (ax j)),(7,Y (bk b2 f.bg))] [] [(20,.d (400<(f.bg.length:Int)))]<|aT (decide (400<(f.bg.length:Int))) a
 rintro m a;rw[I]at a;rcases aC a with⟨i,a⟩|⟨i,a⟩
 .exact aI i<|aj [] [(2,H 1)] []<|aN
 refine aH i<|aK<|aq<|ak [(2,Y (bk bF f.aM))] [20] [(22,an bF f.aM),(23,H f.aM.length),(24,H 0)]<|aX<|aFd 22 rfl λB=>?_
 obtain⟨ag,am,F,G,a⟩:=cG a;refine cO a (λb()=>[(1,.ptr 38 0),(22,an bF f.aM),(23,H f.aM.length),(24,H b)]) (λb()=>[(38,.cells 29 (c6 f))]) ?_ ?_ ?_
 .exact c8
 .rintro b W ae ⟨⟩ E l a;rw[F]at a;refine ak [] [] [(25,.d ((b:Int)<f.aM.length))]<|aq<|aI (cL l)<|aK<|aq<|aX<|aV [(0,be (ix bF (bU l))),(2,.al 558)] [25] [(4,.ptr 558 0)] [] [(558,.cells 37 (kQ W))] ?_
  obtain⟨z,N,a⟩:=cV a;refine cW z r (λn=>[(1,.ptr 38 0),(22,an bF f.aM),(23,H f.aM.length),(24,H b),(50,.bool n)]) (λn=>[(38,.cells 29 (c6 f))]) ?_ ?_
  .rcases aC a with⟨d,a⟩|⟨d,a⟩
   .exact b0 [(3,Y (ax d))] [4] [(50,.bool true)] [558] []<|aT true a
   rcases aC a with⟨g,a⟩|⟨g,a⟩
   .exact b0 [(3,Y (ax d)),(8,Y (ax g))] [4] [(50,.bool true)] [558] []<|aT true a
   obtain⟨aa,v,a⟩:=az a;rcases aC a with⟨k,a⟩|⟨k,a⟩
   .exact b0 [(3,Y (ax d)),(8,Y (ax g)),(14,aB (xx v) vU),(17,Y (ax k))] [4] [(50,.bool true)] [558] []<|aT true a
   obtain⟨w,L,a⟩:=az a;exact b0 [(3,Y (ax d)),(8,Y (ax g)),(14,aB (xx v) vU),(17,Y (ax k)),(20,aB (qO L) qy)] [4] [(50,.bool (!decide (w=0)))] [558] []<|aT (!decide (w=0)) a
  rintro n a;rw[N]at a;rcases aC a with⟨p,a⟩|⟨p,a⟩
  .exact aI p<|aj [] [(2,H 1)] []<|aN
  exact aH p<|aK<|a7 [(0,Y (cI l B))] [24,50] [(24,H ((b+1:Nat):Int))]<|aT () a
 rintro b ⟨⟩ E D a;rw[G]at a;refine ak [] [] [(25,.d ((b:Int)<f.aM.length))]<|aq<|aH (cK D)<|bQ<|aq<|ak [(2,Y (bk b2 f.bg))] [22,23,24,25] [(53,an b2 f.bg),(54,H f.bg.length),(55,H 0)]<|aX<|aFd 53 rfl λP=>?_
 obtain⟨aw,ar,R,S,a⟩:=cG a;refine cO a (λc()=>[(1,.ptr 38 0),(53,an b2 f.bg),(54,H f.bg.length),(55,H c)]) (λc()=>[(38,.cells 29 (c6 f))]) ?_ ?_ ?_
 .exact c8
 .rintro c X ao ⟨⟩ T o a;rw[R]at a;refine ak [] [] [(56,.d ((c:Int)<f.bg.length))]<|aq<|aI (cL o)<|aK<|aq<|aX<|aV [(0,be (ix b2 (bU o))),(2,.al 350)] [56] [(6,.ptr 350 0)] [] [(350,.cells 161 (qV X))] ?_
  obtain⟨C,M,a⟩:=az a;refine ak [(3,aB (AO M) zF)] [] [(8,.bool C.2)] ?_;obtain⟨J,A,a⟩:=az a;refine ak [(3,aB (AO A) zF)] [] [(10,.bool J.2)] ?_;obtain⟨U,V,a⟩:=cV a;refine cW U r (λt=>[(1,.ptr 38 0),(53,an b2 f.bg),(54,H f.bg.length),(55,H c),(91,.bool t)]) (λt=>[(38,.cells 29 (c6 f))]) ?_ ?_
  .rcases aC a with⟨e,a⟩|⟨e,a⟩
   .exact b0 [(2,Y (ax e))] [6,8,10] [(91,.bool true)] [350] []<|aT true a
   rcases aC a with⟨h,a⟩|⟨h,a⟩
   .exact b0 [(2,Y (ax e)),(6,Y (ax h))] [6,8,10] [(91,.bool true)] [350] []<|aT true a
   rcases aC a with⟨q,a⟩|⟨q,a⟩
   .exact b0 [(2,Y (ax e)),(6,Y (ax h)),(13,Y (ax q))] [6,8,10] [(91,.bool true)] [350] []<|aT true a
   obtain⟨x,Q,a⟩:=az a;exact b0 [(2,Y (ax e)),(6,Y (ax h)),(13,Y (ax q)),(16,aB (qO Q) qy)] [6,8,10] [(91,.bool (!decide (x=0)))] [350] []<|aT (!decide (x=0)) a
  rintro t a;rw[V]at a;rcases aC a with⟨s,a⟩|⟨s,a⟩
  .exact aI s<|aj [] [(2,H 1)] []<|aN
  exact aH s<|aK<|a7 [(0,Y (cI o P))] [55,91] [(55,H ((c+1:Nat):Int))]<|aT () a
 rintro c ⟨⟩ T O a;rw[S]at a;exact ak [] [] [(56,.d ((c:Int)<f.bg.length))]<|aq<|aH (cK O)<|bQ<|aj [] [(2,H 0)] []<|aN
def AW{n r}(b:q2 f n=some r):cz au prog 76 [] [.agg (c6 f),.agg (kQ n)] (eH (.bO [.agg [H r.1.ai,H r.1.Seq,.bool r.1.bK,.own 187,.own 188],.bool r.2]) [(187,.s 185 dO r.1.Links),(188,.s 141 dL r.1.Claims)]):=by
 refine a5 func76 rfl rfl ?_;unfold q2 at b;refine aj [(0,.al 448),(1,.al 449),(2,.al 243)] [(2,.ptr 448 0),(3,.ptr 449 0),(4,.ptr 243 0)] [(448,.cells 29 (c6 f)),(449,.cells 37 (kQ n)),(243,.c 167 [H 0,H 0,.bool false,.aF,.aF])]<|aq<|ak [] [] [(10,.d (n.Seq=0))] ?_
 rcases aC b with⟨c,b⟩|⟨c,b⟩
 .refine aI c<|aV [] [2,3,10] [(5,.bool false)] [448,449] []<|c2 ?_
  obtain rfl:=cy b;exact c0 [.ac 243 187 185 3 3,.ac 243 188 141 3 4]
 refine aH c<|aK ?_
 obtain⟨g,e,a,d,b⟩:=er b;refine aV [(1,b3 [29,30] (uC e) tY),(8,kA [29,30] [251,252] (V0 d) Tb ⟨jM dO (λ_=>rfl) _,jM dL (λ_=>rfl) _,trivial⟩),(12,.al 561)] [2,3,10] [(6,.ptr 561 0),(7,H a.2)] [448,449] [(561,.c 167 [H a.1.ai,H a.1.Seq,.bool a.1.bK,.own 251,.own 252]),(251,.s 185 dO a.1.Links),(252,.s 141 dL a.1.Claims)]<|aV [] [6,7] [(5,.d (a.2=0))] [243,561] [(243,.c 167 [H a.1.ai,H a.1.Seq,.bool a.1.bK,.own 251,.own 252])]<|c2 ?_
 obtain rfl:=cy b;exact c0 [.b8 251 187,.b8 252 188]
def IY{d r}(a:uB d=some r):bb au prog 153 [] [.agg (fZ d)] (.agg (fZ r)):=by
 refine a5 func153 rfl rfl ?_;unfold uB at a;refine aj [(0,.al 397),(1,.al 148)] [(1,.ptr 397 0),(2,.ptr 148 0)] [(397,.cells 35 (fZ d)),(148,.c 35 [.aF])]<|aV [(0,.al 172)] [] [(3,.ptr 172 0)] [] [(172,.c 35 [.aF])]<|aq<|aV [(2,Y (bk cN d.bq))] [1] [(7,an cN d.bq),(8,H d.bq.length),(9,H 0)] [397] []<|aX<|aFd 7 rfl λl=>?_
 obtain⟨t,u,o,p,a⟩:=cG a;refine cO a (λb=>λc=>[(2,.ptr 148 0),(3,.ptr 172 0),(7,an cN d.bq),(8,H d.bq.length),(9,H b)]) (λb=>λc=>[(148,.c 35 [.aF]),(172,.c 35 [.own 224]),(224,.s 167 cN c)]) ?_ ?_ ?_
 .exact cr [.ac 172 224 167 5 0] []
 .rintro b e s c n f a;rw[o]at a;refine ak [] [] [(10,.d ((b:Int)<d.bq.length))]<|aq<|aI (cL f)<|aK<|aq<|aX<|aV [(0,be (ix cN (bU f))),(2,.al 398)] [10] [(5,.ptr 398 0)] [] [(398,.cells 167 (ej e))] ?_
  obtain⟨h,q,g,j,a⟩:=er a;refine aV [(2,aB (aFJ (r':=an dO h) (σ3:=[]) [222] (PL q) (by kernel_rfl) (by kernel_rfl)) OB),(5,aB (aFJ (r':=an dL g) (σ3:=[]) [215] (IL j) (by kernel_rfl) (by kernel_rfl)) HG)] [] [] [398] [(398,.c 167 [H e.ai,H e.Seq,.bool e.bK,an dO h,an dL g])] ?_;obtain⟨i,k,a⟩:=az a;exact b0 [(4,dS 361 (ap cN (bytes:=72) (by decide) k))] [5] [] [172,224,398] [(172,.c 35 [.own 361]),(361,.s 167 cN i)]<|a7 [(0,Y (cI f l))] [9] [(9,H ((b+1:Nat):Int))]<|Exists.intro i (And.intro a (cr [.b8 361 224] []))
 rintro b c n m a;rw[p]at a;refine ak [] [] [(10,.d ((b:Int)<d.bq.length))]<|aq<|aH (cK m)<|bQ<|aV [] [3,7,8,9,10] [] [148,172] [(148,.c 35 [.own 224])]<|c2 ?_
 obtain rfl:=cy a;exact c0 [.bL [224]]
def w9{r}(a:nN f=some r):cz au prog 71 [] [.agg (c6 f)] (eH (.agg [.own 123,.own 51,.own 65]) [(123,.s 139 aW r.Links),(51,.s 37 bF r.aM),(65,.s 161 b2 r.bg)]):=by
 refine a5 func71 rfl rfl ?_;unfold nN at a;refine aj [(0,.al 167),(1,.al 92)] [(1,.ptr 167 0),(2,.ptr 92 0)] [(167,.cells 29 (c6 f)),(92,.c 29 [.aF,.aF,.aF])] ?_;obtain⟨h,G,a⟩:=az a;refine aV [(2,b3 [13] (D3 G) Dj),(4,.al 100)] [] [(3,.ptr 100 0)] [] [(13,.s 139 aW h),(100,.c 29 [.own 13,.aF,.aF])]<|aq<|ak [(2,Y (bk bF f.aM))] [] [(13,an bF f.aM),(14,H f.aM.length),(15,H 0)]<|aX<|aFd 13 rfl λt=>?_
 obtain⟨J,K,w,x,a⟩:=cG a;refine cO a (λb=>λd=>[(1,.ptr 167 0),(2,.ptr 92 0),(3,.ptr 100 0),(13,an bF f.aM),(14,H f.aM.length),(15,H b)]) (λb=>λd=>[(167,.cells 29 (c6 f)),(92,.c 29 [.aF,.aF,.aF]),(13,.s 139 aW h),(100,.c 29 [.own 13,.own 117,.aF]),(117,.s 37 bF d)]) ?_ ?_ ?_
 .exact cr [.ac 100 117 37 5 1] []
 .rintro b g I d v i a;rw[w]at a;refine ak [] [] [(16,.d ((b:Int)<f.aM.length))]<|aq<|aI (cL i)<|aK<|aq<|aX<|aV [(0,be (ix bF (bU i))),(2,.al 444)] [16] [(5,.ptr 444 0)] [] [(444,.cells 37 (kQ g))] ?_
  obtain⟨l,p,o,q,a⟩:=er a;refine aV [(2,aB (aFJ (r':=an dL l) (σ3:=[]) [215] (IL p) (by kernel_rfl) (by kernel_rfl)) HG),(5,aB (IY q) HH)] [] [] [444] [(444,.c 37 [H g.ai,H g.Seq,.bool g.bK,an dL l,an cN o.bq])] ?_;obtain⟨n,y,a⟩:=az a;exact b0 [(4,dS 383 (ap bF (bytes:=72) (by decide) y))] [5] [] [100,117,444] [(100,.c 29 [.own 13,.own 383,.aF]),(383,.s 37 bF n)]<|a7 [(0,Y (cI i t))] [15] [(15,H ((b+1:Nat):Int))]<|Exists.intro n (And.intro a (cr [.b8 383 117] []))
 rintro b d v u a;rw[x]at a;refine ak [] [] [(16,.d ((b:Int)<f.aM.length))]<|aq<|aH (cK u)<|bQ<|aq<|aV [(2,Y (bk b2 f.bg))] [1,13,14,15,16] [(35,an b2 f.bg),(36,H f.bg.length),(37,H 0)] [167] []<|aX<|aFd 35 rfl λC=>?_
 obtain⟨N,M,D,E,a⟩:=cG a;refine cO a (λc=>λe=>[(2,.ptr 92 0),(3,.ptr 100 0),(35,an b2 f.bg),(36,H f.bg.length),(37,H c)]) (λc=>λe=>[(92,.c 29 [.aF,.aF,.aF]),(13,.s 139 aW h),(100,.c 29 [.own 13,.own 117,.own 223]),(117,.s 37 bF d),(223,.s 161 b2 e)]) ?_ ?_ ?_
 .exact cr [.ac 100 223 161 3 2] []
 .rintro c k L e F j a;rw[D]at a;refine ak [] [] [(38,.d ((c:Int)<f.bg.length))]<|aq<|aI (cL j)<|aK<|aq<|aX<|aV [(0,be (ix b2 (bU j))),(2,.al 445)] [38] [(7,.ptr 445 0)] [] [(445,.cells 161 (qV k))] ?_
  obtain⟨z,A,a⟩:=az a;refine aV [(2,aB (IY A) HH)] [] [] [445] [(445,.c 161 [H k.dx,H k.bS,an cN z.bq])] ?_;obtain⟨m,s,a⟩:=az a;exact b0 [(4,dS 384 (ap b2 (bytes:=40) (by decide) s))] [7] [] [100,223,445] [(100,.c 29 [.own 13,.own 117,.own 384]),(384,.s 161 b2 m)]<|a7 [(0,Y (cI j C))] [37] [(37,H ((c+1:Nat):Int))]<|Exists.intro m (And.intro a (cr [.b8 384 223] []))
 rintro c e F B a;rw[E]at a;refine ak [] [] [(38,.d ((c:Int)<f.bg.length))]<|aq<|aH (cK B)<|bQ<|aV [] [3,35,36,37,38] [] [92,100] [(92,.c 29 [.own 13,.own 117,.own 223])]<|c2 ?_
 obtain rfl:=cy a;exact c0 [.b8 13 123,.b8 117 51,.b8 223 65]
def Uz{r}(a:AN f=some r):bb au prog 30 [] [.agg (c6 f)] (.bool r):=by
 refine a5 func30 rfl rfl ?_;unfold AN at a;refine aj [(0,.al 45)] [(1,.ptr 45 0)] [(45,.cells 29 (c6 f))]<|aq ?_
 obtain⟨L,K,a⟩:=cV a;refine cW L r (λn=>[(1,.ptr 45 0),(20,.bool n)]) (λn=>[(45,.cells 29 (c6 f))]) ?_ ?_
 .obtain⟨Z,z,a⟩:=az a;rcases aC a with⟨k,a⟩|⟨k,a⟩
  .exact a7 [(1,aB (oJ z) oF),(3,Y (ax k))] [] [(20,.bool true)]<|aT true a
  exact a7 [(1,aB (oJ z) oF),(3,Y (ax k)),(6,Y (bk b2 f.bg))] [] [(20,.d (0<(f.bg.length:Int)))]<|aT (decide (0<(f.bg.length:Int))) a
 rintro n a;rw[K]at a;rcases aC a with⟨j,a⟩|⟨j,a⟩
 .exact aI j<|aj [] [(2,.bool false)] []<|aN
 refine aH j<|aK ?_
 obtain⟨c,A,a⟩:=az a;refine aV [(1,b3 [29,30] (uC A) tY),(2,.al 68)] [20] [(3,.ptr 68 0)] [] [(29,.s 82 bJ c.bf),(30,.s 139 aW c.Links),(68,.c 41 [.own 29,.own 30])]<|aq<|ak [(2,Y (bk bF f.aM))] [] [(24,an bF f.aM),(25,H f.aM.length),(26,H 0)]<|aX<|aFd 24 rfl λE=>?_
 obtain⟨ae,ag,I,J,a⟩:=cG a;refine cO a (λb()=>[(1,.ptr 45 0),(3,.ptr 68 0),(24,an bF f.aM),(25,H f.aM.length),(26,H b)]) (λb()=>[(45,.cells 29 (c6 f)),(29,.s 82 bJ c.bf),(30,.s 139 aW c.Links),(68,.c 41 [.own 29,.own 30])]) ?_ ?_ ?_
 .exact c8
 .rintro b i ab ⟨⟩ G m a;rw[I]at a;refine ak [] [] [(27,.d ((b:Int)<f.aM.length))]<|aq<|aI (cL m)<|aK<|aq<|aX<|aV [(1,be (ix bF (bU m))),(3,.al 107)] [27] [(5,.ptr 107 0),(4,H b)] [] [(107,.cells 37 (kQ i))] ?_
  obtain⟨g,B,a⟩:=az a;refine aV [(2,b3 [332,333] (e0.at [(187,332),(188,333)] (AW B)) zQ),(6,.al 415)] [] [(6,.ptr 415 0),(7,.bool g.2)] [] [(332,.s 185 dO g.1.Links),(333,.s 141 dL g.1.Claims),(415,.c 167 [H g.1.ai,H g.1.Seq,.bool g.1.bK,.own 332,.own 333])] ?_;obtain⟨w,M,a⟩:=az a;refine aV [(4,aB (AM M) zH),(8,.al 541)] [] [(8,.ptr 541 0),(9,.bool w.2)] [] [(541,.cells 167 (ej w.1))]<|aq ?_
  obtain⟨C,O,a⟩:=cV a;refine cW C r (λq=>[(1,.ptr 45 0),(3,.ptr 68 0),(4,H b),(5,.ptr 107 0),(24,an bF f.aM),(25,H f.aM.length),(26,H b),(56,.bool q)]) (λq=>[(45,.cells 29 (c6 f)),(29,.s 82 bJ c.bf),(30,.s 139 aW c.Links),(68,.c 41 [.own 29,.own 30]),(107,.cells 37 (kQ i))]) ?_ ?_
  .rcases aC a with⟨h,a⟩|⟨h,a⟩
   .exact b0 [(2,Y (ax h))] [6,7,8,9] [(56,.bool true)] [332,333,415,541] []<|aT true a
   rcases aC a with⟨o,a⟩|⟨o,a⟩
   .exact b0 [(2,Y (ax h)),(6,Y (ax o))] [6,7,8,9] [(56,.bool true)] [332,333,415,541] []<|aT true a
   obtain⟨v,N,a⟩:=az a;exact b0 [(2,Y (ax h)),(6,Y (ax o)),(9,bt [332,333] (xk N) wK)] [6,7,8,9] [(56,.bool (!v))] [332,333,415,541] []<|aT (!v) a
  rintro q a;rw[O]at a;rcases aC a with⟨l,a⟩|⟨l,a⟩
  .exact aI l<|aj [] [(2,.bool false)] []<|aN
  refine aH l<|aK ?_
  obtain⟨d,D,a⟩:=az a;refine ak [(3,fB (sl bF D)),(4,Y (bk bF d))] [4,56] [(60,an bF d),(61,H d.length),(62,H 0)]<|aX<|aFd 60 rfl λQ=>?_
  obtain⟨ar,ao,R,S,a⟩:=cG a;refine cO a (λe()=>[(1,.ptr 45 0),(3,.ptr 68 0),(5,.ptr 107 0),(24,an bF f.aM),(25,H f.aM.length),(26,H b),(60,an bF d),(61,H d.length),(62,H e)]) (λe()=>[(45,.cells 29 (c6 f)),(29,.s 82 bJ c.bf),(30,.s 139 aW c.Links),(68,.c 41 [.own 29,.own 30]),(107,.cells 37 (kQ i))]) ?_ ?_ ?_
  .exact c8
  .rintro e X am ⟨⟩ T s a;rw[R]at a;refine ak [] [] [(63,.d ((e:Int)<d.length))]<|aq<|aI (cL s)<|aK<|aq<|aX<|aV [(0,be (ix bF (bU s))),(2,.al 542)] [63] [(11,.ptr 542 0)] [] [(542,.cells 37 (kQ X))] ?_
   obtain⟨U,W,a⟩:=cV a;refine cW U r (λu=>[(1,.ptr 45 0),(3,.ptr 68 0),(5,.ptr 107 0),(24,an bF f.aM),(25,H f.aM.length),(26,H b),(60,an bF d),(61,H d.length),(62,H e),(79,.bool u)]) (λu=>[(45,.cells 29 (c6 f)),(29,.s 82 bJ c.bf),(30,.s 139 aW c.Links),(68,.c 41 [.own 29,.own 30]),(107,.cells 37 (kQ i))]) ?_ ?_
   .obtain⟨aa,x,a⟩:=az a;rcases aC a with⟨t,a⟩|⟨t,a⟩
    .obtain⟨y,V,a⟩:=az a;exact b0 [(5,bt [29,30] (P8 x) Jq),(6,Y (ax t)),(11,aB (U7 V) acm)] [11] [(79,.bool (!y))] [542] []<|aT (!y) a
    exact b0 [(5,bt [29,30] (P8 x) Jq),(6,Y (ax t))] [11] [(79,.bool false)] [542] []<|aT false a
   rintro u a;rw[W]at a;rcases aC a with⟨p,a⟩|⟨p,a⟩
   .exact aI p<|aj [] [(2,.bool false)] []<|aN
   exact aH p<|aK<|a7 [(0,Y (cI s Q))] [62,79] [(62,H ((e+1:Nat):Int))]<|aT () a
  rintro e ⟨⟩ T P a;rw[S]at a;exact ak [] [] [(63,.d ((e:Int)<d.length))]<|aq<|aH (cK P)<|bQ<|b0 [(0,Y (cI m E))] [5,26,60,61,62,63] [(26,H ((b+1:Nat):Int))] [107] []<|aT () a
 rintro b ⟨⟩ G F a;rw[J]at a;exact ak [] [] [(27,.d ((b:Int)<f.aM.length))]<|aq<|aH (cK F)<|bQ<|aj [] [(2,.bool true)] []<|aN
end
end Go.Proofs.YtemmkpdjmgafoaaGreatDoor
