/- A part of the proof; the last text says of what. No condition but those that stand in each. -/
import Derived.Maps.RangeRun
import Derived.Test.YtmnbolcmepihlaaGreatZ2
import Derived.Laws.MakeOwn
import Derived.Laws.OwnMore
namespace Go.Proofs.YtmnbolcmepihlaaGreat
set_option linter.all false
open Go
section
section redo
variable {G:bQ}{cx:c2}{I:a2}{β:Nat->Value}{σ:W}{w:World}
variable {M news:cg}
theorem bG.redo(h:bG G cx I β σ w){σ2:W}{cV:Nat->Value}{w':World}{b:Nat}(O:dW w w' b)(ar:∀o,I b o=none)(aC:∀x,x∉M->(σ.get x).isSome->b∉b3 (β x))(az:Place cx b)
    (ai:∀x,x∉M->σ2.get x=σ.get x) (am:∀x,x∉news->cV x=β x) (an:∀x∈news,x∈M/\x∉G.ids) (aB:∀x o,x∉M->σ.get x=some o->ho news.contains o=false)
    (aD:∀x∈M,∀o,σ2.get x=some o->bb cx I cV w' x o)
    (aq:∀x∈M,(σ2.get x).isSome->∀c∈b3 (cV x),∃y∈M,(σ.get y).isSome/\c∈b3 (β y))
    (aE:∀x∈M,∀y∈M,x≠y->(σ2.get x).isSome->(σ2.get y).isSome->∀c∈b3 (cV x),c∉b3 (cV y)):bG G cx I cV σ2 w':=by
  have ak:∀x,x∉M->cV x=β x:=λx u=>am x λQ=>u (an x Q).1
  exact{
    good:=λD o v X=>by
      have h1:=h.good D o v X;have aA:D<w.heap.size:=World.block_lt_of_cell? w _ h1;have ae:D≠b:=λe=>by subst e;rw[ar]at X;cases X
      rw[World.cell?_of_block (w:=w) (O.block D ae aA)];exact h1
    eD:=λD v X=>by
      have ae:D≠b:=λe=>by subst e;rw[ar]at X;cases X
      obtain⟨es,clock,h1,aw⟩:=h.eD D v X;exact⟨es,clock,by rw[O.block D ae (fo h1)];exact h1,aw⟩
    fK:=h.fK
    fB:=h.fB
    frame:=λD ax Q=>by
      have:D≠b:=λe=>by
        subst e;rcases az with q|q
        · omega
        · exact Q q
      rw[O.block D this (by have:=h.size;omega)];exact h.frame D ax Q
    size:=Nat.le_trans h.size O.size
    tape:=O.tape.trans h.tape
    os:=O.os.trans h.os
    output:=O.output.trans h.output
    drawn:=Nat.le_trans h.drawn O.drawn
    b5:=λx o u=>by
      by_cases F:x∈M
      · grind
      · rw[ai x F]at u
        have h1:=(h.b5 x o u).beta (β':=cV) (p:=news.contains) (λd Z=>am d (by simpa using Z)) (by simpa using λQ=>F (an x Q).1) (aB x o F u);exact h1.keep O rfl (by rw[ak x F];exact aC x F (by rw[u];rfl)) (bM.refl I) (λ_ _ _=>rfl) (en.refl cV)
    cA:=λx y u ab ae c ag af=>by
      by_cases F:x∈M
      · by_cases aa:y∈M
        · grind
        · obtain⟨z,Xa,Y1,ao⟩:=aq x F u c ag
          rw[ai y aa]at ab;rw[ak y aa]at af;exact h.cA z y Y1 ab (λe=>aa (e▸Xa)) c ao af
      · rw[ai x F]at u
        rw[ak x F]at ag;by_cases aa:y∈M
        · obtain⟨z,Xa,Y1,ao⟩:=aq y aa ab c af
          exact h.cA x z u Y1 (λe=>F (e▸Xa)) c ag ao
        · rw[ai y aa]at ab
          rw[ak y aa]at af;exact h.cA x y u ab ae c ag af
    keep:=λx u=>by
      have:x∉news:=λQ=>(an x Q).2 u;rw[am x this];exact h.keep x u}
def bG.rz(h:bG G cx I β σ w){σ2:W}{cV:Nat->Value}
  (O:∀x,x∉M->σ2.get x=σ.get x) (D:∀x,x∉news->cV x=β x) (Q:∀x∈news,x∈M/\x∉G.ids) (u:∀x o,x∉M->σ.get x=some o->ho news.contains o=false)
  (X:∀x∈M,∀o,σ2.get x=some o->bb cx I cV w x o)
  (F:∀x∈M,(σ2.get x).isSome->∀c∈b3 (cV x),∃y∈M,(σ.get y).isSome/\c∈b3 (β y))
  (aa:∀x∈M,∀y∈M,x≠y->(σ2.get x).isSome->(σ2.get y).isSome->∀c∈b3 (cV x),c∉b3 (cV y)):bG G cx I cV σ2 w:=
 h.redo (b:=w.heap.size) ⟨λ_ _ _=>rfl,Nat.le_refl _,rfl,rfl,rfl,Nat.le_refl _⟩ (λo=>h.fJ (Nat.le_refl _) o) (λx _ Y e=>by
  obtain⟨o,Y⟩:=Option.isSome_iff_exists.1 Y;exact absurd (h.k3 Y e) (by omega)) (.inl h.size) O D Q u X F aa
end redo
section rows
variable {cx:c2}{I:a2}{w:World}
def eH.length:∀{Tv:List dS} {Y:c4},eH cx I w Tv Y->Y.length=Tv.length
 |[],_,h=>by rw[show _=[]from h];rfl
 |x::r,_,h=>by obtain⟨au,D,rfl,_,_,u⟩:=h;simp[eH.length u]
def eH.get:∀{Tv:List dS} {Y:c4},eH cx I w Tv Y->∀{i:Nat} {x:dS},Tv[i]?=some x->∃v,Y[i]?=some v/\gp cx I w x v
 |[],_,_,i,x,u=>by simp at u
 |y::r,_,h,i,x,u=>by
  obtain⟨au,O,rfl,F,_,D⟩:=h;cases i with
  |zero=>simp at u;subst u;exact⟨au,rfl,F⟩
  |succ i=>simp at u ⊢;exact D.get u
def eH.ne:∀{Tv:List dS} {Y:c4},eH cx I w Tv Y->∀{i j:Nat} {au v:Value} {b:Nat},i≠j->Y[i]?=some au->Y[j]?=some v->bE au=some b->bE v≠some b
 |[],_,h,i,j,au,v,b,_,u,_,_=>by rw[show _=[]from h]at u;simp at u
 |y::r,_,h,i,j,au,v,b,Q,u,D,hu=>by
  obtain⟨z,aa,rfl,ab,O,X⟩:=h;cases i with
  |zero=>
   cases j with
   |zero=>exact absurd rfl Q
   |succ j=>
    simp at u D;subst u
    intro F;exact O b hu (List.mem_filterMap.2 ⟨v,List.mem_of_getElem? D,F⟩)
  |succ i=>
   cases j with
   |zero=>
    simp at u D;subst D
    intro F;exact O b F (List.mem_filterMap.2 ⟨au,List.mem_of_getElem? u,hu⟩)
   |succ j=>simp at u D;exact X.ne (λe=>Q (by rw[e])) u D hu
theorem eH.set:∀{Tv:List dS} {Y:c4},eH cx I w Tv Y->∀{i:Nat} {x:dS} {v:Value},gp cx I w x v->(∀j au b,j≠i->Y[j]?=some au->bE v=some b->bE au≠some b)->eH cx I w (Tv.set i x) (Y.set i v)
 |[],_,h,i,x,v,_,_=>by rw[show _=[]from h];simp[eH]
 |y::r,_,h,i,x,v,X,Z=>by
  obtain⟨z,aa,rfl,ae,af,ab⟩:=h;cases i with
  |zero=>
   refine⟨v,aa,rfl,X,λb D Q=>?_,ab⟩;obtain⟨au,u,O⟩:=List.mem_filterMap.1 Q;obtain⟨j,F⟩:=List.getElem?_of_mem u;exact Z (j+1) au b (by simp) (by simpa using F) D O
  |succ i=>
   refine⟨z,aa.set i v,rfl,ae,λb D Q=>?_,ab.set X λj au b F u D=>Z (j+1) au b (λe=>F (by simpa using e)) (by simpa using u) D⟩;obtain⟨au,u,O⟩:=List.mem_filterMap.1 Q;rcases List.mem_or_eq_of_mem_set u with u|rfl
   .grind
   .exact Z 0 z b (by simp) rfl O D
theorem eH.push:∀{Tv:List dS} {Y:c4},eH cx I w Tv Y->∀{x:dS} {v:Value},gp cx I w x v->(∀au b,au∈Y->bE v=some b->bE au≠some b)->eH cx I w (Tv++[x]) (Y++[v])
 |[],_,h,x,v,D,_=>by rw[show _=[]from h];exact⟨v,[],rfl,D,by simp,rfl⟩
 |y::r,_,h,x,v,D,Z=>by
  obtain⟨z,F,rfl,Q,aa,O⟩:=h;refine⟨z,F++[v],rfl,Q,λb ab X=>?_,O.push D λau b u=>Z au b (List.mem_cons_of_mem _ u)⟩;obtain⟨au,u,ae⟩:=List.mem_filterMap.1 X;rcases List.mem_append.1 u with u|u
  .grind
  .grind
def hX(vs:eN):b3 (.tuple vs)=vs.toList.filterMap bE:=rfl
theorem xe{a:c4}{i:Nat}{v:Value}{b:Nat}(c:b∈(a.set i v).filterMap bE):b∈a.filterMap bE\/bE v=some b:=by grind
def dS.obj:dS->b1
 |.sl T sz xs=>.slice T sz xs 0 false
 |.mp K E u=>.map K E u
def dS.empty:dS->dS
 |.sl T sz _=>.sl T sz []
 |.mp _ _ _=>.sl 0 0 []
def dS.LP(x:dS):gp cx I w x.empty (.slice none 0 0):=by cases x<;>exact .inl ⟨rfl,rfl⟩
theorem gp.obj{x:dS}{v:Value}{β:Nat->Value}{d:Nat}(h:gp cx I w x v)(Z:β d=v):bb cx I β w d x.obj:=by
 cases x with
 |sl T sz xs=>
  simp only[dS.obj,bb,Z];rcases h with⟨h,rfl⟩|⟨b,aR,arr,X,u,O,D,F,Q,aa,ab,ae⟩
  .grind
  .grind
 |mp K E af=>
  simp only[dS.obj,bb,Z];obtain⟨r,es,clock,X,u,O,D,F,Q⟩:=h;exact .inr ⟨r,es,clock,X,u,O,D,F,Q⟩
def avm{T sz:Nat}{xs:List (List U)}{bK:Bool}{β:Nat->Value}{d:Nat}(a:bb cx I β w d (.slice T sz xs 0 bK))(k:β d≠.nilFunc):gp cx I w (.sl T sz xs) (β d):=by
 simp only[bb]at a;rcases a with a|⟨a,rfl,_⟩|⟨m,aR,l,n,b,f,c,e,h,g,_,_,i,j⟩
 .exact absurd a k
 .exact .inl ⟨a,rfl⟩
 .exact .inr ⟨m,aR,l,n,b,f,c,e,h,g,λo=>i o (by omega),j⟩
def gp.ne{x:dS}{v:Value}(h:gp cx I w x v):v≠.nilFunc/\(fA v=true\/hd v=true):=by
 cases x with
 |sl T sz xs=>
  rcases h with⟨h,_⟩|⟨b,aR,arr,u,_⟩
  .rw[h];simp[fA]
  .rw[u];simp[fA]
 |mp K E D=>obtain⟨r,es,clock,u,_⟩:=h;rw[u];simp[hd]
def gp.tH{x:dS}{v:Value}(h:gp cx I w x v){b:Nat}(u:b∈b3 v):bE v=some b:=by
 cases v with
 |tuple vs=>
  have:=h.ne.2;simp[fA,hd]at this
 |_=>simpa [b3]using u
end rows
def b1.nK(e2:Nat)(u:Option (fV×Nat)):b1->b1
 |.cF T _ n _=>.cF T e2 n u
 |.dB K E _ keys _ D=>.dB K E e2 keys u D
 |o=>o
def b1.n4:b1->Option (Nat×Option (fV×Nat))
 |.cF _ e _ h=>some (e,h)
 |.dB _ _ e _ h _=>some (e,h)
 |_=>none
def bb.outer{cx:c2}{I:a2}{β:Nat->Value}{w:World}{d:Nat}{o:b1}{e:Nat}{aa:Option (fV×Nat)}(u:o.n4=some (e,aa))(h:bb cx I β w d o):
  β d=.nilFunc\/∃Y X,β e=.tuple Y/\kH β Y.toList X aa/\∃b,bE (β d)=some b:=by
 cases o<;>simp only[b1.n4,Option.some.injEq,Prod.mk.injEq]at u<;>first|(cases u;done)|skip
 .obtain⟨rfl,rfl⟩:=u;simp only[bb]at h;rcases h with q|⟨b,aR,arr,Y,D,ae,F,O,af,Q,ag,ab,ak,ai⟩
  .exact .inl q
  .exact .inr ⟨Y,_,Q,ab,b,by rw[D];rfl⟩
 .obtain⟨rfl,rfl⟩:=u;simp only[bb]at h;rcases h with q|⟨r,es,clock,Y,X,D,ae,F,O,af,Q,ag,ab⟩
  .exact .inl q
  .exact .inr ⟨Y,_,F,O,r,by rw[D];rfl⟩
theorem bb.Fg{cx:c2}{I:a2}{β cV:Nat->Value}{w:World}{d:Nat}{o:b1}{e e2:Nat}{O D:Option (fV×Nat)}{Y c0:eN}(u:o.n4=some (e,O))(h:bb cx I β w d o)(Z:cV d=β d)
  (ab:β e=.tuple Y) (X:cV e2=.tuple c0) (aa:c0.size=Y.size) (Q:∀F,kH β Y.toList F O->kH cV c0.toList F D):bb cx I cV w d (o.nK e2 D):=by
 cases o<;>simp only[b1.n4,Option.some.injEq,Prod.mk.injEq]at u<;>first|(cases u;done)|skip
 .obtain⟨rfl,rfl⟩:=u;simp only[bb,b1.nK,Z]at h ⊢
  grind
 .obtain⟨rfl,rfl⟩:=u;simp only[bb,b1.nK,Z]at h ⊢
  grind
section take
variable {G:bQ}{cx:c2}{I:a2}{β:Nat->Value}{σ:W}{w:World}
def pK(σ:W)(d e e2 t:Nat)(YG:b1)(Tv:List dS)(i:Nat)(x:dS):W:=(t,x.obj)::(e2,.bp (Tv.set i x.empty))::(d,YG.nK e2 (some (some i,t)))::σ.minus [d,e]
variable {M:cg}{SC aby:b1}
def n5{σ:W}{a b c:Nat}{d:b1}(x:Nat):W.get ((a,aby)::(b,SC)::(c,d)::σ.minus M) x=if a=x then some aby else if b=x then some SC else if c=x then some d else if x∈M then none else σ.get x:=by
 rw[auU,auU,auU,avc]
def jB{σ:W}{a b:Nat}(x:Nat):W.get ((a,aby)::(b,SC)::σ.minus M) x=if a=x then some aby else if b=x then some SC else if x∈M then none else σ.get x:=by
 rw[auU,auU,avc]
variable {Tv:List dS}{YG:b1}
theorem bG.take(h:bG G cx I β σ w){d e e2 t i:Nat}{x:dS}(Z:σ.get d=some YG)(ak:YG.n4=some (e,none))(aa:σ.get e=some (.bp Tv))(aB:Tv[i]?=some x)(aD:β d≠.nilFunc)
  (aC:σ.get t=none) (aI:σ.get e2=none) (aS:t≠e2) (a6:t∉G.ids) (a3:e2∉G.ids) (aE:σ.clean [t,e2].contains=true) :
  ∃Y:eN,β e=.tuple Y/\∃v,Y[i]?=some v/\gp cx I w x v/\bG G cx I (λy=>if y=t then v else if y=e2 then .tuple (Y.setIfInBounds i (.slice none 0 0))else β y) (pK σ d e e2 t YG Tv i x) w:=by
 rcases(h.b5 d YG Z).outer ak with q|⟨Y,ao,Q,aX,bd,aW⟩
 .exact absurd q aD
 have aw:=h.b5 e _ aa;simp only[bb,Q,Value.tuple.injEq,reduceCtorEq,false_or]at aw;obtain⟨aY,rfl,ai⟩:=aw;obtain⟨v,ab,ae⟩:=ai.get aB;refine⟨Y,Q,v,by simpa using ab,ae,?_⟩;have aq:∀y,(σ.get y).isSome->y≠t/\y≠e2:=λy D=>⟨λe=>(by subst e;rw[aC]at D;cases D),λe=>(by subst e;rw[aI]at D;cases D)⟩;have ax:=aq d (by rw[Z];rfl);have a7:=aq e (by rw[aa];rfl);have gn:d≠e:=λX=>by subst X;rw[Z]at aa;cases aa;cases ak
 have aR:i<Y.toList.length:=(List.getElem?_eq_some_iff.1 ab).1
 let cV:Nat->Value:=λy=>if y=t then v else if y=e2 then .tuple (Y.setIfInBounds i (.slice none 0 0))else β y
 have af:cV t=v:=by show(if _ then _ else _)=_;rw[if_pos rfl]
 have ag:cV e2=.tuple (Y.setIfInBounds i (.slice none 0 0)):=by show(if _ then _ else _)=_;rw[if_neg (Ne.symm aS),if_pos rfl]
 have aM:cV d=β d:=by show(if _ then _ else _)=_;rw[if_neg ax.1,if_neg ax.2]
 have eZ:(Y.setIfInBounds i (.slice none 0 0)).toList=Y.toList.set i (.slice none 0 0):=by simp
 refine h.rz (M:=[d,e,e2,t]) (news:=[t,e2]) (cV:=cV) (λy D=>?_) (λy D=>?_) (λy D=>?_) (λy o _ F=>(au8 aE y o F).2) (λy D o F=>?_) (λy D c0 c u=>?_) (λy D z hz a0 dM c0 c u ar=>?_)
 .simp only[List.mem_cons,List.not_mem_nil,or_false,not_or]at D;rw[pK,n5,if_neg (Ne.symm D.2.2.2),if_neg (Ne.symm D.2.2.1),if_neg (Ne.symm D.1),if_neg (by simp[D.1,D.2.1])]
 .grind
 .grind
 .rw[pK,n5]at F;split at F
  .rename_i X;subst X;cases F;exact ae.obj af
  .split at F
   .rename_i X;subst X;cases F
    simp only[bb];refine .inr ⟨_,ag,?_⟩;rw[eZ];exact ai.set x.LP λj au b _ _ aF=>by cases aF
   .split at F
    .rename_i X;subst X;cases F
     refine(h.b5 d YG Z).Fg ak aM Q ag (by simp) λao aG=>?_;rw[show ao=Y.toList from aG,eZ];refine⟨by simpa using aR,by rw[af];exact ae.ne.1,?_⟩;rw[af,List.set_set];apply List.ext_getElem?
     grind
    .grind
 .simp only[List.mem_cons,List.not_mem_nil,or_false]at D;rw[pK,n5]at c0;by_cases a4:y=d
  .grind
  by_cases aU:y=t
  .subst aU;rw[af]at u;exact⟨e,by simp,by rw[aa];rfl,by rw[Q,hX];exact List.mem_filterMap.2 ⟨v,List.mem_of_getElem? ab,ae.tH u⟩⟩
  by_cases aV:y=e2
  .subst aV;rw[ag,hX,eZ]at u;rcases xe u with u|u
   .exact⟨e,by simp,by rw[aa];rfl,by rw[Q,hX];exact u⟩
   .cases u
  .grind
 ·
  have a1:∀y,y∈[d,e,e2,t]->(W.get (pK σ d e e2 t YG Tv i x) y).isSome->y=d\/y=e2\/y=t:=λy D c0=>by
   rw[pK,n5]at c0;simp only[List.mem_cons,List.not_mem_nil,or_false]at D;rcases D with rfl|rfl|rfl|rfl
   .exact .inl rfl
   .grind
   .omega
   .omega
  have a5:∀c,c∈b3 (β d)->c∉b3 (β e):=h.cA d e (by rw[Z];rfl) (by rw[aa];rfl) gn
  have az:∀c,c∈b3 (cV e2)->∃j au,j≠i/\Y.toList[j]?=some au/\bE au=some c:=λc u=>by
   rw[ag,hX,eZ]at u;obtain⟨au,an,am⟩:=List.mem_filterMap.1 u;obtain⟨j,O⟩:=List.getElem?_of_mem an;rw[List.getElem?_set]at O;split at O
   .rename_i aZ;cases O;cases am
   .grind
  have a9:∀c,c∈b3 (cV e2)->c∈b3 (β e):=λc u=>by
   obtain⟨j,au,_,O,an⟩:=az c u;rw[Q,hX];exact List.mem_filterMap.2 ⟨au,List.mem_of_getElem? O,an⟩
  have aA:∀c,c∈b3 (cV t)->bE v=some c:=λc u=>by rw[af]at u;exact ae.tH u
  have ba:∀c,c∈b3 (cV t)->c∈b3 (β e):=λc u=>by
   rw[Q,hX];exact List.mem_filterMap.2 ⟨v,List.mem_of_getElem? ab,aA c u⟩
  have a8:∀c,c∈b3 (cV e2)->c∈b3 (cV t)->False:=λc u ar=>by
   obtain⟨j,au,O,aT,am⟩:=az c u;exact ai.ne O aT ab am (aA c ar)
  grind
theorem bG.back(h:bG G cx I β σ w){d e e2 t i:Nat}{T sz:Nat}{xs:List (List U)}{bK:Bool}(Z:σ.get d=some YG)(Q:YG.n4=some (e,some (some i,t)))(O:σ.get e=some (.bp Tv))
  (F:σ.get t=some (.slice T sz xs 0 bK)) (az:σ.get e2=none) (aB:e2∉G.ids) (aw:σ.clean [e2].contains=true) :
  ∃cV,(∀y,y≠e2->cV y=β y)/\bG G cx I cV ((e2,.bp (Tv.set i (.sl T sz xs)))::(d,YG.nK e2 none)::σ.minus [d,e,t]) w:=by
 have ai:∀y,(σ.get y).isSome->y≠e2:=λy u e=>by subst e;rw[az]at u;cases u
 have ao:=ai d (by rw[Z];rfl);have aZ:=ai e (by rw[O];rfl);have a1:=ai t (by rw[F];rfl);have gn:d≠e:=λX=>by subst X;rw[Z]at O;cases O;cases Q
 have aG:d≠t:=λX=>by subst X;rw[Z]at F;cases F;cases Q
 have aI:e≠t:=λX=>by subst X;rw[O]at F;cases F
 have aC:∃au:Value,(YG.n4=some (e,some (some i,t))->∀cV:Nat->Value,(∀y,y≠e2->cV y=β y)->cV e2=au->bb cx I cV w d (YG.nK e2 none)/\bb cx I cV w e2 (.bp (Tv.set i (.sl T sz xs))))/\∀c∈b3 au,c∈b3 (β e)\/c∈b3 (β t):=by
  rcases(h.b5 d YG Z).outer Q with q|⟨Y,aU,ae,⟨aT,aM,a3⟩,bd,aS⟩
  .refine⟨.nilFunc,λ_ cV aq ab=>⟨?_,by simp only[bb];exact .inl ab⟩,by simp[Bv]⟩;have:cV d=.nilFunc:=by rw[aq d ao];exact q
   cases YG<;>simp only[b1.n4,reduceCtorEq]at Q<;>simp only[b1.nK,bb]<;>exact .inl this
  .have ag:=h.b5 e _ O;simp only[bb,ae,Value.tuple.injEq,reduceCtorEq,false_or]at ag;obtain⟨aW,rfl,ar⟩:=ag;have ax:=avm (h.b5 t _ F) aM;refine⟨.tuple (Y.setIfInBounds i (β t)),λ_ cV aq ab=>⟨?_,?_⟩,λc D=>?_⟩
   .refine(h.b5 d YG Z).Fg Q (aq d ao) ae ab (by simp) λaF am=>?_;obtain⟨_,_,am⟩:=am;show aF=_;rw[am];simp
   .simp only[bb];refine .inr ⟨_,ab,?_⟩;rw[show(Y.setIfInBounds i (β t)).toList=Y.toList.set i (β t)by simp];refine ar.set ax λj au b aR aD aE ag=>?_;refine h.cA e t (by rw[O];rfl) (by rw[F];rfl) aI b ?_ (gv aE);rw[ae,hX];exact List.mem_filterMap.2 ⟨au,List.mem_of_getElem? aD,ag⟩
   .rw[hX,show(Y.setIfInBounds i (β t)).toList=Y.toList.set i (β t)by simp]at D;rcases xe D with D|D
    .exact .inl (by rw[ae,hX];exact D)
    .exact .inr (gv D)
 obtain⟨au,m1,m2⟩:=aC;have aa:∀y,y≠e2->(λy=>if y=e2 then au else β y) y=β y:=λy u=>if_neg u;have an:(λy=>if y=e2 then au else β y) e2=au:=if_pos rfl;refine⟨λy=>if y=e2 then au else β y,aa,?_⟩;generalize (λy=>if y=e2 then au else β y)=cV at aa an;obtain⟨aX,aV⟩:=m1 Q cV aa an
 have aA:∀y,y∈[d,e,e2,t]->(W.get ((e2,.bp (Tv.set i (.sl T sz xs)))::(d,YG.nK e2 none)::σ.minus [d,e,t]) y).isSome->y=d\/y=e2:=λy u c0=>by
  rw[jB]at c0;simp only[List.mem_cons,List.not_mem_nil,or_false]at u;rcases u with rfl|rfl|rfl|rfl
  .exact .inl rfl
  .grind
  .exact .inr rfl
  .grind
 have a0:∀c,c∈b3 (cV d)->c∉b3 (cV e2):=λc D ak=>by
  rw[aa d ao]at D;rw[an]at ak;rcases m2 c ak with q|q
  .exact h.cA d e (by rw[Z];rfl) (by rw[O];rfl) gn c D q
  .exact h.cA d t (by rw[Z];rfl) (by rw[F];rfl) aG c D q
 refine h.rz (M:=[d,e,e2,t]) (news:=[e2]) (cV:=cV) (λy u=>?_) (λy u=>aa y (by simpa using u)) (λy u=>by simp only[List.mem_singleton]at u;subst u;exact⟨by simp,aB⟩) (λy o _ af=>(au8 aw y o af).2) (λy u o af=>?_) (λy u c0 c D=>?_) (λy u z hz aY dM c0 c D ak=>?_)
 .simp only[List.mem_cons,List.not_mem_nil,or_false,not_or]at u;rw[jB,if_neg (Ne.symm u.2.2.1),if_neg (Ne.symm u.1),if_neg (by simp[u.1,u.2.1,u.2.2.2])]
 .have:=aA y u (by rw[af];rfl);rw[jB]at af
  grind
 .grind
 .grind
end take
end
section
def dc{α:Type}(k:IntKind)(l:List (Int×α)):List U:=l.map λa=>.int k a.1
def ek{α:Type}(T:TypeId)(sz:Nat)(enc:α->List U)(l:List (Int×List α)):List dS:=l.map λa=>.sl T sz (a.2.map enc)
def e8{α:Type}:List (Int×α)->Int->Nat
 |[],_=>0
 |p::r,n=>if p.1=n then 0 else e8 r n+1
def gI{α:Type}:List (Int×List α)->Int->List (Int×List α)
 |[],_=>[]
 |p::r,n=>if p.1=n then(p.1,[])::r else p::gI r n
def hL{α:Type}(l:List (Int×α))(n:Int)(t:Nat):Option (fV×Nat):=some (bif (ay l n).isSome then some (e8 l n)else none,t)
variable {α:Type}
def fP(p:Int×α)(r:List (Int×α))(n:Int):ay (p::r) n=if p.1=n then some p.2 else ay r n:=by
 by_cases a:p.1=n<;>simp[ay,List.find?,a]
def C9{α:Type}:∀{l:List (Int×List α)} {n:Int},ay l n=none->gI l n=l
 |[],_,_=>rfl
 |p::r,n,h=>by
  rw[fP]at h;split at h
  .cases h
  .rename_i a;simp only[gI,if_neg a,C9 h]
def DT{α:Type}:∀(l:List (Int×List α)) (n:Int) (v:List α),bc (gI l n) n v=bc l n v
 |[],_,_=>rfl
 |p::r,n,v=>by
  by_cases a:p.1=n
  .simp[gI,bc,a]
  .simp[gI,bc,a,DT r n v]
def Da{α:Type}(k:IntKind):∀(l:List (Int×List α)) (n:Int),dc k (gI l n)=dc k l
 |[],_=>rfl
 |p::r,n=>by
  by_cases a:p.1=n
  .simp[gI,a,dc]
  .have:=Da k r n;simp only[dc]at this;simp[gI,a,dc,this]
def Db{α:Type}:∀(l:List (Int×List α)) (n:Int),(ay (gI l n) n).isSome=(ay l n).isSome
 |[],_=>rfl
 |p::r,n=>by
  by_cases a:p.1=n
  .simp[gI,a,fP]
  .simp[gI,a,fP,Db r n]
def DU{α:Type}:∀(l:List (Int×List α)) (n:Int),e8 (gI l n) n=e8 l n
 |[],_=>rfl
 |p::r,n=>by
  by_cases a:p.1=n
  .simp[gI,a,e8]
  .simp[gI,a,e8,DU r n]
def Jm(l:List (Int×List α))(n:Int)(t:Nat):hL (gI l n) n t=hL l n t:=by simp[hL,Db,DU]
def yW{α:Type}:∀{l:List (Int×α)} {n:Int} {a:α},ay l n=some a->∃m,m=n/\l[e8 l n]?=some (m,a)
 |[],_,_,h=>by simp[ay]at h
 |p::r,n,a,h=>by
  rw[fP]at h;split at h
  .rename_i b;cases h;exact⟨p.1,b,by simp only[e8,if_pos b];rfl⟩
  .rename_i b;obtain⟨m,d,c⟩:=yW h;exact⟨m,d,by simp[e8,b,c]⟩
def tv{α:Type}:∀{l:List (Int×α)} {n:Int} {a:α} (v:α),ay l n=some a->bc l n v=l.set (e8 l n) (n,v)
 |[],_,_,_,h=>by simp[ay]at h
 |p::r,n,a,v,h=>by
  rw[fP]at h;split at h
  .rename_i b;simp[bc,e8,b]
  .rename_i b;simp[bc,e8,b,tv v h]
def BR{α:Type}:∀{l:List (Int×α)} {n:Int} (v:α),ay l n=none->bc l n v=l++[(n,v)]
 |[],_,_,_=>rfl
 |p::r,n,v,h=>by
  rw[fP]at h;split at h
  .cases h
  .rename_i a;simp[bc,a,BR v h]
def BS{α:Type}:∀{l:List (Int×List α)} {n:Int} {a:List α},ay l n=some a->gI l n=l.set (e8 l n) (n,[])
 |[],_,_,h=>by simp[ay]at h
 |p::r,n,a,h=>by
  rw[fP]at h;split at h
  .rename_i b;simp[gI,e8,b]
  .rename_i b;simp[gI,e8,b,BS h]
def xT{T:TypeId}{sz:Nat}{enc:α->List U}(l:List (Int×List α))(i:Nat)(n:Int)(v:List α):ek T sz enc (l.set i (n,v))=(ek T sz enc l).set i (.sl T sz (v.map enc)):=by simp[ek,List.map_set]
theorem DV{k:IntKind}{l:List (Int×α)}{n:Int}{a:α}(v:α)(b:ay l n=some a):dc k (l.set (e8 l n) (n,v))=dc k l:=by
 obtain⟨d,rfl,c⟩:=yW b;simp only[dc,List.map_set];apply List.ext_getElem?
 grind
theorem BG{I:a2}{α:Type}{k:IntKind}(n:Int):∀(l:List (Int×α)) (vs:c4) (es:iw) (i:Nat) (a:α),gE I (dc k l) vs es->ay l n=some a->
  ∃v e,vs[e8 l n]?=some v/\es[e8 l n]?=some e/\e.key=.int k n/\Instr.findNow (.int k) (.int k n) es i=some (some (i+e8 l n,v))/\
   ∀(d:Value) (c:MapEntry->MapEntry),(∀e,(c e).key=.int k n/\(c e).val=d)->gE I (dc k l) (vs.set (e8 l n) d) (es.modify (e8 l n) c)
 |[],vs,es,i,a,h,f=>by simp[ay]at f
 |(m,b)::r,vs,es,i,a,h,f=>by
  simp only[dc,List.map_cons,gE]at h;obtain⟨v,p,e,t,rfl,rfl,g,q,s⟩:=h;simp only[aN]at g;rw[fP]at f;by_cases o:m=n
  .subst o;simp only[e8,if_true];refine⟨v,e,rfl,rfl,g,by simp[Instr.findNow,Instr.sameNow,g,q],λd c j=>?_⟩;simp only[dc,List.map_cons,List.set_cons_zero,List.modify_zero_cons,gE];exact⟨d,p,c e,t,rfl,rfl,by simp only[aN];exact(j e).1,(j e).2,s⟩
  .rw[if_neg o]at f;obtain⟨y,z,w,x,u,B,A⟩:=BG n r p t (i+1) a s f;simp only[e8,if_neg o];refine⟨y,z,by simpa using w,by simpa using x,u,?_,λd c j=>?_⟩
   .simp only[Instr.findNow,Instr.sameNow,g,if_pos]
    grind
   .simp only[dc,List.map_cons,List.set_cons_succ,List.modify_succ_cons,gE];exact⟨v,_,e,_,rfl,rfl,by simp only[aN];exact g,q,A d c j⟩
theorem BH{I:a2}{α:Type}{k:IntKind}(n:Int):∀(l:List (Int×α)) (vs:c4) (es:iw) (i:Nat),gE I (dc k l) vs es->ay l n=none->
  Instr.findNow (.int k) (.int k n) es i=some none/\∀(b:α) (e:MapEntry),e.key=.int k n->gE I (dc k (l++[(n,b)])) (vs++[e.val]) (es++[e])
 |[],vs,es,i,h,a=>by
  simp only[dc,List.map_nil,gE]at h;obtain⟨rfl,rfl⟩:=h;refine⟨rfl,λb e f=>?_⟩;simp only[List.nil_append,dc,List.map_cons,List.map_nil,gE];exact⟨e.val,[],e,[],rfl,rfl,by simp only[aN];exact f,rfl,rfl,rfl⟩
 |(m,c)::r,vs,es,i,h,a=>by
  simp only[dc,List.map_cons,gE]at h;obtain⟨u,j,e,t,rfl,rfl,d,o,p⟩:=h;simp only[aN]at d;rw[fP]at a;have g:m≠n:=λg=>by rw[if_pos g]at a;cases a
  rw[if_neg g]at a;obtain⟨v,q⟩:=BH n r j t (i+1) p a;refine⟨?_,λb s f=>?_⟩
  .simp only[Instr.findNow,Instr.sameNow,d,if_pos]
   grind
  .have:=q b s f;simp only[dc]at this;simp only[dc,List.cons_append,List.map_cons,gE];exact⟨u,_,e,_,rfl,rfl,by simp only[aN];exact d,o,this⟩
def gE.length{I:a2}:∀{ks:List U} {vs:c4} {es:iw},gE I ks vs es->vs.length=ks.length/\es.length=ks.length
 |[],_,_,h=>by obtain⟨rfl,rfl⟩:=h;exact⟨rfl,rfl⟩
 |k::ks,_,_,h=>by
  obtain⟨v,D,e,fs,rfl,rfl,_,_,u⟩:=h;have:=u.length;simp[this.1,this.2]
section
variable {G:bQ}{σ:W}{o:Oper}{ev:Operand->U}
theorem axr{α:Type}{X:Option (dK×Nat)}{T K E d e e2 t aM sz:Nat}{k:IntKind}{x y:Operand}{n:Int}(l:List (Int×List α))(enc:α->List U)(N:o.op=.lookup T x y false)(h:ev x=.cc d)(b:ev y=.int k n)
  (u:σ.get d=some (.dB K E e (dc k l) none X)) (q:σ.get e=some (.bp (ek aM sz enc l))) (aa:gi G.P T K E k) (ae:∀w,(zeroValue E).run G.P w=.ok (.slice none 0 0) w)
  (af:σ.get t=none) (aC:σ.get e2=none) (ab:t≠e2) (bc:G.ids.contains t=false) (a8:G.ids.contains e2=false) (aB:σ.clean [t,e2].contains=true) :
  eL G o ev σ [d,e,e2,t] [t,e2] (λr aY=>r=.own t/\aY=(t,.slice aM sz (((ay l n).getD []).map enc) 0 false)::(e2,.bp (ek aM sz enc (gI l n)))::(d,.dB K E e2 (dc k l) (hL l n t) X)::σ.minus [d,e]):=by
 intro bs D g w ai B aU;have p:=aU x (by simp[N,Op.operands]);rw[h]at p
 have A:=aU y (by simp[N,Op.operands]);rw[b]at A;have A:=fW A
 simp only[az]at p;obtain⟨p,aD⟩:=p;have aA:g d≠.nilFunc:=λe=>by rw[p,e]at aD;simp[hd]at aD
 have aE:=B.b5 d _ u;simp only[bb,aA,false_or]at aE;obtain⟨r,z,bf,s,a0,O,am,ak,aW,F,aZ,a1,a4⟩:=aE;rw[show a0=s.toList from aW]at F;have aT:∀w,(underlying T).run G.P w=.ok (.map K E) w:=λw=>by simp[underlying,program,Sem.run,aa.ee]
 have aF:∀w,(underlying K).run G.P w=.ok (.int k) w:=λw=>by simp[underlying,program,Sem.run,aa.key]
 have aq:=l7 (P:=G.P) am;have ax:=qi (P:=G.P) aa.key (z.isEmpty) n w;have be:t∉G.ids:=by simpa using bc
 have ba:e2∉G.ids:=by simpa using a8
 have Y:∀x,x∉[d,e,e2,t]->∀(aG ag aI:b1),W.get ((t,aG)::(e2,ag)::(d,aI)::σ.minus [d,e]) x=σ.get x:=λx h aG ag aI=>by
  simp only[List.mem_cons,List.not_mem_nil,or_false,not_or]at h;rw[n5,if_neg (Ne.symm h.2.2.2),if_neg (Ne.symm h.2.2.1),if_neg (Ne.symm h.1),if_neg (by simp[h.1,h.2.1])]
 cases j:ay l n with
 |some a=>
  obtain⟨bg,an,ao,bj,bk,a7,_⟩:=BG n l s.toList z.toList 0 a F j;obtain⟨bv,bu,a9⟩:=yW j;have a5:(ek aM sz enc l)[e8 l n]?=some (.sl aM sz (a.map enc)):=by simp[ek,a9]
  obtain⟨c0,ar,H,bi,a3,a6⟩:=B.take u rfl q a5 aA af aC ab be ba aB;rw[ak]at ar;cases ar
  have aX:H=bg:=by grind
  subst aX;have S:(Instr.findKey K (.int k n) z.toList).run G.P w=.ok (some (0+e8 l n,H)) w:=by simp[Instr.findKey,aF,a7]
  have V:(execOp ai o).run G.P w=.ok (.value H) w:=by simp[execOp,N,Instr.lookup,p,O,A,aT,aq,ax,S]
  rw[V];refine⟨.own t,_,D,λy=>if y=t then H else if y=e2 then .tuple (s.setIfInBounds (e8 l n) (.slice none 0 0))else g y,⟨rfl,rfl⟩,?_,?_,bM.refl D,λy b=>?_,λy b=>Y y b _ _ _⟩
  .simp only[az,if_true];refine⟨trivial,?_⟩;rcases a3 with⟨aV,_⟩|⟨br,aR,bn,aV,_⟩<;>rw[aV]<;>rfl
  .have Q:hL l n t=some (some (e8 l n),t):=by simp[hL,j]
   rw[Q,BS j,xT];exact a6
  .grind
 |none=>
  obtain⟨ao,_⟩:=BH n l s.toList z.toList 0 F j;have S:(Instr.findKey K (.int k n) z.toList).run G.P w=.ok none w:=by simp[Instr.findKey,aF,ao]
  have V:(execOp ai o).run G.P w=.ok (.value (.slice none 0 0)) w:=by simp[execOp,N,Instr.lookup,p,O,A,aT,aq,ax,S,ae w]
  rw[V]
  let cV:Nat->Value:=λy=>if y=t then .slice none 0 0 else if y=e2 then g e else g y
  have m:cV t=.slice none 0 0:=by show(if _ then _ else _)=_;rw[if_pos rfl]
  have C:cV e2=g e:=by show(if _ then _ else _)=_;rw[if_neg (Ne.symm ab),if_pos rfl]
  have R:∀y,y∉[t,e2]->cV y=g y:=λy b=>by
   simp only[List.mem_cons,List.not_mem_nil,or_false,not_or]at b;show(if _ then _ else _)=_;rw[if_neg b.1,if_neg b.2]
  have aw:∀y,(σ.get y).isSome->y≠t/\y≠e2:=λy b=>⟨λe=>(by subst e;rw[af]at b;cases b),λe=>(by subst e;rw[aC]at b;cases b)⟩;have L:=aw d (by rw[u];rfl);have bl:=aw e (by rw[q];rfl);have gn:d≠e:=λan=>by subst an;rw[u]at q;cases q
  have J:cV d=g d:=R d (by simp[L.1,L.2]);have Q:hL l n t=some (none,t):=by simp[hL,j]
  refine⟨.own t,_,D,cV,⟨rfl,rfl⟩,by simp only[az,m,fA,and_self],?_,bM.refl D,R,λy b=>Y y b _ _ _⟩;rw[Q,C9 j];simp only[Option.getD_none,List.map_nil]
  have I:∀y,y∈[d,e,e2,t]->(W.get ((t,b1.slice aM sz [] 0 false)::(e2,.bp (ek aM sz enc l))::(d,.dB K E e2 (dc k l) (some (none,t)) X)::σ.minus [d,e]) y).isSome->y=d\/y=e2\/y=t:=λy b c0=>by
   rw[n5]at c0;simp only[List.mem_cons,List.not_mem_nil,or_false]at b;rcases b with rfl|rfl|rfl|rfl
   .exact .inl rfl
   .grind
   .omega
   .omega
  have aS:∀v,v∈b3 (g d)->v∉b3 (g e):=B.cA d e (by rw[u];rfl) (by rw[q];rfl) gn;refine B.rz (M:=[d,e,e2,t]) (news:=[t,e2]) (cV:=cV) (λy b=>Y y b _ _ _) R (λy b=>?_) (λy o _ f=>(au8 aB y o f).2) (λy b o f=>?_) (λy b c0 v c=>?_) (λy b bh ae Z dM c0 v c i=>?_)
  .grind
  .have:=I y b (by rw[f];rfl);rw[n5]at f;rcases this with rfl|rfl|rfl
   .rw[if_neg (Ne.symm L.1),if_neg (Ne.symm L.2),if_pos rfl]at f;cases f
    simp only[bb,J,C];exact .inr ⟨r,z,bf,s,s.toList,O,am,ak,rfl,F,aZ,a1,a4⟩
   .rw[if_neg ab,if_pos rfl]at f;cases f
    have:=B.b5 e _ q;simp only[bb,C]at this ⊢;exact this
   .rw[if_pos rfl]at f;cases f
    simp only[bb,m];exact .inr (.inl ⟨trivial,trivial,trivial⟩)
  .rcases I y b c0 with rfl|rfl|rfl
   .rw[J]at c;exact⟨y,by simp,by rw[u];rfl,c⟩
   .rw[C]at c;exact⟨e,by simp,by rw[q];rfl,c⟩
   .rw[m]at c;cases c
  .rcases I y b dM with rfl|rfl|rfl<;>rcases I bh ae c0 with rfl|rfl|rfl
   .exact Z rfl
   .rw[J]at c;rw[C]at i;exact aS v c i
   .rw[m]at i;cases i
   .rw[J]at i;rw[C]at c;exact aS v i c
   .exact Z rfl
   .rw[m]at i;cases i
   .rw[m]at c;cases c
   .rw[m]at c;cases c
   .exact Z rfl
end
end
section
section put
variable {G:bQ}{cx:c2}{I:a2}{β:Nat->Value}{σ:W}{w:World}
theorem bG.N9(h:bG G cx I β σ w){d e e2 r K E ao:Nat}{keys ae:List U}{aY:Option (fV×Nat)}{a1:Option (dK×Nat)}{aW ab:List dS}{O:cg}{F:eN}{ag:dK}{w':World}
  (Z:σ.get d=some (.dB K E e keys aY a1)) (aB:σ.get e=some (.bp aW)) (ai:β d=.map (some r)) (a3:σ.get e2=none) (bf:e2∉G.ids) (a0:σ.clean [e2].contains=true) (a6:d∉O)
  (aR:dW w w' r) (aZ:w'.heap[r]?=some (.map ag ao)) (aS:eH cx I w ab F.toList) (a5:gE I ae F.toList ag.toList) (aV:fM ag ao)
  (aE:∀c∈F.toList.filterMap bE,c∈b3 (β e)\/∃y∈O,(σ.get y).isSome/\c∈b3 (β y)) :
  bG G cx I (λy=>if y=e2 then .tuple F else β y) ((e2,.bp ab)::(d,.dB K E e2 ae none none)::σ.minus (d::e::O)) w':=by
 have aI:=h.b5 d _ Z;simp only[bb,ai,reduceCtorEq,false_or]at aI;obtain⟨bg,es,clock,Y,ba,aT,a9,a7,a8,bc,aC,aD,be,_⟩:=aI;cases aT;have X:(σ.get d).isSome:=by rw[Z];rfl
 have fU:(σ.get e).isSome:=by rw[aB];rfl
 have aX:∀y,(σ.get y).isSome->y≠e2:=λy u e=>by subst e;rw[a3]at u;cases u
 have gn:d≠e:=λak=>by subst ak;rw[Z]at aB;cases aB
 have aA:r∈b3 (β d):=gv (by rw[ai];rfl)
 have je:∀c∈F.toList.filterMap bE,c≠r:=λc D e=>by
  subst e;rcases aE c D with q|⟨y,aq,ax,az⟩
  .exact h.cA d e X fU gn c aA q
  .exact h.cA d y X ax (λe=>a6 (e▸aq)) c aA az
 have am:∀y,y≠e2->(λy=>if y=e2 then(Value.tuple F)else β y) y=β y:=λy u=>if_neg u;have aa:(λy=>if y=e2 then(Value.tuple F)else β y) e2=.tuple F:=if_pos rfl;generalize (λy=>if y=e2 then(Value.tuple F)else β y)=cV at am aa;have ar:cV d=β d:=am d (aX d X)
 have aG:∀y,y∈d::e::e2::O->∀o,(W.get ((e2,.bp ab)::(d,.dB K E e2 ae none none)::σ.minus (d::e::O)) y)=some o->(y=d/\o=.dB K E e2 ae none none)\/(y=e2/\o=.bp ab):=λy u o af=>by
  rw[jB]at af;split at af
  .grind
  .grind
 have aw:∀y,y∈d::e::e2::O->(W.get ((e2,.bp ab)::(d,.dB K E e2 ae none none)::σ.minus (d::e::O)) y).isSome->y=d\/y=e2:=λy u Y=>by
  obtain⟨o,af⟩:=Option.isSome_iff_exists.1 Y;rcases aG y u o af with q|q
  .exact .inl q.1
  .exact .inr q.1
 have a4:∀c,c∈b3 (cV e2)->c∈b3 (β e)\/∃y∈O,(σ.get y).isSome/\c∈b3 (β y):=λc D=>aE c (by rw[aa]at D;exact D)
 have aM:∀c,c∈b3 (cV d)->c∉b3 (cV e2):=λc D Q=>by
  rw[ar,ai]at D;have:c=r:=by simpa [b3,bE]using D
  exact je c (by rw[aa]at Q;exact Q) this
 refine h.redo (M:=d::e::e2::O) (news:=[e2]) (b:=r) (cV:=cV) aR aC (λy u Y ak=>?_) aD (λy u=>?_) (λy u=>am y (by simpa using u)) (λy u=>?_) (λy o _ an=>(au8 a0 y o an).2) (λy u o an=>?_) (λy u c0 c D=>?_) (λy u z hz aF dM c0 c D Q=>?_)
 .exact h.cA d y X Y (λe=>u (by simp[e])) r aA ak
 .simp only[List.mem_cons,not_or]at u;rw[jB,if_neg (Ne.symm u.2.2.1),if_neg (Ne.symm u.1),if_neg (by simp[u.1,u.2.1,u.2.2.2])]
 .grind
 .rcases aG y u o an with⟨rfl,rfl⟩|⟨rfl,rfl⟩
  .simp only[bb,ar,ai,aa];exact .inr ⟨r,ag,ao,F,F.toList,rfl,aZ,rfl,rfl,a5,aC,aD,aV,by simp⟩
  .simp only[bb];exact .inr ⟨F,aa,aS.go (bM.refl I) λc D=>⟨λaU=>aR.block c (je c D) aU,λ_=>rfl,id⟩⟩
 .rcases aw y u c0 with rfl|rfl
  .rw[ar]at D;exact⟨y,by simp,X,D⟩
  .rcases a4 c D with q|⟨y,aq,ax,az⟩
   .exact⟨e,by simp,fU,q⟩
   .exact⟨y,by simp[aq],ax,az⟩
 .rcases aw y u dM with rfl|rfl<;>rcases aw z hz c0 with rfl|rfl
  .exact aF rfl
  .exact aM c D Q
  .exact aM c Q D
  .exact aF rfl
end put
section
variable {G:bQ}{σ:W}{o:Oper}{ev:Operand->U}
theorem av5{α:Type}{T K E d e e2 aM sz:Nat}{k:IntKind}{x y z:Operand}{n:Int}{bK:Bool}{bi:Option (dK×Nat)}{ae:Option (fV×Nat)}(q:cg)(l:List (Int×List α))(enc:α->List U)(row:List α)(g:o.op=.mapUpdate T x y z\/o.op=.insert T x y z)(a5:ev x=.cc d)(h:ev y=.int k n)
  (M:(ev z=.bC/\row=[]/\q=[])\/∃j,ev z=.own j/\σ.get j=some (.slice aM sz (row.map enc) 0 bK)/\q=[j])
  (aU:σ.get d=some (.dB K E e (dc k l) ae bi)) (aE:ae=none\/∃t,ae=hL l n t) (aw:σ.get e=some (.bp (ek aM sz enc l))) (ao:gi G.P T K E k)
  (bj:σ.get e2=none) (bk:G.ids.contains e2=false) (bf:σ.clean [e2].contains=true) :
  eL G o ev σ (d::e::e2::q) [e2] (λr H=>r=.undef/\H=(e2,.bp (ek aM sz enc (bc l n row)))::(d,.dB K E e2 (dc k (bc l n row)) none none)::σ.minus (d::e::q)):=by
 intro cx I β w b F ax;have ai:x∈o.op.operands/\y∈o.op.operands/\z∈o.op.operands:=by rcases g with g|g<;>simp[g,Op.operands]
 have C:=ax x ai.1;rw[a5]at C
 have D:=ax y ai.2.1;rw[h]at D;have D:=fW D
 have p:=ax z ai.2.2;simp only[az]at C;obtain⟨C,aV⟩:=C;have be:β d≠.nilFunc:=λe=>by rw[C,e]at aV;simp[hd]at aV
 have aX:=F.b5 d _ aU;simp only[bb,be,false_or]at aX;obtain⟨r,B,S,i,O,Y,Z,X,s,aa,bP,bV,aI,_⟩:=aX;have R:=F.b5 e _ aw;simp only[bb,X,Value.tuple.injEq,reduceCtorEq,false_or]at R;obtain⟨bT,rfl,aD⟩:=R;have a6:gp cx I w (.sl aM sz (row.map enc)) (b z)/\(∀f,bE (b z)=some f->∃y∈q,(σ.get y).isSome/\f∈b3 (β y))/\d∉q/\e∉q:=by
  rcases M with⟨M,rfl,rfl⟩|⟨j,M,aC,rfl⟩
  .rw[M]at p;simp only[az,aN]at p;rw[p];exact⟨Or.inl ⟨rfl,rfl⟩,λf (c:none=some f)=>(by cases c),by simp,by simp⟩
  .rw[M]at p;simp only[az]at p;obtain⟨p,aW⟩:=p;rw[p];refine⟨avm (F.b5 j _ aC) λe=>(by rw[p,e]at aW;cases aW),λf c=>⟨j,by simp,by rw[aC];rfl,gv c⟩,λbA=>?_,λbA=>?_⟩
   all_goals grind
 obtain⟨aF,a9,bF,bJ⟩:=a6
 have a0:∀v A,v∈i.toList->bE (b z)=some A->bE v≠some A:=λv A aA ar R=>by
  obtain⟨y,bg,bs,bu⟩:=a9 A ar;refine F.cA e y (by rw[aw];rfl) bs (λe=>bJ (e▸bg)) A ?_ bu;rw[X,hX];exact List.mem_filterMap.2 ⟨v,aA,R⟩
 have br:e2∉G.ids:=by simpa using bk
 have a3:∀w,(underlying T).run G.P w=.ok (.map K E) w:=λw=>by simp[underlying,program,Sem.run,ao.ee]
 have aY:∀w,(underlying K).run G.P w=.ok (.int k) w:=λw=>by simp[underlying,program,Sem.run,ao.key]
 have aG:=l7 (P:=G.P) Z;have aR:=qi (P:=G.P) ao.key false n w;have aS:∀u:Obj,(setObj r u).run G.P w=.ok () {w with heap:=w.heap.setIfInBounds r u}:=λu=>by simp[setObj,Sem.run,Z]
 have bl:∀u:Obj,({w with heap:=w.heap.setIfInBounds r u}:World).heap[r]?=some u:=λu=>by have:=fo Z;simp[Array.getElem?_setIfInBounds,this]
 have fin:∀(c0:eN) (an:List dS) (aq:List U) (L:dK) (Q:Nat),an=ek aM sz enc (bc l n row)->aq=dc k (bc l n row)->
   (execOp b o).run G.P w=.ok .skip {w with heap:=w.heap.setIfInBounds r (.map L Q)}->eH cx I w an c0.toList->gE I aq c0.toList L.toList->fM L Q->
   (∀f∈c0.toList.filterMap bE,f∈i.toList.filterMap bE\/bE (b z)=some f)->
   jX G.P (λbD bL=>∃a1,∃H:W,∃V aB,(a1=.undef/\H=(e2,.bp (ek aM sz enc (bc l n row)))::(d,.dB K E e2 (dc k (bc l n row)) none none)::σ.minus (d::e::q))/\az V aB a1 bD/\bG G cx V aB H bL/\bM I V/\(∀d,d∉[e2]->aB d=β d)/\(∀x,x∉d::e::e2::q->H.get x=σ.get x)) ((execOp b o).run G.P w):=by
  intro c0 an aq L Q N J af ag am bv bx;subst N J;rw[af]
  have:=F.N9 aU aw Y bj br bf bF (au9 w r (.map L Q)) (bl _) ag am bv λf c=>by
   rcases bx f c with a4|a4
   .exact .inl (by rw[X,hX];exact a4)
   .grind
  refine⟨.undef,_,I,_,⟨rfl,rfl⟩,by simp[az,aN],this,bM.refl I,λy h=>if_neg (by simpa using h),λy h=>?_⟩;simp only[List.mem_cons,not_or]at h;rw[jB,if_neg (Ne.symm h.2.2.1),if_neg (Ne.symm h.1),if_neg (by simp[h.1,h.2.1,h.2.2.2])]
 cases m:ay l n with
 |none=>
  have ak:O=i.toList:=by
   rcases aE with rfl|⟨t,rfl⟩
   .exact s
   .simp only[hL,m,Option.isSome_none,cond_false]at s;exact s
  rw[ak]at aa;obtain⟨N,J⟩:=BH n l i.toList B.toList 0 aa m;have ab:(Instr.findKey K (.int k n) B.toList).run G.P w=.ok none w:=by simp[Instr.findKey,aY,N]
  refine fin (i.push (b z)) (ek aM sz enc l++[.sl aM sz (row.map enc)]) (dc k (l++[(n,row)])) (B.push ⟨.int k n,b z,S⟩) (S+1) ?_ ?_ ?_ ?_ ?_ ?_ ?_
  .rw[BR row m];simp[ek]
  .rw[BR row m]
  .rcases g with g|g<;>simp[execOp,g,Instr.mapUpdate,C,Y,D,a3,aG,aR,ab,aS]
  .simp only[Array.toList_push];exact aD.push aF a0
  .simp only[Array.toList_push];exact J row ⟨.int k n,b z,S⟩ rfl
  .exact aI.push _ _
  .intro f c;simp only[Array.toList_push,List.filterMap_append,List.mem_append]at c;rcases c with c|c
   .exact .inl c
   .obtain⟨v,aA,aT⟩:=List.mem_filterMap.1 c;rw[List.mem_singleton.1 aA]at aT;exact .inr aT
 |some a=>
  obtain⟨a7,a8,N,J,af,ag,am⟩:=BG n l O B.toList 0 a aa m;have ab:(Instr.findKey K (.int k n) B.toList).run G.P w=.ok (some (0+e8 l n,a7)) w:=by simp[Instr.findKey,aY,ag]
  have ba:B[e8 l n]?=some a8:=by simpa using J
  have bh:(Instr.keyThatStays (.int k n) (.int k n)).run G.P w=.ok (.int k n) w:=by simp[Instr.keyThatStays,Instr.sameBits]
  have ak:O.set (e8 l n) (b z)=i.toList.set (e8 l n) (b z):=by
   rcases aE with rfl|⟨t,rfl⟩
   .rw[show O=i.toList from s]
   .simp only[hL,m,Option.isSome_some,cond_true]at s;obtain⟨_,_,s⟩:=s;rw[s,List.set_set]
  have eZ:(i.setIfInBounds (e8 l n) (b z)).toList=i.toList.set (e8 l n) (b z):=by simp
  have aZ:=am (b z) (λe=>{e with key:=.int k n,val:=b z}) (λe=>⟨rfl,rfl⟩);rw[ak]at aZ;refine fin (i.setIfInBounds (e8 l n) (b z)) ((ek aM sz enc l).set (e8 l n) (.sl aM sz (row.map enc))) (dc k l) (B.modify (e8 l n) λe=>{e with key:=.int k n,val:=b z}) S ?_ ?_ ?_ ?_ ?_ ?_ ?_
  .rw[tv row m,xT]
  .rw[tv row m,DV row m]
  .rcases g with g|g<;>simp[execOp,g,Instr.mapUpdate,C,Y,D,a3,aG,aR,ab,aS,ba,af,bh]
  .rw[eZ];exact aD.set aF λj v A _ bn ar=>a0 v A (List.mem_of_getElem? bn) ar
  .rw[eZ];simpa using aZ
  .exact aI.modify _ _ λ_=>rfl
  .intro f c;rw[eZ]at c;exact xe c
end
end
section
section imms
variable {cx:c2}{I:a2}{β:Nat->Value}{w:World}
def bb.Gh{u:a2}{d:Nat}{o:b1}(bA:bM I u)(F:∀b∈b3 (β d),∀o,u b o=I b o)(D:bb cx I β w d o):bb cx u β w d o:=D.rZ bA rfl (en.refl β) λb e=>⟨λ_=>rfl,F b e,id⟩
end imms
section weak
variable {G:bQ}{env:ah}{σ:W}
def vo{I:a2}{β cV:Nat->Value}{env:ah}{a:Act}{e:Nat}(h:gJ I β env a)(f:env.clean [e].contains=true)(c:∀y,y≠e->cV y=β y):gJ I cV env a:=λb=>
 nC (p:=[e].contains) (λg d=>c g (by simpa using d)) _ _ (avk f b) (h b)
theorem av1{d e K E:Nat}(i:σ.get d=some (.map K E []))(C:σ.get e=none)(hi:G.ids.contains e=false)(f:env.clean [e].contains=true)(v:σ.clean [e].contains=true):
  bJ G env σ env ((e,.bp [])::(d,.dB K E e [] none none)::σ.minus [d]):=λcx I β O w n o=>by
 have gn:d≠e:=λt=>by subst t;rw[C]at i;cases i
 have N:e∉G.ids:=by simpa using hi
 refine⟨I,et β e (.tuple #[]),?_,vo o f λa b=>ff β _ b⟩;have g:et β e (.tuple #[]) e=.tuple #[]:=eB _ _ _;have z:et β e (.tuple #[]) d=β d:=ff β _ gn
 have y:∀a,a∈[d,e]->∀c,W.get ((e,b1.bp [])::(d,.dB K E e [] none none)::σ.minus [d]) a=some c->(a=d/\c=.dB K E e [] none none)\/(a=e/\c=.bp []):=λa b c l=>by
  rw[jB]at l;split at l
  .grind
  .grind
 have j:∀a,a∈[d,e]->(W.get ((e,b1.bp [])::(d,.dB K E e [] none none)::σ.minus [d]) a).isSome->a=d\/a=e:=λa b _=>by simpa using b
 refine n.rz (M:=[d,e]) (news:=[e]) (λa b=>?_) (λa b=>ff β _ (by simpa using b)) (λa b=>?_) (λa c _ h=>(au8 v a c h).2) (λa b c h=>?_) (λa b c0 A f=>?_) (λa b J D x dM c0 A f m=>?_)
 .simp only[List.mem_cons,List.not_mem_nil,or_false,not_or]at b;rw[jB,if_neg (Ne.symm b.2),if_neg (Ne.symm b.1),if_neg (by simp[b.1])]
 .grind
 .rcases y a b c h with⟨rfl,rfl⟩|⟨rfl,rfl⟩
  .have:=n.b5 a _ i;simp only[bb,z,g]at this ⊢;rcases this with F|⟨H,k,B,q,r,L,p,u,s⟩
   .exact .inl F
   .refine .inr ⟨H,k,B,#[],[],q,r,rfl,rfl,?_,p,u,s,by simp⟩;have:k.toList=[]:=by cases fU:k.toList<;>simp_all [c3]
    rw[this];exact⟨rfl,rfl⟩
  .simp only[bb,g];exact .inr ⟨#[],rfl,rfl⟩
 .rcases j a b c0 with rfl|rfl
  .grind
  .rw[g]at f;cases f
 .rcases j a b dM with rfl|rfl
  .rcases j J D c0 with rfl|rfl
   .exact x rfl
   .rw[g]at m;cases m
  .rw[g]at f;cases f
variable {k:IntKind}{α:Type}
def awm{aM sz:Nat}{K E d e e2 t:Nat}{bK:Bool}{c:Option (dK×Nat)}(l:List (Int×List α))(n:Int)(enc:α->List U)(row:List α)(p:(ay l n).isSome=true)
  (f:σ.get d=some (.dB K E e (dc k l) (hL l n t) c)) (y:σ.get e=some (.bp (ek aM sz enc (gI l n)))) (h:σ.get t=some (.slice aM sz (row.map enc) 0 bK))
  (j:σ.get e2=none) (o:G.ids.contains e2=false) (q:env.clean [e2].contains=true) (m:σ.clean [e2].contains=true) :
  bJ G env σ env ((e2,.bp (ek aM sz enc (bc l n row)))::(d,.dB K E e2 (dc k (bc l n row)) none c)::σ.minus [d,e,t]):=λcx I β z w v g=>by
 obtain⟨A,a⟩:=Option.isSome_iff_exists.1 p;have i:hL l n t=some (some (e8 l n),t):=by simp[hL,a]
 rw[i]at f;obtain⟨s,x,b⟩:=v.back f rfl y h j (by simpa using o) m;refine⟨I,s,?_,vo g q x⟩;have u:(ek aM sz enc (gI l n)).set (e8 l n) (.sl aM sz (row.map enc))=ek aM sz enc (bc l n row):=by
  rw[BS a,xT,List.set_set,tv row a,xT]
 rw[u]at b;have r:dc k (bc l n row)=dc k l:=by rw[tv row a,DV row a]
 rw[r];exact b
theorem gp.aL{cx:c2}{I O:a2}{w:World}{T sz:Nat}{xs:List (List U)}{v:Value}(h:gp cx I w (.sl T sz xs) v)(bA:bM I O)(ar:∀b,bE v=some b->∀o,O b o=eu w b o):aN O (.aL false xs) v:=by
 rcases h with⟨rfl,rfl⟩|⟨b,aR,arr,rfl,aa,aq,am,aD,aF,aE,aG,aI⟩
 .simp only[aN];exact⟨none,0,rfl,by simp,by simp[maxLen],by simp,.inl trivial⟩
 .simp only[aN];refine⟨_,aR,rfl,aa,aq,by simp,.inr ⟨b,0,rfl,?_⟩⟩;have aw:∀o:Nat,O b o=arr[o]?:=λo=>by rw[ar b rfl o];simp[eu,World.cell?,am]
  have key:∀(D:List (List U)) (off:Nat) (u:c4),(∀e∈D,e.length=sz)->bX I D.flatten u->(∀j,j<u.length->arr[off+j]?=u[j]?)->gw O b D off:=by
   intro D;induction D with
   |nil=>intro _ _ _ _ _;simp[gw]
   |cons y D an=>
    intro off u ao ai ak;simp only[List.flatten_cons]at ai;have row:∀(cs:List U) (o:Nat) (Q:List U) (u:c4),bX I (cs++Q) u->(∀j,j<u.length->arr[o+j]?=u[j]?)->gy O b cs o/\∃F,bX I Q F/\u=u.take cs.length++F/\F=u.drop cs.length:=by
     intro cs;induction cs with
     |nil=>intro o Q u h _;exact⟨by simp[gy],u,h,by simp,by simp⟩
     |cons c cs aA=>
      intro o Q u h X;simp only[List.cons_append,bX]at h;obtain⟨au,az,rfl,aB,aa⟩:=h
      obtain⟨ae,F,ab,ag,af⟩:=aA (o+1) Q az aa λj ax=>by
       have:=X (j+1) (by simpa using ax);simpa [Nat.add_assoc,Nat.add_comm 1]using this
      refine⟨?_,F,ab,by simpa using ag,by simpa using af⟩;simp only[gy];refine⟨⟨au,?_,hD bA c au aB⟩,ae⟩;rw[aw];simpa using X 0 (by simp)
    obtain⟨ae,F,ab,ag,af⟩:=row y off D.flatten u ai ak;simp only[gw];refine⟨ae,an (off+y.length) F (λe aC=>ao e (List.mem_cons_of_mem _ aC)) ab λj X=>?_⟩;subst af;have:=ak (y.length+j) (by simp at X;omega);rw[List.getElem?_drop,<-this,Nat.add_assoc]
  grind
theorem Dc{cx:c2}{I c:a2}{w:World}{α:Type}{k:IntKind}{T sz:Nat}{enc:α->List U}(bA:bM I c):∀(l:List (Int×List α)) (vs:c4) (es:iw),gE I (dc k l) vs es->eH cx I w (ek T sz enc l) vs->(∀b∈vs.filterMap bE,∀o,c b o=eu w b o)->
  c3 c (bg k (λrows=>.aL false (rows.map enc)) l) es
 |[],vs,es,h,_,_=>by
  simp only[dc,List.map_nil,gE]at h;rw[h.2];simp[bg,c3]
 |(n,rows)::l,vs,es,h,a,d=>by
  simp only[dc,List.map_cons,gE]at h;obtain⟨v,f,r,e,rfl,rfl,j,g,i⟩:=h;simp only[ek,List.map_cons,eH]at a;obtain⟨s,u,q,m,t,p⟩:=a;cases q;simp only[bg,List.map_cons,c3];refine⟨r,e,rfl,hD bA _ _ j,?_,Dc bA l f e i p λb a=>d b ?_⟩
  .rw[g];exact gp.aL m bA λb a=>d b (by simp[a])
  .grind
theorem av3{aM sz:Nat}{K E d e:Nat}{Y:Option (dK×Nat)}(l:List (Int×List α))(enc:α->List U)
  (r:σ.get d=some (.dB K E e (dc k l) none Y)) (p:σ.get e=some (.bp (ek aM sz enc l))) :
  bJ G env σ env ((d,.gM K E (bg k (λrows=>.aL false (rows.map enc)) l))::σ.minus [d,e]):=λcx I β ae w h L=>by
 have gn:d≠e:=λP=>by subst P;rw[r]at p;cases p
 have y:(σ.get d).isSome:=by rw[r];rfl
 have fU:(σ.get e).isSome:=by rw[p];rfl
 let q:a2:=λa b=>if a∈b3 (β d)\/a∈b3 (β e)then eu w a b else I a b
 have n:∀a,a∈b3 (β d)\/a∈b3 (β e)->∀b,q a b=eu w a b:=λa c b=>if_pos c;have s:∀a,¬(a∈b3 (β d)\/a∈b3 (β e))->∀b,q a b=I a b:=λa c b=>if_neg c
 have bA:bM I q:=λa b m i=>by
  by_cases c:a∈b3 (β d)\/a∈b3 (β e)
  .rw[n a c];exact h.zH a b m i
  .grind
 have V:∀a,a∈b3 (β d)\/a∈b3 (β e)->Place cx a:=λa c=>by
  rcases c with c|c
  .exact(h.tY r c).2
  .exact(h.tY p c).2
 have H:∀f b,W.get ((d,.gM K E (bg k (λrows=>.aL false (rows.map enc)) l))::σ.minus [d,e]) f=some b->(f=d/\b=.gM K E (bg k (λrows=>.aL false (rows.map enc)) l))\/(f≠d/\f≠e/\σ.get f=some b):=λf b g=>by
  rw[auU,avc]at g;split at g
  .grind
  .grind
 have C:∀f,(W.get ((d,b1.gM K E (bg k (λrows=>.aL false (rows.map enc)) l))::σ.minus [d,e]) f).isSome->(σ.get f).isSome:=λf g=>by
  obtain⟨b,g⟩:=Option.isSome_iff_exists.1 g;rcases H f b g with⟨rfl,_⟩|⟨_,_,g⟩
  .exact y
  .rw[g];rfl
 refine⟨q,β,{h with good:=λa b m i=>?_,eD:=λa m i=>?_,fK:=h.fK.trans bA,fB:=λa c A b=>?_,b5:=λf b g=>?_,cA:=λf J g N=>h.cA f J (C f g) (C J N)},L.mono bA (en.refl β)⟩
 .by_cases c:a∈b3 (β d)\/a∈b3 (β e)
  .rw[n a c]at i;exact qz a b m i
  .rw[s a c]at i;exact h.good a b m i
 .by_cases c:a∈b3 (β d)\/a∈b3 (β e)
  .rw[n a c]at i;exact qn a m i
  .rw[s a c]at i;exact h.eD a m i
 .have:¬(a∈b3 (β d)\/a∈b3 (β e)):=λo=>by
   rcases V a o with j|j
   .omega
   .exact A j
  rw[s a this];exact h.fB a c A b
 .rcases H f b g with⟨rfl,rfl⟩|⟨T,X,g⟩
  .have B:=h.b5 f _ r;simp only[bb]at B ⊢;rcases B with j|⟨F,D,Z,z,Q,u,O,t,M,v,aa,R,S,_⟩
   .exact .inl j
   .rw[show Q=z.toList from M]at v;have x:=h.b5 e _ p;simp only[bb,t,Value.tuple.injEq,reduceCtorEq,false_or]at x;obtain⟨ab,rfl,c⟩:=x;refine .inr ⟨F,D,Z,u,?_,Dc bA l z.toList D.toList v c λa o=>n a (.inr (by rw[t,hX];exact o)),R,S⟩;rw[n F (.inl (gv (by rw[u];rfl)))];simp[eu,O]
  .refine(h.b5 f b g).Gh bA λa c=>s a λo=>?_;rcases o with j|j
   .exact h.cA f d (by rw[g];rfl) y T a c j
   .exact h.cA f e (by rw[g];rfl) fU X a c j
def A.ex{c:Code}{D:Exit->ah->W->Prop}{ι:Type}{cu:ι->ah}{σ2:ι->W}(h:∀cx I β a w,bG G cx I β σ w->gJ I β env a->∃i u β',bG G cx u β' (σ2 i) w/\gJ u β' (cu i) a)(k:∀i,ar G c D (cu i) (σ2 i)):ar G c D env σ:=
 avl λcx a w ab=>by
  obtain⟨I,β,ae,F,X,O⟩:=ab;obtain⟨i,u,β',Q,aa⟩:=h cx I β a w ae F;exact(k i).use cx a w ⟨u,β',Q,aa,X,O⟩
theorem qL{d:Nat}{o c:b1}(k:σ.get d=some o){cx:c2}{I:a2}{β:Nat->Value}{w:World}(e:bG G cx I β σ w)(j:bb cx I β w d c):bG G cx I β (σ.set d c) w:=by
 have f:∀b,(W.get (σ.set d c) b).isSome->(σ.get b).isSome:=λb a=>by
  rw[au5]at a;split at a
  .grind
  .exact a
 refine{e with b5:=λb i a=>?_,cA:=λb g a h=>e.cA b g (f b a) (f g h)};rw[au5]at a;split at a
 .grind
 .exact e.b5 b i a
variable {bs:List (U×U)}
def avV{c:Code}{g:Exit->ah->W->Prop}{d K E:Nat}(b:σ.get d=some (.map K E bs))(k:∀es clock,ar G c g env (σ.set d (.er es clock K E bs))):ar G c g env σ:=
 A.ex (ι:=dK×Nat) (cu:=λ_=>env) (σ2:=λa=>σ.set d (.er a.1 a.2 K E bs)) (λcx I β q w e f=>by
  have:=e.b5 d _ b;simp only[bb]at this;rcases this with o|⟨p,es,clock,j,l,h,i,n,m⟩
  .exact⟨(#[],0),I,β,qL b e (by simp only[bb];exact .inl o),f⟩
  .exact⟨(es,clock),I,β,qL b e (by simp only[bb];exact .inr ⟨p,j,l,h,i,n,m⟩),f⟩) λa=>k a.1 a.2
theorem awo{d K E clock:Nat}{es:dK}(a:σ.get d=some (.er es clock K E bs)):bJ G env σ env (σ.set d (.map K E bs)):=λcx I β l w b c=>by
 refine⟨I,β,qL a b ?_,c⟩;have:=b.b5 d _ a;simp only[bb]at this ⊢;rcases this with e|⟨m,h,i,f,g,k,j⟩
 .exact .inl e
 .grind
def A.QE{c:Code}{F:Exit->ah->W->Prop}{d K E e:Nat}{keys:List U}{u:Option (fV×Nat)}(Z:σ.get d=some (.dB K E e keys u none))(k:∀es clock,ar G c F env (σ.set d (.dB K E e keys u (some (es,clock))))):ar G c F env σ:=
 A.ex (ι:=dK×Nat) (cu:=λ_=>env) (σ2:=λi=>σ.set d (.dB K E e keys u (some i))) (λcx I β a w h D=>by
  have:=h.b5 d _ Z;simp only[bb]at this;rcases this with q|⟨r,es,clock,Y,af,aa,ab,Q,X,ag,ae,ai,ak,_⟩
  .exact⟨(#[],0),I,β,qL Z h (by simp only[bb];exact .inl q),D⟩
  .exact⟨(es,clock),I,β,qL Z h (by simp only[bb];exact .inr ⟨r,es,clock,Y,af,aa,ab,Q,X,ag,ae,ai,ak,λq O=>(Option.some.inj O).symm⟩),D⟩) λi=>k i.1 i.2
end weak
end
section
open Go.ChangeMaps (setBlock)
def gX{α S:Type}(B:Int->α->S->Option S):List (Int×α)->S->Option S
 |[],s=>some s
 |p::r,s=>match B p.1 p.2 s with|none=>none|some a=>gX B r a
open Classical in
noncomputable def nO{α S:Type}(l:List (Int×α))(B:Int->α->S->Option S)(s:S):Option S:=
 if ∀a:List (Int×α),a.Perm l->gX B a s=gX B l s then gX B l s else none
theorem Is{α S:Type}{l:List (Int×α)}{B:Int->α->S->Option S}{s r:S}(b:nO l B s=some r):(∀a:List (Int×α),a.Perm l->gX B a s=gX B l s)/\gX B l s=some r:=by
 unfold nO at b
 grind
theorem Dd{α S:Type}{l:List (Int×α)}{B:Int->α->S->Option S}{s r:S}(b:∀a:List (Int×α),a.Perm l->gX B a s=some r):nO l B s=some r:=by
 unfold nO
 simp_all
def Bt{α S:Type}{B:Int->α->S->Option S}:∀(l a:List (Int×α)) (s:S),gX B (l++a) s=(gX B l s).bind (gX B a)
 |[],_,_=>rfl
 |p::r,a,s=>by
  simp only[List.cons_append,gX];cases B p.1 p.2 s with
  |none=>rfl
  |some b=>exact Bt r a b
section
variable {G:bQ}{σ:W}{o:Oper}{ev:Operand->U}
def b1.nr:b1->Option (dK×Nat)
 |.er es c _ _ _=>some (es,c)
 |.dB _ _ _ _ _ u=>u
 |_=>none
variable {I:a2}{V6:b1}{b4 clock:Nat}{cx:c2}{es:dK}{w:World}{β:Nat->Value}
theorem uM(e:bG G cx I β σ w)(f:σ.get b4=some V6)(b:V6.nr=some (es,clock))(c:β b4≠.nilFunc):
  ∃a,β b4=.map (some a)/\w.heap[a]?=some (.map es clock)/\fM es clock:=by
 have d:=e.b5 b4 V6 f;cases V6<;>simp only[b1.nr,reduceCtorEq]at b
 .cases b;simp only[bb,c,false_or]at d
  grind
 .simp only[bb,c,false_or]at d
  grind
def cB.range{T b4 bz K E clock:Nat}{x:Operand}{es:dK}{V6:b1}(h:o.op=.range T x)(u:ev x=.cc b4)(Z:σ.get b4=some V6)(ax:V6.nr=some (es,clock))(aA:G.P.underlying T=some (.map K E))
  (hi:G.ids.contains bz=false) (X:σ.clean [bz].contains=true):eL G o ev σ [bz] [bz] (λr ao=>r=.ptr bz 0/\ao=(bz,.iter b4 clock clock #[])::σ):=by
 intro cx I β w an D hop;have O:=hop x (by simp[h,Op.operands]);rw[u]at O
 simp only[az]at O;obtain⟨O,ak⟩:=O;have aw:β b4≠.nilFunc:=λe=>by rw[O,e]at ak;simp[hd]at ak
 obtain⟨Q,af,aq,aC⟩:=uM D Z ax aw
 have aB:b4≠bz:=λe=>by
  have:=(au8 X b4 V6 Z).1;simp[e]at this
 have ar:(execOp an o).run G.P w=.ok (.value (.pointer (some ⟨w.heap.size,0,none⟩))) (w.alloc (.mapIter (some Q) clock #[] clock)):=by
  simp[execOp,h,O,af,run_range_map w T K E Q es clock aA aq]
 rw[ar];have ae:=D.jE (cw:=[bz]) (σ2:=σ) (env:=[]) ⟨λ_ _=>rfl,by simpa using hi,rfl,X,λx u b4 n h=>by have:=(au8 X x _ h).1;rw[List.contains_iff_mem.2 u]at this;cases this⟩;have ab:∀y,y≠bz->et (eg β [bz]) bz (.pointer (some ⟨w.heap.size,0,none⟩)) y=β y:=λy F=>by rw[ff _ _ F];simp[eg,F]
 have aa:et (eg β [bz]) bz (.pointer (some ⟨w.heap.size,0,none⟩)) bz=.pointer (some ⟨w.heap.size,0,none⟩):=eB _ _ _;refine⟨.ptr bz 0,_,I,et (eg β [bz]) bz (.pointer (some ⟨w.heap.size,0,none⟩)),⟨rfl,rfl⟩,?_,?_,bM.refl I,λy F=>ab y (by simpa using F),λy F=>by rw[auU,if_neg (Ne.symm (by simpa using F))]⟩
 .simp only[az,aa];exact⟨w.heap.size,rfl,rfl⟩
 .refine ae.turn (d:=bz) (dW.alloc w _) (.inl D.size) (λx u=>by rw[auU,if_neg (Ne.symm u)]) (λx u Y e=>by
    obtain⟨am,Y⟩:=Option.isSome_iff_exists.1 Y;exact absurd (ae.k3 Y e) (by omega)) (bM.refl I) (λ_ _ _=>rfl) (λaE aD ai=>by rw[D.fJ (Nat.le_refl _)]at ai;cases ai) (D.fJ (Nat.le_refl _) none)
   (λx u=>ff _ _ u) (.inl (by simpa using hi)) (avi (by simp[eg])) (.inl (by rw[aa];rfl)) λam ag=>?_
  rw[auU,if_pos rfl]at ag;cases ag;simp only[bb,aa,ab b4 aB,af];exact .inr ⟨w.heap.size,Q,rfl,rfl,heap_alloc_new w _,λo=>D.fJ (Nat.le_refl _) o,.inl D.size⟩
theorem cB.next{b4 bz clock:Nat}{x:Operand}{es:dK}{seen:iz}{V6:b1}(h:o.op=.next x false)(F:ev x=.ptr bz 0)(hi:σ.get bz=some (.iter b4 clock clock seen))(Z:σ.get b4=some V6)(aM:V6.nr=some (es,clock)):
  eL G o ev σ [bz] [] (λr ao=>((leftOf es seen).size=0/\r=.bO [.bool false]/\ao=σ)\/∃e∈(leftOf es seen).toList,r=.bO [.bool true,.dg,.dg]/\ao=σ.set bz (.iter b4 clock clock (seen.push e.born))):=by
 intro cx I β w ai O hop;have u:=hop x (by simp[h,Op.operands]);rw[F]at u
 simp only[az]at u;obtain⟨b,u,ag⟩:=u;have aF:β bz≠.nilFunc:=λe=>by rw[e]at u;cases u
 have hit:=O.b5 bz _ hi;simp only[bb,aF,false_or]at hit;obtain⟨r,aG,aw,Q,ak,am,aC⟩:=hit;have aR:b=r:=by rw[aw]at u;simpa [bE]using u.symm
 subst aR;have aI:β b4≠.nilFunc:=λe=>by rw[e]at Q;cases Q
 obtain⟨D,aA,aD,aE⟩:=uM O Z aM aI;have:D=aG:=by rw[aA]at Q;simpa [bE]using Q
 subst this;rcases run_next_at (P:=G.P) w o.type b D clock clock seen es clock ak aD aE.2 (Nat.le_refl _)with⟨af,ab⟩|⟨e,af,aa,ab,s3⟩
 .have ae:(execOp ai o).run G.P w=.ok (.value (.tuple #[.bool false])) w:=by simp[execOp,h,ag,ab]
  rw[ae];refine⟨.bO [.bool false],σ,I,β,.inl ⟨af,rfl,rfl⟩,?_,O,bM.refl I,λ_ _=>rfl,λ_ _=>rfl⟩;simp[az,bx,aN]
 .have ae:(execOp ai o).run G.P w=.ok (.value (.tuple #[.bool true,e.key,e.val])) (setBlock aa b (.mapIter (some D) clock (seen.push e.born) clock)):=by simp[execOp,h,ag,s3]
  rw[ae];refine⟨.bO [.bool true,.dg,.dg],σ.set bz (.iter b4 clock clock (seen.push e.born)),I,β,.inr ⟨e,af,rfl,rfl⟩,?_,?_,bM.refl I,λ_ _=>rfl,λy ar=>by rw[au5,if_neg (by simpa using ar)]⟩
  .simp only[az,bx,aN]
   grind
  .have aS:dW w (setBlock aa b (.mapIter (some D) clock (seen.push e.born) clock)) b:=by
    rcases ab with rfl|rfl
    .exact au9 _ b _
    .exact dW.drew (au9 _ b _)
   have aq:bE (β bz)=some b:=u;have aU:(setBlock aa b (.mapIter (some D) clock (seen.push e.born) clock)).heap[b]?=some (.mapIter (some D) clock (seen.push e.born) clock):=by
    have aB:=fo ak;have:aa.heap=w.heap:=by rcases ab with rfl|rfl<;>rfl
    simp[setBlock,this,Array.getElem?_setIfInBounds,aB]
   refine O.turn (d:=bz) aS aC (λx F=>by rw[au5,if_neg F]) (λx F Y ax=>O.cA x bz Y (by rw[hi];rfl) F b ax (gv aq)) (bM.refl I) (λ_ _ _=>rfl)
    (λo v an=>by rw[am o]at an;cases an) (am none) (λ_ _=>rfl) (.inr rfl) (en.refl β) (.inl aq) λaT X=>?_
   rw[au5,if_pos rfl,hi]at X;injection X with X
   subst X;simp only[bb]
   grind
def tw{I:a2}:∀{bs:List (U×U)} {es:iw} {i:Nat} {a c:U} {e:MapEntry},c3 I bs es->bs[i]?=some (a,c)->es[i]?=some e->aN I a e.key/\aN I c e.val
 |[],_,i,_,_,_,_,h,_=>by simp at h
 |(k,v)::r,_,i,a,c,e,h,b,he=>by
  simp only[c3]at h;obtain⟨l,j,rfl,g,d,f⟩:=h;cases i with
  |zero=>simp at b he;obtain⟨rfl,rfl⟩:=b;subst he;exact⟨g,d⟩
  |succ i=>simp at b he;exact tw f b he
def De{I:a2}:∀{ks:List U} {vs:c4} {es:iw} {i:Nat} {a:U} {e:MapEntry},gE I ks vs es->ks[i]?=some a->es[i]?=some e->aN I a e.key
 |[],_,_,i,_,_,_,h,_=>by simp at h
 |k::r,_,_,i,a,e,h,b,he=>by
  simp only[gE]at h;obtain⟨m,g,j,l,rfl,rfl,d,f,c⟩:=h;cases i with
  |zero=>simp at b he;subst b;subst he;exact d
  |succ i=>simp at b he;exact De c b he
variable {bz i:Nat}{seen:iz}
theorem Df{c:Operand->Value}{x:Operand}{e:MapEntry}(d:bG G cx I β σ w)(z:o.op=.entry x)(a:az I β (.ptr bz 0) (c x))
  (hi:σ.get bz=some (.iter b4 clock clock (seen.push e.born))) (t:σ.get b4=some V6) (v:V6.nr=some (es,clock)) (D:es[i]?=some e):(execOp c o).run G.P w=.ok (.value (.tuple #[e.key,e.val])) w/\β b4≠.nilFunc:=by
 simp only[az]at a;obtain⟨h,a,k⟩:=a;have r:β bz≠.nilFunc:=λe=>by rw[e]at a;cases a
 have j:=d.b5 bz _ hi;simp only[bb,r,false_or]at j;obtain⟨A,s,m,b,l,B,C⟩:=j;have y:h=A:=by rw[m]at a;simpa [bE]using a.symm
 subst y;have f:β b4≠.nilFunc:=λe=>by rw[e]at b;cases b
 obtain⟨g,n,p,q⟩:=uM d t v f;have:g=s:=by rw[n]at b;simpa [bE]using b
 subst this;have u:e∈es.toList:=by grind
 exact⟨by simp[execOp,z,k,run_entry_at (P:=G.P) w h g clock seen es clock e l p u q.1],f⟩
variable {E K:Nat}{k:IntKind}{α:Type}
def awG{x:Operand}{e:MapEntry}{n:Int}{v:α}(l:List (Int×α))(enc:α->U)(h:o.op=.entry x)(p:ev x=.ptr bz 0)(hi:σ.get bz=some (.iter b4 clock clock (seen.push e.born)))
  (u:σ.get b4=some (.er es clock K E (bg k enc l))) (m:es[i]?=some e) (y:l[i]?=some (n,v)):Yields G o ev σ [] [bz,b4] (.bO [.int k n,enc v]):=
 .pure λr cx I β w C g b A=>by
  have j:=A x (by simp[h,Op.operands]);rw[p]at j
  have f:r.get b4=some (.er es clock K E (bg k enc l)):=by rw[g b4 (by simp)];exact u
  obtain⟨t,s⟩:=Df b h j (by rw[g bz (by simp)];exact hi) f rfl m;refine⟨_,t,?_⟩;have d:=b.b5 b4 _ f;simp only[bb,s,false_or]at d;obtain⟨H,D,F,q,_⟩:=d;obtain⟨B,z⟩:=tw q (i:=i) (a:=.int k n) (c:=enc v) (e:=e) (by simp[bg,y]) (by simpa using m);simp only[az,bx];exact⟨_,rfl,e.key,[e.val],rfl,B,e.val,[],rfl,aN.rep β _ _ z,rfl⟩
def awH{h:Nat}{g:Option (fV×Nat)}{x:Operand}{e:MapEntry}{n:Int}(l:List (Int×α))(m:o.op=.entry x)(r:ev x=.ptr bz 0)(hi:σ.get bz=some (.iter b4 clock clock (seen.push e.born)))
  (A:σ.get b4=some (.dB K E h (dc k l) g (some (es,clock)))) (q:es[i]?=some e) (j:(l.map (·.1))[i]?=some n):Yields G o ev σ [] [bz,b4] (.bO [.int k n,.dg]):=
 .pure λs cx I β w D f b B=>by
  have p:=B x (by simp[m,Op.operands]);rw[r]at p
  have d:s.get b4=some (.dB K E h (dc k l) g (some (es,clock))):=by rw[f b4 (by simp)];exact A
  obtain⟨y,v⟩:=Df b m p (by rw[f bz (by simp)];exact hi) d rfl q;refine⟨_,y,?_⟩;have c:=b.b5 b4 _ d;simp only[bb,v,false_or]at c;obtain⟨U,Q,R,S,N,J,L,F,H,u,M,O,P,z⟩:=c;cases z _ rfl;have C:=De u (i:=i) (a:=.int k n) (e:=e) (by
   simp only[List.getElem?_map,Option.map_eq_some_iff]at j;obtain⟨T,t,rfl⟩:=j;simp[dc,t]) (by simpa using q)
  simp only[az,bx];exact⟨_,rfl,e.key,[e.val],rfl,C,e.val,[],rfl,trivial,rfl⟩
def h6{α:Type}(l:List (Int×α))(n:Int):List (Int×α):=match l with
 |[]=>[]
 |p::r=>if p.1=n then r else p::h6 r n
theorem Hw{I:a2}{α:Type}{k:IntKind}{enc:α->U}(n:Int):∀(l:List (Int×α)) (es:iw) (i:Nat) (a:α),c3 I (bg k enc l) es->ay l n=some a->
  ∃j v,Instr.findNow (.int k) (.int k n) es i=some (some (i+j,v))/\j<es.length/\c3 I (bg k enc (h6 l n)) (es.eraseIdx j)
 |[],es,i,a,h,c=>by simp[ay]at c
 |(m,b)::r,es,i,a,h,c=>by
  simp only[bg,List.map_cons,c3]at h;obtain⟨g,o,rfl,d,p,f⟩:=h;simp only[aN]at d;rw[fP]at c;by_cases e:m=n
  .subst e;refine⟨0,g.val,by simp[Instr.findNow,Instr.sameNow,d],by simp,?_⟩;simp only[h6,if_true,List.eraseIdx_cons_zero];exact f
  .rw[if_neg e]at c;obtain⟨j,v,t,s,q⟩:=Hw n r o (i+1) a f c;refine⟨j+1,v,?_,by simpa using s,?_⟩
   .simp only[Instr.findNow,Instr.sameNow,d,if_pos]
    grind
   .simp only[h6,e,if_false,List.eraseIdx_cons_succ,bg,List.map_cons,c3];exact⟨g,_,rfl,by simp only[aN];exact d,p,q⟩
def Dg{α:Type}:∀{l:List (Int×α)} {n:Int},ay l n=none->h6 l n=l
 |[],_,_=>rfl
 |p::r,n,h=>by
  rw[fP]at h;split at h
  .cases h
  .rename_i a;simp only[h6,if_neg a,Dg h]
theorem fM.erase(h:fM es clock)(j:Nat):fM (es.eraseIdxIfInBounds j) clock:=by
 obtain⟨F,u⟩:=h;have e:(es.eraseIdxIfInBounds j).toList=es.toList.eraseIdx j:=by simp
 refine⟨?_,λx D=>u x ?_⟩
 all_goals grind
def axl{T d:Nat}{x y:Operand}{n:Int}(l:List (Int×α))(enc:α->U)(h:o.op=.call ⟨.builtin .delete,#[x,y],#[T,K]⟩)(b:ev x=.cc d)(V:ev y=.int k n)
  (u:σ.get d=some (.map K E (bg k enc l))) (v:gi G.P T K E k) :
  eL G o ev σ [d] [] (λr W=>r=.bO []/\W=σ.set d (.map K E (bg k enc (h6 l n)))):=by
 intro cx I β w S p R;have Q:=R x (by simp[h,Op.operands,Call.operands]);rw[b]at Q
 have c:=R y (by simp[h,Op.operands,Call.operands]);rw[V]at c;have c:=fW c
 obtain⟨r,es,clock,M,B,q,j,m,F,C⟩:=xy p u Q;have N:∀w,(underlying T).run G.P w=.ok (.map K E) w:=λw=>by simp[underlying,program,Sem.run,v.ee]
 have O:∀w,(underlying K).run G.P w=.ok (.int k) w:=λw=>by simp[underlying,program,Sem.run,v.key]
 have D:=l7 (P:=G.P) q;have J:=qi (P:=G.P) v.key (es.isEmpty) n w;have L:∀f:Obj,(setObj r f).run G.P w=.ok () {w with heap:=w.heap.setIfInBounds r f}:=λf=>by simp[setObj,Sem.run,q]
 have af:∃e,(execOp S o).run G.P w=.ok (.value (.tuple #[])) {w with heap:=w.heap.setIfInBounds r (.map e clock)}/\c3 I (bg k enc (h6 l n)) e.toList/\fM e clock:=by
  cases i:ay l n with
  |none=>
   obtain⟨s,Y⟩:=sP n l es.toList 0 j i;have t:(Instr.findKey K (.int k n) es.toList).run G.P w=.ok none w:=by simp[Instr.findKey,O,s]
   refine⟨es,by simp[execOp,h,resolve,invoke,builtin,Builtin.delete_,M,c,N,D,J,t,L],?_,C⟩;rw[Dg i];exact j
  |some a=>
   obtain⟨z,ag,s,Y,aa⟩:=Hw n l es.toList 0 a j i;have t:(Instr.findKey K (.int k n) es.toList).run G.P w=.ok (some (0+z,ag)) w:=by simp[Instr.findKey,O,s]
   refine⟨es.eraseIdxIfInBounds z,by simp[execOp,h,resolve,invoke,builtin,Builtin.delete_,M,c,N,D,J,t,L],?_,C.erase z⟩;simpa using aa
 obtain⟨e,Z,ab,X⟩:=af;rw[Z];refine⟨.bO [],_,I,β,⟨rfl,rfl⟩,by simp[az,bx],?_,bM.refl I,λ_ _=>rfl,λx b=>by rw[au5,if_neg (by simpa using b)]⟩;have H:bE (β d)=some r:=by rw[B];rfl
 refine p.turn (d:=d) (au9 w r _) F (λx b=>by rw[au5,if_neg b]) (λx b ae ai=>p.cA x d ae (by rw[u];rfl) b r ai (gv H)) (bM.refl I) (λ_ _ _=>rfl)
  (λo ak A=>by rw[m o]at A;cases A) (m none) (λ_ _=>rfl) (.inr rfl) (en.refl β) (.inl H) λf g=>?_
 rw[au5,if_pos rfl,u]at g;injection g with g
 subst g;simp only[bb];exact .inr ⟨r,e,clock,B,by have:=fo q;simp[Array.getElem?_setIfInBounds,this],ab,m,F,X⟩
variable {env:ah}
def awe{c:Code}{d:Exit->ah->W->Prop}{F:Prop}(i:∀cx I β a w,bG G cx I β σ w->gJ I β env a->F)(k:F->ar G c d env σ):ar G c d env σ:=
 avl λcx a w h=>by
  obtain⟨I,β,e,b,g,f⟩:=h;exact(k (i cx I β a w e b)).use cx a w ⟨I,β,e,b,g,f⟩
def fC{a α:Type}(l:List (a×α))(p:cg):List (a×α):=p.filterMap λi=>l[i]?
theorem xP{c:Type}(l:List (c×α)):fC l (List.range l.length)=l:=by
 have:∀(a:Nat),a<=l.length->fC l (List.range a)=l.take a:=by
  intro a;induction a with
  |zero=>intro _;simp[fC]
  |succ a b=>
   intro d;rw[List.range_succ];simp only[fC,List.filterMap_append,List.filterMap_cons,List.filterMap_nil]at b ⊢;rw[b (by omega),List.getElem?_eq_getElem (by omega)];simp only;rw[List.take_succ,List.getElem?_eq_getElem (by omega)];rfl
 grind
def xA{p:cg}{n:Nat}(b:p.Nodup)(a:∀i,i∈p↔i<n):p.Perm (List.range n):=
 (List.perm_ext_iff_of_nodup b List.nodup_range).2 λi=>by rw[List.mem_range];exact a i
theorem A.s9{S:Type}{ax:Exit->ah->W->Prop}{l:List (Int×α)}{B:Int->α->S->Option S}{aa r:S}(bY:nO l B aa=some r){id b t1 t2 it:Nat}{X ae:Oper}{y:Code}
  (ak:S->Prop) (D:S->ah) (Q:iz->S->W) (ao:X.op=.next (.tmp it) false/\X.dst=some t1/\X.guard=none) (aD:ae.op=.extract (.tmp t1) 0/\ae.dst=some t2/\ae.guard=none) (Z:mE G.N #[X,ae]=true)
  (bD:ak aa) (bT:∀n v g u,B n v g=some u->ak g->ak u) (hit:∀g,(D g).get it=.ptr bz 0) (a8:∀seen g,(Q seen g).get bz=some (.iter b4 clock clock seen)) (eZ:∀seen g,∃V6,(Q seen g).get b4=some V6/\V6.nr=some (es,clock))
  (bk:∀seen g aS,(Q seen g).set bz (.iter b4 clock clock aS)=Q aS g) (bh:∀seen g,ak g->∀cx I β w,bG G cx I β (Q seen g) w->β b4≠.nilFunc->es.size=l.length)
  (bc:bJ G env σ (D aa) (Q #[] aa))
  (body:∀(seen:iz) (e:MapEntry) (i:Nat) (n:Int) (v:α) (g u:S),es[i]?=some e->l[i]?=some (n,v)->ak g->B n v g=some u->
   ar G y (kI (λaX ab=>bJ G aX ab (D u) (Q (seen.push e.born) u)) ax) ((t2,.bool true)::(t1,.bO [.bool true,.dg,.dg])::D g) (Q (seen.push e.born) g))
  (bN:∀seen,ax (.exit b) ((t2,.bool false)::(t1,.bO [.bool false])::D r) (Q seen r)) :
  ar G (.loop (.seq (.region id #[X,ae] false) (.seq (.cond (.tmp t2) .skip (.exit b)) y))) ax env σ:=by
 obtain⟨m1,m2⟩:=Is bY
 refine A.loop (α:=iz×S) (λs=>D s.2) (λs=>Q s.1 s.2) (λs=>ak s.2/\∃p:cg,p.Nodup/\(∀i∈p,i<l.length)/\(∀(i:Nat) (e:MapEntry),es[i]?=some e->(s.1.contains e.born=true↔i∈p))/\gX B (fC l p) aa=some s.2)
  (λs=>(leftOf es s.1).size) (#[],aa) ⟨bD,[],List.nodup_nil,by simp,by simp,rfl⟩ bc ?_
 rintro⟨seen,g⟩ ⟨aG,p,be,aY,aB,bn⟩;refine awe (F:=es.size=l.length/\(es.toList.map (·.born)).Nodup) (λcx I β a w aC bA=>?_) λ⟨f1,f2⟩=>?_
 .have ai:=bA it;rw[show(D (seen,g).2).get it=.ptr bz 0 from hit g]at ai;simp only[az]at ai;obtain⟨b,ai,_⟩:=ai;have bi:β bz≠.nilFunc:=λe=>by rw[e]at ai;cases ai
  have aM:=aC.b5 bz _ (a8 seen g);simp only[bb,bi,false_or]at aM;obtain⟨r,cd,ca,aR,_⟩:=aM;have aZ:β b4≠.nilFunc:=λe=>by rw[e]at aR;cases aR
  obtain⟨V6,aI,aF⟩:=eZ seen g;obtain⟨_,_,_,s3⟩:=uM aC aI aF aZ;exact⟨bh seen g aG cx I β w aC aZ,s3.1⟩
 obtain⟨V6,aI,aF⟩:=eZ seen g;have bx:ah.get ((t2,.bool true)::(t1,.bO [.bool true,.dg,.dg])::D g) t2=.bool true:=by rw[avb,if_pos rfl]
 have bs:ah.get ((t2,.bool false)::(t1,.bO [.bool false])::D g) t2=.bool false:=by rw[avb,if_pos rfl]
 refine A.seq (A.region Z ?_);show ep G #[X,ae] ⟨false,[],[]⟩ [] [0,1] (D g) (Q seen g) _;refine⟨X,rfl,.inr (.inr (.inl ⟨by simp only[fD,ao.2.2],by simp,[bz],[],_,cB.next (x:=.tmp it) ao.1 (hit g) (a8 seen g) aI aF,by simp,avs _,by simp,λbt ab bv=>?_⟩))⟩
 have ext:∀(vs:List U) (an:Bool) (ab:W) (K:ah->W->Prop),vs[0]?=some (.bool an)->K ((t2,.bool an)::(t1,.bO vs)::D g) ab->ep G #[X,ae] ⟨false,[],[]⟩ [] [1] ((D g).put X.dst (.bO vs)) ab K:=λvs an ab K ba bg=>by
  refine⟨ae,rfl,.inr (.inl ⟨by simp only[fD,aD.2.2],by simp,[],[],.bool an,ab,avt _ _ _,by simp,by simp,br.extract (x:=.tmp t1) aD.1 (by rw[ao.2.1];show ah.get _ _=_;rw[ah.put,avb,if_pos rfl]) ba,?_⟩)⟩;rw[ao.2.1,aD.2.1];exact bg
 rcases bv with⟨am,rfl,rfl⟩|⟨e,am,rfl,rfl⟩
 .refine ext _ false _ _ rfl ?_
  have bu:∀i,i∈p↔i<l.length:=λi=>⟨aY i,λcb=>by
   have bP:i<es.size:=by omega
   refine(aB i es[i] (Array.getElem?_eq_getElem bP)).1 ?_;by_cases aE:seen.contains es[i].born=true
   .exact aE
   .exfalso;have:es[i]∈leftOf es seen:=by
     unfold leftOf
     grind
    have:leftOf es seen≠#[]:=λe=>by rw[e]at this;simp at this
    exact this (Array.eq_empty_of_size_eq_zero am)⟩
  have b1:(fC l p).Perm l:=by
   have:=(xA be bu).filterMap λi=>l[i]?;have aq:=xP l;unfold fC at aq ⊢
   rwa [aq]at this
  have a9:g=r:=by grind
  subst a9;refine A.seq (A.cond (b:=false) bs (λh=>by cases h) λ_=>A.exit ?_);exact bN seen
 .refine ext _ true _ _ rfl ?_;rw[bk seen g];obtain⟨bf,bj⟩:=mem_left am;obtain⟨i,af⟩:=List.getElem?_of_mem bf;have af:es[i]?=some e:=by simpa using af
  have bF:i<l.length:=by have:=(Array.getElem?_eq_some_iff.1 af).1;omega
  have ce:i∉p:=λh=>by
   have:=(aB i e af).2 h;rw[bj]at this;cases this
  have bL:l[i]?=some (l[i].1,l[i].2):=List.getElem?_eq_getElem bF;have dr:(p++[i]).Nodup:=by grind
  have a6:∀j∈p++[i],j<l.length:=λj O=>by
   rcases List.mem_append.1 O with O|O
   .exact aY j O
   .grind
  have bE:∃u,B l[i].1 l[i].2 g=some u/\gX B (fC l (p++[i])) aa=some u:=by
   have bW:fC l (p++[i])=fC l p++[(l[i].1,l[i].2)]:=by
    unfold fC
    grind
   have aq:gX B (fC l (p++[i])) aa=B l[i].1 l[i].2 g:=by
    rw[bW,Bt,bn];simp only[Option.bind_some,gX];cases B l[i].1 l[i].2 g<;>rfl
   have full:(p++[i]++(List.range l.length).filter λj=>!(p++[i]).contains j).Perm (List.range l.length):=by
    refine xA ?_ λj=>?_
    .rw[List.nodup_append];refine⟨dr,List.nodup_range.filter _,λa bV c aE e=>?_⟩;subst e;have:=(List.mem_filter.1 aE).2;simp only[Bool.not_eq_true',List.contains_eq_mem,decide_eq_false_iff_not]at this;exact this bV
    .rw[List.mem_append,List.mem_filter,List.mem_range];constructor
     .rintro(h|h)
      .exact a6 j h
      .exact h.1
     .intro h;by_cases O:j∈p++[i]
      .exact .inl O
      .exact .inr ⟨h,by simpa using O⟩
   have a4:=full.filterMap λi=>l[i]?;have aU:=xP l;unfold fC at aU;rw[aU,List.filterMap_append]at a4;have aA:=m1 _ a4;rw[m2,Bt]at aA;cases aw:gX B (fC l (p++[i])) aa with
   |none=>unfold fC at aw;rw[aw]at aA;cases aA
   |some u=>exact⟨u,by rw[<-aq];exact aw,rfl⟩
  obtain⟨u,a0,bl⟩:=bE;refine A.seq (A.cond (b:=true) bx (λ_=>A.skip ?_) λh=>by cases h);refine(body seen e i l[i].1 l[i].2 g u af bL aG a0).mono λex aX ab ag=>?_;cases ex with
  |normal=>
   refine⟨(seen.push e.born,u),⟨bT _ _ _ _ a0 aG,p++[i],dr,a6,λj aT O=>?_,bl⟩,left_shrinks es seen e am,ag⟩;rw[contains_push,Bool.or_eq_true,beq_iff_eq,aB j aT O,List.mem_append,List.mem_singleton];constructor
   .rintro(h|h)
    .exact .inl h
    .right;have a3:es.toList[j]?=some aT:=by simpa using O
     have a5:es.toList[i]?=some e:=by simpa using af
     have a1:=(List.getElem?_eq_some_iff.1 a3).1;have a7:=(List.getElem?_eq_some_iff.1 a5).1;have aW:=(List.getElem?_eq_some_iff.1 a3).2;have aV:=(List.getElem?_eq_some_iff.1 a5).2;have pw:=List.pairwise_iff_getElem.1 f2;rcases Nat.lt_trichotomy j i with q|q|q
     .refine absurd ?_ (pw j i (by simpa using a1) (by simpa using a7) q);rw[List.getElem_map,List.getElem_map,aW,aV,h]
     .exact q
     .refine absurd ?_ (pw i j (by simpa using a7) (by simpa using a1) q);rw[List.getElem_map,List.getElem_map,aW,aV,h]
   .rintro(h|h)
    .exact .inl h
    .subst h;rw[O]at af;cases af;exact .inr rfl
  |exit id=>exact ag
  |goto l=>exact ag
  |ret=>exact ag
  |panic c=>exact ag
  |outgrown=>exact ag
end
end
section
def fN{α:Type}(e:fx α)(l:List α):U:=.aL false (ag e l)
def R4{α:Type}(e:fx α)(I:a2):aN I (fN e []) (.slice none 0 0):=by
 simp only[fN,ag,List.map_nil,aN];exact⟨none,0,rfl,by simp,by simp[maxLen],by simp,.inl trivial⟩
def B0{P:Program}{E:Nat}{α:Type}(e:fx α)(a:∀w,(zeroValue E).run P w=.ok (.slice none 0 0) w):∀w,∃v,(zeroValue E).run P w=.ok v w/\∀I,aN I (fN e []) v:=λw=>⟨_,a w,R4 e⟩
def ki{P:Program}{E:Nat}{k:IntKind}(a:∀w,(zeroValue E).run P w=.ok (.int k 0) w):∀w,∃v,(zeroValue E).run P w=.ok v w/\∀I,aN I (bW k 0) v:=λw=>⟨_,a w,λI=>by simp[bW,aN]⟩
def R1{P:Program}{E:Nat}(a:∀w,(zeroValue E).run P w=.ok (.bool false) w):∀w,∃v,(zeroValue E).run P w=.ok v w/\∀I,aN I (ew false) v:=λw=>⟨_,a w,λI=>by simp[ew,aN]⟩
section
variable {P:Program}
def xh{α:Type}(SA UB c5 aM sz e2 t:Nat)(k:IntKind)(l:List (Int×List α))(n:Int)(enc:α->List U)(ids:cg)(op:Op)(env:ah)(σ:W):Option (bP×bL):=match op with
 |.lookup T x y false=>(match env.bS x with
  |some (.cc d)=>(match env.bS y with
   |some (.int b c)=>(match σ.get d with
    |some (.dB K E e keys none f)=>(match σ.get e with
     |some (.bp a)=>bif Nat.beq T SA&&Nat.beq K UB&&Nat.beq E c5&&(σ.get t).isNone&&(σ.get e2).isNone&&!Nat.beq t e2&&!ids.contains t&&!ids.contains e2&&σ.clean [t,e2].contains then
       some (.e [d,e,e2,t] [t,e2] (.own t) ((t,.slice aM sz (((ay l n).getD []).map enc) 0 false)::(e2,.bp (ek aM sz enc (gI l n)))::(d,.dB K E e2 (dc k l) (hL l n t) f)::σ.minus [d,e]),([.int b c,.agg keys],[(1,.bp a)]))else none
     |_=>none)
    |_=>none)
   |_=>none)
  |_=>none)
 |_=>none
variable {N SA UB aM c5 e2 sz:Nat}{SC:bL}{env:ah}{k:IntKind}{o:Oper}{α:Type}{enc:α->List U}{σ:W}
theorem MT{t:Nat}{l:List (Int×List α)}{n:Int}(v:gi P SA UB c5 k)(B:∀w,(zeroValue c5).run P w=.ok (.slice none 0 0) w){ids:cg}{s:bP}
  (a:xh SA UB c5 aM sz e2 t k l n enc ids o.op env σ=some (s,SC)) (A:SC=([.int k n,.agg (dc k l)],[(1,.bp (ek aM sz enc l))])):c7 ⟨P,N,ids⟩ o env σ s:=by
 cases b:o.op<;>rw[b]at a
 case lookup T x y ok=>
  cases ok with
  |true=>cases a
  |false=>
   simp only[xh]at a;split at a
   .rename_i J d;split at a
    .rename_i F H h;split at a
     .rename_i D C z K I u;split at a
      .rename_i E g;obtain⟨c,⟨⟩⟩:=dG a;simp only[Bool.and_eq_true,Bool.not_eq_true']at c;obtain⟨⟨⟨⟨⟨⟨⟨⟨i,f⟩,e⟩,m⟩,j⟩,G⟩,q⟩,p⟩,r⟩:=c;obtain rfl:=Nat.eq_of_beq_eq_true i;obtain rfl:=Nat.eq_of_beq_eq_true f;obtain rfl:=Nat.eq_of_beq_eq_true e;cases A;refine⟨axr l enc b (auS d) (auS h) u g v B (by simpa using m) (by simpa using j) (λz=>?_) q p r,?_⟩
       all_goals simp_all
      .cases a
     .cases a
    .cases a
   .cases a
 all_goals (simp only[xh]at a;cases a)
def r2{α:Type}{SA UB c5:Nat}{k:IntKind}(aM sz e2 t:Nat)(l:List (Int×List α))(n:Int)(enc:α->List U)(a:gi P SA UB c5 k)(d:∀w,(zeroValue c5).run P w=.ok (.slice none 0 0) w):Hint P:=
 .gs true ([.int k n,.agg (dc k l)],[(1,.bp (ek aM sz enc l))]) (xh SA UB c5 aM sz e2 t k l n enc) λ_ _ _ _ _ _ _ b c=>MT a d b c
def Gk(env:ah)(σ:W)(aM sz:Nat)(z:Operand):Option (cg×List (List U)):=match env.bS z with
 |some .bC=>some ([],[])
 |some (.own a)=>(match σ.get a with
  |some (.slice b c xs 0 _)=>bif Nat.beq b aM&&Nat.beq c sz then some ([a],xs)else none
  |_=>none)
 |_=>none
def s2{α:Type}(SA UB c5 aM sz e2:Nat)(k:IntKind)(UO:List (Int×List α))(enc:α->List U)(ids:cg)(T:Nat)(x y z:Operand)(env:ah)(σ:W):Option (bP×bL×Option (fV×Nat)):=match env.bS x with
  |some (.cc a)=>(match env.bS y with
   |some (.int f g)=>(match σ.get a with
    |some (.dB K E e keys d h)=>(match σ.get e with
     |some (.bp c)=>(match Gk env σ aM sz z with
      |some (b,xs)=>bif Nat.beq T SA&&Nat.beq K UB&&Nat.beq E c5&&(σ.get e2).isNone&&!ids.contains e2&&σ.clean [e2].contains then
       some (.e (a::e::e2::b) [e2] .undef ((e2,.bp (ek aM sz enc UO))::(a,.dB K E e2 (dc k UO) none none)::σ.minus (a::e::b)),([.int f g,.agg keys,.aL false xs],[(1,.bp c)]),d)else none
      |none=>none)
     |_=>none)
    |_=>none)
   |_=>none)
  |_=>none
variable {T:Nat}{UO:List (Int×List α)}{ks:List U}{x:Operand}
theorem MU{l:List (Int×List α)}{n:Int}{row:List α}(u:gi P SA UB c5 k){ids:cg}{s:bP}{e:Option (fV×Nat)}{y z:Operand}
  (j:o.op=.mapUpdate T x y z\/o.op=.insert T x y z) (b:s2 SA UB c5 aM sz e2 k UO enc ids T x y z env σ=some (s,SC,e)) (J:SC=([.int k n,.agg ks,.aL false (row.map enc)],[(1,.bp (ek aM sz enc l))])) (I:dc k l=ks) (H:bc l n row=UO) (m:e=none\/∃t,e=hL l n t) (E:row.map enc=[]->row=[]):c7 ⟨P,N,ids⟩ o env σ s:=by
 subst I H;simp only[s2]at b;split at b
 .rename_i W g;split at b
  .rename_i O Q i;split at b
   .rename_i L K X Y V R r;split at b
    .rename_i M h;split at b
     .rename_i S Z a;obtain⟨v,⟨⟩⟩:=dG b;simp only[Bool.and_eq_true,Bool.not_eq_true']at v;obtain⟨⟨⟨⟨⟨D,C⟩,A⟩,p⟩,d⟩,q⟩:=v;obtain rfl:=Nat.eq_of_beq_eq_true D;obtain rfl:=Nat.eq_of_beq_eq_true C;obtain rfl:=Nat.eq_of_beq_eq_true A;cases J;simp only[Gk]at a;split at a
      .rename_i f;simp only[Option.some.injEq,Prod.mk.injEq]at a;obtain⟨rfl,a⟩:=a;exact⟨av5 (bK:=false) [] l enc row j (auS g) (auS i) (.inl ⟨auS f,E a.symm,rfl⟩) r m h u (by simpa using p) d q,by simp only[List.all_cons,List.all_nil,d];rfl⟩
      .rename_i w f;split at a
       .rename_i F G U bK B;cases c:(Nat.beq F aM&&Nat.beq G sz)with
        |false=>rw[c]at a;cases a
        |true=>
         rw[c]at a;simp only[cond_true,Option.some.injEq,Prod.mk.injEq]at a;obtain⟨rfl,rfl⟩:=a;simp only[Bool.and_eq_true]at c;obtain rfl:=Nat.eq_of_beq_eq_true c.1;obtain rfl:=Nat.eq_of_beq_eq_true c.2;exact⟨av5 (bK:=bK) [w] l enc row j (auS g) (auS i) (.inr ⟨w,auS f,B,rfl⟩) r m h u (by simpa using p) d q,by simp only[List.all_cons,List.all_nil,d];rfl⟩
       .grind
      .cases a
     .cases b
    .cases b
   .cases b
  .cases b
 .cases b
def k7:Option (fV×Nat)->U
 |none=>.dg
 |some (none,t)=>.own t
 |some (some i,t)=>.ptr t i
def KC:∀{a b:Option (fV×Nat)},k7 a=k7 b->a=b
 |none,none,_=>rfl
 |some (none,t),some (none,c),h=>by simp only[k7,U.own.injEq]at h;rw[h]
 |some (some i,t),some (some d,c),h=>by simp only[k7,U.ptr.injEq]at h;rw[h.1,h.2]
 |none,some (none,_),h|none,some (some _,_),h|some (none,_),none,h|some (some _,_),none,h|some (none,_),some (some _,_),h|some (some _,_),some (none,_),h=>by simp[k7]at h
def qv{α:Type}(SA UB c5 aM sz e2:Nat)(k:IntKind)(UO:List (Int×List α))(enc:α->List U)(ids:cg)(op:Op)(env:ah)(σ:W):Option (bP×bL):=match op with
 |.mapUpdate T x y z=>(match s2 SA UB c5 aM sz e2 k UO enc ids T x y z env σ with|some (s,SC,a)=>some (s,(k7 a::SC.1,SC.2))|none=>none)
 |.insert T x y z=>(match s2 SA UB c5 aM sz e2 k UO enc ids T x y z env σ with|some (s,SC,a)=>some (s,(k7 a::SC.1,SC.2))|none=>none)
 |_=>none
theorem Fi{l:List (Int×List α)}{n:Int}{row:List α}{e:Option (fV×Nat)}(r:gi P SA UB c5 k)(w:dc k l=ks)(v:bc l n row=UO)(m:e=none\/∃t,e=hL l n t){ids:cg}{s:bP}
  (a:qv SA UB c5 aM sz e2 k UO enc ids o.op env σ=some (s,SC)) (h:SC=([k7 e,.int k n,.agg ks,.aL false (row.map enc)],[(1,.bp (ek aM sz enc l))])):c7 ⟨P,N,ids⟩ o env σ s:=by
 have q:row.map enc=[]->row=[]:=λa=>List.map_eq_nil_iff.1 a;have z:∀{T:Nat} {x b c:Operand} (g:Option (fV×Nat)) (d:bL),(o.op=.mapUpdate T x b c\/o.op=.insert T x b c)->s2 SA UB c5 aM sz e2 k UO enc ids T x b c env σ=some (s,d,g)->SC=(k7 g::d.1,d.2)->c7 ⟨P,N,ids⟩ o env σ s:=by
  intro T x b c g d f i j;rw[j]at h;simp only[Prod.mk.injEq,List.cons.injEq]at h;obtain⟨⟨y,u⟩,p⟩:=h;refine MU r f i (Prod.ext u p) w v ?_ q;rw[KC y];exact m
 cases f:o.op<;>rw[f]at a
 case mapUpdate T x b c=>
  simp only[qv]at a;split at a
  .grind
  .cases a
 case insert T x b c=>
  simp only[qv]at a;split at a
  .grind
  .cases a
 all_goals (simp only[qv]at a;cases a)
def vJ{α:Type}{SA UB c5:Nat}{k:IntKind}(aM sz e2:Nat)(l:List (Int×List α))(n:Int)(enc:α->List U)(row:List α)(a:gi P SA UB c5 k):Hint P:=
 .gs true ([k7 none,.int k n,.agg (dc k l),.aL false (row.map enc)],[(1,.bp (ek aM sz enc l))]) (qv SA UB c5 aM sz e2 k (bc l n row) enc) λ_ _ _ _ _ _ _ b c=>Fi a rfl rfl (.inl rfl) b c
def vp{α:Type}{SA UB c5:Nat}{k:IntKind}(aM sz e2:Nat)(l:List (Int×List α))(n:Int)(enc:α->List U)(row:List α)(t:Nat)(a:gi P SA UB c5 k):Hint P:=
 .gs true ([k7 (hL l n t),.int k n,.agg (dc k l),.aL false (row.map enc)],[(1,.bp (ek aM sz enc (gI l n)))]) (qv SA UB c5 aM sz e2 k (bc l n row) enc) λ_ _ _ _ _ _ _ b c=>Fi a (Da k l n) (DT l n row) (.inr ⟨t,(Jm l n t).symm⟩) b c
def we{α:Type}(SA:Nat)(k:IntKind)(l:List (Int×α))(n:Int)(enc:α->U)(z:α)(op:Op)(env:ah)(σ:W):Option (bP×bL):=match op with
 |.lookup T x y ok=>(match env.bS x with
  |some (.b8 c)=>(match env.bS y with
   |some (.int a b)=>bif Nat.beq T SA then some (.y [] (bif ok then .bO [enc ((ay l n).getD z),.bool (ay l n).isSome]else enc ((ay l n).getD z)),([.b8 c,.int a b],[]))else none
   |_=>none)
  |some (.cc d)=>(match env.bS y with
   |some (.int a b)=>(match σ.get d with
    |some (.er es clock K E c)=>bif Nat.beq T SA then some (.y [d] (bif ok then .bO [enc ((ay l n).getD z),.bool (ay l n).isSome]else enc ((ay l n).getD z)),([.b8 c,.int a b],[]))else none
    |_=>none)
   |_=>none)
  |_=>none)
 |_=>none
variable {clock:Nat}{es:dK}
def awA{G:bQ}{ev:Operand->U}{K E m q d:Nat}{y:Operand}{f:Bool}{n:Int}(l:List (Int×α))(enc:α->U)(z:α)(b:o.op=.lookup T x y f)(g:ev x=.cc d)(h:ev y=.int k n)(p:σ.get d=some (.er es clock m q (bg k enc l)))
  (r:gi G.P T K E k) (s:∀w,∃v,(zeroValue E).run G.P w=.ok v w/\∀I,aN I (enc z) v) :
  Yields G o ev σ [] [d] (bif f then .bO [enc ((ay l n).getD z),.bool (ay l n).isSome]else enc ((ay l n).getD z)):=
 .pure λu cx I A w t j i e=>by
  have c:=e x (by simp[b,Op.operands]);rw[g]at c
  have a:=e y (by simp[b,Op.operands]);rw[h]at a;have a:=fW a
  exact BL l enc z b (JG i (by rw[j d (by simp)];exact p) c) a r s
variable {l:List (Int×α)}
def MV{n:Int}{enc:α->U}{z:α}(f:gi P SA UB c5 k)(h:∀w,∃v,(zeroValue c5).run P w=.ok v w/\∀I,aN I (enc z) v){ids:cg}{s:bP}
  (a:we SA k l n enc z o.op env σ=some (s,SC)) (g:SC=([.b8 (bg k enc l),.int k n],[])):c7 ⟨P,N,ids⟩ o env σ s:=by
 cases e:o.op<;>rw[e]at a
 case lookup T x y ok=>
  simp only[we]at a;split at a
  .rename_i p b;split at a
   .rename_i i j d;obtain⟨c,⟨⟩⟩:=dG a;obtain rfl:=Nat.eq_of_beq_eq_true c;cases g;exact awF l enc z e (auS b) (auS d) f h
   .cases a
  .rename_i t b;split at a
   .rename_i i j d;split at a
    .rename_i es clock r q p m;obtain⟨c,⟨⟩⟩:=dG a;obtain rfl:=Nat.eq_of_beq_eq_true c;cases g;exact awA l enc z e (auS b) (auS d) m f h
    .cases a
   .cases a
  .cases a
 all_goals (simp only[we]at a;cases a)
def g4{α:Type}{SA UB c5:Nat}{k:IntKind}(l:List (Int×α))(n:Int)(enc:α->U)(z:α)(a:gi P SA UB c5 k)(d:∀w,∃v,(zeroValue c5).run P w=.ok v w/\∀I,aN I (enc z) v):Hint P:=
 .gs false ([.b8 (bg k enc l),.int k n],[]) (λ_=>we SA k l n enc z) λ_ _ _ _ _ _ _ b c=>MV a d b c
def wI(SA:Nat)(n:Int)(op:Op)(env:ah)(_:W):Option (bP×bL):=match op with
 |.call c=>(match c.callee with
  |.builtin b=>(match b with
   |.len=>(match c.args.toList with
    |[x]=>(match c.argTypes.toList with
     |[T]=>(match env.bS x with
      |some (.b8 a)=>bif Nat.beq T SA then some (.y [] (.int .i64 n),([.b8 a],[]))else none
      |_=>none)
     |_=>none)
    |_=>none)
   |_=>none)
  |_=>none)
 |_=>none
def MW{enc:α->U}(g:gi P SA UB c5 k){ids:cg}{s:bP}
  (a:wI SA (l.length:Int) o.op env σ=some (s,SC)) (i:SC=([.b8 (bg k enc l)],[])):c7 ⟨P,N,ids⟩ o env σ s:=by
 cases b:o.op<;>rw[b]at a
 case call c=>
  obtain⟨p,args,j⟩:=c;simp only[wI]at a;split at a
  .rename_i m;split at a
   .split at a
    .rename_i x f;have:args=#[x]:=Array.toList_inj.1 (by simpa using f);subst this;split at a
     .rename_i T h;have:j=#[T]:=Array.toList_inj.1 (by simpa using h);subst this;split at a
      .rename_i n d;obtain⟨e,⟨⟩⟩:=dG a;obtain rfl:=Nat.eq_of_beq_eq_true e;cases i;exact awV l enc b rfl (auS d) g.ee
      .cases a
     .cases a
    .cases a
   .cases a
  .cases a
 all_goals (simp only[wI]at a;cases a)
def QL{α:Type}{SA UB c5:Nat}{k:IntKind}(l:List (Int×α))(enc:α->U)(a:gi P SA UB c5 k):Hint P:=
 .gs false ([.b8 (bg k enc l)],[]) (λ_=>wI SA (l.length:Int)) λ_ _ _ _ _ _ _ b c=>MW (l:=l) (enc:=enc) a b c
def vB{α:Type}(SA UB:Nat)(k:IntKind)(l:List (Int×α))(n:Int)(enc:α->U)(op:Op)(env:ah)(σ:W):Option (bP×bL):=match op with
 |.call c=>(match c.callee with
  |.builtin b=>(match b with
   |.delete=>(match c.args.toList with
    |[x,y]=>(match c.argTypes.toList with
     |[T,K]=>(match env.bS x with
      |some (.cc d)=>(match env.bS y with
       |some (.int e f)=>(match σ.get d with
        |some (.map a E g)=>bif Nat.beq T SA&&Nat.beq K UB&&Nat.beq a UB then some (.e [d] [] (.bO []) (σ.set d (.map a E (bg k enc (h6 l n)))),([.b8 g,.int e f],[(0,.cells E [])]))else none
        |_=>none)
       |_=>none)
      |_=>none)
     |_=>none)
    |_=>none)
   |_=>none)
  |_=>none)
 |_=>none
theorem MX{n:Int}{enc:α->U}(q:gi P SA UB c5 k){ids:cg}{s:bP}
  (a:vB SA UB k l n enc o.op env σ=some (s,SC)) (t:SC=([.b8 (bg k enc l),.int k n],[(0,.cells c5 [])])):c7 ⟨P,N,ids⟩ o env σ s:=by
 cases d:o.op<;>rw[d]at a
 case call c=>
  obtain⟨D,args,u⟩:=c;simp only[vB]at a;split at a
  .rename_i B;split at a
   .split at a
    .rename_i x v m;have:args=#[x,v]:=Array.toList_inj.1 (by simpa using m);subst this;split at a
     .rename_i T f r;have:u=#[T,f]:=Array.toList_inj.1 (by simpa using r);subst this;split at a
      .rename_i E e;split at a
       .rename_i y z g;split at a
        .rename_i A w C p;obtain⟨b,⟨⟩⟩:=dG a;simp only[Bool.and_eq_true]at b;obtain⟨⟨h,i⟩,j⟩:=b;obtain rfl:=Nat.eq_of_beq_eq_true h;obtain rfl:=Nat.eq_of_beq_eq_true i;obtain rfl:=Nat.eq_of_beq_eq_true j;cases t;exact⟨axl l enc d (auS e) (auS g) p q,rfl⟩
        .grind
       .cases a
      .cases a
     .cases a
    .cases a
   .cases a
  .cases a
 all_goals (simp only[vB]at a;cases a)
def gn{α:Type}{SA UB c5:Nat}{k:IntKind}(l:List (Int×α))(n:Int)(enc:α->U)(a:gi P SA UB c5 k):Hint P:=
 .gs true ([.b8 (bg k enc l),.int k n],[(0,.cells c5 [])]) (λ_=>vB SA UB k l n enc) λ_ _ _ _ _ _ _ b c=>MX a b c
def wW(SA bz:Nat)(es:dK)(clock:Nat)(ids:cg)(op:Op)(env:ah)(σ:W):Option (bP×bL):=match op with
 |.range T x=>(match env.bS x with
  |some (.cc b4)=>(match σ.get b4 with
   |some a=>(match a.nr with
    |some (b,c)=>bif Nat.beq T SA&&!ids.contains bz&&σ.clean [bz].contains then some (.e [bz] [bz] (.ptr bz 0) ((bz,.iter b4 clock clock #[])::σ),([],[(0,.er b c 0 0 [])]))else none
    |_=>none)
   |_=>none)
  |_=>none)
 |_=>none
variable {bz:Nat}
def MY(j:gi P SA UB c5 k){ids:cg}{s:bP}
  (a:wW SA bz es clock ids o.op env σ=some (s,SC)) (l:SC=([],[(0,.er es clock 0 0 [])])):c7 ⟨P,N,ids⟩ o env σ s:=by
 cases c:o.op<;>rw[c]at a
 case range T x=>
  simp only[wW]at a;split at a
  .rename_i b4 e;split at a
   .rename_i m h;split at a
    .rename_i n p i;obtain⟨b,⟨⟩⟩:=dG a;simp only[Bool.and_eq_true,Bool.not_eq_true']at b;obtain⟨⟨f,d⟩,g⟩:=b;obtain rfl:=Nat.eq_of_beq_eq_true f;cases l;exact⟨cB.range c (auS e) h i j.ee d g,by simp only[List.all_cons,List.all_nil,d];rfl⟩
    .cases a
   .cases a
  .cases a
 all_goals (simp only[wW]at a;cases a)
def GP{SA UB c5:Nat}{k:IntKind}(bz:Nat)(es:dK)(clock:Nat)(a:gi P SA UB c5 k):Hint P:=
 .gs true ([],[(0,.er es clock 0 0 [])]) (wW SA bz es clock) λ_ _ _ _ _ _ _ b c=>MY a b c
def m4(bz b4:Nat)(a:U)(rows:Bool)(op:Op)(env:ah)(σ:W):Option (bP×bL):=match op with
 |.entry x=>(match env.bS x with
  |some (.ptr b 0)=>(match σ.get bz with
   |some d=>(match σ.get b4 with
    |some (.er es c K E f)=>bif Nat.beq b bz&&!rows then some (.y [bz,b4] a,([.b8 f],[(0,d),(1,.er es c 0 0 [])]))else none
    |some (.dB K E e keys g (some (es,c)))=>bif Nat.beq b bz&&rows then some (.y [bz,b4] a,([.agg keys],[(0,d),(1,.er es c 0 0 [])]))else none
    |_=>none)
   |_=>none)
  |_=>none)
 |_=>none
variable {b4 i:Nat}{seen:iz}
theorem MZ{e:MapEntry}{n:Int}{v:α}{enc:α->U}(g:es[i]?=some e)(j:l[i]?=some (n,v)){ids:cg}{s:bP}
  (a:m4 bz b4 (.bO [.int k n,enc v]) false o.op env σ=some (s,SC)) (d:SC=([.b8 (bg k enc l)],[(0,.iter b4 clock clock (seen.push e.born)),(1,.er es clock 0 0 [])])):c7 ⟨P,N,ids⟩ o env σ s:=by
 cases c:o.op<;>rw[c]at a
 case entry x=>
  simp only[m4]at a;split at a
  .rename_i m f;split at a
   .rename_i u p;split at a
    .rename_i t y r q w h;cases b:Nat.beq m bz with
     |false=>rw[b]at a;cases a
     |true=>
      rw[b]at a;have:=Nat.eq_of_beq_eq_true b;subst this;cases a;simp only[Prod.mk.injEq,List.cons.injEq,U.b8.injEq,b1.er.injEq,and_true,true_and]at d;obtain⟨rfl,rfl,rfl,rfl⟩:=d;exact awG l enc c (auS f) p h g j
    all_goals grind
   .cases a
  .cases a
 all_goals (simp only[m4]at a;cases a)
def vI{α:Type}{es:dK}{i:Nat}{e:MapEntry}{n:Int}{v:α}{l:List (Int×α)}(bz b4 clock:Nat)(k:IntKind)(seen:iz)(enc:α->U)(a:es[i]?=some e)(b:l[i]?=some (n,v)):Hint P:=
 .gs false ([.b8 (bg k enc l)],[(0,.iter b4 clock clock (seen.push e.born)),(1,.er es clock 0 0 [])]) (λ_=>m4 bz b4 (.bO [.int k n,enc v]) false) λ_ _ _ _ _ _ _ c d=>MZ a b c d
theorem M0{e:MapEntry}{n:Int}(g:es[i]?=some e)(j:(l.map (·.1))[i]?=some n){ids:cg}{s:bP}
  (a:m4 bz b4 (.bO [.int k n,.dg]) true o.op env σ=some (s,SC)) (d:SC=([.agg (dc k l)],[(0,.iter b4 clock clock (seen.push e.born)),(1,.er es clock 0 0 [])])):c7 ⟨P,N,ids⟩ o env σ s:=by
 cases c:o.op<;>rw[c]at a
 case entry x=>
  simp only[m4]at a;split at a
  .rename_i m f;split at a
   .rename_i v p;split at a
    .grind
    .rename_i r q e y t u w h;cases b:Nat.beq m bz with
     |false=>rw[b]at a;cases a
     |true=>
      rw[b]at a;have:=Nat.eq_of_beq_eq_true b;subst this;cases a;simp only[Prod.mk.injEq,List.cons.injEq,U.agg.injEq,b1.er.injEq,and_true,true_and]at d;obtain⟨rfl,rfl,rfl,rfl⟩:=d;exact awH l c (auS f) p h g j
    .cases a
   .cases a
  .cases a
 all_goals (simp only[m4]at a;cases a)
def QH{α:Type}{es:dK}{i:Nat}{e:MapEntry}{n:Int}{l:List (Int×α)}(bz b4 clock:Nat)(k:IntKind)(seen:iz)(a:es[i]?=some e)(b:(l.map (·.1))[i]?=some n):Hint P:=
 .gs false ([.agg (dc k l)],[(0,.iter b4 clock clock (seen.push e.born)),(1,.er es clock 0 0 [])]) (λ_=>m4 bz b4 (.bO [.int k n,.dg]) true) λ_ _ _ _ _ _ _ c d=>M0 a b c d
end
variable {G:bQ}{I:a2}{cx:c2}{w:World}
def QY{σ:W}{β:Nat->Value}{α:Type}{k:IntKind}{enc:α->U}{b4 K E clock:Nat}{es:dK}{l:List (Int×α)}(c:bG G cx I β σ w)(d:σ.get b4=some (.er es clock K E (bg k enc l)))(e:β b4≠.nilFunc):es.size=l.length:=by
 have a:=c.b5 b4 _ d;simp only[bb,e,false_or]at a;obtain⟨h,f,g,b,_⟩:=a;have:=BE _ _ b;simpa [bg]using this
def Ak{σ:W}{β:Nat->Value}{α:Type}{k:IntKind}{b4 K E e clock:Nat}{es:dK}{g:Option (fV×Nat)}{l b:List (Int×α)}(d:bG G cx I β σ w)(i:σ.get b4=some (.dB K E e (dc k l) g (some (es,clock))))(m:β b4≠.nilFunc)(j:l.map (·.1)=b.map (·.1)):es.size=b.length:=by
 have a:=d.b5 b4 _ i;simp only[bb,m,false_or]at a;obtain⟨A,x,y,z,t,q,r,o,p,f,s,u,v,h⟩:=a;cases h _ rfl;have n:=f.length.2;have c:=congrArg List.length j;simp[dc]at n c;omega
def BT{α:Type}:∀{l:List (Int×α)} {n:Int} (v:α),(ay l n).isSome=true->(bc l n v).map (·.1)=l.map (·.1)
 |[],_,_,h=>by simp[ay]at h
 |p::r,n,v,h=>by
  rw[fP]at h;by_cases a:p.1=n
  .simp[bc,a]
  .rw[if_neg a]at h;simp[bc,a,BT v h]
def M1{α:Type}{l a:List (Int×α)}{i:Nat}{n:Int}{v:α}(c:l.map (·.1)=a.map (·.1))(b:a[i]?=some (n,v)):(l.map (·.1))[i]?=some n:=by rw[c];simp[b]
end
section
section
variable {G:bQ}{σ:W}{o:Oper}{ev:Operand->U}
def Jo{P:Program}{E:TypeId}{i:TypeInfo}{z a:Value}{w:World}(hi:P.info? E=some i)(c:i.zero=some z)(b:(zeroValue E).run P w=.ok a w):a=z:=by
 simp[zeroValue,typeInfo,hi,c]at b;exact b.symm
theorem cB.makeSlice{T E bytes d:Nat}{x y:Operand}{k ag:IntKind}{n:Int}{a:U}{X:Value}(h:o.op=.makeSlice T x y)(u:ev x=.int k n)(D:ev y=.int ag n)(ai:gO G.P T E 1 bytes)(aB:jx G.P T E 1 [X])(aR:∀I,aN I a X)(ao:0<=n)(aa:n<=4294967296)(aW:bytes<=65536)
  (hi:G.ids.contains d=false) (aq:σ.clean [d].contains=true):eL G o ev σ [d] [d] (λr aA=>r=.own d/\aA=(d,.slice E 1 (List.replicate n.toNat [a]) 0 false)::σ):=by
 intro cx I β w aw F hop;have O:=hop x (by simp[h,Op.operands]);rw[u]at O;have O:=fW O
 have Q:=hop y (by simp[h,Op.operands]);rw[D]at Q;have Q:=fW Q
 obtain⟨i,z,am,ak,aF,aG,aV⟩:=ai.info;obtain⟨aI,aD,aC⟩:=aB.zero w;have:=Jo am ak aD;subst this;have aM:(i.bytes:Int)*n<=281474976710656:=by
  rw[aG];have O:(bytes:Int)*n<=(65536:Int)*4294967296:=Int.mul_le_mul (by omega) aa ao (by omega);omega
 have ar:=run_make (P:=G.P) w T E i aI ai.ee am ak k ag n n ao (Int.le_refl _) aM (by omega);rw[aF,Nat.mul_one,aC]at ar;have aE:(execOp aw o).run G.P w=.ok (.value (.slice (some ⟨w.heap.size,0,none⟩) n.toNat n.toNat)) (w.alloc (.cells (madeCells #[X] n.toNat) E)):=by simp[execOp,h,O,Q,ar]
 rw[aE];have ae:=F.jE (cw:=[d]) (σ2:=σ) (env:=[]) ⟨λ_ _=>rfl,by simpa using hi,rfl,aq,λx u aX n h=>by have:=(au8 aq x _ h).1;rw[List.contains_iff_mem.2 u]at this;cases this⟩;have aa:∀y,y≠d->et (eg β [d]) d (.slice (some ⟨w.heap.size,0,none⟩) n.toNat n.toNat) y=β y:=λy D=>by rw[ff _ _ D];simp[eg,D]
 have ab:et (eg β [d]) d (.slice (some ⟨w.heap.size,0,none⟩) n.toNat n.toNat) d=.slice (some ⟨w.heap.size,0,none⟩) n.toNat n.toNat:=eB _ _ _;refine⟨.own d,_,I,et (eg β [d]) d (.slice (some ⟨w.heap.size,0,none⟩) n.toNat n.toNat),⟨rfl,rfl⟩,?_,?_,bM.refl I,λy D=>aa y (by simpa using D),λy D=>by rw[auU,if_neg (Ne.symm (by simpa using D))]⟩
 .simp only[az,ab,fA,and_self]
 .refine ae.turn (d:=d) (dW.alloc w _) (.inl F.size) (λx u=>by rw[auU,if_neg (Ne.symm u)]) (λx u Y e=>by
    obtain⟨SC,Y⟩:=Option.isSome_iff_exists.1 Y;exact absurd (ae.k3 Y e) (by omega)) (bM.refl I) (λ_ _ _=>rfl) (λaU aT an=>by rw[F.fJ (Nat.le_refl _)]at an;cases an) (F.fJ (Nat.le_refl _) none)
   (λx u=>ff _ _ u) (.inl (by simpa using hi)) (avi (by simp[eg])) (.inl (by rw[ab];rfl)) λSC af=>?_
  rw[auU,if_pos rfl]at af;cases af;simp only[bb,ab];refine .inr (.inr ⟨w.heap.size,n.toNat,_,by rw[List.length_replicate],by rw[List.length_replicate];exact Nat.le_refl _,by simp[maxLen];omega,heap_alloc_new w _,by rw[size_madeCells,Nat.mul_one],?_,λe aS=>by rw[List.eq_of_mem_replicate aS];rfl,Nat.zero_le _,by simp,λo _=>F.fJ (Nat.le_refl _) o,.inl F.size⟩);rw[toList_madeCells_one,List.length_replicate,Nat.mul_one];have:∀m:Nat,bX I (List.replicate m [a]).flatten (List.replicate m X):=by
   intro m;induction m with
   |zero=>simp[bX]
   |succ m ax=>
    simp only[List.replicate_succ,List.flatten_cons,List.singleton_append,bX];exact⟨_,_,rfl,aR I,ax⟩
  grind
def av4{T E N sz d off:Nat}{x y:Operand}{k:IntKind}{i:Int}(b:o.op=.indexAddr T x y)(g:ev x=.ptr d off)(h:ev y=.int k i)(p:G.P.underlying T=some (.array N E))(m:∀w,(sizeOf E).run G.P w=.ok sz w)(hi:0<=i/\i<N):
  Yields G o ev σ [] [] (.ptr d (off+i.toNat*sz)):=
 .pure λt v q z w r u s f=>by
  have c:=f x (by simp[b,Op.operands]);rw[g]at c
  have a:=f y (by simp[b,Op.operands]);rw[h]at a;have a:=fW a
  simp only[az]at c;obtain⟨e,l,j⟩:=c;have n:∀w,(underlying T).run G.P w=.ok (.array N E) w:=λw=>by simp[underlying,program,Sem.run,p]
  exact⟨.pointer (some ⟨e,off+i.toNat*sz,none⟩),by simp[execOp,b,a,j,Instr.indexAt,Instr.sureAddr,asIntOf,n,hi,m,Addr.add],by simp only[az];exact⟨e,l,rfl⟩⟩
end
def Dh{p c:Nat->Option (Nat×Nat)}(d:∀i q,p i=some q->c i=some q):∀(parts:List (Nat×Value)) (cs a:eN),Instr.fill p cs parts=some a->Instr.fill c cs parts=some a
 |[],cs,a,e=>e
 |(i,v)::r,cs,a,e=>by
  simp only[Instr.fill]at e ⊢;cases b:p i with
  |none=>rw[b]at e;cases e
  |some q=>
   rw[b]at e;rw[d i q b];simp only at e ⊢;split at e
   .cases e
   .rename_i f;rw[if_neg f];exact Dh d r _ _ e
def GZ(n sz:Nat):List (Nat×Nat):=(List.range n).map λa=>(a*sz,sz)
def rJ{P:Program}{T E n sz:Nat}{a:c4}(o:∀w,∃z,(zeroValue T).run P w=.ok z w/\z.cells=a.toArray)(m:P.underlying T=some (.array n E))(h:∀w,(sizeOf E).run P w=.ok sz w):n2 P T a (GZ n sz) where
 run:=λparts i w k=>by
  have e:Instr.fill (λd=>some (d*sz,sz)) a.toArray parts.toList=some i:=Dh (λd r b=>by
   simp only[GZ,List.getElem?_map,Option.map_eq_some_iff]at b;obtain⟨q,l,rfl⟩:=b;obtain⟨p,c⟩:=List.getElem?_eq_some_iff.1 l;rw[List.getElem_range]at c;rw[c]) _ _ _ k
  have j:∀w,(underlying T).run P w=.ok (.array n E) w:=λw=>by simp[underlying,program,Sem.run,m]
  obtain⟨z,g,f⟩:=o w;unfold Instr.build;simp only[Sem.run_bind,g,Result.andThen_ok,j,h,f];simp only[e];rfl
section
variable {P:Program}
def wF{α:Type}(SA d E:Nat)(f:α)(e:α->List U)(n:Int)(ids:cg)(op:Op)(env:ah)(σ:W):Option (bP×bL):=match op with
 |.makeSlice a x y=>(match env.bS x with
  |some (.int _ b)=>(match env.bS y with
   |some (.int _ c)=>bif Nat.beq a SA&&!ids.contains d&&σ.clean [d].contains then some (.e [d] [d] (.own d) ((d,.slice E 1 ((List.replicate n.toNat f).map e) 0 false)::σ),([.int .i64 b,.int .i64 c],[]))else none
   |_=>none)
  |_=>none)
 |_=>none
variable {E N SA:Nat}{SC:bL}{env:ah}
def M2{α:Type}{bytes d:Nat}{g:α}{e:α->List U}{n:Int}{a:U}{i:Value}(q:gO P SA E 1 bytes)(m:jx P SA E 1 [i])(t:e g=[a])(w:∀I,aN I a i)(u:0<=n)(k:n<=4294967296)(v:bytes<=65536){o:Oper}{ids:cg}{σ:W}{s:bP}
  (b:wF SA d E g e n ids o.op env σ=some (s,SC)) (z:SC=([.int .i64 n,.int .i64 n],[])):c7 ⟨P,N,ids⟩ o env σ s:=by
 cases c:o.op<;>rw[c]at b
 case makeSlice T x y=>
  simp only[wF]at b;split at b
  .rename_i de A j;split at b
   .rename_i aZ B l;obtain⟨h,⟨⟩⟩:=dG b;simp only[Bool.and_eq_true,Bool.not_eq_true']at h;obtain⟨⟨p,f⟩,r⟩:=h;obtain rfl:=Nat.eq_of_beq_eq_true p;cases z;rw[List.map_replicate,t];exact⟨cB.makeSlice c (auS j) (auS l) q m w u k v f r,by simp only[List.all_cons,List.all_nil,f];rfl⟩
   .cases b
  .cases b
 all_goals (simp only[wF]at b;cases b)
def ou{α:Type}{SA E bytes:Nat}{a:U}{f:Value}(d:Nat)(c:α)(e:α->List U)(n:Int)(h:gO P SA E 1 bytes)(g:jx P SA E 1 [f])(i:e c=[a])(k:∀I,aN I a f)(b:(decide (0<=n)&&decide (n<=4294967296))=true)(j:bytes<=65536):Hint P:=
 .gs true ([.int .i64 n,.int .i64 n],[]) (wF SA d E c e n) λ_ _ _ _ _ _ _ l m=>by
  simp only[Bool.and_eq_true,decide_eq_true_eq]at b;exact M2 h g i k b.1 b.2 j l m
def vz(SA:Nat)(d:c4)(b:List (Nat×Nat))(op:Op)(env:ah):Option (bP×bL):=match op with
 |.build a parts=>(match env.k9 parts.toList with
  |some c=>(match o5 b (iO d) c with
   |some cs=>bif Nat.beq a SA then some (.y [] (.agg cs),([],[]))else none
   |none=>none)
  |none=>none)
 |_=>none
def M3{d:c4}{c:List (Nat×Nat)}(g:n2 P SA d c){o:Oper}{ids:cg}{σ:W}{s:bP}(a:vz SA d c o.op env=some (s,SC)):c7 ⟨P,N,ids⟩ o env σ s:=by
 cases b:o.op<;>rw[b]at a
 case build T parts=>
  simp only[vz]at a;split at a
  .rename_i j f;split at a
   .rename_i i e;obtain⟨h,⟨⟩⟩:=dG a;obtain rfl:=Nat.eq_of_beq_eq_true h;exact bf.build b g f e
   .cases a
  .cases a
 all_goals (simp only[vz]at a;cases a)
def kv{SA:Nat}{b:c4}{a:List (Nat×Nat)}(c:n2 P SA b a):Hint P:=.gs false ([],[]) (λ_ e env _=>vz SA b a e env) λ_ _ _ _ _ _ _ d _=>M3 c d
def vM(SA b sz:Nat)(op:Op)(env:ah):Option (bP×bL):=match op with
 |.indexAddr a x y=>(match env.bS x with
  |some (.ptr d off)=>(match env.bS y with
   |some (.int _ i)=>bif Nat.beq a SA&&(decide (0<=i)&&decide (i<(b:Int)))then some (.y [] (.ptr d (off+i.toNat*sz)),([],[]))else none
   |_=>none)
  |_=>none)
 |_=>none
def M4{d sz:Nat}(h:P.underlying SA=some (.array d E))(g:∀w,(sizeOf E).run P w=.ok sz w){o:Oper}{ids:cg}{σ:W}{s:bP}(a:vM SA d sz o.op env=some (s,SC)):c7 ⟨P,N,ids⟩ o env σ s:=by
 cases c:o.op<;>rw[c]at a
 case indexAddr T x y=>
  simp only[vM]at a;split at a
  .rename_i i l e;split at a
   .rename_i k j f;obtain⟨b,⟨⟩⟩:=dG a;simp only[Bool.and_eq_true,decide_eq_true_eq]at b;obtain rfl:=Nat.eq_of_beq_eq_true b.1;exact av4 c (auS e) (auS f) h g b.2
   .cases a
  .cases a
 all_goals (simp only[vM]at a;cases a)
def lH{SA a E sz:Nat}(d:P.underlying SA=some (.array a E))(b:∀w,(sizeOf E).run P w=.ok sz w):Hint P:=.gs false ([],[]) (λ_ e env _=>vM SA a sz e env) λ_ _ _ _ _ _ _ c _=>M4 d b c
end
end
section
def encS{α:Type}(T:TypeId)(sz:Nat)(enc:α->List U)(l:List (List α)):List dS:=l.map λa=>.sl T sz (a.map enc)
def xU{α:Type}{T:TypeId}{sz:Nat}{enc:α->List U}(l:List (List α))(i:Nat)(r:List α):encS T sz enc (l.set i r)=(encS T sz enc l).set i (.sl T sz (r.map enc)):=by simp[encS,List.map_set]
section weak
variable {G:bQ}{env:ah}{σ:W}
variable {T:Nat}{α:Type}
theorem avO{d e n:Nat}(aM sz:Nat)(enc:α->List U)(ag:0<n)(q:σ.get d=some (.slice T 1 (List.replicate n [.bC]) 0 false))(R:σ.get e=none)(hi:G.ids.contains e=false)(i:env.clean [e].contains=true)(N:σ.clean [e].contains=true):
  bJ G env σ env ((e,.bp (encS aM sz enc (List.replicate n [])))::(d,.cF T e n none)::σ.minus [d]):=λQ m g af V x A=>by
 have gn:d≠e:=λI=>by subst I;rw[R]at q;cases q
 have ae:e∉G.ids:=by simpa using hi
 let f:eN:=(List.replicate n (Value.slice none 0 0)).toArray
 refine⟨m,et g e (.tuple f),?_,vo A i λa b=>ff g _ b⟩;have u:et g e (.tuple f) e=.tuple f:=eB _ _ _;have P:et g e (.tuple f) d=g d:=ff g _ gn
 have ak:∀k,k∉b3 (Value.tuple f):=λk i=>by
  rw[hX]at i;obtain⟨w,S,t⟩:=List.mem_filterMap.1 i;have:w=Value.slice none 0 0:=List.eq_of_mem_replicate (by simpa [f]using S);rw[this]at t;cases t
 have O:∀a,a∈[d,e]->∀o,W.get ((e,b1.bp (encS aM sz enc (List.replicate n [])))::(d,.cF T e n none)::σ.minus [d]) a=some o->(a=d/\o=.cF T e n none)\/(a=e/\o=.bp (encS aM sz enc (List.replicate n []))):=λa b o s=>by
  rw[jB]at s;split at s
  .grind
  .grind
 have ai:∀a,a∈[d,e]->a=d\/a=e:=λa b=>by simpa using b
 have an:∀c:Nat,eH Q m V (encS aM sz enc (List.replicate c [])) (List.replicate c (Value.slice none 0 0)):=by
  intro c;induction c with
  |zero=>rfl
  |succ c j=>
   simp only[List.replicate_succ,encS,List.map_cons,List.map_nil,eH]at j ⊢;exact⟨_,_,rfl,Or.inl ⟨rfl,rfl⟩,λr (D:none=some r)=>(by cases D),j⟩
 refine x.rz (M:=[d,e]) (news:=[e]) (λa b=>?_) (λa b=>ff g _ (by simpa using b)) (λa b=>?_) (λa o _ p=>(au8 N a o p).2) (λa b o p=>?_) (λa b c0 k i=>?_) (λa b aq ao ab dM c0 k i X=>?_)
 .simp only[List.mem_cons,List.not_mem_nil,or_false,not_or]at b;rw[jB,if_neg (Ne.symm b.2),if_neg (Ne.symm b.1),if_neg (by simp[b.1])]
 .grind
 .rcases O a b o p with⟨rfl,rfl⟩|⟨rfl,rfl⟩
  .have:=x.b5 a _ q;simp only[bb,P,u]at this ⊢;rcases this with y|⟨y,am,_⟩|⟨r,aR,v,E,F,B,C,J,H,Z,aa,Y,K,L⟩
   .exact .inl y
   ·
    simp_all
   .refine .inr ⟨r,aR,v,f,by simpa using E,by simpa using F,B,C,by simpa using J,rfl,by simp[f],?_,λo=>K o (by omega),L⟩;have:∀(c:Nat) (l:c4),bX m (List.replicate c [U.bC]).flatten l->l=List.replicate c (Value.slice none 0 0):=by
     intro c;induction c with
     |zero=>intro l h;simpa [bX]using h
     |succ c j=>
      intro l h;simp only[List.replicate_succ,List.flatten_cons,List.singleton_append,bX,aN]at h;obtain⟨w,z,rfl,rfl,h⟩:=h;rw[j z h,List.replicate_succ]
    have:=this n _ (by simpa using H);show v.toList.take n=f.toList;rw[this]
  .simp only[bb,u]
   grind
 .grind
 .grind
variable {aM e2 sz t:Nat}{bK:Bool}
def avL{d e n i:Nat}(l:List (List α))(enc:α->List U)(row:List α)
  (k:σ.get d=some (.cF T e n (some (some i,t)))) (s:σ.get e=some (.bp (encS aM sz enc (l.set i [])))) (f:σ.get t=some (.slice aM sz (row.map enc) 0 bK))
  (g:σ.get e2=none) (j:G.ids.contains e2=false) (m:env.clean [e2].contains=true) (h:σ.clean [e2].contains=true) :
  bJ G env σ env ((e2,.bp (encS aM sz enc (l.set i row)))::(d,.cF T e2 n none)::σ.minus [d,e,t]):=λv b x u w q c=>by
 obtain⟨o,r,a⟩:=q.back k rfl s f g (by simpa using j) h;refine⟨b,o,?_,vo c m r⟩;have p:(encS aM sz enc (l.set i [])).set i (.sl aM sz (row.map enc))=encS aM sz enc (l.set i row):=by rw[<-xU,List.set_set]
 rw[p]at a;exact a
theorem awk{d e n:Nat}{i:Int}{row:List α}(l:List (List α))(enc:α->List U)(hi:bq l i=some row)
  (g:σ.get d=some (.cF T e n (some (some i.toNat,t)))) (m:σ.get e=some (.bp (encS aM sz enc (l.set i.toNat [])))) (a:σ.get t=some (.slice aM sz (row.map enc) 0 bK))
  (b:σ.get e2=none) (f:G.ids.contains e2=false) (h:env.clean [e2].contains=true) (c:σ.clean [e2].contains=true) :
  bJ G env σ env ((e2,.bp (encS aM sz enc l))::(d,.cF T e2 n none)::σ.minus [d,e,t]):=by
 have k:=avL l enc row g m a b f h c;have j:l.set i.toNat row=l:=by
  unfold bq at hi;split at hi
  .apply List.ext_getElem?
   grind
  .cases hi
 rwa [j]at k
end weak
section
variable {G:bQ}{σ:W}{o:Oper}{ev:Operand->U}
variable {T:Nat}{Tv:List dS}{UF:Option (fV×Nat)}
def qQ{cx:c2}{I:a2}{β:Nat->Value}{w:World}(g:bG G cx I β σ w){d e n:Nat}(v:σ.get d=some (.cF T e n UF))(y:σ.get e=some (.bp Tv))(x:β d≠.nilFunc):
  ∃b aR c,∃a:eN,β d=.slice (some ⟨b,0,none⟩) n aR/\n<=aR/\aR<=maxLen/\w.heap[b]?=some (.cells c T (0,0))/\c.size=aR/\β e=.tuple a/\a.size=n/\kH β a.toList (c.toList.take n) UF/\(∀o:Nat,I b o=none)/\Place cx b/\eH cx I w Tv a.toList/\Tv.length=n:=by
 have h:=g.b5 d _ v;simp only[bb,x,false_or]at h;obtain⟨b,aR,c,a,m,p,k,l,q,i,t,u,s,r⟩:=h;have j:=g.b5 e _ y;simp only[bb,i,Value.tuple.injEq,reduceCtorEq,false_or]at j;obtain⟨z,rfl,f⟩:=j;exact⟨b,aR,c,a,m,p,k,l,q,i,t,u,s,r,f,by have:=f.length;simp at this;omega⟩
variable {E SA:Nat}
def awE{d e n:Nat}{x y:Operand}{k:IntKind}{i:Int}(f:o.op=.indexAddr T x y)(q:ev x=.own d)(r:ev y=.int k i)(u:σ.get d=some (.cF SA e n UF))(z:σ.get e=some (.bp Tv))(l:g8 G.P T E 1)
  (hi:0<=i/\i<Tv.length):Yields G o ev σ [] [d,e] (.ptr d i.toNat):=
 .pure λH U B A c C h s p=>by
  have a:=p x (by simp[f,Op.operands]);rw[q]at a
  have b:=p y (by simp[f,Op.operands]);rw[r]at b;have b:=fW b
  simp only[az]at a;obtain⟨a,j⟩:=a;have t:A d≠.nilFunc:=λe=>by rw[a,e]at j;simp[fA]at j
  obtain⟨m,aR,S,M,g,I,D,F,K,J,P,Q,N,L,O,R⟩:=qQ s (by rw[h d (by simp)];exact u) (by rw[h e (by simp)];exact z) t;refine⟨.pointer (some ⟨m,i.toNat,none⟩),?_,by simp only[az];exact⟨m,by rw[g];rfl,rfl⟩⟩;have w:∀c,(underlying T).run G.P c=.ok (.slice E) c:=λc=>by simp[underlying,program,Sem.run,l.ee]
  rw[g]at a;have v:0<=i/\i<(n:Int):=by omega
  simp[execOp,f,a,b,Instr.indexAt,asIntOf,w,v,l.size,g2]
def awX{d e n:Nat}{x:Operand}{VO}(g:o.op=.call ⟨.builtin .len,#[x],VO⟩)(s:VO=#[T])(h:ev x=.own d)(m:σ.get d=some (.cF SA e n UF))(r:σ.get e=some (.bp Tv))(p:G.P.underlying T=some (.slice E)):
  Yields G o ev σ [] [d,e] (.int .i64 (Tv.length:Int)):=
 .pure λA O v u b w c i t=>by
  subst s;have a:=t x (by simp[g,Op.operands,Call.operands]);rw[h]at a
  simp only[az]at a;obtain⟨a,f⟩:=a;have k:u d≠.nilFunc:=λe=>by rw[a,e]at f;simp[fA]at f
  obtain⟨N,aR,M,H,j,B,y,z,D,C,K,L,I,F,J,l⟩:=qQ i (by rw[c d (by simp)];exact m) (by rw[c e (by simp)];exact r) k;rw[j]at a;have q:∀b,(underlying T).run G.P b=.ok (.slice E) b:=λb=>by simp[underlying,program,Sem.run,p]
  exact⟨.int .i64 n,by simp[execOp,g,resolve,invoke,builtin,Builtin.len_,a,q,goInt],by simp[az,aN,l]⟩
variable {aM e2 p sz:Nat}{α:Type}
theorem axq{d e t n:Nat}{x:Operand}(l:List (List α))(enc:α->List U)(row:List α)(z:o.op=.load T x)(E:ev x=.ptr d p)(w:σ.get d=some (.cF SA e n none))(A:σ.get e=some (.bp (encS aM sz enc l)))(v:l[p]?=some row)(ab:dN G.P T 1 false)
  (H:σ.get t=none) (W:σ.get e2=none) (ae:t≠e2) (af:G.ids.contains t=false) (Z:G.ids.contains e2=false) (Q:σ.clean [t,e2].contains=true) :
  eL G o ev σ [d,e,e2,t] [t,e2] (λr K=>r=.own t/\K=(t,.slice aM sz (row.map enc) 0 false)::(e2,.bp (encS aM sz enc (l.set p [])))::(d,.cF SA e2 n (some (some p,t)))::σ.minus [d,e]):=by
 intro aD k D j I q ai;have a:=ai x (by simp[z,Op.operands]);rw[E]at a
 simp only[az]at a;obtain⟨y,a,F⟩:=a;have u:D d≠.nilFunc:=λe=>by rw[e]at a;cases a
 obtain⟨m,aR,h,i,L,ao,am,J,aq,M,aB,P,ax,aw,aA,Y⟩:=qQ q w A u;have S:m=y:=by rw[L]at a;simpa [bE]using a
 subst S;have an:p<l.length:=(List.getElem?_eq_some_iff.1 v).1;have aC:l.length=n:=by simpa [encS]using Y
 have ag:(encS aM sz enc l)[p]?=some (.sl aM sz (row.map enc)):=by simp[encS,v]
 obtain⟨c0,s,c,ar,O,R⟩:=q.take w rfl A ag u H W ae (by simpa using af) (by simpa using Z) Q;rw[M]at s;cases s
 have X:h[p]?=some c:=by
  have:(h.toList.take n)[p]?=i.toList[p]?:=by rw[show h.toList.take n=i.toList from P]
  grind
 have V:∀f,f<1->∃C,[c][f]?=some C/\j.cell? ⟨m,p+f,none⟩=some C:=λf ak=>by
  have:f=0:=by omega
  subst this;exact⟨c,rfl,by simp[World.cell?,J,X]⟩
 have aa:=m9 ab (vs:=[c]) V (λ_=>by omega);have N:(execOp I o).run G.P j=.ok (.value c) j:=by
  simp[execOp,z,F,Instr.loadAt,Instr.sureAddr,aa]
 rw[N];refine⟨.own t,_,k,λg=>if g=t then c else if g=e2 then .tuple (i.setIfInBounds p (.slice none 0 0))else D g,⟨rfl,rfl⟩,?_,?_,bM.refl k,λg b=>?_,λg b=>?_⟩
 .simp only[az,if_true];refine⟨trivial,?_⟩;rcases O with⟨B,_⟩|⟨y,aR,h,B,_⟩<;>rw[B]<;>rfl
 .rw[xU];exact R
 .grind
 .simp only[List.mem_cons,List.not_mem_nil,or_false,not_or]at b;rw[n5,if_neg (Ne.symm b.2.2.2),if_neg (Ne.symm b.2.2.1),if_neg (Ne.symm b.1),if_neg (by simp[b.1,b.2.1])]
theorem axn{d e j n:Nat}{bK:Bool}{x y:Operand}(l:List (List α))(enc:α->List U)(row:List α)(Z:o.op=.store T x y)(ax:ev x=.ptr d p)(a:ev y=.own j)(v:σ.get j=some (.slice aM sz (row.map enc) 0 bK))(L:σ.get d=some (.cF SA e n none))(D:σ.get e=some (.bp (encS aM sz enc l)))(bg:p<l.length)(a4:dN G.P T 1 false)
  (aZ:σ.get e2=none) (a3:G.ids.contains e2=false) (aW:σ.clean [e2].contains=true) :
  eL G o ev σ [d,e,e2,j] [e2] (λr aE=>r=.undef/\aE=(e2,.bp (encS aM sz enc (l.set p row)))::(d,.cF SA e2 n none)::σ.minus [d,e,j]):=by
 intro bc F g u aB s aw;have q:=aw x (by simp[Z,Op.operands]);rw[ax]at q
 have w:=aw y (by simp[Z,Op.operands]);rw[a]at w
 simp only[az]at q w;obtain⟨b,q,aA⟩:=q;obtain⟨w,ao⟩:=w;have aV:g d≠.nilFunc:=λe=>by rw[e]at q;cases q
 obtain⟨k,aR,z,t,O,aF,aC,N,bh,aa,aS,aU,ae,ab,aI,a0⟩:=qQ s L D aV;have aY:k=b:=by rw[O]at q;simpa [bE]using q
 subst aY;have bk:l.length=n:=by simpa [encS]using a0
 have af:=avm (s.b5 j _ v) λe=>(by rw[w,e]at ao;cases ao);have bj:e2∉G.ids:=by simpa using a3
 have B:(σ.get d).isSome:=by rw[L];rfl
 have fU:(σ.get e).isSome:=by rw[D];rfl
 have X:(σ.get j).isSome:=by rw[v];rfl
 have gn:d≠e:=λm=>by subst m;rw[L]at D;cases D
 have a8:d≠j:=λm=>by subst m;rw[L]at v;cases v
 have a9:e≠j:=λm=>by subst m;rw[D]at v;cases v
 have aG:∀y,(σ.get y).isSome->y≠e2:=λy a e=>by subst e;rw[aZ]at a;cases a
 have S:k∈b3 (g d):=gv q;have ai:(g j).oneCell'=true/\(g j).cells=#[g j]:=by
  rcases af with⟨h,_⟩|⟨c,bi,bl,h,_⟩<;>rw[h]<;>exact⟨rfl,rfl⟩
 have a1:=p2 (P:=G.P) N [g j] (off:=p) (by simp;omega) (λbs aD=>by rw[List.mem_singleton.1 aD];exact ai.1);have aT:(execOp aB o).run G.P u=.ok .skip (u.setRow k (ei z.toList p [g j]).toArray):=by
  have br:((#[g j]:eN).size≠1)=False:=by simp
  simp[execOp,Z,aA,w,Instr.storeAt,Instr.sureAddr,storeVar,a4.size,ai.2,a1]
 rw[aT]
 let i:eN:=t.setIfInBounds p (g j)
 have eZ:i.toList=t.toList.set p (g j):=by simp[i]
 have a6:eH bc F u (encS aM sz enc (l.set p row)) i.toList:=by
  rw[eZ,xU];refine aI.set af λE ba c _ a7 a5 aX=>?_;refine s.cA e j fU X a9 c ?_ (gv a5);rw[aa,hX];exact List.mem_filterMap.2 ⟨ba,List.mem_of_getElem? a7,aX⟩
 have ak:∀c∈i.toList.filterMap bE,c∈b3 (g e)\/c∈b3 (g j):=λc f=>by
  rw[eZ]at f;rcases xe f with f|f
  .exact .inl (by rw[aa,hX];exact f)
  .exact .inr (gv f)
 have je:∀c∈i.toList.filterMap bE,c≠k:=λc f m=>by
  subst m;rcases ak c f with h|h
  .exact s.cA d e B fU gn c S h
  .exact s.cA d j B X a8 c S h
 have ar:dW u (u.setRow k (ei z.toList p [g j]).toArray) k:=dW.setRow u k _;have I:∀y,y≠e2->(λy=>if y=e2 then(Value.tuple i)else g y) y=g y:=λy a=>if_neg a;have C:(λy=>if y=e2 then(Value.tuple i)else g y) e2=.tuple i:=if_pos rfl
 have ag:∀y,y∉[d,e,e2,j]->W.get ((e2,.bp (encS aM sz enc (l.set p row)))::(d,.cF SA e2 n none)::σ.minus [d,e,j]) y=σ.get y:=λy a=>by
  simp only[List.mem_cons,List.not_mem_nil,or_false,not_or]at a;rw[jB,if_neg (Ne.symm a.2.2.1),if_neg (Ne.symm a.1),if_neg (by simp[a.1,a.2.1,a.2.2.2])]
 generalize (λy=>if y=e2 then(Value.tuple i)else g y)=cV at I C;have V:cV d=g d:=I d (aG d B)
 have an:∀y,y∈[d,e,e2,j]->∀o,W.get ((e2,.bp (encS aM sz enc (l.set p row)))::(d,.cF SA e2 n none)::σ.minus [d,e,j]) y=some o->(y=d/\o=.cF SA e2 n none)\/(y=e2/\o=.bp (encS aM sz enc (l.set p row))):=λy a o H=>by
  rw[jB]at H;split at H
  .grind
  .grind
 have Y:∀y,y∈[d,e,e2,j]->(W.get ((e2,.bp (encS aM sz enc (l.set p row)))::(d,.cF SA e2 n none)::σ.minus [d,e,j]) y).isSome->y=d\/y=e2:=λy a t=>by
  obtain⟨o,H⟩:=Option.isSome_iff_exists.1 t;rcases an y a o H with h|h
  .exact .inl h.1
  .exact .inr h.1
 have aq:∀c,c∈b3 (cV d)->c∉b3 (cV e2):=λc f A=>by
  rw[V,O]at f;have:c=k:=by simpa [b3,bE]using f
  exact je c (by rw[C]at A;exact A) this
 refine⟨.undef,_,F,cV,⟨rfl,rfl⟩,by simp[az,aN],?_,bM.refl F,λy a=>I y (by simpa using a),λy a=>ag y a⟩;refine s.redo (M:=[d,e,e2,j]) (news:=[e2]) (b:=k) (cV:=cV) ar (λo=>?_) (λy a t m=>?_) ab (λy a=>ag y a) (λy a=>I y (by simpa using a)) (λy a=>?_) (λy o _ R=>(au8 aW y o R).2) (λy a o R=>?_) (λy a c0 c f=>?_) (λy a bf be am dM c0 c f A=>?_)
 .cases o with
  |none=>exact s.kW N
  |some o=>exact ae o
 .exact s.cA d y B t (λe=>a (by simp[e])) k S m
 .grind
 .rcases an y a o R with⟨rfl,rfl⟩|⟨rfl,rfl⟩
  .simp only[bb,V,C];refine .inr ⟨k,aR,_,i,O,aF,aC,setRow_heap u k z _ SA _ N,by simp only[ei,List.size_toArray,List.length_append,List.length_take,List.length_drop,List.length_singleton,Array.length_toList];omega,rfl,by simp[i,aS],?_,ae,ab⟩;show(ei z.toList p [g j]).take n=i.toList;rw[eZ,<-show z.toList.take n=t.toList from aU];apply List.ext_getElem?;intro E;have bn:p<z.toList.length:=by simp;omega
   rw[List.getElem?_take,List.getElem?_set,List.getElem?_take];simp only[ei,List.length_singleton];by_cases J:E<n
   .rw[if_pos J,if_pos J];by_cases K:p=E
    .subst K;rw[if_pos rfl,if_pos (by simp;omega),List.append_assoc,List.getElem?_append_right (by simp;omega),List.length_take,Nat.min_eq_left (by omega)];simp
    .rw[if_neg K];by_cases Q:E<p
     .rw[List.append_assoc,List.getElem?_append_left (by simp;omega),List.getElem?_take,if_pos Q]
     .rw[List.getElem?_append_right (by simp;omega),List.getElem?_drop];congr 1;simp only[List.length_append,List.length_take,List.length_singleton];omega
   .rw[if_neg J,if_neg J];by_cases K:p=E
    .omega
    .rw[if_neg K]
  .simp only[bb];exact .inr ⟨i,C,a6.go (bM.refl F) λc f=>⟨λQ=>ar.block c (je c f) Q,λ_=>rfl,id⟩⟩
 .rcases Y y a c0 with rfl|rfl
  .rw[V]at f;exact⟨y,by simp,B,f⟩
  .rw[C]at f;rcases ak c f with h|h
   .exact⟨e,by simp,fU,h⟩
   .exact⟨j,by simp,X,h⟩
 .rcases Y y a dM with rfl|rfl<;>rcases Y bf be c0 with rfl|rfl
  .exact am rfl
  .exact aq c f A
  .exact aq c A f
  .exact am rfl
end
end
section
section
variable {P:Program}
def vP(SA:Nat)(op:Op)(env:ah)(σ:W):Option (bP×bL):=match op with
 |.indexAddr a x y=>(match env.bS x with
  |some (.own d)=>(match env.bS y with
   |some (.int k i)=>(match σ.get d with
    |some (.cF c e n f)=>(match σ.get e with
     |some (.bp b)=>bif Nat.beq a SA then some (.y [d,e] (.ptr d i.toNat),([.int .i64 i],[(0,.bp b)]))else none
     |_=>none)
    |_=>none)
   |_=>none)
  |_=>none)
 |_=>none
variable {E N SA aM sz:Nat}{SC:bL}{env:ah}{i:Int}{o:Oper}{α:Type}{enc:α->List U}{l:List (List α)}{σ:W}
def MI{row:List α}(g:g8 P SA E 1)(hi:bq l i=some row){ids:cg}{s:bP}
  (a:vP SA o.op env σ=some (s,SC)) (j:SC=([.int .i64 i],[(0,.bp (encS aM sz enc l))])):c7 ⟨P,N,ids⟩ o env σ s:=by
 cases b:o.op<;>rw[b]at a
 case indexAddr T x y=>
  simp only[vP]at a;split at a
  .rename_i r c;split at a
   .rename_i u q e;split at a
    .rename_i m t v n f;split at a
     .rename_i k d;obtain⟨h,⟨⟩⟩:=dG a;obtain rfl:=Nat.eq_of_beq_eq_true h;cases j;refine awE b (auS c) (auS e) f d g ?_;unfold bq at hi;split at hi
      .rename_i p;have:=(List.getElem?_eq_some_iff.1 hi).1;simp only[encS,List.length_map];omega
      .cases hi
     .cases a
    .cases a
   .cases a
  .cases a
 all_goals (simp only[vP]at a;cases a)
def hp{α:Type}{SA E:Nat}{l:List (List α)}{i:Int}{row:List α}(aM sz:Nat)(enc:α->List U)(a:g8 P SA E 1)(hi:bq l i=some row):Hint P:=
 .gs false ([.int .i64 i],[(0,.bp (encS aM sz enc l))]) (λ_=>vP SA) λ_ _ _ _ _ _ _ b c=>MI a hi b c
def wJ(SA:Nat)(n:Int)(op:Op)(env:ah)(σ:W):Option (bP×bL):=match op with
 |.call c=>(match c.callee with
  |.builtin b=>(match b with
   |.len=>(match c.args.toList with
    |[x]=>(match c.argTypes.toList with
     |[a]=>(match env.bS x with
      |some (.own d)=>(match σ.get d with
       |some (.cF g e m h)=>(match σ.get e with
        |some (.bp f)=>bif Nat.beq a SA then some (.y [d,e] (.int .i64 n),([],[(0,.bp f)]))else none
        |_=>none)
       |_=>none)
      |_=>none)
     |_=>none)
    |_=>none)
   |_=>none)
  |_=>none)
 |_=>none
theorem MJ(i:g8 P SA E 1){ids:cg}{s:bP}
  (a:wJ SA (l.length:Int) o.op env σ=some (s,SC)) (m:SC=([],[(0,.bp (encS aM sz enc l))])):c7 ⟨P,N,ids⟩ o env σ s:=by
 cases b:o.op<;>rw[b]at a
 case call c=>
  obtain⟨v,args,n⟩:=c;simp only[wJ]at a;split at a
  .rename_i u;split at a
   .split at a
    .rename_i p g;have:args=#[p]:=Array.toList_inj.1 (by simpa using g);subst this;split at a
     .rename_i f k;have:n=#[f]:=Array.toList_inj.1 (by simpa using k);subst this;split at a
      .rename_i w d;split at a
       .rename_i r x y t h;split at a
        .rename_i q e;obtain⟨j,⟨⟩⟩:=dG a;obtain rfl:=Nat.eq_of_beq_eq_true j;cases m;have:=awX (G:=⟨P,N,ids⟩) b rfl (auS d) h e i.ee;rw[show(encS aM sz enc l).length=l.length by simp[encS]]at this;exact this
        .grind
       .cases a
      .cases a
     .cases a
    .cases a
   .cases a
  .cases a
 all_goals (simp only[wJ]at a;cases a)
def kz{α:Type}{SA E:Nat}(aM sz:Nat)(enc:α->List U)(l:List (List α))(a:g8 P SA E 1):Hint P:=
 .gs false ([],[(0,.bp (encS aM sz enc l))]) (λ_=>wJ SA (l.length:Int)) λ_ _ _ _ _ _ _ b c=>MJ a b c
def wk{α:Type}(SA aM sz e2 t p:Nat)(l:List (List α))(row:List α)(enc:α->List U)(ids:cg)(op:Op)(env:ah)(σ:W):Option (bP×bL):=match op with
 |.load a x=>(match env.bS x with
  |some (.ptr d f)=>(match σ.get d with
   |some (.cF c e n none)=>(match σ.get e with
    |some (.bp b)=>bif Nat.beq a SA&&(σ.get t).isNone&&(σ.get e2).isNone&&!Nat.beq t e2&&!ids.contains t&&!ids.contains e2&&σ.clean [t,e2].contains then
      some (.e [d,e,e2,t] [t,e2] (.own t) ((t,.slice aM sz (row.map enc) 0 false)::(e2,.bp (encS aM sz enc (l.set p [])))::(d,.cF c e2 n (some (some p,t)))::σ.minus [d,e]),([.ptr 0 f],[(1,.bp b)]))else none
    |_=>none)
   |_=>none)
  |_=>none)
 |_=>none
variable {e2:Nat}
theorem MK{t:Nat}{row:List α}(q:dN P SA 1 false)(hi:bq l i=some row){ids:cg}{s:bP}
  (a:wk SA aM sz e2 t i.toNat l row enc ids o.op env σ=some (s,SC)) (u:SC=([.ptr 0 i.toNat],[(1,.bp (encS aM sz enc l))])):c7 ⟨P,N,ids⟩ o env σ s:=by
 cases b:o.op<;>rw[b]at a
 case load T x=>
  simp only[wk]at a;split at a
  .rename_i A z d;split at a
   .rename_i y r B p;split at a
    .rename_i w g;obtain⟨c,⟨⟩⟩:=dG a;simp only[Bool.and_eq_true,Bool.not_eq_true']at c;obtain⟨⟨⟨⟨⟨⟨h,f⟩,e⟩,v⟩,j⟩,k⟩,m⟩:=c;obtain rfl:=Nat.eq_of_beq_eq_true h;cases u;have n:l[i.toNat]?=some row:=by
      unfold bq at hi
      grind
     refine⟨axq l enc row b (auS d) p g n q (by simpa using f) (by simpa using e) (λr=>?_) j k m,?_⟩
     all_goals simp_all
    .cases a
   .cases a
  .cases a
 all_goals (simp only[wk]at a;cases a)
def AO{α:Type}{SA:Nat}{l:List (List α)}{i:Int}{row:List α}(aM sz e2 t:Nat)(enc:α->List U)(a:dN P SA 1 false)(hi:bq l i=some row):Hint P:=
 .gs true ([.ptr 0 i.toNat],[(1,.bp (encS aM sz enc l))]) (wk SA aM sz e2 t i.toNat l row enc) λ_ _ _ _ _ _ _ b c=>MK a hi b c
def xb{α:Type}(SA aM sz e2 p:Nat)(l:List (List α))(row:List α)(enc:α->List U)(ids:cg)(op:Op)(env:ah)(σ:W):Option (bP×bL):=match op with
 |.store b x y=>(match env.bS x with
  |some (.ptr d h)=>(match env.bS y with
   |some (.own a)=>(match σ.get a with
    |some (.slice g i xs 0 _)=>(match σ.get d with
     |some (.cF f e n none)=>(match σ.get e with
      |some (.bp c)=>bif Nat.beq b SA&&Nat.beq g aM&&Nat.beq i sz&&(σ.get e2).isNone&&!ids.contains e2&&σ.clean [e2].contains then
        some (.e [d,e,e2,a] [e2] .undef ((e2,.bp (encS aM sz enc (l.set p row)))::(d,.cF f e2 n none)::σ.minus [d,e,a]),([.ptr 0 h,.aL false xs],[(1,.bp c)]))else none
      |_=>none)
     |_=>none)
    |_=>none)
   |_=>none)
  |_=>none)
 |_=>none
theorem ML{u row:List α}(t:dN P SA 1 false)(hi:bq l i=some u){ids:cg}{s:bP}
  (a:xb SA aM sz e2 i.toNat l row enc ids o.op env σ=some (s,SC)) (v:SC=([.ptr 0 i.toNat,.aL false (row.map enc)],[(1,.bp (encS aM sz enc l))])):c7 ⟨P,N,ids⟩ o env σ s:=by
 cases b:o.op<;>rw[b]at a
 case store T x y=>
  simp only[xb]at a;split at a
  .rename_i D B e;split at a
   .rename_i F k;split at a
    .rename_i A C H bK g;split at a
     .rename_i z E G r;split at a
      .rename_i w j;obtain⟨d,⟨⟩⟩:=dG a;simp only[Bool.and_eq_true,Bool.not_eq_true']at d;obtain⟨⟨⟨⟨⟨n,h⟩,f⟩,p⟩,c⟩,q⟩:=d;obtain rfl:=Nat.eq_of_beq_eq_true n;obtain rfl:=Nat.eq_of_beq_eq_true h;obtain rfl:=Nat.eq_of_beq_eq_true f;cases v;have m:i.toNat<l.length:=by
        unfold bq at hi
        grind
       exact⟨axn (bK:=bK) l enc row b (auS e) (auS k) g r j m t (by simpa using p) c q,by simp only[List.all_cons,List.all_nil,c];rfl⟩
      .cases a
     .cases a
    .cases a
   .cases a
  .cases a
 all_goals (simp only[xb]at a;cases a)
def AQ{α:Type}{SA:Nat}{l:List (List α)}{i:Int}{b:List α}(aM sz e2:Nat)(enc:α->List U)(row:List α)(a:dN P SA 1 false)(hi:bq l i=some b):Hint P:=
 .gs true ([.ptr 0 i.toNat,.aL false (row.map enc)],[(1,.bp (encS aM sz enc l))]) (xb SA aM sz e2 i.toNat l row enc) λ_ _ _ _ _ _ _ c d=>ML a hi c d
def wE(SA d E:Nat)(n:Int)(ids:cg)(op:Op)(env:ah)(σ:W):Option (bP×bL):=match op with
 |.makeSlice a x y=>(match env.bS x with
  |some (.int _ b)=>(match env.bS y with
   |some (.int _ c)=>bif Nat.beq a SA&&!ids.contains d&&σ.clean [d].contains then some (.e [d] [d] (.own d) ((d,.slice E 1 (List.replicate n.toNat [.bC]) 0 false)::σ),([.int .i64 b,.int .i64 c],[]))else none
   |_=>none)
  |_=>none)
 |_=>none
def MM{bytes d:Nat}{n:Int}(k:gO P SA E 1 bytes)(i:jx P SA E 1 [.slice none 0 0])(m:0<=n)(g:n<=4294967296)(p:bytes<=65536){ids:cg}{s:bP}
  (a:wE SA d E n ids o.op env σ=some (s,SC)) (q:SC=([.int .i64 n,.int .i64 n],[])):c7 ⟨P,N,ids⟩ o env σ s:=by
 cases b:o.op<;>rw[b]at a
 case makeSlice T x y=>
  simp only[wE]at a;split at a
  .rename_i de t f;split at a
   .rename_i aZ u h;obtain⟨e,⟨⟩⟩:=dG a;simp only[Bool.and_eq_true,Bool.not_eq_true']at e;obtain⟨⟨j,c⟩,l⟩:=e;obtain rfl:=Nat.eq_of_beq_eq_true j;cases q;exact⟨cB.makeSlice b (auS f) (auS h) k i (λr=>by simp[aN]) m g p c l,by simp only[List.all_cons,List.all_nil,c];rfl⟩
   .cases a
  .cases a
 all_goals (simp only[wE]at a;cases a)
def AP{SA E bytes:Nat}(d:Nat)(n:Int)(c:gO P SA E 1 bytes)(b:jx P SA E 1 [.slice none 0 0])(a:(decide (0<n)&&decide (n<=4294967296))=true)(e:bytes<=65536):Hint P:=
 .gs true ([.int .i64 n,.int .i64 n],[]) (wE SA d E n) λ_ _ _ _ _ _ _ f g=>by
  simp only[Bool.and_eq_true,decide_eq_true_eq]at a;exact MM c b (by omega) a.2 e f g
end
theorem Ab{n:Int}(a:(decide (0<n)&&decide (n<=4294967296))=true):0<n.toNat:=by grind
end
section
def lW{cE α:Type}(q:cE->cE->Bool)(l:List (cE×α))(n:cE):Option α:=(l.find? λa=>q n a.1).map (·.2)
def g7{cE α:Type}(q:cE->cE->Bool):List (cE×α)->cE->α->List (cE×α)
 |[],n,v=>[(n,v)]
 |p::r,n,v=>bif q n p.1 then(n,v)::r else p::g7 q r n v
def e5{cE α:Type}(dz:cE->U)(enc:α->U)(l:List (cE×α)):List (U×U):=l.map λa=>(dz a.1,enc a.2)
def iD{cE:Type}(e:fx cE)(x:cE):U:=.agg (e.enc x)
structure vq(P:Program)(K:TypeId){cE:Type}(dz:cE->U)(q:cE->cE->Bool):Prop where
 plain:∀a,(dz a).plain=true
 closed:∀a,(dz a).closed=true
 now:∃kd,P.underlying K=some kd/\∀a v,Instr.sameNow kd (valOf (dz a)) v=none
 eq:∀a b w,(Op.equal K (valOf (dz a)) (valOf (dz b))).run P w=.ok (q a b) w
 dR:∀e a w,(Instr.checkKey e 10000 K (valOf (dz a))).run P w=.ok () w
 same:∀a b,q a b=true->a=b
 bits:∀a,Instr.sameBits 10000 (valOf (dz a)) (valOf (dz a))=true
structure rK(P:Program)(T K E:TypeId){cE:Type}(dz:cE->U)(q:cE->cE->Bool):Prop where
 ee:P.underlying T=some (.map K E)
 key:vq P K dz q
def aN.plain{I:a2}{a:U}{v:Value}(u:a.plain=true)(h:aN I a v):v=valOf a:=oR (β:=λ_=>Go.undef) a v u (aN.rep _ _ _ h)
section
variable {P:Program}{I:a2}{cE α:Type}{K:TypeId}{dz:cE->U}{q:cE->cE->Bool}{enc:α->U}
theorem Di(k:vq P K dz q)(n:cE)(w:World):∀(l:List (cE×α)) (es:iw) (i:Nat) (a:α),c3 I (e5 dz enc l) es->lW q l n=some a->
  ∃j v,(Instr.findAsking K (valOf (dz n)) es i).run P w=.ok (some (i+j,v)) w/\aN I (enc a) v/\∃e,es[j]?=some e/\e.key=valOf (dz n)/\
   ∀(b:α) (g:Value) (d:MapEntry->MapEntry),aN I (enc b) g->(∀e,aN I (dz n) (d e).key/\(d e).val=g)->c3 I (e5 dz enc (g7 q l n b)) (es.modify j d)
 |[],es,i,a,h,f=>by simp[lW]at f
 |(m,b)::r,es,i,a,h,f=>by
  simp only[e5,List.map_cons,c3]at h;obtain⟨e,z,rfl,u,s,C⟩:=h;have p:=aN.plain (k.plain m) u;have o:=k.eq n m w;cases c:q n m with
  |true=>
   have:=k.same n m c;subst this;simp only[lW,List.find?,c,Option.map_some,Option.some.injEq]at f;subst f;rw[c]at o;refine⟨0,e.val,?_,s,e,rfl,p,?_⟩
   .rw[Instr.findAsking];simp[p,o]
   .intro t g d y x;simp only[g7,c,cond_true,e5,List.map_cons,c3,List.modify_zero_cons]
    grind
  |false=>
   have G:lW q r n=some a:=by simpa [lW,List.find?,c]using f
   obtain⟨j,v,H,D,E,A,B,F⟩:=Di k n w r z (i+1) a C G;rw[c]at o;refine⟨j+1,v,?_,D,E,by simpa using A,B,?_⟩
   .rw[Instr.findAsking];simp only[Sem.run_bind,p,o,Result.andThen_ok]
    grind
   .intro t g d y x;simp only[g7,c,cond_false,e5,List.map_cons,c3,List.modify_succ_cons];exact⟨e,_,rfl,u,s,F t g d y x⟩
theorem Dj(g:vq P K dz q)(n:cE)(w:World):∀(l:List (cE×α)) (es:iw) (i:Nat),c3 I (e5 dz enc l) es->lW q l n=none->
  (Instr.findAsking K (valOf (dz n)) es i).run P w=.ok none w/\∀(b:α) (e:MapEntry),aN I (enc b) e.val->aN I (dz n) e.key->c3 I (e5 dz enc (g7 q l n b)) (es++[e])
 |[],es,i,h,d=>by
  simp only[e5,List.map_nil,c3]at h;subst h;refine⟨rfl,λb e f j=>?_⟩;simp only[g7,e5,List.map_cons,List.map_nil,c3,List.nil_append];exact⟨e,[],rfl,j,f,rfl⟩
 |(m,c)::r,es,i,h,d=>by
  simp only[e5,List.map_cons,c3]at h;obtain⟨e,p,rfl,k,o,s⟩:=h;have z:=aN.plain (g.plain m) k;have x:=g.eq n m w;have a:q n m=false:=by
   cases a:q n m with
   |false=>rfl
   |true=>simp[lW,List.find?,a]at d
  rw[a]at x;have v:lW q r n=none:=by simpa [lW,List.find?,a]using d
  obtain⟨y,t⟩:=Dj g n w r p (i+1) s v;refine⟨?_,λb u f j=>?_⟩
  .rw[Instr.findAsking]
   simp_all
  .simp only[g7,a,cond_false,e5,List.map_cons,c3,List.cons_append];exact⟨e,_,rfl,k,o,t b u f j⟩
def KE(b:vq P K dz q)(n:cE)(w:World)(es:iw):(Instr.findKey K (valOf (dz n)) es).run P w=(Instr.findAsking K (valOf (dz n)) es).run P w:=by
 obtain⟨f,d,c⟩:=b.now;have a:∀w,(underlying K).run P w=.ok f w:=λw=>by simp[underlying,program,Sem.run,d]
 cases es with
 |nil=>simp[Instr.findKey,a,Instr.findNow,Instr.findAsking]
 |cons e r=>
  rw[Instr.findKey];simp only[Sem.run_bind,a,Result.andThen_ok,Instr.findNow,c]
end
section
variable {G:bQ}{σ:W}{o:Oper}{ev:Operand->U}
theorem axf{cE α:Type}{T K E d:Nat}{dz:cE->U}{q:cE->cE->Bool}{x y z:Operand}{n:cE}(l:List (cE×α))(enc:α->U)(v:α)(c:o.op=.mapUpdate T x y z\/o.op=.insert T x y z)(f:ev x=.cc d)(ai:ev y=dz n)(aM:ev z=enc v)(aC:(enc v).closed=true)
  {aa ab:Nat} (C:σ.get d=some (.map aa ab (e5 dz enc l))) (e:rK G.P T K E dz q) :
  eL G o ev σ [d] [] (λr ak=>r=.undef/\ak=σ.set d (.map aa ab (e5 dz enc (g7 q l n v)))):=by
 intro aS I F b H u D;have B:x∈o.op.operands/\y∈o.op.operands/\z∈o.op.operands:=by rcases c with c|c<;>simp[c,Op.operands]
 have af:=D x B.1;rw[f]at af
 have g:=D y B.2.1;rw[ai]at g
 have aE:=az.closed _ _ (e.key.closed n) g;have g:=oR _ _ (e.key.plain n) g;have k:=D z B.2.2;rw[aM]at k
 have k:=az.closed _ _ aC k;obtain⟨r,h,aG,Z,N,m,L,t,R,O⟩:=xy u C af;have ae:∀b,(underlying T).run G.P b=.ok (.map K E) b:=λb=>by simp[underlying,program,Sem.run,e.ee]
 have Q:=l7 (P:=G.P) m;have W:=e.key.dR false n b;have Y:=KE e.key n b h.toList
 have X:∀j:Obj,(setObj r j).run G.P b=.ok () {b with heap:=b.heap.setIfInBounds r j}:=λj=>by
  have:=fo m;simp[setObj,Sem.run,m]
 have aD:∃i s,(execOp H o).run G.P b=.ok .skip {b with heap:=b.heap.setIfInBounds r (.map i s)}/\c3 I (e5 dz enc (g7 q l n v)) i.toList/\fM i s:=by
  cases J:lW q l n with
  |none=>
   obtain⟨w,V⟩:=Dj e.key n b l h.toList 0 L J;have A:(Instr.findKey K (valOf (dz n)) h.toList).run G.P b=.ok none b:=by rw[Y,w]
   refine⟨_,_,by rcases c with c|c<;>simp[execOp,c,Instr.mapUpdate,Z,g,ae,Q,W,A,X]<;>rfl,?_,?_⟩
   rotate_left
   .exact O.push _ _
   simpa using V v ⟨valOf (dz n),H z,aG⟩ k (by rw[<-g];exact aE)
  |some a=>
   obtain⟨ag,aF,w,V,am,aq,ax,aR⟩:=Di e.key n b l h.toList 0 a L J;have A:(Instr.findKey K (valOf (dz n)) h.toList).run G.P b=.ok (some (0+ag,aF)) b:=by rw[Y,w]
   have ar:h[ag]?=some am:=by simpa using aq
   have aA:(Instr.keyThatStays (valOf (dz n)) (valOf (dz n))).run G.P b=.ok (valOf (dz n)) b:=by simp[Instr.keyThatStays,e.key.bits n]
   refine⟨_,_,by rcases c with c|c<;>simp[execOp,c,Instr.mapUpdate,Z,g,ae,Q,W,A,X,ar,ax,aA]<;>rfl,?_,?_⟩
   .grind
   .exact O.modify _ _ λ_=>rfl
 obtain⟨i,s,ao,aw,an⟩:=aD;rw[ao];refine⟨.undef,_,I,F,⟨rfl,rfl⟩,by simp[az,aN],?_,bM.refl I,λ_ _=>rfl,λx f=>by rw[au5,if_neg (by simpa using f)]⟩;have S:bE (F d)=some r:=by rw[N];rfl
 refine u.turn (d:=d) (au9 b r _) R (λx f=>by rw[au5,if_neg f]) (λx f aB aI=>u.cA x d aB (by rw[C];rfl) f r aI (gv S)) (bM.refl I) (λ_ _ _=>rfl)
  (λo v M=>by rw[t o]at M;cases M) (t none) (λ_ _=>rfl) (.inr rfl) (en.refl F) (.inl S) λj p=>?_
 rw[au5,if_pos rfl,C]at p;injection p with p
 subst p;simp only[bb];exact .inr ⟨r,i,s,N,by have:=fo m;simp[Array.getElem?_setIfInBounds,this],aw,t,R,an⟩
def QC{P:Program}{T:Nat}{xs a:eN}{r:Bool}{w:World}(d:P.underlying T=some (.struct (P.fieldsOf T)))(b:P.stoodInHeld T=false)(c:(Op.eqFields 9999 xs a (P.fieldsOf T).toList).run P w=.ok r w):(Op.equal T (.agg xs) (.agg a)).run P w=.ok r w:=by
 show(Op.equalIn 10000 T (.agg xs) (.agg a)).run P w=.ok r w;rw[run_equalIn_agg w 9999 T _ _ d b,c]
end
end
section
section
variable {P:Program}
def wm{cE α:Type}(SA:Nat)(dz:cE->U)(q:cE->cE->Bool)(l:List (cE×α))(n:cE)(enc:α->U)(v:α)(T:TypeId)(x y z:Operand)(env:ah)(σ:W):Option (bP×bL):=
 match env.bS x with
  |some (.cc d)=>(match env.bS y with
   |some a=>(match env.bS z with
    |some b=>(match σ.get d with
     |some (.map K E c)=>bif Nat.beq T SA then some (.e [d] [] .undef (σ.set d (.map K E (e5 dz enc (g7 q l n v)))),([.b8 c,a,b],[]))else none
     |_=>none)
    |_=>none)
   |_=>none)
  |_=>none
def A1{cE α:Type}(SA:Nat)(dz:cE->U)(q:cE->cE->Bool)(l:List (cE×α))(n:cE)(enc:α->U)(v:α)(op:Op)(env:ah)(σ:W):Option (bP×bL):=match op with
 |.mapUpdate a x y z=>wm SA dz q l n enc v a x y z env σ
 |.insert a x y z=>wm SA dz q l n enc v a x y z env σ
 |_=>none
variable {N SA UB c5:Nat}{SC:bL}{cE α:Type}{dz:cE->U}{env:ah}{o:Oper}{q:cE->cE->Bool}{enc:α->U}{l:List (cE×α)}{σ:W}
def E8{n:cE}{v:α}(g:rK P SA UB c5 dz q)(h:(enc v).closed=true){ids:cg}{s:bP}{T:TypeId}{x y z:Operand}
  (e:o.op=.mapUpdate T x y z\/o.op=.insert T x y z) (a:wm SA dz q l n enc v T x y z env σ=some (s,SC)) (i:SC=([.b8 (e5 dz enc l),dz n,enc v],[])):c7 ⟨P,N,ids⟩ o env σ s:=by
 simp only[wm]at a;split at a
 .rename_i t b;split at a
  .rename_i m d;split at a
   .rename_i p j;split at a
    .rename_i k E r f;obtain⟨c,⟨⟩⟩:=dG a;obtain rfl:=Nat.eq_of_beq_eq_true c;cases i;exact⟨axf l enc v e (auS b) (auS d) (auS j) h f g,rfl⟩
    .cases a
   .cases a
  .cases a
 .cases a
def MN{n:cE}{v:α}(c:rK P SA UB c5 dz q)(d:(enc v).closed=true){ids:cg}{s:bP}
  (a:A1 SA dz q l n enc v o.op env σ=some (s,SC)) (e:SC=([.b8 (e5 dz enc l),dz n,enc v],[])):c7 ⟨P,N,ids⟩ o env σ s:=by
 cases b:o.op<;>rw[b]at a
 case mapUpdate T x y z=>exact E8 c d (.inl b) a e
 case insert T x y z=>exact E8 c d (.inr b) a e
 all_goals (simp only[A1]at a;cases a)
def QI{cE α:Type}{SA UB c5:Nat}{dz:cE->U}{q:cE->cE->Bool}(l:List (cE×α))(n:cE)(enc:α->U)(v:α)(a:rK P SA UB c5 dz q)(b:(enc v).closed=true):Hint P:=
 .gs true ([.b8 (e5 dz enc l),dz n,enc v],[]) (λ_=>A1 SA dz q l n enc v) λ_ _ _ _ _ _ _ c d=>MN a b c d
def sE(d K E:Nat)(ids:cg)(op:Op)(_:ah)(_:W):Option (bP×bL):=match op with
 |.makeMap _ none=>bif !ids.contains d then some (.v d (.map K E []) (.cc d),([],[]))else none
 |_=>none
variable {E:Nat}
def MO{d K:Nat}{ids:cg}{s:bP}(a:sE d K E ids o.op env σ=some (s,SC)):c7 ⟨P,N,ids⟩ o env σ s:=by
 cases c:o.op<;>rw[c]at a
 case makeMap T r=>
  cases r with
  |some r=>simp only[sE]at a;cases a
  |none=>
   simp only[sE]at a;cases b:ids.contains d with
   |true=>rw[b]at a;cases a
   |false=>rw[b]at a;cases a;exact⟨b,br.makeMap c b⟩
 all_goals (simp only[sE]at a;cases a)
def QK(d K E:Nat):Hint P:=.gs true ([],[]) (λids=>sE d K E ids) λ_ _ _ _ _ _ _ a _=>MO a
def Ay(e:fx α){l r m:List α}(b:dP l r=some m)(c:0<l.length):0<(ag e m).length:=by
 obtain⟨_,a⟩:=CV b;rw[g9,<-a,List.length_append];omega
def vv(SA E d2 sz:Nat)(h:List (List U))(ids:cg)(op:Op)(env:ah)(σ:W):Option (bP×bL):=match op with
 |.call c=>match c.callee with
  |.builtin b=>(match b with
   |.append=>(match c.args.toList with
    |[s,x]=>(match c.argTypes.toList with
     |[d,e]=>bif Nat.beq d SA&&Nat.beq e SA&&!ids.contains d2&&σ.clean [d2].contains then(match env.bS x with
       |none=>none
       |some g=>match fG [] σ g with
        |some (.aL f a)=>(match env.bS s with
         |some (.aL true xs)=>some (.e [d2] [d2] (.own d2) ((d2,.slice E sz h 0 false)::σ),([.aL false xs,.aL false a],[]))
         |_=>none)
        |_=>none)else none
     |_=>none)
    |_=>none)
   |_=>none)
  |_=>none
 |_=>none
theorem MP{d2 sz bytes:Nat}{xs b h:List (List U)}(B:gO P SA E sz bytes)(n:pe sz bytes xs b h)(p:0<b.length){ids:cg}{s:bP}
  (a:vv SA E d2 sz h ids o.op env σ=some (s,SC)) (J:SC=([.aL false xs,.aL false b],[])):c7 ⟨P,N,ids⟩ o env σ s:=by
 obtain⟨F,k,q,r,w,A⟩:=n;cases e:o.op<;>rw[e]at a
 case call c=>
  obtain⟨O,args,K⟩:=c;simp only[vv]at a;split at a
  .split at a
   .split at a
    .rename_i t g x;have:args=#[t,g]:=Array.toList_inj.1 (by simpa using x);subst this;split at a
     .rename_i j v D;have:K=#[j,v]:=Array.toList_inj.1 (by simpa using D);subst this
      replace a:=dG a;obtain⟨d,a⟩:=a
      simp only[Bool.and_eq_true,Bool.not_eq_true']at d;obtain⟨⟨⟨l,m⟩,f⟩,u⟩:=d;obtain rfl:=Nat.eq_of_beq_eq_true l;obtain rfl:=Nat.eq_of_beq_eq_true m;split at a
      .cases a
      .rename_i M i;split at a
       .rename_i I H y;have C:fq σ (env.ev g) (.aL I H):=by rw[auS i];exact kB y
        split at a
        .rename_i L z;cases a;cases J;refine⟨?_,by simpa using f⟩;rw[<-F];exact avT (G:=⟨P,N,ids⟩) e (.inr ⟨auS z,p⟩) C B k q r w A f u
        .grind
       .cases a
     .cases a
    .cases a
   .cases a
  .cases a
 all_goals (simp only[vv]at a;cases a)
def Az{SA E sz bytes:Nat}(d2:Nat){xs a b:List (List U)}(e:gO P SA E sz bytes)(c:pe sz bytes xs a b)(d:0<a.length):Hint P:=
 .gs true ([.aL false xs,.aL false a],[]) (λids=>vv SA E d2 sz b ids) λ_ _ _ _ _ _ _ f g=>MP e c d f g
end
section hdr
variable {P:Program}
end hdr
end
end Go.Proofs.YtmnbolcmepihlaaGreat
