/- Several texts in one. No condition but those that stand in each. -/
import Derived.Maps.RangeRun
import Derived.Test.YtmnbolcmepihlaaGreatBA
import Derived.Laws.MakeOwn
import Derived.Laws.OwnMore
namespace Go.Proofs.YtmnbolcmepihlaaGreat
set_option linter.all false
open Go
section
section redo
variable {G:cq}{cx:eO}{I:bw}{β:Nat→Value}{σ:Y}{w:World}
theorem bS.redo(h:bS G cx I β σ w){M news:List Nat}{σ2:Y}{eZ:Nat→Value}{w':World}{b:Nat}(hk:gn w w' b)(RQ:∀o,I b o=none)(nA:∀x,x∉M→(σ.get x).isSome→b∉dA (β x))(aB:Place cx b)
    (sb:∀x,x∉M→σ2.get x=σ.get x) (k2:∀x,x∉news→eZ x=β x) (p2:∀x∈news,x∈M∧x∉G.ids) (hJ:∀x o,x∉M→σ.get x=some o→nw news.contains o=false)
    (AK:∀x∈M,∀o,σ2.get x=some o→aU cx I eZ w' x o)
    (EV:∀x∈M,(σ2.get x).isSome→∀c∈dA (eZ x),∃y∈M,(σ.get y).isSome∧c∈dA (β y))
    (nB:∀x∈M,∀y∈M,x≠y→(σ2.get x).isSome→(σ2.get y).isSome→∀c∈dA (eZ x),c∉dA (eZ y)):bS G cx I eZ σ2 w':=by
  have Ee:∀x,x∉M→eZ x=β x:=λx u=>k2 x λaT=>u (p2 x aT).1
  exact{
    good:=λaN o v af=>by
      have h1:=h.good aN o v af;have bQ:aN<w.heap.size:=World.block_lt_of_cell? w _ h1;have ct:aN≠b:=λe=>by subst e;rw[RQ]at af;cases af
      rw[World.cell?_of_block (w:=w) (hk.block aN ct bQ)];exact h1
    h9:=λaN v af=>by
      have ct:aN≠b:=λe=>by subst e;rw[RQ]at af;cases af
      obtain⟨es,clock,h1,D⟩:=h.h9 aN v af;exact⟨es,clock,by rw[hk.block aN ct (gV h1)];exact h1,D⟩
    ja:=h.ja
    iL:=h.iL
    frame:=λaN V aT=>by
      have:aN≠b:=λe=>by
        subst e;rcases aB with q|q
        · omega
        · exact aT q
      rw[hk.block aN this (by have:=h.size;omega)];exact h.frame aN V aT
    size:=Nat.le_trans h.size hk.size
    tape:=hk.tape.trans h.tape
    os:=hk.os.trans h.os
    output:=hk.output.trans h.output
    drawn:=Nat.le_trans h.drawn hk.drawn
    cB:=λx o u=>by
      by_cases hm:x∈M
      · exact AK x hm o u
      · rw[sb x hm]at u
        have h1:=(h.cB x o u).beta (β':=eZ) (p:=news.contains) (λd Z=>k2 d (by simpa using Z)) (by simpa using λaT=>hm (p2 x aT).1) (hJ x o hm u);exact h1.keep hk rfl (by rw[Ee x hm];exact nA x hm (by rw[u];rfl)) (b7.refl I) (λ_ _ _=>rfl) (g0.refl eZ)
    dn:=λx y u ah ct c aa hZ=>by
      by_cases hm:x∈M
      · by_cases k1:y∈M
        · exact nB x hm y k1 ct u ah c aa hZ
        · obtain⟨z,lp,mz,z3⟩:=EV x hm u c aa
          rw[sb y k1]at ah;rw[Ee y k1]at hZ;exact h.dn z y mz ah (λe=>k1 (e▸lp)) c z3 hZ
      · rw[sb x hm]at u
        rw[Ee x hm]at aa;by_cases k1:y∈M
        · obtain⟨z,lp,mz,z3⟩:=EV y k1 ah c hZ
          exact h.dn x z u mz (λe=>hm (e▸lp)) c aa z3
        · rw[sb y k1]at ah
          rw[Ee y k1]at hZ;exact h.dn x y u ah ct c aa hZ
    keep:=λx u=>by
      have:x∉news:=λaT=>(p2 x aT).2 u;rw[k2 x this];exact h.keep x u}
theorem bS.Ir(h:bS G cx I β σ w){M news:List Nat}{σ2:Y}{eZ:Nat→Value}
  (sb:∀x,x∉M→σ2.get x=σ.get x) (k2:∀x,x∉news→eZ x=β x) (p2:∀x∈news,x∈M∧x∉G.ids) (hJ:∀x o,x∉M→σ.get x=some o→nw news.contains o=false)
  (AK:∀x∈M,∀o,σ2.get x=some o→aU cx I eZ w x o)
  (EV:∀x∈M,(σ2.get x).isSome→∀c∈dA (eZ x),∃y∈M,(σ.get y).isSome∧c∈dA (β y))
  (nB:∀x∈M,∀y∈M,x≠y→(σ2.get x).isSome→(σ2.get y).isSome→∀c∈dA (eZ x),c∉dA (eZ y)):bS G cx I eZ σ2 w:=
 h.redo (b:=w.heap.size) ⟨λ_ _ _=>rfl,Nat.le_refl _,rfl,rfl,rfl,Nat.le_refl _⟩ (λo=>h.ic (Nat.le_refl _) o) (λx _ W e=>by
  obtain⟨o,W⟩:=Option.isSome_iff_exists.1 W;exact absurd (h.qa W e) (by omega)) (.inl h.size) sb k2 p2 hJ AK EV nB
end redo
section rows
variable {cx:eO}{I:bw}{w:World}
theorem hp.length:∀{cR:List gP} {W:List Value},hp cx I w cR W→W.length=cR.length
 |[],_,h=>by rw[show _=[]from h];rfl
 |x::r,_,h=>by obtain⟨ay,bF,rfl,_,_,ak⟩:=h;simp[hp.length ak]
theorem hp.get:∀{cR:List gP} {W:List Value},hp cx I w cR W→∀{i:Nat} {x:gP},cR[i]?=some x→∃v,W[i]?=some v∧jN cx I w x v
 |[],_,_,i,x,hi=>by simp at hi
 |y::r,_,h,i,x,hi=>by
  obtain⟨ay,bF,rfl,h1,_,ak⟩:=h;cases i with
  |zero=>simp at hi;subst hi;exact⟨ay,rfl,h1⟩
  |succ i=>simp at hi ⊢;exact ak.get hi
theorem hp.ne:∀{cR:List gP} {W:List Value},hp cx I w cR W→∀{i j:Nat} {ay v:Value} {b:Nat},i≠j→W[i]?=some ay→W[j]?=some v→bV ay=some b→bV v≠some b
 |[],_,h,i,j,ay,v,b,_,hi,_,_=>by rw[show _=[]from h]at hi;simp at hi
 |y::r,_,h,i,j,ay,v,b,g2,hi,aM,hu=>by
  obtain⟨z,bF,rfl,h1,D,ak⟩:=h;cases i with
  |zero=>
   cases j with
   |zero=>exact absurd rfl g2
   |succ j=>
    simp at hi aM;subst hi
    intro af;exact D b hu (List.mem_filterMap.2 ⟨v,List.mem_of_getElem? aM,af⟩)
  |succ i=>
   cases j with
   |zero=>
    simp at hi aM;subst aM
    intro af;exact D b af (List.mem_filterMap.2 ⟨ay,List.mem_of_getElem? hi,hu⟩)
   |succ j=>simp at hi aM;exact ak.ne (λe=>g2 (by rw[e])) hi aM hu
theorem hp.set:∀{cR:List gP} {W:List Value},hp cx I w cR W→∀{i:Nat} {x:gP} {v:Value},jN cx I w x v→(∀j ay b,j≠i→W[j]?=some ay→bV v=some b→bV ay≠some b)→hp cx I w (cR.set i x) (W.set i v)
 |[],_,h,i,x,v,_,_=>by rw[show _=[]from h];simp[hp]
 |y::r,_,h,i,x,v,u,Z=>by
  obtain⟨z,bF,rfl,h1,D,ak⟩:=h;cases i with
  |zero=>
   refine⟨v,bF,rfl,u,λb V hm=>?_,ak⟩;obtain⟨ay,hu,jI⟩:=List.mem_filterMap.1 hm;obtain⟨j,aM⟩:=List.getElem?_of_mem hu;exact Z (j+1) ay b (by simp) (by simpa using aM) V jI
  |succ i=>
   refine⟨z,bF.set i v,rfl,h1,λb V hm=>?_,ak.set u λj ay b aM hu V=>Z (j+1) ay b (λe=>aM (by simpa using e)) (by simpa using hu) V⟩;obtain⟨ay,hu,jI⟩:=List.mem_filterMap.1 hm;rcases List.mem_or_eq_of_mem_set hu with hu|rfl
   ·exact D b V (List.mem_filterMap.2 ⟨ay,hu,jI⟩)
   ·exact Z 0 z b (by simp) rfl jI V
theorem hp.push:∀{cR:List gP} {W:List Value},hp cx I w cR W→∀{x:gP} {v:Value},jN cx I w x v→(∀ay b,ay∈W→bV v=some b→bV ay≠some b)→hp cx I w (cR++[x]) (W++[v])
 |[],_,h,x,v,u,_=>by rw[show _=[]from h];exact⟨v,[],rfl,u,by simp,rfl⟩
 |y::r,_,h,x,v,u,Z=>by
  obtain⟨z,bF,rfl,h1,D,ak⟩:=h;refine⟨z,bF++[v],rfl,h1,λb V hm=>?_,ak.push u λay b hu=>Z ay b (List.mem_cons_of_mem _ hu)⟩;obtain⟨ay,hu,jI⟩:=List.mem_filterMap.1 hm;rcases List.mem_append.1 hu with hu|hu
  ·exact D b V (List.mem_filterMap.2 ⟨ay,hu,jI⟩)
  ·simp at hu;subst hu
   exact Z z b (by simp) jI V
theorem hp.other{nu:eO}{aS:bw}{w':World}{cR:List gP}{W:List Value}(h:hp cx I w cR W)(hle:b7 I aS)(V:∀b∈W.filterMap bV,(b<w.heap.size→w'.heap[b]?=w.heap[b]?)∧(∀o,aS b o=I b o)∧(Place cx b→Place nu b)):hp nu aS w' cR W:=h.go hle V
theorem nT(vs:Array Value):dA (.tuple vs)=vs.toList.filterMap bV:=rfl
theorem FR{W:List Value}{i:Nat}{v:Value}{b:Nat}(h:b∈(W.set i v).filterMap bV):b∈W.filterMap bV∨bV v=some b:=by
 obtain⟨ay,hu,jI⟩:=List.mem_filterMap.1 h;rcases List.mem_or_eq_of_mem_set hu with hu|rfl
 ·exact .inl (List.mem_filterMap.2 ⟨ay,hu,jI⟩)
 ·exact .inr jI
def gP.obj:gP→cn
 |.sl T sz xs=>.slice T sz xs 0 false
 |.mp K E bx=>.map K E bx
def gP.empty:gP→gP
 |.sl T sz _=>.sl T sz []
 |.mp _ _ _=>.sl 0 0 []
theorem gP.Y8(x:gP):jN cx I w x.empty (.slice none 0 0):=by cases x<;>exact .inl ⟨rfl,rfl⟩
theorem jN.obj{x:gP}{v:Value}{β:Nat→Value}{d:Nat}(h:jN cx I w x v)(Z:β d=v):aU cx I β w d x.obj:=by
 cases x with
 |sl T sz xs=>
  simp only[gP.obj,aU,Z];rcases h with⟨h,rfl⟩|⟨b,aF,arr,h1,D,ak,bc,bX,dV,fF,jm,hY⟩
  ·exact .inr (.inl ⟨h,rfl,trivial⟩)
  ·exact .inr (.inr ⟨b,aF,arr,h1,D,ak,bc,bX,dV,fF,Nat.zero_le _,λh=>(by cases h),λo _=>jm o,hY⟩)
 |mp K E bx=>
  simp only[gP.obj,aU,Z];obtain⟨r,es,clock,h1,D,ak,bc,bX,dV⟩:=h;exact .inr ⟨r,es,clock,h1,D,ak,bc,bX,dV⟩
theorem jN.of_slice{T sz:Nat}{xs:List (List U)}{cU:Bool}{β:Nat→Value}{d:Nat}(h:aU cx I β w d (.slice T sz xs 0 cU))(aT:β d≠.nilFunc):jN cx I w (.sl T sz xs) (β d):=by
 simp only[aU]at h;rcases h with h|⟨h,rfl,_⟩|⟨b,aF,arr,h1,D,ak,bc,bX,dV,fF,_,_,jm,hY⟩
 ·exact absurd h aT
 ·exact .inl ⟨h,rfl⟩
 ·exact .inr ⟨b,aF,arr,h1,D,ak,bc,bX,dV,fF,λo=>jm o (by omega),hY⟩
theorem jN.ne{x:gP}{v:Value}(h:jN cx I w x v):v≠.nilFunc∧(iy v=true∨k3 v=true):=by
 cases x with
 |sl T sz xs=>
  rcases h with⟨h,_⟩|⟨b,aF,arr,h1,_⟩
  ·rw[h];simp[iy]
  ·rw[h1];simp[iy]
 |mp K E bx=>obtain⟨r,es,clock,h1,_⟩:=h;rw[h1];simp[k3]
theorem jN.C0{x:gP}{v:Value}(h:jN cx I w x v){b:Nat}(V:b∈dA v):bV v=some b:=by
 cases v with
 |tuple vs=>
  have:=h.ne.2;simp[iy,k3]at this
 |_=>simpa [dA]using V
end rows
def cn.wM(e2:Nat)(D:Option (Option Nat×Nat)):cn→cn
 |.fV T _ n _=>.fV T e2 n D
 |.iX K E _ jr _ fx=>.iX K E e2 jr D fx
 |o=>o
def cn.wW:cn→Option (Nat×Option (Option Nat×Nat))
 |.fV _ e _ h=>some (e,h)
 |.iX _ _ e _ h _=>some (e,h)
 |_=>none
theorem aU.outer{cx:eO}{I:bw}{β:Nat→Value}{w:World}{d:Nat}{o:cn}{e:Nat}{dL:Option (Option Nat×Nat)}(aj:o.wW=some (e,dL))(h:aU cx I β w d o):
  β d=.nilFunc∨∃W as,β e=.tuple W∧i3 β W.toList as dL∧∃b,bV (β d)=some b:=by
 cases o<;>simp only[cn.wW,Option.some.injEq,Prod.mk.injEq]at aj<;>first|(cases aj;done)|skip
 ·obtain⟨rfl,rfl⟩:=aj;simp only[aU]at h;rcases h with q|⟨b,aF,arr,W,an,au,aK,aG,bb,bC,bY,cK,di,ec⟩
  ·exact .inl q
  ·exact .inr ⟨W,_,bC,cK,b,by rw[an];rfl⟩
 ·obtain⟨rfl,rfl⟩:=aj;simp only[aU]at h;rcases h with q|⟨r,es,clock,W,as,an,au,aK,aG,bb,bC,bY,cK⟩
  ·exact .inl q
  ·exact .inr ⟨W,_,aK,aG,r,by rw[an];rfl⟩
theorem aU.OB{cx:eO}{I:bw}{β eZ:Nat→Value}{w:World}{d:Nat}{o:cn}{e e2:Nat}{dL D:Option (Option Nat×Nat)}{W eA:Array Value}(aj:o.wW=some (e,dL))(h:aU cx I β w d o)(Z:eZ d=β d)
  (he:β e=.tuple W) (lX:eZ e2=.tuple eA) (aT:eA.size=W.size) (cb:∀as,i3 β W.toList as dL→i3 eZ eA.toList as D):aU cx I eZ w d (o.wM e2 D):=by
 cases o<;>simp only[cn.wW,Option.some.injEq,Prod.mk.injEq]at aj<;>first|(cases aj;done)|skip
 ·obtain⟨rfl,rfl⟩:=aj;simp only[aU,cn.wM,Z]at h ⊢;rcases h with q|⟨b,aF,arr,h4,an,au,aK,aG,bb,bC,bY,cK,di,ec⟩
  ·exact .inl q
  ·rw[he]at bC;cases bC
   exact .inr ⟨b,aF,arr,eA,an,au,aK,aG,bb,lX,aT.trans bY,cb _ cK,di,ec⟩
 ·obtain⟨rfl,rfl⟩:=aj;simp only[aU,cn.wM,Z]at h ⊢;rcases h with q|⟨r,es,clock,h4,as,an,au,aK,aG,bb,bC,bY,cK⟩
  ·exact .inl q
  ·rw[he]at aK;cases aK
   exact .inr ⟨r,es,clock,eA,as,an,au,lX,cb _ aG,bb,bC,bY,cK⟩
section take
variable {G:cq}{cx:eO}{I:bw}{β:Nat→Value}{σ:Y}{w:World}
def AB(σ:Y)(d e e2 t:Nat)(m7:cn)(cR:List gP)(i:Nat)(x:gP):Y:=(t,x.obj)::(e2,.cS (cR.set i x.empty))::(d,m7.wM e2 (some (some i,t)))::σ.minus [d,e]
theorem Br{σ:Y}{a b c:Nat}{yl aI Tb:cn}{M:List Nat}(x:Nat):Y.get ((a,yl)::(b,aI)::(c,Tb)::σ.minus M) x=if a=x then some yl else if b=x then some aI else if c=x then some Tb else if x∈M then none else σ.get x:=by
 rw[Y.c4,Y.c4,Y.c4,Y.jW]
theorem tI{σ:Y}{a b:Nat}{yl aI:cn}{M:List Nat}(x:Nat):Y.get ((a,yl)::(b,aI)::σ.minus M) x=if a=x then some yl else if b=x then some aI else if x∈M then none else σ.get x:=by
 rw[Y.c4,Y.c4,Y.jW]
theorem bS.take(h:bS G cx I β σ w){d e e2 t i:Nat}{m7:cn}{cR:List gP}{x:gP}(Z:σ.get d=some m7)(aj:m7.wW=some (e,none))(he:σ.get e=some (.cS cR))(u:cR[i]?=some x)(h3:β d≠.nilFunc)
  (bB:σ.get t=none) (lX:σ.get e2=none) (Ka:t≠e2) (Kb:t∉G.ids) (oC:e2∉G.ids) (hJ:σ.clean [t,e2].contains=true) :
  ∃W:Array Value,β e=.tuple W∧∃v,W[i]?=some v∧jN cx I w x v∧bS G cx I (λy=>if y=t then v else if y=e2 then .tuple (W.setIfInBounds i (.slice none 0 0))else β y) (AB σ d e e2 t m7 cR i x) w:=by
 rcases(h.cB d m7 Z).outer aj with q|⟨W,as,an,au,bd,aK⟩
 ·exact absurd q h3
 have kf:=h.cB e _ he;simp only[aU,an,Value.tuple.injEq,reduceCtorEq,false_or]at kf;obtain⟨h4,rfl,V⟩:=kf;obtain⟨v,fO,hL⟩:=V.get u;refine⟨W,an,v,by simpa using fO,hL,?_⟩;have ct:∀y,(σ.get y).isSome→y≠t∧y≠e2:=λy ah=>⟨λe=>(by subst e;rw[bB]at ah;cases ah),λe=>(by subst e;rw[lX]at ah;cases ah)⟩;have wX:=ct d (by rw[Z];rfl);have DX:=ct e (by rw[he];rfl);have j2:d≠e:=λcw=>by subst cw;rw[Z]at he;cases he;cases aj
 have vE:i<W.toList.length:=(List.getElem?_eq_some_iff.1 fO).1
 let eZ:Nat→Value:=λy=>if y=t then v else if y=e2 then .tuple (W.setIfInBounds i (.slice none 0 0))else β y
 have Bw:eZ t=v:=by show(if _ then _ else _)=_;rw[if_pos rfl]
 have o2:eZ e2=.tuple (W.setIfInBounds i (.slice none 0 0)):=by show(if _ then _ else _)=_;rw[if_neg (Ne.symm Ka),if_pos rfl]
 have nm:eZ d=β d:=by show(if _ then _ else _)=_;rw[if_neg wX.1,if_neg wX.2]
 have hT:(W.setIfInBounds i (.slice none 0 0)).toList=W.toList.set i (.slice none 0 0):=by simp
 refine h.Ir (M:=[d,e,e2,t]) (news:=[t,e2]) (eZ:=eZ) (λy ah=>?_) (λy ah=>?_) (λy ah=>?_) (λy o _ iQ=>(Y.iu hJ y o iQ).2) (λy ah o iQ=>?_) (λy ah eA c aa=>?_) (λy ah z hz n9 eP eA c aa hZ=>?_)
 ·simp only[List.mem_cons,List.not_mem_nil,or_false,not_or]at ah;rw[AB,Br,if_neg (Ne.symm ah.2.2.2),if_neg (Ne.symm ah.2.2.1),if_neg (Ne.symm ah.1),if_neg (by simp[ah.1,ah.2.1])]
 ·simp only[List.mem_cons,List.not_mem_nil,or_false,not_or]at ah;show(if _ then _ else _)=_;rw[if_neg ah.1,if_neg ah.2]
 ·simp only[List.mem_cons,List.not_mem_nil,or_false]at ah;rcases ah with rfl|rfl
  ·exact⟨by simp,Kb⟩
  ·exact⟨by simp,oC⟩
 ·rw[AB,Br]at iQ;split at iQ
  ·rename_i cw;subst cw;cases iQ;exact hL.obj Bw
  ·split at iQ
   ·rename_i cw;subst cw;cases iQ
    simp only[aU];refine .inr ⟨_,o2,?_⟩;rw[hT];exact V.set x.Y8 λj ay b _ _ hf=>by cases hf
   ·split at iQ
    ·rename_i cw;subst cw;cases iQ
     refine(h.cB d m7 Z).OB aj nm an o2 (by simp) λas lV=>?_;rw[show as=W.toList from lV,hT];refine⟨by simpa using vE,by rw[Bw];exact hL.ne.1,?_⟩;rw[Bw,List.set_set];apply List.ext_getElem?;intro j;rw[List.getElem?_set];by_cases g2:i=j
     ·subst g2;rw[if_pos rfl,if_pos vE];exact fO
     ·rw[if_neg g2]
    ·split at iQ
     ·cases iQ
     ·rename_i h1 D ak bc;simp only[List.mem_cons,List.not_mem_nil,or_false]at ah bc;rcases ah with rfl|rfl|rfl|rfl
      ·exact absurd rfl ak
      ·exact absurd (.inr rfl) bc
      ·exact absurd rfl D
      ·exact absurd rfl h1
 ·simp only[List.mem_cons,List.not_mem_nil,or_false]at ah;rw[AB,Br]at eA;by_cases xW:y=d
  ·subst xW;rw[nm]at aa;exact⟨y,by simp,by rw[Z];rfl,aa⟩
  by_cases Kf:y=t
  ·subst Kf;rw[Bw]at aa;exact⟨e,by simp,by rw[he];rfl,by rw[an,nT];exact List.mem_filterMap.2 ⟨v,List.mem_of_getElem? fO,hL.C0 aa⟩⟩
  by_cases Ke:y=e2
  ·subst Ke;rw[o2,nT,hT]at aa;rcases FR aa with aa|aa
   ·exact⟨e,by simp,by rw[he];rfl,by rw[an,nT];exact aa⟩
   ·cases aa
  ·rw[if_neg (Ne.symm Kf),if_neg (Ne.symm Ke),if_neg (Ne.symm xW),if_pos]at eA
   ·cases eA
   ·rcases ah with rfl|rfl|rfl|rfl
    ·exact absurd rfl xW
    ·simp
    ·exact absurd rfl Ke
    ·exact absurd rfl Kf
 ·
  have ox:∀y,y∈[d,e,e2,t]→(Y.get (AB σ d e e2 t m7 cR i x) y).isSome→y=d∨y=e2∨y=t:=λy ah eA=>by
   rw[AB,Br]at eA;simp only[List.mem_cons,List.not_mem_nil,or_false]at ah;rcases ah with rfl|rfl|rfl|rfl
   ·exact .inl rfl
   ·rw[if_neg (Ne.symm DX.1),if_neg (Ne.symm DX.2),if_neg j2,if_pos (by simp)]at eA;cases eA
   ·exact .inr (.inl rfl)
   ·exact .inr (.inr rfl)
  have DY:∀c,c∈dA (β d)→c∉dA (β e):=h.dn d e (by rw[Z];rfl) (by rw[he];rfl) j2
  have E8:∀c,c∈dA (eZ e2)→∃j ay,j≠i∧W.toList[j]?=some ay∧bV ay=some c:=λc aa=>by
   rw[o2,nT,hT]at aa;obtain⟨ay,hu,jI⟩:=List.mem_filterMap.1 aa;obtain⟨j,aM⟩:=List.getElem?_of_mem hu;rw[List.getElem?_set]at aM;split at aM
   ·rename_i g2;cases aM;cases jI
   ·rename_i g2;exact⟨j,ay,λe=>g2 e.symm,aM,jI⟩
  have Qq:∀c,c∈dA (eZ e2)→c∈dA (β e):=λc aa=>by
   obtain⟨j,ay,_,aM,hu⟩:=E8 c aa;rw[an,nT];exact List.mem_filterMap.2 ⟨ay,List.mem_of_getElem? aM,hu⟩
  have SN:∀c,c∈dA (eZ t)→bV v=some c:=λc aa=>by rw[Bw]at aa;exact hL.C0 aa
  have Qr:∀c,c∈dA (eZ t)→c∈dA (β e):=λc aa=>by
   rw[an,nT];exact List.mem_filterMap.2 ⟨v,List.mem_of_getElem? fO,SN c aa⟩
  have RJ:∀c,c∈dA (eZ e2)→c∈dA (eZ t)→False:=λc aa hZ=>by
   obtain⟨j,ay,aM,B3,jI⟩:=E8 c aa;exact V.ne aM B3 fO jI (SN c hZ)
  rcases ox y ah eP with rfl|rfl|rfl<;>rcases ox z hz eA with rfl|rfl|rfl
  ·exact n9 rfl
  ·rw[nm]at aa;exact DY c aa (Qq c hZ)
  ·rw[nm]at aa;exact DY c aa (Qr c hZ)
  ·rw[nm]at hZ;exact DY c hZ (Qq c aa)
  ·exact n9 rfl
  ·exact RJ c aa hZ
  ·rw[nm]at hZ;exact DY c hZ (Qr c aa)
  ·exact RJ c hZ aa
  ·exact n9 rfl
theorem bS.back(h:bS G cx I β σ w){d e e2 t i:Nat}{m7:cn}{cR:List gP}{T sz:Nat}{xs:List (List U)}{cU:Bool}(Z:σ.get d=some m7)(aj:m7.wW=some (e,some (some i,t)))(he:σ.get e=some (.cS cR))
  (bB:σ.get t=some (.slice T sz xs 0 cU)) (lX:σ.get e2=none) (oC:e2∉G.ids) (hJ:σ.clean [e2].contains=true) :
  ∃eZ,(∀y,y≠e2→eZ y=β y)∧bS G cx I eZ ((e2,.cS (cR.set i (.sl T sz xs)))::(d,m7.wM e2 none)::σ.minus [d,e,t]) w:=by
 have ct:∀y,(σ.get y).isSome→y≠e2:=λy ah e=>by subst e;rw[lX]at ah;cases ah
 have wX:=ct d (by rw[Z];rfl);have DX:=ct e (by rw[he];rfl);have ahM:=ct t (by rw[bB];rfl);have j2:d≠e:=λcw=>by subst cw;rw[Z]at he;cases he;cases aj
 have R4:d≠t:=λcw=>by subst cw;rw[Z]at bB;cases bB;cases aj
 have agK:e≠t:=λcw=>by subst cw;rw[he]at bB;cases bB
 have sq:∃ay:Value,(m7.wW=some (e,some (some i,t))→∀eZ:Nat→Value,(∀y,y≠e2→eZ y=β y)→eZ e2=ay→aU cx I eZ w d (m7.wM e2 none)∧aU cx I eZ w e2 (.cS (cR.set i (.sl T sz xs))))∧∀c∈dA ay,c∈dA (β e)∨c∈dA (β t):=by
  rcases(h.cB d m7 Z).outer aj with q|⟨W,as,an,⟨au,KX,aoL⟩,bd,aK⟩
  ·refine⟨.nilFunc,λ_ eZ h1 D=>⟨?_,by simp only[aU];exact .inl D⟩,by simp[KT]⟩;have:eZ d=.nilFunc:=by rw[h1 d wX];exact q
   cases m7<;>simp only[cn.wW,reduceCtorEq]at aj<;>simp only[cn.wM,aU]<;>exact .inl this
  ·have kf:=h.cB e _ he;simp only[aU,an,Value.tuple.injEq,reduceCtorEq,false_or]at kf;obtain⟨h4,rfl,V⟩:=kf;have h0:=jN.of_slice (h.cB t _ bB) KX;refine⟨.tuple (W.setIfInBounds i (β t)),λ_ eZ h1 D=>⟨?_,?_⟩,λc aa=>?_⟩
   ·refine(h.cB d m7 Z).OB aj (h1 d wX) an D (by simp) λaeY lV=>?_;obtain⟨_,_,lV⟩:=lV;show aeY=_;rw[lV];simp
   ·simp only[aU];refine .inr ⟨_,D,?_⟩;rw[show(W.setIfInBounds i (β t)).toList=W.toList.set i (β t)by simp];refine V.set h0 λj ay b aM B3 JL kf=>?_;refine h.dn e t (by rw[he];rfl) (by rw[bB];rfl) agK b ?_ (je JL);rw[an,nT];exact List.mem_filterMap.2 ⟨ay,List.mem_of_getElem? B3,kf⟩
   ·rw[nT,show(W.setIfInBounds i (β t)).toList=W.toList.set i (β t)by simp]at aa;rcases FR aa with aa|aa
    ·exact .inl (by rw[an,nT];exact aa)
    ·exact .inr (je aa)
 obtain⟨ay,m1,m2⟩:=sq;have fG:∀y,y≠e2→(λy=>if y=e2 then ay else β y) y=β y:=λy ah=>if_neg ah;have oh:(λy=>if y=e2 then ay else β y) e2=ay:=if_pos rfl;refine⟨λy=>if y=e2 then ay else β y,fG,?_⟩;generalize (λy=>if y=e2 then ay else β y)=eZ at fG oh;obtain⟨gd,ey⟩:=m1 aj eZ fG oh
 have ox:∀y,y∈[d,e,e2,t]→(Y.get ((e2,.cS (cR.set i (.sl T sz xs)))::(d,m7.wM e2 none)::σ.minus [d,e,t]) y).isSome→y=d∨y=e2:=λy ah eA=>by
  rw[tI]at eA;simp only[List.mem_cons,List.not_mem_nil,or_false]at ah;rcases ah with rfl|rfl|rfl|rfl
  ·exact .inl rfl
  ·rw[if_neg (Ne.symm DX),if_neg j2,if_pos (by simp)]at eA;cases eA
  ·exact .inr rfl
  ·rw[if_neg (Ne.symm ahM),if_neg R4,if_pos (by simp)]at eA;cases eA
 have Qs:∀c,c∈dA (eZ d)→c∉dA (eZ e2):=λc aa hZ=>by
  rw[fG d wX]at aa;rw[oh]at hZ;rcases m2 c hZ with q|q
  ·exact h.dn d e (by rw[Z];rfl) (by rw[he];rfl) j2 c aa q
  ·exact h.dn d t (by rw[Z];rfl) (by rw[bB];rfl) R4 c aa q
 refine h.Ir (M:=[d,e,e2,t]) (news:=[e2]) (eZ:=eZ) (λy ah=>?_) (λy ah=>fG y (by simpa using ah)) (λy ah=>by simp only[List.mem_singleton]at ah;subst ah;exact⟨by simp,oC⟩) (λy o _ iQ=>(Y.iu hJ y o iQ).2) (λy ah o iQ=>?_) (λy ah eA c aa=>?_) (λy ah z hz n9 eP eA c aa hZ=>?_)
 ·simp only[List.mem_cons,List.not_mem_nil,or_false,not_or]at ah;rw[tI,if_neg (Ne.symm ah.2.2.1),if_neg (Ne.symm ah.1),if_neg (by simp[ah.1,ah.2.1,ah.2.2.2])]
 ·have:=ox y ah (by rw[iQ];rfl);rw[tI]at iQ;rcases this with rfl|rfl
  ·rw[if_neg (Ne.symm wX),if_pos rfl]at iQ;cases iQ;exact gd
  ·rw[if_pos rfl]at iQ;cases iQ;exact ey
 ·rcases ox y ah eA with rfl|rfl
  ·rw[fG y wX]at aa;exact⟨y,by simp,by rw[Z];rfl,aa⟩
  ·rw[oh]at aa;rcases m2 c aa with q|q
   ·exact⟨e,by simp,by rw[he];rfl,q⟩
   ·exact⟨t,by simp,by rw[bB];rfl,q⟩
 ·rcases ox y ah eP with rfl|rfl<;>rcases ox z hz eA with rfl|rfl
  ·exact n9 rfl
  ·exact Qs c aa hZ
  ·exact Qs c hZ aa
  ·exact n9 rfl
end take
end
section
def j1{α:Type}(k:IntKind)(l:List (Int×α)):List U:=l.map λp=>.int k p.1
def nq{α:Type}(T:TypeId)(sz:Nat)(enc:α→List U)(l:List (Int×List α)):List gP:=l.map λp=>.sl T sz (p.2.map enc)
def kB{α:Type}:List (Int×α)→Int→Nat
 |[],_=>0
 |p::r,n=>if p.1=n then 0 else kB r n+1
def Dy{α:Type}(l:List (Int×α))(n:Int)(t:Nat):Option (Option Nat×Nat):=some (bif (bT l n).isSome then some (kB l n)else none,t)
variable {α:Type}
theorem pS(p:Int×α)(r:List (Int×α))(n:Int):bT (p::r) n=if p.1=n then some p.2 else bT r n:=by
 by_cases h:p.1=n<;>simp[bT,List.find?,h]
theorem NG{α:Type}:∀{l:List (Int×α)} {n:Int} {a:α},bT l n=some a→∃m,m=n∧l[kB l n]?=some (m,a)
 |[],_,_,h=>by simp[bT]at h
 |p::r,n,a,h=>by
  rw[pS]at h;split at h
  ·rename_i aB;cases h;exact⟨p.1,aB,by simp only[kB,if_pos aB];rfl⟩
  ·rename_i aB;obtain⟨m,h1,D⟩:=NG h;exact⟨m,h1,by simp[kB,aB,D]⟩
theorem Mb{α:Type}:∀{l:List (Int×α)} {n:Int} {a:α} (v:α),bT l n=some a→c6 l n v=l.set (kB l n) (n,v)
 |[],_,_,_,h=>by simp[bT]at h
 |p::r,n,a,v,h=>by
  rw[pS]at h;split at h
  ·rename_i aB;simp[c6,kB,aB]
  ·rename_i aB;simp[c6,kB,aB,Mb v h]
theorem LD{α:Type}:∀{l:List (Int×α)} {n:Int} (v:α),bT l n=none→c6 l n v=l++[(n,v)]
 |[],_,_,_=>rfl
 |p::r,n,v,h=>by
  rw[pS]at h;split at h
  ·cases h
  ·rename_i aB;simp[c6,aB,LD v h]
theorem Xz{T:TypeId}{sz:Nat}{enc:α→List U}(l:List (Int×List α))(i:Nat)(n:Int)(v:List α):nq T sz enc (l.set i (n,v))=(nq T sz enc l).set i (.sl T sz (v.map enc)):=by simp[nq,List.map_set]
theorem XA{k:IntKind}{l:List (Int×α)}{n:Int}{a:α}(v:α)(h:bT l n=some a):j1 k (l.set (kB l n) (n,v))=j1 k l:=by
 obtain⟨m,rfl,D⟩:=NG h;simp only[j1,List.map_set];apply List.ext_getElem?;intro j;rw[List.getElem?_set];split
 ·rename_i aM;subst aM;rw[List.getElem?_map,D];split
  ·rfl
  ·rename_i bQ;exact absurd (by simpa using (List.getElem?_eq_some_iff.1 D).1) bQ
 ·rfl
theorem TQ{I:bw}{α:Type}{k:IntKind}(n:Int):∀(l:List (Int×α)) (vs:List Value) (es:List MapEntry) (i:Nat) (a:α),lR I (j1 k l) vs es→bT l n=some a→
  ∃v e,vs[kB l n]?=some v∧es[kB l n]?=some e∧e.key=.int k n∧Instr.findNow (.int k) (.int k n) es i=some (some (i+kB l n,v))∧
   ∀(ay:Value) (hj:MapEntry→MapEntry),(∀e,(hj e).key=.int k n∧(hj e).val=ay)→lR I (j1 k l) (vs.set (kB l n) ay) (es.modify (kB l n) hj)
 |[],vs,es,i,a,h,bl=>by simp[bT]at bl
 |(m,b)::r,vs,es,i,a,h,bl=>by
  simp only[j1,List.map_cons,lR]at h;obtain⟨v,bF,e,kO,rfl,rfl,ak,bc,bX⟩:=h;simp only[aO]at ak;rw[pS]at bl;by_cases hm:m=n
  ·subst hm;simp only[kB,if_true];refine⟨v,e,rfl,rfl,ak,by simp[Instr.findNow,Instr.sameNow,ak,bc],λay hj hk=>?_⟩;simp only[j1,List.map_cons,List.set_cons_zero,List.modify_zero_cons,lR];exact⟨ay,bF,hj e,kO,rfl,rfl,by simp only[aO];exact(hk e).1,(hk e).2,bX⟩
  ·rw[if_neg hm]at bl;obtain⟨dI,cw,an,au,aK,aG,bb⟩:=TQ n r bF kO (i+1) a bX bl;simp only[kB,if_neg hm];refine⟨dI,cw,by simpa using an,by simpa using au,aK,?_,λay hj hk=>?_⟩
   ·simp only[Instr.findNow,Instr.sameNow,ak,if_pos];have:(n==m)=false:=by simpa using λe=>hm e.symm
    rw[this];simp only;rw[aG];simp[Nat.add_assoc,Nat.add_comm 1]
   ·simp only[j1,List.map_cons,List.set_cons_succ,List.modify_succ_cons,lR];exact⟨v,_,e,_,rfl,rfl,by simp only[aO];exact ak,bc,bb ay hj hk⟩
theorem TR{I:bw}{α:Type}{k:IntKind}(n:Int):∀(l:List (Int×α)) (vs:List Value) (es:List MapEntry) (i:Nat),lR I (j1 k l) vs es→bT l n=none→
  Instr.findNow (.int k) (.int k n) es i=some none∧∀(b:α) (e:MapEntry),e.key=.int k n→lR I (j1 k (l++[(n,b)])) (vs++[e.val]) (es++[e])
 |[],vs,es,i,h,bl=>by
  simp only[j1,List.map_nil,lR]at h;obtain⟨rfl,rfl⟩:=h;refine⟨rfl,λb e hk=>?_⟩;simp only[List.nil_append,j1,List.map_cons,List.map_nil,lR];exact⟨e.val,[],e,[],rfl,rfl,by simp only[aO];exact hk,rfl,rfl,rfl⟩
 |(m,c)::r,vs,es,i,h,bl=>by
  simp only[j1,List.map_cons,lR]at h;obtain⟨v,bF,e,kO,rfl,rfl,ak,bc,bX⟩:=h;simp only[aO]at ak;rw[pS]at bl;have hm:m≠n:=λhm=>by rw[if_pos hm]at bl;cases bl
  rw[if_neg hm]at bl;obtain⟨an,au⟩:=TR n r bF kO (i+1) bX bl;refine⟨?_,λb cw hk=>?_⟩
  ·simp only[Instr.findNow,Instr.sameNow,ak,if_pos];have:(n==m)=false:=by simpa using λe=>hm e.symm
   rw[this];exact an
  ·have:=au b cw hk;simp only[j1]at this;simp only[j1,List.cons_append,List.map_cons,lR];exact⟨v,_,e,_,rfl,rfl,by simp only[aO];exact ak,bc,this⟩
theorem lR.length{I:bw}:∀{ks:List U} {vs:List Value} {es:List MapEntry},lR I ks vs es→vs.length=ks.length∧es.length=ks.length
 |[],_,_,h=>by obtain⟨rfl,rfl⟩:=h;exact⟨rfl,rfl⟩
 |k::ks,_,_,h=>by
  obtain⟨v,bF,e,kO,rfl,rfl,_,_,bX⟩:=h;have:=bX.length;simp[this.1,this.2]
section
variable {G:cq}{σ:Y}{o:Oper}{ev:Operand→U}
end
end
section
section put
variable {G:cq}{cx:eO}{I:bw}{β:Nat→Value}{σ:Y}{w:World}
theorem bS.aea(h:bS G cx I β σ w){d e e2 r K E jC:Nat}{jr uq:List U}{dL:Option (Option Nat×Nat)}{fx:Option (Array MapEntry×Nat)}{cR qM:List gP}{kG:List Nat}{h4:Array Value}{gG:Array MapEntry}{w':World}
  (Z:σ.get d=some (.iX K E e jr dL fx)) (he:σ.get e=some (.cS cR)) (ax:β d=.map (some r)) (lX:σ.get e2=none) (oC:e2∉G.ids) (hJ:σ.clean [e2].contains=true) (agy:d∉kG)
  (hk:gn w w' r) (eS:w'.heap[r]?=some (.map gG jC)) (V:hp cx I w qM h4.toList) (ahd:lR I uq h4.toList gG.toList) (fv:iK gG jC)
  (jq:∀c∈h4.toList.filterMap bV,c∈dA (β e)∨∃y∈kG,(σ.get y).isSome∧c∈dA (β y)) :
  bS G cx I (λy=>if y=e2 then .tuple h4 else β y) ((e2,.cS qM)::(d,.iX K E e2 uq none none)::σ.minus (d::e::kG)) w':=by
 have Cc:=h.cB d _ Z;simp only[aU,ax,reduceCtorEq,false_or]at Cc;obtain⟨r',es,clock,W,as,an,au,aK,aG,bb,bC,bY,cK,_⟩:=Cc;cases an;have nY:(σ.get d).isSome:=by rw[Z];rfl
 have i5:(σ.get e).isSome:=by rw[he];rfl
 have ct:∀y,(σ.get y).isSome→y≠e2:=λy ah e=>by subst e;rw[lX]at ah;cases ah
 have j2:d≠e:=λcw=>by subst cw;rw[Z]at he;cases he
 have J6:r∈dA (β d):=je (by rw[ax];rfl)
 have p5:∀c∈h4.toList.filterMap bV,c≠r:=λc aa e=>by
  subst e;rcases jq c aa with q|⟨y,sM,DJ,DK⟩
  ·exact h.dn d e nY i5 j2 c J6 q
  ·exact h.dn d y nY DJ (λe=>agy (e▸sM)) c J6 DK
 have fG:∀y,y≠e2→(λy=>if y=e2 then(Value.tuple h4)else β y) y=β y:=λy ah=>if_neg ah;have oh:(λy=>if y=e2 then(Value.tuple h4)else β y) e2=.tuple h4:=if_pos rfl;generalize (λy=>if y=e2 then(Value.tuple h4)else β y)=eZ at fG oh;have nm:eZ d=β d:=fG d (ct d nY)
 have ox:∀y,y∈d::e::e2::kG→∀o,(Y.get ((e2,.cS qM)::(d,.iX K E e2 uq none none)::σ.minus (d::e::kG)) y)=some o→(y=d∧o=.iX K E e2 uq none none)∨(y=e2∧o=.cS qM):=λy ah o aj=>by
  rw[tI]at aj;split at aj
  ·rename_i cw;exact .inr ⟨cw.symm,(Option.some.inj aj).symm⟩
  ·rename_i iC;split at aj
   ·rename_i cw;exact .inl ⟨cw.symm,(Option.some.inj aj).symm⟩
   ·split at aj
    ·cases aj
    ·rename_i hG ye;simp only[List.mem_cons,not_or]at ah ye;rcases ah with rfl|rfl|rfl|ah
     ·exact absurd rfl hG
     ·exact absurd rfl ye.2.1
     ·exact absurd rfl iC
     ·exact absurd ah ye.2.2
 have xu:∀y,y∈d::e::e2::kG→(Y.get ((e2,.cS qM)::(d,.iX K E e2 uq none none)::σ.minus (d::e::kG)) y).isSome→y=d∨y=e2:=λy ah W=>by
  obtain⟨o,aj⟩:=Option.isSome_iff_exists.1 W;rcases ox y ah o aj with q|q
  ·exact .inl q.1
  ·exact .inr q.1
 have E8:∀c,c∈dA (eZ e2)→c∈dA (β e)∨∃y∈kG,(σ.get y).isSome∧c∈dA (β y):=λc aa=>jq c (by rw[oh]at aa;exact aa)
 have sep:∀c,c∈dA (eZ d)→c∉dA (eZ e2):=λc aa hZ=>by
  rw[nm,ax]at aa;have:c=r:=by simpa [dA,bV]using aa
  exact p5 c (by rw[oh]at hZ;exact hZ) this
 refine h.redo (M:=d::e::e2::kG) (news:=[e2]) (b:=r) (eZ:=eZ) hk bC (λy ah W cw=>?_) bY (λy ah=>?_) (λy ah=>fG y (by simpa using ah)) (λy ah=>?_) (λy o _ iQ=>(Y.iu hJ y o iQ).2) (λy ah o iQ=>?_) (λy ah eA c aa=>?_) (λy ah z hz n9 eP eA c aa hZ=>?_)
 ·exact h.dn d y nY W (λe=>ah (by simp[e])) r J6 cw
 ·simp only[List.mem_cons,not_or]at ah;rw[tI,if_neg (Ne.symm ah.2.2.1),if_neg (Ne.symm ah.1),if_neg (by simp[ah.1,ah.2.1,ah.2.2.2])]
 ·simp only[List.mem_singleton]at ah;subst ah;exact⟨by simp,oC⟩
 ·rcases ox y ah o iQ with⟨rfl,rfl⟩|⟨rfl,rfl⟩
  ·simp only[aU,nm,ax,oh];exact .inr ⟨r,gG,jC,h4,h4.toList,rfl,eS,rfl,rfl,ahd,bC,bY,fv,by simp⟩
  ·simp only[aU];exact .inr ⟨h4,oh,V.go (b7.refl I) λc aa=>⟨λbQ=>hk.block c (p5 c aa) bQ,λ_=>rfl,id⟩⟩
 ·rcases xu y ah eA with rfl|rfl
  ·rw[nm]at aa;exact⟨y,by simp,nY,aa⟩
  ·rcases E8 c aa with q|⟨y,sM,DJ,DK⟩
   ·exact⟨e,by simp,i5,q⟩
   ·exact⟨y,by simp[sM],DJ,DK⟩
 ·rcases xu y ah eP with rfl|rfl<;>rcases xu z hz eA with rfl|rfl
  ·exact n9 rfl
  ·exact sep c aa hZ
  ·exact sep c hZ aa
  ·exact n9 rfl
end put
section
variable {G:cq}{σ:Y}{o:Oper}{ev:Operand→U}
theorem en.Qi{α:Type}{T K E d e e2 aW sz:Nat}{k:IntKind}{x y z:Operand}{n:Int}{cU:Bool}{fx:Option (Array MapEntry×Nat)}{dL:Option (Option Nat×Nat)}(kG:List Nat)(l:List (Int×List α))(enc:α→List U)(row:List α)(h:o.op=.mapUpdate T x y z∨o.op=.insert T x y z)(u:ev x=.dm d)(ah:ev y=.int k n)
  (hz:(ev z=.cV∧row=[]∧kG=[])∨∃j,ev z=.own j∧σ.get j=some (.slice aW sz (row.map enc) 0 cU)∧kG=[j])
  (Z:σ.get d=some (.iX K E e (j1 k l) dL fx)) (cb:dL=none∨∃t,dL=Dy l n t) (he:σ.get e=some (.cS (nq aW sz enc l))) (aH:k7 G.P T K E k)
  (lX:σ.get e2=none) (oC:G.ids.contains e2=false) (hJ:σ.clean [e2].contains=true) :
  g8 G o ev σ (d::e::e2::kG) [e2] (λr az=>r=.undef∧az=(e2,.cS (nq aW sz enc (c6 l n row)))::(d,.iX K E e2 (j1 k (c6 l n row)) none none)::σ.minus (d::e::kG)):=by
 intro cx I β w aP aq hop;have iM:x∈o.op.operands∧y∈o.op.operands∧z∈o.op.operands:=by rcases h with h|h<;>simp[h,Op.operands]
 have h1:=hop x iM.1;rw[u]at h1
 have D:=hop y iM.2.1;rw[ah]at D;have D:=iH D
 have ak:=hop z iM.2.2;simp only[ar]at h1;obtain⟨h1,rW⟩:=h1;have h3:β d≠.nilFunc:=λe=>by rw[h1,e]at rW;simp[k3]at rW
 have Cc:=aq.cB d _ Z;simp only[aU,h3,false_or]at Cc;obtain⟨r,es,clock,W,as,an,au,aK,aG,bb,bC,bY,cK,_⟩:=Cc;have kf:=aq.cB e _ he;simp only[aU,aK,Value.tuple.injEq,reduceCtorEq,false_or]at kf;obtain⟨h4,rfl,V⟩:=kf;have af:jN cx I w (.sl aW sz (row.map enc)) (aP z)∧(∀c,bV (aP z)=some c→∃y∈kG,(σ.get y).isSome∧c∈dA (β y))∧d∉kG∧e∉kG:=by
  rcases hz with⟨hz,rfl,rfl⟩|⟨j,hz,aM,rfl⟩
  ·rw[hz]at ak;simp only[ar,aO]at ak;rw[ak];exact⟨Or.inl ⟨rfl,rfl⟩,λc (aa:none=some c)=>(by cases aa),by simp,by simp⟩
  ·rw[hz]at ak;simp only[ar]at ak;obtain⟨ak,BT⟩:=ak;rw[ak];refine⟨jN.of_slice (aq.cB j _ aM) λe=>(by rw[ak,e]at BT;cases BT),λc aa=>⟨j,by simp,by rw[aM];rfl,je aa⟩,λhm=>?_,λhm=>?_⟩
   ·rw[List.mem_singleton.1 hm,aM]at Z;cases Z
   ·rw[List.mem_singleton.1 hm,aM]at he;cases he
 obtain⟨fO,hL,v3,v4⟩:=af
 have Af:∀ay b,ay∈W.toList→bV (aP z)=some b→bV ay≠some b:=λay b hu BY kf=>by
  obtain⟨y,sM,DJ,DK⟩:=hL b BY;refine aq.dn e y (by rw[he];rfl) DJ (λe=>v4 (e▸sM)) b ?_ DK;rw[aK,nT];exact List.mem_filterMap.2 ⟨ay,hu,kf⟩
 have I2:e2∉G.ids:=by simpa using oC
 have aA:∀w,(underlying T).run G.P w=.ok (.map K E) w:=λw=>by simp[underlying,program,Sem.run,aH.gv]
 have Ez:∀w,(underlying K).run G.P w=.ok (.int k) w:=λw=>by simp[underlying,program,Sem.run,aH.key]
 have b6:=nS (P:=G.P) au;have cQ:=CD (P:=G.P) aH.key false n w;have gy:∀aI:Obj,(setObj r aI).run G.P w=.ok () {w with heap:=w.heap.setIfInBounds r aI}:=λaI=>by simp[setObj,Sem.run,au]
 have B1:∀aI:Obj,({w with heap:=w.heap.setIfInBounds r aI}:World).heap[r]?=some aI:=λaI=>by have:=gV au;simp[Array.getElem?_setIfInBounds,this]
 have fin:∀(eA:Array Value) (qM:List gP) (uq:List U) (gG:Array MapEntry) (jC:Nat),qM=nq aW sz enc (c6 l n row)→uq=j1 k (c6 l n row)→
   (execOp aP o).run G.P w=.ok .skip {w with heap:=w.heap.setIfInBounds r (.map gG jC)}→hp cx I w qM eA.toList→lR I uq eA.toList gG.toList→iK gG jC→
   (∀c∈eA.toList.filterMap bV,c∈W.toList.filterMap bV∨bV (aP z)=some c)→
   kM G.P (λv w'=>∃bE,∃az:Y,∃aS β',(bE=.undef∧az=(e2,.cS (nq aW sz enc (c6 l n row)))::(d,.iX K E e2 (j1 k (c6 l n row)) none none)::σ.minus (d::e::kG))∧ar aS β' bE v∧bS G cx aS β' az w'∧b7 I aS∧(∀d,d∉[e2]→β' d=β d)∧(∀x,x∉d::e::e2::kG→az.get x=σ.get x)) ((execOp aP o).run G.P w):=by
  intro eA qM uq gG jC bU cG dP gT kk FV aiK;subst bU cG;rw[dP]
  have:=aq.aea Z he an lX I2 hJ v3 (gn.setObj w r (.map gG jC)) (B1 _) gT kk FV λc aa=>by
   rcases aiK c aa with q|q
   ·exact .inl (by rw[aK,nT];exact q)
   ·exact .inr (hL c q)
  refine⟨.undef,_,I,_,⟨rfl,rfl⟩,by simp[ar,aO],this,b7.refl I,λy ah=>if_neg (by simpa using ah),λy ah=>?_⟩;simp only[List.mem_cons,not_or]at ah;rw[tI,if_neg (Ne.symm ah.2.2.1),if_neg (Ne.symm ah.1),if_neg (by simp[ah.1,ah.2.1,ah.2.2.2])]
 cases bl:bT l n with
 |none=>
  have lV:as=W.toList:=by
   rcases cb with rfl|⟨t,rfl⟩
   ·exact aG
   ·simp only[Dy,bl,Option.isSome_none,cond_false]at aG;exact aG
  rw[lV]at bb;obtain⟨bU,cG⟩:=TR n l W.toList es.toList 0 bb bl;have fo:(Instr.findKey K (.int k n) es.toList).run G.P w=.ok none w:=by simp[Instr.findKey,Ez,bU]
  refine fin (W.push (aP z)) (nq aW sz enc l++[.sl aW sz (row.map enc)]) (j1 k (l++[(n,row)])) (es.push ⟨.int k n,aP z,clock⟩) (clock+1) ?_ ?_ ?_ ?_ ?_ ?_ ?_
  ·rw[LD row bl];simp[nq]
  ·rw[LD row bl]
  ·rcases h with h|h<;>simp[execOp,h,Instr.mapUpdate,h1,an,D,aA,b6,cQ,fo,gy]
  ·simp only[Array.toList_push];exact V.push fO Af
  ·simp only[Array.toList_push];exact cG row ⟨.int k n,aP z,clock⟩ rfl
  ·exact cK.push _ _
  ·intro c aa;simp only[Array.toList_push,List.filterMap_append,List.mem_append]at aa;rcases aa with aa|aa
   ·exact .inl aa
   ·obtain⟨ay,hu,jI⟩:=List.mem_filterMap.1 aa;rw[List.mem_singleton.1 hu]at jI;exact .inr jI
 |some a=>
  obtain⟨dI,cw,bU,cG,dP,gT,kk⟩:=TQ n l as es.toList 0 a bb bl;have fo:(Instr.findKey K (.int k n) es.toList).run G.P w=.ok (some (0+kB l n,dI)) w:=by simp[Instr.findKey,Ez,gT]
  have jX:es[kB l n]?=some cw:=by simpa using cG
  have kK:(Instr.keyThatStays (.int k n) (.int k n)).run G.P w=.ok (.int k n) w:=by simp[Instr.keyThatStays,Instr.sameBits]
  have lV:as.set (kB l n) (aP z)=W.toList.set (kB l n) (aP z):=by
   rcases cb with rfl|⟨t,rfl⟩
   ·rw[show as=W.toList from aG]
   ·simp only[Dy,bl,Option.isSome_some,cond_true]at aG;obtain⟨_,_,aG⟩:=aG;rw[aG,List.set_set]
  have hT:(W.setIfInBounds (kB l n) (aP z)).toList=W.toList.set (kB l n) (aP z):=by simp
  have Sc:=kk (aP z) (λe=>{e with key:=.int k n,val:=aP z}) (λe=>⟨rfl,rfl⟩);rw[lV]at Sc;refine fin (W.setIfInBounds (kB l n) (aP z)) ((nq aW sz enc l).set (kB l n) (.sl aW sz (row.map enc))) (j1 k l) (es.modify (kB l n) λe=>{e with key:=.int k n,val:=aP z}) clock ?_ ?_ ?_ ?_ ?_ ?_ ?_
  ·rw[Mb row bl,Xz]
  ·rw[Mb row bl,XA row bl]
  ·rcases h with h|h<;>simp[execOp,h,Instr.mapUpdate,h1,an,D,aA,b6,cQ,fo,gy,jX,dP,kK]
  ·rw[hT];exact V.set fO λj ay b _ B3 BY=>Af ay b (List.mem_of_getElem? B3) BY
  ·rw[hT];simpa using Sc
  ·exact cK.modify _ _ λ_=>rfl
  ·intro c aa;rw[hT]at aa;exact FR aa
end
end
section
section imms
variable {cx:eO}{I:bw}{β:Nat→Value}{w:World}
theorem aU.ah6{aS:bw}{d:Nat}{o:cn}(hle:b7 I aS)(Sr:∀b∈dA (β d),∀o,aS b o=I b o)(gz:aU cx I β w d o):aU cx aS β w d o:=by
 have iI:∀aN o,bV (β d)=some aN→aS aN o=I aN o:=λaN o hf=>Sr aN (je hf) o;cases o with
 |cS cR=>
  simp only[aU]at gz ⊢;rcases gz with q|⟨W,an,au⟩
  ·exact .inl q
  ·exact .inr ⟨W,an,au.go hle λaN hf=>⟨λ_=>rfl,Sr aN (by rw[an];exact hf),id⟩⟩
 |gZ T xs t=>
  simp only[aU]at gz ⊢;rcases gz with q|⟨aN,aF,arr,an,au,aK,aG,bb,bC,bY,cK,di,ec,e3⟩
  ·exact .inl q
  ·exact .inr ⟨aN,aF,arr,an,au,aK,aG,bb,mC hle _ _ bC,bY,cK,di,λo=>by rw[iI aN o (by rw[an];rfl)];exact ec o,e3⟩
 |vec T xs=>
  simp only[aU]at gz ⊢;rcases gz with q|⟨aN,arr,an,au,aK,aG,bb⟩
  ·exact .inl q
  ·exact .inr ⟨aN,arr,an,au,aK,λo=>by rw[iI aN o (by rw[an];rfl)];exact aG o,bb⟩
 |ig es clock bx seen=>
  simp only[aU]at gz ⊢;rcases gz with q|⟨r,fh,an,au,aK,aG,bb,bC,bY⟩
  ·exact .inl q
  ·exact .inr ⟨r,fh,an,au,hle _ _ _ aK,lP hle _ _ aG,bb,λo=>by rw[iI r o (by rw[an];rfl)];exact bC o,bY⟩
 |fV T e n dL=>
  simp only[aU]at gz ⊢;rcases gz with q|⟨aN,aF,arr,W,an,au,aK,aG,bb,bC,bY,cK,di,ec⟩
  ·exact .inl q
  ·exact .inr ⟨aN,aF,arr,W,an,au,aK,aG,bb,bC,bY,cK,λo=>by rw[iI aN o (by rw[an];rfl)];exact di o,ec⟩
 |iX K E e jr dL fx=>
  simp only[aU]at gz ⊢;rcases gz with q|⟨r,es,clock,W,as,an,au,aK,aG,bb,bC,bY,cK⟩
  ·exact .inl q
  ·exact .inr ⟨r,es,clock,W,as,an,au,aK,aG,bb.mono hle,λo=>by rw[iI r o (by rw[an];rfl)];exact bC o,bY,cK⟩
 |cells T cs=>
  simp only[aU]at gz ⊢;rcases gz with q|⟨aN,m4,an,au,aK,aG,bb⟩
  ·exact .inl q
  ·exact .inr ⟨aN,m4,an,au,rT hle (g0.refl _) _ _ aK,λo=>by rw[iI aN o (by rw[an];rfl)];exact aG o,bb⟩
 |slice aW h2 kE eM afM=>
  simp only[aU]at gz ⊢;rcases gz with q|q|⟨aN,xo,m4,an,au,aK,aG,bb,bC,bY,cK,di,ec,e3⟩
  ·exact .inl q
  ·exact .inr (.inl q)
  ·have ct:bV (β d)=some aN:=by rw[an];rfl
   exact .inr (.inr ⟨aN,xo,m4,an,au,aK,aG,bb,mC hle _ _ bC,bY,cK,λhz o aj=>by rw[iI aN o ct];exact di hz o aj,λo aj=>by rw[iI aN o ct];exact ec o aj,e3⟩)
 |win aW h2 kE=>
  simp only[aU]at gz ⊢;rcases gz with q|q|⟨aN,g4,xo,m4,an,au,aK,aG,bb,bC,bY,cK,di⟩
  ·exact .inl q
  ·exact .inr (.inl q)
  ·have ct:bV (β d)=some aN:=by rw[an];rfl
   exact .inr (.inr ⟨aN,g4,xo,m4,an,au,aK,aG,bb,xX hle _ _ _ bC,bY,λhz o aj=>by rw[iI aN o ct];exact cK hz o aj,di⟩)
 |map K E bx=>
  simp only[aU]at gz ⊢;rcases gz with q|⟨r,es,clock,an,au,aK,aG,bb⟩
  ·exact .inl q
  ·exact .inr ⟨r,es,clock,an,au,lP hle _ _ aK,λo=>by rw[iI r o (by rw[an];rfl)];exact aG o,bb⟩
 |k4 K E bx=>
  simp only[aU]at gz ⊢;rcases gz with q|⟨r,es,clock,an,au,aK,aG⟩
  ·exact .inl q
  ·exact .inr ⟨r,es,clock,an,hle _ _ _ au,lP hle _ _ aK,aG⟩
 |gj es clock K E bx=>
  simp only[aU]at gz ⊢;rcases gz with q|⟨r,an,au,aK,aG,bb⟩
  ·exact .inl q
  ·exact .inr ⟨r,an,au,lP hle _ _ aK,λo=>by rw[iI r o (by rw[an];rfl)];exact aG o,bb⟩
 |iter cT pM kI seen=>
  simp only[aU]at gz ⊢;rcases gz with q|⟨r,fh,an,au,aK,aG,bb⟩
  ·exact .inl q
  ·exact .inr ⟨r,fh,an,au,aK,λo=>by rw[iI r o (by rw[an];rfl)];exact aG o,bb⟩
 |hdr cT n=>exact gz
end imms
section weak
variable {G:cq}{env:ai}{σ:Y}
theorem I3{I:bw}{β eZ:Nat→Value}{env:ai}{a:Act}{e:Nat}(h:kp I β env a)(aa:env.clean [e].contains=true)(V:∀y,y≠e→eZ y=β y):kp I eZ env a:=λt=>
 td (p:=[e].contains) (λd Z=>V d (by simpa using Z)) _ _ (ai.iu aa t) (h t)
theorem jN.aX{cx:eO}{I aS:bw}{w:World}{T sz:Nat}{xs:List (List U)}{v:Value}(h:jN cx I w (.sl T sz xs) v)(hle:b7 I aS)(gR:∀b,bV v=some b→∀o,aS b o=iq w b o):aO aS (.aX false xs) v:=by
 rcases h with⟨rfl,rfl⟩|⟨b,aF,arr,rfl,D,ak,bc,bX,dV,fF,jm,hY⟩
 ·simp only[aO];exact⟨none,0,rfl,by simp,by simp[maxLen],by simp,.inl trivial⟩
 ·simp only[aO];refine⟨_,aF,rfl,D,ak,by simp,.inr ⟨b,0,rfl,?_⟩⟩;have mg:∀o:Nat,aS b o=arr[o]?:=λo=>by rw[gR b rfl o];simp[iq,World.cell?,bc]
  have key:∀(bu:List (List U)) (off:Nat) (bF:List Value),(∀e∈bu,e.length=sz)→b9 I bu.flatten bF→(∀j,j<bF.length→arr[off+j]?=bF[j]?)→iG aS b bu off:=by
   intro bu;induction bu with
   |nil=>intro _ _ _ _ _;simp[iG]
   |cons y bu bD=>
    intro off bF ah ax hu;simp only[List.flatten_cons]at ax;have row:∀(cs:List U) (o:Nat) (hy:List U) (bF:List Value),b9 I (cs++hy) bF→(∀j,j<bF.length→arr[o+j]?=bF[j]?)→jY aS b cs o∧∃w8,b9 I hy w8∧bF=bF.take cs.length++w8∧w8=bF.drop cs.length:=by
     intro cs;induction cs with
     |nil=>intro o hy bF h _;exact⟨by simp[jY],bF,h,by simp,by simp⟩
     |cons c cs Cr=>
      intro o hy bF h aM;simp only[List.cons_append,b9]at h;obtain⟨ay,tQ,rfl,h1,D⟩:=h
      obtain⟨cF,w8,cW,ht,lQ⟩:=Cr (o+1) hy tQ D λj nZ=>by
       have:=aM (j+1) (by simpa using nZ);simpa [Nat.add_assoc,Nat.add_comm 1]using this
      refine⟨?_,w8,cW,by simpa using ht,by simpa using lQ⟩;simp only[jY];refine⟨⟨ay,?_,jy hle c ay h1⟩,cF⟩;rw[mg];simpa using aM 0 (by simp)
    obtain⟨cF,w8,cW,ht,lQ⟩:=row y off bu.flatten bF ax hu;simp only[iG];refine⟨cF,bD (off+y.length) w8 (λe he=>ah e (List.mem_cons_of_mem _ he)) cW λj aM=>?_⟩;subst lQ;have:=hu (y.length+j) (by simp at aM;omega);rw[List.getElem?_drop,←this,Nat.add_assoc]
  refine key xs 0 _ fF dV λj aM=>?_;rw[Nat.zero_add,List.getElem?_take];have aM:j<min (xs.length*sz) arr.size:=by simpa using aM
  rw[if_pos (by omega)];simp
theorem A.ex{c:Code}{Q:Exit→ai→Y→Prop}{ι:Type}{dx:ι→ai}{σ2:ι→Y}(h:∀cx I β a w,bS G cx I β σ w→kp I β env a→∃i aS β',bS G cx aS β' (σ2 i) w∧kp aS β' (dx i) a)(k:∀i,aY G c Q (dx i) (σ2 i)):aY G c Q env σ:=
 aY.of λcx a w ax=>by
  obtain⟨I,β,h1,D,ak,bc⟩:=ax;obtain⟨i,aS,β',bX,dV⟩:=h cx I β a w h1 D;exact(k i).use cx a w ⟨aS,β',bX,dV,ak,bc⟩
theorem Gu{d:Nat}{o ey:cn}(Z:σ.get d=some o){cx:eO}{I:bw}{β:Nat→Value}{w:World}(h:bS G cx I β σ w)(aj:aU cx I β w d ey):bS G cx I β (σ.set d ey) w:=by
 have fc:∀x,(Y.get (σ.set d ey) x).isSome→(σ.get x).isSome:=λx u=>by
  rw[Y.hU]at u;split at u
  ·rename_i e;subst e;rw[Z];rfl
  ·exact u
 refine{h with cB:=λx g4 u=>?_,dn:=λx y u ah=>h.dn x y (fc x u) (fc y ah)};rw[Y.hU]at u;split at u
 ·rename_i e;subst e;rw[Z]at u;cases u;exact aj
 ·exact h.cB x g4 u
theorem A.DZ{c:Code}{Q:Exit→ai→Y→Prop}{d K E:Nat}{bx:List (U×U)}(Z:σ.get d=some (.map K E bx))(k:∀es clock,aY G c Q env (σ.set d (.gj es clock K E bx))):aY G c Q env σ:=
 A.ex (ι:=Array MapEntry×Nat) (dx:=λ_=>env) (σ2:=λi=>σ.set d (.gj i.1 i.2 K E bx)) (λcx I β a w h dc=>by
  have:=h.cB d _ Z;simp only[aU]at this;rcases this with q|⟨r,es,clock,an,au,aK,aG,bb,bC⟩
  ·exact⟨(#[],0),I,β,Gu Z h (by simp only[aU];exact .inl q),dc⟩
  ·exact⟨(es,clock),I,β,Gu Z h (by simp only[aU];exact .inr ⟨r,an,au,aK,aG,bb,bC⟩),dc⟩) λi=>k i.1 i.2
theorem b8.aeb{d K E clock:Nat}{es:Array MapEntry}{bx:List (U×U)}(Z:σ.get d=some (.gj es clock K E bx)):b8 G env σ env (σ.set d (.map K E bx)):=λcx I β a w h dc=>by
 refine⟨I,β,Gu Z h ?_,dc⟩;have:=h.cB d _ Z;simp only[aU]at this ⊢;rcases this with q|⟨r,an,au,aK,aG,bb,bC⟩
 ·exact .inl q
 ·exact .inr ⟨r,es,clock,an,au,aK,aG,bb,bC⟩
end weak
end
section
open Go.ChangeMaps (setBlock)
def og{α S:Type}(B:Int→α→S→Option S):List (Int×α)→S→Option S
 |[],s=>some s
 |p::r,s=>match B p.1 p.2 s with|none=>none|some dg=>og B r dg
open Classical in
noncomputable def HP{α S:Type}(l:List (Int×α))(B:Int→α→S→Option S)(s:S):Option S:=
 if ∀js:List (Int×α),js.Perm l→og B js s=og B l s then og B l s else none
theorem Vz{α S:Type}{l:List (Int×α)}{B:Int→α→S→Option S}{s r:S}(h:HP l B s=some r):(∀js:List (Int×α),js.Perm l→og B js s=og B l s)∧og B l s=some r:=by
 unfold HP at h;split at h
 ·rename_i h1;exact⟨h1,h⟩
 ·cases h
theorem K3{α S:Type}{B:Int→α→S→Option S}:∀(l js:List (Int×α)) (s:S),og B (l++js) s=(og B l s).bind (og B js)
 |[],_,_=>rfl
 |p::r,js,s=>by
  simp only[List.cons_append,og];cases B p.1 p.2 s with
  |none=>rfl
  |some dg=>exact K3 r js dg
section
variable {G:cq}{σ:Y}{o:Oper}{ev:Operand→U}
def cn.vZ:cn→Option (Array MapEntry×Nat)
 |.gj es c _ _ _=>some (es,c)
 |.iX _ _ _ _ _ fx=>fx
 |_=>none
theorem G0{cx:eO}{I:bw}{β:Nat→Value}{w:World}(aq:bS G cx I β σ w){cT clock:Nat}{jb:cn}{es:Array MapEntry}(Z:σ.get cT=some jb)(aJ:jb.vZ=some (es,clock))(aT:β cT≠.nilFunc):
  ∃fh,β cT=.map (some fh)∧w.heap[fh]?=some (.map es clock)∧iK es clock:=by
 have h:=aq.cB cT jb Z;cases jb<;>simp only[cn.vZ,reduceCtorEq]at aJ
 ·cases aJ;simp only[aU,aT,false_or]at h;obtain⟨r,an,au,aK,aG,bb,bC⟩:=h;exact⟨r,an,au,bC⟩
 ·simp only[aU,aT,false_or]at h;obtain⟨r,gG,jC,W,as,an,au,aK,aG,bb,bC,bY,cK,di⟩:=h;cases di _ aJ;exact⟨r,an,au,cK⟩
theorem en.range{T cT cp K E clock:Nat}{x:Operand}{es:Array MapEntry}{jb:cn}(h:o.op=.range T x)(u:ev x=.dm cT)(Z:σ.get cT=some jb)(aJ:jb.vZ=some (es,clock))(aH:G.P.underlying T=some (.map K E))
  (hi:G.ids.contains cp=false) (aa:σ.clean [cp].contains=true):g8 G o ev σ [cp] [cp] (λr az=>r=.ptr cp 0∧az=(cp,.iter cT clock clock #[])::σ):=by
 intro cx I β w aP aq hop;have h1:=hop x (by simp[h,Op.operands]);rw[u]at h1
 simp only[ar]at h1;obtain⟨h1,rW⟩:=h1;have h3:β cT≠.nilFunc:=λe=>by rw[h1,e]at rW;simp[k3]at rW
 obtain⟨fh,an,au,aK⟩:=G0 aq Z aJ h3
 have agC:cT≠cp:=λe=>by
  have:=(Y.iu aa cT jb Z).1;simp[e]at this
 have eX:(execOp aP o).run G.P w=.ok (.value (.pointer (some ⟨w.heap.size,0,none⟩))) (w.alloc (.mapIter (some fh) clock #[] clock)):=by
  simp[execOp,h,h1,an,run_range_map w T K E fh es clock aH au]
 rw[eX];have af:=aq.oS (dD:=[cp]) (σ2:=σ) (env:=[]) ⟨λ_ _=>rfl,by simpa using hi,rfl,aa,λx u cT n h=>by have:=(Y.iu aa x _ h).1;rw[List.contains_iff_mem.2 u]at this;cases this⟩;have V:∀y,y≠cp→g9 (gF β [cp]) cp (.pointer (some ⟨w.heap.size,0,none⟩)) y=β y:=λy ah=>by rw[gU _ _ ah];simp[gF,ah]
 have oA:g9 (gF β [cp]) cp (.pointer (some ⟨w.heap.size,0,none⟩)) cp=.pointer (some ⟨w.heap.size,0,none⟩):=g7 _ _ _;refine⟨.ptr cp 0,_,I,g9 (gF β [cp]) cp (.pointer (some ⟨w.heap.size,0,none⟩)),⟨rfl,rfl⟩,?_,?_,b7.refl I,λy ah=>V y (by simpa using ah),λy ah=>by rw[Y.c4,if_neg (Ne.symm (by simpa using ah))]⟩
 ·simp only[ar,oA];exact⟨w.heap.size,rfl,rfl⟩
 ·refine af.turn (d:=cp) (gn.alloc w _) (.inl aq.size) (λx u=>by rw[Y.c4,if_neg (Ne.symm u)]) (λx u W e=>by
    obtain⟨aI,W⟩:=Option.isSome_iff_exists.1 W;exact absurd (af.qa W e) (by omega)) (b7.refl I) (λ_ _ _=>rfl) (λg4 dI lD=>by rw[aq.ic (Nat.le_refl _)]at lD;cases lD) (aq.ic (Nat.le_refl _) none)
   (λx u=>gU _ _ u) (.inl (by simpa using hi)) (g0.w6 (by simp[gF])) (.inl (by rw[oA];rfl)) λaI b3=>?_
  rw[Y.c4,if_pos rfl]at b3;cases b3;simp only[aU,oA,V cT agC,an];exact .inr ⟨w.heap.size,fh,rfl,rfl,heap_alloc_new w _,λo=>aq.ic (Nat.le_refl _) o,.inl aq.size⟩
theorem en.next{cT cp clock:Nat}{x:Operand}{es:Array MapEntry}{seen:Array Nat}{jb:cn}(h:o.op=.next x false)(u:ev x=.ptr cp 0)(hi:σ.get cp=some (.iter cT clock clock seen))(Z:σ.get cT=some jb)(aJ:jb.vZ=some (es,clock)):
  g8 G o ev σ [cp] [] (λr az=>((leftOf es seen).size=0∧r=.cD [.bool false]∧az=σ)∨∃e∈(leftOf es seen).toList,r=.cD [.bool true,.gq,.gq]∧az=σ.set cp (.iter cT clock clock (seen.push e.born))):=by
 intro cx I β w aP aq hop;have h1:=hop x (by simp[h,Op.operands]);rw[u]at h1
 simp only[ar]at h1;obtain⟨b,h1,D⟩:=h1;have fA:β cp≠.nilFunc:=λe=>by rw[e]at h1;cases h1
 have pZ:=aq.cB cp _ hi;simp only[aU,fA,false_or]at pZ;obtain⟨r,fh,an,au,aK,aG,bb⟩:=pZ;have xL:b=r:=by rw[an]at h1;simpa [bV]using h1.symm
 subst xL;have h3:β cT≠.nilFunc:=λe=>by rw[e]at au;cases au
 obtain⟨sS,bU,cG,dP⟩:=G0 aq Z aJ h3;have:sS=fh:=by rw[bU]at au;simpa [bV]using au
 subst this;rcases run_next_at (P:=G.P) w o.type b sS clock clock seen es clock aK cG dP.2 (Nat.le_refl _)with⟨dF,dO⟩|⟨e,dF,g5,dO,s3⟩
 ·have eX:(execOp aP o).run G.P w=.ok (.value (.tuple #[.bool false])) w:=by simp[execOp,h,D,dO]
  rw[eX];refine⟨.cD [.bool false],σ,I,β,.inl ⟨dF,rfl,rfl⟩,?_,aq,b7.refl I,λ_ _=>rfl,λ_ _=>rfl⟩;simp[ar,bO,aO]
 ·have eX:(execOp aP o).run G.P w=.ok (.value (.tuple #[.bool true,e.key,e.val])) (setBlock g5 b (.mapIter (some sS) clock (seen.push e.born) clock)):=by simp[execOp,h,D,s3]
  rw[eX];refine⟨.cD [.bool true,.gq,.gq],σ.set cp (.iter cT clock clock (seen.push e.born)),I,β,.inr ⟨e,dF,rfl,rfl⟩,?_,?_,b7.refl I,λ_ _=>rfl,λy ah=>by rw[Y.hU,if_neg (by simpa using ah)]⟩
  ·simp only[ar,bO,aO];exact⟨_,rfl,_,_,rfl,rfl,_,_,rfl,trivial,_,_,rfl,trivial,rfl⟩
  ·have hk:gn w (setBlock g5 b (.mapIter (some sS) clock (seen.push e.born) clock)) b:=by
    rcases dO with rfl|rfl
    ·exact gn.setObj _ b _
    ·exact gn.drew (gn.setObj _ b _)
   have eT:bV (β cp)=some b:=h1;have cb:(setBlock g5 b (.mapIter (some sS) clock (seen.push e.born) clock)).heap[b]?=some (.mapIter (some sS) clock (seen.push e.born) clock):=by
    have bQ:=gV aK;have:g5.heap=w.heap:=by rcases dO with rfl|rfl<;>rfl
    simp[setBlock,this,Array.getElem?_setIfInBounds,bQ]
   refine aq.turn (d:=cp) hk bb (λx u=>by rw[Y.hU,if_neg u]) (λx u W cw=>aq.dn x cp W (by rw[hi];rfl) u b cw (je eT)) (b7.refl I) (λ_ _ _=>rfl)
    (λo v af=>by rw[aG o]at af;cases af) (aG none) (λ_ _=>rfl) (.inr rfl) (g0.refl β) (.inl eT) λaI b3=>?_
   rw[Y.hU,if_pos rfl,hi]at b3;injection b3 with b3
   subst b3;simp only[aU];exact .inr ⟨b,sS,an,au,cb,aG,bb⟩
theorem Gm{I:bw}:∀{bx:List (U×U)} {es:List MapEntry} {i:Nat} {a c:U} {e:MapEntry},e9 I bx es→bx[i]?=some (a,c)→es[i]?=some e→aO I a e.key∧aO I c e.val
 |[],_,i,_,_,_,_,h,_=>by simp at h
 |(k,v)::r,_,i,a,c,e,h,aC,he=>by
  simp only[e9]at h;obtain⟨f,bF,rfl,h1,D,ak⟩:=h;cases i with
  |zero=>simp at aC he;obtain⟨rfl,rfl⟩:=aC;subst he;exact⟨h1,D⟩
  |succ i=>simp at aC he;exact Gm ak aC he
theorem Wa{cx:eO}{I:bw}{β:Nat→Value}{w:World}{aP:Operand→Value}{cT cp clock i:Nat}{x:Operand}{es:Array MapEntry}{seen:Array Nat}{jb:cn}{e:MapEntry}(aq:bS G cx I β σ w)(h:o.op=.entry x)(h1:ar I β (.ptr cp 0) (aP x))
  (hi:σ.get cp=some (.iter cT clock clock (seen.push e.born))) (Z:σ.get cT=some jb) (aJ:jb.vZ=some (es,clock)) (he:es[i]?=some e):(execOp aP o).run G.P w=.ok (.value (.tuple #[e.key,e.val])) w∧β cT≠.nilFunc:=by
 simp only[ar]at h1;obtain⟨b,h1,D⟩:=h1;have fA:β cp≠.nilFunc:=λe=>by rw[e]at h1;cases h1
 have pZ:=aq.cB cp _ hi;simp only[aU,fA,false_or]at pZ;obtain⟨r,fh,an,au,aK,aG,bb⟩:=pZ;have xL:b=r:=by rw[an]at h1;simpa [bV]using h1.symm
 subst xL;have h3:β cT≠.nilFunc:=λe=>by rw[e]at au;cases au
 obtain⟨sS,bU,cG,dP⟩:=G0 aq Z aJ h3;have:sS=fh:=by rw[bU]at au;simpa [bV]using au
 subst this;have qR:e∈es.toList:=by
  have:es.toList[i]?=some e:=by simpa using he
  exact List.mem_of_getElem? this
 exact⟨by simp[execOp,h,D,run_entry_at (P:=G.P) w b sS clock seen es clock e aK cG qR dP.1],h3⟩
theorem bG.aas{α:Type}{cT cp clock i K E:Nat}{k:IntKind}{x:Operand}{es:Array MapEntry}{seen:Array Nat}{e:MapEntry}{n:Int}{v:α}(l:List (Int×α))(enc:α→U)(h:o.op=.entry x)(u:ev x=.ptr cp 0)(hi:σ.get cp=some (.iter cT clock clock (seen.push e.born)))
  (Z:σ.get cT=some (.gj es clock K E (dy k enc l))) (he:es[i]?=some e) (aT:l[i]?=some (n,v)):Yields G o ev σ [] [cp,cT] (.cD [.int k n,enc v]):=
 .pure λaz cx I β w aP b2 aq hop=>by
  have h1:=hop x (by simp[h,Op.operands]);rw[u]at h1
  have dw:az.get cT=some (.gj es clock K E (dy k enc l)):=by rw[b2 cT (by simp)];exact Z
  obtain⟨hr,hl⟩:=Wa aq h h1 (by rw[b2 cp (by simp)];exact hi) dw rfl he;refine⟨_,hr,?_⟩;have aj:=aq.cB cT _ dw;simp only[aU,hl,false_or]at aj;obtain⟨r,an,au,aK,_⟩:=aj;obtain⟨dF,dO⟩:=Gm aK (i:=i) (a:=.int k n) (c:=enc v) (e:=e) (by simp[dy,aT]) (by simpa using he);simp only[ar,bO];exact⟨_,rfl,e.key,[e.val],rfl,dF,e.val,[],rfl,aO.rep β _ _ dO,rfl⟩
def uU{α:Type}(l:List (Int×α))(n:Int):List (Int×α):=match l with
 |[]=>[]
 |p::r=>if p.1=n then r else p::uU r n
theorem Tr{I:bw}{α:Type}{k:IntKind}{enc:α→U}(n:Int):∀(l:List (Int×α)) (es:List MapEntry) (i:Nat) (a:α),e9 I (dy k enc l) es→bT l n=some a→
  ∃j v,Instr.findNow (.int k) (.int k n) es i=some (some (i+j,v))∧j<es.length∧e9 I (dy k enc (uU l n)) (es.eraseIdx j)
 |[],es,i,a,h,bl=>by simp[bT]at bl
 |(m,b)::r,es,i,a,h,bl=>by
  simp only[dy,List.map_cons,e9]at h;obtain⟨e,bF,rfl,ak,bc,bX⟩:=h;simp only[aO]at ak;rw[pS]at bl;by_cases hm:m=n
  ·subst hm;refine⟨0,e.val,by simp[Instr.findNow,Instr.sameNow,ak],by simp,?_⟩;simp only[uU,if_true,List.eraseIdx_cons_zero];exact bX
  ·rw[if_neg hm]at bl;obtain⟨j,v,an,au,aK⟩:=Tr n r bF (i+1) a bX bl;refine⟨j+1,v,?_,by simpa using au,?_⟩
   ·simp only[Instr.findNow,Instr.sameNow,ak,if_pos];have:(n==m)=false:=by simpa using λe=>hm e.symm
    rw[this];simp only;rw[an];simp[Nat.add_assoc,Nat.add_comm 1]
   ·simp only[uU,hm,if_false,List.eraseIdx_cons_succ,dy,List.map_cons,e9];exact⟨e,_,rfl,by simp only[aO];exact ak,bc,aK⟩
theorem Un{α:Type}:∀{l:List (Int×α)} {n:Int},bT l n=none→uU l n=l
 |[],_,_=>rfl
 |p::r,n,h=>by
  rw[pS]at h;split at h
  ·cases h
  ·rename_i aB;simp only[uU,if_neg aB,Un h]
theorem iK.erase{es:Array MapEntry}{clock:Nat}(h:iK es clock)(j:Nat):iK (es.eraseIdxIfInBounds j) clock:=by
 obtain⟨h1,D⟩:=h;have e:(es.eraseIdxIfInBounds j).toList=es.toList.eraseIdx j:=by simp
 refine⟨?_,λx u=>D x ?_⟩
 ·rw[e,ChangeMaps.map_eraseIdx];exact h1.sublist (List.eraseIdx_sublist _ _)
 ·rw[e]at u;exact(List.eraseIdx_sublist _ _).subset u
theorem en.Wb{α:Type}{T K E d:Nat}{k:IntKind}{x y:Operand}{n:Int}(l:List (Int×α))(enc:α→U)(h:o.op=.call ⟨.builtin .delete,#[x,y],#[T,K]⟩)(u:ev x=.dm d)(ah:ev y=.int k n)
  (Z:σ.get d=some (.map K E (dy k enc l))) (aH:k7 G.P T K E k) :
  g8 G o ev σ [d] [] (λr az=>r=.cD []∧az=σ.set d (.map K E (dy k enc (uU l n)))):=by
 intro cx I β w aP aq hop;have h1:=hop x (by simp[h,Op.operands,Call.operands]);rw[u]at h1
 have D:=hop y (by simp[h,Op.operands,Call.operands]);rw[ah]at D;have D:=iH D
 obtain⟨r,es,clock,hH,an,au,aK,aG,bb,bC⟩:=FX aq Z h1;have aA:∀w,(underlying T).run G.P w=.ok (.map K E) w:=λw=>by simp[underlying,program,Sem.run,aH.gv]
 have e2:∀w,(underlying K).run G.P w=.ok (.int k) w:=λw=>by simp[underlying,program,Sem.run,aH.key]
 have b6:=nS (P:=G.P) au;have cQ:=CD (P:=G.P) aH.key (es.isEmpty) n w;have gy:∀aI:Obj,(setObj r aI).run G.P w=.ok () {w with heap:=w.heap.setIfInBounds r aI}:=λaI=>by simp[setObj,Sem.run,au]
 have sq:∃gG,(execOp aP o).run G.P w=.ok (.value (.tuple #[])) {w with heap:=w.heap.setIfInBounds r (.map gG clock)}∧e9 I (dy k enc (uU l n)) gG.toList∧iK gG clock:=by
  cases bl:bT l n with
  |none=>
   obtain⟨bU,cG⟩:=CI n l es.toList 0 aK bl;have fo:(Instr.findKey K (.int k n) es.toList).run G.P w=.ok none w:=by simp[Instr.findKey,e2,bU]
   refine⟨es,by simp[execOp,h,resolve,invoke,builtin,Builtin.delete_,hH,D,aA,b6,cQ,fo,gy],?_,bC⟩;rw[Un bl];exact aK
  |some a=>
   obtain⟨j,ay,bU,cG,dP⟩:=Tr n l es.toList 0 a aK bl;have fo:(Instr.findKey K (.int k n) es.toList).run G.P w=.ok (some (0+j,ay)) w:=by simp[Instr.findKey,e2,bU]
   refine⟨es.eraseIdxIfInBounds j,by simp[execOp,h,resolve,invoke,builtin,Builtin.delete_,hH,D,aA,b6,cQ,fo,gy],?_,bC.erase j⟩;simpa using dP
 obtain⟨gG,eX,hv,fv⟩:=sq;rw[eX];refine⟨.cD [],_,I,β,⟨rfl,rfl⟩,by simp[ar,bO],?_,b7.refl I,λ_ _=>rfl,λx u=>by rw[Y.hU,if_neg (by simpa using u)]⟩;have eT:bV (β d)=some r:=by rw[an];rfl
 refine aq.turn (d:=d) (gn.setObj w r _) bb (λx u=>by rw[Y.hU,if_neg u]) (λx u W e=>aq.dn x d W (by rw[Z];rfl) u r e (je eT)) (b7.refl I) (λ_ _ _=>rfl)
  (λo v af=>by rw[aG o]at af;cases af) (aG none) (λ_ _=>rfl) (.inr rfl) (g0.refl β) (.inl eT) λaI b3=>?_
 rw[Y.hU,if_pos rfl,Z]at b3;injection b3 with b3
 subst b3;simp only[aU];exact .inr ⟨r,gG,clock,an,by have:=gV au;simp[Array.getElem?_setIfInBounds,this],hv,aG,bb,fv⟩
theorem A.Qj{c:Code}{Q:Exit→ai→Y→Prop}{env:ai}{F:Prop}(h:∀cx I β a w,bS G cx I β σ w→kp I β env a→F)(k:F→aY G c Q env σ):aY G c Q env σ:=
 aY.of λcx a w ax=>by
  obtain⟨I,β,h1,D,ak,bc⟩:=ax;exact(k (h cx I β a w h1 D)).use cx a w ⟨I,β,h1,D,ak,bc⟩
def lI{bA α:Type}(l:List (bA×α))(p:List Nat):List (bA×α):=p.filterMap λi=>l[i]?
theorem LF{bA α:Type}(l:List (bA×α)):lI l (List.range l.length)=l:=by
 have:∀(n:Nat),n≤l.length→lI l (List.range n)=l.take n:=by
  intro n;induction n with
  |zero=>intro _;simp[lI]
  |succ n bD=>
   intro aT;rw[List.range_succ];simp only[lI,List.filterMap_append,List.filterMap_cons,List.filterMap_nil]at bD ⊢;rw[bD (by omega),List.getElem?_eq_getElem (by omega)];simp only;rw[List.take_succ,List.getElem?_eq_getElem (by omega)];rfl
 rw[this _ (Nat.le_refl _),List.take_length]
theorem Lb{p:List Nat}{n:Nat}(h1:p.Nodup)(D:∀i,i∈p↔i<n):p.Perm (List.range n):=
 (List.perm_ext_iff_of_nodup h1 List.nodup_range).2 λi=>by rw[List.mem_range];exact D i
theorem A.K8{S α:Type}{env:ai}{Q:Exit→ai→Y→Prop}{l:List (Int×α)}{B:Int→α→S→Option S}{kP r:S}(hm:HP l B kP=some r){id b t1 t2 gI cT cp clock:Nat}{es:Array MapEntry}{gd ey:Oper}{y:Code}
  (inv:S→Prop) (fJ:S→ai) (fS:Array Nat→S→Y) (mG:gd.op=.next (.tmp gI) false∧gd.dst=some t1∧gd.guard=none) (jG:ey.op=.extract (.tmp t1) 0∧ey.dst=some t2∧ey.guard=none) (Z:uO G.N #[gd,ey]=true)
  (bJ:inv kP) (ag2:∀n v g iY,B n v g=some iY→inv g→inv iY) (pZ:∀g,(fJ g).get gI=.ptr cp 0) (xU:∀seen g,(fS seen g).get cp=some (.iter cT clock clock seen)) (hT:∀seen g,∃jb,(fS seen g).get cT=some jb∧jb.vZ=some (es,clock))
  (gy:∀seen g dg,(fS seen g).set cp (.iter cT clock clock dg)=fS dg g) (eF:∀seen g,inv g→∀cx I β w,bS G cx I β (fS seen g) w→β cT≠.nilFunc→es.size=l.length)
  (aq:b8 G env σ (fJ kP) (fS #[] kP))
  (body:∀(seen:Array Nat) (e:MapEntry) (i:Nat) (n:Int) (v:α) (g iY:S),es[i]?=some e→l[i]?=some (n,v)→inv g→B n v g=some iY→
   aY G y (q8 (λgm az=>b8 G gm az (fJ iY) (fS (seen.push e.born) iY)) Q) ((t2,.bool true)::(t1,.cD [.bool true,.gq,.gq])::fJ g) (fS (seen.push e.born) g))
  (out:∀seen,Q (.exit b) ((t2,.bool false)::(t1,.cD [.bool false])::fJ r) (fS seen r)) :
  aY G (.loop (.seq (.region id #[gd,ey] false) (.seq (.cond (.tmp t2) .skip (.exit b)) y))) Q env σ:=by
 obtain⟨m1,m2⟩:=Vz hm
 refine A.loop (α:=Array Nat×S) (λs=>fJ s.2) (λs=>fS s.1 s.2) (λs=>inv s.2∧∃p:List Nat,p.Nodup∧(∀i∈p,i<l.length)∧(∀(i:Nat) (e:MapEntry),es[i]?=some e→(s.1.contains e.born=true↔i∈p))∧og B (lI l p) kP=some s.2)
  (λs=>(leftOf es s.1).size) (#[],kP) ⟨bJ,[],List.nodup_nil,by simp,by simp,rfl⟩ aq ?_
 rintro⟨seen,g⟩ ⟨hi,p,bU,cG,dP,gT⟩;refine A.Qj (F:=es.size=l.length∧(es.toList.map (·.born)).Nodup) (λcx I β a w i4 aH=>?_) λ⟨f1,f2⟩=>?_
 ·have h1:=aH gI;rw[show(fJ (seen,g).2).get gI=.ptr cp 0 from pZ g]at h1;simp only[ar]at h1;obtain⟨b,h1,_⟩:=h1;have fA:β cp≠.nilFunc:=λe=>by rw[e]at h1;cases h1
  have aj:=i4.cB cp _ (xU seen g);simp only[aU,fA,false_or]at aj;obtain⟨r,fh,an,au,_⟩:=aj;have h3:β cT≠.nilFunc:=λe=>by rw[e]at au;cases au
  obtain⟨jb,dF,dO⟩:=hT seen g;obtain⟨_,_,_,s3⟩:=G0 i4 dF dO h3;exact⟨eF seen g hi cx I β w i4 h3,s3.1⟩
 obtain⟨jb,dF,dO⟩:=hT seen g;have vv:ai.get ((t2,.bool true)::(t1,.cD [.bool true,.gq,.gq])::fJ g) t2=.bool true:=by rw[ai.c4,if_pos rfl]
 have zh:ai.get ((t2,.bool false)::(t1,.cD [.bool false])::fJ g) t2=.bool false:=by rw[ai.c4,if_pos rfl]
 refine A.seq (A.region Z ?_);show e7 G #[gd,ey] ⟨false,[],[]⟩ [] [0,1] (fJ g) (fS seen g) _;refine⟨gd,rfl,.inr (.inr (.inl ⟨by simp only[iE,mG.2.2],by simp,[cp],[],_,en.next (x:=.tmp gI) mG.1 (pZ g) (xU seen g) dF dO,by simp,ai.pR _,by simp,λbE az pV=>?_⟩))⟩
 have ext:∀(vs:List U) (dY:Bool) (az:Y) (K:ai→Y→Prop),vs[0]?=some (.bool dY)→K ((t2,.bool dY)::(t1,.cD vs)::fJ g) az→e7 G #[gd,ey] ⟨false,[],[]⟩ [] [1] ((fJ g).put gd.dst (.cD vs)) az K:=λvs dY az K af fz=>by
  refine⟨ey,rfl,.inr (.inl ⟨by simp only[iE,jG.2.2],by simp,[],[],.bool dY,az,uX.none _ _ _,by simp,by simp,bG.extract (x:=.tmp t1) jG.1 (by rw[mG.2.1];show ai.get _ _=_;rw[ai.put,ai.c4,if_pos rfl]) af,?_⟩)⟩;rw[mG.2.1,jG.2.1];exact fz
 rcases pV with⟨iT,rfl,rfl⟩|⟨e,iT,rfl,rfl⟩
 ·refine ext _ false _ _ rfl ?_
  have me:∀i,i∈p↔i<l.length:=λi=>⟨cG i,λbQ=>by
   have B6:i<es.size:=by omega
   refine(dP i es[i] (Array.getElem?_eq_getElem B6)).1 ?_;by_cases aa:seen.contains es[i].born=true
   ·exact aa
   ·exfalso;have:es[i]∈leftOf es seen:=by
     unfold leftOf;rw[Array.mem_filter];exact⟨Array.getElem_mem B6,by simpa using aa⟩
    have:leftOf es seen≠#[]:=λe=>by rw[e]at this;simp at this
    exact this (Array.eq_empty_of_size_eq_zero iT)⟩
  have aB:(lI l p).Perm l:=by
   have:=(Lb bU me).filterMap λi=>l[i]?;have e2:=LF l;unfold lI at e2 ⊢
   rwa [e2]at this
  have bl:g=r:=by
   have:=m1 _ aB;rw[m2,gT]at this;exact Option.some.inj this
  subst bl;refine A.seq (A.cond (b:=false) zh (λh=>by cases h) λ_=>A.exit ?_);exact out seen
 ·refine ext _ true _ _ rfl ?_;rw[gy seen g];obtain⟨fO,hL⟩:=mem_left iT;obtain⟨i,hh⟩:=List.getElem?_of_mem fO;have hh:es[i]?=some e:=by simpa using hh
  have s4:i<l.length:=by have:=(Array.getElem?_eq_some_iff.1 hh).1;omega
  have mY:i∉p:=λh=>by
   have:=(dP i e hh).2 h;rw[hL]at this;cases this
  have vG:l[i]?=some (l[i].1,l[i].2):=List.getElem?_eq_getElem s4;have fm:(p++[i]).Nodup:=by
   rw[List.nodup_append];exact⟨bU,by simp,λa aC c aa=>by simp only[List.mem_singleton]at aa;subst aa;exact λe=>mY (e▸aC)⟩
  have uW:∀j∈p++[i],j<l.length:=λj aM=>by
   rcases List.mem_append.1 aM with aM|aM
   ·exact cG j aM
   ·rw[List.mem_singleton.1 aM];exact s4
  have pY:∃iY,B l[i].1 l[i].2 g=some iY∧og B (lI l (p++[i])) kP=some iY:=by
   have aA:lI l (p++[i])=lI l p++[(l[i].1,l[i].2)]:=by
    unfold lI;rw[List.filterMap_append];simp[List.filterMap_cons,List.getElem?_eq_getElem s4]
   have e2:og B (lI l (p++[i])) kP=B l[i].1 l[i].2 g:=by
    rw[aA,K3,gT];simp only[Option.bind_some,og];cases B l[i].1 l[i].2 g<;>rfl
   have full:(p++[i]++(List.range l.length).filter λj=>!(p++[i]).contains j).Perm (List.range l.length):=by
    refine Lb ?_ λj=>?_
    ·rw[List.nodup_append];refine⟨fm,List.nodup_range.filter _,λa aC c aa e=>?_⟩;subst e;have:=(List.mem_filter.1 aa).2;simp only[Bool.not_eq_true',List.contains_eq_mem,decide_eq_false_iff_not]at this;exact this aC
    ·rw[List.mem_append,List.mem_filter,List.mem_range];constructor
     ·rintro(h|h)
      ·exact uW j h
      ·exact h.1
     ·intro h;by_cases aM:j∈p++[i]
      ·exact .inl aM
      ·exact .inr ⟨h,by simpa using aM⟩
   have n2:=full.filterMap λi=>l[i]?;have b6:=LF l;unfold lI at b6;rw[b6,List.filterMap_append]at n2;have ak:=m1 _ n2;rw[m2,K3]at ak;cases be:og B (lI l (p++[i])) kP with
   |none=>unfold lI at be;rw[be]at ak;cases ak
   |some iY=>exact⟨iY,by rw[←e2];exact be,rfl⟩
  obtain⟨iY,g5,ng⟩:=pY;refine A.seq (A.cond (b:=true) vv (λ_=>A.skip ?_) λh=>by cases h);refine(body seen e i l[i].1 l[i].2 g iY hh vG hi g5).mono λex gm az bR=>?_;cases ex with
  |normal=>
   refine⟨(seen.push e.born,iY),⟨ag2 _ _ _ _ g5 hi,p++[i],fm,uW,λj cw aM=>?_,ng⟩,left_shrinks es seen e iT,bR⟩;rw[contains_push,Bool.or_eq_true,beq_iff_eq,dP j cw aM,List.mem_append,List.mem_singleton];constructor
   ·rintro(h|h)
    ·exact .inl h
    ·right;have nZ:es.toList[j]?=some cw:=by simpa using aM
     have r1:es.toList[i]?=some e:=by simpa using hh
     have mh:=(List.getElem?_eq_some_iff.1 nZ).1;have vE:=(List.getElem?_eq_some_iff.1 r1).1;have cF:=(List.getElem?_eq_some_iff.1 nZ).2;have cW:=(List.getElem?_eq_some_iff.1 r1).2;have pw:=List.pairwise_iff_getElem.1 f2;rcases Nat.lt_trichotomy j i with q|q|q
     ·refine absurd ?_ (pw j i (by simpa using mh) (by simpa using vE) q);rw[List.getElem_map,List.getElem_map,cF,cW,h]
     ·exact q
     ·refine absurd ?_ (pw i j (by simpa using vE) (by simpa using mh) q);rw[List.getElem_map,List.getElem_map,cF,cW,h]
   ·rintro(h|h)
    ·exact .inl h
    ·subst h;rw[aM]at hh;cases hh;exact .inr rfl
  |exit id=>exact bR
  |goto l=>exact bR
  |ret=>exact bR
  |panic c=>exact bR
  |outgrown=>exact bR
end
end
section
def TE{α:Type}(e:iU α)(l:List α):U:=.aX false (aD e l)
variable {α:Type}
theorem alv(e:iU α)(I:bw):aO I (TE e []) (.slice none 0 0):=by
 simp only[TE,aD,List.map_nil,aO];exact⟨none,0,rfl,by simp,by simp[maxLen],by simp,.inl trivial⟩
variable {E:Nat}{k:IntKind}
theorem Hg{P:Program}(h:∀w,(zeroValue E).run P w=.ok (.int k 0) w):∀w,∃v,(zeroValue E).run P w=.ok v w∧∀I,aO I (c5 k 0) v:=λw=>⟨_,h w,λI=>by simp[c5,aO]⟩
theorem alo{P:Program}(h:∀w,(zeroValue E).run P w=.ok (.bool false) w):∀w,∃v,(zeroValue E).run P w=.ok v w∧∀I,aO I (ir false) v:=λw=>⟨_,h w,λI=>by simp[ir,aO]⟩
section
variable {P:Program}
def Qk(env:ai)(σ:Y)(aW sz:Nat)(z:Operand):Option (List Nat×List (List U)):=match env.cz z with
 |some .cV=>some ([],[])
 |some (.own j)=>(match σ.get j with
  |some (.slice ko Ar xs 0 _)=>bif Nat.beq ko aW&&Nat.beq Ar sz then some ([j],xs)else none
  |_=>none)
 |_=>none
def C2{α:Type}(aV e4 eH aW sz e2:Nat)(k:IntKind)(js:List (Int×List α))(enc:α→List U)(ids:List Nat)(T:Nat)(x y z:Operand)(env:ai)(σ:Y):Option (cA×cf×Option (Option Nat×Nat)):=match env.cz x with
  |some (.dm d)=>(match env.cz y with
   |some (.int eM kC)=>(match σ.get d with
    |some (.iX K E e jr dL fx)=>(match σ.get e with
     |some (.cS cR)=>(match Qk env σ aW sz z with
      |some (kG,xs)=>bif Nat.beq T aV&&Nat.beq K e4&&Nat.beq E eH&&(σ.get e2).isNone&&!ids.contains e2&&σ.clean [e2].contains then
       some (.e (d::e::e2::kG) [e2] .undef ((e2,.cS (nq aW sz enc js))::(d,.iX K E e2 (j1 k js) none none)::σ.minus (d::e::kG)),([.int eM kC,.agg jr,.aX false xs],[(1,.cS cR)]),dL)else none
      |none=>none)
     |_=>none)
    |_=>none)
   |_=>none)
  |_=>none
theorem aau{α:Type}{aV e4 eH aW sz e2:Nat}{k:IntKind}{ks:List U}{l js:List (Int×List α)}{n:Int}{enc:α→List U}{row:List α}(aH:k7 P aV e4 eH k){o:Oper}{N:Nat}{ids:List Nat}{env:ai}{σ:Y}{s:cA}{aI:cf}{dL:Option (Option Nat×Nat)}{T:Nat}{x y z:Operand}
  (aj:o.op=.mapUpdate T x y z∨o.op=.insert T x y z) (h:C2 aV e4 eH aW sz e2 k js enc ids T x y z env σ=some (s,aI,dL)) (he:aI=([.int k n,.agg ks,.aX false (row.map enc)],[(1,.cS (nq aW sz enc l))])) (JV:j1 k l=ks) (xS:c6 l n row=js) (cb:dL=none∨∃t,dL=Dy l n t) (h0:row.map enc=[]→row=[]):e1 ⟨P,N,ids⟩ o env σ s:=by
 subst JV xS;simp only[C2]at h;split at h
 ·rename_i d u;split at h
  ·rename_i eM kC ah;split at h
   ·rename_i K E e jr anP fx Z;split at h
    ·rename_i cR V;split at h
     ·rename_i kG xs ax;generalize aa:(Nat.beq T aV&&_&&_&&_&&_&&_)=dY at h;cases dY with
      |false=>cases h
      |true=>
       simp only[Bool.and_eq_true,Bool.not_eq_true']at aa;obtain⟨⟨⟨⟨⟨bk,bZ⟩,c1⟩,fu⟩,gl⟩,it⟩:=aa;have:=Nat.eq_of_beq_eq_true bk;subst this;have:=Nat.eq_of_beq_eq_true bZ;subst this;have:=Nat.eq_of_beq_eq_true c1;subst this;cases h;simp only[Prod.mk.injEq,List.cons.injEq,U.int.injEq,U.agg.injEq,U.aX.injEq,cn.cS.injEq,and_true,true_and]at he;obtain⟨⟨⟨rfl,rfl⟩,rfl,rfl⟩,rfl⟩:=he;simp only[Qk]at ax;split at ax
       ·rename_i hz;simp only[Option.some.injEq,Prod.mk.injEq]at ax;obtain⟨rfl,ax⟩:=ax;exact⟨en.Qi (cU:=false) [] l enc row aj (ai.b5 u) (ai.b5 ah) (.inl ⟨ai.b5 hz,h0 ax.symm,rfl⟩) Z cb V aH (by simpa using fu) gl it,by simp only[List.all_cons,List.all_nil,gl];rfl⟩
       ·rename_i j hz;split at ax
        ·rename_i ko Ar kE cU aM;cases bR:(Nat.beq ko aW&&Nat.beq Ar sz)with
         |false=>rw[bR]at ax;cases ax
         |true=>
          rw[bR]at ax;simp only[cond_true,Option.some.injEq,Prod.mk.injEq]at ax;obtain⟨rfl,rfl⟩:=ax;simp only[Bool.and_eq_true]at bR;have:=Nat.eq_of_beq_eq_true bR.1;subst this;have:=Nat.eq_of_beq_eq_true bR.2;subst this;exact⟨en.Qi (cU:=cU) [j] l enc row aj (ai.b5 u) (ai.b5 ah) (.inr ⟨j,ai.b5 hz,aM,rfl⟩) Z cb V aH (by simpa using fu) gl it,by simp only[List.all_cons,List.all_nil,gl];rfl⟩
        ·cases ax
       ·cases ax
     ·cases h
    ·cases h
   ·cases h
  ·cases h
 ·cases h
def tJ:Option (Option Nat×Nat)→U
 |none=>.gq
 |some (none,t)=>.own t
 |some (some i,t)=>.ptr t i
theorem XC:∀{a b:Option (Option Nat×Nat)},tJ a=tJ b→a=b
 |none,none,_=>rfl
 |some (none,t),some (none,ay),h=>by simp only[tJ,U.own.injEq]at h;rw[h]
 |some (some i,t),some (some j,ay),h=>by simp only[tJ,U.ptr.injEq]at h;rw[h.1,h.2]
 |none,some (none,_),h|none,some (some _,_),h|some (none,_),none,h|some (some _,_),none,h|some (none,_),some (some _,_),h|some (some _,_),some (none,_),h=>by simp[tJ]at h
def C1{α:Type}(aV e4 eH aW sz e2:Nat)(k:IntKind)(js:List (Int×List α))(enc:α→List U)(ids:List Nat)(op:Op)(env:ai)(σ:Y):Option (cA×cf):=match op with
 |.mapUpdate T x y z=>(match C2 aV e4 eH aW sz e2 k js enc ids T x y z env σ with|some (s,aI,dL)=>some (s,(tJ dL::aI.1,aI.2))|none=>none)
 |.insert T x y z=>(match C2 aV e4 eH aW sz e2 k js enc ids T x y z env σ with|some (s,aI,dL)=>some (s,(tJ dL::aI.1,aI.2))|none=>none)
 |_=>none
theorem aav{α:Type}{aV e4 eH aW sz e2:Nat}{k:IntKind}{ks:List U}{l js:List (Int×List α)}{n:Int}{enc:α→List U}{row:List α}{af:Option (Option Nat×Nat)}(aH:k7 P aV e4 eH k)(JV:j1 k l=ks)(xS:c6 l n row=js)(cb:af=none∨∃t,af=Dy l n t){o:Oper}{N:Nat}{ids:List Nat}{env:ai}{σ:Y}{s:cA}{aI:cf}
  (h:C1 aV e4 eH aW sz e2 k js enc ids o.op env σ=some (s,aI)) (he:aI=([tJ af,.int k n,.agg ks,.aX false (row.map enc)],[(1,.cS (nq aW sz enc l))])):e1 ⟨P,N,ids⟩ o env σ s:=by
 have h0:row.map enc=[]→row=[]:=λh=>List.map_eq_nil_iff.1 h;have key:∀{T:Nat} {x y z:Operand} (dL:Option (Option Nat×Nat)) (qu:cf),(o.op=.mapUpdate T x y z∨o.op=.insert T x y z)→C2 aV e4 eH aW sz e2 k js enc ids T x y z env σ=some (s,qu,dL)→aI=(tJ dL::qu.1,qu.2)→e1 ⟨P,N,ids⟩ o env σ s:=by
  intro T x y z dL qu aj D ak;rw[ak]at he;simp only[Prod.mk.injEq,List.cons.injEq]at he;obtain⟨⟨aA,Ez⟩,b6⟩:=he;refine aau aH aj D (Prod.ext Ez b6) JV xS ?_ h0;rw[XC aA];exact cb
 cases aj:o.op<;>rw[aj]at h
 case mapUpdate T x y z=>
  simp only[C1]at h;split at h
  ·rename_i dg qu dL D;cases h;exact key dL qu (.inl aj) D rfl
  ·cases h
 case insert T x y z=>
  simp only[C1]at h;split at h
  ·rename_i dg qu dL D;cases h;exact key dL qu (.inr aj) D rfl
  ·cases h
 all_goals (simp only[C1]at h;cases h)
def St{α:Type}{aV e4 eH:Nat}{k:IntKind}(aW sz e2:Nat)(l:List (Int×List α))(n:Int)(enc:α→List U)(row:List α)(aH:k7 P aV e4 eH k):Hint P:=
 .gs true ([tJ none,.int k n,.agg (j1 k l),.aX false (row.map enc)],[(1,.cS (nq aW sz enc l))]) (C1 aV e4 eH aW sz e2 k (c6 l n row) enc) λ_ _ _ _ _ _ _ h he=>aav aH rfl rfl (.inl rfl) h he
def Ft{α:Type}(aV:Nat)(k:IntKind)(l:List (Int×α))(n:Int)(enc:α→U)(z:α)(op:Op)(env:ai)(σ:Y):Option (cA×cf):=match op with
 |.lookup T x y ok=>(match env.cz x with
  |some (.de bx)=>(match env.cz y with
   |some (.int eM kC)=>bif Nat.beq T aV then some (.y [] (bif ok then .cD [enc ((bT l n).getD z),.bool (bT l n).isSome]else enc ((bT l n).getD z)),([.de bx,.int eM kC],[]))else none
   |_=>none)
  |some (.dm d)=>(match env.cz y with
   |some (.int eM kC)=>(match σ.get d with
    |some (.gj es clock K E bx)=>bif Nat.beq T aV then some (.y [d] (bif ok then .cD [enc ((bT l n).getD z),.bool (bT l n).isSome]else enc ((bT l n).getD z)),([.de bx,.int eM kC],[]))else none
    |_=>none)
   |_=>none)
  |_=>none)
 |_=>none
theorem bG.XD{G:cq}{o:Oper}{ev:Operand→U}{σ:Y}{α:Type}{T K E iW kF d:Nat}{es:Array MapEntry}{clock:Nat}{k:IntKind}{x y:Operand}{ok:Bool}{n:Int}(l:List (Int×α))(enc:α→U)(z:α)(h:o.op=.lookup T x y ok)(u:ev x=.dm d)(ah:ev y=.int k n)(Z:σ.get d=some (.gj es clock iW kF (dy k enc l)))
  (aH:k7 G.P T K E k) (hz:∀w,∃v,(zeroValue E).run G.P w=.ok v w∧∀I,aO I (enc z) v) :
  Yields G o ev σ [] [d] (bif ok then .cD [enc ((bT l n).getD z),.bool (bT l n).isSome]else enc ((bT l n).getD z)):=
 .pure λaz cx I β w aP b2 aq hop=>by
  have h1:=hop x (by simp[h,Op.operands]);rw[u]at h1
  have D:=hop y (by simp[h,Op.operands]);rw[ah]at D;have D:=iH D
  exact Lj l enc z h (Nz aq (by rw[b2 d (by simp)];exact Z) h1) D aH hz
theorem aaw{α:Type}{aV e4 eH:Nat}{k:IntKind}{l:List (Int×α)}{n:Int}{enc:α→U}{z:α}(aH:k7 P aV e4 eH k)(hz:∀w,∃v,(zeroValue eH).run P w=.ok v w∧∀I,aO I (enc z) v){o:Oper}{N:Nat}{ids:List Nat}{env:ai}{σ:Y}{s:cA}{aI:cf}
  (h:Ft aV k l n enc z o.op env σ=some (s,aI)) (he:aI=([.de (dy k enc l),.int k n],[])):e1 ⟨P,N,ids⟩ o env σ s:=by
 cases aj:o.op<;>rw[aj]at h
 case lookup T x y ok=>
  simp only[Ft]at h;split at h
  ·rename_i bx u;split at h
   ·rename_i eM kC ah;cases V:Nat.beq T aV with
    |false=>rw[V]at h;cases h
    |true=>
     rw[V]at h;have:=Nat.eq_of_beq_eq_true V;subst this;cases h;simp only[Prod.mk.injEq,List.cons.injEq,U.int.injEq,U.de.injEq,and_true]at he;obtain⟨rfl,rfl,rfl⟩:=he;exact bG.Yh l enc z aj (ai.b5 u) (ai.b5 ah) aH hz
   ·cases h
  ·rename_i d u;split at h
   ·rename_i eM kC ah;split at h
    ·rename_i es clock K E bx Z;cases V:Nat.beq T aV with
     |false=>rw[V]at h;cases h
     |true=>
      rw[V]at h;have:=Nat.eq_of_beq_eq_true V;subst this;cases h;simp only[Prod.mk.injEq,List.cons.injEq,U.int.injEq,U.de.injEq,and_true]at he;obtain⟨rfl,rfl,rfl⟩:=he;exact bG.XD l enc z aj (ai.b5 u) (ai.b5 ah) Z aH hz
    ·cases h
   ·cases h
  ·cases h
 all_goals (simp only[Ft]at h;cases h)
def zo{α:Type}{aV e4 eH:Nat}{k:IntKind}(l:List (Int×α))(n:Int)(enc:α→U)(z:α)(aH:k7 P aV e4 eH k)(hz:∀w,∃v,(zeroValue eH).run P w=.ok v w∧∀I,aO I (enc z) v):Hint P:=
 .gs false ([.de (dy k enc l),.int k n],[]) (λ_=>Ft aV k l n enc z) λ_ _ _ _ _ _ _ h he=>aaw aH hz h he
def Ex{α:Type}(aV e4:Nat)(k:IntKind)(l:List (Int×α))(n:Int)(enc:α→U)(op:Op)(env:ai)(σ:Y):Option (cA×cf):=match op with
 |.call c=>(match c.callee with
  |.builtin b=>(match b with
   |.delete=>(match c.args.toList with
    |[x,y]=>(match c.argTypes.toList with
     |[T,K]=>(match env.cz x with
      |some (.dm d)=>(match env.cz y with
       |some (.int eM kC)=>(match σ.get d with
        |some (.map iW E bx)=>bif Nat.beq T aV&&Nat.beq K e4&&Nat.beq iW e4 then some (.e [d] [] (.cD []) (σ.set d (.map iW E (dy k enc (uU l n)))),([.de bx,.int eM kC],[(0,.cells E [])]))else none
        |_=>none)
       |_=>none)
      |_=>none)
     |_=>none)
    |_=>none)
   |_=>none)
  |_=>none)
 |_=>none
theorem aax{α:Type}{aV e4 eH:Nat}{k:IntKind}{l:List (Int×α)}{n:Int}{enc:α→U}(aH:k7 P aV e4 eH k){o:Oper}{N:Nat}{ids:List Nat}{env:ai}{σ:Y}{s:cA}{aI:cf}
  (h:Ex aV e4 k l n enc o.op env σ=some (s,aI)) (he:aI=([.de (dy k enc l),.int k n],[(0,.cells eH [])])):e1 ⟨P,N,ids⟩ o env σ s:=by
 cases aj:o.op<;>rw[aj]at h
 case call c=>
  obtain⟨cl,args,tys⟩:=c;simp only[Ex]at h;split at h
  ·rename_i b;split at h
   ·split at h
    ·rename_i x y lB;have:args=#[x,y]:=Array.toList_inj.1 (by simpa using lB);subst this;split at h
     ·rename_i T K Bs;have:tys=#[T,K]:=Array.toList_inj.1 (by simpa using Bs);subst this;split at h
      ·rename_i d u;split at h
       ·rename_i eM kC ah;split at h
        ·rename_i iW E bx Z;cases V:(Nat.beq T aV&&Nat.beq K e4&&Nat.beq iW e4)with
         |false=>rw[V]at h;cases h
         |true=>
          rw[V]at h;simp only[Bool.and_eq_true]at V;obtain⟨⟨dJ,eL⟩,gQ⟩:=V;have:=Nat.eq_of_beq_eq_true dJ;subst this;have:=Nat.eq_of_beq_eq_true eL;subst this;have:=Nat.eq_of_beq_eq_true gQ;subst this;cases h;simp only[Prod.mk.injEq,List.cons.injEq,U.int.injEq,U.de.injEq,cn.cells.injEq,and_true,true_and]at he;obtain⟨⟨rfl,rfl,rfl⟩,rfl⟩:=he;exact⟨en.Wb l enc aj (ai.b5 u) (ai.b5 ah) Z aH,rfl⟩
        ·cases h
       ·cases h
      ·cases h
     ·cases h
    ·cases h
   ·cases h
  ·cases h
 all_goals (simp only[Ex]at h;cases h)
def j2{α:Type}{aV e4 eH:Nat}{k:IntKind}(l:List (Int×α))(n:Int)(enc:α→U)(aH:k7 P aV e4 eH k):Hint P:=
 .gs true ([.de (dy k enc l),.int k n],[(0,.cells eH [])]) (λ_=>Ex aV e4 k l n enc) λ_ _ _ _ _ _ _ h he=>aax aH h he
def Gh(aV cp:Nat)(es:Array MapEntry)(clock:Nat)(ids:List Nat)(op:Op)(env:ai)(σ:Y):Option (cA×cf):=match op with
 |.range T x=>(match env.cz x with
  |some (.dm cT)=>(match σ.get cT with
   |some jb=>(match jb.vZ with
    |some (gG,qG)=>bif Nat.beq T aV&&!ids.contains cp&&σ.clean [cp].contains then some (.e [cp] [cp] (.ptr cp 0) ((cp,.iter cT clock clock #[])::σ),([],[(0,.gj gG qG 0 0 [])]))else none
    |_=>none)
   |_=>none)
  |_=>none)
 |_=>none
theorem aay{aV e4 eH cp clock:Nat}{k:IntKind}{es:Array MapEntry}(aH:k7 P aV e4 eH k){o:Oper}{N:Nat}{ids:List Nat}{env:ai}{σ:Y}{s:cA}{aI:cf}
  (h:Gh aV cp es clock ids o.op env σ=some (s,aI)) (he:aI=([],[(0,.gj es clock 0 0 [])])):e1 ⟨P,N,ids⟩ o env σ s:=by
 cases aj:o.op<;>rw[aj]at h
 case range T x=>
  simp only[Gh]at h;split at h
  ·rename_i cT u;split at h
   ·rename_i jb Z;split at h
    ·rename_i gG qG aJ;cases V:(Nat.beq T aV&&!ids.contains cp&&σ.clean [cp].contains)with
     |false=>rw[V]at h;cases h
     |true=>
      rw[V]at h;simp only[Bool.and_eq_true,Bool.not_eq_true']at V;obtain⟨⟨dJ,eL⟩,gQ⟩:=V;have:=Nat.eq_of_beq_eq_true dJ;subst this;cases h;simp only[Prod.mk.injEq,List.cons.injEq,cn.gj.injEq,and_true,true_and]at he;obtain⟨rfl,rfl⟩:=he;exact⟨en.range aj (ai.b5 u) Z aJ aH.gv eL gQ,by simp only[List.all_cons,List.all_nil,eL];rfl⟩
    ·cases h
   ·cases h
  ·cases h
 all_goals (simp only[Gh]at h;cases h)
def Su{aV e4 eH:Nat}{k:IntKind}(cp:Nat)(es:Array MapEntry)(clock:Nat)(aH:k7 P aV e4 eH k):Hint P:=
 .gs true ([],[(0,.gj es clock 0 0 [])]) (Gh aV cp es clock) λ_ _ _ _ _ _ _ h he=>aay aH h he
def EB(cp cT:Nat)(a:U)(rows:Bool)(op:Op)(env:ai)(σ:Y):Option (cA×cf):=match op with
 |.entry x=>(match env.cz x with
  |some (.ptr sV 0)=>(match σ.get cp with
   |some KQ=>(match σ.get cT with
    |some (.gj es c K E bx)=>bif Nat.beq sV cp&&!rows then some (.y [cp,cT] a,([.de bx],[(0,KQ),(1,.gj es c 0 0 [])]))else none
    |some (.iX K E e jr dL (some (es,c)))=>bif Nat.beq sV cp&&rows then some (.y [cp,cT] a,([.agg jr],[(0,KQ),(1,.gj es c 0 0 [])]))else none
    |_=>none)
   |_=>none)
  |_=>none)
 |_=>none
theorem abw{α:Type}{cp cT clock i:Nat}{k:IntKind}{es:Array MapEntry}{seen:Array Nat}{e:MapEntry}{n:Int}{v:α}{l:List (Int×α)}{enc:α→U}(hv:es[i]?=some e)(aJ:l[i]?=some (n,v)){o:Oper}{N:Nat}{ids:List Nat}{env:ai}{σ:Y}{s:cA}{aI:cf}
  (h:EB cp cT (.cD [.int k n,enc v]) false o.op env σ=some (s,aI)) (he:aI=([.de (dy k enc l)],[(0,.iter cT clock clock (seen.push e.born)),(1,.gj es clock 0 0 [])])):e1 ⟨P,N,ids⟩ o env σ s:=by
 cases aj:o.op<;>rw[aj]at h
 case entry x=>
  simp only[EB]at h;split at h
  ·rename_i sV u;split at h
   ·rename_i KQ h1;split at h
    ·rename_i gG c K E bx Z;cases V:Nat.beq sV cp with
     |false=>rw[V]at h;cases h
     |true=>
      rw[V]at h;have:=Nat.eq_of_beq_eq_true V;subst this;cases h;simp only[Prod.mk.injEq,List.cons.injEq,U.de.injEq,cn.gj.injEq,and_true,true_and]at he;obtain⟨rfl,rfl,rfl,rfl⟩:=he;exact bG.aas l enc aj (ai.b5 u) h1 Z hv aJ
    ·rename_i K E e jr dL gG c Z;simp only[Bool.and_false,cond_false]at h;cases h
    ·cases h
   ·cases h
  ·cases h
 all_goals (simp only[EB]at h;cases h)
def B0{α:Type}{es:Array MapEntry}{i:Nat}{e:MapEntry}{n:Int}{v:α}{l:List (Int×α)}(cp cT clock:Nat)(k:IntKind)(seen:Array Nat)(enc:α→U)(hv:es[i]?=some e)(aJ:l[i]?=some (n,v)):Hint P:=
 .gs false ([.de (dy k enc l)],[(0,.iter cT clock clock (seen.push e.born)),(1,.gj es clock 0 0 [])]) (λ_=>EB cp cT (.cD [.int k n,enc v]) false) λ_ _ _ _ _ _ _ h he=>abw hv aJ h he
end
theorem P9{G:cq}{σ:Y}{cx:eO}{I:bw}{β:Nat→Value}{w:World}{cT K e clock:Nat}{es:Array MapEntry}{dL:Option (Option Nat×Nat)}{l SP:List (Int×α)}(aq:bS G cx I β σ w)(Z:σ.get cT=some (.iX K E e (j1 k l) dL (some (es,clock))))(aT:β cT≠.nilFunc)(aJ:l.map (·.1)=SP.map (·.1)):es.size=SP.length:=by
 have aj:=aq.cB cT _ Z;simp only[aU,aT,false_or]at aj;obtain⟨r,gG,jC,W,as,an,au,aK,aG,bb,bC,bY,cK,di⟩:=aj;cases di _ rfl;have h1:=bb.length.2;have D:=congrArg List.length aJ;simp[j1]at h1 D;omega
end
section
section
variable {G:cq}{σ:Y}{o:Oper}{ev:Operand→U}
theorem Uo{P:Program}{E:TypeId}{i:TypeInfo}{z yO:Value}{w:World}(hi:P.info? E=some i)(hz:i.zero=some z)(h:(zeroValue E).run P w=.ok yO w):yO=z:=by
 simp[zeroValue,typeInfo,hi,hz]at h;exact h.symm
theorem en.makeSlice{T E bytes d:Nat}{x y:Operand}{k eM:IntKind}{n:Int}{a:U}{rI:Value}(h:o.op=.makeSlice T x y)(u:ev x=.int k n)(ah:ev y=.int eM n)(dR:jE G.P T E 1 bytes)(fc:ku G.P T E 1 [rI])(aC:∀I,aO I a rI)(bJ:0≤n)(V:n≤4294967296)(pX:bytes≤65536)
  (hi:G.ids.contains d=false) (aa:σ.clean [d].contains=true):g8 G o ev σ [d] [d] (λr az=>r=.own d∧az=(d,.slice E 1 (List.replicate n.toNat [a]) 0 false)::σ):=by
 intro cx I β w aP aq hop;have h1:=hop x (by simp[h,Op.operands]);rw[u]at h1;have h1:=iH h1
 have D:=hop y (by simp[h,Op.operands]);rw[ah]at D;have D:=iH D
 obtain⟨i,z,hh,i6,iR,nC,ul⟩:=dR.info;obtain⟨yO,cF,cW⟩:=fc.zero w;have:=Uo hh i6 cF;subst this;have B8:(i.bytes:Int)*n≤281474976710656:=by
  rw[nC];have h1:(bytes:Int)*n≤(65536:Int)*4294967296:=Int.mul_le_mul (by omega) V bJ (by omega);omega
 have ax:=run_make (P:=G.P) w T E i yO dR.gv hh i6 k eM n n bJ (Int.le_refl _) B8 (by omega);rw[iR,Nat.mul_one,cW]at ax;have eX:(execOp aP o).run G.P w=.ok (.value (.slice (some ⟨w.heap.size,0,none⟩) n.toNat n.toNat)) (w.alloc (.cells (madeCells #[rI] n.toNat) E)):=by simp[execOp,h,h1,D,ax]
 rw[eX];have af:=aq.oS (dD:=[d]) (σ2:=σ) (env:=[]) ⟨λ_ _=>rfl,by simpa using hi,rfl,aa,λx u cT n h=>by have:=(Y.iu aa x _ h).1;rw[List.contains_iff_mem.2 u]at this;cases this⟩;have V:∀y,y≠d→g9 (gF β [d]) d (.slice (some ⟨w.heap.size,0,none⟩) n.toNat n.toNat) y=β y:=λy ah=>by rw[gU _ _ ah];simp[gF,ah]
 have oA:g9 (gF β [d]) d (.slice (some ⟨w.heap.size,0,none⟩) n.toNat n.toNat) d=.slice (some ⟨w.heap.size,0,none⟩) n.toNat n.toNat:=g7 _ _ _;refine⟨.own d,_,I,g9 (gF β [d]) d (.slice (some ⟨w.heap.size,0,none⟩) n.toNat n.toNat),⟨rfl,rfl⟩,?_,?_,b7.refl I,λy ah=>V y (by simpa using ah),λy ah=>by rw[Y.c4,if_neg (Ne.symm (by simpa using ah))]⟩
 ·simp only[ar,oA,iy,and_self]
 ·refine af.turn (d:=d) (gn.alloc w _) (.inl aq.size) (λx u=>by rw[Y.c4,if_neg (Ne.symm u)]) (λx u W e=>by
    obtain⟨aI,W⟩:=Option.isSome_iff_exists.1 W;exact absurd (af.qa W e) (by omega)) (b7.refl I) (λ_ _ _=>rfl) (λg4 dI lD=>by rw[aq.ic (Nat.le_refl _)]at lD;cases lD) (aq.ic (Nat.le_refl _) none)
   (λx u=>gU _ _ u) (.inl (by simpa using hi)) (g0.w6 (by simp[gF])) (.inl (by rw[oA];rfl)) λaI b3=>?_
  rw[Y.c4,if_pos rfl]at b3;cases b3;simp only[aU,oA];refine .inr (.inr ⟨w.heap.size,n.toNat,_,by rw[List.length_replicate],by rw[List.length_replicate];exact Nat.le_refl _,by simp[maxLen];omega,heap_alloc_new w _,by rw[size_madeCells,Nat.mul_one],?_,λe he=>by rw[List.eq_of_mem_replicate he];rfl,Nat.zero_le _,by simp,λo _=>aq.ic (Nat.le_refl _) o,.inl aq.size⟩);rw[toList_madeCells_one,List.length_replicate,Nat.mul_one];have:∀m:Nat,b9 I (List.replicate m [a]).flatten (List.replicate m rI):=by
   intro m;induction m with
   |zero=>simp[b9]
   |succ m bD=>
    simp only[List.replicate_succ,List.flatten_cons,List.singleton_append,b9];exact⟨_,_,rfl,aC I,bD⟩
  have e:(List.replicate n.toNat rI).take n.toNat=List.replicate n.toNat rI:=by rw[List.take_of_length_le];simp
  rw[e];exact this _
theorem bG.aby{T E N sz d off:Nat}{x y:Operand}{k:IntKind}{i:Int}(h:o.op=.indexAddr T x y)(u:ev x=.ptr d off)(ah:ev y=.int k i)(hu:G.P.underlying T=some (.array N E))(W:∀w,(sizeOf E).run G.P w=.ok sz w)(hi:0≤i∧i<N):
  Yields G o ev σ [] [] (.ptr d (off+i.toNat*sz)):=
 .pure λaz cx I β w aP b2 aq hop=>by
  have h1:=hop x (by simp[h,Op.operands]);rw[u]at h1
  have D:=hop y (by simp[h,Op.operands]);rw[ah]at D;have D:=iH D
  simp only[ar]at h1;obtain⟨b,fZ,ak⟩:=h1;have aA:∀w,(underlying T).run G.P w=.ok (.array N E) w:=λw=>by simp[underlying,program,Sem.run,hu]
  exact⟨.pointer (some ⟨b,off+i.toNat*sz,none⟩),by simp[execOp,h,D,ak,Instr.indexAt,Instr.sureAddr,asIntOf,aA,hi,W,Addr.add],by simp only[ar];exact⟨b,fZ,rfl⟩⟩
end
section
variable {P:Program}
def FH{α:Type}(aV d E:Nat)(jv:α)(e:α→List U)(n:Int)(ids:List Nat)(op:Op)(env:ai)(σ:Y):Option (cA×cf):=match op with
 |.makeSlice T x y=>(match env.cz x with
  |some (.int _ hG)=>(match env.cz y with
   |some (.int _ iC)=>bif Nat.beq T aV&&!ids.contains d&&σ.clean [d].contains then some (.e [d] [d] (.own d) ((d,.slice E 1 ((List.replicate n.toNat jv).map e) 0 false)::σ),([.int .i64 hG,.int .i64 iC],[]))else none
   |_=>none)
  |_=>none)
 |_=>none
theorem abz{α:Type}{aV E bytes d:Nat}{jv:α}{e:α→List U}{n:Int}{a:U}{rI:Value}(dR:jE P aV E 1 bytes)(fc:ku P aV E 1 [rI])(kQ:e jv=[a])(aC:∀I,aO I a rI)(bJ:0≤n)(V:n≤4294967296)(pX:bytes≤65536){o:Oper}{N:Nat}{ids:List Nat}{env:ai}{σ:Y}{s:cA}{aI:cf}
  (h:FH aV d E jv e n ids o.op env σ=some (s,aI)) (he:aI=([.int .i64 n,.int .i64 n],[])):e1 ⟨P,N,ids⟩ o env σ s:=by
 cases aj:o.op<;>rw[aj]at h
 case makeSlice T x y=>
  simp only[FH]at h;split at h
  ·rename_i gK hG u;split at h
   ·rename_i dN iC ah;cases aa:(Nat.beq T aV&&!ids.contains d&&σ.clean [d].contains)with
    |false=>rw[aa]at h;cases h
    |true=>
     rw[aa]at h;simp only[Bool.and_eq_true,Bool.not_eq_true']at aa;obtain⟨⟨dJ,eL⟩,gQ⟩:=aa;have:=Nat.eq_of_beq_eq_true dJ;subst this;cases h;simp only[Prod.mk.injEq,List.cons.injEq,U.int.injEq,and_true,true_and]at he;obtain⟨rfl,rfl⟩:=he;rw[List.map_replicate,kQ];exact⟨en.makeSlice aj (ai.b5 u) (ai.b5 ah) dR fc aC bJ V pX eL gQ,by simp only[List.all_cons,List.all_nil,eL];rfl⟩
   ·cases h
  ·cases h
 all_goals (simp only[FH]at h;cases h)
def zv{α:Type}{aV E bytes:Nat}{a:U}{rI:Value}(d:Nat)(jv:α)(e:α→List U)(n:Int)(dR:jE P aV E 1 bytes)(fc:ku P aV E 1 [rI])(kQ:e jv=[a])(aC:∀I,aO I a rI)(aT:(decide (0≤n)&&decide (n≤4294967296))=true)(pX:bytes≤65536):Hint P:=
 .gs true ([.int .i64 n,.int .i64 n],[]) (FH aV d E jv e n) λ_ _ _ _ _ _ _ h he=>by
  simp only[Bool.and_eq_true,decide_eq_true_eq]at aT;exact abz dR fc kQ aC aT.1 aT.2 pX h he
def Ep(aV:Nat)(zs:List Value)(fe:List (Nat×Nat))(op:Op)(env:ai):Option (cA×cf):=match op with
 |.build T parts=>(match env.rA parts.toList with
  |some ps=>(match yw fe (qe zs) ps with
   |some cs=>bif Nat.beq T aV then some (.y [] (.agg cs),([],[]))else none
   |none=>none)
  |none=>none)
 |_=>none
theorem abA{aV:Nat}{zs:List Value}{fe:List (Nat×Nat)}(fc:j0 P aV zs fe){o:Oper}{N:Nat}{ids:List Nat}{env:ai}{σ:Y}{s:cA}{aI:cf}(h:Ep aV zs fe o.op env=some (s,aI)):e1 ⟨P,N,ids⟩ o env σ s:=by
 cases aj:o.op<;>rw[aj]at h
 case build T parts=>
  simp only[Ep]at h;split at h
  ·rename_i ps aB;split at h
   ·rename_i cs be;cases aa:Nat.beq T aV with
    |false=>rw[aa]at h;cases h
    |true=>
     rw[aa]at h;have:=Nat.eq_of_beq_eq_true aa;subst this;cases h;exact bW.build aj fc aB be
   ·cases h
  ·cases h
 all_goals (simp only[Ep]at h;cases h)
def s1{aV:Nat}{zs:List Value}{fe:List (Nat×Nat)}(fc:j0 P aV zs fe):Hint P:=.gs false ([],[]) (λ_ op env _=>Ep aV zs fe op env) λ_ _ _ _ _ _ _ h _=>abA fc h
def E6(aV vf sz:Nat)(op:Op)(env:ai):Option (cA×cf):=match op with
 |.indexAddr T x y=>(match env.cz x with
  |some (.ptr d off)=>(match env.cz y with
   |some (.int _ i)=>bif Nat.beq T aV&&(decide (0≤i)&&decide (i<(vf:Int)))then some (.y [] (.ptr d (off+i.toNat*sz)),([],[]))else none
   |_=>none)
  |_=>none)
 |_=>none
theorem abB{aV vf E sz:Nat}(hu:P.underlying aV=some (.array vf E))(W:∀w,(sizeOf E).run P w=.ok sz w){o:Oper}{N:Nat}{ids:List Nat}{env:ai}{σ:Y}{s:cA}{aI:cf}(h:E6 aV vf sz o.op env=some (s,aI)):e1 ⟨P,N,ids⟩ o env σ s:=by
 cases aj:o.op<;>rw[aj]at h
 case indexAddr T x y=>
  simp only[E6]at h;split at h
  ·rename_i d off u;split at h
   ·rename_i k i ah;cases aa:(Nat.beq T aV&&(decide (0≤i)&&decide (i<(vf:Int))))with
    |false=>rw[aa]at h;cases h
    |true=>
     rw[aa]at h;simp only[Bool.and_eq_true,decide_eq_true_eq]at aa;have:=Nat.eq_of_beq_eq_true aa.1;subst this;cases h;exact bG.aby aj (ai.b5 u) (ai.b5 ah) hu W aa.2
   ·cases h
  ·cases h
 all_goals (simp only[E6]at h;cases h)
def zm{aV vf E sz:Nat}(hu:P.underlying aV=some (.array vf E))(W:∀w,(sizeOf E).run P w=.ok sz w):Hint P:=.gs false ([],[]) (λ_ op env _=>E6 aV vf sz op env) λ_ _ _ _ _ _ _ h _=>abB hu W h
end
end
section
def encS{α:Type}(T:TypeId)(sz:Nat)(enc:α→List U)(l:List (List α)):List gP:=l.map λr=>.sl T sz (r.map enc)
theorem Gp{α:Type}{T:TypeId}{sz:Nat}{enc:α→List U}(l:List (List α))(i:Nat)(r:List α):encS T sz enc (l.set i r)=(encS T sz enc l).set i (.sl T sz (r.map enc)):=by simp[encS,List.map_set]
section weak
variable {G:cq}{env:ai}{σ:Y}
theorem b8.abC{α:Type}{d e T n:Nat}(aW sz:Nat)(enc:α→List U)(aT:0<n)(Z:σ.get d=some (.slice T 1 (List.replicate n [.cV]) 0 false))(he:σ.get e=none)(hi:G.ids.contains e=false)(aa:env.clean [e].contains=true)(W:σ.clean [e].contains=true):
  b8 G env σ env ((e,.cS (encS aW sz enc (List.replicate n [])))::(d,.fV T e n none)::σ.minus [d]):=λcx I β a w h dc=>by
 have j2:d≠e:=λcw=>by subst cw;rw[he]at Z;cases Z
 have r1:e∉G.ids:=by simpa using hi
 let lC:Array Value:=(List.replicate n (Value.slice none 0 0)).toArray
 refine⟨I,g9 β e (.tuple lC),?_,I3 dc aa λy ah=>gU β _ ah⟩;have o2:g9 β e (.tuple lC) e=.tuple lC:=g7 _ _ _;have nm:g9 β e (.tuple lC) d=β d:=gU β _ j2
 have HZ:∀c,c∉dA (Value.tuple lC):=λc aa=>by
  rw[nT]at aa;obtain⟨ay,hu,jI⟩:=List.mem_filterMap.1 aa;have:ay=Value.slice none 0 0:=List.eq_of_mem_replicate (by simpa [lC]using hu);rw[this]at jI;cases jI
 have ox:∀y,y∈[d,e]→∀o,Y.get ((e,cn.cS (encS aW sz enc (List.replicate n [])))::(d,.fV T e n none)::σ.minus [d]) y=some o→(y=d∧o=.fV T e n none)∨(y=e∧o=.cS (encS aW sz enc (List.replicate n []))):=λy ah o aj=>by
  rw[tI]at aj;split at aj
  ·rename_i cw;exact .inr ⟨cw.symm,(Option.some.inj aj).symm⟩
  ·rename_i iC;split at aj
   ·rename_i cw;exact .inl ⟨cw.symm,(Option.some.inj aj).symm⟩
   ·rename_i hG;simp only[List.mem_cons,List.not_mem_nil,or_false]at ah;rcases ah with rfl|rfl
    ·exact absurd rfl hG
    ·exact absurd rfl iC
 have I4:∀y,y∈[d,e]→y=d∨y=e:=λy ah=>by simpa using ah
 have cS:∀m:Nat,hp cx I w (encS aW sz enc (List.replicate m [])) (List.replicate m (Value.slice none 0 0)):=by
  intro m;induction m with
  |zero=>rfl
  |succ m bD=>
   simp only[List.replicate_succ,encS,List.map_cons,List.map_nil,hp]at bD ⊢;exact⟨_,_,rfl,Or.inl ⟨rfl,rfl⟩,λb (V:none=some b)=>(by cases V),bD⟩
 refine h.Ir (M:=[d,e]) (news:=[e]) (λy ah=>?_) (λy ah=>gU β _ (by simpa using ah)) (λy ah=>?_) (λy o _ iQ=>(Y.iu W y o iQ).2) (λy ah o iQ=>?_) (λy ah eA c aa=>?_) (λy ah z hz n9 eP eA c aa hZ=>?_)
 ·simp only[List.mem_cons,List.not_mem_nil,or_false,not_or]at ah;rw[tI,if_neg (Ne.symm ah.2),if_neg (Ne.symm ah.1),if_neg (by simp[ah.1])]
 ·simp only[List.mem_singleton]at ah;subst ah;exact⟨by simp,r1⟩
 ·rcases ox y ah o iQ with⟨rfl,rfl⟩|⟨rfl,rfl⟩
  ·have:=h.cB y _ Z;simp only[aU,nm,o2]at this ⊢;rcases this with q|⟨q,uQ,_⟩|⟨b,aF,arr,an,au,aK,aG,bb,bC,bY,cK,di,ec,e3⟩
   ·exact .inl q
   ·
    have:n=0:=by simpa using uQ
    omega
   ·refine .inr ⟨b,aF,arr,lC,by simpa using an,by simpa using au,aK,aG,by simpa using bb,rfl,by simp[lC],?_,λo=>ec o (by omega),e3⟩;have:∀(m:Nat) (l:List Value),b9 I (List.replicate m [U.cV]).flatten l→l=List.replicate m (Value.slice none 0 0):=by
     intro m;induction m with
     |zero=>intro l aJ;simpa [b9]using aJ
     |succ m bD=>
      intro l aJ;simp only[List.replicate_succ,List.flatten_cons,List.singleton_append,b9,aO]at aJ;obtain⟨ay,bF,rfl,rfl,aJ⟩:=aJ;rw[bD bF aJ,List.replicate_succ]
    have:=this n _ (by simpa using bC);show arr.toList.take n=lC.toList;rw[this]
  ·simp only[aU,o2];exact .inr ⟨lC,rfl,by simpa [lC]using cS n⟩
 ·rcases I4 y ah with rfl|rfl
  ·rw[nm]at aa;exact⟨y,by simp,by rw[Z];rfl,aa⟩
  ·rw[o2]at aa;exact absurd aa (HZ c)
 ·rcases I4 y ah with rfl|rfl
  ·rcases I4 z hz with rfl|rfl
   ·exact n9 rfl
   ·rw[o2]at hZ;exact absurd hZ (HZ c)
  ·rw[o2]at aa;exact absurd aa (HZ c)
theorem b8.H6{α:Type}{aW sz T d e e2 t n i:Nat}{cU:Bool}(l:List (List α))(enc:α→List U)(row:List α)
  (Z:σ.get d=some (.fV T e n (some (some i,t)))) (he:σ.get e=some (.cS (encS aW sz enc (l.set i [])))) (bB:σ.get t=some (.slice aW sz (row.map enc) 0 cU))
  (lX:σ.get e2=none) (oC:G.ids.contains e2=false) (aa:env.clean [e2].contains=true) (W:σ.clean [e2].contains=true) :
  b8 G env σ env ((e2,.cS (encS aW sz enc (l.set i row)))::(d,.fV T e2 n none)::σ.minus [d,e,t]):=λcx I β a w h dc=>by
 obtain⟨eZ,h1,D⟩:=h.back Z rfl he bB lX (by simpa using oC) W;refine⟨I,eZ,?_,I3 dc aa h1⟩;have aA:(encS aW sz enc (l.set i [])).set i (.sl aW sz (row.map enc))=encS aW sz enc (l.set i row):=by rw[←Gp,List.set_set]
 rw[aA]at D;exact D
theorem b8.abD{α:Type}{aW sz T d e e2 t n:Nat}{i:Int}{cU:Bool}{row:List α}(l:List (List α))(enc:α→List U)(hi:dj l i=some row)
  (Z:σ.get d=some (.fV T e n (some (some i.toNat,t)))) (he:σ.get e=some (.cS (encS aW sz enc (l.set i.toNat [])))) (bB:σ.get t=some (.slice aW sz (row.map enc) 0 cU))
  (lX:σ.get e2=none) (oC:G.ids.contains e2=false) (aa:env.clean [e2].contains=true) (W:σ.clean [e2].contains=true) :
  b8 G env σ env ((e2,.cS (encS aW sz enc l))::(d,.fV T e2 n none)::σ.minus [d,e,t]):=by
 have h:=b8.H6 l enc row Z he bB lX oC aa W;have aA:l.set i.toNat row=l:=by
  unfold dj at hi;split at hi
  ·apply List.ext_getElem?;intro j;rw[List.getElem?_set];split
   ·rename_i aM;subst aM;rw[if_pos (List.getElem?_eq_some_iff.1 hi).1,hi]
   ·rfl
  ·cases hi
 rwa [aA]at h
end weak
section
variable {G:cq}{σ:Y}{o:Oper}{ev:Operand→U}
theorem Dc{cx:eO}{I:bw}{β:Nat→Value}{w:World}(aq:bS G cx I β σ w){d e T n:Nat}{dL:Option (Option Nat×Nat)}{cR:List gP}(Z:σ.get d=some (.fV T e n dL))(he:σ.get e=some (.cS cR))(aT:β d≠.nilFunc):
  ∃b aF arr,∃W:Array Value,β d=.slice (some ⟨b,0,none⟩) n aF∧n≤aF∧aF≤maxLen∧w.heap[b]?=some (.cells arr T (0,0))∧arr.size=aF∧β e=.tuple W∧W.size=n∧i3 β W.toList (arr.toList.take n) dL∧(∀o:Nat,I b o=none)∧Place cx b∧hp cx I w cR W.toList∧cR.length=n:=by
 have aj:=aq.cB d _ Z;simp only[aU,aT,false_or]at aj;obtain⟨b,aF,arr,W,an,au,aK,aG,bb,bC,bY,cK,di,ec⟩:=aj;have kf:=aq.cB e _ he;simp only[aU,bC,Value.tuple.injEq,reduceCtorEq,false_or]at kf;obtain⟨h4,rfl,V⟩:=kf;exact⟨b,aF,arr,W,an,au,aK,aG,bb,bC,bY,cK,di,ec,V,by have:=V.length;simp at this;omega⟩
theorem bG.Zb{T E d e aV n:Nat}{dL:Option (Option Nat×Nat)}{cR:List gP}{x y:Operand}{k:IntKind}{i:Int}(h:o.op=.indexAddr T x y)(u:ev x=.own d)(ah:ev y=.int k i)(Z:σ.get d=some (.fV aV e n dL))(he:σ.get e=some (.cS cR))(aH:jh G.P T E 1)
  (hi:0≤i∧i<cR.length):Yields G o ev σ [] [d,e] (.ptr d i.toNat):=
 .pure λaz cx I β w aP b2 aq hop=>by
  have h1:=hop x (by simp[h,Op.operands]);rw[u]at h1
  have D:=hop y (by simp[h,Op.operands]);rw[ah]at D;have D:=iH D
  simp only[ar]at h1;obtain⟨h1,W⟩:=h1;have h3:β d≠.nilFunc:=λe=>by rw[h1,e]at W;simp[iy]at W
  obtain⟨b,aF,arr,h4,an,au,aK,aG,bb,bC,bY,cK,di,ec,e3,oW⟩:=Dc aq (by rw[b2 d (by simp)];exact Z) (by rw[b2 e (by simp)];exact he) h3;refine⟨.pointer (some ⟨b,i.toNat,none⟩),?_,by simp only[ar];exact⟨b,by rw[an];rfl,rfl⟩⟩;have aA:∀w,(underlying T).run G.P w=.ok (.slice E) w:=λw=>by simp[underlying,program,Sem.run,aH.gv]
  rw[an]at h1;have r1:0≤i∧i<(n:Int):=by omega
  simp[execOp,h,h1,D,Instr.indexAt,asIntOf,aA,r1,aH.size,kJ]
theorem bG.aec{T d e aV n:Nat}{dL:Option (Option Nat×Nat)}{cR:List gP}{x:Operand}{hj}(h:o.op=.call ⟨.builtin .len,#[x],hj⟩)(hk:hj=#[T])(u:ev x=.own d)(Z:σ.get d=some (.fV aV e n dL))(he:σ.get e=some (.cS cR)){E:Nat}(aH:G.P.underlying T=some (.slice E)):
  Yields G o ev σ [] [d,e] (.int .i64 (cR.length:Int)):=
 .pure λaz cx I β w aP b2 aq hop=>by
  subst hk;have h1:=hop x (by simp[h,Op.operands,Call.operands]);rw[u]at h1
  simp only[ar]at h1;obtain⟨h1,W⟩:=h1;have h3:β d≠.nilFunc:=λe=>by rw[h1,e]at W;simp[iy]at W
  obtain⟨b,aF,arr,h4,an,au,aK,aG,bb,bC,bY,cK,di,ec,e3,oW⟩:=Dc aq (by rw[b2 d (by simp)];exact Z) (by rw[b2 e (by simp)];exact he) h3;rw[an]at h1;have aA:∀w,(underlying T).run G.P w=.ok (.slice E) w:=λw=>by simp[underlying,program,Sem.run,aH]
  exact⟨.int .i64 n,by simp[execOp,h,resolve,invoke,builtin,Builtin.len_,h1,aA,goInt],by simp[ar,aO,oW]⟩
theorem en.abE{α:Type}{T d e e2 t p aV n aW sz:Nat}{x:Operand}(l:List (List α))(enc:α→List U)(row:List α)(h:o.op=.load T x)(u:ev x=.ptr d p)(Z:σ.get d=some (.fV aV e n none))(he:σ.get e=some (.cS (encS aW sz enc l)))(h0:l[p]?=some row)(aH:dM G.P T 1 false)
  (bB:σ.get t=none) (lX:σ.get e2=none) (Ka:t≠e2) (Kb:G.ids.contains t=false) (oC:G.ids.contains e2=false) (hJ:σ.clean [t,e2].contains=true) :
  g8 G o ev σ [d,e,e2,t] [t,e2] (λr az=>r=.own t∧az=(t,.slice aW sz (row.map enc) 0 false)::(e2,.cS (encS aW sz enc (l.set p [])))::(d,.fV aV e2 n (some (some p,t)))::σ.minus [d,e]):=by
 intro cx I β w aP aq hop;have h1:=hop x (by simp[h,Op.operands]);rw[u]at h1
 simp only[ar]at h1;obtain⟨b,h1,D⟩:=h1;have h3:β d≠.nilFunc:=λe=>by rw[e]at h1;cases h1
 obtain⟨aN,aF,arr,W,an,au,aK,aG,bb,bC,bY,cK,di,ec,e3,oW⟩:=Dc aq Z he h3;have pW:aN=b:=by rw[an]at h1;simpa [bV]using h1
 subst pW;have aB:p<l.length:=(List.getElem?_eq_some_iff.1 h0).1;have vI:l.length=n:=by simpa [encS]using oW
 have ax:(encS aW sz enc l)[p]?=some (.sl aW sz (row.map enc)):=by simp[encS,h0]
 obtain⟨eA,cF,hL,cW,ht,lQ⟩:=aq.take Z rfl he ax h3 bB lX Ka (by simpa using Kb) (by simpa using oC) hJ;rw[bC]at cF;cases cF
 have mo:arr[p]?=some hL:=by
  have:(arr.toList.take n)[p]?=W.toList[p]?:=by rw[show arr.toList.take n=W.toList from cK]
  rw[List.getElem?_take,if_pos (by omega)]at this;have e:W.toList[p]?=some hL:=by simpa using cW
  rw[e]at this;simpa using this
 have mg:∀j,j<1→∃v,[hL][j]?=some v∧w.cell? ⟨aN,p+j,none⟩=some v:=λj aM=>by
  have:j=0:=by omega
  subst this;exact⟨hL,rfl,by simp[World.cell?,aG,mo]⟩
 have aJ:=vq aH (vs:=[hL]) mg (λ_=>by omega);have eX:(execOp aP o).run G.P w=.ok (.value hL) w:=by
  simp[execOp,h,D,Instr.loadAt,Instr.sureAddr,aJ]
 rw[eX];refine⟨.own t,_,I,λy=>if y=t then hL else if y=e2 then .tuple (W.setIfInBounds p (.slice none 0 0))else β y,⟨rfl,rfl⟩,?_,?_,b7.refl I,λy ah=>?_,λy ah=>?_⟩
 ·simp only[ar,if_true];refine⟨trivial,?_⟩;rcases ht with⟨q,_⟩|⟨b,aF,arr,q,_⟩<;>rw[q]<;>rfl
 ·rw[Gp];exact lQ
 ·simp only[List.mem_cons,List.not_mem_nil,or_false,not_or]at ah;simp only[if_neg ah.1,if_neg ah.2]
 ·simp only[List.mem_cons,List.not_mem_nil,or_false,not_or]at ah;rw[Br,if_neg (Ne.symm ah.2.2.2),if_neg (Ne.symm ah.2.2.1),if_neg (Ne.symm ah.1),if_neg (by simp[ah.1,ah.2.1])]
theorem en.Zc{α:Type}{T d e e2 j p aV n aW sz:Nat}{cU:Bool}{x y:Operand}(l:List (List α))(enc:α→List U)(row:List α)(h:o.op=.store T x y)(u:ev x=.ptr d p)(ah:ev y=.own j)(aM:σ.get j=some (.slice aW sz (row.map enc) 0 cU))(Z:σ.get d=some (.fV aV e n none))(he:σ.get e=some (.cS (encS aW sz enc l)))(aB:p<l.length)(aH:dM G.P T 1 false)
  (lX:σ.get e2=none) (oC:G.ids.contains e2=false) (hJ:σ.clean [e2].contains=true) :
  g8 G o ev σ [d,e,e2,j] [e2] (λr az=>r=.undef∧az=(e2,.cS (encS aW sz enc (l.set p row)))::(d,.fV aV e2 n none)::σ.minus [d,e,j]):=by
 intro cx I β w aP aq hop;have h1:=hop x (by simp[h,Op.operands]);rw[u]at h1
 have ak:=hop y (by simp[h,Op.operands]);rw[ah]at ak
 simp only[ar]at h1 ak;obtain⟨b,h1,D⟩:=h1;obtain⟨ak,BT⟩:=ak;have h3:β d≠.nilFunc:=λe=>by rw[e]at h1;cases h1
 obtain⟨aN,aF,arr,W,an,au,aK,aG,bb,bC,bY,cK,di,ec,e3,oW⟩:=Dc aq Z he h3;have pW:aN=b:=by rw[an]at h1;simpa [bV]using h1
 subst pW;have vI:l.length=n:=by simpa [encS]using oW
 have h0:=jN.of_slice (aq.cB j _ aM) λe=>(by rw[ak,e]at BT;cases BT);have I2:e2∉G.ids:=by simpa using oC
 have nY:(σ.get d).isSome:=by rw[Z];rfl
 have i5:(σ.get e).isSome:=by rw[he];rfl
 have r2:(σ.get j).isSome:=by rw[aM];rfl
 have j2:d≠e:=λcw=>by subst cw;rw[Z]at he;cases he
 have agD:d≠j:=λcw=>by subst cw;rw[Z]at aM;cases aM
 have agI:e≠j:=λcw=>by subst cw;rw[he]at aM;cases aM
 have ct:∀y,(σ.get y).isSome→y≠e2:=λy ah e=>by subst e;rw[lX]at ah;cases ah
 have eT:aN∈dA (β d):=je h1;have pa:(β j).oneCell'=true∧(β j).cells=#[β j]:=by
  rcases h0 with⟨q,_⟩|⟨c,nr,amG,q,_⟩<;>rw[q]<;>exact⟨rfl,rfl⟩
 have ki:=Fb (P:=G.P) aG [β j] (off:=p) (by simp;omega) (λv af=>by rw[List.mem_singleton.1 af];exact pa.1);have eX:(execOp aP o).run G.P w=.ok .skip (w.setRow aN (iw arr.toList p [β j]).toArray):=by
  have aA:((#[β j]:Array Value).size≠1)=False:=by simp
  simp[execOp,h,D,ak,Instr.storeAt,Instr.sureAddr,storeVar,aH.size,pa.2,ki]
 rw[eX]
 let h4:Array Value:=W.setIfInBounds p (β j)
 have hT:h4.toList=W.toList.set p (β j):=by simp[h4]
 have I5:hp cx I w (encS aW sz enc (l.set p row)) h4.toList:=by
  rw[hT,Gp];refine e3.set h0 λi ay c _ ag5 BY kf=>?_;refine aq.dn e j i5 r2 agI c ?_ (je BY);rw[bC,nT];exact List.mem_filterMap.2 ⟨ay,List.mem_of_getElem? ag5,kf⟩
 have jq:∀c∈h4.toList.filterMap bV,c∈dA (β e)∨c∈dA (β j):=λc aa=>by
  rw[hT]at aa;rcases FR aa with aa|aa
  ·exact .inl (by rw[bC,nT];exact aa)
  ·exact .inr (je aa)
 have p5:∀c∈h4.toList.filterMap bV,c≠aN:=λc aa cw=>by
  subst cw;rcases jq c aa with q|q
  ·exact aq.dn d e nY i5 j2 c eT q
  ·exact aq.dn d j nY r2 agD c eT q
 have hk:gn w (w.setRow aN (iw arr.toList p [β j]).toArray) aN:=gn.setRow w aN _;have fG:∀y,y≠e2→(λy=>if y=e2 then(Value.tuple h4)else β y) y=β y:=λy ah=>if_neg ah;have oh:(λy=>if y=e2 then(Value.tuple h4)else β y) e2=.tuple h4:=if_pos rfl
 have B7:∀y,y∉[d,e,e2,j]→Y.get ((e2,.cS (encS aW sz enc (l.set p row)))::(d,.fV aV e2 n none)::σ.minus [d,e,j]) y=σ.get y:=λy ah=>by
  simp only[List.mem_cons,List.not_mem_nil,or_false,not_or]at ah;rw[tI,if_neg (Ne.symm ah.2.2.1),if_neg (Ne.symm ah.1),if_neg (by simp[ah.1,ah.2.1,ah.2.2.2])]
 generalize (λy=>if y=e2 then(Value.tuple h4)else β y)=eZ at fG oh;have nm:eZ d=β d:=fG d (ct d nY)
 have ox:∀y,y∈[d,e,e2,j]→∀o,Y.get ((e2,.cS (encS aW sz enc (l.set p row)))::(d,.fV aV e2 n none)::σ.minus [d,e,j]) y=some o→(y=d∧o=.fV aV e2 n none)∨(y=e2∧o=.cS (encS aW sz enc (l.set p row))):=λy ah o aj=>by
  rw[tI]at aj;split at aj
  ·rename_i cw;exact .inr ⟨cw.symm,(Option.some.inj aj).symm⟩
  ·rename_i iC;split at aj
   ·rename_i cw;exact .inl ⟨cw.symm,(Option.some.inj aj).symm⟩
   ·split at aj
    ·cases aj
    ·rename_i hG ye;simp only[List.mem_cons,List.not_mem_nil,or_false,not_or]at ah ye;rcases ah with rfl|rfl|rfl|rfl
     ·exact absurd rfl hG
     ·exact absurd rfl ye.2.1
     ·exact absurd rfl iC
     ·exact absurd rfl ye.2.2
 have xu:∀y,y∈[d,e,e2,j]→(Y.get ((e2,.cS (encS aW sz enc (l.set p row)))::(d,.fV aV e2 n none)::σ.minus [d,e,j]) y).isSome→y=d∨y=e2:=λy ah W=>by
  obtain⟨o,aj⟩:=Option.isSome_iff_exists.1 W;rcases ox y ah o aj with q|q
  ·exact .inl q.1
  ·exact .inr q.1
 have sep:∀c,c∈dA (eZ d)→c∉dA (eZ e2):=λc aa hZ=>by
  rw[nm,an]at aa;have:c=aN:=by simpa [dA,bV]using aa
  exact p5 c (by rw[oh]at hZ;exact hZ) this
 refine⟨.undef,_,I,eZ,⟨rfl,rfl⟩,by simp[ar,aO],?_,b7.refl I,λy ah=>fG y (by simpa using ah),λy ah=>B7 y ah⟩;refine aq.redo (M:=[d,e,e2,j]) (news:=[e2]) (b:=aN) (eZ:=eZ) hk (λo=>?_) (λy ah W cw=>?_) ec (λy ah=>B7 y ah) (λy ah=>fG y (by simpa using ah)) (λy ah=>?_) (λy o _ iQ=>(Y.iu hJ y o iQ).2) (λy ah o iQ=>?_) (λy ah eA c aa=>?_) (λy ah z hz n9 eP eA c aa hZ=>?_)
 ·cases o with
  |none=>exact aq.rV aG
  |some o=>exact di o
 ·exact aq.dn d y nY W (λe=>ah (by simp[e])) aN eT cw
 ·simp only[List.mem_singleton]at ah;subst ah;exact⟨by simp,I2⟩
 ·rcases ox y ah o iQ with⟨rfl,rfl⟩|⟨rfl,rfl⟩
  ·simp only[aU,nm,oh];refine .inr ⟨aN,aF,_,h4,an,au,aK,setRow_heap w aN arr _ aV _ aG,by simp only[iw,List.size_toArray,List.length_append,List.length_take,List.length_drop,List.length_singleton,Array.length_toList];omega,rfl,by simp[h4,bY],?_,di,ec⟩;show(iw arr.toList p [β j]).take n=h4.toList;rw[hT,←show arr.toList.take n=W.toList from cK];apply List.ext_getElem?;intro i;have anS:p<arr.toList.length:=by simp;omega
   rw[List.getElem?_take,List.getElem?_set,List.getElem?_take];simp only[iw,List.length_singleton];by_cases fA:i<n
   ·rw[if_pos fA,if_pos fA];by_cases mY:p=i
    ·subst mY;rw[if_pos rfl,if_pos (by simp;omega),List.append_assoc,List.getElem?_append_right (by simp;omega),List.length_take,Nat.min_eq_left (by omega)];simp
    ·rw[if_neg mY];by_cases bQ:i<p
     ·rw[List.append_assoc,List.getElem?_append_left (by simp;omega),List.getElem?_take,if_pos bQ]
     ·rw[List.getElem?_append_right (by simp;omega),List.getElem?_drop];congr 1;simp only[List.length_append,List.length_take,List.length_singleton];omega
   ·rw[if_neg fA,if_neg fA];by_cases mY:p=i
    ·omega
    ·rw[if_neg mY]
  ·simp only[aU];exact .inr ⟨h4,oh,I5.go (b7.refl I) λc aa=>⟨λbQ=>hk.block c (p5 c aa) bQ,λ_=>rfl,id⟩⟩
 ·rcases xu y ah eA with rfl|rfl
  ·rw[nm]at aa;exact⟨y,by simp,nY,aa⟩
  ·rw[oh]at aa;rcases jq c aa with q|q
   ·exact⟨e,by simp,i5,q⟩
   ·exact⟨j,by simp,r2,q⟩
 ·rcases xu y ah eP with rfl|rfl<;>rcases xu z hz eA with rfl|rfl
  ·exact n9 rfl
  ·exact sep c aa hZ
  ·exact sep c hZ aa
  ·exact n9 rfl
end
end
section
section
variable {P:Program}
def E9(aV:Nat)(op:Op)(env:ai)(σ:Y):Option (cA×cf):=match op with
 |.indexAddr T x y=>(match env.cz x with
  |some (.own d)=>(match env.cz y with
   |some (.int k i)=>(match σ.get d with
    |some (.fV hC e n dL)=>(match σ.get e with
     |some (.cS cR)=>bif Nat.beq T aV then some (.y [d,e] (.ptr d i.toNat),([.int .i64 i],[(0,.cS cR)]))else none
     |_=>none)
    |_=>none)
   |_=>none)
  |_=>none)
 |_=>none
theorem abF{α:Type}{aV E aW sz:Nat}{enc:α→List U}{l:List (List α)}{i:Int}{row:List α}(aH:jh P aV E 1)(hi:dj l i=some row){o:Oper}{N:Nat}{ids:List Nat}{env:ai}{σ:Y}{s:cA}{aI:cf}
  (h:E9 aV o.op env σ=some (s,aI)) (he:aI=([.int .i64 i],[(0,.cS (encS aW sz enc l))])):e1 ⟨P,N,ids⟩ o env σ s:=by
 cases aj:o.op<;>rw[aj]at h
 case indexAddr T x y=>
  simp only[E9]at h;split at h
  ·rename_i d u;split at h
   ·rename_i k E5 ah;split at h
    ·rename_i hC e n dL Z;split at h
     ·rename_i cR V;cases aa:Nat.beq T aV with
      |false=>rw[aa]at h;cases h
      |true=>
       rw[aa]at h;have:=Nat.eq_of_beq_eq_true aa;subst this;cases h;simp only[Prod.mk.injEq,List.cons.injEq,U.int.injEq,cn.cS.injEq,and_true,true_and]at he;obtain⟨rfl,rfl⟩:=he;refine bG.Zb aj (ai.b5 u) (ai.b5 ah) Z V aH ?_;unfold dj at hi;split at hi
       ·rename_i bJ;have:=(List.getElem?_eq_some_iff.1 hi).1;simp only[encS,List.length_map];omega
       ·cases hi
     ·cases h
    ·cases h
   ·cases h
  ·cases h
 all_goals (simp only[E9]at h;cases h)
def xQ{α:Type}{aV E:Nat}{l:List (List α)}{i:Int}{row:List α}(aW sz:Nat)(enc:α→List U)(aH:jh P aV E 1)(hi:dj l i=some row):Hint P:=
 .gs false ([.int .i64 i],[(0,.cS (encS aW sz enc l))]) (λ_=>E9 aV) λ_ _ _ _ _ _ _ h he=>abF aH hi h he
def FM(aV:Nat)(n:Int)(op:Op)(env:ai)(σ:Y):Option (cA×cf):=match op with
 |.call c=>(match c.callee with
  |.builtin b=>(match b with
   |.len=>(match c.args.toList with
    |[x]=>(match c.argTypes.toList with
     |[T]=>(match env.cz x with
      |some (.own d)=>(match σ.get d with
       |some (.fV hC e m dL)=>(match σ.get e with
        |some (.cS cR)=>bif Nat.beq T aV then some (.y [d,e] (.int .i64 n),([],[(0,.cS cR)]))else none
        |_=>none)
       |_=>none)
      |_=>none)
     |_=>none)
    |_=>none)
   |_=>none)
  |_=>none)
 |_=>none
theorem abG{α:Type}{aV E aW sz:Nat}{enc:α→List U}{l:List (List α)}(aH:jh P aV E 1){o:Oper}{N:Nat}{ids:List Nat}{env:ai}{σ:Y}{s:cA}{aI:cf}
  (h:FM aV (l.length:Int) o.op env σ=some (s,aI)) (he:aI=([],[(0,.cS (encS aW sz enc l))])):e1 ⟨P,N,ids⟩ o env σ s:=by
 cases aj:o.op<;>rw[aj]at h
 case call c=>
  obtain⟨cl,args,tys⟩:=c;simp only[FM]at h;split at h
  ·rename_i b;split at h
   ·split at h
    ·rename_i x lB;have:args=#[x]:=Array.toList_inj.1 (by simpa using lB);subst this;split at h
     ·rename_i T Bs;have:tys=#[T]:=Array.toList_inj.1 (by simpa using Bs);subst this;split at h
      ·rename_i d u;split at h
       ·rename_i hC e m dL Z;split at h
        ·rename_i cR V;cases aa:Nat.beq T aV with
         |false=>rw[aa]at h;cases h
         |true=>
          rw[aa]at h;have:=Nat.eq_of_beq_eq_true aa;subst this;cases h;simp only[Prod.mk.injEq,List.cons.injEq,cn.cS.injEq,and_true,true_and]at he;subst he;have:=bG.aec (G:=⟨P,N,ids⟩) aj rfl (ai.b5 u) Z V aH.gv;rw[show(encS aW sz enc l).length=l.length by simp[encS]]at this;exact this
        ·cases h
       ·cases h
      ·cases h
     ·cases h
    ·cases h
   ·cases h
  ·cases h
 all_goals (simp only[FM]at h;cases h)
def s5{α:Type}{aV E:Nat}(aW sz:Nat)(enc:α→List U)(l:List (List α))(aH:jh P aV E 1):Hint P:=
 .gs false ([],[(0,.cS (encS aW sz enc l))]) (λ_=>FM aV (l.length:Int)) λ_ _ _ _ _ _ _ h he=>abG aH h he
def Fz{α:Type}(aV aW sz e2 t p:Nat)(l:List (List α))(row:List α)(enc:α→List U)(ids:List Nat)(op:Op)(env:ai)(σ:Y):Option (cA×cf):=match op with
 |.load T x=>(match env.cz x with
  |some (.ptr d tD)=>(match σ.get d with
   |some (.fV hC e n none)=>(match σ.get e with
    |some (.cS cR)=>bif Nat.beq T aV&&(σ.get t).isNone&&(σ.get e2).isNone&&!Nat.beq t e2&&!ids.contains t&&!ids.contains e2&&σ.clean [t,e2].contains then
      some (.e [d,e,e2,t] [t,e2] (.own t) ((t,.slice aW sz (row.map enc) 0 false)::(e2,.cS (encS aW sz enc (l.set p [])))::(d,.fV hC e2 n (some (some p,t)))::σ.minus [d,e]),([.ptr 0 tD],[(1,.cS cR)]))else none
    |_=>none)
   |_=>none)
  |_=>none)
 |_=>none
theorem abH{α:Type}{aV aW sz e2 t:Nat}{l:List (List α)}{i:Int}{row:List α}{enc:α→List U}(aH:dM P aV 1 false)(hi:dj l i=some row){o:Oper}{N:Nat}{ids:List Nat}{env:ai}{σ:Y}{s:cA}{aI:cf}
  (h:Fz aV aW sz e2 t i.toNat l row enc ids o.op env σ=some (s,aI)) (he:aI=([.ptr 0 i.toNat],[(1,.cS (encS aW sz enc l))])):e1 ⟨P,N,ids⟩ o env σ s:=by
 cases aj:o.op<;>rw[aj]at h
 case load T x=>
  simp only[Fz]at h;split at h
  ·rename_i d tD u;split at h
   ·rename_i hC e n Z;split at h
    ·rename_i cR V;generalize aa:(Nat.beq T aV&&_&&_&&_&&_&&_&&_)=dY at h;cases dY with
     |false=>cases h
     |true=>
      simp only[Bool.and_eq_true,Bool.not_eq_true']at aa;obtain⟨⟨⟨⟨⟨⟨bk,bZ⟩,c1⟩,fu⟩,gl⟩,it⟩,ov⟩:=aa;have:=Nat.eq_of_beq_eq_true bk;subst this;cases h;simp only[Prod.mk.injEq,List.cons.injEq,U.ptr.injEq,cn.cS.injEq,and_true,true_and]at he;obtain⟨rfl,rfl⟩:=he;have h0:l[i.toNat]?=some row:=by
       unfold dj at hi;split at hi
       ·exact hi
       ·cases hi
      refine⟨en.abE l enc row aj (ai.b5 u) Z V h0 aH (by simpa using bZ) (by simpa using c1) (λe=>?_) gl it ov,?_⟩
      ·subst e;rw[Nat.beq_refl]at fu;cases fu
      ·simp only[List.all_cons,List.all_nil,gl,it];rfl
    ·cases h
   ·cases h
  ·cases h
 all_goals (simp only[Fz]at h;cases h)
def JX{α:Type}{aV:Nat}{l:List (List α)}{i:Int}{row:List α}(aW sz e2 t:Nat)(enc:α→List U)(aH:dM P aV 1 false)(hi:dj l i=some row):Hint P:=
 .gs true ([.ptr 0 i.toNat],[(1,.cS (encS aW sz enc l))]) (Fz aV aW sz e2 t i.toNat l row enc) λ_ _ _ _ _ _ _ h he=>abH aH hi h he
def Gz{α:Type}(aV aW sz e2 p:Nat)(l:List (List α))(row:List α)(enc:α→List U)(ids:List Nat)(op:Op)(env:ai)(σ:Y):Option (cA×cf):=match op with
 |.store T x y=>(match env.cz x with
  |some (.ptr d tD)=>(match env.cz y with
   |some (.own j)=>(match σ.get j with
    |some (.slice ko Ar xs 0 _)=>(match σ.get d with
     |some (.fV hC e n none)=>(match σ.get e with
      |some (.cS cR)=>bif Nat.beq T aV&&Nat.beq ko aW&&Nat.beq Ar sz&&(σ.get e2).isNone&&!ids.contains e2&&σ.clean [e2].contains then
        some (.e [d,e,e2,j] [e2] .undef ((e2,.cS (encS aW sz enc (l.set p row)))::(d,.fV hC e2 n none)::σ.minus [d,e,j]),([.ptr 0 tD,.aX false xs],[(1,.cS cR)]))else none
      |_=>none)
     |_=>none)
    |_=>none)
   |_=>none)
  |_=>none)
 |_=>none
theorem abI{α:Type}{aV aW sz e2:Nat}{l:List (List α)}{i:Int}{IK row:List α}{enc:α→List U}(aH:dM P aV 1 false)(hi:dj l i=some IK){o:Oper}{N:Nat}{ids:List Nat}{env:ai}{σ:Y}{s:cA}{aI:cf}
  (h:Gz aV aW sz e2 i.toNat l row enc ids o.op env σ=some (s,aI)) (he:aI=([.ptr 0 i.toNat,.aX false (row.map enc)],[(1,.cS (encS aW sz enc l))])):e1 ⟨P,N,ids⟩ o env σ s:=by
 cases aj:o.op<;>rw[aj]at h
 case store T x y=>
  simp only[Gz]at h;split at h
  ·rename_i d tD u;split at h
   ·rename_i j ah;split at h
    ·rename_i ko Ar xs cU aM;split at h
     ·rename_i hC e n Z;split at h
      ·rename_i cR V;generalize aa:(Nat.beq T aV&&_&&_&&_&&_&&_)=dY at h;cases dY with
       |false=>cases h
       |true=>
        simp only[Bool.and_eq_true,Bool.not_eq_true']at aa;obtain⟨⟨⟨⟨⟨bk,bZ⟩,c1⟩,fu⟩,gl⟩,it⟩:=aa;have:=Nat.eq_of_beq_eq_true bk;subst this;have:=Nat.eq_of_beq_eq_true bZ;subst this;have:=Nat.eq_of_beq_eq_true c1;subst this;cases h;simp only[Prod.mk.injEq,List.cons.injEq,U.ptr.injEq,U.aX.injEq,cn.cS.injEq,and_true,true_and]at he;obtain⟨⟨rfl,rfl⟩,rfl⟩:=he;have aB:i.toNat<l.length:=by
         unfold dj at hi;split at hi
         ·exact(List.getElem?_eq_some_iff.1 hi).1
         ·cases hi
        exact⟨en.Zc (cU:=cU) l enc row aj (ai.b5 u) (ai.b5 ah) aM Z V aB aH (by simpa using fu) gl it,by simp only[List.all_cons,List.all_nil,gl];rfl⟩
      ·cases h
     ·cases h
    ·cases h
   ·cases h
  ·cases h
 all_goals (simp only[Gz]at h;cases h)
def ahG{α:Type}{aV:Nat}{l:List (List α)}{i:Int}{IK:List α}(aW sz e2:Nat)(enc:α→List U)(row:List α)(aH:dM P aV 1 false)(hi:dj l i=some IK):Hint P:=
 .gs true ([.ptr 0 i.toNat,.aX false (row.map enc)],[(1,.cS (encS aW sz enc l))]) (Gz aV aW sz e2 i.toNat l row enc) λ_ _ _ _ _ _ _ h he=>abI aH hi h he
def FG(aV d E:Nat)(n:Int)(ids:List Nat)(op:Op)(env:ai)(σ:Y):Option (cA×cf):=match op with
 |.makeSlice T x y=>(match env.cz x with
  |some (.int _ hG)=>(match env.cz y with
   |some (.int _ iC)=>bif Nat.beq T aV&&!ids.contains d&&σ.clean [d].contains then some (.e [d] [d] (.own d) ((d,.slice E 1 (List.replicate n.toNat [.cV]) 0 false)::σ),([.int .i64 hG,.int .i64 iC],[]))else none
   |_=>none)
  |_=>none)
 |_=>none
theorem abJ{aV E bytes d:Nat}{n:Int}(dR:jE P aV E 1 bytes)(fc:ku P aV E 1 [.slice none 0 0])(bJ:0≤n)(V:n≤4294967296)(pX:bytes≤65536){o:Oper}{N:Nat}{ids:List Nat}{env:ai}{σ:Y}{s:cA}{aI:cf}
  (h:FG aV d E n ids o.op env σ=some (s,aI)) (he:aI=([.int .i64 n,.int .i64 n],[])):e1 ⟨P,N,ids⟩ o env σ s:=by
 cases aj:o.op<;>rw[aj]at h
 case makeSlice T x y=>
  simp only[FG]at h;split at h
  ·rename_i gK hG u;split at h
   ·rename_i dN iC ah;cases aa:(Nat.beq T aV&&!ids.contains d&&σ.clean [d].contains)with
    |false=>rw[aa]at h;cases h
    |true=>
     rw[aa]at h;simp only[Bool.and_eq_true,Bool.not_eq_true']at aa;obtain⟨⟨dJ,eL⟩,gQ⟩:=aa;have:=Nat.eq_of_beq_eq_true dJ;subst this;cases h;simp only[Prod.mk.injEq,List.cons.injEq,U.int.injEq,and_true,true_and]at he;obtain⟨rfl,rfl⟩:=he;exact⟨en.makeSlice aj (ai.b5 u) (ai.b5 ah) dR fc (λI=>by simp[aO]) bJ V pX eL gQ,by simp only[List.all_cons,List.all_nil,eL];rfl⟩
   ·cases h
  ·cases h
 all_goals (simp only[FG]at h;cases h)
def ahp{aV E bytes:Nat}(d:Nat)(n:Int)(dR:jE P aV E 1 bytes)(fc:ku P aV E 1 [.slice none 0 0])(aT:(decide (0<n)&&decide (n≤4294967296))=true)(pX:bytes≤65536):Hint P:=
 .gs true ([.int .i64 n,.int .i64 n],[]) (FG aV d E n) λ_ _ _ _ _ _ _ h he=>by
  simp only[Bool.and_eq_true,decide_eq_true_eq]at aT;exact abJ dR fc (by omega) aT.2 pX h he
end
theorem aed{n:Int}(aT:(decide (0<n)&&decide (n≤4294967296))=true):0<n.toNat:=by
 simp only[Bool.and_eq_true,decide_eq_true_eq]at aT;omega
end
section
def c3{bA α:Type}(q:bA→bA→Bool)(l:List (bA×α))(n:bA):Option α:=(l.find? λp=>q n p.1).map (·.2)
def ga{bA α:Type}(q:bA→bA→Bool):List (bA×α)→bA→α→List (bA×α)
 |[],n,v=>[(n,v)]
 |p::r,n,v=>bif q n p.1 then(n,v)::r else p::ga q r n v
def dz{bA α:Type}(b4:bA→U)(enc:α→U)(l:List (bA×α)):List (U×U):=l.map λp=>(b4 p.1,enc p.2)
def ei{bA:Type}(e:iU bA)(x:bA):U:=.agg (e.enc x)
structure Bt(P:Program)(K:TypeId){bA:Type}(b4:bA→U)(q:bA→bA→Bool):Prop where
 plain:∀a,(b4 a).plain=true
 closed:∀a,(b4 a).closed=true
 now:∃kd,P.underlying K=some kd∧∀a v,Instr.sameNow kd (valOf (b4 a)) v=none
 eq:∀a b w,(Op.equal K (valOf (b4 a)) (valOf (b4 b))).run P w=.ok (q a b) w
 ij:∀e a w,(Instr.checkKey e 10000 K (valOf (b4 a))).run P w=.ok () w
 same:∀a b,q a b=true→a=b
 bits:∀a,Instr.sameBits 10000 (valOf (b4 a)) (valOf (b4 a))=true
structure kR(P:Program)(T K E:TypeId){bA:Type}(b4:bA→U)(q:bA→bA→Bool):Prop where
 gv:P.underlying T=some (.map K E)
 key:Bt P K b4 q
theorem aO.plain{I:bw}{a:U}{v:Value}(aB:a.plain=true)(h:aO I a v):v=valOf a:=rU (β:=λ_=>Go.undef) a v aB (aO.rep _ _ _ h)
section
variable {P:Program}{I:bw}{bA α:Type}{K:TypeId}{b4:bA→U}{q:bA→bA→Bool}{enc:α→U}
theorem CS(fz:Bt P K b4 q)(n:bA)(w:World):∀(l:List (bA×α)) (es:List MapEntry) (i:Nat) (a:α),e9 I (dz b4 enc l) es→c3 q l n=some a→
  ∃j v,(Instr.findAsking K (valOf (b4 n)) es i).run P w=.ok (some (i+j,v)) w∧aO I (enc a) v∧∃e,es[j]?=some e∧e.key=valOf (b4 n)∧
   ∀(b:α) (ay:Value) (hj:MapEntry→MapEntry),aO I (enc b) ay→(∀e,aO I (b4 n) (hj e).key∧(hj e).val=ay)→e9 I (dz b4 enc (ga q l n b)) (es.modify j hj)
 |[],es,i,a,h,bl=>by simp[c3]at bl
 |(m,b)::r,es,i,a,h,bl=>by
  simp only[dz,List.map_cons,e9]at h;obtain⟨e,bF,rfl,h1,D,ak⟩:=h;have ue:=aO.plain (fz.plain m) h1;have aA:=fz.eq n m w;cases hm:q n m with
  |true=>
   have:=fz.same n m hm;subst this;simp only[c3,List.find?,hm,Option.map_some,Option.some.injEq]at bl;subst bl;rw[hm]at aA;refine⟨0,e.val,?_,D,e,rfl,ue,?_⟩
   ·rw[Instr.findAsking];simp[ue,aA]
   ·intro c ay hj hu hk;simp only[ga,hm,cond_true,dz,List.map_cons,e9,List.modify_zero_cons];exact⟨hj e,bF,rfl,(hk e).1,by rw[(hk e).2];exact hu,ak⟩
  |false=>
   have pY:c3 q r n=some a:=by simpa [c3,List.find?,hm]using bl
   obtain⟨j,v,an,au,cw,aK,aG,bb⟩:=CS fz n w r bF (i+1) a ak pY;rw[hm]at aA;refine⟨j+1,v,?_,au,cw,by simpa using aK,aG,?_⟩
   ·rw[Instr.findAsking];simp only[Sem.run_bind,ue,aA,Result.andThen_ok];simp only[Bool.false_eq_true,if_false];rw[an];simp[Nat.add_assoc,Nat.add_comm 1 j]
   ·intro c ay hj hu hk;simp only[ga,hm,cond_false,dz,List.map_cons,e9,List.modify_succ_cons];exact⟨e,_,rfl,h1,D,bb c ay hj hu hk⟩
theorem s9(fz:Bt P K b4 q)(n:bA)(w:World):∀(l:List (bA×α)) (es:List MapEntry) (i:Nat),e9 I (dz b4 enc l) es→c3 q l n=none→
  (Instr.findAsking K (valOf (b4 n)) es i).run P w=.ok none w∧∀(b:α) (e:MapEntry),aO I (enc b) e.val→aO I (b4 n) e.key→e9 I (dz b4 enc (ga q l n b)) (es++[e])
 |[],es,i,h,bl=>by
  simp only[dz,List.map_nil,e9]at h;subst h;refine⟨rfl,λb e V hk=>?_⟩;simp only[ga,dz,List.map_cons,List.map_nil,e9,List.nil_append];exact⟨e,[],rfl,hk,V,rfl⟩
 |(m,c)::r,es,i,h,bl=>by
  simp only[dz,List.map_cons,e9]at h;obtain⟨e,bF,rfl,h1,D,ak⟩:=h;have ue:=aO.plain (fz.plain m) h1;have aA:=fz.eq n m w;have hm:q n m=false:=by
   cases hm:q n m with
   |false=>rfl
   |true=>simp[c3,List.find?,hm]at bl
  rw[hm]at aA;have pY:c3 q r n=none:=by simpa [c3,List.find?,hm]using bl
  obtain⟨an,au⟩:=s9 fz n w r bF (i+1) ak pY;refine⟨?_,λb cw V hk=>?_⟩
  ·rw[Instr.findAsking];simp only[Sem.run_bind,ue,aA,Result.andThen_ok];simp only[Bool.false_eq_true,if_false];exact an
  ·simp only[ga,hm,cond_false,dz,List.map_cons,e9,List.cons_append];exact⟨e,_,rfl,h1,D,au b cw V hk⟩
theorem x8(fz:Bt P K b4 q)(n:bA)(w:World)(es:List MapEntry):(Instr.findKey K (valOf (b4 n)) es).run P w=(Instr.findAsking K (valOf (b4 n)) es).run P w:=by
 obtain⟨kd,hu,W⟩:=fz.now;have e2:∀w,(underlying K).run P w=.ok kd w:=λw=>by simp[underlying,program,Sem.run,hu]
 cases es with
 |nil=>simp[Instr.findKey,e2,Instr.findNow,Instr.findAsking]
 |cons e r=>
  rw[Instr.findKey];simp only[Sem.run_bind,e2,Result.andThen_ok,Instr.findNow,W]
end
section
variable {G:cq}{σ:Y}{o:Oper}{ev:Operand→U}
theorem bG.Zd{bA α:Type}{T K E d:Nat}{b4:bA→U}{q:bA→bA→Bool}{x y:Operand}{ok:Bool}{n:bA}(l:List (bA×α))(enc:α→U)(z:α)(h:o.op=.lookup T x y ok)(u:ev x=.dm d)(ah:ev y=b4 n){iW kF:Nat}(Z:σ.get d=some (.map iW kF (dz b4 enc l)))
  (aH:kR G.P T K E b4 q) (hz:∀w,∃v,(zeroValue E).run G.P w=.ok v w∧∀I,aO I (enc z) v) :
  Yields G o ev σ [] [d] (bif ok then .cD [enc ((c3 q l n).getD z),.bool (c3 q l n).isSome]else enc ((c3 q l n).getD z)):=
 .pure λaz cx I β w aP b2 aq hop=>by
  have h1:=hop x (by simp[h,Op.operands]);rw[u]at h1
  have D:=hop y (by simp[h,Op.operands]);rw[ah]at D;have D:=rU _ _ (aH.key.plain n) D
  obtain⟨r,es,clock,hH,au,aK⟩:=Li aq (by rw[b2 d (by simp)];exact Z) h1;have aA:∀w,(underlying T).run G.P w=.ok (.map K E) w:=λw=>by simp[underlying,program,Sem.run,aH.gv]
  have b6:=nS (P:=G.P) au;have cQ:=aH.key.ij (es.isEmpty) n w;have e0:=x8 aH.key n w es.toList;cases bl:c3 q l n with
  |none=>
   obtain⟨bU,_⟩:=s9 aH.key n w l es.toList 0 aK bl;obtain⟨v,lp,mz⟩:=hz w;have fo:(Instr.findKey K (valOf (b4 n)) es.toList).run G.P w=.ok none w:=by rw[e0,bU]
   cases ok with
   |true=>
    refine⟨.tuple #[v,.bool false],by simp[execOp,h,Instr.lookup,hH,D,aA,b6,cQ,fo,lp],?_⟩;simp only[cond_true,ar,bO];exact⟨_,rfl,v,[.bool false],rfl,aO.rep β _ _ (mz I),.bool false,[],rfl,by simp[aO],rfl⟩
   |false=>
    refine⟨v,by simp[execOp,h,Instr.lookup,hH,D,aA,b6,cQ,fo,lp],?_⟩;simp only[cond_false];exact aO.rep β _ _ (mz I)
  |some a=>
   obtain⟨j,v,bU,cG,_⟩:=CS aH.key n w l es.toList 0 a aK bl;have fo:(Instr.findKey K (valOf (b4 n)) es.toList).run G.P w=.ok (some (0+j,v)) w:=by rw[e0,bU]
   cases ok with
   |true=>
    refine⟨.tuple #[v,.bool true],by simp[execOp,h,Instr.lookup,hH,D,aA,b6,cQ,fo],?_⟩;simp only[cond_true,ar,bO];exact⟨_,rfl,v,[.bool true],rfl,aO.rep β _ _ cG,.bool true,[],rfl,by simp[aO],rfl⟩
   |false=>
    refine⟨v,by simp[execOp,h,Instr.lookup,hH,D,aA,b6,cQ,fo],?_⟩;simp only[cond_false];exact aO.rep β _ _ cG
theorem en.VP{bA α:Type}{T K E d:Nat}{b4:bA→U}{q:bA→bA→Bool}{x y z:Operand}{n:bA}(l:List (bA×α))(enc:α→U)(v:α)(h:o.op=.mapUpdate T x y z∨o.op=.insert T x y z)(u:ev x=.dm d)(ah:ev y=b4 n)(hz:ev z=enc v)(aa:(enc v).closed=true)
  {iW kF:Nat} (Z:σ.get d=some (.map iW kF (dz b4 enc l))) (aH:kR G.P T K E b4 q) :
  g8 G o ev σ [d] [] (λr az=>r=.undef∧az=σ.set d (.map iW kF (dz b4 enc (ga q l n v)))):=by
 intro cx I β w aP aq hop;have iM:x∈o.op.operands∧y∈o.op.operands∧z∈o.op.operands:=by rcases h with h|h<;>simp[h,Op.operands]
 have h1:=hop x iM.1;rw[u]at h1
 have D:=hop y iM.2.1;rw[ah]at D
 have RP:=ar.closed _ _ (aH.key.closed n) D;have D:=rU _ _ (aH.key.plain n) D;have ak:=hop z iM.2.2;rw[hz]at ak
 have ak:=ar.closed _ _ aa ak;obtain⟨r,es,clock,hH,an,au,aK,aG,bb,bC⟩:=FX aq Z h1;have aA:∀w,(underlying T).run G.P w=.ok (.map K E) w:=λw=>by simp[underlying,program,Sem.run,aH.gv]
 have b6:=nS (P:=G.P) au;have cQ:=aH.key.ij false n w;have e0:=x8 aH.key n w es.toList
 have gy:∀aI:Obj,(setObj r aI).run G.P w=.ok () {w with heap:=w.heap.setIfInBounds r aI}:=λaI=>by
  have:=gV au;simp[setObj,Sem.run,au]
 have sq:∃gG jC,(execOp aP o).run G.P w=.ok .skip {w with heap:=w.heap.setIfInBounds r (.map gG jC)}∧e9 I (dz b4 enc (ga q l n v)) gG.toList∧iK gG jC:=by
  cases bl:c3 q l n with
  |none=>
   obtain⟨bU,cG⟩:=s9 aH.key n w l es.toList 0 aK bl;have fo:(Instr.findKey K (valOf (b4 n)) es.toList).run G.P w=.ok none w:=by rw[e0,bU]
   refine⟨_,_,by rcases h with h|h<;>simp[execOp,h,Instr.mapUpdate,hH,D,aA,b6,cQ,fo,gy]<;>rfl,?_,?_⟩
   rotate_left
   ·exact bC.push _ _
   simpa using cG v ⟨valOf (b4 n),aP z,clock⟩ ak (by rw[←D];exact RP)
  |some a=>
   obtain⟨j,ay,bU,cG,cw,dP,gT,kk⟩:=CS aH.key n w l es.toList 0 a aK bl;have fo:(Instr.findKey K (valOf (b4 n)) es.toList).run G.P w=.ok (some (0+j,ay)) w:=by rw[e0,bU]
   have jX:es[j]?=some cw:=by simpa using dP
   have kK:(Instr.keyThatStays (valOf (b4 n)) (valOf (b4 n))).run G.P w=.ok (valOf (b4 n)) w:=by simp[Instr.keyThatStays,aH.key.bits n]
   refine⟨_,_,by rcases h with h|h<;>simp[execOp,h,Instr.mapUpdate,hH,D,aA,b6,cQ,fo,gy,jX,gT,kK]<;>rfl,?_,?_⟩
   ·simpa using kk v (aP z) (λe=>{e with key:=valOf (b4 n),val:=aP z}) ak (λe=>⟨by rw[←D];exact RP,rfl⟩)
   ·exact bC.modify _ _ λ_=>rfl
 obtain⟨gG,jC,eX,hv,fv⟩:=sq;rw[eX];refine⟨.undef,_,I,β,⟨rfl,rfl⟩,by simp[ar,aO],?_,b7.refl I,λ_ _=>rfl,λx u=>by rw[Y.hU,if_neg (by simpa using u)]⟩;have eT:bV (β d)=some r:=by rw[an];rfl
 refine aq.turn (d:=d) (gn.setObj w r _) bb (λx u=>by rw[Y.hU,if_neg u]) (λx u W e=>aq.dn x d W (by rw[Z];rfl) u r e (je eT)) (b7.refl I) (λ_ _ _=>rfl)
  (λo v af=>by rw[aG o]at af;cases af) (aG none) (λ_ _=>rfl) (.inr rfl) (g0.refl β) (.inl eT) λaI b3=>?_
 rw[Y.hU,if_pos rfl,Z]at b3;injection b3 with b3
 subst b3;simp only[aU];exact .inr ⟨r,gG,jC,an,by have:=gV au;simp[Array.getElem?_setIfInBounds,this],hv,aG,bb,fv⟩
theorem BI{P:Program}{T:Nat}{xs bu:Array Value}{r:Bool}{w:World}(hu:P.underlying T=some (.struct (P.fieldsOf T)))(aB:P.stoodInHeld T=false)(h:(Op.eqFields 9999 xs bu (P.fieldsOf T).toList).run P w=.ok r w):(Op.equal T (.agg xs) (.agg bu)).run P w=.ok r w:=by
 show(Op.equalIn 10000 T (.agg xs) (.agg bu)).run P w=.ok r w;rw[run_equalIn_agg w 9999 T _ _ hu aB,h]
end
end
section
section
variable {P:Program}
def Fq{bA α:Type}(aV:Nat)(q:bA→bA→Bool)(l:List (bA×α))(n:bA)(enc:α→U)(z:α)(op:Op)(env:ai)(σ:Y):Option (cA×cf):=match op with
 |.lookup T x y ok=>(match env.cz x with
  |some (.dm d)=>(match env.cz y with
   |some a=>(match σ.get d with
    |some (.map K E bx)=>bif Nat.beq T aV then some (.y [d] (bif ok then .cD [enc ((c3 q l n).getD z),.bool (c3 q l n).isSome]else enc ((c3 q l n).getD z)),([.de bx,a],[]))else none
    |_=>none)
   |_=>none)
  |_=>none)
 |_=>none
theorem abL{bA α:Type}{aV e4 eH:Nat}{b4:bA→U}{q:bA→bA→Bool}{l:List (bA×α)}{n:bA}{enc:α→U}{z:α}(aH:kR P aV e4 eH b4 q)(hz:∀w,∃v,(zeroValue eH).run P w=.ok v w∧∀I,aO I (enc z) v){o:Oper}{N:Nat}{ids:List Nat}{env:ai}{σ:Y}{s:cA}{aI:cf}
  (h:Fq aV q l n enc z o.op env σ=some (s,aI)) (he:aI=([.de (dz b4 enc l),b4 n],[])):e1 ⟨P,N,ids⟩ o env σ s:=by
 cases aj:o.op<;>rw[aj]at h
 case lookup T x y ok=>
  simp only[Fq]at h;split at h
  ·rename_i d u;split at h
   ·rename_i a ah;split at h
    ·rename_i K E bx Z;cases V:Nat.beq T aV with
     |false=>rw[V]at h;cases h
     |true=>
      rw[V]at h;have:=Nat.eq_of_beq_eq_true V;subst this;cases h;simp only[Prod.mk.injEq,List.cons.injEq,U.de.injEq,and_true]at he;obtain⟨rfl,rfl⟩:=he;exact bG.Zd l enc z aj (ai.b5 u) (ai.b5 ah) Z aH hz
    ·cases h
   ·cases h
  ·cases h
 all_goals (simp only[Fq]at h;cases h)
def ahg{bA α:Type}{aV e4 eH:Nat}{b4:bA→U}{q:bA→bA→Bool}(l:List (bA×α))(n:bA)(enc:α→U)(z:α)(aH:kR P aV e4 eH b4 q)(hz:∀w,∃v,(zeroValue eH).run P w=.ok v w∧∀I,aO I (enc z) v):Hint P:=
 .gs false ([.de (dz b4 enc l),b4 n],[]) (λ_=>Fq aV q l n enc z) λ_ _ _ _ _ _ _ h he=>abL aH hz h he
def FC{bA α:Type}(aV:Nat)(b4:bA→U)(q:bA→bA→Bool)(l:List (bA×α))(n:bA)(enc:α→U)(v:α)(T:TypeId)(x y z:Operand)(env:ai)(σ:Y):Option (cA×cf):=
 match env.cz x with
  |some (.dm d)=>(match env.cz y with
   |some a=>(match env.cz z with
    |some b=>(match σ.get d with
     |some (.map K E bx)=>bif Nat.beq T aV then some (.e [d] [] .undef (σ.set d (.map K E (dz b4 enc (ga q l n v)))),([.de bx,a,b],[]))else none
     |_=>none)
    |_=>none)
   |_=>none)
  |_=>none
def KE{bA α:Type}(aV:Nat)(b4:bA→U)(q:bA→bA→Bool)(l:List (bA×α))(n:bA)(enc:α→U)(v:α)(op:Op)(env:ai)(σ:Y):Option (cA×cf):=match op with
 |.mapUpdate T x y z=>FC aV b4 q l n enc v T x y z env σ
 |.insert T x y z=>FC aV b4 q l n enc v T x y z env σ
 |_=>none
theorem OC{bA α:Type}{aV e4 eH:Nat}{b4:bA→U}{q:bA→bA→Bool}{l:List (bA×α)}{n:bA}{enc:α→U}{v:α}(aH:kR P aV e4 eH b4 q)(aa:(enc v).closed=true){o:Oper}{N:Nat}{ids:List Nat}{env:ai}{σ:Y}{s:cA}{aI:cf}{T:TypeId}{x y z:Operand}
  (aj:o.op=.mapUpdate T x y z∨o.op=.insert T x y z) (h:FC aV b4 q l n enc v T x y z env σ=some (s,aI)) (he:aI=([.de (dz b4 enc l),b4 n,enc v],[])):e1 ⟨P,N,ids⟩ o env σ s:=by
 simp only[FC]at h;split at h
 ·rename_i d u;split at h
  ·rename_i a ah;split at h
   ·rename_i b hz;split at h
    ·rename_i K E bx Z;cases V:Nat.beq T aV with
     |false=>rw[V]at h;cases h
     |true=>
      rw[V]at h;have:=Nat.eq_of_beq_eq_true V;subst this;cases h;simp only[Prod.mk.injEq,List.cons.injEq,U.de.injEq,and_true]at he;obtain⟨rfl,rfl,rfl⟩:=he;exact⟨en.VP l enc v aj (ai.b5 u) (ai.b5 ah) (ai.b5 hz) aa Z aH,rfl⟩
    ·cases h
   ·cases h
  ·cases h
 ·cases h
theorem abM{bA α:Type}{aV e4 eH:Nat}{b4:bA→U}{q:bA→bA→Bool}{l:List (bA×α)}{n:bA}{enc:α→U}{v:α}(aH:kR P aV e4 eH b4 q)(aa:(enc v).closed=true){o:Oper}{N:Nat}{ids:List Nat}{env:ai}{σ:Y}{s:cA}{aI:cf}
  (h:KE aV b4 q l n enc v o.op env σ=some (s,aI)) (he:aI=([.de (dz b4 enc l),b4 n,enc v],[])):e1 ⟨P,N,ids⟩ o env σ s:=by
 cases aj:o.op<;>rw[aj]at h
 case mapUpdate T x y z=>exact OC aH aa (.inl aj) h he
 case insert T x y z=>exact OC aH aa (.inr aj) h he
 all_goals (simp only[KE]at h;cases h)
def Sh{bA α:Type}{aV e4 eH:Nat}{b4:bA→U}{q:bA→bA→Bool}(l:List (bA×α))(n:bA)(enc:α→U)(v:α)(aH:kR P aV e4 eH b4 q)(aa:(enc v).closed=true):Hint P:=
 .gs true ([.de (dz b4 enc l),b4 n,enc v],[]) (λ_=>KE aV b4 q l n enc v) λ_ _ _ _ _ _ _ h he=>abM aH aa h he
def CN(d K E:Nat)(ids:List Nat)(op:Op)(_:ai)(_:Y):Option (cA×cf):=match op with
 |.makeMap _ none=>bif !ids.contains d then some (.v d (.map K E []) (.dm d),([],[]))else none
 |_=>none
theorem abN{d K E:Nat}{o:Oper}{N:Nat}{ids:List Nat}{env:ai}{σ:Y}{s:cA}{aI:cf}(h:CN d K E ids o.op env σ=some (s,aI)):e1 ⟨P,N,ids⟩ o env σ s:=by
 cases aj:o.op<;>rw[aj]at h
 case makeMap T r=>
  cases r with
  |some r=>simp only[CN]at h;cases h
  |none=>
   simp only[CN]at h;cases hi:ids.contains d with
   |true=>rw[hi]at h;cases h
   |false=>rw[hi]at h;cases h;exact⟨hi,bG.makeMap aj hi⟩
 all_goals (simp only[CN]at h;cases h)
def J1(d K E:Nat):Hint P:=.gs true ([],[]) (λids=>CN d K E ids) λ_ _ _ _ _ _ _ h _=>abN h
theorem aew{α:Type}(e:iU α){l r m:List α}(h:j7 l r=some m)(aJ:0<l.length):0<(aD e m).length:=by
 obtain⟨_,D⟩:=Ul h;rw[mD,←D,List.length_append];omega
def Ej(aV E d2 sz:Nat)(zs:List (List U))(ids:List Nat)(op:Op)(env:ai)(σ:Y):Option (cA×cf):=match op with
 |.call c=>match c.callee with
  |.builtin b=>(match b with
   |.append=>(match c.args.toList with
    |[s,x]=>(match c.argTypes.toList with
     |[T,ko]=>bif Nat.beq T aV&&Nat.beq ko aV&&!ids.contains d2&&σ.clean [d2].contains then(match env.cz x with
       |none=>none
       |some mB=>match iJ [] σ mB with
        |some (.aX f bu)=>(match env.cz s with
         |some (.aX true xs)=>some (.e [d2] [d2] (.own d2) ((d2,.slice E sz zs 0 false)::σ),([.aX false xs,.aX false bu],[]))
         |_=>none)
        |_=>none)else none
     |_=>none)
    |_=>none)
   |_=>none)
  |_=>none
 |_=>none
theorem abO{aV E d2 sz bytes:Nat}{xs bu zs:List (List U)}(aH:jE P aV E sz bytes)(bP:yP sz bytes xs bu zs)(ct:0<bu.length){o:Oper}{N:Nat}{ids:List Nat}{env:ai}{σ:Y}{s:cA}{aI:cf}
  (h:Ej aV E d2 sz zs ids o.op env σ=some (s,aI)) (he:aI=([.aX false xs,.aX false bu],[])):e1 ⟨P,N,ids⟩ o env σ s:=by
 obtain⟨z1,bU,cG,dP,gT,kk⟩:=bP;cases aj:o.op<;>rw[aj]at h
 case call c=>
  obtain⟨cl,args,tys⟩:=c;simp only[Ej]at h;split at h
  ·split at h
   ·split at h
    ·rename_i h5 jv kQ;have:args=#[h5,jv]:=Array.toList_inj.1 (by simpa using kQ);subst this;split at h
     ·rename_i T ko xI;have:tys=#[T,ko]:=Array.toList_inj.1 (by simpa using xI);subst this;generalize V:(Nat.beq T aV&&_&&_&&_)=dY at h;cases dY with
      |false=>cases h
      |true=>
       simp only[cond_true]at h;simp only[Bool.and_eq_true,Bool.not_eq_true']at V;obtain⟨⟨⟨dJ,eL⟩,gQ⟩,jd⟩:=V;have:=Nat.eq_of_beq_eq_true dJ;subst this;have:=Nat.eq_of_beq_eq_true eL;subst this;split at h
       ·cases h
       ·rename_i mB u;split at h
        ·rename_i f MK W;have s7:hP σ (env.ev jv) (.aX f MK):=by rw[ai.b5 u];exact qZ W
         split at h
         ·rename_i kE lC;cases h;simp only[Prod.mk.injEq,List.cons.injEq,U.aX.injEq,and_true,true_and]at he;obtain⟨rfl,rfl⟩:=he;refine⟨?_,by simpa using gQ⟩;rw[←z1];exact en.Mn (G:=⟨P,N,ids⟩) aj (.inr ⟨ai.b5 lC,ct⟩) s7 aH bU cG dP gT kk gQ jd
         ·cases h
        ·cases h
     ·cases h
    ·cases h
   ·cases h
  ·cases h
 all_goals (simp only[Ej]at h;cases h)
def ago{aV E sz bytes:Nat}(d2:Nat){xs bu zs:List (List U)}(aH:jE P aV E sz bytes)(bP:yP sz bytes xs bu zs)(ct:0<bu.length):Hint P:=
 .gs true ([.aX false xs,.aX false bu],[]) (λids=>Ej aV E d2 sz zs ids) λ_ _ _ _ _ _ _ h he=>abO aH bP ct h he
end
section hdr
theorem b8.hdr{G:cq}{env:ai}{σ:Y}{d e T sz k:Nat}{cU:Bool}{xs:List (List U)}(n:Nat)(Z:σ.get d=some (.slice T sz xs k cU))(aT:xs.length=n){lq yT i t q:Nat}{cs:List U}(bk:σ.get lq=some (.cells yT cs))(bZ:cs[i]?=some (U.own d))(bB:env.get t=.ptr lq q)(he:σ.get e=none)(hi:G.ids.contains e=false)(aa:env.clean [e].contains=true)(W:σ.clean [e].contains=true)
  (j2:(d==e)=false) :
  b8 G env σ env ((e,.hdr d n)::σ):=λcx I β a w h dc=>by
 have agB:d≠e:=by simpa using j2
 refine⟨I,g9 β e (.pointer none),?_,I3 dc aa λy ah=>gU β _ ah⟩;have o2:g9 β e (.pointer none) e=.pointer none:=g7 _ _ _;have V:∀y,[e].contains y=false→g9 β e (.pointer none) y=β y:=λy ah=>gU β _ (by simpa using ah);have hT:iy (β d)=true:=by
  have hr:=dc t;rw[bB]at hr;simp only[ar]at hr;obtain⟨b,hl,_⟩:=hr;have aj:=h.cB lq _ bk;simp only[aU]at aj;rcases aj with hH|⟨aN,arr,an,au,aK,_⟩
  ·rw[hH]at hl;cases hl
  ·have:∀(cs:List U) (vs:List Value) (i:Nat),bO I β cs vs→cs[i]?=some (.own d)→iy (β d)=true:=by
    intro cs;induction cs with
    |nil=>intro vs i _ h;simp at h
    |cons x r bD=>
     intro vs i ax B2;simp only[bO]at ax;obtain⟨ay,bF,rfl,cF,cW⟩:=ax;cases i with
     |zero=>
      simp at B2;subst B2
      simp only[ar]at cF;rw[←cF.1];exact cF.2
     |succ i=>exact bD bF i cW (by simpa using B2)
   exact this cs _ i aK bZ
 refine{h with cB:=λy o ah=>?_,dn:=λy Mt h1 D ct b fZ fG=>?_,keep:=λy ah=>?_}
 ·rw[Y.c4]at ah;split at ah
  ·rename_i sX;subst sX;cases ah
   refine⟨o2,?_⟩;rw[gU β _ agB];have aj:=h.cB d _ Z;simp only[aU]at aj;rcases aj with q|⟨an,au,_⟩|⟨b,aF,arr,an,_⟩
   ·rw[q]at hT;cases hT
   ·subst au;simp at aT;subst aT;exact⟨_,_,an⟩
   ·rw[aT]at an;exact⟨_,_,an⟩
  ·obtain⟨bk,bZ⟩:=Y.iu W y o ah;exact(h.cB y o ah).beta V bk bZ
 ·by_cases aA:y=e
  ·subst aA;rw[o2]at fZ;simp[dA,bV]at fZ
  ·by_cases e2:Mt=e
   ·subst e2;rw[o2]at fG;simp[dA,bV]at fG
   ·rw[gU β _ aA]at fZ;rw[gU β _ e2]at fG
    rw[Y.c4,if_neg (Ne.symm aA)]at h1;rw[Y.c4,if_neg (Ne.symm e2)]at D
    exact h.dn y Mt h1 D ct b fZ fG
 ·have:y≠e:=λaA=>by subst aA;rw[List.contains_iff_mem.2 ah]at hi;cases hi
  rw[gU β _ this];exact h.keep y ah
variable {P:Program}
end hdr
end
end Go.Proofs.YtmnbolcmepihlaaGreat
