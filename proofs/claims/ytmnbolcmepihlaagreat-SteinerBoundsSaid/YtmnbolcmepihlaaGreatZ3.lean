/- Several texts in one. No condition but those that stand in each. -/
import Derived.Test.YtmnbolcmepihlaaGreatZ2
import Derived.Shelf.SlSortCmp.NoneTotal
import Derived.Maps.RangeRun
import Derived.Laws.MakeOwn
import Derived.Laws.OwnMore
namespace Go.Proofs.YtmnbolcmepihlaaGreat
section
set_option linter.all false
open Go Go.Sort Go.Lib Go.Shelf Go.RowKit List
def ad1{w w':World}(bA:∀b,b<w.heap.size→w'.heap[b]?=w.heap[b]?)(Z:w.heap.size≤w'.heap.size)(b5:w'.tape=w.tape)(an:w'.os=w.os)(hu:w'.output=w.output)(af:w.drawn≤w'.drawn):
  ∃q aoq,w'=grow (w.drewN q) aoq:=by
 refine⟨w'.drawn-w.drawn,w'.heap.extract w.heap.size w'.heap.size,?_⟩;obtain⟨h1,t1,d1,iR,h0⟩:=w';obtain⟨h,t,d,o,aR⟩:=w;simp only at bA Z b5 an hu af ⊢;subst b5 an hu;simp only[grow,World.drewN];congr 1
 ·apply Array.ext_getElem?;intro i;by_cases hi:i<h.size
  ·rw[Array.getElem?_append_left hi];exact bA i hi
  ·rw[Array.getElem?_append_right (by omega),Array.getElem?_extract];have e:h.size+(i-h.size)=i:=by omega
   rw[e];split
   ·rfl
   ·rw[Array.getElem?_eq_none (by omega)]
 ·omega
variable {α:Type}
def Kv(l:List (α→Int)):SWO (ltOf (fC l)) where
 irrefl:=λx=>by simpa [ltOf]using Y4 l x
 trans:=λx y z h1 D=>by simp only[ltOf,decide_eq_true_eq]at *;exact xc l x y z h1 D
 ntrans:=λx y z h1 D=>by simp only[ltOf,decide_eq_false_iff_not]at *;exact Y5 l x y z h1 D
variable {P:Program}{eA:α→α→Int}{enc:α→List W}{g:FuncId}{gA:α→dQ}{k:Nat}
def JQ[Inhabited α](aa:∀(I:bG) (β:Nat→Value) x,b8 I β (enc x) (gA x))
    (ch:∀x y,dR P g [] [.agg (enc x),.agg (enc y)] (.int .i64 (eA x y))) (cb off size:Nat) (w:World):CmpLays P g #[] gA k eA cb off size w:=λm os alz Z x y=>by
  generalize sortWorldK gA k w cb off m alz os=aU
  have fM:cz ⟨P,0,[]⟩ (pL (iK aU) (λ_=>.nilFunc) [] aU) (iK aU) (λ_=>.nilFunc) [] aU:=
    {good:=C2,iB:=CQ,kg:=cV.refl _,jX:=λ_ _ _ _=>rfl,frame:=λ_ _ _=>rfl,size:=Nat.le_refl _,tape:=rfl,os:=rfl,output:=rfl,drawn:=Nat.le_refl _,
     c4:=λd o af=>by simp[ag.get]at af,ee:=λd dO af=>by simp[ag.get]at af,keep:=λd af=>by simp at af}
  have ah:=ch x y _ aU _ (λ_=>.nilFunc) [.agg (gA x).toArray,.agg (gA y).toArray] fM (by
    simp only[b8,aC];exact⟨_,_,rfl,⟨_,rfl,aa _ _ x⟩,_,_,rfl,⟨_,rfl,aa _ _ y⟩,rfl⟩)
  refine Calls.mono ah ?_;rintro e w' ⟨v,rfl,r,aH,bq,β',⟨rfl,rfl⟩,l9,fU⟩;have NU:=kY l9;subst NU;exact⟨rfl,ad1 (λb U=>fU.frame b U (by simp[pL,xo,ag.ids])) fU.size fU.tape fU.os fU.output fU.drawn⟩
def Y8{k:Nat}(hk:0<k):∀(L:List (List Value)),(∀x∈L,x.length=k)→∀t,L.flatten[t]?=(L[t / k]?).bind λx=>x[t%k]?
 |[],_,t=>by simp
 |x::r,h,t=>by
  have u:=h x (by simp);rw[flatten_cons];by_cases b5:t<k
  ·rw[List.getElem?_append_left (by omega),Nat.div_eq_of_lt b5,Nat.mod_eq_of_lt b5];simp
  ·rw[List.getElem?_append_right (by omega),Y8 hk r (λy ai=>h y (by simp[ai])),u];have aK:t / k=(t-k) / k+1:=by rw[Nat.div_eq_sub_div hk (by omega)]
   have e2:(t-k)%k=t%k:=by rw[Nat.mod_eq_sub_mod (by omega:t≥k)]
   rw[aK,e2];simp
def Zm[Inhabited α](hk:0<k)(aJ:∀x,(gA x).length=k)(d:Array α):(flatK gA k d).toList=(d.toList.map gA).flatten:=by
 apply List.ext_getElem?;intro t;rw[Y8 hk _ (λx u=>by obtain⟨y,_,rfl⟩:=List.mem_map.1 u;exact aJ y),List.getElem?_map,Array.getElem?_toList,Array.getElem?_toList];by_cases b5:t<d.size*k
 ·have h1:t / k<d.size:=(Nat.div_lt_iff_lt_mul hk).2 b5;have D:=get_flatK gA k d t b5;rw[Array.getElem?_eq_getElem (by simpa using b5),Array.getElem?_eq_getElem h1];rw[getElem!_pos (flatK gA k d) t (by simpa using b5)]at D;rw[D,getElem!_pos d _ h1];have aq:t%k<(gA d[t / k]).length:=by rw[aJ];exact Nat.mod_lt _ hk
  simp[List.getElem?_eq_getElem aq,getElem!_pos,aq]
 ·have h1:d.size≤t / k:=(Nat.le_div_iff_mul_le hk).2 (by omega);rw[Array.getElem?_eq_none (by simpa using b5),Array.getElem?_eq_none h1];rfl
def G4(P:Program)(f g:FuncId){α:Type}[Inhabited α](gA:α→dQ)(k:Nat)(eA:α→α→Int):Prop:=∀(cb off aV:Nat) (d:Array α) (w:World),HoldsK gA k w cb off d→cb<w.heap.size→d.size<4611686018427387904→
 Calls P f #[.slice (some ⟨cb,off,none⟩) d.size aV,.func (.func g) #[] #[]] w λe w'=>e=.returned (.tuple #[])∧∃dO n os,PermIn 0 d.size d dO∧SortedIn (ltOf eA) 0 d.size dO∧w'=sortWorldK gA k w cb off n dO os
def aiP(P:Program)(f:FuncId):Prop:=∀(p:Option Addr) (aV:Nat) (wQ:Value) (w:World),Calls P f #[.slice p 0 aV,wQ] w λe w'=>e=.returned (.tuple #[])∧w'=w
def Z3[Inhabited α]{d dO:Array α}(aF:PermIn 0 d.size d dO)(Z:SortedIn (ltOf eA) 0 d.size dO):dO.toList.Perm d.toList∧dO.toList.Pairwise λa b=>¬eA b a<0:=by
 obtain⟨h1,_,D⟩:=aF;refine⟨?_,?_⟩
 ·have aK:dO.extract 0 d.size=dO:=by rw[←h1];simp
  have e2:d.extract 0 d.size=d:=by simp
  rwa [aK,e2]at D
 rw[pairwise_iff_getElem];intro i j hi aY jg;have qx:j<dO.size:=by simpa using aY
 have:=Z i j (Nat.zero_le _) jg (by omega);rw[getElem!_pos dO j qx,getElem!_pos dO i (by omega)]at this;simpa [ltOf]using this
def Gb{I:bG}{α:Type}{enc:α→List W}{gA:α→dQ}(aa:∀x vs,ds I (enc x) vs↔vs=gA x):∀(zs:List α) (vs:dQ),ds I (zs.map enc).flatten vs↔vs=(zs.map gA).flatten
 |[],vs=>by simp[ds]
 |z::r,vs=>by
  simp only[map_cons,flatten_cons];rw[oL];constructor
  ·rintro⟨us,ws,rfl,h1,D⟩;rw[(aa z us).1 h1,(Gb aa r ws).1 D]
  ·rintro rfl;exact⟨_,_,rfl,(aa z _).2 rfl,(Gb aa r _).2 rfl⟩
def Kb{f:FuncId}[Inhabited α](aa:∀(I:bG) x vs,ds I (enc x) vs↔vs=gA x)(hk:0<k)(aJ:∀x,(gA x).length=k)(sP:∀x,(enc x).length=k)
  (b5:∀a b c,eA a b<0→eA b c<0→eA a c<0) (Z:G4 P f g gA k eA) (aX:aiP P f) {d T:Nat} {zs bF:List α} (h:l2 eA zs=some bF) :
  eT P f [(d,.slice T k (zs.map enc) 0 false)] [.own d,.fn g []] (λr aH=>r=.c5 []∧aH=[(d,.slice T k (bF.map enc) 0 false)]):=by
 intro cx w I β vs av aI;obtain⟨pH,pI,hz⟩:=aat b5 h;simp only[b8]at aI;obtain⟨aR,us,rfl,aI,j7,y9,rfl,j5,rfl⟩:=aI;simp only[aC,b8]at j5;obtain⟨aqC,rfl,j5⟩:=j5;have e2:aqC=#[]:=by apply Array.ext';simpa using j5
 subst e2;have af:ag.get [(d,cE.slice T k (zs.map enc) 0 false)] d=some (.slice T k (zs.map enc) 0 false):=by rw[avA,if_pos rfl]
 have an:=av.c4 d _ af;simp only[aC]at aI;obtain⟨rfl,aI⟩:=aI;simp only[bb,length_map]at an;rcases an with q|⟨q,ax,_⟩|⟨b,aV,arr,ak,ax,aO,aL,bg,bI,b7,cD,dz,dT,fG⟩
 ·rw[q]at aI;simp[i1]at aI
 ·have Fl:zs=[]:=by simpa using ax
  subst Fl;have anK:bF=[]:=pH.eq_nil;subst anK;rw[q];refine Calls.mono (aX none 0 _ w) ?_;rintro e w' ⟨rfl,rfl⟩;exact⟨.tuple #[],rfl,.c5 [],_,I,β,⟨rfl,rfl⟩,by simp only[aC,b8];exact⟨_,rfl,rfl⟩,av⟩
 ·have nP:arr.toList.take (zs.length*k)=(zs.map gA).flatten:=(Gb (aa I) zs _).1 bI;have k2:arr.size=aV*k:=bg;have p1:zs.length*k≤arr.size:=by rw[k2];exact Nat.mul_le_mul_right k ax
  have oT:(flatK gA k zs.toArray).toList=(zs.map gA).flatten:=by rw[Zm hk aJ]
  have qM:∀j,j<zs.length*k→arr[j]?=some ((flatK gA k zs.toArray)[j]!):=λj aY=>by
   have h1:(flatK gA k zs.toArray)[j]?=arr[j]?:=by
    rw[←Array.getElem?_toList,←Array.getElem?_toList,oT,←nP,getElem?_take,if_pos aY]
   have D:j<(flatK gA k zs.toArray).size:=by simpa using aY
   rw[←h1,getElem!_pos _ j D,Array.getElem?_eq_getElem D]
  have nn:HoldsK gA k w b 0 zs.toArray:=λj aY=>by
   have aY:j<zs.length*k:=by simpa using aY
   constructor
   ·simp only[World.cell?,aL,Nat.zero_add];rw[qM j aY];rfl
   ·simp[World.frozen?,aL]
  have bS:=hQ aL;have ah:=Z b 0 aV zs.toArray w nn bS (by simpa using hz);rw[ak];refine Calls.mono ah ?_;rintro e w' ⟨rfl,dO,n,os,anl,o0,rfl⟩;obtain⟨ank,NQ⟩:=Z3 anl o0;have eB:dO.toList=bF:=Y3 (ank.trans pH.symm) pI NQ;have IT:bF.length=zs.length:=pH.length_eq;have ml:dO.size=zs.length:=by rw[←IT,←eB];simp
  generalize c3:flatK gA k dO=R;have al9:R.toList=(bF.map gA).flatten:=by rw[←c3,Zm hk aJ,eB]
  have Cg:R.size=zs.length*k:=by rw[←c3,size_flatK,ml]
  have anz:sortWorldK gA k w b 0 n dO os=grow (putRow id (Go.Sort.ahead w n) b 0 R) os:=by rw[←c3];rfl
  rw[anz];have z8:(grow (putRow id (Go.Sort.ahead w n) b 0 R) os).heap[b]?=some (.cells (putCells id 0 R arr) T (0,0)):=by
   simp only[grow,putRow,mapBlock,Go.Sort.ahead];rw[Array.getElem?_append_left (by simpa using bS),Array.getElem?_modify,if_pos rfl,aL];rfl
  have G8:(putCells id 0 R arr).toList.take (bF.length*k)=(bF.map gA).flatten:=by
   rw[←al9];apply List.ext_getElem?;intro j;rw[getElem?_take];split
   ·rename_i aY;rw[IT]at aY;have jb:j<arr.size:=by omega
    rw[Array.getElem?_toList,Array.getElem?_toList];simp only[putCells,Array.getElem?_mapIdx];have py:j<R.size:=by omega
    rw[Array.getElem?_eq_getElem jb,Array.getElem?_eq_getElem py];simp[py]
   ·rename_i aY;rw[List.getElem?_eq_none (by simp only[Array.length_toList];rw[IT]at aY;omega)]
  refine⟨.tuple #[],rfl,.c5 [],_,I,β,⟨rfl,rfl⟩,by simp only[aC,b8];exact⟨_,rfl,rfl⟩,?_⟩;refine cz.turn (b:=b) (d:=d) av ⟨λk hk bS=>?_,by simp[grow,putRow,mapBlock,Go.Sort.ahead],rfl,rfl,rfl,by simp[grow,putRow,mapBlock,Go.Sort.ahead]⟩ fG (λx u=>?_) (λx u h _=>?_) (cV.refl I) (λ_ _ _=>rfl) (λo v aa=>?_) (av.tK aL) (λ_ _=>rfl) (.inr rfl) (h5.refl β) (.inl (by rw[ak];rfl)) (λbc cG=>?_)
  ·simp only[grow,putRow,mapBlock,Go.Sort.ahead];rw[Array.getElem?_append_left (by simpa using bS),Array.getElem?_modify,if_neg (λe=>hk e.symm)]
  ·rw[avA,avA,if_neg (Ne.symm u),if_neg (Ne.symm u)]
  ·rw[avA,if_neg (Ne.symm u)]at h;simp[ag.get]at h
  ·rw[dT o (by omega)]at aa;cases aa
  ·rw[avA,if_pos rfl]at cG;injection cG with cG
   subst cG;simp only[bb,length_map];refine .inr (.inr ⟨b,aV,_,by rw[ak,IT],by omega,aO,z8,by simpa [putCells]using bg,?_,?_,by omega,?_,?_,fG⟩)
   ·exact(Gb (aa I) _ _).2 G8
   ·intro e he;obtain⟨x,_,rfl⟩:=List.mem_map.1 he;exact sP x
   ·intro h;cases h
   ·intro o _;exact dT o (by omega)
end
section
set_option linter.all false
open Go List
section
section redo
variable {G:cR}{cx:fO}{I:bG}{β:Nat→Value}{σ:ag}{w:World}
def cz.redo(h:cz G cx I β σ w){M news:dI}{σ2:ag}{e8:Nat→Value}{w':World}{b:Nat}(hk:g1 w w' b)(W1:∀o,I b o=none)(rN:∀x,x∉M→(σ.get x).isSome→b∉dA (β x))(aF:Place cx b)
    (uW:∀x,x∉M→σ2.get x=σ.get x) (mB:∀x,x∉news→e8 x=β x) (sU:∀x∈news,x∈M∧x∉G.ids) (iD:∀x o,x∉M→σ.get x=some o→n2 news.contains o=false)
    (By:∀x∈M,∀o,σ2.get x=some o→bb cx I e8 w' x o)
    (pG:∀x∈M,(σ2.get x).isSome→∀c∈dA (e8 x),∃y∈M,(σ.get y).isSome∧c∈dA (β y))
    (pJ:∀x∈M,∀y∈M,x≠y→(σ2.get x).isSome→(σ2.get y).isSome→∀c∈dA (e8 x),c∉dA (e8 y)):cz G cx I e8 σ2 w':=by
  have HM:∀x,x∉M→e8 x=β x:=λx u=>mB x λaX=>u (sU x aX).1
  exact{
    good:=λaS o v aa=>by
      have h1:=h.good aS o v aa;have bS:aS<w.heap.size:=World.block_lt_of_cell? w _ h1;have cA:aS≠b:=λe=>by subst e;rw[W1]at aa;cases aa
      rw[World.cell?_of_block (w:=w) (hk.block aS cA bS)];exact h1
    iB:=λaS v aa=>by
      have cA:aS≠b:=λe=>by subst e;rw[W1]at aa;cases aa
      obtain⟨es,clock,h1,D⟩:=h.iB aS v aa;exact⟨es,clock,by rw[hk.block aS cA (hQ h1)];exact h1,D⟩
    kg:=h.kg
    jX:=h.jX
    frame:=λaS U aX=>by
      have:aS≠b:=λe=>by
        subst e;rcases aF with q|q
        · omega
        · exact aX q
      rw[hk.block aS this (by have:=h.size;omega)];exact h.frame aS U aX
    size:=Nat.le_trans h.size hk.size
    tape:=hk.tape.trans h.tape
    os:=hk.os.trans h.os
    output:=hk.output.trans h.output
    drawn:=Nat.le_trans h.drawn hk.drawn
    c4:=λx o u=>by
      by_cases hm:x∈M
      · exact By x hm o u
      · rw[uW x hm]at u
        have h1:=(h.c4 x o u).beta (β':=e8) (p:=news.contains) (λd af=>mB d (by simpa using af)) (by simpa using λaX=>hm (sU x aX).1) (iD x o hm u);exact h1.keep hk rfl (by rw[HM x hm];exact rN x hm (by rw[u];rfl)) (cV.refl I) (λ_ _ _=>rfl) (h5.refl e8)
    ee:=λx y u ai cA c ah gh=>by
      by_cases hm:x∈M
      · by_cases mA:y∈M
        · exact pJ x hm y mA cA u ai c ah gh
        · obtain⟨z,nF,pS,z3⟩:=pG x hm u c ah
          rw[uW y mA]at ai;rw[HM y mA]at gh;exact h.ee z y pS ai (λe=>mA (e▸nF)) c z3 gh
      · rw[uW x hm]at u
        rw[HM x hm]at ah;by_cases mA:y∈M
        · obtain⟨z,nF,pS,z3⟩:=pG y mA ai c gh
          exact h.ee x z u pS (λe=>hm (e▸nF)) c ah z3
        · rw[uW y mA]at ai
          rw[HM y mA]at gh;exact h.ee x y u ai cA c ah gh
    keep:=λx u=>by
      have:x∉news:=λaX=>(sU x aX).2 u;rw[mB x this];exact h.keep x u}
def cz.G5(h:cz G cx I β σ w){M news:dI}{σ2:ag}{e8:Nat→Value}
  (uW:∀x,x∉M→σ2.get x=σ.get x) (mB:∀x,x∉news→e8 x=β x) (sU:∀x∈news,x∈M∧x∉G.ids) (iD:∀x o,x∉M→σ.get x=some o→n2 news.contains o=false)
  (By:∀x∈M,∀o,σ2.get x=some o→bb cx I e8 w x o)
  (pG:∀x∈M,(σ2.get x).isSome→∀c∈dA (e8 x),∃y∈M,(σ.get y).isSome∧c∈dA (β y))
  (pJ:∀x∈M,∀y∈M,x≠y→(σ2.get x).isSome→(σ2.get y).isSome→∀c∈dA (e8 x),c∉dA (e8 y)):cz G cx I e8 σ2 w:=
 h.redo (b:=w.heap.size) ⟨λ_ _ _=>rfl,Nat.le_refl _,rfl,rfl,rfl,Nat.le_refl _⟩ (λo=>h.jG (Nat.le_refl _) o) (λx _ Z e=>by
  obtain⟨o,Z⟩:=Option.isSome_iff_exists.1 Z;exact absurd (h.uc Z e) (by omega)) (.inl h.size) uW mB sU iD By pG pJ
end redo
section rows
variable {cx:fO}{I:bG}{w:World}
def ko.length:∀{fh:List jo} {Z:dQ},ko cx I w fh Z→Z.length=fh.length
 |[],_,h=>by rw[show _=[]from h];rfl
 |x::r,_,h=>by obtain⟨aR,us,rfl,_,_,aq⟩:=h;simp[ko.length aq]
def ko.get:∀{fh:List jo} {Z:dQ},ko cx I w fh Z→∀{i:Nat} {x:jo},fh[i]?=some x→∃v,Z[i]?=some v∧l8 cx I w x v
 |[],_,_,i,x,hi=>by simp at hi
 |y::r,_,h,i,x,hi=>by
  obtain⟨aR,us,rfl,h1,_,aq⟩:=h;cases i with
  |zero=>simp at hi;subst hi;exact⟨aR,rfl,h1⟩
  |succ i=>simp at hi ⊢;exact aq.get hi
def ko.ne:∀{fh:List jo} {Z:dQ},ko cx I w fh Z→∀{i j:Nat} {aR v:Value} {b:Nat},i≠j→Z[i]?=some aR→Z[j]?=some v→cb aR=some b→cb v≠some b
 |[],_,h,i,j,aR,v,b,_,hi,_,_=>by rw[show _=[]from h]at hi;simp at hi
 |y::r,_,h,i,j,aR,v,b,jg,hi,aY,hu=>by
  obtain⟨z,us,rfl,h1,D,aq⟩:=h;cases i with
  |zero=>
   cases j with
   |zero=>exact absurd rfl jg
   |succ j=>
    simp at hi aY;subst hi
    intro aa;exact D b hu (List.mem_filterMap.2 ⟨v,List.mem_of_getElem? aY,aa⟩)
  |succ i=>
   cases j with
   |zero=>
    simp at hi aY;subst aY
    intro aa;exact D b aa (List.mem_filterMap.2 ⟨aR,List.mem_of_getElem? hi,hu⟩)
   |succ j=>simp at hi aY;exact aq.ne (λe=>jg (by rw[e])) hi aY hu
def ko.set:∀{fh:List jo} {Z:dQ},ko cx I w fh Z→∀{i:Nat} {x:jo} {v:Value},l8 cx I w x v→(∀j aR b,j≠i→Z[j]?=some aR→cb v=some b→cb aR≠some b)→ko cx I w (fh.set i x) (Z.set i v)
 |[],_,h,i,x,v,_,_=>by rw[show _=[]from h];simp[ko]
 |y::r,_,h,i,x,v,u,af=>by
  obtain⟨z,us,rfl,h1,D,aq⟩:=h;cases i with
  |zero=>
   refine⟨v,us,rfl,u,λb U hm=>?_,aq⟩;obtain⟨aR,hu,nt⟩:=List.mem_filterMap.1 hm;obtain⟨j,aY⟩:=List.getElem?_of_mem hu;exact af (j+1) aR b (by simp) (by simpa using aY) U nt
  |succ i=>
   refine⟨z,us.set i v,rfl,h1,λb U hm=>?_,aq.set u λj aR b aY hu U=>af (j+1) aR b (λe=>aY (by simpa using e)) (by simpa using hu) U⟩;obtain⟨aR,hu,nt⟩:=List.mem_filterMap.1 hm;rcases List.mem_or_eq_of_mem_set hu with hu|rfl
   ·exact D b U (List.mem_filterMap.2 ⟨aR,hu,nt⟩)
   ·exact af 0 z b (by simp) rfl nt U
def ko.push:∀{fh:List jo} {Z:dQ},ko cx I w fh Z→∀{x:jo} {v:Value},l8 cx I w x v→(∀aR b,aR∈Z→cb v=some b→cb aR≠some b)→ko cx I w (fh++[x]) (Z++[v])
 |[],_,h,x,v,u,_=>by rw[show _=[]from h];exact⟨v,[],rfl,u,by simp,rfl⟩
 |y::r,_,h,x,v,u,af=>by
  obtain⟨z,us,rfl,h1,D,aq⟩:=h;refine⟨z,us++[v],rfl,h1,λb U hm=>?_,aq.push u λaR b hu=>af aR b (mem_cons_of_mem _ hu)⟩;obtain⟨aR,hu,nt⟩:=List.mem_filterMap.1 hm;rcases List.mem_append.1 hu with hu|hu
  ·exact D b U (List.mem_filterMap.2 ⟨aR,hu,nt⟩)
  ·simp at hu;subst hu
   exact af z b (by simp) nt U
def pW(vs:jc):dA (.tuple vs)=vs.toList.filterMap cb:=rfl
def JM{Z:dQ}{i:Nat}{v:Value}{b:Nat}(h:b∈(Z.set i v).filterMap cb):b∈Z.filterMap cb∨cb v=some b:=by
 obtain⟨aR,hu,nt⟩:=List.mem_filterMap.1 h;rcases List.mem_or_eq_of_mem_set hu with hu|rfl
 ·exact .inl (List.mem_filterMap.2 ⟨aR,hu,nt⟩)
 ·exact .inr nt
def jo.obj:jo→cE
 |.sl T sz xs=>.slice T sz xs 0 false
 |.mp K E bL=>.map K E bL
def jo.empty:jo→jo
 |.sl T sz _=>.sl T sz []
 |.mp _ _ _=>.sl 0 0 []
def jo.ad2(x:jo):l8 cx I w x.empty (.slice none 0 0):=by cases x<;>exact .inl ⟨rfl,rfl⟩
def l8.obj{x:jo}{v:Value}{β:Nat→Value}{d:Nat}(h:l8 cx I w x v)(af:β d=v):bb cx I β w d x.obj:=by
 cases x with
 |sl T sz xs=>
  simp only[jo.obj,bb,af];rcases h with⟨h,rfl⟩|⟨b,aV,arr,h1,D,aq,aZ,bV,dU,eR,jS,iy⟩
  ·exact .inr (.inl ⟨h,rfl,trivial⟩)
  ·exact .inr (.inr ⟨b,aV,arr,h1,D,aq,aZ,bV,dU,eR,Nat.zero_le _,λh=>(by cases h),λo _=>jS o,iy⟩)
 |mp K E bL=>
  simp only[jo.obj,bb,af];obtain⟨r,es,clock,h1,D,aq,aZ,bV,dU⟩:=h;exact .inr ⟨r,es,clock,h1,D,aq,aZ,bV,dU⟩
def av1{T sz:Nat}{xs:List (List W)}{cT:Bool}{β:Nat→Value}{d:Nat}(h:bb cx I β w d (.slice T sz xs 0 cT))(aX:β d≠.nilFunc):l8 cx I w (.sl T sz xs) (β d):=by
 simp only[bb]at h;rcases h with h|⟨h,rfl,_⟩|⟨b,aV,arr,h1,D,aq,aZ,bV,dU,eR,_,_,jS,iy⟩
 ·exact absurd h aX
 ·exact .inl ⟨h,rfl⟩
 ·exact .inr ⟨b,aV,arr,h1,D,aq,aZ,bV,dU,eR,λo=>jS o (by omega),iy⟩
def l8.ne{x:jo}{v:Value}(h:l8 cx I w x v):v≠.nilFunc∧(i1 v=true∨nV v=true):=by
 cases x with
 |sl T sz xs=>
  rcases h with⟨h,_⟩|⟨b,aV,arr,h1,_⟩
  ·rw[h];simp[i1]
  ·rw[h1];simp[i1]
 |mp K E bL=>obtain⟨r,es,clock,h1,_⟩:=h;rw[h1];simp[nV]
def l8.Gm{x:jo}{v:Value}(h:l8 cx I w x v){b:Nat}(U:b∈dA v):cb v=some b:=by
 cases v with
 |tuple vs=>
  have:=h.ne.2;simp[i1,nV]at this
 |_=>simpa [dA]using U
end rows
def cE.yZ(e2:Nat)(D:Option (j4×Nat)):cE→cE
 |.e9 T _ n _=>.e9 T e2 n D
 |.fQ K E _ keys _ js=>.fQ K E e2 keys D js
 |o=>o
def cE.zf:cE→Option (Nat×Option (j4×Nat))
 |.e9 _ e _ h=>some (e,h)
 |.fQ _ _ e _ h _=>some (e,h)
 |_=>none
def bb.outer{cx:fO}{I:bG}{β:Nat→Value}{w:World}{d:Nat}{o:cE}{e:Nat}{dk:Option (j4×Nat)}(an:o.zf=some (e,dk))(h:bb cx I β w d o):
  β d=.nilFunc∨∃Z cN,β e=.tuple Z∧je β Z.toList cN dk∧∃b,cb (β d)=some b:=by
 cases o<;>simp only[cE.zf,Option.some.injEq,Prod.mk.injEq]at an<;>first|(cases an;done)|skip
 ·obtain⟨rfl,rfl⟩:=an;simp only[bb]at h;rcases h with q|⟨b,aV,arr,Z,ak,ax,aO,aL,bg,bI,b7,cD,dz,dT⟩
  ·exact .inl q
  ·exact .inr ⟨Z,_,bI,cD,b,by rw[ak];rfl⟩
 ·obtain⟨rfl,rfl⟩:=an;simp only[bb]at h;rcases h with q|⟨r,es,clock,Z,cN,ak,ax,aO,aL,bg,bI,b7,cD⟩
  ·exact .inl q
  ·exact .inr ⟨Z,_,aO,aL,r,by rw[ak];rfl⟩
def bb.Th{cx:fO}{I:bG}{β e8:Nat→Value}{w:World}{d:Nat}{o:cE}{e e2:Nat}{dk D:Option (j4×Nat)}{Z eg:jc}(an:o.zf=some (e,dk))(h:bb cx I β w d o)(af:e8 d=β d)
  (he:β e=.tuple Z) (mT:e8 e2=.tuple eg) (aX:eg.size=Z.size) (b0:∀cN,je β Z.toList cN dk→je e8 eg.toList cN D):bb cx I e8 w d (o.yZ e2 D):=by
 cases o<;>simp only[cE.zf,Option.some.injEq,Prod.mk.injEq]at an<;>first|(cases an;done)|skip
 ·obtain⟨rfl,rfl⟩:=an;simp only[bb,cE.yZ,af]at h ⊢;rcases h with q|⟨b,aV,arr,gG,ak,ax,aO,aL,bg,bI,b7,cD,dz,dT⟩
  ·exact .inl q
  ·rw[he]at bI;cases bI
   exact .inr ⟨b,aV,arr,eg,ak,ax,aO,aL,bg,mT,aX.trans b7,b0 _ cD,dz,dT⟩
 ·obtain⟨rfl,rfl⟩:=an;simp only[bb,cE.yZ,af]at h ⊢;rcases h with q|⟨r,es,clock,gG,cN,ak,ax,aO,aL,bg,bI,b7,cD⟩
  ·exact .inl q
  ·rw[he]at aO;cases aO
   exact .inr ⟨r,es,clock,eg,cN,ak,ax,mT,b0 _ aL,bg,bI,b7,cD⟩
section take
variable {G:cR}{cx:fO}{I:bG}{β:Nat→Value}{σ:ag}{w:World}
def DV(σ:ag)(d e e2 t:Nat)(pQ:cE)(fh:List jo)(i:Nat)(x:jo):ag:=(t,x.obj)::(e2,.cL (fh.set i x.empty))::(d,pQ.yZ e2 (some (some i,t)))::σ.minus [d,e]
def zg{σ:ag}{a b c:Nat}{vU bc F6:cE}{M:dI}(x:Nat):ag.get ((a,vU)::(b,bc)::(c,F6)::σ.minus M) x=if a=x then some vU else if b=x then some bc else if c=x then some F6 else if x∈M then none else σ.get x:=by
 rw[avA,avA,avA,avK]
def r8{σ:ag}{a b:Nat}{vU bc:cE}{M:dI}(x:Nat):ag.get ((a,vU)::(b,bc)::σ.minus M) x=if a=x then some vU else if b=x then some bc else if x∈M then none else σ.get x:=by
 rw[avA,avA,avK]
def cz.take(h:cz G cx I β σ w){d e e2 t i:Nat}{pQ:cE}{fh:List jo}{x:jo}(af:σ.get d=some pQ)(an:pQ.zf=some (e,none))(he:σ.get e=some (.cL fh))(u:fh[i]?=some x)(iI:β d≠.nilFunc)
  (b5:σ.get t=none) (mT:σ.get e2=none) (Aj:t≠e2) (Fg:t∉G.ids) (n9:e2∉G.ids) (iD:σ.clean [t,e2].contains=true) :
  ∃Z:jc,β e=.tuple Z∧∃v,Z[i]?=some v∧l8 cx I w x v∧cz G cx I (λy=>if y=t then v else if y=e2 then .tuple (Z.setIfInBounds i (.slice none 0 0))else β y) (DV σ d e e2 t pQ fh i x) w:=by
 rcases(h.c4 d pQ af).outer an with q|⟨Z,cN,ak,ax,bd,aO⟩
 ·exact absurd q iI
 have mS:=h.c4 e _ he;simp only[bb,ak,Value.tuple.injEq,reduceCtorEq,false_or]at mS;obtain⟨gG,rfl,U⟩:=mS;obtain⟨v,ej,gz⟩:=U.get u;refine⟨Z,ak,v,by simpa using ej,gz,?_⟩;have cA:∀y,(σ.get y).isSome→y≠t∧y≠e2:=λy ai=>⟨λe=>(by subst e;rw[b5]at ai;cases ai),λe=>(by subst e;rw[mT]at ai;cases ai)⟩;have tf:=cA d (by rw[af];rfl);have Bg:=cA e (by rw[he];rfl);have jY:d≠e:=λcC=>by subst cC;rw[af]at he;cases he;cases an
 have yl:i<Z.toList.length:=(List.getElem?_eq_some_iff.1 ej).1
 let e8:Nat→Value:=λy=>if y=t then v else if y=e2 then .tuple (Z.setIfInBounds i (.slice none 0 0))else β y
 have ss:e8 t=v:=by show(if _ then _ else _)=_;rw[if_pos rfl]
 have lH:e8 e2=.tuple (Z.setIfInBounds i (.slice none 0 0)):=by show(if _ then _ else _)=_;rw[if_neg (Ne.symm Aj),if_pos rfl]
 have mu:e8 d=β d:=by show(if _ then _ else _)=_;rw[if_neg tf.1,if_neg tf.2]
 have jh:(Z.setIfInBounds i (.slice none 0 0)).toList=Z.toList.set i (.slice none 0 0):=by simp
 refine h.G5 (M:=[d,e,e2,t]) (news:=[t,e2]) (e8:=e8) (λy ai=>?_) (λy ai=>?_) (λy ai=>?_) (λy o _ g5=>(avI iD y o g5).2) (λy ai o g5=>?_) (λy ai eg c ah=>?_) (λy ai z hz mW fc eg c ah gh=>?_)
 ·simp only[mem_cons,not_mem_nil,or_false,not_or]at ai;rw[DV,zg,if_neg (Ne.symm ai.2.2.2),if_neg (Ne.symm ai.2.2.1),if_neg (Ne.symm ai.1),if_neg (by simp[ai.1,ai.2.1])]
 ·simp only[mem_cons,not_mem_nil,or_false,not_or]at ai;show(if _ then _ else _)=_;rw[if_neg ai.1,if_neg ai.2]
 ·simp only[mem_cons,not_mem_nil,or_false]at ai;rcases ai with rfl|rfl
  ·exact⟨by simp,Fg⟩
  ·exact⟨by simp,n9⟩
 ·rw[DV,zg]at g5;split at g5
  ·rename_i cC;subst cC;cases g5;exact gz.obj ss
  ·split at g5
   ·rename_i cC;subst cC;cases g5
    simp only[bb];refine .inr ⟨_,lH,?_⟩;rw[jh];exact U.set x.ad2 λj aR b _ _ ic=>by cases ic
   ·split at g5
    ·rename_i cC;subst cC;cases g5
     refine(h.c4 d pQ af).Th an mu ak lH (by simp) λcN nJ=>?_;rw[show cN=Z.toList from nJ,jh];refine⟨by simpa using yl,by rw[ss];exact gz.ne.1,?_⟩;rw[ss,List.set_set];apply List.ext_getElem?;intro j;rw[List.getElem?_set];by_cases jg:i=j
     ·subst jg;rw[if_pos rfl,if_pos yl];exact ej
     ·rw[if_neg jg]
    ·split at g5
     ·cases g5
     ·rename_i h1 D aq aZ;simp only[mem_cons,not_mem_nil,or_false]at ai aZ;rcases ai with rfl|rfl|rfl|rfl
      ·exact absurd rfl aq
      ·exact absurd (.inr rfl) aZ
      ·exact absurd rfl D
      ·exact absurd rfl h1
 ·simp only[mem_cons,not_mem_nil,or_false]at ai;rw[DV,zg]at eg;by_cases sW:y=d
  ·subst sW;rw[mu]at ah;exact⟨y,by simp,by rw[af];rfl,ah⟩
  by_cases NY:y=t
  ·subst NY;rw[ss]at ah;exact⟨e,by simp,by rw[he];rfl,by rw[ak,pW];exact List.mem_filterMap.2 ⟨v,List.mem_of_getElem? ej,gz.Gm ah⟩⟩
  by_cases NX:y=e2
  ·subst NX;rw[lH,pW,jh]at ah;rcases JM ah with ah|ah
   ·exact⟨e,by simp,by rw[he];rfl,by rw[ak,pW];exact ah⟩
   ·cases ah
  ·rw[if_neg (Ne.symm NY),if_neg (Ne.symm NX),if_neg (Ne.symm sW),if_pos]at eg
   ·cases eg
   ·rcases ai with rfl|rfl|rfl|rfl
    ·exact absurd rfl sW
    ·simp
    ·exact absurd rfl NX
    ·exact absurd rfl NY
 ·
  have mL:∀y,y∈[d,e,e2,t]→(ag.get (DV σ d e e2 t pQ fh i x) y).isSome→y=d∨y=e2∨y=t:=λy ai eg=>by
   rw[DV,zg]at eg;simp only[mem_cons,not_mem_nil,or_false]at ai;rcases ai with rfl|rfl|rfl|rfl
   ·exact .inl rfl
   ·rw[if_neg (Ne.symm Bg.1),if_neg (Ne.symm Bg.2),if_neg jY,if_pos (by simp)]at eg;cases eg
   ·exact .inr (.inl rfl)
   ·exact .inr (.inr rfl)
  have Bh:∀c,c∈dA (β d)→c∉dA (β e):=h.ee d e (by rw[af];rfl) (by rw[he];rfl) jY
  have IY:∀c,c∈dA (e8 e2)→∃j aR,j≠i∧Z.toList[j]?=some aR∧cb aR=some c:=λc ah=>by
   rw[lH,pW,jh]at ah;obtain⟨aR,hu,nt⟩:=List.mem_filterMap.1 ah;obtain⟨j,aY⟩:=List.getElem?_of_mem hu;rw[List.getElem?_set]at aY;split at aY
   ·rename_i jg;cases aY;cases nt
   ·rename_i jg;exact⟨j,aR,λe=>jg e.symm,aY,nt⟩
  have VI:∀c,c∈dA (e8 e2)→c∈dA (β e):=λc ah=>by
   obtain⟨j,aR,_,aY,hu⟩:=IY c ah;rw[ak,pW];exact List.mem_filterMap.2 ⟨aR,List.mem_of_getElem? aY,hu⟩
  have XO:∀c,c∈dA (e8 t)→cb v=some c:=λc ah=>by rw[ss]at ah;exact gz.Gm ah
  have VJ:∀c,c∈dA (e8 t)→c∈dA (β e):=λc ah=>by
   rw[ak,pW];exact List.mem_filterMap.2 ⟨v,List.mem_of_getElem? ej,XO c ah⟩
  have WR:∀c,c∈dA (e8 e2)→c∈dA (e8 t)→False:=λc ah gh=>by
   obtain⟨j,aR,aY,E6,nt⟩:=IY c ah;exact U.ne aY E6 ej nt (XO c gh)
  rcases mL y ai fc with rfl|rfl|rfl<;>rcases mL z hz eg with rfl|rfl|rfl
  ·exact mW rfl
  ·rw[mu]at ah;exact Bh c ah (VI c gh)
  ·rw[mu]at ah;exact Bh c ah (VJ c gh)
  ·rw[mu]at gh;exact Bh c gh (VI c ah)
  ·exact mW rfl
  ·exact WR c ah gh
  ·rw[mu]at gh;exact Bh c gh (VJ c ah)
  ·exact WR c gh ah
  ·exact mW rfl
def cz.back(h:cz G cx I β σ w){d e e2 t i:Nat}{pQ:cE}{fh:List jo}{T sz:Nat}{xs:List (List W)}{cT:Bool}(af:σ.get d=some pQ)(an:pQ.zf=some (e,some (some i,t)))(he:σ.get e=some (.cL fh))
  (b5:σ.get t=some (.slice T sz xs 0 cT)) (mT:σ.get e2=none) (n9:e2∉G.ids) (iD:σ.clean [e2].contains=true) :
  ∃e8,(∀y,y≠e2→e8 y=β y)∧cz G cx I e8 ((e2,.cL (fh.set i (.sl T sz xs)))::(d,pQ.yZ e2 none)::σ.minus [d,e,t]) w:=by
 have cA:∀y,(σ.get y).isSome→y≠e2:=λy ai e=>by subst e;rw[mT]at ai;cases ai
 have tf:=cA d (by rw[af];rfl);have Bg:=cA e (by rw[he];rfl);have anB:=cA t (by rw[b5];rfl);have jY:d≠e:=λcC=>by subst cC;rw[af]at he;cases he;cases an
 have Xb:d≠t:=λcC=>by subst cC;rw[af]at b5;cases b5;cases an
 have amF:e≠t:=λcC=>by subst cC;rw[he]at b5;cases b5
 have xm:∃aR:Value,(pQ.zf=some (e,some (some i,t))→∀e8:Nat→Value,(∀y,y≠e2→e8 y=β y)→e8 e2=aR→bb cx I e8 w d (pQ.yZ e2 none)∧bb cx I e8 w e2 (.cL (fh.set i (.sl T sz xs))))∧∀c∈dA aR,c∈dA (β e)∨c∈dA (β t):=by
  rcases(h.c4 d pQ af).outer an with q|⟨Z,cN,ak,⟨ax,OG,auP⟩,bd,aO⟩
  ·refine⟨.nilFunc,λ_ e8 h1 D=>⟨?_,by simp only[bb];exact .inl D⟩,by simp[OO]⟩;have:e8 d=.nilFunc:=by rw[h1 d tf];exact q
   cases pQ<;>simp only[cE.zf,reduceCtorEq]at an<;>simp only[cE.yZ,bb]<;>exact .inl this
  ·have mS:=h.c4 e _ he;simp only[bb,ak,Value.tuple.injEq,reduceCtorEq,false_or]at mS;obtain⟨gG,rfl,U⟩:=mS;have i4:=av1 (h.c4 t _ b5) OG;refine⟨.tuple (Z.setIfInBounds i (β t)),λ_ e8 h1 D=>⟨?_,?_⟩,λc ah=>?_⟩
   ·refine(h.c4 d pQ af).Th an (h1 d tf) ak D (by simp) λaim nJ=>?_;obtain⟨_,_,nJ⟩:=nJ;show aim=_;rw[nJ];simp
   ·simp only[bb];refine .inr ⟨_,D,?_⟩;rw[show(Z.setIfInBounds i (β t)).toList=Z.toList.set i (β t)by simp];refine U.set i4 λj aR b aY E6 Cl mS=>?_;refine h.ee e t (by rw[he];rfl) (by rw[b5];rfl) amF b ?_ (kL Cl);rw[ak,pW];exact List.mem_filterMap.2 ⟨aR,List.mem_of_getElem? E6,mS⟩
   ·rw[pW,show(Z.setIfInBounds i (β t)).toList=Z.toList.set i (β t)by simp]at ah;rcases JM ah with ah|ah
    ·exact .inl (by rw[ak,pW];exact ah)
    ·exact .inr (kL ah)
 obtain⟨aR,m1,m2⟩:=xm;have eO:∀y,y≠e2→(λy=>if y=e2 then aR else β y) y=β y:=λy ai=>if_neg ai;have qN:(λy=>if y=e2 then aR else β y) e2=aR:=if_pos rfl;refine⟨λy=>if y=e2 then aR else β y,eO,?_⟩;generalize (λy=>if y=e2 then aR else β y)=e8 at eO qN;obtain⟨iR,gP⟩:=m1 an e8 eO qN
 have mL:∀y,y∈[d,e,e2,t]→(ag.get ((e2,.cL (fh.set i (.sl T sz xs)))::(d,pQ.yZ e2 none)::σ.minus [d,e,t]) y).isSome→y=d∨y=e2:=λy ai eg=>by
  rw[r8]at eg;simp only[mem_cons,not_mem_nil,or_false]at ai;rcases ai with rfl|rfl|rfl|rfl
  ·exact .inl rfl
  ·rw[if_neg (Ne.symm Bg),if_neg jY,if_pos (by simp)]at eg;cases eg
  ·exact .inr rfl
  ·rw[if_neg (Ne.symm anB),if_neg Xb,if_pos (by simp)]at eg;cases eg
 have VK:∀c,c∈dA (e8 d)→c∉dA (e8 e2):=λc ah gh=>by
  rw[eO d tf]at ah;rw[qN]at gh;rcases m2 c gh with q|q
  ·exact h.ee d e (by rw[af];rfl) (by rw[he];rfl) jY c ah q
  ·exact h.ee d t (by rw[af];rfl) (by rw[b5];rfl) Xb c ah q
 refine h.G5 (M:=[d,e,e2,t]) (news:=[e2]) (e8:=e8) (λy ai=>?_) (λy ai=>eO y (by simpa using ai)) (λy ai=>by simp only[List.mem_singleton]at ai;subst ai;exact⟨by simp,n9⟩) (λy o _ g5=>(avI iD y o g5).2) (λy ai o g5=>?_) (λy ai eg c ah=>?_) (λy ai z hz mW fc eg c ah gh=>?_)
 ·simp only[mem_cons,not_mem_nil,or_false,not_or]at ai;rw[r8,if_neg (Ne.symm ai.2.2.1),if_neg (Ne.symm ai.1),if_neg (by simp[ai.1,ai.2.1,ai.2.2.2])]
 ·have:=mL y ai (by rw[g5];rfl);rw[r8]at g5;rcases this with rfl|rfl
  ·rw[if_neg (Ne.symm tf),if_pos rfl]at g5;cases g5;exact iR
  ·rw[if_pos rfl]at g5;cases g5;exact gP
 ·rcases mL y ai eg with rfl|rfl
  ·rw[eO y tf]at ah;exact⟨y,by simp,by rw[af];rfl,ah⟩
  ·rw[qN]at ah;rcases m2 c ah with q|q
   ·exact⟨e,by simp,by rw[he];rfl,q⟩
   ·exact⟨t,by simp,by rw[b5];rfl,q⟩
 ·rcases mL y ai fc with rfl|rfl<;>rcases mL z hz eg with rfl|rfl
  ·exact mW rfl
  ·exact VK c ah gh
  ·exact VK c gh ah
  ·exact mW rfl
end take
end
section
def fL{α:Type}(k:IntKind)(l:List (Int×α)):List W:=l.map λp=>.int k p.1
def hR{α:Type}(T:TypeId)(sz:Nat)(enc:α→List W)(l:List (Int×List α)):List jo:=l.map λp=>.sl T sz (p.2.map enc)
def jr{α:Type}:List (Int×α)→Int→Nat
 |[],_=>0
 |p::r,n=>if p.1=n then 0 else jr r n+1
def mF{α:Type}:List (Int×List α)→Int→List (Int×List α)
 |[],_=>[]
 |p::r,n=>if p.1=n then(p.1,[])::r else p::mF r n
def o5{α:Type}(l:List (Int×α))(n:Int)(t:Nat):Option (j4×Nat):=some (bif (az l n).isSome then some (jr l n)else none,t)
variable {α:Type}
def kD(p:Int×α)(r:List (Int×α))(n:Int):az (p::r) n=if p.1=n then some p.2 else az r n:=by
 by_cases h:p.1=n<;>simp[az,List.find?,h]
def QO{α:Type}:∀{l:List (Int×List α)} {n:Int},az l n=none→mF l n=l
 |[],_,_=>rfl
 |p::r,n,h=>by
  rw[kD]at h;split at h
  ·cases h
  ·rename_i aF;simp only[mF,if_neg aF,QO h]
def Rs{α:Type}:∀(l:List (Int×List α)) (n:Int) (v:List α),bH (mF l n) n v=bH l n v
 |[],_,_=>rfl
 |p::r,n,v=>by
  by_cases aF:p.1=n
  ·simp[mF,bH,aF]
  ·simp[mF,bH,aF,Rs r n v]
def QS{α:Type}(k:IntKind):∀(l:List (Int×List α)) (n:Int),fL k (mF l n)=fL k l
 |[],_=>rfl
 |p::r,n=>by
  by_cases aF:p.1=n
  ·simp[mF,aF,fL]
  ·have:=QS k r n;simp only[fL]at this;simp[mF,aF,fL,this]
def QT{α:Type}:∀(l:List (Int×List α)) (n:Int),(az (mF l n) n).isSome=(az l n).isSome
 |[],_=>rfl
 |p::r,n=>by
  by_cases aF:p.1=n
  ·simp[mF,aF,kD]
  ·simp[mF,aF,kD,QT r n]
def Rt{α:Type}:∀(l:List (Int×List α)) (n:Int),jr (mF l n) n=jr l n
 |[],_=>rfl
 |p::r,n=>by
  by_cases aF:p.1=n
  ·simp[mF,aF,jr]
  ·simp[mF,aF,jr,Rt r n]
def aaw(l:List (Int×List α))(n:Int)(t:Nat):o5 (mF l n) n t=o5 l n t:=by simp[o5,QT,Rt]
def PG{α:Type}:∀{l:List (Int×α)} {n:Int} {a:α},az l n=some a→∃m,m=n∧l[jr l n]?=some (m,a)
 |[],_,_,h=>by simp[az]at h
 |p::r,n,a,h=>by
  rw[kD]at h;split at h
  ·rename_i aF;cases h;exact⟨p.1,aF,by simp only[jr,if_pos aF];rfl⟩
  ·rename_i aF;obtain⟨m,h1,D⟩:=PG h;exact⟨m,h1,by simp[jr,aF,D]⟩
def Gr{α:Type}:∀{l:List (Int×α)} {n:Int} {a:α} (v:α),az l n=some a→bH l n v=l.set (jr l n) (n,v)
 |[],_,_,_,h=>by simp[az]at h
 |p::r,n,a,v,h=>by
  rw[kD]at h;split at h
  ·rename_i aF;simp[bH,jr,aF]
  ·rename_i aF;simp[bH,jr,aF,Gr v h]
def Pu{α:Type}:∀{l:List (Int×α)} {n:Int} (v:α),az l n=none→bH l n v=l++[(n,v)]
 |[],_,_,_=>rfl
 |p::r,n,v,h=>by
  rw[kD]at h;split at h
  ·cases h
  ·rename_i aF;simp[bH,aF,Pu v h]
def Pv{α:Type}:∀{l:List (Int×List α)} {n:Int} {a:List α},az l n=some a→mF l n=l.set (jr l n) (n,[])
 |[],_,_,h=>by simp[az]at h
 |p::r,n,a,h=>by
  rw[kD]at h;split at h
  ·rename_i aF;simp[mF,jr,aF]
  ·rename_i aF;simp[mF,jr,aF,Pv h]
def Kw{T:TypeId}{sz:Nat}{enc:α→List W}(l:List (Int×List α))(i:Nat)(n:Int)(v:List α):hR T sz enc (l.set i (n,v))=(hR T sz enc l).set i (.sl T sz (v.map enc)):=by simp[hR,List.map_set]
def Ru{k:IntKind}{l:List (Int×α)}{n:Int}{a:α}(v:α)(h:az l n=some a):fL k (l.set (jr l n) (n,v))=fL k l:=by
 obtain⟨m,rfl,D⟩:=PG h;simp only[fL,List.map_set];apply List.ext_getElem?;intro j;rw[List.getElem?_set];split
 ·rename_i aY;subst aY;rw[List.getElem?_map,D];split
  ·rfl
  ·rename_i bS;exact absurd (by simpa using (List.getElem?_eq_some_iff.1 D).1) bS
 ·rfl
def O1{I:bG}{α:Type}{k:IntKind}(n:Int):∀(l:List (Int×α)) (vs:dQ) (es:nc) (i:Nat) (a:α),mj I (fL k l) vs es→az l n=some a→
  ∃v e,vs[jr l n]?=some v∧es[jr l n]?=some e∧e.key=.int k n∧Instr.findNow (.int k) (.int k n) es i=some (some (i+jr l n,v))∧
   ∀(aR:Value) (jw:MapEntry→MapEntry),(∀e,(jw e).key=.int k n∧(jw e).val=aR)→mj I (fL k l) (vs.set (jr l n) aR) (es.modify (jr l n) jw)
 |[],vs,es,i,a,h,bw=>by simp[az]at bw
 |(m,b)::r,vs,es,i,a,h,bw=>by
  simp only[fL,map_cons,mj]at h;obtain⟨v,us,e,jD,rfl,rfl,aq,aZ,bV⟩:=h;simp only[bm]at aq;rw[kD]at bw;by_cases hm:m=n
  ·subst hm;simp only[jr,if_true];refine⟨v,e,rfl,rfl,aq,by simp[Instr.findNow,Instr.sameNow,aq,aZ],λaR jw hk=>?_⟩;simp only[fL,map_cons,set_cons_zero,modify_zero_cons,mj];exact⟨aR,us,jw e,jD,rfl,rfl,by simp only[bm];exact(hk e).1,(hk e).2,bV⟩
  ·rw[if_neg hm]at bw;obtain⟨dM,cC,ak,ax,aO,aL,bg⟩:=O1 n r us jD (i+1) a bV bw;simp only[jr,if_neg hm];refine⟨dM,cC,by simpa using ak,by simpa using ax,aO,?_,λaR jw hk=>?_⟩
   ·simp only[Instr.findNow,Instr.sameNow,aq,if_pos];have:(n==m)=false:=by simpa using λe=>hm e.symm
    rw[this];simp only;rw[aL];simp[Nat.add_assoc,Nat.add_comm 1]
   ·simp only[fL,map_cons,set_cons_succ,modify_succ_cons,mj];exact⟨v,_,e,_,rfl,rfl,by simp only[bm];exact aq,aZ,bg aR jw hk⟩
def O8{I:bG}{α:Type}{k:IntKind}(n:Int):∀(l:List (Int×α)) (vs:dQ) (es:nc) (i:Nat),mj I (fL k l) vs es→az l n=none→
  Instr.findNow (.int k) (.int k n) es i=some none∧∀(b:α) (e:MapEntry),e.key=.int k n→mj I (fL k (l++[(n,b)])) (vs++[e.val]) (es++[e])
 |[],vs,es,i,h,bw=>by
  simp only[fL,map_nil,mj]at h;obtain⟨rfl,rfl⟩:=h;refine⟨rfl,λb e hk=>?_⟩;simp only[nil_append,fL,map_cons,map_nil,mj];exact⟨e.val,[],e,[],rfl,rfl,by simp only[bm];exact hk,rfl,rfl,rfl⟩
 |(m,c)::r,vs,es,i,h,bw=>by
  simp only[fL,map_cons,mj]at h;obtain⟨v,us,e,jD,rfl,rfl,aq,aZ,bV⟩:=h;simp only[bm]at aq;rw[kD]at bw;have hm:m≠n:=λhm=>by rw[if_pos hm]at bw;cases bw
  rw[if_neg hm]at bw;obtain⟨ak,ax⟩:=O8 n r us jD (i+1) bV bw;refine⟨?_,λb cC hk=>?_⟩
  ·simp only[Instr.findNow,Instr.sameNow,aq,if_pos];have:(n==m)=false:=by simpa using λe=>hm e.symm
   rw[this];exact ak
  ·have:=ax b cC hk;simp only[fL]at this;simp only[fL,cons_append,map_cons,mj];exact⟨v,_,e,_,rfl,rfl,by simp only[bm];exact aq,aZ,this⟩
def mj.length{I:bG}:∀{ks:List W} {vs:dQ} {es:nc},mj I ks vs es→vs.length=ks.length∧es.length=ks.length
 |[],_,_,h=>by obtain⟨rfl,rfl⟩:=h;exact⟨rfl,rfl⟩
 |k::ks,_,_,h=>by
  obtain⟨v,us,e,jD,rfl,rfl,_,_,bV⟩:=h;have:=bV.length;simp[this.1,this.2]
section
variable {G:cR}{σ:ag}{o:Oper}{ev:Operand→W}
def axR{α:Type}{js:Option (ia×Nat)}{T K E d e e2 t be sz:Nat}{k:IntKind}{x y:Operand}{n:Int}(l:List (Int×List α))(enc:α→List W)(h:o.op=.lookup T x y false)(u:ev x=.dm d)(ai:ev y=.int k n)
  (af:σ.get d=some (.fQ K E e (fL k l) none js)) (he:σ.get e=some (.cL (hR be sz enc l))) (aT:k4 G.P T K E k) (hz:∀w,(zeroValue E).run G.P w=.ok (.slice none 0 0) w)
  (b5:σ.get t=none) (mT:σ.get e2=none) (Aj:t≠e2) (Fg:G.ids.contains t=false) (n9:G.ids.contains e2=false) (iD:σ.clean [t,e2].contains=true) :
  i2 G o ev σ [d,e,e2,t] [t,e2] (λr aH=>r=.own t∧aH=(t,.slice be sz (((az l n).getD []).map enc) 0 false)::(e2,.cL (hR be sz enc (mF l n)))::(d,.fQ K E e2 (fL k l) (o5 l n t) js)::σ.minus [d,e]):=by
 intro cx I β w bn av hop;have h1:=hop x (by simp[h,Op.operands]);rw[u]at h1
 have D:=hop y (by simp[h,Op.operands]);rw[ai]at D;have D:=kY D
 simp only[aC]at h1;obtain⟨h1,rL⟩:=h1;have iI:β d≠.nilFunc:=λe=>by rw[h1,e]at rL;simp[nV]at rL
 have uR:=av.c4 d _ af;simp only[bb,iI,false_or]at uR;obtain⟨r,es,clock,Z,cN,ak,ax,aO,aL,bg,bI,b7,cD⟩:=uR;rw[show cN=Z.toList from aL]at bg;have aK:∀w,(underlying T).run G.P w=.ok (.map K E) w:=λw=>by simp[underlying,program,Sem.run,aT.gT]
 have wM:∀w,(underlying K).run G.P w=.ok (.int k) w:=λw=>by simp[underlying,program,Sem.run,aT.key]
 have dj:=w6 (P:=G.P) ax;have fF:=CL (P:=G.P) aT.key (es.isEmpty) n w;have VL:t∉G.ids:=by simpa using Fg
 have zh:e2∉G.ids:=by simpa using n9
 have nL:∀x,x∉[d,e,e2,t]→∀(vU bc F6:cE),ag.get ((t,vU)::(e2,bc)::(d,F6)::σ.minus [d,e]) x=σ.get x:=λx u vU bc F6=>by
  simp only[mem_cons,not_mem_nil,or_false,not_or]at u;rw[zg,if_neg (Ne.symm u.2.2.2),if_neg (Ne.symm u.2.2.1),if_neg (Ne.symm u.1),if_neg (by simp[u.1,u.2.1])]
 cases bw:az l n with
 |some a=>
  obtain⟨v,cC,de,ew,e1,iS,_⟩:=O1 n l Z.toList es.toList 0 a bg bw;obtain⟨m,hm,Xz⟩:=PG bw;have i4:(hR be sz enc l)[jr l n]?=some (.sl be sz (a.map enc)):=by simp[hR,Xz]
  obtain⟨eg,dc,gz,dg,gx,mh⟩:=av.take af rfl he i4 iI b5 mT Aj VL zh iD;rw[aO]at dc;cases dc
  have aa:gz=v:=by
   have:Z.toList[jr l n]?=some gz:=by simpa using dg
   rw[this]at de;exact Option.some.inj de
  subst aa;have g3:(Instr.findKey K (.int k n) es.toList).run G.P w=.ok (some (0+jr l n,gz)) w:=by simp[Instr.findKey,wM,iS]
  have eV:(execOp bn o).run G.P w=.ok (.value gz) w:=by simp[execOp,h,Instr.lookup,h1,ak,D,aK,dj,fF,g3]
  rw[eV];refine⟨.own t,_,I,λy=>if y=t then gz else if y=e2 then .tuple (Z.setIfInBounds (jr l n) (.slice none 0 0))else β y,⟨rfl,rfl⟩,?_,?_,cV.refl I,λy ai=>?_,λy ai=>nL y ai _ _ _⟩
  ·simp only[aC,if_true];refine⟨trivial,?_⟩;rcases gx with⟨q,_⟩|⟨b,aV,arr,q,_⟩<;>rw[q]<;>rfl
  ·have b0:o5 l n t=some (some (jr l n),t):=by simp[o5,bw]
   rw[b0,Pv bw,Kw];exact mh
  ·simp only[mem_cons,not_mem_nil,or_false,not_or]at ai;simp only[if_neg ai.1,if_neg ai.2]
 |none=>
  obtain⟨de,_⟩:=O8 n l Z.toList es.toList 0 bg bw;have g3:(Instr.findKey K (.int k n) es.toList).run G.P w=.ok none w:=by simp[Instr.findKey,wM,de]
  have eV:(execOp bn o).run G.P w=.ok (.value (.slice none 0 0)) w:=by simp[execOp,h,Instr.lookup,h1,ak,D,aK,dj,fF,g3,hz w]
  rw[eV]
  let e8:Nat→Value:=λy=>if y=t then .slice none 0 0 else if y=e2 then β e else β y
  have ss:e8 t=.slice none 0 0:=by show(if _ then _ else _)=_;rw[if_pos rfl]
  have lH:e8 e2=β e:=by show(if _ then _ else _)=_;rw[if_neg (Ne.symm Aj),if_pos rfl]
  have dY:∀y,y∉[t,e2]→e8 y=β y:=λy ai=>by
   simp only[mem_cons,not_mem_nil,or_false,not_or]at ai;show(if _ then _ else _)=_;rw[if_neg ai.1,if_neg ai.2]
  have cA:∀y,(σ.get y).isSome→y≠t∧y≠e2:=λy ai=>⟨λe=>(by subst e;rw[b5]at ai;cases ai),λe=>(by subst e;rw[mT]at ai;cases ai)⟩;have tf:=cA d (by rw[af];rfl);have Bg:=cA e (by rw[he];rfl);have jY:d≠e:=λcC=>by subst cC;rw[af]at he;cases he
  have mu:e8 d=β d:=dY d (by simp[tf.1,tf.2]);have b0:o5 l n t=some (none,t):=by simp[o5,bw]
  refine⟨.own t,_,I,e8,⟨rfl,rfl⟩,by simp only[aC,ss,i1,and_self],?_,cV.refl I,dY,λy ai=>nL y ai _ _ _⟩;rw[b0,QO bw];simp only[Option.getD_none,map_nil]
  have mL:∀y,y∈[d,e,e2,t]→(ag.get ((t,cE.slice be sz [] 0 false)::(e2,.cL (hR be sz enc l))::(d,.fQ K E e2 (fL k l) (some (none,t)) js)::σ.minus [d,e]) y).isSome→y=d∨y=e2∨y=t:=λy ai eg=>by
   rw[zg]at eg;simp only[mem_cons,not_mem_nil,or_false]at ai;rcases ai with rfl|rfl|rfl|rfl
   ·exact .inl rfl
   ·rw[if_neg (Ne.symm Bg.1),if_neg (Ne.symm Bg.2),if_neg jY,if_pos (by simp)]at eg;cases eg
   ·exact .inr (.inl rfl)
   ·exact .inr (.inr rfl)
  have Bh:∀c,c∈dA (β d)→c∉dA (β e):=av.ee d e (by rw[af];rfl) (by rw[he];rfl) jY;refine av.G5 (M:=[d,e,e2,t]) (news:=[t,e2]) (e8:=e8) (λy ai=>nL y ai _ _ _) dY (λy ai=>?_) (λy o _ g5=>(avI iD y o g5).2) (λy ai o g5=>?_) (λy ai eg c ah=>?_) (λy ai z hz mW fc eg c ah gh=>?_)
  ·simp only[mem_cons,not_mem_nil,or_false]at ai;rcases ai with rfl|rfl
   ·exact⟨by simp,VL⟩
   ·exact⟨by simp,zh⟩
  ·have:=mL y ai (by rw[g5];rfl);rw[zg]at g5;rcases this with rfl|rfl|rfl
   ·rw[if_neg (Ne.symm tf.1),if_neg (Ne.symm tf.2),if_pos rfl]at g5;cases g5
    simp only[bb,mu,lH];exact .inr ⟨r,es,clock,Z,Z.toList,ak,ax,aO,rfl,bg,bI,b7,cD⟩
   ·rw[if_neg Aj,if_pos rfl]at g5;cases g5
    have:=av.c4 e _ he;simp only[bb,lH]at this ⊢;exact this
   ·rw[if_pos rfl]at g5;cases g5
    simp only[bb,ss];exact .inr (.inl ⟨trivial,trivial,trivial⟩)
  ·rcases mL y ai eg with rfl|rfl|rfl
   ·rw[mu]at ah;exact⟨y,by simp,by rw[af];rfl,ah⟩
   ·rw[lH]at ah;exact⟨e,by simp,by rw[he];rfl,ah⟩
   ·rw[ss]at ah;cases ah
  ·rcases mL y ai fc with rfl|rfl|rfl<;>rcases mL z hz eg with rfl|rfl|rfl
   ·exact mW rfl
   ·rw[mu]at ah;rw[lH]at gh;exact Bh c ah gh
   ·rw[ss]at gh;cases gh
   ·rw[mu]at gh;rw[lH]at ah;exact Bh c gh ah
   ·exact mW rfl
   ·rw[ss]at gh;cases gh
   ·rw[ss]at ah;cases ah
   ·rw[ss]at ah;cases ah
   ·exact mW rfl
end
end
section
section put
variable {G:cR}{cx:fO}{I:bG}{β:Nat→Value}{σ:ag}{w:World}
def cz.aiR(h:cz G cx I β σ w){d e e2 r K E lY:Nat}{keys xg:List W}{dk:Option (j4×Nat)}{js:Option (ia×Nat)}{fh wO:List jo}{mK:dI}{gG:jc}{hA:ia}{w':World}
  (af:σ.get d=some (.fQ K E e keys dk js)) (he:σ.get e=some (.cL fh)) (aI:β d=.map (some r)) (mT:σ.get e2=none) (n9:e2∉G.ids) (iD:σ.clean [e2].contains=true) (amv:d∉mK)
  (hk:g1 w w' r) (fU:w'.heap[r]?=some (.map hA lY)) (U:ko cx I w wO gG.toList) (IA:mj I xg gG.toList hA.toList) (c1:km hA lY)
  (ob:∀c∈gG.toList.filterMap cb,c∈dA (β e)∨∃y∈mK,(σ.get y).isSome∧c∈dA (β y)) :
  cz G cx I (λy=>if y=e2 then .tuple gG else β y) ((e2,.cL wO)::(d,.fQ K E e2 xg none none)::σ.minus (d::e::mK)) w':=by
 have uR:=h.c4 d _ af;simp only[bb,aI,reduceCtorEq,false_or]at uR;obtain⟨r',es,clock,Z,cN,ak,ax,aO,aL,bg,bI,b7,cD,_⟩:=uR;cases ak;have ml:(σ.get d).isSome:=by rw[af];rfl
 have kQ:(σ.get e).isSome:=by rw[he];rfl
 have cA:∀y,(σ.get y).isSome→y≠e2:=λy ai e=>by subst e;rw[mT]at ai;cases ai
 have jY:d≠e:=λcC=>by subst cC;rw[af]at he;cases he
 have NR:r∈dA (β d):=kL (by rw[aI];rfl)
 have tP:∀c∈gG.toList.filterMap cb,c≠r:=λc ah e=>by
  subst e;rcases ob c ah with q|⟨y,j8,DY,G3⟩
  ·exact h.ee d e ml kQ jY c NR q
  ·exact h.ee d y ml DY (λe=>amv (e▸j8)) c NR G3
 have eO:∀y,y≠e2→(λy=>if y=e2 then(Value.tuple gG)else β y) y=β y:=λy ai=>if_neg ai;have qN:(λy=>if y=e2 then(Value.tuple gG)else β y) e2=.tuple gG:=if_pos rfl;generalize (λy=>if y=e2 then(Value.tuple gG)else β y)=e8 at eO qN;have mu:e8 d=β d:=eO d (cA d ml)
 have mL:∀y,y∈d::e::e2::mK→∀o,(ag.get ((e2,.cL wO)::(d,.fQ K E e2 xg none none)::σ.minus (d::e::mK)) y)=some o→(y=d∧o=.fQ K E e2 xg none none)∨(y=e2∧o=.cL wO):=λy ai o an=>by
  rw[r8]at an;split at an
  ·rename_i cC;exact .inr ⟨cC.symm,(Option.some.inj an).symm⟩
  ·rename_i hh;split at an
   ·rename_i cC;exact .inl ⟨cC.symm,(Option.some.inj an).symm⟩
   ·split at an
    ·cases an
    ·rename_i hp xu;simp only[mem_cons,not_or]at ai xu;rcases ai with rfl|rfl|rfl|ai
     ·exact absurd rfl hp
     ·exact absurd rfl xu.2.1
     ·exact absurd rfl hh
     ·exact absurd ai xu.2.2
 have zG:∀y,y∈d::e::e2::mK→(ag.get ((e2,.cL wO)::(d,.fQ K E e2 xg none none)::σ.minus (d::e::mK)) y).isSome→y=d∨y=e2:=λy ai Z=>by
  obtain⟨o,an⟩:=Option.isSome_iff_exists.1 Z;rcases mL y ai o an with q|q
  ·exact .inl q.1
  ·exact .inr q.1
 have IY:∀c,c∈dA (e8 e2)→c∈dA (β e)∨∃y∈mK,(σ.get y).isSome∧c∈dA (β y):=λc ah=>ob c (by rw[qN]at ah;exact ah)
 have Gu:∀c,c∈dA (e8 d)→c∉dA (e8 e2):=λc ah gh=>by
  rw[mu,aI]at ah;have:c=r:=by simpa [dA,cb]using ah
  exact tP c (by rw[qN]at gh;exact gh) this
 refine h.redo (M:=d::e::e2::mK) (news:=[e2]) (b:=r) (e8:=e8) hk bI (λy ai Z cC=>?_) b7 (λy ai=>?_) (λy ai=>eO y (by simpa using ai)) (λy ai=>?_) (λy o _ g5=>(avI iD y o g5).2) (λy ai o g5=>?_) (λy ai eg c ah=>?_) (λy ai z hz mW fc eg c ah gh=>?_)
 ·exact h.ee d y ml Z (λe=>ai (by simp[e])) r NR cC
 ·simp only[mem_cons,not_or]at ai;rw[r8,if_neg (Ne.symm ai.2.2.1),if_neg (Ne.symm ai.1),if_neg (by simp[ai.1,ai.2.1,ai.2.2.2])]
 ·simp only[List.mem_singleton]at ai;subst ai;exact⟨by simp,n9⟩
 ·rcases mL y ai o g5 with⟨rfl,rfl⟩|⟨rfl,rfl⟩
  ·simp only[bb,mu,aI,qN];exact .inr ⟨r,hA,lY,gG,gG.toList,rfl,fU,rfl,rfl,IA,bI,b7,c1,by simp⟩
  ·simp only[bb];exact .inr ⟨gG,qN,U.go (cV.refl I) λc ah=>⟨λbS=>hk.block c (tP c ah) bS,λ_=>rfl,id⟩⟩
 ·rcases zG y ai eg with rfl|rfl
  ·rw[mu]at ah;exact⟨y,by simp,ml,ah⟩
  ·rcases IY c ah with q|⟨y,j8,DY,G3⟩
   ·exact⟨e,by simp,kQ,q⟩
   ·exact⟨y,by simp[j8],DY,G3⟩
 ·rcases zG y ai fc with rfl|rfl<;>rcases zG z hz eg with rfl|rfl
  ·exact mW rfl
  ·exact Gu c ah gh
  ·exact Gu c gh ah
  ·exact mW rfl
end put
section
variable {G:cR}{σ:ag}{o:Oper}{ev:Operand→W}
def awQ{α:Type}{T K E d e e2 be sz:Nat}{k:IntKind}{x y z:Operand}{n:Int}{cT:Bool}{js:Option (ia×Nat)}{dk:Option (j4×Nat)}(mK:dI)(l:List (Int×List α))(enc:α→List W)(row:List α)(h:o.op=.mapUpdate T x y z∨o.op=.insert T x y z)(u:ev x=.dm d)(ai:ev y=.int k n)
  (hz:(ev z=.c6∧row=[]∧mK=[])∨∃j,ev z=.own j∧σ.get j=some (.slice be sz (row.map enc) 0 cT)∧mK=[j])
  (af:σ.get d=some (.fQ K E e (fL k l) dk js)) (b0:dk=none∨∃t,dk=o5 l n t) (he:σ.get e=some (.cL (hR be sz enc l))) (aT:k4 G.P T K E k)
  (mT:σ.get e2=none) (n9:G.ids.contains e2=false) (iD:σ.clean [e2].contains=true) :
  i2 G o ev σ (d::e::e2::mK) [e2] (λr aH=>r=.undef∧aH=(e2,.cL (hR be sz enc (bH l n row)))::(d,.fQ K E e2 (fL k (bH l n row)) none none)::σ.minus (d::e::mK)):=by
 intro cx I β w bn av hop;have kG:x∈o.op.operands∧y∈o.op.operands∧z∈o.op.operands:=by rcases h with h|h<;>simp[h,Op.operands]
 have h1:=hop x kG.1;rw[u]at h1
 have D:=hop y kG.2.1;rw[ai]at D;have D:=kY D
 have aq:=hop z kG.2.2;simp only[aC]at h1;obtain⟨h1,rL⟩:=h1;have iI:β d≠.nilFunc:=λe=>by rw[h1,e]at rL;simp[nV]at rL
 have uR:=av.c4 d _ af;simp only[bb,iI,false_or]at uR;obtain⟨r,es,clock,Z,cN,ak,ax,aO,aL,bg,bI,b7,cD,_⟩:=uR;have mS:=av.c4 e _ he;simp only[bb,aO,Value.tuple.injEq,reduceCtorEq,false_or]at mS;obtain⟨gG,rfl,U⟩:=mS;have aa:l8 cx I w (.sl be sz (row.map enc)) (bn z)∧(∀c,cb (bn z)=some c→∃y∈mK,(σ.get y).isSome∧c∈dA (β y))∧d∉mK∧e∉mK:=by
  rcases hz with⟨hz,rfl,rfl⟩|⟨j,hz,aY,rfl⟩
  ·rw[hz]at aq;simp only[aC,bm]at aq;rw[aq];exact⟨Or.inl ⟨rfl,rfl⟩,λc (ah:none=some c)=>(by cases ah),by simp,by simp⟩
  ·rw[hz]at aq;simp only[aC]at aq;obtain⟨aq,sD⟩:=aq;rw[aq];refine⟨av1 (av.c4 j _ aY) λe=>(by rw[aq,e]at sD;cases sD),λc ah=>⟨j,by simp,by rw[aY];rfl,kL ah⟩,λhm=>?_,λhm=>?_⟩
   ·rw[List.mem_singleton.1 hm,aY]at af;cases af
   ·rw[List.mem_singleton.1 hm,aY]at he;cases he
 obtain⟨ej,gz,v3,v4⟩:=aa
 have DB:∀aR b,aR∈Z.toList→cb (bn z)=some b→cb aR≠some b:=λaR b hu E2 mS=>by
  obtain⟨y,j8,DY,G3⟩:=gz b E2;refine av.ee e y (by rw[he];rfl) DY (λe=>v4 (e▸j8)) b ?_ G3;rw[aO,pW];exact List.mem_filterMap.2 ⟨aR,hu,mS⟩
 have zh:e2∉G.ids:=by simpa using n9
 have aK:∀w,(underlying T).run G.P w=.ok (.map K E) w:=λw=>by simp[underlying,program,Sem.run,aT.gT]
 have wM:∀w,(underlying K).run G.P w=.ok (.int k) w:=λw=>by simp[underlying,program,Sem.run,aT.key]
 have dj:=w6 (P:=G.P) ax;have fF:=CL (P:=G.P) aT.key false n w;have h8:∀bc:Obj,(setObj r bc).run G.P w=.ok () {w with heap:=w.heap.setIfInBounds r bc}:=λbc=>by simp[setObj,Sem.run,ax]
 have z8:∀bc:Obj,({w with heap:=w.heap.setIfInBounds r bc}:World).heap[r]?=some bc:=λbc=>by have:=hQ ax;simp[Array.getElem?_setIfInBounds,this]
 have fin:∀(eg:jc) (wO:List jo) (xg:List W) (hA:ia) (lY:Nat),wO=hR be sz enc (bH l n row)→xg=fL k (bH l n row)→
   (execOp bn o).run G.P w=.ok .skip {w with heap:=w.heap.setIfInBounds r (.map hA lY)}→ko cx I w wO eg.toList→mj I xg eg.toList hA.toList→km hA lY→
   (∀c∈eg.toList.filterMap cb,c∈Z.toList.filterMap cb∨cb (bn z)=some c)→
   pN G.P (λv w'=>∃b9,∃aH:ag,∃bq β',(b9=.undef∧aH=(e2,.cL (hR be sz enc (bH l n row)))::(d,.fQ K E e2 (fL k (bH l n row)) none none)::σ.minus (d::e::mK))∧aC bq β' b9 v∧cz G cx bq β' aH w'∧cV I bq∧(∀d,d∉[e2]→β' d=β d)∧(∀x,x∉d::e::e2::mK→aH.get x=σ.get x)) ((execOp bn o).run G.P w):=by
  intro eg wO xg hA lY de ew e1 iS pe aos aot;subst de ew;rw[e1]
  have:=av.aiR af he ak mT zh iD v3 (avO w r (.map hA lY)) (z8 _) iS pe aos λc ah=>by
   rcases aot c ah with q|q
   ·exact .inl (by rw[aO,pW];exact q)
   ·exact .inr (gz c q)
  refine⟨.undef,_,I,_,⟨rfl,rfl⟩,by simp[aC,bm],this,cV.refl I,λy ai=>if_neg (by simpa using ai),λy ai=>?_⟩;simp only[mem_cons,not_or]at ai;rw[r8,if_neg (Ne.symm ai.2.2.1),if_neg (Ne.symm ai.1),if_neg (by simp[ai.1,ai.2.1,ai.2.2.2])]
 cases bw:az l n with
 |none=>
  have nJ:cN=Z.toList:=by
   rcases b0 with rfl|⟨t,rfl⟩
   ·exact aL
   ·simp only[o5,bw,Option.isSome_none,cond_false]at aL;exact aL
  rw[nJ]at bg;obtain⟨de,ew⟩:=O8 n l Z.toList es.toList 0 bg bw;have g3:(Instr.findKey K (.int k n) es.toList).run G.P w=.ok none w:=by simp[Instr.findKey,wM,de]
  refine fin (Z.push (bn z)) (hR be sz enc l++[.sl be sz (row.map enc)]) (fL k (l++[(n,row)])) (es.push ⟨.int k n,bn z,clock⟩) (clock+1) ?_ ?_ ?_ ?_ ?_ ?_ ?_
  ·rw[Pu row bw];simp[hR]
  ·rw[Pu row bw]
  ·rcases h with h|h<;>simp[execOp,h,Instr.mapUpdate,h1,ak,D,aK,dj,fF,g3,h8]
  ·simp only[Array.toList_push];exact U.push ej DB
  ·simp only[Array.toList_push];exact ew row ⟨.int k n,bn z,clock⟩ rfl
  ·exact cD.push _ _
  ·intro c ah;simp only[Array.toList_push,List.filterMap_append,List.mem_append]at ah;rcases ah with ah|ah
   ·exact .inl ah
   ·obtain⟨aR,hu,nt⟩:=List.mem_filterMap.1 ah;rw[List.mem_singleton.1 hu]at nt;exact .inr nt
 |some a=>
  obtain⟨dM,cC,de,ew,e1,iS,pe⟩:=O1 n l cN es.toList 0 a bg bw;have g3:(Instr.findKey K (.int k n) es.toList).run G.P w=.ok (some (0+jr l n,dM)) w:=by simp[Instr.findKey,wM,iS]
  have jy:es[jr l n]?=some cC:=by simpa using ew
  have ow:(Instr.keyThatStays (.int k n) (.int k n)).run G.P w=.ok (.int k n) w:=by simp[Instr.keyThatStays,Instr.sameBits]
  have nJ:cN.set (jr l n) (bn z)=Z.toList.set (jr l n) (bn z):=by
   rcases b0 with rfl|⟨t,rfl⟩
   ·rw[show cN=Z.toList from aL]
   ·simp only[o5,bw,Option.isSome_some,cond_true]at aL;obtain⟨_,_,aL⟩:=aL;rw[aL,List.set_set]
  have jh:(Z.setIfInBounds (jr l n) (bn z)).toList=Z.toList.set (jr l n) (bn z):=by simp
  have pF:=pe (bn z) (λe=>{e with key:=.int k n,val:=bn z}) (λe=>⟨rfl,rfl⟩);rw[nJ]at pF;refine fin (Z.setIfInBounds (jr l n) (bn z)) ((hR be sz enc l).set (jr l n) (.sl be sz (row.map enc))) (fL k l) (es.modify (jr l n) λe=>{e with key:=.int k n,val:=bn z}) clock ?_ ?_ ?_ ?_ ?_ ?_ ?_
  ·rw[Gr row bw,Kw]
  ·rw[Gr row bw,Ru row bw]
  ·rcases h with h|h<;>simp[execOp,h,Instr.mapUpdate,h1,ak,D,aK,dj,fF,g3,h8,jy,e1,ow]
  ·rw[jh];exact U.set ej λj aR b _ E6 E2=>DB aR b (List.mem_of_getElem? E6) E2
  ·rw[jh];simpa using pF
  ·exact cD.modify _ _ λ_=>rfl
  ·intro c ah;rw[jh]at ah;exact JM ah
end
end
section
section imms
variable {cx:fO}{I:bG}{β:Nat→Value}{w:World}
def bb.Vy{bq:bG}{d:Nat}{o:cE}(hle:cV I bq)(Xx:∀b∈dA (β d),∀o,bq b o=I b o)(gI:bb cx I β w d o):bb cx bq β w d o:=by
 have jH:∀aS o,cb (β d)=some aS→bq aS o=I aS o:=λaS o ic=>Xx aS (kL ic) o;cases o with
 |cL fh=>
  simp only[bb]at gI ⊢;rcases gI with q|⟨Z,ak,ax⟩
  ·exact .inl q
  ·exact .inr ⟨Z,ak,ax.go hle λaS ic=>⟨λ_=>rfl,Xx aS (by rw[ak];exact ic),id⟩⟩
 |hU T xs t=>
  simp only[bb]at gI ⊢;rcases gI with q|⟨aS,aV,arr,ak,ax,aO,aL,bg,bI,b7,cD,dz,dT,fG⟩
  ·exact .inl q
  ·exact .inr ⟨aS,aV,arr,ak,ax,aO,aL,bg,ni hle _ _ bI,b7,cD,dz,λo=>by rw[jH aS o (by rw[ak];rfl)];exact dT o,fG⟩
 |vec T xs=>
  simp only[bb]at gI ⊢;rcases gI with q|⟨aS,arr,ak,ax,aO,aL,bg⟩
  ·exact .inl q
  ·exact .inr ⟨aS,arr,ak,ax,aO,λo=>by rw[jH aS o (by rw[ak];rfl)];exact aL o,bg⟩
 |kE es clock bL seen=>
  simp only[bb]at gI ⊢;rcases gI with q|⟨r,gd,ak,ax,aO,aL,bg,bI,b7⟩
  ·exact .inl q
  ·exact .inr ⟨r,gd,ak,ax,hle _ _ _ aO,n1 hle _ _ aL,bg,λo=>by rw[jH r o (by rw[ak];rfl)];exact bI o,b7⟩
 |e9 T e n dk=>
  simp only[bb]at gI ⊢;rcases gI with q|⟨aS,aV,arr,Z,ak,ax,aO,aL,bg,bI,b7,cD,dz,dT⟩
  ·exact .inl q
  ·exact .inr ⟨aS,aV,arr,Z,ak,ax,aO,aL,bg,bI,b7,cD,λo=>by rw[jH aS o (by rw[ak];rfl)];exact dz o,dT⟩
 |iF T sz xs lZ e dk=>
  simp only[bb]at gI ⊢;rcases gI with q|⟨aS,aV,arr,Z,vs,ak,ax,aO,aL,bg,bI,b7,cD,dz,dT⟩
  ·exact .inl q
  ·exact .inr ⟨aS,aV,arr,Z,vs,ak,ax,aO,aL,bg,bI,b7,⟨ni hle _ _ cD.1,cD.2⟩,λo=>by rw[jH aS o (by rw[ak];rfl)];exact dz o,dT⟩
 |fQ K E e keys dk js=>
  simp only[bb]at gI ⊢;rcases gI with q|⟨r,es,clock,Z,cN,ak,ax,aO,aL,bg,bI,b7,cD⟩
  ·exact .inl q
  ·exact .inr ⟨r,es,clock,Z,cN,ak,ax,aO,aL,bg.mono hle,λo=>by rw[jH r o (by rw[ak];rfl)];exact bI o,b7,cD⟩
 |cells T cs=>
  simp only[bb]at gI ⊢;rcases gI with q|⟨aS,pO,ak,ax,aO,aL,bg⟩
  ·exact .inl q
  ·exact .inr ⟨aS,pO,ak,ax,vP hle (h5.refl _) _ _ aO,λo=>by rw[jH aS o (by rw[ak];rfl)];exact aL o,bg⟩
 |slice be iU kU er alO=>
  simp only[bb]at gI ⊢;rcases gI with q|q|⟨aS,nh,pO,ak,ax,aO,aL,bg,bI,b7,cD,dz,dT,fG⟩
  ·exact .inl q
  ·exact .inr (.inl q)
  ·have cA:cb (β d)=some aS:=by rw[ak];rfl
   exact .inr (.inr ⟨aS,nh,pO,ak,ax,aO,aL,bg,ni hle _ _ bI,b7,cD,λhz o an=>by rw[jH aS o cA];exact dz hz o an,λo an=>by rw[jH aS o cA];exact dT o an,fG⟩)
 |win be iU kU=>
  simp only[bb]at gI ⊢;rcases gI with q|q|⟨aS,hT,nh,pO,ak,ax,aO,aL,bg,bI,b7,cD,dz⟩
  ·exact .inl q
  ·exact .inr (.inl q)
  ·have cA:cb (β d)=some aS:=by rw[ak];rfl
   exact .inr (.inr ⟨aS,hT,nh,pO,ak,ax,aO,aL,bg,Ax hle _ _ _ bI,b7,λhz o an=>by rw[jH aS o cA];exact cD hz o an,dz⟩)
 |map K E bL=>
  simp only[bb]at gI ⊢;rcases gI with q|⟨r,es,clock,ak,ax,aO,aL,bg⟩
  ·exact .inl q
  ·exact .inr ⟨r,es,clock,ak,ax,n1 hle _ _ aO,λo=>by rw[jH r o (by rw[ak];rfl)];exact aL o,bg⟩
 |k3 K E bL=>
  simp only[bb]at gI ⊢;rcases gI with q|⟨r,es,clock,ak,ax,aO,aL⟩
  ·exact .inl q
  ·exact .inr ⟨r,es,clock,ak,hle _ _ _ ax,n1 hle _ _ aO,aL⟩
 |hM es clock K E bL=>
  simp only[bb]at gI ⊢;rcases gI with q|⟨r,ak,ax,aO,aL,bg⟩
  ·exact .inl q
  ·exact .inr ⟨r,ak,ax,n1 hle _ _ aO,λo=>by rw[jH r o (by rw[ak];rfl)];exact aL o,bg⟩
 |iter cW si kX seen=>
  simp only[bb]at gI ⊢;rcases gI with q|⟨r,gd,ak,ax,aO,aL,bg⟩
  ·exact .inl q
  ·exact .inr ⟨r,gd,ak,ax,aO,λo=>by rw[jH r o (by rw[ak];rfl)];exact aL o,bg⟩
 |hdr cW n=>exact gI
end imms
section weak
variable {G:cR}{env:au}{σ:ag}
def HN{I:bG}{β e8:Nat→Value}{env:au}{a:Act}{e:Nat}(h:mC I β env a)(ah:env.clean [e].contains=true)(U:∀y,y≠e→e8 y=β y):mC I e8 env a:=λt=>
 xh (p:=[e].contains) (λd af=>U d (by simpa using af)) _ _ (av0 ah t) (h t)
def awN{d e K E:Nat}(af:σ.get d=some (.map K E []))(he:σ.get e=none)(hi:G.ids.contains e=false)(ah:env.clean [e].contains=true)(Z:σ.clean [e].contains=true):
  cB G env σ env ((e,.cL [])::(d,.fQ K E e [] none none)::σ.minus [d]):=λcx I β a w h b3=>by
 have jY:d≠e:=λcC=>by subst cC;rw[he]at af;cases af
 have sQ:e∉G.ids:=by simpa using hi
 refine⟨I,hy β e (.tuple #[]),?_,HN b3 ah λy ai=>iu β _ ai⟩;have lH:hy β e (.tuple #[]) e=.tuple #[]:=gX _ _ _;have mu:hy β e (.tuple #[]) d=β d:=iu β _ jY
 have mL:∀y,y∈[d,e]→∀o,ag.get ((e,cE.cL [])::(d,.fQ K E e [] none none)::σ.minus [d]) y=some o→(y=d∧o=.fQ K E e [] none none)∨(y=e∧o=.cL []):=λy ai o an=>by
  rw[r8]at an;split at an
  ·rename_i cC;exact .inr ⟨cC.symm,(Option.some.inj an).symm⟩
  ·rename_i hh;split at an
   ·rename_i cC;exact .inl ⟨cC.symm,(Option.some.inj an).symm⟩
   ·rename_i hp;simp only[mem_cons,not_mem_nil,or_false]at ai;rcases ai with rfl|rfl
    ·exact absurd rfl hp
    ·exact absurd rfl hh
 have ve:∀y,y∈[d,e]→(ag.get ((e,cE.cL [])::(d,.fQ K E e [] none none)::σ.minus [d]) y).isSome→y=d∨y=e:=λy ai _=>by simpa using ai
 refine h.G5 (M:=[d,e]) (news:=[e]) (λy ai=>?_) (λy ai=>iu β _ (by simpa using ai)) (λy ai=>?_) (λy o _ g5=>(avI Z y o g5).2) (λy ai o g5=>?_) (λy ai eg c ah=>?_) (λy ai z hz mW fc eg c ah gh=>?_)
 ·simp only[mem_cons,not_mem_nil,or_false,not_or]at ai;rw[r8,if_neg (Ne.symm ai.2),if_neg (Ne.symm ai.1),if_neg (by simp[ai.1])]
 ·simp only[List.mem_singleton]at ai;subst ai;exact⟨by simp,sQ⟩
 ·rcases mL y ai o g5 with⟨rfl,rfl⟩|⟨rfl,rfl⟩
  ·have:=h.c4 y _ af;simp only[bb,mu,lH]at this ⊢;rcases this with q|⟨r,es,clock,ak,ax,aO,aL,bg,bI⟩
   ·exact .inl q
   ·refine .inr ⟨r,es,clock,#[],[],ak,ax,rfl,rfl,?_,aL,bg,bI,by simp⟩;have:es.toList=[]:=by cases kQ:es.toList<;>simp_all [fm]
    rw[this];exact⟨rfl,rfl⟩
  ·simp only[bb,lH];exact .inr ⟨#[],rfl,rfl⟩
 ·rcases ve y ai eg with rfl|rfl
  ·rw[mu]at ah;exact⟨y,by simp,by rw[af];rfl,ah⟩
  ·rw[lH]at ah;cases ah
 ·rcases ve y ai fc with rfl|rfl
  ·rcases ve z hz eg with rfl|rfl
   ·exact mW rfl
   ·rw[lH]at gh;cases gh
  ·rw[lH]at ah;cases ah
def axC{α:Type}{be sz:Nat}{K E d e e2 t:Nat}{k:IntKind}{cT:Bool}{js:Option (ia×Nat)}(l:List (Int×List α))(n:Int)(enc:α→List W)(row:List α)(aJ:(az l n).isSome=true)
  (af:σ.get d=some (.fQ K E e (fL k l) (o5 l n t) js)) (he:σ.get e=some (.cL (hR be sz enc (mF l n)))) (b5:σ.get t=some (.slice be sz (row.map enc) 0 cT))
  (mT:σ.get e2=none) (n9:G.ids.contains e2=false) (ah:env.clean [e2].contains=true) (Z:σ.clean [e2].contains=true) :
  cB G env σ env ((e2,.cL (hR be sz enc (bH l n row)))::(d,.fQ K E e2 (fL k (bH l n row)) none js)::σ.minus [d,e,t]):=λcx I β a w h b3=>by
 obtain⟨a0,bw⟩:=Option.isSome_iff_exists.1 aJ;have b0:o5 l n t=some (some (jr l n),t):=by simp[o5,bw]
 rw[b0]at af;obtain⟨e8,h1,D⟩:=h.back af rfl he b5 mT (by simpa using n9) Z;refine⟨I,e8,?_,HN b3 ah h1⟩;have aK:(hR be sz enc (mF l n)).set (jr l n) (.sl be sz (row.map enc))=hR be sz enc (bH l n row):=by
  rw[Pv bw,Kw,List.set_set,Gr row bw,Kw]
 rw[aK]at D;have wM:fL k (bH l n row)=fL k l:=by rw[Gr row bw,Ru row bw]
 rw[wM];exact D
def l8.bf{cx:fO}{I bq:bG}{w:World}{T sz:Nat}{xs:List (List W)}{v:Value}(h:l8 cx I w (.sl T sz xs) v)(hle:cV I bq)(ef:∀b,cb v=some b→∀o,bq b o=iK w b o):bm bq (.bf false xs) v:=by
 rcases h with⟨rfl,rfl⟩|⟨b,aV,arr,rfl,D,aq,aZ,bV,dU,eR,jS,iy⟩
 ·simp only[bm];exact⟨none,0,rfl,by simp,by simp[maxLen],by simp,.inl trivial⟩
 ·simp only[bm];refine⟨_,aV,rfl,D,aq,by simp,.inr ⟨b,0,rfl,?_⟩⟩;have oS:∀o:Nat,bq b o=arr[o]?:=λo=>by rw[ef b rfl o];simp[iK,World.cell?,aZ]
  have key:∀(bF:List (List W)) (off:Nat) (us:dQ),(∀e∈bF,e.length=sz)→ds I bF.flatten us→(∀j,j<us.length→arr[off+j]?=us[j]?)→kf bq b bF off:=by
   intro bF;induction bF with
   |nil=>intro _ _ _ _ _;simp[kf]
   |cons y bF bu=>
    intro off us ai aI hu;simp only[flatten_cons]at aI;have row:∀(cs:List W) (o:Nat) (iT:List W) (us:dQ),ds I (cs++iT) us→(∀j,j<us.length→arr[o+j]?=us[j]?)→l1 bq b cs o∧∃y9,ds I iT y9∧us=us.take cs.length++y9∧y9=us.drop cs.length:=by
     intro cs;induction cs with
     |nil=>intro o iT us h _;exact⟨by simp[l1],us,h,by simp,by simp⟩
     |cons c cs Ar=>
      intro o iT us h aY;simp only[cons_append,ds]at h;obtain⟨aR,uC,rfl,h1,D⟩:=h
      obtain⟨dc,y9,dg,gx,mh⟩:=Ar (o+1) iT uC D λj qx=>by
       have:=aY (j+1) (by simpa using qx);simpa [Nat.add_assoc,Nat.add_comm 1]using this
      refine⟨?_,y9,dg,by simpa using gx,by simpa using mh⟩;simp only[l1];refine⟨⟨aR,?_,kK hle c aR h1⟩,dc⟩;rw[oS];simpa using aY 0 (by simp)
    obtain⟨dc,y9,dg,gx,mh⟩:=row y off bF.flatten us aI hu;simp only[kf];refine⟨dc,bu (off+y.length) y9 (λe he=>ai e (mem_cons_of_mem _ he)) dg λj aY=>?_⟩;subst mh;have:=hu (y.length+j) (by simp at aY;omega);rw[getElem?_drop,←this,Nat.add_assoc]
  refine key xs 0 _ eR dU λj aY=>?_;rw[Nat.zero_add,getElem?_take];have aY:j<min (xs.length*sz) arr.size:=by simpa using aY
  rw[if_pos (by omega)];simp
def QU{cx:fO}{I bq:bG}{w:World}{α:Type}{k:IntKind}{T sz:Nat}{enc:α→List W}(hle:cV I bq):∀(l:List (Int×List α)) (vs:dQ) (es:nc),mj I (fL k l) vs es→ko cx I w (hR T sz enc l) vs→(∀b∈vs.filterMap cb,∀o,bq b o=iK w b o)→
  fm bq (bM k (λrows=>.bf false (rows.map enc)) l) es
 |[],vs,es,h,_,_=>by
  simp only[fL,map_nil,mj]at h;rw[h.2];simp[bM,fm]
 |(n,rows)::l,vs,es,h,U,ef=>by
  simp only[fL,map_cons,mj]at h;obtain⟨v,us,e,jD,rfl,rfl,aq,aZ,bV⟩:=h;simp only[hR,map_cons,ko]at U;obtain⟨dM,uC,anE,ec,dY,hb⟩:=U;cases anE;simp only[bM,map_cons,fm];refine⟨e,jD,rfl,kK hle _ _ aq,?_,QU hle l us jD bV hb λb U=>ef b ?_⟩
  ·rw[aZ];exact l8.bf ec hle λb U=>ef b (by simp[U])
  ·rw[filterMap_cons];split
   ·exact U
   ·exact mem_cons_of_mem _ U
def awP{α:Type}{be sz:Nat}{K E d e:Nat}{k:IntKind}{js:Option (ia×Nat)}(l:List (Int×List α))(enc:α→List W)
  (af:σ.get d=some (.fQ K E e (fL k l) none js)) (he:σ.get e=some (.cL (hR be sz enc l))) :
  cB G env σ env ((d,.k3 K E (bM k (λrows=>.bf false (rows.map enc)) l))::σ.minus [d,e]):=λcx I β a w h b3=>by
 have jY:d≠e:=λcC=>by subst cC;rw[af]at he;cases he
 have ml:(σ.get d).isSome:=by rw[af];rfl
 have kQ:(σ.get e).isSome:=by rw[he];rfl
 let bq:bG:=λb o=>if b∈dA (β d)∨b∈dA (β e)then iK w b o else I b o
 have fM:∀b,b∈dA (β d)∨b∈dA (β e)→∀o,bq b o=iK w b o:=λb U o=>if_pos U;have qA:∀b,¬(b∈dA (β d)∨b∈dA (β e))→∀o,bq b o=I b o:=λb U o=>if_neg U
 have hle:cV I bq:=λb o v aa=>by
  by_cases U:b∈dA (β d)∨b∈dA (β e)
  ·rw[fM b U];exact h.LH b o v aa
  ·rw[qA b U];exact aa
 have oW:∀b,b∈dA (β d)∨b∈dA (β e)→Place cx b:=λb U=>by
  rcases U with U|U
  ·exact(h.GS af U).2
  ·exact(h.GS he U).2
 have sub:∀x o,ag.get ((d,.k3 K E (bM k (λrows=>.bf false (rows.map enc)) l))::σ.minus [d,e]) x=some o→(x=d∧o=.k3 K E (bM k (λrows=>.bf false (rows.map enc)) l))∨(x≠d∧x≠e∧σ.get x=some o):=λx o u=>by
  rw[avA,avK]at u;split at u
  ·rename_i cC;exact .inl ⟨cC.symm,(Option.some.inj u).symm⟩
  ·rename_i hp;split at u
   ·cases u
   ·rename_i hh;simp only[mem_cons,not_mem_nil,or_false,not_or]at hh;exact .inr ⟨hh.1,hh.2,u⟩
 have Ei:∀x,(ag.get ((d,cE.k3 K E (bM k (λrows=>.bf false (rows.map enc)) l))::σ.minus [d,e]) x).isSome→(σ.get x).isSome:=λx u=>by
  obtain⟨o,u⟩:=Option.isSome_iff_exists.1 u;rcases sub x o u with⟨rfl,_⟩|⟨_,_,u⟩
  ·exact ml
  ·rw[u];rfl
 refine⟨bq,β,{h with good:=λb o v aa=>?_,iB:=λb v aa=>?_,kg:=h.kg.trans hle,jX:=λb U aX o=>?_,c4:=λx o u=>?_,ee:=λx y u ai=>h.ee x y (Ei x u) (Ei y ai)},b3.mono hle (h5.refl β)⟩
 ·by_cases U:b∈dA (β d)∨b∈dA (β e)
  ·rw[fM b U]at aa;exact C2 b o v aa
  ·rw[qA b U]at aa;exact h.good b o v aa
 ·by_cases U:b∈dA (β d)∨b∈dA (β e)
  ·rw[fM b U]at aa;exact CQ b v aa
  ·rw[qA b U]at aa;exact h.iB b v aa
 ·have:¬(b∈dA (β d)∨b∈dA (β e)):=λic=>by
   rcases oW b ic with q|q
   ·omega
   ·exact aX q
  rw[qA b this];exact h.jX b U aX o
 ·rcases sub x o u with⟨rfl,rfl⟩|⟨hp,hh,u⟩
  ·have uR:=h.c4 x _ af;simp only[bb]at uR ⊢;rcases uR with q|⟨r,es,clock,Z,cN,ak,ax,aO,aL,bg,bI,b7,cD,_⟩
   ·exact .inl q
   ·rw[show cN=Z.toList from aL]at bg;have mS:=h.c4 e _ he;simp only[bb,aO,Value.tuple.injEq,reduceCtorEq,false_or]at mS;obtain⟨gG,rfl,U⟩:=mS;refine .inr ⟨r,es,clock,ak,?_,QU hle l Z.toList es.toList bg U λb ic=>fM b (.inr (by rw[aO,pW];exact ic)),b7,cD⟩;rw[fM r (.inl (kL (by rw[ak];rfl)))];simp[iK,ax]
  ·refine(h.c4 x o u).Vy hle λb U=>qA b λic=>?_;rcases ic with q|q
   ·exact h.ee x d (by rw[u];rfl) ml hp b U q
   ·exact h.ee x e (by rw[u];rfl) kQ hh b U q
def A.ex{c:Code}{Q:Exit→au→ag→Prop}{ι:Type}{ek:ι→au}{σ2:ι→ag}(h:∀cx I β a w,cz G cx I β σ w→mC I β env a→∃i bq β',cz G cx bq β' (σ2 i) w∧mC bq β' (ek i) a)(k:∀i,aP G c Q (ek i) (σ2 i)):aP G c Q env σ:=
 avZ λcx a w aI=>by
  obtain⟨I,β,h1,D,aq,aZ⟩:=aI;obtain⟨i,bq,β',bV,dU⟩:=h cx I β a w h1 D;exact(k i).use cx a w ⟨bq,β',bV,dU,aq,aZ⟩
def C8{d:Nat}{o gP:cE}(af:σ.get d=some o){cx:fO}{I:bG}{β:Nat→Value}{w:World}(h:cz G cx I β σ w)(an:bb cx I β w d gP):cz G cx I β (σ.set d gP) w:=by
 have fo:∀x,(ag.get (σ.set d gP) x).isSome→(σ.get x).isSome:=λx u=>by
  rw[avE]at u;split at u
  ·rename_i e;subst e;rw[af];rfl
  ·exact u
 refine{h with c4:=λx hT u=>?_,ee:=λx y u ai=>h.ee x y (fo x u) (fo y ai)};rw[avE]at u;split at u
 ·rename_i e;subst e;rw[af]at u;cases u;exact an
 ·exact h.c4 x hT u
def awy{c:Code}{Q:Exit→au→ag→Prop}{d K E:Nat}{bL:List (W×W)}(af:σ.get d=some (.map K E bL))(k:∀es clock,aP G c Q env (σ.set d (.hM es clock K E bL))):aP G c Q env σ:=
 A.ex (ι:=ia×Nat) (ek:=λ_=>env) (σ2:=λi=>σ.set d (.hM i.1 i.2 K E bL)) (λcx I β a w h b3=>by
  have:=h.c4 d _ af;simp only[bb]at this;rcases this with q|⟨r,es,clock,ak,ax,aO,aL,bg,bI⟩
  ·exact⟨(#[],0),I,β,C8 af h (by simp only[bb];exact .inl q),b3⟩
  ·exact⟨(es,clock),I,β,C8 af h (by simp only[bb];exact .inr ⟨r,ak,ax,aO,aL,bg,bI⟩),b3⟩) λi=>k i.1 i.2
def axD{d K E clock:Nat}{es:ia}{bL:List (W×W)}(af:σ.get d=some (.hM es clock K E bL)):cB G env σ env (σ.set d (.map K E bL)):=λcx I β a w h b3=>by
 refine⟨I,β,C8 af h ?_,b3⟩;have:=h.c4 d _ af;simp only[bb]at this ⊢;rcases this with q|⟨r,ak,ax,aO,aL,bg,bI⟩
 ·exact .inl q
 ·exact .inr ⟨r,es,clock,ak,ax,aO,aL,bg,bI⟩
def axY{c:Code}{Q:Exit→au→ag→Prop}{d K E e:Nat}{keys:List W}{dk:Option (j4×Nat)}(af:σ.get d=some (.fQ K E e keys dk none))(k:∀es clock,aP G c Q env (σ.set d (.fQ K E e keys dk (some (es,clock))))):aP G c Q env σ:=
 A.ex (ι:=ia×Nat) (ek:=λ_=>env) (σ2:=λi=>σ.set d (.fQ K E e keys dk (some i))) (λcx I β a w h b3=>by
  have:=h.c4 d _ af;simp only[bb]at this;rcases this with q|⟨r,es,clock,Z,cN,ak,ax,aO,aL,bg,bI,b7,cD,_⟩
  ·exact⟨(#[],0),I,β,C8 af h (by simp only[bb];exact .inl q),b3⟩
  ·exact⟨(es,clock),I,β,C8 af h (by simp only[bb];exact .inr ⟨r,es,clock,Z,cN,ak,ax,aO,aL,bg,bI,b7,cD,λq bP=>(Option.some.inj bP).symm⟩),b3⟩) λi=>k i.1 i.2
end weak
end
section
open Go.ChangeMaps (setBlock)
def nx{α S:Type}(B:Int→α→S→Option S):List (Int×α)→S→Option S
 |[],s=>some s
 |p::r,s=>match B p.1 p.2 s with|none=>none|some dh=>nx B r dh
open Classical in
noncomputable def yT{α S:Type}(l:List (Int×α))(B:Int→α→S→Option S)(s:S):Option S:=
 if ∀gD:List (Int×α),gD.Perm l→nx B gD s=nx B l s then nx B l s else none
variable {S α:Type}{r:S}{B:Int→α→S→Option S}{l:List (Int×α)}
def Z4{s:S}(h:yT l B s=some r):(∀gD:List (Int×α),gD.Perm l→nx B gD s=nx B l s)∧nx B l s=some r:=by
 unfold yT at h;split at h
 ·rename_i h1;exact⟨h1,h⟩
 ·cases h
def QV{s:S}(h:∀gD:List (Int×α),gD.Perm l→nx B gD s=some r):yT l B s=some r:=by
 unfold yT;rw[if_pos λgD aJ=>by rw[h gD aJ,h l (List.Perm.refl l)]];exact h l (List.Perm.refl l)
def OU{α S:Type}{B:Int→α→S→Option S}:∀(l gD:List (Int×α)) (s:S),nx B (l++gD) s=(nx B l s).bind (nx B gD)
 |[],_,_=>rfl
 |p::r,gD,s=>by
  simp only[cons_append,nx];cases B p.1 p.2 s with
  |none=>rfl
  |some dh=>exact OU r gD dh
section
variable {G:cR}{σ:ag}{o:Oper}{ev:Operand→W}
def cE.yG:cE→Option (ia×Nat)
 |.hM es c _ _ _=>some (es,c)
 |.fQ _ _ _ _ _ js=>js
 |_=>none
def KO{cx:fO}{I:bG}{β:Nat→Value}{w:World}(av:cz G cx I β σ w){cW clock:Nat}{j0:cE}{es:ia}(af:σ.get cW=some j0)(aJ:j0.yG=some (es,clock))(aX:β cW≠.nilFunc):
  ∃gd,β cW=.map (some gd)∧w.heap[gd]?=some (.map es clock)∧km es clock:=by
 have h:=av.c4 cW j0 af;cases j0<;>simp only[cE.yG,reduceCtorEq]at aJ
 ·cases aJ;simp only[bb,aX,false_or]at h;obtain⟨r,ak,ax,aO,aL,bg,bI⟩:=h;exact⟨r,ak,ax,bI⟩
 ·simp only[bb,aX,false_or]at h;obtain⟨r,hA,lY,Z,cN,ak,ax,aO,aL,bg,bI,b7,cD,dz⟩:=h;cases dz _ aJ;exact⟨r,ak,ax,cD⟩
def dD.range{T cW ck K E clock:Nat}{x:Operand}{es:ia}{j0:cE}(h:o.op=.range T x)(u:ev x=.dm cW)(af:σ.get cW=some j0)(aJ:j0.yG=some (es,clock))(aT:G.P.underlying T=some (.map K E))
  (hi:G.ids.contains ck=false) (ah:σ.clean [ck].contains=true):i2 G o ev σ [ck] [ck] (λr aH=>r=.ptr ck 0∧aH=(ck,.iter cW clock clock #[])::σ):=by
 intro cx I β w bn av hop;have h1:=hop x (by simp[h,Op.operands]);rw[u]at h1
 simp only[aC]at h1;obtain⟨h1,rL⟩:=h1;have iI:β cW≠.nilFunc:=λe=>by rw[h1,e]at rL;simp[nV]at rL
 obtain⟨gd,ak,ax,aO⟩:=KO av af aJ iI
 have amx:cW≠ck:=λe=>by
  have:=(avI ah cW j0 af).1;simp[e]at this
 have eV:(execOp bn o).run G.P w=.ok (.value (.pointer (some ⟨w.heap.size,0,none⟩))) (w.alloc (.mapIter (some gd) clock #[] clock)):=by
  simp[execOp,h,h1,ak,run_range_map w T K E gd es clock aT ax]
 rw[eV];have aa:=av.qJ (eM:=[ck]) (σ2:=σ) (env:=[]) ⟨λ_ _=>rfl,by simpa using hi,rfl,ah,λx u cW n h=>by have:=(avI ah x _ h).1;rw[List.contains_iff_mem.2 u]at this;cases this⟩;have U:∀y,y≠ck→hy (gY β [ck]) ck (.pointer (some ⟨w.heap.size,0,none⟩)) y=β y:=λy ai=>by rw[iu _ _ ai];simp[gY,ai]
 have uN:hy (gY β [ck]) ck (.pointer (some ⟨w.heap.size,0,none⟩)) ck=.pointer (some ⟨w.heap.size,0,none⟩):=gX _ _ _;refine⟨.ptr ck 0,_,I,hy (gY β [ck]) ck (.pointer (some ⟨w.heap.size,0,none⟩)),⟨rfl,rfl⟩,?_,?_,cV.refl I,λy ai=>U y (by simpa using ai),λy ai=>by rw[avA,if_neg (Ne.symm (by simpa using ai))]⟩
 ·simp only[aC,uN];exact⟨w.heap.size,rfl,rfl⟩
 ·refine aa.turn (d:=ck) (g1.alloc w _) (.inl av.size) (λx u=>by rw[avA,if_neg (Ne.symm u)]) (λx u Z e=>by
    obtain⟨bc,Z⟩:=Option.isSome_iff_exists.1 Z;exact absurd (aa.uc Z e) (by omega)) (cV.refl I) (λ_ _ _=>rfl) (λhT dM o1=>by rw[av.jG (Nat.le_refl _)]at o1;cases o1) (av.jG (Nat.le_refl _) none)
   (λx u=>iu _ _ u) (.inl (by simpa using hi)) (avY (by simp[gY])) (.inl (by rw[uN];rfl)) λbc cG=>?_
  rw[avA,if_pos rfl]at cG;cases cG;simp only[bb,uN,U cW amx,ak];exact .inr ⟨w.heap.size,gd,rfl,rfl,heap_alloc_new w _,λo=>av.jG (Nat.le_refl _) o,.inl av.size⟩
def dD.next{cW ck clock:Nat}{x:Operand}{es:ia}{seen:pE}{j0:cE}(h:o.op=.next x false)(u:ev x=.ptr ck 0)(hi:σ.get ck=some (.iter cW clock clock seen))(af:σ.get cW=some j0)(aJ:j0.yG=some (es,clock)):
  i2 G o ev σ [ck] [] (λr aH=>((leftOf es seen).size=0∧r=.c5 [.bool false]∧aH=σ)∨∃e∈(leftOf es seen).toList,r=.c5 [.bool true,.fP,.fP]∧aH=σ.set ck (.iter cW clock clock (seen.push e.born))):=by
 intro cx I β w bn av hop;have h1:=hop x (by simp[h,Op.operands]);rw[u]at h1
 simp only[aC]at h1;obtain⟨b,h1,D⟩:=h1;have fM:β ck≠.nilFunc:=λe=>by rw[e]at h1;cases h1
 have hit:=av.c4 ck _ hi;simp only[bb,fM,false_or]at hit;obtain⟨r,gd,ak,ax,aO,aL,bg⟩:=hit;have E0:b=r:=by rw[ak]at h1;simpa [cb]using h1.symm
 subst E0;have iI:β cW≠.nilFunc:=λe=>by rw[e]at ax;cases ax
 obtain⟨vr,de,ew,e1⟩:=KO av af aJ iI;have:vr=gd:=by rw[de]at ax;simpa [cb]using ax
 subst this;rcases run_next_at (P:=G.P) w o.type b vr clock clock seen es clock aO ew e1.2 (Nat.le_refl _)with⟨dV,eu⟩|⟨e,dV,hP,eu,s3⟩
 ·have eV:(execOp bn o).run G.P w=.ok (.value (.tuple #[.bool false])) w:=by simp[execOp,h,D,eu]
  rw[eV];refine⟨.c5 [.bool false],σ,I,β,.inl ⟨dV,rfl,rfl⟩,?_,av,cV.refl I,λ_ _=>rfl,λ_ _=>rfl⟩;simp[aC,b8,bm]
 ·have eV:(execOp bn o).run G.P w=.ok (.value (.tuple #[.bool true,e.key,e.val])) (setBlock hP b (.mapIter (some vr) clock (seen.push e.born) clock)):=by simp[execOp,h,D,s3]
  rw[eV];refine⟨.c5 [.bool true,.fP,.fP],σ.set ck (.iter cW clock clock (seen.push e.born)),I,β,.inr ⟨e,dV,rfl,rfl⟩,?_,?_,cV.refl I,λ_ _=>rfl,λy ai=>by rw[avE,if_neg (by simpa using ai)]⟩
  ·simp only[aC,b8,bm];exact⟨_,rfl,_,_,rfl,rfl,_,_,rfl,trivial,_,_,rfl,trivial,rfl⟩
  ·have hk:g1 w (setBlock hP b (.mapIter (some vr) clock (seen.push e.born) clock)) b:=by
    rcases eu with rfl|rfl
    ·exact avO _ b _
    ·exact g1.drew (avO _ b _)
   have ga:cb (β ck)=some b:=h1;have b0:(setBlock hP b (.mapIter (some vr) clock (seen.push e.born) clock)).heap[b]?=some (.mapIter (some vr) clock (seen.push e.born) clock):=by
    have bS:=hQ aO;have:hP.heap=w.heap:=by rcases eu with rfl|rfl<;>rfl
    simp[setBlock,this,Array.getElem?_setIfInBounds,bS]
   refine av.turn (d:=ck) hk bg (λx u=>by rw[avE,if_neg u]) (λx u Z cC=>av.ee x ck Z (by rw[hi];rfl) u b cC (kL ga)) (cV.refl I) (λ_ _ _=>rfl)
    (λo v aa=>by rw[aL o]at aa;cases aa) (aL none) (λ_ _=>rfl) (.inr rfl) (h5.refl β) (.inl ga) λbc cG=>?_
   rw[avE,if_pos rfl,hi]at cG;injection cG with cG
   subst cG;simp only[bb];exact .inr ⟨b,vr,ak,ax,b0,aL,bg⟩
def Gs{I:bG}:∀{bL:List (W×W)} {es:nc} {i:Nat} {a c:W} {e:MapEntry},fm I bL es→bL[i]?=some (a,c)→es[i]?=some e→bm I a e.key∧bm I c e.val
 |[],_,i,_,_,_,_,h,_=>by simp at h
 |(k,v)::r,_,i,a,c,e,h,aA,he=>by
  simp only[fm]at h;obtain⟨f,us,rfl,h1,D,aq⟩:=h;cases i with
  |zero=>simp at aA he;obtain⟨rfl,rfl⟩:=aA;subst he;exact⟨h1,D⟩
  |succ i=>simp at aA he;exact Gs aq aA he
def QW{I:bG}:∀{ks:List W} {vs:dQ} {es:nc} {i:Nat} {a:W} {e:MapEntry},mj I ks vs es→ks[i]?=some a→es[i]?=some e→bm I a e.key
 |[],_,_,i,_,_,_,h,_=>by simp at h
 |k::r,_,_,i,a,e,h,aA,he=>by
  simp only[mj]at h;obtain⟨v,us,f,jD,rfl,rfl,h1,D,aq⟩:=h;cases i with
  |zero=>simp at aA he;subst aA;subst he;exact h1
  |succ i=>simp at aA he;exact QW aq aA he
def QX{cx:fO}{I:bG}{β:Nat→Value}{w:World}{bn:Operand→Value}{cW ck clock i:Nat}{x:Operand}{es:ia}{seen:pE}{j0:cE}{e:MapEntry}(av:cz G cx I β σ w)(h:o.op=.entry x)(h1:aC I β (.ptr ck 0) (bn x))
  (hi:σ.get ck=some (.iter cW clock clock (seen.push e.born))) (af:σ.get cW=some j0) (aJ:j0.yG=some (es,clock)) (he:es[i]?=some e):(execOp bn o).run G.P w=.ok (.value (.tuple #[e.key,e.val])) w∧β cW≠.nilFunc:=by
 simp only[aC]at h1;obtain⟨b,h1,D⟩:=h1;have fM:β ck≠.nilFunc:=λe=>by rw[e]at h1;cases h1
 have hit:=av.c4 ck _ hi;simp only[bb,fM,false_or]at hit;obtain⟨r,gd,ak,ax,aO,aL,bg⟩:=hit;have E0:b=r:=by rw[ak]at h1;simpa [cb]using h1.symm
 subst E0;have iI:β cW≠.nilFunc:=λe=>by rw[e]at ax;cases ax
 obtain⟨vr,de,ew,e1⟩:=KO av af aJ iI;have:vr=gd:=by rw[de]at ax;simpa [cb]using ax
 subst this;have p2:e∈es.toList:=by
  have:es.toList[i]?=some e:=by simpa using he
  exact List.mem_of_getElem? this
 exact⟨by simp[execOp,h,D,run_entry_at (P:=G.P) w b vr clock seen es clock e aO ew p2 e1.1],iI⟩
def aw6{α:Type}{cW ck clock i K E:Nat}{k:IntKind}{x:Operand}{es:ia}{seen:pE}{e:MapEntry}{n:Int}{v:α}(l:List (Int×α))(enc:α→W)(h:o.op=.entry x)(u:ev x=.ptr ck 0)(hi:σ.get ck=some (.iter cW clock clock (seen.push e.born)))
  (af:σ.get cW=some (.hM es clock K E (bM k enc l))) (he:es[i]?=some e) (aX:l[i]?=some (n,v)):Yields G o ev σ [] [ck,cW] (.c5 [.int k n,enc v]):=
 .pure λaH cx I β w bn c3 av hop=>by
  have h1:=hop x (by simp[h,Op.operands]);rw[u]at h1
  have eB:aH.get cW=some (.hM es clock K E (bM k enc l)):=by rw[c3 cW (by simp)];exact af
  obtain⟨hw,ha⟩:=QX av h h1 (by rw[c3 ck (by simp)];exact hi) eB rfl he;refine⟨_,hw,?_⟩;have an:=av.c4 cW _ eB;simp only[bb,ha,false_or]at an;obtain⟨r,ak,ax,aO,_⟩:=an;obtain⟨dV,eu⟩:=Gs aO (i:=i) (a:=.int k n) (c:=enc v) (e:=e) (by simp[bM,aX]) (by simpa using he);simp only[aC,b8];exact⟨_,rfl,e.key,[e.val],rfl,dV,e.val,[],rfl,bm.rep β _ _ eu,rfl⟩
def aw7{α:Type}{cW ck clock i K E l0:Nat}{k:IntKind}{dk:Option (j4×Nat)}{x:Operand}{es:ia}{seen:pE}{e:MapEntry}{n:Int}(l:List (Int×α))(h:o.op=.entry x)(u:ev x=.ptr ck 0)(hi:σ.get ck=some (.iter cW clock clock (seen.push e.born)))
  (af:σ.get cW=some (.fQ K E l0 (fL k l) dk (some (es,clock)))) (he:es[i]?=some e) (aX:(l.map (·.1))[i]?=some n):Yields G o ev σ [] [ck,cW] (.c5 [.int k n,.fP]):=
 .pure λaH cx I β w bn c3 av hop=>by
  have h1:=hop x (by simp[h,Op.operands]);rw[u]at h1
  have eB:aH.get cW=some (.fQ K E l0 (fL k l) dk (some (es,clock))):=by rw[c3 cW (by simp)];exact af
  obtain⟨hw,ha⟩:=QX av h h1 (by rw[c3 ck (by simp)];exact hi) eB rfl he;refine⟨_,hw,?_⟩;have an:=av.c4 cW _ eB;simp only[bb,ha,false_or]at an;obtain⟨r,hA,lY,Z,cN,ak,ax,aO,aL,bg,bI,b7,cD,dz⟩:=an;cases dz _ rfl;have dV:=QW bg (i:=i) (a:=.int k n) (e:=e) (by
   simp only[List.getElem?_map,Option.map_eq_some_iff]at aX;obtain⟨p,de,rfl⟩:=aX;simp[fL,de]) (by simpa using he)
  simp only[aC,b8];exact⟨_,rfl,e.key,[e.val],rfl,dV,e.val,[],rfl,trivial,rfl⟩
def pP{α:Type}(l:List (Int×α))(n:Int):List (Int×α):=match l with
 |[]=>[]
 |p::r=>if p.1=n then r else p::pP r n
def YF{I:bG}{α:Type}{k:IntKind}{enc:α→W}(n:Int):∀(l:List (Int×α)) (es:nc) (i:Nat) (a:α),fm I (bM k enc l) es→az l n=some a→
  ∃j v,Instr.findNow (.int k) (.int k n) es i=some (some (i+j,v))∧j<es.length∧fm I (bM k enc (pP l n)) (es.eraseIdx j)
 |[],es,i,a,h,bw=>by simp[az]at bw
 |(m,b)::r,es,i,a,h,bw=>by
  simp only[bM,map_cons,fm]at h;obtain⟨e,us,rfl,aq,aZ,bV⟩:=h;simp only[bm]at aq;rw[kD]at bw;by_cases hm:m=n
  ·subst hm;refine⟨0,e.val,by simp[Instr.findNow,Instr.sameNow,aq],by simp,?_⟩;simp only[pP,if_true,eraseIdx_cons_zero];exact bV
  ·rw[if_neg hm]at bw;obtain⟨j,v,ak,ax,aO⟩:=YF n r us (i+1) a bV bw;refine⟨j+1,v,?_,by simpa using ax,?_⟩
   ·simp only[Instr.findNow,Instr.sameNow,aq,if_pos];have:(n==m)=false:=by simpa using λe=>hm e.symm
    rw[this];simp only;rw[ak];simp[Nat.add_assoc,Nat.add_comm 1]
   ·simp only[pP,hm,if_false,eraseIdx_cons_succ,bM,map_cons,fm];exact⟨e,_,rfl,by simp only[bm];exact aq,aZ,aO⟩
def QY{α:Type}:∀{l:List (Int×α)} {n:Int},az l n=none→pP l n=l
 |[],_,_=>rfl
 |p::r,n,h=>by
  rw[kD]at h;split at h
  ·cases h
  ·rename_i aF;simp only[pP,if_neg aF,QY h]
def km.erase{es:ia}{clock:Nat}(h:km es clock)(j:Nat):km (es.eraseIdxIfInBounds j) clock:=by
 obtain⟨h1,D⟩:=h;have e:(es.eraseIdxIfInBounds j).toList=es.toList.eraseIdx j:=by simp
 refine⟨?_,λx u=>D x ?_⟩
 ·rw[e,ChangeMaps.map_eraseIdx];exact h1.sublist (eraseIdx_sublist _ _)
 ·rw[e]at u;exact(eraseIdx_sublist _ _).subset u
def axH{α:Type}{T K E d:Nat}{k:IntKind}{x y:Operand}{n:Int}(l:List (Int×α))(enc:α→W)(h:o.op=.call ⟨.builtin .delete,#[x,y],#[T,K]⟩)(u:ev x=.dm d)(ai:ev y=.int k n)
  (af:σ.get d=some (.map K E (bM k enc l))) (aT:k4 G.P T K E k) :
  i2 G o ev σ [d] [] (λr aH=>r=.c5 []∧aH=σ.set d (.map K E (bM k enc (pP l n)))):=by
 intro cx I β w bn av hop;have h1:=hop x (by simp[h,Op.operands,Call.operands]);rw[u]at h1
 have D:=hop y (by simp[h,Op.operands,Call.operands]);rw[ai]at D;have D:=kY D
 obtain⟨r,es,clock,m5,ak,ax,aO,aL,bg,bI⟩:=JP av af h1;have aK:∀w,(underlying T).run G.P w=.ok (.map K E) w:=λw=>by simp[underlying,program,Sem.run,aT.gT]
 have e2:∀w,(underlying K).run G.P w=.ok (.int k) w:=λw=>by simp[underlying,program,Sem.run,aT.key]
 have dj:=w6 (P:=G.P) ax;have fF:=CL (P:=G.P) aT.key (es.isEmpty) n w;have h8:∀bc:Obj,(setObj r bc).run G.P w=.ok () {w with heap:=w.heap.setIfInBounds r bc}:=λbc=>by simp[setObj,Sem.run,ax]
 have xm:∃hA,(execOp bn o).run G.P w=.ok (.value (.tuple #[])) {w with heap:=w.heap.setIfInBounds r (.map hA clock)}∧fm I (bM k enc (pP l n)) hA.toList∧km hA clock:=by
  cases bw:az l n with
  |none=>
   obtain⟨de,ew⟩:=FY n l es.toList 0 aO bw;have g3:(Instr.findKey K (.int k n) es.toList).run G.P w=.ok none w:=by simp[Instr.findKey,e2,de]
   refine⟨es,by simp[execOp,h,resolve,invoke,builtin,Builtin.delete_,m5,D,aK,dj,fF,g3,h8],?_,bI⟩;rw[QY bw];exact aO
  |some a=>
   obtain⟨j,aR,de,ew,e1⟩:=YF n l es.toList 0 a aO bw;have g3:(Instr.findKey K (.int k n) es.toList).run G.P w=.ok (some (0+j,aR)) w:=by simp[Instr.findKey,e2,de]
   refine⟨es.eraseIdxIfInBounds j,by simp[execOp,h,resolve,invoke,builtin,Builtin.delete_,m5,D,aK,dj,fF,g3,h8],?_,bI.erase j⟩;simpa using e1
 obtain⟨hA,eV,iG,c1⟩:=xm;rw[eV];refine⟨.c5 [],_,I,β,⟨rfl,rfl⟩,by simp[aC,b8],?_,cV.refl I,λ_ _=>rfl,λx u=>by rw[avE,if_neg (by simpa using u)]⟩;have ga:cb (β d)=some r:=by rw[ak];rfl
 refine av.turn (d:=d) (avO w r _) bg (λx u=>by rw[avE,if_neg u]) (λx u Z e=>av.ee x d Z (by rw[af];rfl) u r e (kL ga)) (cV.refl I) (λ_ _ _=>rfl)
  (λo v aa=>by rw[aL o]at aa;cases aa) (aL none) (λ_ _=>rfl) (.inr rfl) (h5.refl β) (.inl ga) λbc cG=>?_
 rw[avE,if_pos rfl,af]at cG;injection cG with cG
 subst cG;simp only[bb];exact .inr ⟨r,hA,clock,ak,by have:=hQ ax;simp[Array.getElem?_setIfInBounds,this],iG,aL,bg,c1⟩
def awS{c:Code}{Q:Exit→au→ag→Prop}{env:au}{F:Prop}(h:∀cx I β a w,cz G cx I β σ w→mC I β env a→F)(k:F→aP G c Q env σ):aP G c Q env σ:=
 avZ λcx a w aI=>by
  obtain⟨I,β,h1,D,aq,aZ⟩:=aI;exact(k (h cx I β a w h1 D)).use cx a w ⟨I,β,h1,D,aq,aZ⟩
def j1{eC α:Type}(l:List (eC×α))(p:dI):List (eC×α):=p.filterMap λi=>l[i]?
def Kc{eC α:Type}(l:List (eC×α)):j1 l (List.range l.length)=l:=by
 have:∀(n:Nat),n≤l.length→j1 l (List.range n)=l.take n:=by
  intro n;induction n with
  |zero=>intro _;simp[j1]
  |succ n bu=>
   intro aX;rw[List.range_succ];simp only[j1,List.filterMap_append,filterMap_cons,filterMap_nil]at bu ⊢;rw[bu (by omega),List.getElem?_eq_getElem (by omega)];simp only;rw[take_succ,List.getElem?_eq_getElem (by omega)];rfl
 rw[this _ (Nat.le_refl _),take_length]
def JR{p:dI}{n:Nat}(h1:p.Nodup)(D:∀i,i∈p↔i<n):p.Perm (List.range n):=
 (perm_ext_iff_of_nodup h1 nodup_range).2 λi=>by rw[List.mem_range];exact D i
def A.JY{S α:Type}{env:au}{Q:Exit→au→ag→Prop}{l:List (Int×α)}{B:Int→α→S→Option S}{mO r:S}(hm:yT l B mO=some r){id b t1 t2 it cW ck clock:Nat}{es:ia}{iR gP:Oper}{y:Code}
  (inv:S→Prop) (gr:S→au) (gB:pE→S→ag) (oV:iR.op=.next (.tmp it) false∧iR.dst=some t1∧iR.guard=none) (l5:gP.op=.extract (.tmp t1) 0∧gP.dst=some t2∧gP.guard=none) (af:xD G.N #[iR,gP]=true)
  (bJ:inv mO) (amV:∀n v g hY,B n v g=some hY→inv g→inv hY) (hit:∀g,(gr g).get it=.ptr ck 0) (Ai:∀seen g,(gB seen g).get ck=some (.iter cW clock clock seen)) (jh:∀seen g,∃j0,(gB seen g).get cW=some j0∧j0.yG=some (es,clock))
  (h8:∀seen g dh,(gB seen g).set ck (.iter cW clock clock dh)=gB dh g) (eH:∀seen g,inv g→∀cx I β w,cz G cx I β (gB seen g) w→β cW≠.nilFunc→es.size=l.length)
  (av:cB G env σ (gr mO) (gB #[] mO))
  (body:∀(seen:pE) (e:MapEntry) (i:Nat) (n:Int) (v:α) (g hY:S),es[i]?=some e→l[i]?=some (n,v)→inv g→B n v g=some hY→
   aP G y (um (λg0 aH=>cB G g0 aH (gr hY) (gB (seen.push e.born) hY)) Q) ((t2,.bool true)::(t1,.c5 [.bool true,.fP,.fP])::gr g) (gB (seen.push e.born) g))
  (cw:∀seen,Q (.exit b) ((t2,.bool false)::(t1,.c5 [.bool false])::gr r) (gB seen r)) :
  aP G (.loop (.seq (.region id #[iR,gP] false) (.seq (.cond (.tmp t2) .skip (.exit b)) y))) Q env σ:=by
 obtain⟨m1,m2⟩:=Z4 hm
 refine A.loop (α:=pE×S) (λs=>gr s.2) (λs=>gB s.1 s.2) (λs=>inv s.2∧∃p:dI,p.Nodup∧(∀i∈p,i<l.length)∧(∀(i:Nat) (e:MapEntry),es[i]?=some e→(s.1.contains e.born=true↔i∈p))∧nx B (j1 l p) mO=some s.2)
  (λs=>(leftOf es s.1).size) (#[],mO) ⟨bJ,[],nodup_nil,by simp,by simp,rfl⟩ av ?_
 rintro⟨seen,g⟩ ⟨hi,p,de,ew,e1,iS⟩;refine awS (F:=es.size=l.length∧(es.toList.map (·.born)).Nodup) (λcx I β a w lP aT=>?_) λ⟨f1,f2⟩=>?_
 ·have h1:=aT it;rw[show(gr (seen,g).2).get it=.ptr ck 0 from hit g]at h1;simp only[aC]at h1;obtain⟨b,h1,_⟩:=h1;have fM:β ck≠.nilFunc:=λe=>by rw[e]at h1;cases h1
  have an:=lP.c4 ck _ (Ai seen g);simp only[bb,fM,false_or]at an;obtain⟨r,gd,ak,ax,_⟩:=an;have iI:β cW≠.nilFunc:=λe=>by rw[e]at ax;cases ax
  obtain⟨j0,dV,eu⟩:=jh seen g;obtain⟨_,_,_,s3⟩:=KO lP dV eu iI;exact⟨eH seen g hi cx I β w lP iI,s3.1⟩
 obtain⟨j0,dV,eu⟩:=jh seen g;have vE:au.get ((t2,.bool true)::(t1,.c5 [.bool true,.fP,.fP])::gr g) t2=.bool true:=by rw[avQ,if_pos rfl]
 have vD:au.get ((t2,.bool false)::(t1,.c5 [.bool false])::gr g) t2=.bool false:=by rw[avQ,if_pos rfl]
 refine A.seq (A.region af ?_);show h4 G #[iR,gP] ⟨false,[],[]⟩ [] [0,1] (gr g) (gB seen g) _;refine⟨iR,rfl,.inr (.inr (.inl ⟨by simp only[j2,oV.2.2],by simp,[ck],[],_,dD.next (x:=.tmp it) oV.1 (hit g) (Ai seen g) dV eu,by simp,av9 _,by simp,λb9 aH sK=>?_⟩))⟩
 have ext:∀(vs:List W) (eU:Bool) (aH:ag) (K:au→ag→Prop),vs[0]?=some (.bool eU)→K ((t2,.bool eU)::(t1,.c5 vs)::gr g) aH→h4 G #[iR,gP] ⟨false,[],[]⟩ [] [1] ((gr g).put iR.dst (.c5 vs)) aH K:=λvs eU aH K aa g4=>by
  refine⟨gP,rfl,.inr (.inl ⟨by simp only[j2,l5.2.2],by simp,[],[],.bool eU,aH,awa _ _ _,by simp,by simp,b6.extract (x:=.tmp t1) l5.1 (by rw[oV.2.1];show au.get _ _=_;rw[au.put,avQ,if_pos rfl]) aa,?_⟩)⟩;rw[oV.2.1,l5.2.1];exact g4
 rcases sK with⟨h0,rfl,rfl⟩|⟨e,h0,rfl,rfl⟩
 ·refine ext _ false _ _ rfl ?_
  have kH:∀i,i∈p↔i<l.length:=λi=>⟨ew i,λbS=>by
   have yo:i<es.size:=by omega
   refine(e1 i es[i] (Array.getElem?_eq_getElem yo)).1 ?_;by_cases ah:seen.contains es[i].born=true
   ·exact ah
   ·exfalso;have:es[i]∈leftOf es seen:=by
     unfold leftOf;rw[Array.mem_filter];exact⟨Array.getElem_mem yo,by simpa using ah⟩
    have:leftOf es seen≠#[]:=λe=>by rw[e]at this;simp at this
    exact this (Array.eq_empty_of_size_eq_zero h0)⟩
  have aF:(j1 l p).Perm l:=by
   have:=(JR de kH).filterMap λi=>l[i]?;have e2:=Kc l;unfold j1 at e2 ⊢
   rwa [e2]at this
  have bw:g=r:=by
   have:=m1 _ aF;rw[m2,iS]at this;exact Option.some.inj this
  subst bw;refine A.seq (A.cond (b:=false) vD (λh=>by cases h) λ_=>A.exit ?_);exact cw seen
 ·refine ext _ true _ _ rfl ?_;rw[h8 seen g];obtain⟨ej,gz⟩:=mem_left h0;obtain⟨i,hB⟩:=List.getElem?_of_mem ej;have hB:es[i]?=some e:=by simpa using hB
  have wV:i<l.length:=by have:=(Array.getElem?_eq_some_iff.1 hB).1;omega
  have mm:i∉p:=λh=>by
   have:=(e1 i e hB).2 h;rw[gz]at this;cases this
  have Cr:l[i]?=some (l[i].1,l[i].2):=List.getElem?_eq_getElem wV;have ja:(p++[i]).Nodup:=by
   rw[nodup_append];exact⟨de,by simp,λa aA c ah=>by simp only[List.mem_singleton]at ah;subst ah;exact λe=>mm (e▸aA)⟩
  have E8:∀j∈p++[i],j<l.length:=λj aY=>by
   rcases List.mem_append.1 aY with aY|aY
   ·exact ew j aY
   ·rw[List.mem_singleton.1 aY];exact wV
  have uP:∃hY,B l[i].1 l[i].2 g=some hY∧nx B (j1 l (p++[i])) mO=some hY:=by
   have aK:j1 l (p++[i])=j1 l p++[(l[i].1,l[i].2)]:=by
    unfold j1;rw[List.filterMap_append];simp[filterMap_cons,List.getElem?_eq_getElem wV]
   have e2:nx B (j1 l (p++[i])) mO=B l[i].1 l[i].2 g:=by
    rw[aK,OU,iS];simp only[Option.bind_some,nx];cases B l[i].1 l[i].2 g<;>rfl
   have full:(p++[i]++(List.range l.length).filter λj=>!(p++[i]).contains j).Perm (List.range l.length):=by
    refine JR ?_ λj=>?_
    ·rw[nodup_append];refine⟨ja,nodup_range.filter _,λa aA c ah e=>?_⟩;subst e;have:=(List.mem_filter.1 ah).2;simp only[Bool.not_eq_true',List.contains_eq_mem,decide_eq_false_iff_not]at this;exact this aA
    ·rw[List.mem_append,List.mem_filter,List.mem_range];constructor
     ·rintro(h|h)
      ·exact E8 j h
      ·exact h.1
     ·intro h;by_cases aY:j∈p++[i]
      ·exact .inl aY
      ·exact .inr ⟨h,by simpa using aY⟩
   have pI:=full.filterMap λi=>l[i]?;have dj:=Kc l;unfold j1 at dj;rw[dj,List.filterMap_append]at pI;have aq:=m1 _ pI;rw[m2,OU]at aq;cases bA:nx B (j1 l (p++[i])) mO with
   |none=>unfold j1 at bA;rw[bA]at aq;cases aq
   |some hY=>exact⟨hY,by rw[←e2];exact bA,rfl⟩
  obtain⟨hY,hP,iL⟩:=uP;refine A.seq (A.cond (b:=true) vE (λ_=>A.skip ?_) λh=>by cases h);refine(body seen e i l[i].1 l[i].2 g hY hB Cr hi hP).mono λex g0 aH bP=>?_;cases ex with
  |normal=>
   refine⟨(seen.push e.born,hY),⟨amV _ _ _ _ hP hi,p++[i],ja,E8,λj cC aY=>?_,iL⟩,left_shrinks es seen e h0,bP⟩;rw[contains_push,Bool.or_eq_true,beq_iff_eq,e1 j cC aY,List.mem_append,List.mem_singleton];constructor
   ·rintro(h|h)
    ·exact .inl h
    ·right;have qx:es.toList[j]?=some cC:=by simpa using aY
     have sQ:es.toList[i]?=some e:=by simpa using hB
     have oy:=(List.getElem?_eq_some_iff.1 qx).1;have yl:=(List.getElem?_eq_some_iff.1 sQ).1;have dc:=(List.getElem?_eq_some_iff.1 qx).2;have dg:=(List.getElem?_eq_some_iff.1 sQ).2;have pw:=pairwise_iff_getElem.1 f2;rcases Nat.lt_trichotomy j i with q|q|q
     ·refine absurd ?_ (pw j i (by simpa using oy) (by simpa using yl) q);rw[List.getElem_map,List.getElem_map,dc,dg,h]
     ·exact q
     ·refine absurd ?_ (pw i j (by simpa using yl) (by simpa using oy) q);rw[List.getElem_map,List.getElem_map,dc,dg,h]
   ·rintro(h|h)
    ·exact .inl h
    ·subst h;rw[aY]at hB;cases hB;exact .inr rfl
  |exit id=>exact bP
  |goto l=>exact bP
  |ret=>exact bP
  |panic c=>exact bP
  |outgrown=>exact bP
end
end
section
def kA{α:Type}(e:kC α)(l:List α):W:=.bf false (ar e l)
variable {α:Type}
def ara(e:kC α)(I:bG):bm I (kA e []) (.slice none 0 0):=by
 simp only[kA,ar,map_nil,bm];exact⟨none,0,rfl,by simp,by simp[maxLen],by simp,.inl trivial⟩
variable {E:Nat}
def PY{P:Program}(e:kC α)(h:∀w,(zeroValue E).run P w=.ok (.slice none 0 0) w):∀w,∃v,(zeroValue E).run P w=.ok v w∧∀I,bm I (kA e []) v:=λw=>⟨_,h w,ara e⟩
variable {k:IntKind}
def tD{P:Program}(h:∀w,(zeroValue E).run P w=.ok (.int k 0) w):∀w,∃v,(zeroValue E).run P w=.ok v w∧∀I,bm I (c9 k 0) v:=λw=>⟨_,h w,λI=>by simp[c9,bm]⟩
def aq9{P:Program}(h:∀w,(zeroValue E).run P w=.ok (.bool false) w):∀w,∃v,(zeroValue E).run P w=.ok v w∧∀I,bm I (ih false) v:=λw=>⟨_,h w,λI=>by simp[ih,bm]⟩
section
variable {P:Program}
def Kg{α:Type}(bp fH fk be sz e2 t:Nat)(k:IntKind)(l:List (Int×List α))(n:Int)(enc:α→List W)(ids:dI)(op:Op)(env:au)(σ:ag):Option (dw×di):=match op with
 |.lookup T x y false=>(match env.dx x with
  |some (.dm d)=>(match env.dx y with
   |some (.int er jj)=>(match σ.get d with
    |some (.fQ K E e keys none js)=>(match σ.get e with
     |some (.cL fh)=>bif Nat.beq T bp&&Nat.beq K fH&&Nat.beq E fk&&(σ.get t).isNone&&(σ.get e2).isNone&&!Nat.beq t e2&&!ids.contains t&&!ids.contains e2&&σ.clean [t,e2].contains then
       some (.e [d,e,e2,t] [t,e2] (.own t) ((t,.slice be sz (((az l n).getD []).map enc) 0 false)::(e2,.cL (hR be sz enc (mF l n)))::(d,.fQ K E e2 (fL k l) (o5 l n t) js)::σ.minus [d,e]),([.int er jj,.agg keys],[(1,.cL fh)]))else none
     |_=>none)
    |_=>none)
   |_=>none)
  |_=>none)
 |_=>none
def afF{α:Type}{bp fH fk be sz e2 t:Nat}{k:IntKind}{l:List (Int×List α)}{n:Int}{enc:α→List W}(aT:k4 P bp fH fk k)(hz:∀w,(zeroValue fk).run P w=.ok (.slice none 0 0) w){o:Oper}{N:Nat}{ids:dI}{env:au}{σ:ag}{s:dw}{bc:di}
  (h:Kg bp fH fk be sz e2 t k l n enc ids o.op env σ=some (s,bc)) (he:bc=([.int k n,.agg (fL k l)],[(1,.cL (hR be sz enc l))])):gj ⟨P,N,ids⟩ o env σ s:=by
 cases an:o.op<;>rw[an]at h
 case lookup T x y ok=>
  cases ok with
  |true=>cases h
  |false=>
   simp only[Kg]at h;split at h
   ·rename_i d u;split at h
    ·rename_i er jj ai;split at h
     ·rename_i K E e keys js af;split at h
      ·rename_i fh U;generalize ah:(Nat.beq T bp&&_&&_&&_&&_&&_&&_&&_&&_)=eU at h;cases eU with
       |false=>cases h
       |true=>
        simp only[Bool.and_eq_true,Bool.not_eq_true']at ah;obtain⟨⟨⟨⟨⟨⟨⟨⟨bk,bK⟩,cq⟩,en⟩,fK⟩,hj⟩,jU⟩,lI⟩,lW⟩:=ah;have:=Nat.eq_of_beq_eq_true bk;subst this;have:=Nat.eq_of_beq_eq_true bK;subst this;have:=Nat.eq_of_beq_eq_true cq;subst this;cases h;simp only[Prod.mk.injEq,List.cons.injEq,W.int.injEq,W.agg.injEq,cE.cL.injEq,and_true,true_and]at he;obtain⟨⟨⟨rfl,rfl⟩,rfl⟩,rfl⟩:=he;refine⟨axR l enc an (avz u) (avz ai) af U aT hz (by simpa using en) (by simpa using fK) (λe=>?_) jU lI lW,?_⟩
        ·subst e;rw[Nat.beq_refl]at hj;cases hj
        ·simp only[all_cons,all_nil,jU,lI];rfl
      ·cases h
     ·cases h
    ·cases h
   ·cases h
 all_goals (simp only[Kg]at h;cases h)
def Fh{α:Type}{bp fH fk:Nat}{k:IntKind}(be sz e2 t:Nat)(l:List (Int×List α))(n:Int)(enc:α→List W)(aT:k4 P bp fH fk k)(hz:∀w,(zeroValue fk).run P w=.ok (.slice none 0 0) w):Hint P:=
 .gs true ([.int k n,.agg (fL k l)],[(1,.cL (hR be sz enc l))]) (Kg bp fH fk be sz e2 t k l n enc) λ_ _ _ _ _ _ _ h he=>afF aT hz h he
def VB(env:au)(σ:ag)(be sz:Nat)(z:Operand):Option (dI×List (List W)):=match env.dx z with
 |some .c6=>some ([],[])
 |some (.own j)=>(match σ.get j with
  |some (.slice oq xO xs 0 _)=>bif Nat.beq oq be&&Nat.beq xO sz then some ([j],xs)else none
  |_=>none)
 |_=>none
def Gc{α:Type}(bp fH fk be sz e2:Nat)(k:IntKind)(gD:List (Int×List α))(enc:α→List W)(ids:dI)(T:Nat)(x y z:Operand)(env:au)(σ:ag):Option (dw×di×Option (j4×Nat)):=match env.dx x with
  |some (.dm d)=>(match env.dx y with
   |some (.int er jj)=>(match σ.get d with
    |some (.fQ K E e keys dk js)=>(match σ.get e with
     |some (.cL fh)=>(match VB env σ be sz z with
      |some (mK,xs)=>bif Nat.beq T bp&&Nat.beq K fH&&Nat.beq E fk&&(σ.get e2).isNone&&!ids.contains e2&&σ.clean [e2].contains then
       some (.e (d::e::e2::mK) [e2] .undef ((e2,.cL (hR be sz enc gD))::(d,.fQ K E e2 (fL k gD) none none)::σ.minus (d::e::mK)),([.int er jj,.agg keys,.bf false xs],[(1,.cL fh)]),dk)else none
      |none=>none)
     |_=>none)
    |_=>none)
   |_=>none)
  |_=>none
def afG{α:Type}{bp fH fk be sz e2:Nat}{k:IntKind}{ks:List W}{l gD:List (Int×List α)}{n:Int}{enc:α→List W}{row:List α}(aT:k4 P bp fH fk k){o:Oper}{N:Nat}{ids:dI}{env:au}{σ:ag}{s:dw}{bc:di}{dk:Option (j4×Nat)}{T:Nat}{x y z:Operand}
  (an:o.op=.mapUpdate T x y z∨o.op=.insert T x y z) (h:Gc bp fH fk be sz e2 k gD enc ids T x y z env σ=some (s,bc,dk)) (he:bc=([.int k n,.agg ks,.bf false (row.map enc)],[(1,.cL (hR be sz enc l))])) (Aa:fL k l=ks) (Ab:bH l n row=gD) (b0:dk=none∨∃t,dk=o5 l n t) (i4:row.map enc=[]→row=[]):gj ⟨P,N,ids⟩ o env σ s:=by
 subst Aa Ab;simp only[Gc]at h;split at h
 ·rename_i d u;split at h
  ·rename_i er jj ai;split at h
   ·rename_i K E e keys atO js af;split at h
    ·rename_i fh U;split at h
     ·rename_i mK xs aI;generalize ah:(Nat.beq T bp&&_&&_&&_&&_&&_)=eU at h;cases eU with
      |false=>cases h
      |true=>
       simp only[Bool.and_eq_true,Bool.not_eq_true']at ah;obtain⟨⟨⟨⟨⟨bk,bK⟩,cq⟩,en⟩,fK⟩,hj⟩:=ah;have:=Nat.eq_of_beq_eq_true bk;subst this;have:=Nat.eq_of_beq_eq_true bK;subst this;have:=Nat.eq_of_beq_eq_true cq;subst this;cases h;simp only[Prod.mk.injEq,List.cons.injEq,W.int.injEq,W.agg.injEq,W.bf.injEq,cE.cL.injEq,and_true,true_and]at he;obtain⟨⟨⟨rfl,rfl⟩,rfl,rfl⟩,rfl⟩:=he;simp only[VB]at aI;split at aI
       ·rename_i hz;simp only[Option.some.injEq,Prod.mk.injEq]at aI;obtain⟨rfl,aI⟩:=aI;exact⟨awQ (cT:=false) [] l enc row an (avz u) (avz ai) (.inl ⟨avz hz,i4 aI.symm,rfl⟩) af b0 U aT (by simpa using en) fK hj,by simp only[all_cons,all_nil,fK];rfl⟩
       ·rename_i j hz;split at aI
        ·rename_i oq xO kU cT aY;cases bP:(Nat.beq oq be&&Nat.beq xO sz)with
         |false=>rw[bP]at aI;cases aI
         |true=>
          rw[bP]at aI;simp only[cond_true,Option.some.injEq,Prod.mk.injEq]at aI;obtain⟨rfl,rfl⟩:=aI;simp only[Bool.and_eq_true]at bP;have:=Nat.eq_of_beq_eq_true bP.1;subst this;have:=Nat.eq_of_beq_eq_true bP.2;subst this;exact⟨awQ (cT:=cT) [j] l enc row an (avz u) (avz ai) (.inr ⟨j,avz hz,aY,rfl⟩) af b0 U aT (by simpa using en) fK hj,by simp only[all_cons,all_nil,fK];rfl⟩
        ·cases aI
       ·cases aI
     ·cases h
    ·cases h
   ·cases h
  ·cases h
 ·cases h
def vf:Option (j4×Nat)→W
 |none=>.fP
 |some (none,t)=>.own t
 |some (some i,t)=>.ptr t i
def abL:∀{a b:Option (j4×Nat)},vf a=vf b→a=b
 |none,none,_=>rfl
 |some (none,t),some (none,aR),h=>by simp only[vf,W.own.injEq]at h;rw[h]
 |some (some i,t),some (some j,aR),h=>by simp only[vf,W.ptr.injEq]at h;rw[h.1,h.2]
 |none,some (none,_),h|none,some (some _,_),h|some (none,_),none,h|some (some _,_),none,h|some (none,_),some (some _,_),h|some (some _,_),some (none,_),h=>by simp[vf]at h
def C7{α:Type}(bp fH fk be sz e2:Nat)(k:IntKind)(gD:List (Int×List α))(enc:α→List W)(ids:dI)(op:Op)(env:au)(σ:ag):Option (dw×di):=match op with
 |.mapUpdate T x y z=>(match Gc bp fH fk be sz e2 k gD enc ids T x y z env σ with|some (s,bc,dk)=>some (s,(vf dk::bc.1,bc.2))|none=>none)
 |.insert T x y z=>(match Gc bp fH fk be sz e2 k gD enc ids T x y z env σ with|some (s,bc,dk)=>some (s,(vf dk::bc.1,bc.2))|none=>none)
 |_=>none
def Tj{α:Type}{bp fH fk be sz e2:Nat}{k:IntKind}{ks:List W}{l gD:List (Int×List α)}{n:Int}{enc:α→List W}{row:List α}{aa:Option (j4×Nat)}(aT:k4 P bp fH fk k)(Aa:fL k l=ks)(Ab:bH l n row=gD)(b0:aa=none∨∃t,aa=o5 l n t){o:Oper}{N:Nat}{ids:dI}{env:au}{σ:ag}{s:dw}{bc:di}
  (h:C7 bp fH fk be sz e2 k gD enc ids o.op env σ=some (s,bc)) (he:bc=([vf aa,.int k n,.agg ks,.bf false (row.map enc)],[(1,.cL (hR be sz enc l))])):gj ⟨P,N,ids⟩ o env σ s:=by
 have i4:row.map enc=[]→row=[]:=λh=>map_eq_nil_iff.1 h;have key:∀{T:Nat} {x y z:Operand} (dk:Option (j4×Nat)) (s9:di),(o.op=.mapUpdate T x y z∨o.op=.insert T x y z)→Gc bp fH fk be sz e2 k gD enc ids T x y z env σ=some (s,s9,dk)→bc=(vf dk::s9.1,s9.2)→gj ⟨P,N,ids⟩ o env σ s:=by
  intro T x y z dk s9 an D aq;rw[aq]at he;simp only[Prod.mk.injEq,List.cons.injEq]at he;obtain⟨⟨aK,wM⟩,dj⟩:=he;refine afG aT an D (Prod.ext wM dj) Aa Ab ?_ i4;rw[abL aK];exact b0
 cases an:o.op<;>rw[an]at h
 case mapUpdate T x y z=>
  simp only[C7]at h;split at h
  ·rename_i dh s9 dk D;cases h;exact key dk s9 (.inl an) D rfl
  ·cases h
 case insert T x y z=>
  simp only[C7]at h;split at h
  ·rename_i dh s9 dk D;cases h;exact key dk s9 (.inr an) D rfl
  ·cases h
 all_goals (simp only[C7]at h;cases h)
def II{α:Type}{bp fH fk:Nat}{k:IntKind}(be sz e2:Nat)(l:List (Int×List α))(n:Int)(enc:α→List W)(row:List α)(aT:k4 P bp fH fk k):Hint P:=
 .gs true ([vf none,.int k n,.agg (fL k l),.bf false (row.map enc)],[(1,.cL (hR be sz enc l))]) (C7 bp fH fk be sz e2 k (bH l n row) enc) λ_ _ _ _ _ _ _ h he=>Tj aT rfl rfl (.inl rfl) h he
def HO{α:Type}{bp fH fk:Nat}{k:IntKind}(be sz e2:Nat)(l:List (Int×List α))(n:Int)(enc:α→List W)(row:List α)(t:Nat)(aT:k4 P bp fH fk k):Hint P:=
 .gs true ([vf (o5 l n t),.int k n,.agg (fL k l),.bf false (row.map enc)],[(1,.cL (hR be sz enc (mF l n)))]) (C7 bp fH fk be sz e2 k (bH l n row) enc) λ_ _ _ _ _ _ _ h he=>Tj aT (QS k l n) (Rs l n row) (.inr ⟨t,(aaw l n t).symm⟩) h he
def Ji{α:Type}(bp:Nat)(k:IntKind)(l:List (Int×α))(n:Int)(enc:α→W)(z:α)(op:Op)(env:au)(σ:ag):Option (dw×di):=match op with
 |.lookup T x y ok=>(match env.dx x with
  |some (.c7 bL)=>(match env.dx y with
   |some (.int er jj)=>bif Nat.beq T bp then some (.y [] (bif ok then .c5 [enc ((az l n).getD z),.bool (az l n).isSome]else enc ((az l n).getD z)),([.c7 bL,.int er jj],[]))else none
   |_=>none)
  |some (.dm d)=>(match env.dx y with
   |some (.int er jj)=>(match σ.get d with
    |some (.hM es clock K E bL)=>bif Nat.beq T bp then some (.y [d] (bif ok then .c5 [enc ((az l n).getD z),.bool (az l n).isSome]else enc ((az l n).getD z)),([.c7 bL,.int er jj],[]))else none
    |_=>none)
   |_=>none)
  |_=>none)
 |_=>none
def awX{G:cR}{o:Oper}{ev:Operand→W}{σ:ag}{α:Type}{T K E nX qQ d:Nat}{es:ia}{clock:Nat}{k:IntKind}{x y:Operand}{ok:Bool}{n:Int}(l:List (Int×α))(enc:α→W)(z:α)(h:o.op=.lookup T x y ok)(u:ev x=.dm d)(ai:ev y=.int k n)(af:σ.get d=some (.hM es clock nX qQ (bM k enc l)))
  (aT:k4 G.P T K E k) (hz:∀w,∃v,(zeroValue E).run G.P w=.ok v w∧∀I,bm I (enc z) v) :
  Yields G o ev σ [] [d] (bif ok then .c5 [enc ((az l n).getD z),.bool (az l n).isSome]else enc ((az l n).getD z)):=
 .pure λaH cx I β w bn c3 av hop=>by
  have h1:=hop x (by simp[h,Op.operands]);rw[u]at h1
  have D:=hop y (by simp[h,Op.operands]);rw[ai]at D;have D:=kY D
  exact Pk l enc z h (aa2 av (by rw[c3 d (by simp)];exact af) h1) D aT hz
def agA{α:Type}{bp fH fk:Nat}{k:IntKind}{l:List (Int×α)}{n:Int}{enc:α→W}{z:α}(aT:k4 P bp fH fk k)(hz:∀w,∃v,(zeroValue fk).run P w=.ok v w∧∀I,bm I (enc z) v){o:Oper}{N:Nat}{ids:dI}{env:au}{σ:ag}{s:dw}{bc:di}
  (h:Ji bp k l n enc z o.op env σ=some (s,bc)) (he:bc=([.c7 (bM k enc l),.int k n],[])):gj ⟨P,N,ids⟩ o env σ s:=by
 cases an:o.op<;>rw[an]at h
 case lookup T x y ok=>
  simp only[Ji]at h;split at h
  ·rename_i bL u;split at h
   ·rename_i er jj ai;cases U:Nat.beq T bp with
    |false=>rw[U]at h;cases h
    |true=>
     rw[U]at h;have:=Nat.eq_of_beq_eq_true U;subst this;cases h;simp only[Prod.mk.injEq,List.cons.injEq,W.int.injEq,W.c7.injEq,and_true]at he;obtain⟨rfl,rfl,rfl⟩:=he;exact aw1 l enc z an (avz u) (avz ai) aT hz
   ·cases h
  ·rename_i d u;split at h
   ·rename_i er jj ai;split at h
    ·rename_i es clock K E bL af;cases U:Nat.beq T bp with
     |false=>rw[U]at h;cases h
     |true=>
      rw[U]at h;have:=Nat.eq_of_beq_eq_true U;subst this;cases h;simp only[Prod.mk.injEq,List.cons.injEq,W.int.injEq,W.c7.injEq,and_true]at he;obtain⟨rfl,rfl,rfl⟩:=he;exact awX l enc z an (avz u) (avz ai) af aT hz
    ·cases h
   ·cases h
  ·cases h
 all_goals (simp only[Ji]at h;cases h)
def nK{α:Type}{bp fH fk:Nat}{k:IntKind}(l:List (Int×α))(n:Int)(enc:α→W)(z:α)(aT:k4 P bp fH fk k)(hz:∀w,∃v,(zeroValue fk).run P w=.ok v w∧∀I,bm I (enc z) v):Hint P:=
 .gs false ([.c7 (bM k enc l),.int k n],[]) (λ_=>Ji bp k l n enc z) λ_ _ _ _ _ _ _ h he=>agA aT hz h he
def Jz(bp:Nat)(n:Int)(op:Op)(env:au)(_:ag):Option (dw×di):=match op with
 |.call c=>(match c.callee with
  |.builtin b=>(match b with
   |.len=>(match c.args.toList with
    |[x]=>(match c.argTypes.toList with
     |[T]=>(match env.dx x with
      |some (.c7 bL)=>bif Nat.beq T bp then some (.y [] (.int .i64 n),([.c7 bL],[]))else none
      |_=>none)
     |_=>none)
    |_=>none)
   |_=>none)
  |_=>none)
 |_=>none
def agB{α:Type}{bp fH fk:Nat}{k:IntKind}{l:List (Int×α)}{enc:α→W}(aT:k4 P bp fH fk k){o:Oper}{N:Nat}{ids:dI}{env:au}{σ:ag}{s:dw}{bc:di}
  (h:Jz bp (l.length:Int) o.op env σ=some (s,bc)) (he:bc=([.c7 (bM k enc l)],[])):gj ⟨P,N,ids⟩ o env σ s:=by
 cases an:o.op<;>rw[an]at h
 case call c=>
  obtain⟨cl,args,tys⟩:=c;simp only[Jz]at h;split at h
  ·rename_i b;split at h
   ·split at h
    ·rename_i x n5;have:args=#[x]:=Array.toList_inj.1 (by simpa using n5);subst this;split at h
     ·rename_i T Bi;have:tys=#[T]:=Array.toList_inj.1 (by simpa using Bi);subst this;split at h
      ·rename_i bL u;cases U:Nat.beq T bp with
       |false=>rw[U]at h;cases h
       |true=>
        rw[U]at h;have:=Nat.eq_of_beq_eq_true U;subst this;cases h;simp only[Prod.mk.injEq,List.cons.injEq,W.c7.injEq,and_true]at he;subst he;exact axf l enc an rfl (avz u) aT.gT
      ·cases h
     ·cases h
    ·cases h
   ·cases h
  ·cases h
 all_goals (simp only[Jz]at h;cases h)
def ang{α:Type}{bp fH fk:Nat}{k:IntKind}(l:List (Int×α))(enc:α→W)(aT:k4 P bp fH fk k):Hint P:=
 .gs false ([.c7 (bM k enc l)],[]) (λ_=>Jz bp (l.length:Int)) λ_ _ _ _ _ _ _ h he=>agB (l:=l) (enc:=enc) aT h he
def Ij{α:Type}(bp fH:Nat)(k:IntKind)(l:List (Int×α))(n:Int)(enc:α→W)(op:Op)(env:au)(σ:ag):Option (dw×di):=match op with
 |.call c=>(match c.callee with
  |.builtin b=>(match b with
   |.delete=>(match c.args.toList with
    |[x,y]=>(match c.argTypes.toList with
     |[T,K]=>(match env.dx x with
      |some (.dm d)=>(match env.dx y with
       |some (.int er jj)=>(match σ.get d with
        |some (.map nX E bL)=>bif Nat.beq T bp&&Nat.beq K fH&&Nat.beq nX fH then some (.e [d] [] (.c5 []) (σ.set d (.map nX E (bM k enc (pP l n)))),([.c7 bL,.int er jj],[(0,.cells E [])]))else none
        |_=>none)
       |_=>none)
      |_=>none)
     |_=>none)
    |_=>none)
   |_=>none)
  |_=>none)
 |_=>none
def agC{α:Type}{bp fH fk:Nat}{k:IntKind}{l:List (Int×α)}{n:Int}{enc:α→W}(aT:k4 P bp fH fk k){o:Oper}{N:Nat}{ids:dI}{env:au}{σ:ag}{s:dw}{bc:di}
  (h:Ij bp fH k l n enc o.op env σ=some (s,bc)) (he:bc=([.c7 (bM k enc l),.int k n],[(0,.cells fk [])])):gj ⟨P,N,ids⟩ o env σ s:=by
 cases an:o.op<;>rw[an]at h
 case call c=>
  obtain⟨cl,args,tys⟩:=c;simp only[Ij]at h;split at h
  ·rename_i b;split at h
   ·split at h
    ·rename_i x y n5;have:args=#[x,y]:=Array.toList_inj.1 (by simpa using n5);subst this;split at h
     ·rename_i T K Bi;have:tys=#[T,K]:=Array.toList_inj.1 (by simpa using Bi);subst this;split at h
      ·rename_i d u;split at h
       ·rename_i er jj ai;split at h
        ·rename_i nX E bL af;cases U:(Nat.beq T bp&&Nat.beq K fH&&Nat.beq nX fH)with
         |false=>rw[U]at h;cases h
         |true=>
          rw[U]at h;simp only[Bool.and_eq_true]at U;obtain⟨⟨ec,dY⟩,hb⟩:=U;have:=Nat.eq_of_beq_eq_true ec;subst this;have:=Nat.eq_of_beq_eq_true dY;subst this;have:=Nat.eq_of_beq_eq_true hb;subst this;cases h;simp only[Prod.mk.injEq,List.cons.injEq,W.int.injEq,W.c7.injEq,cE.cells.injEq,and_true,true_and]at he;obtain⟨⟨rfl,rfl,rfl⟩,rfl⟩:=he;exact⟨axH l enc an (avz u) (avz ai) af aT,rfl⟩
        ·cases h
       ·cases h
      ·cases h
     ·cases h
    ·cases h
   ·cases h
  ·cases h
 all_goals (simp only[Ij]at h;cases h)
def jY{α:Type}{bp fH fk:Nat}{k:IntKind}(l:List (Int×α))(n:Int)(enc:α→W)(aT:k4 P bp fH fk k):Hint P:=
 .gs true ([.c7 (bM k enc l),.int k n],[(0,.cells fk [])]) (λ_=>Ij bp fH k l n enc) λ_ _ _ _ _ _ _ h he=>agC aT h he
def JX(bp ck:Nat)(es:ia)(clock:Nat)(ids:dI)(op:Op)(env:au)(σ:ag):Option (dw×di):=match op with
 |.range T x=>(match env.dx x with
  |some (.dm cW)=>(match σ.get cW with
   |some j0=>(match j0.yG with
    |some (hA,nZ)=>bif Nat.beq T bp&&!ids.contains ck&&σ.clean [ck].contains then some (.e [ck] [ck] (.ptr ck 0) ((ck,.iter cW clock clock #[])::σ),([],[(0,.hM hA nZ 0 0 [])]))else none
    |_=>none)
   |_=>none)
  |_=>none)
 |_=>none
def agD{bp fH fk ck clock:Nat}{k:IntKind}{es:ia}(aT:k4 P bp fH fk k){o:Oper}{N:Nat}{ids:dI}{env:au}{σ:ag}{s:dw}{bc:di}
  (h:JX bp ck es clock ids o.op env σ=some (s,bc)) (he:bc=([],[(0,.hM es clock 0 0 [])])):gj ⟨P,N,ids⟩ o env σ s:=by
 cases an:o.op<;>rw[an]at h
 case range T x=>
  simp only[JX]at h;split at h
  ·rename_i cW u;split at h
   ·rename_i j0 af;split at h
    ·rename_i hA nZ aJ;cases U:(Nat.beq T bp&&!ids.contains ck&&σ.clean [ck].contains)with
     |false=>rw[U]at h;cases h
     |true=>
      rw[U]at h;simp only[Bool.and_eq_true,Bool.not_eq_true']at U;obtain⟨⟨ec,dY⟩,hb⟩:=U;have:=Nat.eq_of_beq_eq_true ec;subst this;cases h;simp only[Prod.mk.injEq,List.cons.injEq,cE.hM.injEq,and_true,true_and]at he;obtain⟨rfl,rfl⟩:=he;exact⟨dD.range an (avz u) af aJ aT.gT dY hb,by simp only[all_cons,all_nil,dY];rfl⟩
    ·cases h
   ·cases h
  ·cases h
 all_goals (simp only[JX]at h;cases h)
def XD{bp fH fk:Nat}{k:IntKind}(ck:Nat)(es:ia)(clock:Nat)(aT:k4 P bp fH fk k):Hint P:=
 .gs true ([],[(0,.hM es clock 0 0 [])]) (JX bp ck es clock) λ_ _ _ _ _ _ _ h he=>agD aT h he
def x7(ck cW:Nat)(a:W)(rows:Bool)(op:Op)(env:au)(σ:ag):Option (dw×di):=match op with
 |.entry x=>(match env.dx x with
  |some (.ptr vw 0)=>(match σ.get ck with
   |some JF=>(match σ.get cW with
    |some (.hM es c K E bL)=>bif Nat.beq vw ck&&!rows then some (.y [ck,cW] a,([.c7 bL],[(0,JF),(1,.hM es c 0 0 [])]))else none
    |some (.fQ K E e keys dk (some (es,c)))=>bif Nat.beq vw ck&&rows then some (.y [ck,cW] a,([.agg keys],[(0,JF),(1,.hM es c 0 0 [])]))else none
    |_=>none)
   |_=>none)
  |_=>none)
 |_=>none
def agE{α:Type}{ck cW clock i:Nat}{k:IntKind}{es:ia}{seen:pE}{e:MapEntry}{n:Int}{v:α}{l:List (Int×α)}{enc:α→W}(iG:es[i]?=some e)(aJ:l[i]?=some (n,v)){o:Oper}{N:Nat}{ids:dI}{env:au}{σ:ag}{s:dw}{bc:di}
  (h:x7 ck cW (.c5 [.int k n,enc v]) false o.op env σ=some (s,bc)) (he:bc=([.c7 (bM k enc l)],[(0,.iter cW clock clock (seen.push e.born)),(1,.hM es clock 0 0 [])])):gj ⟨P,N,ids⟩ o env σ s:=by
 cases an:o.op<;>rw[an]at h
 case entry x=>
  simp only[x7]at h;split at h
  ·rename_i vw u;split at h
   ·rename_i JF h1;split at h
    ·rename_i hA c K E bL af;cases U:Nat.beq vw ck with
     |false=>rw[U]at h;cases h
     |true=>
      rw[U]at h;have:=Nat.eq_of_beq_eq_true U;subst this;cases h;simp only[Prod.mk.injEq,List.cons.injEq,W.c7.injEq,cE.hM.injEq,and_true,true_and]at he;obtain⟨rfl,rfl,rfl,rfl⟩:=he;exact aw6 l enc an (avz u) h1 af iG aJ
    ·rename_i K E e keys dk hA c af;simp only[Bool.and_false,cond_false]at h;cases h
    ·cases h
   ·cases h
  ·cases h
 all_goals (simp only[x7]at h;cases h)
def Co{α:Type}{es:ia}{i:Nat}{e:MapEntry}{n:Int}{v:α}{l:List (Int×α)}(ck cW clock:Nat)(k:IntKind)(seen:pE)(enc:α→W)(iG:es[i]?=some e)(aJ:l[i]?=some (n,v)):Hint P:=
 .gs false ([.c7 (bM k enc l)],[(0,.iter cW clock clock (seen.push e.born)),(1,.hM es clock 0 0 [])]) (λ_=>x7 ck cW (.c5 [.int k n,enc v]) false) λ_ _ _ _ _ _ _ h he=>agE iG aJ h he
def agF{α:Type}{ck cW clock i:Nat}{k:IntKind}{es:ia}{seen:pE}{e:MapEntry}{n:Int}{l:List (Int×α)}(iG:es[i]?=some e)(aJ:(l.map (·.1))[i]?=some n){o:Oper}{N:Nat}{ids:dI}{env:au}{σ:ag}{s:dw}{bc:di}
  (h:x7 ck cW (.c5 [.int k n,.fP]) true o.op env σ=some (s,bc)) (he:bc=([.agg (fL k l)],[(0,.iter cW clock clock (seen.push e.born)),(1,.hM es clock 0 0 [])])):gj ⟨P,N,ids⟩ o env σ s:=by
 cases an:o.op<;>rw[an]at h
 case entry x=>
  simp only[x7]at h;split at h
  ·rename_i vw u;split at h
   ·rename_i JF h1;split at h
    ·rename_i hA c K E bL af;simp only[Bool.not_true,Bool.and_false,cond_false]at h;cases h
    ·rename_i K E e keys dk hA c af;cases U:Nat.beq vw ck with
     |false=>rw[U]at h;cases h
     |true=>
      rw[U]at h;have:=Nat.eq_of_beq_eq_true U;subst this;cases h;simp only[Prod.mk.injEq,List.cons.injEq,W.agg.injEq,cE.hM.injEq,and_true,true_and]at he;obtain⟨rfl,rfl,rfl,rfl⟩:=he;exact aw7 l an (avz u) h1 af iG aJ
    ·cases h
   ·cases h
  ·cases h
 all_goals (simp only[x7]at h;cases h)
def amE{α:Type}{es:ia}{i:Nat}{e:MapEntry}{n:Int}{l:List (Int×α)}(ck cW clock:Nat)(k:IntKind)(seen:pE)(iG:es[i]?=some e)(aJ:(l.map (·.1))[i]?=some n):Hint P:=
 .gs false ([.agg (fL k l)],[(0,.iter cW clock clock (seen.push e.born)),(1,.hM es clock 0 0 [])]) (λ_=>x7 ck cW (.c5 [.int k n,.fP]) true) λ_ _ _ _ _ _ _ h he=>agF iG aJ h he
end
variable {G:cR}{I:bG}{K cW clock:Nat}{cx:fO}{es:ia}{l:List (Int×α)}{w:World}{β:Nat→Value}{σ:ag}
def an2{enc:α→W}(av:cz G cx I β σ w)(af:σ.get cW=some (.hM es clock K E (bM k enc l)))(aX:β cW≠.nilFunc):es.size=l.length:=by
 have an:=av.c4 cW _ af;simp only[bb,aX,false_or]at an;obtain⟨r,ak,ax,aO,_⟩:=an;have:=O0 _ _ aO;simpa [bM]using this
variable {FJ:List (Int×α)}
def Mn{e:Nat}{dk:Option (j4×Nat)}(av:cz G cx I β σ w)(af:σ.get cW=some (.fQ K E e (fL k l) dk (some (es,clock))))(aX:β cW≠.nilFunc)(aJ:l.map (·.1)=FJ.map (·.1)):es.size=FJ.length:=by
 have an:=av.c4 cW _ af;simp only[bb,aX,false_or]at an;obtain⟨r,hA,lY,Z,cN,ak,ax,aO,aL,bg,bI,b7,cD,dz⟩:=an;cases dz _ rfl;have h1:=bg.length.2;have D:=congrArg List.length aJ;simp[fL]at h1 D;omega
def Pw{α:Type}:∀{l:List (Int×α)} {n:Int} (v:α),(az l n).isSome=true→(bH l n v).map (·.1)=l.map (·.1)
 |[],_,_,h=>by simp[az]at h
 |p::r,n,v,h=>by
  rw[kD]at h;by_cases aF:p.1=n
  ·simp[bH,aF]
  ·rw[if_neg aF]at h;simp[bH,aF,Pw v h]
def agG{i:Nat}{n:Int}{v:α}(h:l.map (·.1)=FJ.map (·.1))(aJ:FJ[i]?=some (n,v)):(l.map (·.1))[i]?=some n:=by rw[h];simp[aJ]
end
section
section
variable {G:cR}{σ:ag}{o:Oper}{ev:Operand→W}
def aay{P:Program}{E:TypeId}{i:TypeInfo}{z KN:Value}{w:World}(hi:P.info? E=some i)(hz:i.zero=some z)(h:(zeroValue E).run P w=.ok KN w):KN=z:=by
 simp[zeroValue,typeInfo,hi,hz]at h;exact h.symm
def dD.makeSlice{T E bytes d:Nat}{x y:Operand}{k er:IntKind}{n:Int}{a:W}{uD:Value}(h:o.op=.makeSlice T x y)(u:ev x=.int k n)(ai:ev y=.int er n)(eZ:kO G.P T E 1 bytes)(fo:nA G.P T E 1 [uD])(aA:∀I,bm I a uD)(bJ:0≤n)(U:n≤4294967296)(yg:bytes≤65536)
  (hi:G.ids.contains d=false) (ah:σ.clean [d].contains=true):i2 G o ev σ [d] [d] (λr aH=>r=.own d∧aH=(d,.slice E 1 (List.replicate n.toNat [a]) 0 false)::σ):=by
 intro cx I β w bn av hop;have h1:=hop x (by simp[h,Op.operands]);rw[u]at h1;have h1:=kY h1
 have D:=hop y (by simp[h,Op.operands]);rw[ai]at D;have D:=kY D
 obtain⟨i,z,hB,ji,hN,nv,tT⟩:=eZ.info;obtain⟨KN,dc,dg⟩:=fo.zero w;have:=aay hB ji dc;subst this;have NM:(i.bytes:Int)*n≤281474976710656:=by
  rw[nv];have h1:(bytes:Int)*n≤(65536:Int)*4294967296:=Int.mul_le_mul (by omega) U bJ (by omega);omega
 have aI:=run_make (P:=G.P) w T E i KN eZ.gT hB ji k er n n bJ (Int.le_refl _) NM (by omega);rw[hN,Nat.mul_one,dg]at aI;have eV:(execOp bn o).run G.P w=.ok (.value (.slice (some ⟨w.heap.size,0,none⟩) n.toNat n.toNat)) (w.alloc (.cells (madeCells #[uD] n.toNat) E)):=by simp[execOp,h,h1,D,aI]
 rw[eV];have aa:=av.qJ (eM:=[d]) (σ2:=σ) (env:=[]) ⟨λ_ _=>rfl,by simpa using hi,rfl,ah,λx u cW n h=>by have:=(avI ah x _ h).1;rw[List.contains_iff_mem.2 u]at this;cases this⟩;have U:∀y,y≠d→hy (gY β [d]) d (.slice (some ⟨w.heap.size,0,none⟩) n.toNat n.toNat) y=β y:=λy ai=>by rw[iu _ _ ai];simp[gY,ai]
 have uN:hy (gY β [d]) d (.slice (some ⟨w.heap.size,0,none⟩) n.toNat n.toNat) d=.slice (some ⟨w.heap.size,0,none⟩) n.toNat n.toNat:=gX _ _ _;refine⟨.own d,_,I,hy (gY β [d]) d (.slice (some ⟨w.heap.size,0,none⟩) n.toNat n.toNat),⟨rfl,rfl⟩,?_,?_,cV.refl I,λy ai=>U y (by simpa using ai),λy ai=>by rw[avA,if_neg (Ne.symm (by simpa using ai))]⟩
 ·simp only[aC,uN,i1,and_self]
 ·refine aa.turn (d:=d) (g1.alloc w _) (.inl av.size) (λx u=>by rw[avA,if_neg (Ne.symm u)]) (λx u Z e=>by
    obtain⟨bc,Z⟩:=Option.isSome_iff_exists.1 Z;exact absurd (aa.uc Z e) (by omega)) (cV.refl I) (λ_ _ _=>rfl) (λhT dM o1=>by rw[av.jG (Nat.le_refl _)]at o1;cases o1) (av.jG (Nat.le_refl _) none)
   (λx u=>iu _ _ u) (.inl (by simpa using hi)) (avY (by simp[gY])) (.inl (by rw[uN];rfl)) λbc cG=>?_
  rw[avA,if_pos rfl]at cG;cases cG;simp only[bb,uN];refine .inr (.inr ⟨w.heap.size,n.toNat,_,by rw[length_replicate],by rw[length_replicate];exact Nat.le_refl _,by simp[maxLen];omega,heap_alloc_new w _,by rw[size_madeCells,Nat.mul_one],?_,λe he=>by rw[List.eq_of_mem_replicate he];rfl,Nat.zero_le _,by simp,λo _=>av.jG (Nat.le_refl _) o,.inl av.size⟩);rw[toList_madeCells_one,length_replicate,Nat.mul_one];have:∀m:Nat,ds I (List.replicate m [a]).flatten (List.replicate m uD):=by
   intro m;induction m with
   |zero=>simp[ds]
   |succ m bu=>
    simp only[List.replicate_succ,flatten_cons,singleton_append,ds];exact⟨_,_,rfl,aA I,bu⟩
  have e:(List.replicate n.toNat uD).take n.toNat=List.replicate n.toNat uD:=by rw[take_of_length_le];simp
  rw[e];exact this _
def aw8{T E N sz d off:Nat}{x y:Operand}{k:IntKind}{i:Int}(h:o.op=.indexAddr T x y)(u:ev x=.ptr d off)(ai:ev y=.int k i)(hu:G.P.underlying T=some (.array N E))(Z:∀w,(sizeOf E).run G.P w=.ok sz w)(hi:0≤i∧i<N):
  Yields G o ev σ [] [] (.ptr d (off+i.toNat*sz)):=
 .pure λaH cx I β w bn c3 av hop=>by
  have h1:=hop x (by simp[h,Op.operands]);rw[u]at h1
  have D:=hop y (by simp[h,Op.operands]);rw[ai]at D;have D:=kY D
  simp only[aC]at h1;obtain⟨b,fu,aq⟩:=h1;have aK:∀w,(underlying T).run G.P w=.ok (.array N E) w:=λw=>by simp[underlying,program,Sem.run,hu]
  exact⟨.pointer (some ⟨b,off+i.toNat*sz,none⟩),by simp[execOp,h,D,aq,Instr.indexAt,Instr.sureAddr,asIntOf,aK,hi,Z,Addr.add],by simp only[aC];exact⟨b,fu,rfl⟩⟩
end
def QZ{p tc:Nat→Option (Nat×Nat)}(h:∀i q,p i=some q→tc i=some q):∀(parts:List (Nat×Value)) (cs cw:jc),Instr.fill p cs parts=some cw→Instr.fill tc cs parts=some cw
 |[],cs,cw,e=>e
 |(i,v)::r,cs,cw,e=>by
  simp only[Instr.fill]at e ⊢;cases aF:p i with
  |none=>rw[aF]at e;cases e
  |some q=>
   rw[aF]at e;rw[h i q aF];simp only at e ⊢;split at e
   ·cases e
   ·rename_i ah;rw[if_neg ah];exact QZ h r _ _ e
def X6(n sz:Nat):List (Nat×Nat):=(List.range n).map λi=>(i*sz,sz)
def Ej{P:Program}{T E n sz:Nat}{zs:dQ}(hz:∀w,∃z,(zeroValue T).run P w=.ok z w∧z.cells=zs.toArray)(hu:P.underlying T=some (.array n E))(Z:∀w,(sizeOf E).run P w=.ok sz w):lD P T zs (X6 n sz) where
 run:=λparts cells w h=>by
  have b3:Instr.fill (λi=>some (i*sz,sz)) zs.toArray parts.toList=some cells:=QZ (λi q bP=>by
   simp only[X6,List.getElem?_map,Option.map_eq_some_iff]at bP;obtain⟨j,h1,rfl⟩:=bP;obtain⟨D,aq⟩:=List.getElem?_eq_some_iff.1 h1;rw[List.getElem_range]at aq;rw[aq]) _ _ _ h
  have aK:∀w,(underlying T).run P w=.ok (.array n E) w:=λw=>by simp[underlying,program,Sem.run,hu]
  obtain⟨z,ji,hN⟩:=hz w;unfold Instr.build;simp only[Sem.run_bind,ji,Result.andThen_ok,aK,Z,hN];simp only[b3];rfl
section
variable {P:Program}
def Jv{α:Type}(bp d E:Nat)(m7:α)(e:α→List W)(n:Int)(ids:dI)(op:Op)(env:au)(σ:ag):Option (dw×di):=match op with
 |.makeSlice T x y=>(match env.dx x with
  |some (.int _ hp)=>(match env.dx y with
   |some (.int _ hh)=>bif Nat.beq T bp&&!ids.contains d&&σ.clean [d].contains then some (.e [d] [d] (.own d) ((d,.slice E 1 ((List.replicate n.toNat m7).map e) 0 false)::σ),([.int .i64 hp,.int .i64 hh],[]))else none
   |_=>none)
  |_=>none)
 |_=>none
def agJ{α:Type}{bp E bytes d:Nat}{m7:α}{e:α→List W}{n:Int}{a:W}{uD:Value}(eZ:kO P bp E 1 bytes)(fo:nA P bp E 1 [uD])(mV:e m7=[a])(aA:∀I,bm I a uD)(bJ:0≤n)(U:n≤4294967296)(yg:bytes≤65536){o:Oper}{N:Nat}{ids:dI}{env:au}{σ:ag}{s:dw}{bc:di}
  (h:Jv bp d E m7 e n ids o.op env σ=some (s,bc)) (he:bc=([.int .i64 n,.int .i64 n],[])):gj ⟨P,N,ids⟩ o env σ s:=by
 cases an:o.op<;>rw[an]at h
 case makeSlice T x y=>
  simp only[Jv]at h;split at h
  ·rename_i gy hp u;split at h
   ·rename_i cn hh ai;cases ah:(Nat.beq T bp&&!ids.contains d&&σ.clean [d].contains)with
    |false=>rw[ah]at h;cases h
    |true=>
     rw[ah]at h;simp only[Bool.and_eq_true,Bool.not_eq_true']at ah;obtain⟨⟨ec,dY⟩,hb⟩:=ah;have:=Nat.eq_of_beq_eq_true ec;subst this;cases h;simp only[Prod.mk.injEq,List.cons.injEq,W.int.injEq,and_true,true_and]at he;obtain⟨rfl,rfl⟩:=he;rw[List.map_replicate,mV];exact⟨dD.makeSlice an (avz u) (avz ai) eZ fo aA bJ U yg dY hb,by simp only[all_cons,all_nil,dY];rfl⟩
   ·cases h
  ·cases h
 all_goals (simp only[Jv]at h;cases h)
def Af{α:Type}{bp E bytes:Nat}{a:W}{uD:Value}(d:Nat)(m7:α)(e:α→List W)(n:Int)(eZ:kO P bp E 1 bytes)(fo:nA P bp E 1 [uD])(mV:e m7=[a])(aA:∀I,bm I a uD)(aX:(decide (0≤n)&&decide (n≤4294967296))=true)(yg:bytes≤65536):Hint P:=
 .gs true ([.int .i64 n,.int .i64 n],[]) (Jv bp d E m7 e n) λ_ _ _ _ _ _ _ h he=>by
  simp only[Bool.and_eq_true,decide_eq_true_eq]at aX;exact agJ eZ fo mV aA aX.1 aX.2 yg h he
def Ih(bp:Nat)(zs:dQ)(gm:List (Nat×Nat))(op:Op)(env:au):Option (dw×di):=match op with
 |.build T parts=>(match env.u9 parts.toList with
  |some ps=>(match A8 gm (s5 zs) ps with
   |some cs=>bif Nat.beq T bp then some (.y [] (.agg cs),([],[]))else none
   |none=>none)
  |none=>none)
 |_=>none
def agK{bp:Nat}{zs:dQ}{gm:List (Nat×Nat)}(fo:lD P bp zs gm){o:Oper}{N:Nat}{ids:dI}{env:au}{σ:ag}{s:dw}{bc:di}(h:Ih bp zs gm o.op env=some (s,bc)):gj ⟨P,N,ids⟩ o env σ s:=by
 cases an:o.op<;>rw[an]at h
 case build T parts=>
  simp only[Ih]at h;split at h
  ·rename_i ps aF;split at h
   ·rename_i cs bA;cases ah:Nat.beq T bp with
    |false=>rw[ah]at h;cases h
    |true=>
     rw[ah]at h;have:=Nat.eq_of_beq_eq_true ah;subst this;cases h;exact b4.build an fo aF bA
   ·cases h
  ·cases h
 all_goals (simp only[Ih]at h;cases h)
def sM{bp:Nat}{zs:dQ}{gm:List (Nat×Nat)}(fo:lD P bp zs gm):Hint P:=.gs false ([],[]) (λ_ op env _=>Ih bp zs gm op env) λ_ _ _ _ _ _ _ h _=>agK fo h
def IX(bp x0 sz:Nat)(op:Op)(env:au):Option (dw×di):=match op with
 |.indexAddr T x y=>(match env.dx x with
  |some (.ptr d off)=>(match env.dx y with
   |some (.int _ i)=>bif Nat.beq T bp&&(decide (0≤i)&&decide (i<(x0:Int)))then some (.y [] (.ptr d (off+i.toNat*sz)),([],[]))else none
   |_=>none)
  |_=>none)
 |_=>none
def agL{bp x0 E sz:Nat}(hu:P.underlying bp=some (.array x0 E))(Z:∀w,(sizeOf E).run P w=.ok sz w){o:Oper}{N:Nat}{ids:dI}{env:au}{σ:ag}{s:dw}{bc:di}(h:IX bp x0 sz o.op env=some (s,bc)):gj ⟨P,N,ids⟩ o env σ s:=by
 cases an:o.op<;>rw[an]at h
 case indexAddr T x y=>
  simp only[IX]at h;split at h
  ·rename_i d off u;split at h
   ·rename_i k i ai;cases ah:(Nat.beq T bp&&(decide (0≤i)&&decide (i<(x0:Int))))with
    |false=>rw[ah]at h;cases h
    |true=>
     rw[ah]at h;simp only[Bool.and_eq_true,decide_eq_true_eq]at ah;have:=Nat.eq_of_beq_eq_true ah.1;subst this;cases h;exact aw8 an (avz u) (avz ai) hu Z ah.2
   ·cases h
  ·cases h
 all_goals (simp only[IX]at h;cases h)
def vH{bp x0 E sz:Nat}(hu:P.underlying bp=some (.array x0 E))(Z:∀w,(sizeOf E).run P w=.ok sz w):Hint P:=.gs false ([],[]) (λ_ op env _=>IX bp x0 sz op env) λ_ _ _ _ _ _ _ h _=>agL hu Z h
end
end
section
def encS{α:Type}(T:TypeId)(sz:Nat)(enc:α→List W)(l:List (List α)):List jo:=l.map λr=>.sl T sz (r.map enc)
def PI{α:Type}{T:TypeId}{sz:Nat}{enc:α→List W}(l:List (List α))(i:Nat)(r:List α):encS T sz enc (l.set i r)=(encS T sz enc l).set i (.sl T sz (r.map enc)):=by simp[encS,List.map_set]
section weak
variable {G:cR}{env:au}{σ:ag}
def axz{α:Type}{d e T n:Nat}(be sz:Nat)(enc:α→List W)(aX:0<n)(af:σ.get d=some (.slice T 1 (List.replicate n [.c6]) 0 false))(he:σ.get e=none)(hi:G.ids.contains e=false)(ah:env.clean [e].contains=true)(Z:σ.clean [e].contains=true):
  cB G env σ env ((e,.cL (encS be sz enc (List.replicate n [])))::(d,.e9 T e n none)::σ.minus [d]):=λcx I β a w h b3=>by
 have jY:d≠e:=λcC=>by subst cC;rw[he]at af;cases af
 have sQ:e∉G.ids:=by simpa using hi
 let mU:jc:=(List.replicate n (Value.slice none 0 0)).toArray
 refine⟨I,hy β e (.tuple mU),?_,HN b3 ah λy ai=>iu β _ ai⟩;have lH:hy β e (.tuple mU) e=.tuple mU:=gX _ _ _;have mu:hy β e (.tuple mU) d=β d:=iu β _ jY
 have Ba:∀c,c∉dA (Value.tuple mU):=λc ah=>by
  rw[pW]at ah;obtain⟨aR,hu,nt⟩:=List.mem_filterMap.1 ah;have:aR=Value.slice none 0 0:=List.eq_of_mem_replicate (by simpa [mU]using hu);rw[this]at nt;cases nt
 have mL:∀y,y∈[d,e]→∀o,ag.get ((e,cE.cL (encS be sz enc (List.replicate n [])))::(d,.e9 T e n none)::σ.minus [d]) y=some o→(y=d∧o=.e9 T e n none)∨(y=e∧o=.cL (encS be sz enc (List.replicate n []))):=λy ai o an=>by
  rw[r8]at an;split at an
  ·rename_i cC;exact .inr ⟨cC.symm,(Option.some.inj an).symm⟩
  ·rename_i hh;split at an
   ·rename_i cC;exact .inl ⟨cC.symm,(Option.some.inj an).symm⟩
   ·rename_i hp;simp only[mem_cons,not_mem_nil,or_false]at ai;rcases ai with rfl|rfl
    ·exact absurd rfl hp
    ·exact absurd rfl hh
 have ve:∀y,y∈[d,e]→y=d∨y=e:=λy ai=>by simpa using ai
 have cL:∀m:Nat,ko cx I w (encS be sz enc (List.replicate m [])) (List.replicate m (Value.slice none 0 0)):=by
  intro m;induction m with
  |zero=>rfl
  |succ m bu=>
   simp only[List.replicate_succ,encS,map_cons,map_nil,ko]at bu ⊢;exact⟨_,_,rfl,Or.inl ⟨rfl,rfl⟩,λb (U:none=some b)=>(by cases U),bu⟩
 refine h.G5 (M:=[d,e]) (news:=[e]) (λy ai=>?_) (λy ai=>iu β _ (by simpa using ai)) (λy ai=>?_) (λy o _ g5=>(avI Z y o g5).2) (λy ai o g5=>?_) (λy ai eg c ah=>?_) (λy ai z hz mW fc eg c ah gh=>?_)
 ·simp only[mem_cons,not_mem_nil,or_false,not_or]at ai;rw[r8,if_neg (Ne.symm ai.2),if_neg (Ne.symm ai.1),if_neg (by simp[ai.1])]
 ·simp only[List.mem_singleton]at ai;subst ai;exact⟨by simp,sQ⟩
 ·rcases mL y ai o g5 with⟨rfl,rfl⟩|⟨rfl,rfl⟩
  ·have:=h.c4 y _ af;simp only[bb,mu,lH]at this ⊢;rcases this with q|⟨q,xB,_⟩|⟨b,aV,arr,ak,ax,aO,aL,bg,bI,b7,cD,dz,dT,fG⟩
   ·exact .inl q
   ·
    have:n=0:=by simpa using xB
    omega
   ·refine .inr ⟨b,aV,arr,mU,by simpa using ak,by simpa using ax,aO,aL,by simpa using bg,rfl,by simp[mU],?_,λo=>dT o (by omega),fG⟩;have:∀(m:Nat) (l:dQ),ds I (List.replicate m [W.c6]).flatten l→l=List.replicate m (Value.slice none 0 0):=by
     intro m;induction m with
     |zero=>intro l aJ;simpa [ds]using aJ
     |succ m bu=>
      intro l aJ;simp only[List.replicate_succ,flatten_cons,singleton_append,ds,bm]at aJ;obtain⟨aR,us,rfl,rfl,aJ⟩:=aJ;rw[bu us aJ,List.replicate_succ]
    have:=this n _ (by simpa using bI);show arr.toList.take n=mU.toList;rw[this]
  ·simp only[bb,lH];exact .inr ⟨mU,rfl,by simpa [mU]using cL n⟩
 ·rcases ve y ai with rfl|rfl
  ·rw[mu]at ah;exact⟨y,by simp,by rw[af];rfl,ah⟩
  ·rw[lH]at ah;exact absurd ah (Ba c)
 ·rcases ve y ai with rfl|rfl
  ·rcases ve z hz with rfl|rfl
   ·exact mW rfl
   ·rw[lH]at gh;exact absurd gh (Ba c)
  ·rw[lH]at ah;exact absurd ah (Ba c)
def aws{α:Type}{be sz T d e e2 t n i:Nat}{cT:Bool}(l:List (List α))(enc:α→List W)(row:List α)
  (af:σ.get d=some (.e9 T e n (some (some i,t)))) (he:σ.get e=some (.cL (encS be sz enc (l.set i [])))) (b5:σ.get t=some (.slice be sz (row.map enc) 0 cT))
  (mT:σ.get e2=none) (n9:G.ids.contains e2=false) (ah:env.clean [e2].contains=true) (Z:σ.clean [e2].contains=true) :
  cB G env σ env ((e2,.cL (encS be sz enc (l.set i row)))::(d,.e9 T e2 n none)::σ.minus [d,e,t]):=λcx I β a w h b3=>by
 obtain⟨e8,h1,D⟩:=h.back af rfl he b5 mT (by simpa using n9) Z;refine⟨I,e8,?_,HN b3 ah h1⟩;have aK:(encS be sz enc (l.set i [])).set i (.sl be sz (row.map enc))=encS be sz enc (l.set i row):=by rw[←PI,List.set_set]
 rw[aK]at D;exact D
def axA{α:Type}{be sz T d e e2 t n:Nat}{i:Int}{cT:Bool}{row:List α}(l:List (List α))(enc:α→List W)(hi:du l i=some row)
  (af:σ.get d=some (.e9 T e n (some (some i.toNat,t)))) (he:σ.get e=some (.cL (encS be sz enc (l.set i.toNat [])))) (b5:σ.get t=some (.slice be sz (row.map enc) 0 cT))
  (mT:σ.get e2=none) (n9:G.ids.contains e2=false) (ah:env.clean [e2].contains=true) (Z:σ.clean [e2].contains=true) :
  cB G env σ env ((e2,.cL (encS be sz enc l))::(d,.e9 T e2 n none)::σ.minus [d,e,t]):=by
 have h:=aws l enc row af he b5 mT n9 ah Z;have aK:l.set i.toNat row=l:=by
  unfold du at hi;split at hi
  ·apply List.ext_getElem?;intro j;rw[List.getElem?_set];split
   ·rename_i aY;subst aY;rw[if_pos (List.getElem?_eq_some_iff.1 hi).1,hi]
   ·rfl
  ·cases hi
 rwa [aK]at h
end weak
section
variable {G:cR}{σ:ag}{o:Oper}{ev:Operand→W}
def GI{cx:fO}{I:bG}{β:Nat→Value}{w:World}(av:cz G cx I β σ w){d e T n:Nat}{dk:Option (j4×Nat)}{fh:List jo}(af:σ.get d=some (.e9 T e n dk))(he:σ.get e=some (.cL fh))(aX:β d≠.nilFunc):
  ∃b aV arr,∃Z:jc,β d=.slice (some ⟨b,0,none⟩) n aV∧n≤aV∧aV≤maxLen∧w.heap[b]?=some (.cells arr T (0,0))∧arr.size=aV∧β e=.tuple Z∧Z.size=n∧je β Z.toList (arr.toList.take n) dk∧(∀o:Nat,I b o=none)∧Place cx b∧ko cx I w fh Z.toList∧fh.length=n:=by
 have an:=av.c4 d _ af;simp only[bb,aX,false_or]at an;obtain⟨b,aV,arr,Z,ak,ax,aO,aL,bg,bI,b7,cD,dz,dT⟩:=an;have mS:=av.c4 e _ he;simp only[bb,bI,Value.tuple.injEq,reduceCtorEq,false_or]at mS;obtain⟨gG,rfl,U⟩:=mS;exact⟨b,aV,arr,Z,ak,ax,aO,aL,bg,bI,b7,cD,dz,dT,U,by have:=U.length;simp at this;omega⟩
def aw0{T E d e bp n:Nat}{dk:Option (j4×Nat)}{fh:List jo}{x y:Operand}{k:IntKind}{i:Int}(h:o.op=.indexAddr T x y)(u:ev x=.own d)(ai:ev y=.int k i)(af:σ.get d=some (.e9 bp e n dk))(he:σ.get e=some (.cL fh))(aT:lT G.P T E 1)
  (hi:0≤i∧i<fh.length):Yields G o ev σ [] [d,e] (.ptr d i.toNat):=
 .pure λaH cx I β w bn c3 av hop=>by
  have h1:=hop x (by simp[h,Op.operands]);rw[u]at h1
  have D:=hop y (by simp[h,Op.operands]);rw[ai]at D;have D:=kY D
  simp only[aC]at h1;obtain⟨h1,Z⟩:=h1;have iI:β d≠.nilFunc:=λe=>by rw[h1,e]at Z;simp[i1]at Z
  obtain⟨b,aV,arr,gG,ak,ax,aO,aL,bg,bI,b7,cD,dz,dT,fG,tq⟩:=GI av (by rw[c3 d (by simp)];exact af) (by rw[c3 e (by simp)];exact he) iI;refine⟨.pointer (some ⟨b,i.toNat,none⟩),?_,by simp only[aC];exact⟨b,by rw[ak];rfl,rfl⟩⟩;have aK:∀w,(underlying T).run G.P w=.ok (.slice E) w:=λw=>by simp[underlying,program,Sem.run,aT.gT]
  rw[ak]at h1;have sQ:0≤i∧i<(n:Int):=by omega
  simp[execOp,h,h1,D,Instr.indexAt,asIntOf,aK,sQ,aT.size,mx]
def axi{T d e bp n:Nat}{dk:Option (j4×Nat)}{fh:List jo}{x:Operand}{jw}(h:o.op=.call ⟨.builtin .len,#[x],jw⟩)(hk:jw=#[T])(u:ev x=.own d)(af:σ.get d=some (.e9 bp e n dk))(he:σ.get e=some (.cL fh)){E:Nat}(aT:G.P.underlying T=some (.slice E)):
  Yields G o ev σ [] [d,e] (.int .i64 (fh.length:Int)):=
 .pure λaH cx I β w bn c3 av hop=>by
  subst hk;have h1:=hop x (by simp[h,Op.operands,Call.operands]);rw[u]at h1
  simp only[aC]at h1;obtain⟨h1,Z⟩:=h1;have iI:β d≠.nilFunc:=λe=>by rw[h1,e]at Z;simp[i1]at Z
  obtain⟨b,aV,arr,gG,ak,ax,aO,aL,bg,bI,b7,cD,dz,dT,fG,tq⟩:=GI av (by rw[c3 d (by simp)];exact af) (by rw[c3 e (by simp)];exact he) iI;rw[ak]at h1;have aK:∀w,(underlying T).run G.P w=.ok (.slice E) w:=λw=>by simp[underlying,program,Sem.run,aT]
  exact⟨.int .i64 n,by simp[execOp,h,resolve,invoke,builtin,Builtin.len_,h1,aK,goInt],by simp[aC,bm,tq]⟩
def axP{α:Type}{T d e e2 t p bp n be sz:Nat}{x:Operand}(l:List (List α))(enc:α→List W)(row:List α)(h:o.op=.load T x)(u:ev x=.ptr d p)(af:σ.get d=some (.e9 bp e n none))(he:σ.get e=some (.cL (encS be sz enc l)))(i4:l[p]?=some row)(aT:dS G.P T 1 false)
  (b5:σ.get t=none) (mT:σ.get e2=none) (Aj:t≠e2) (Fg:G.ids.contains t=false) (n9:G.ids.contains e2=false) (iD:σ.clean [t,e2].contains=true) :
  i2 G o ev σ [d,e,e2,t] [t,e2] (λr aH=>r=.own t∧aH=(t,.slice be sz (row.map enc) 0 false)::(e2,.cL (encS be sz enc (l.set p [])))::(d,.e9 bp e2 n (some (some p,t)))::σ.minus [d,e]):=by
 intro cx I β w bn av hop;have h1:=hop x (by simp[h,Op.operands]);rw[u]at h1
 simp only[aC]at h1;obtain⟨b,h1,D⟩:=h1;have iI:β d≠.nilFunc:=λe=>by rw[e]at h1;cases h1
 obtain⟨aS,aV,arr,Z,ak,ax,aO,aL,bg,bI,b7,cD,dz,dT,fG,tq⟩:=GI av af he iI;have oR:aS=b:=by rw[ak]at h1;simpa [cb]using h1
 subst oR;have aF:p<l.length:=(List.getElem?_eq_some_iff.1 i4).1;have Ad:l.length=n:=by simpa [encS]using tq
 have aI:(encS be sz enc l)[p]?=some (.sl be sz (row.map enc)):=by simp[encS,i4]
 obtain⟨eg,dc,gz,dg,gx,mh⟩:=av.take af rfl he aI iI b5 mT Aj (by simpa using Fg) (by simpa using n9) iD;rw[bI]at dc;cases dc
 have nP:arr[p]?=some gz:=by
  have:(arr.toList.take n)[p]?=Z.toList[p]?:=by rw[show arr.toList.take n=Z.toList from cD]
  rw[getElem?_take,if_pos (by omega)]at this;have e:Z.toList[p]?=some gz:=by simpa using dg
  rw[e]at this;simpa using this
 have oS:∀j,j<1→∃v,[gz][j]?=some v∧w.cell? ⟨aS,p+j,none⟩=some v:=λj aY=>by
  have:j=0:=by omega
  subst this;exact⟨gz,rfl,by simp[World.cell?,aL,nP]⟩
 have aJ:=CF aT (vs:=[gz]) oS (λ_=>by omega);have eV:(execOp bn o).run G.P w=.ok (.value gz) w:=by
  simp[execOp,h,D,Instr.loadAt,Instr.sureAddr,aJ]
 rw[eV];refine⟨.own t,_,I,λy=>if y=t then gz else if y=e2 then .tuple (Z.setIfInBounds p (.slice none 0 0))else β y,⟨rfl,rfl⟩,?_,?_,cV.refl I,λy ai=>?_,λy ai=>?_⟩
 ·simp only[aC,if_true];refine⟨trivial,?_⟩;rcases gx with⟨q,_⟩|⟨b,aV,arr,q,_⟩<;>rw[q]<;>rfl
 ·rw[PI];exact mh
 ·simp only[mem_cons,not_mem_nil,or_false,not_or]at ai;simp only[if_neg ai.1,if_neg ai.2]
 ·simp only[mem_cons,not_mem_nil,or_false,not_or]at ai;rw[zg,if_neg (Ne.symm ai.2.2.2),if_neg (Ne.symm ai.2.2.1),if_neg (Ne.symm ai.1),if_neg (by simp[ai.1,ai.2.1])]
def axK{α:Type}{T d e e2 j p bp n be sz:Nat}{cT:Bool}{x y:Operand}(l:List (List α))(enc:α→List W)(row:List α)(h:o.op=.store T x y)(u:ev x=.ptr d p)(ai:ev y=.own j)(aY:σ.get j=some (.slice be sz (row.map enc) 0 cT))(af:σ.get d=some (.e9 bp e n none))(he:σ.get e=some (.cL (encS be sz enc l)))(aF:p<l.length)(aT:dS G.P T 1 false)
  (mT:σ.get e2=none) (n9:G.ids.contains e2=false) (iD:σ.clean [e2].contains=true) :
  i2 G o ev σ [d,e,e2,j] [e2] (λr aH=>r=.undef∧aH=(e2,.cL (encS be sz enc (l.set p row)))::(d,.e9 bp e2 n none)::σ.minus [d,e,j]):=by
 intro cx I β w bn av hop;have h1:=hop x (by simp[h,Op.operands]);rw[u]at h1
 have aq:=hop y (by simp[h,Op.operands]);rw[ai]at aq
 simp only[aC]at h1 aq;obtain⟨b,h1,D⟩:=h1;obtain⟨aq,sD⟩:=aq;have iI:β d≠.nilFunc:=λe=>by rw[e]at h1;cases h1
 obtain⟨aS,aV,arr,Z,ak,ax,aO,aL,bg,bI,b7,cD,dz,dT,fG,tq⟩:=GI av af he iI;have oR:aS=b:=by rw[ak]at h1;simpa [cb]using h1
 subst oR;have Ad:l.length=n:=by simpa [encS]using tq
 have i4:=av1 (av.c4 j _ aY) λe=>(by rw[aq,e]at sD;cases sD);have zh:e2∉G.ids:=by simpa using n9
 have ml:(σ.get d).isSome:=by rw[af];rfl
 have kQ:(σ.get e).isSome:=by rw[he];rfl
 have tO:(σ.get j).isSome:=by rw[aY];rfl
 have jY:d≠e:=λcC=>by subst cC;rw[af]at he;cases he
 have amy:d≠j:=λcC=>by subst cC;rw[af]at aY;cases aY
 have amB:e≠j:=λcC=>by subst cC;rw[he]at aY;cases aY
 have cA:∀y,(σ.get y).isSome→y≠e2:=λy ai e=>by subst e;rw[mT]at ai;cases ai
 have ga:aS∈dA (β d):=kL h1;have nr:(β j).oneCell'=true∧(β j).cells=#[β j]:=by
  rcases i4 with⟨q,_⟩|⟨c,wI,asw,q,_⟩<;>rw[q]<;>exact⟨rfl,rfl⟩
 have oa:=Fs (P:=G.P) aL [β j] (off:=p) (by simp;omega) (λv aa=>by rw[List.mem_singleton.1 aa];exact nr.1);have eV:(execOp bn o).run G.P w=.ok .skip (w.setRow aS (jq arr.toList p [β j]).toArray):=by
  have aK:((#[β j]:jc).size≠1)=False:=by simp
  simp[execOp,h,D,aq,Instr.storeAt,Instr.sureAddr,storeVar,aT.size,nr.2,oa]
 rw[eV]
 let gG:jc:=Z.setIfInBounds p (β j)
 have jh:gG.toList=Z.toList.set p (β j):=by simp[gG]
 have amr:ko cx I w (encS be sz enc (l.set p row)) gG.toList:=by
  rw[jh,PI];refine fG.set i4 λi aR c _ amX E2 mS=>?_;refine av.ee e j kQ tO amB c ?_ (kL E2);rw[bI,pW];exact List.mem_filterMap.2 ⟨aR,List.mem_of_getElem? amX,mS⟩
 have ob:∀c∈gG.toList.filterMap cb,c∈dA (β e)∨c∈dA (β j):=λc ah=>by
  rw[jh]at ah;rcases JM ah with ah|ah
  ·exact .inl (by rw[bI,pW];exact ah)
  ·exact .inr (kL ah)
 have tP:∀c∈gG.toList.filterMap cb,c≠aS:=λc ah cC=>by
  subst cC;rcases ob c ah with q|q
  ·exact av.ee d e ml kQ jY c ga q
  ·exact av.ee d j ml tO amy c ga q
 have hk:g1 w (w.setRow aS (jq arr.toList p [β j]).toArray) aS:=g1.setRow w aS _;have eO:∀y,y≠e2→(λy=>if y=e2 then(Value.tuple gG)else β y) y=β y:=λy ai=>if_neg ai;have qN:(λy=>if y=e2 then(Value.tuple gG)else β y) e2=.tuple gG:=if_pos rfl
 have nL:∀y,y∉[d,e,e2,j]→ag.get ((e2,.cL (encS be sz enc (l.set p row)))::(d,.e9 bp e2 n none)::σ.minus [d,e,j]) y=σ.get y:=λy ai=>by
  simp only[mem_cons,not_mem_nil,or_false,not_or]at ai;rw[r8,if_neg (Ne.symm ai.2.2.1),if_neg (Ne.symm ai.1),if_neg (by simp[ai.1,ai.2.1,ai.2.2.2])]
 generalize (λy=>if y=e2 then(Value.tuple gG)else β y)=e8 at eO qN;have mu:e8 d=β d:=eO d (cA d ml)
 have mL:∀y,y∈[d,e,e2,j]→∀o,ag.get ((e2,.cL (encS be sz enc (l.set p row)))::(d,.e9 bp e2 n none)::σ.minus [d,e,j]) y=some o→(y=d∧o=.e9 bp e2 n none)∨(y=e2∧o=.cL (encS be sz enc (l.set p row))):=λy ai o an=>by
  rw[r8]at an;split at an
  ·rename_i cC;exact .inr ⟨cC.symm,(Option.some.inj an).symm⟩
  ·rename_i hh;split at an
   ·rename_i cC;exact .inl ⟨cC.symm,(Option.some.inj an).symm⟩
   ·split at an
    ·cases an
    ·rename_i hp xu;simp only[mem_cons,not_mem_nil,or_false,not_or]at ai xu;rcases ai with rfl|rfl|rfl|rfl
     ·exact absurd rfl hp
     ·exact absurd rfl xu.2.1
     ·exact absurd rfl hh
     ·exact absurd rfl xu.2.2
 have zG:∀y,y∈[d,e,e2,j]→(ag.get ((e2,.cL (encS be sz enc (l.set p row)))::(d,.e9 bp e2 n none)::σ.minus [d,e,j]) y).isSome→y=d∨y=e2:=λy ai Z=>by
  obtain⟨o,an⟩:=Option.isSome_iff_exists.1 Z;rcases mL y ai o an with q|q
  ·exact .inl q.1
  ·exact .inr q.1
 have Gu:∀c,c∈dA (e8 d)→c∉dA (e8 e2):=λc ah gh=>by
  rw[mu,ak]at ah;have:c=aS:=by simpa [dA,cb]using ah
  exact tP c (by rw[qN]at gh;exact gh) this
 refine⟨.undef,_,I,e8,⟨rfl,rfl⟩,by simp[aC,bm],?_,cV.refl I,λy ai=>eO y (by simpa using ai),λy ai=>nL y ai⟩;refine av.redo (M:=[d,e,e2,j]) (news:=[e2]) (b:=aS) (e8:=e8) hk (λo=>?_) (λy ai Z cC=>?_) dT (λy ai=>nL y ai) (λy ai=>eO y (by simpa using ai)) (λy ai=>?_) (λy o _ g5=>(avI iD y o g5).2) (λy ai o g5=>?_) (λy ai eg c ah=>?_) (λy ai z hz mW fc eg c ah gh=>?_)
 ·cases o with
  |none=>exact av.tK aL
  |some o=>exact dz o
 ·exact av.ee d y ml Z (λe=>ai (by simp[e])) aS ga cC
 ·simp only[List.mem_singleton]at ai;subst ai;exact⟨by simp,zh⟩
 ·rcases mL y ai o g5 with⟨rfl,rfl⟩|⟨rfl,rfl⟩
  ·simp only[bb,mu,qN];refine .inr ⟨aS,aV,_,gG,ak,ax,aO,setRow_heap w aS arr _ bp _ aL,by simp only[jq,size_toArray,length_append,length_take,length_drop,length_singleton,Array.length_toList];omega,rfl,by simp[gG,b7],?_,dz,dT⟩;show(jq arr.toList p [β j]).take n=gG.toList;rw[jh,←show arr.toList.take n=Z.toList from cD];apply List.ext_getElem?;intro i;have atT:p<arr.toList.length:=by simp;omega
   rw[getElem?_take,List.getElem?_set,getElem?_take];simp only[jq,length_singleton];by_cases fM:i<n
   ·rw[if_pos fM,if_pos fM];by_cases mm:p=i
    ·subst mm;rw[if_pos rfl,if_pos (by simp;omega),List.append_assoc,List.getElem?_append_right (by simp;omega),length_take,Nat.min_eq_left (by omega)];simp
    ·rw[if_neg mm];by_cases bS:i<p
     ·rw[List.append_assoc,List.getElem?_append_left (by simp;omega),getElem?_take,if_pos bS]
     ·rw[List.getElem?_append_right (by simp;omega),getElem?_drop];congr 1;simp only[length_append,length_take,length_singleton];omega
   ·rw[if_neg fM,if_neg fM];by_cases mm:p=i
    ·omega
    ·rw[if_neg mm]
  ·simp only[bb];exact .inr ⟨gG,qN,amr.go (cV.refl I) λc ah=>⟨λbS=>hk.block c (tP c ah) bS,λ_=>rfl,id⟩⟩
 ·rcases zG y ai eg with rfl|rfl
  ·rw[mu]at ah;exact⟨y,by simp,ml,ah⟩
  ·rw[qN]at ah;rcases ob c ah with q|q
   ·exact⟨e,by simp,kQ,q⟩
   ·exact⟨j,by simp,tO,q⟩
 ·rcases zG y ai fc with rfl|rfl<;>rcases zG z hz eg with rfl|rfl
  ·exact mW rfl
  ·exact Gu c ah gh
  ·exact Gu c gh ah
  ·exact mW rfl
end
end
section
section
variable {P:Program}
def I2(bp:Nat)(op:Op)(env:au)(σ:ag):Option (dw×di):=match op with
 |.indexAddr T x y=>(match env.dx x with
  |some (.own d)=>(match env.dx y with
   |some (.int k i)=>(match σ.get d with
    |some (.e9 lU e n dk)=>(match σ.get e with
     |some (.cL fh)=>bif Nat.beq T bp then some (.y [d,e] (.ptr d i.toNat),([.int .i64 i],[(0,.cL fh)]))else none
     |_=>none)
    |_=>none)
   |_=>none)
  |_=>none)
 |_=>none
def agP{α:Type}{bp E be sz:Nat}{enc:α→List W}{l:List (List α)}{i:Int}{row:List α}(aT:lT P bp E 1)(hi:du l i=some row){o:Oper}{N:Nat}{ids:dI}{env:au}{σ:ag}{s:dw}{bc:di}
  (h:I2 bp o.op env σ=some (s,bc)) (he:bc=([.int .i64 i],[(0,.cL (encS be sz enc l))])):gj ⟨P,N,ids⟩ o env σ s:=by
 cases an:o.op<;>rw[an]at h
 case indexAddr T x y=>
  simp only[I2]at h;split at h
  ·rename_i d u;split at h
   ·rename_i k yA ai;split at h
    ·rename_i lU e n dk af;split at h
     ·rename_i fh U;cases ah:Nat.beq T bp with
      |false=>rw[ah]at h;cases h
      |true=>
       rw[ah]at h;have:=Nat.eq_of_beq_eq_true ah;subst this;cases h;simp only[Prod.mk.injEq,List.cons.injEq,W.int.injEq,cE.cL.injEq,and_true,true_and]at he;obtain⟨rfl,rfl⟩:=he;refine aw0 an (avz u) (avz ai) af U aT ?_;unfold du at hi;split at hi
       ·rename_i bJ;have:=(List.getElem?_eq_some_iff.1 hi).1;simp only[encS,length_map];omega
       ·cases hi
     ·cases h
    ·cases h
   ·cases h
  ·cases h
 all_goals (simp only[I2]at h;cases h)
def Iz{α:Type}{bp E:Nat}{l:List (List α)}{i:Int}{row:List α}(be sz:Nat)(enc:α→List W)(aT:lT P bp E 1)(hi:du l i=some row):Hint P:=
 .gs false ([.int .i64 i],[(0,.cL (encS be sz enc l))]) (λ_=>I2 bp) λ_ _ _ _ _ _ _ h he=>agP aT hi h he
def JA(bp:Nat)(n:Int)(op:Op)(env:au)(σ:ag):Option (dw×di):=match op with
 |.call c=>(match c.callee with
  |.builtin b=>(match b with
   |.len=>(match c.args.toList with
    |[x]=>(match c.argTypes.toList with
     |[T]=>(match env.dx x with
      |some (.own d)=>(match σ.get d with
       |some (.e9 lU e m dk)=>(match σ.get e with
        |some (.cL fh)=>bif Nat.beq T bp then some (.y [d,e] (.int .i64 n),([],[(0,.cL fh)]))else none
        |_=>none)
       |_=>none)
      |_=>none)
     |_=>none)
    |_=>none)
   |_=>none)
  |_=>none)
 |_=>none
def agQ{α:Type}{bp E be sz:Nat}{enc:α→List W}{l:List (List α)}(aT:lT P bp E 1){o:Oper}{N:Nat}{ids:dI}{env:au}{σ:ag}{s:dw}{bc:di}
  (h:JA bp (l.length:Int) o.op env σ=some (s,bc)) (he:bc=([],[(0,.cL (encS be sz enc l))])):gj ⟨P,N,ids⟩ o env σ s:=by
 cases an:o.op<;>rw[an]at h
 case call c=>
  obtain⟨cl,args,tys⟩:=c;simp only[JA]at h;split at h
  ·rename_i b;split at h
   ·split at h
    ·rename_i x n5;have:args=#[x]:=Array.toList_inj.1 (by simpa using n5);subst this;split at h
     ·rename_i T Bi;have:tys=#[T]:=Array.toList_inj.1 (by simpa using Bi);subst this;split at h
      ·rename_i d u;split at h
       ·rename_i lU e m dk af;split at h
        ·rename_i fh U;cases ah:Nat.beq T bp with
         |false=>rw[ah]at h;cases h
         |true=>
          rw[ah]at h;have:=Nat.eq_of_beq_eq_true ah;subst this;cases h;simp only[Prod.mk.injEq,List.cons.injEq,cE.cL.injEq,and_true,true_and]at he;subst he;have:=axi (G:=⟨P,N,ids⟩) an rfl (avz u) af U aT.gT;rw[show(encS be sz enc l).length=l.length by simp[encS]]at this;exact this
        ·cases h
       ·cases h
      ·cases h
     ·cases h
    ·cases h
   ·cases h
  ·cases h
 all_goals (simp only[JA]at h;cases h)
def ys{α:Type}{bp E:Nat}(be sz:Nat)(enc:α→List W)(l:List (List α))(aT:lT P bp E 1):Hint P:=
 .gs false ([],[(0,.cL (encS be sz enc l))]) (λ_=>JA bp (l.length:Int)) λ_ _ _ _ _ _ _ h he=>agQ aT h he
def Jm{α:Type}(bp be sz e2 t p:Nat)(l:List (List α))(row:List α)(enc:α→List W)(ids:dI)(op:Op)(env:au)(σ:ag):Option (dw×di):=match op with
 |.load T x=>(match env.dx x with
  |some (.ptr d tc)=>(match σ.get d with
   |some (.e9 lU e n none)=>(match σ.get e with
    |some (.cL fh)=>bif Nat.beq T bp&&(σ.get t).isNone&&(σ.get e2).isNone&&!Nat.beq t e2&&!ids.contains t&&!ids.contains e2&&σ.clean [t,e2].contains then
      some (.e [d,e,e2,t] [t,e2] (.own t) ((t,.slice be sz (row.map enc) 0 false)::(e2,.cL (encS be sz enc (l.set p [])))::(d,.e9 lU e2 n (some (some p,t)))::σ.minus [d,e]),([.ptr 0 tc],[(1,.cL fh)]))else none
    |_=>none)
   |_=>none)
  |_=>none)
 |_=>none
def agR{α:Type}{bp be sz e2 t:Nat}{l:List (List α)}{i:Int}{row:List α}{enc:α→List W}(aT:dS P bp 1 false)(hi:du l i=some row){o:Oper}{N:Nat}{ids:dI}{env:au}{σ:ag}{s:dw}{bc:di}
  (h:Jm bp be sz e2 t i.toNat l row enc ids o.op env σ=some (s,bc)) (he:bc=([.ptr 0 i.toNat],[(1,.cL (encS be sz enc l))])):gj ⟨P,N,ids⟩ o env σ s:=by
 cases an:o.op<;>rw[an]at h
 case load T x=>
  simp only[Jm]at h;split at h
  ·rename_i d tc u;split at h
   ·rename_i lU e n af;split at h
    ·rename_i fh U;generalize ah:(Nat.beq T bp&&_&&_&&_&&_&&_&&_)=eU at h;cases eU with
     |false=>cases h
     |true=>
      simp only[Bool.and_eq_true,Bool.not_eq_true']at ah;obtain⟨⟨⟨⟨⟨⟨bk,bK⟩,cq⟩,en⟩,fK⟩,hj⟩,jU⟩:=ah;have:=Nat.eq_of_beq_eq_true bk;subst this;cases h;simp only[Prod.mk.injEq,List.cons.injEq,W.ptr.injEq,cE.cL.injEq,and_true,true_and]at he;obtain⟨rfl,rfl⟩:=he;have i4:l[i.toNat]?=some row:=by
       unfold du at hi;split at hi
       ·exact hi
       ·cases hi
      refine⟨axP l enc row an (avz u) af U i4 aT (by simpa using bK) (by simpa using cq) (λe=>?_) fK hj jU,?_⟩
      ·subst e;rw[Nat.beq_refl]at en;cases en
      ·simp only[all_cons,all_nil,fK,hj];rfl
    ·cases h
   ·cases h
  ·cases h
 all_goals (simp only[Jm]at h;cases h)
def NK{α:Type}{bp:Nat}{l:List (List α)}{i:Int}{row:List α}(be sz e2 t:Nat)(enc:α→List W)(aT:dS P bp 1 false)(hi:du l i=some row):Hint P:=
 .gs true ([.ptr 0 i.toNat],[(1,.cL (encS be sz enc l))]) (Jm bp be sz e2 t i.toNat l row enc) λ_ _ _ _ _ _ _ h he=>agR aT hi h he
def J7{α:Type}(bp be sz e2 p:Nat)(l:List (List α))(row:List α)(enc:α→List W)(ids:dI)(op:Op)(env:au)(σ:ag):Option (dw×di):=match op with
 |.store T x y=>(match env.dx x with
  |some (.ptr d tc)=>(match env.dx y with
   |some (.own j)=>(match σ.get j with
    |some (.slice oq xO xs 0 _)=>(match σ.get d with
     |some (.e9 lU e n none)=>(match σ.get e with
      |some (.cL fh)=>bif Nat.beq T bp&&Nat.beq oq be&&Nat.beq xO sz&&(σ.get e2).isNone&&!ids.contains e2&&σ.clean [e2].contains then
        some (.e [d,e,e2,j] [e2] .undef ((e2,.cL (encS be sz enc (l.set p row)))::(d,.e9 lU e2 n none)::σ.minus [d,e,j]),([.ptr 0 tc,.bf false xs],[(1,.cL fh)]))else none
      |_=>none)
     |_=>none)
    |_=>none)
   |_=>none)
  |_=>none)
 |_=>none
def agS{α:Type}{bp be sz e2:Nat}{l:List (List α)}{i:Int}{ME row:List α}{enc:α→List W}(aT:dS P bp 1 false)(hi:du l i=some ME){o:Oper}{N:Nat}{ids:dI}{env:au}{σ:ag}{s:dw}{bc:di}
  (h:J7 bp be sz e2 i.toNat l row enc ids o.op env σ=some (s,bc)) (he:bc=([.ptr 0 i.toNat,.bf false (row.map enc)],[(1,.cL (encS be sz enc l))])):gj ⟨P,N,ids⟩ o env σ s:=by
 cases an:o.op<;>rw[an]at h
 case store T x y=>
  simp only[J7]at h;split at h
  ·rename_i d tc u;split at h
   ·rename_i j ai;split at h
    ·rename_i oq xO xs cT aY;split at h
     ·rename_i lU e n af;split at h
      ·rename_i fh U;generalize ah:(Nat.beq T bp&&_&&_&&_&&_&&_)=eU at h;cases eU with
       |false=>cases h
       |true=>
        simp only[Bool.and_eq_true,Bool.not_eq_true']at ah;obtain⟨⟨⟨⟨⟨bk,bK⟩,cq⟩,en⟩,fK⟩,hj⟩:=ah;have:=Nat.eq_of_beq_eq_true bk;subst this;have:=Nat.eq_of_beq_eq_true bK;subst this;have:=Nat.eq_of_beq_eq_true cq;subst this;cases h;simp only[Prod.mk.injEq,List.cons.injEq,W.ptr.injEq,W.bf.injEq,cE.cL.injEq,and_true,true_and]at he;obtain⟨⟨rfl,rfl⟩,rfl⟩:=he;have aF:i.toNat<l.length:=by
         unfold du at hi;split at hi
         ·exact(List.getElem?_eq_some_iff.1 hi).1
         ·cases hi
        exact⟨axK (cT:=cT) l enc row an (avz u) (avz ai) aY af U aF aT (by simpa using en) fK hj,by simp only[all_cons,all_nil,fK];rfl⟩
      ·cases h
     ·cases h
    ·cases h
   ·cases h
  ·cases h
 all_goals (simp only[J7]at h;cases h)
def anu{α:Type}{bp:Nat}{l:List (List α)}{i:Int}{ME:List α}(be sz e2:Nat)(enc:α→List W)(row:List α)(aT:dS P bp 1 false)(hi:du l i=some ME):Hint P:=
 .gs true ([.ptr 0 i.toNat,.bf false (row.map enc)],[(1,.cL (encS be sz enc l))]) (J7 bp be sz e2 i.toNat l row enc) λ_ _ _ _ _ _ _ h he=>agS aT hi h he
def Ju(bp d E:Nat)(n:Int)(ids:dI)(op:Op)(env:au)(σ:ag):Option (dw×di):=match op with
 |.makeSlice T x y=>(match env.dx x with
  |some (.int _ hp)=>(match env.dx y with
   |some (.int _ hh)=>bif Nat.beq T bp&&!ids.contains d&&σ.clean [d].contains then some (.e [d] [d] (.own d) ((d,.slice E 1 (List.replicate n.toNat [.c6]) 0 false)::σ),([.int .i64 hp,.int .i64 hh],[]))else none
   |_=>none)
  |_=>none)
 |_=>none
def agT{bp E bytes d:Nat}{n:Int}(eZ:kO P bp E 1 bytes)(fo:nA P bp E 1 [.slice none 0 0])(bJ:0≤n)(U:n≤4294967296)(yg:bytes≤65536){o:Oper}{N:Nat}{ids:dI}{env:au}{σ:ag}{s:dw}{bc:di}
  (h:Ju bp d E n ids o.op env σ=some (s,bc)) (he:bc=([.int .i64 n,.int .i64 n],[])):gj ⟨P,N,ids⟩ o env σ s:=by
 cases an:o.op<;>rw[an]at h
 case makeSlice T x y=>
  simp only[Ju]at h;split at h
  ·rename_i gy hp u;split at h
   ·rename_i cn hh ai;cases ah:(Nat.beq T bp&&!ids.contains d&&σ.clean [d].contains)with
    |false=>rw[ah]at h;cases h
    |true=>
     rw[ah]at h;simp only[Bool.and_eq_true,Bool.not_eq_true']at ah;obtain⟨⟨ec,dY⟩,hb⟩:=ah;have:=Nat.eq_of_beq_eq_true ec;subst this;cases h;simp only[Prod.mk.injEq,List.cons.injEq,W.int.injEq,and_true,true_and]at he;obtain⟨rfl,rfl⟩:=he;exact⟨dD.makeSlice an (avz u) (avz ai) eZ fo (λI=>by simp[bm]) bJ U yg dY hb,by simp only[all_cons,all_nil,dY];rfl⟩
   ·cases h
  ·cases h
 all_goals (simp only[Ju]at h;cases h)
def anf{bp E bytes:Nat}(d:Nat)(n:Int)(eZ:kO P bp E 1 bytes)(fo:nA P bp E 1 [.slice none 0 0])(aX:(decide (0<n)&&decide (n≤4294967296))=true)(yg:bytes≤65536):Hint P:=
 .gs true ([.int .i64 n,.int .i64 n],[]) (Ju bp d E n) λ_ _ _ _ _ _ _ h he=>by
  simp only[Bool.and_eq_true,decide_eq_true_eq]at aX;exact agT eZ fo (by omega) aX.2 yg h he
end
def aiV{n:Int}(aX:(decide (0<n)&&decide (n≤4294967296))=true):0<n.toNat:=by
 simp only[Bool.and_eq_true,decide_eq_true_eq]at aX;omega
end
section
def wm{eC α:Type}(q:eC→eC→Bool)(l:List (eC×α))(n:eC):Option α:=(l.find? λp=>q n p.1).map (·.2)
def nS{eC α:Type}(q:eC→eC→Bool):List (eC×α)→eC→α→List (eC×α)
 |[],n,v=>[(n,v)]
 |p::r,n,v=>bif q n p.1 then(n,v)::r else p::nS q r n v
def jA{eC α:Type}(fZ:eC→W)(enc:α→W)(l:List (eC×α)):List (W×W):=l.map λp=>(fZ p.1,enc p.2)
def qd{eC:Type}(e:kC eC)(x:eC):W:=.agg (e.enc x)
structure HP(P:Program)(K:TypeId){eC:Type}(fZ:eC→W)(q:eC→eC→Bool):Prop where
 plain:∀a,(fZ a).plain=true
 closed:∀a,(fZ a).closed=true
 now:∃kd,P.underlying K=some kd∧∀a v,Instr.sameNow kd (valOf (fZ a)) v=none
 eq:∀a b w,(Op.equal K (valOf (fZ a)) (valOf (fZ b))).run P w=.ok (q a b) w
 jF:∀e a w,(Instr.checkKey e 10000 K (valOf (fZ a))).run P w=.ok () w
 same:∀a b,q a b=true→a=b
 bits:∀a,Instr.sameBits 10000 (valOf (fZ a)) (valOf (fZ a))=true
structure Ek(P:Program)(T K E:TypeId){eC:Type}(fZ:eC→W)(q:eC→eC→Bool):Prop where
 gT:P.underlying T=some (.map K E)
 key:HP P K fZ q
def bm.plain{I:bG}{a:W}{v:Value}(aF:a.plain=true)(h:bm I a v):v=valOf a:=AH (β:=λ_=>Go.undef) a v aF (bm.rep _ _ _ h)
section
variable {P:Program}{I:bG}{eC α:Type}{K:TypeId}{fZ:eC→W}{q:eC→eC→Bool}{enc:α→W}
def Q0(g4:HP P K fZ q)(n:eC)(w:World):∀(l:List (eC×α)) (es:nc) (i:Nat) (a:α),fm I (jA fZ enc l) es→wm q l n=some a→
  ∃j v,(Instr.findAsking K (valOf (fZ n)) es i).run P w=.ok (some (i+j,v)) w∧bm I (enc a) v∧∃e,es[j]?=some e∧e.key=valOf (fZ n)∧
   ∀(b:α) (aR:Value) (jw:MapEntry→MapEntry),bm I (enc b) aR→(∀e,bm I (fZ n) (jw e).key∧(jw e).val=aR)→fm I (jA fZ enc (nS q l n b)) (es.modify j jw)
 |[],es,i,a,h,bw=>by simp[wm]at bw
 |(m,b)::r,es,i,a,h,bw=>by
  simp only[jA,map_cons,fm]at h;obtain⟨e,us,rfl,h1,D,aq⟩:=h;have zQ:=bm.plain (g4.plain m) h1;have aK:=g4.eq n m w;cases hm:q n m with
  |true=>
   have:=g4.same n m hm;subst this;simp only[wm,List.find?,hm,Option.map_some,Option.some.injEq]at bw;subst bw;rw[hm]at aK;refine⟨0,e.val,?_,D,e,rfl,zQ,?_⟩
   ·rw[Instr.findAsking];simp[zQ,aK]
   ·intro c aR jw hu hk;simp only[nS,hm,cond_true,jA,map_cons,fm,modify_zero_cons];exact⟨jw e,us,rfl,(hk e).1,by rw[(hk e).2];exact hu,aq⟩
  |false=>
   have uP:wm q r n=some a:=by simpa [wm,List.find?,hm]using bw
   obtain⟨j,v,ak,ax,cC,aO,aL,bg⟩:=Q0 g4 n w r us (i+1) a aq uP;rw[hm]at aK;refine⟨j+1,v,?_,ax,cC,by simpa using aO,aL,?_⟩
   ·rw[Instr.findAsking];simp only[Sem.run_bind,zQ,aK,Result.andThen_ok];simp only[Bool.false_eq_true,if_false];rw[ak];simp[Nat.add_assoc,Nat.add_comm 1 j]
   ·intro c aR jw hu hk;simp only[nS,hm,cond_false,jA,map_cons,fm,modify_succ_cons];exact⟨e,_,rfl,h1,D,bg c aR jw hu hk⟩
def Q1(g4:HP P K fZ q)(n:eC)(w:World):∀(l:List (eC×α)) (es:nc) (i:Nat),fm I (jA fZ enc l) es→wm q l n=none→
  (Instr.findAsking K (valOf (fZ n)) es i).run P w=.ok none w∧∀(b:α) (e:MapEntry),bm I (enc b) e.val→bm I (fZ n) e.key→fm I (jA fZ enc (nS q l n b)) (es++[e])
 |[],es,i,h,bw=>by
  simp only[jA,map_nil,fm]at h;subst h;refine⟨rfl,λb e U hk=>?_⟩;simp only[nS,jA,map_cons,map_nil,fm,nil_append];exact⟨e,[],rfl,hk,U,rfl⟩
 |(m,c)::r,es,i,h,bw=>by
  simp only[jA,map_cons,fm]at h;obtain⟨e,us,rfl,h1,D,aq⟩:=h;have zQ:=bm.plain (g4.plain m) h1;have aK:=g4.eq n m w;have hm:q n m=false:=by
   cases hm:q n m with
   |false=>rfl
   |true=>simp[wm,List.find?,hm]at bw
  rw[hm]at aK;have uP:wm q r n=none:=by simpa [wm,List.find?,hm]using bw
  obtain⟨ak,ax⟩:=Q1 g4 n w r us (i+1) aq uP;refine⟨?_,λb cC U hk=>?_⟩
  ·rw[Instr.findAsking];simp only[Sem.run_bind,zQ,aK,Result.andThen_ok];simp only[Bool.false_eq_true,if_false];exact ak
  ·simp only[nS,hm,cond_false,jA,map_cons,fm,cons_append];exact⟨e,_,rfl,h1,D,ax b cC U hk⟩
def abN(g4:HP P K fZ q)(n:eC)(w:World)(es:nc):(Instr.findKey K (valOf (fZ n)) es).run P w=(Instr.findAsking K (valOf (fZ n)) es).run P w:=by
 obtain⟨kd,hu,Z⟩:=g4.now;have e2:∀w,(underlying K).run P w=.ok kd w:=λw=>by simp[underlying,program,Sem.run,hu]
 cases es with
 |nil=>simp[Instr.findKey,e2,Instr.findNow,Instr.findAsking]
 |cons e r=>
  rw[Instr.findKey];simp only[Sem.run_bind,e2,Result.andThen_ok,Instr.findNow,Z]
end
section
variable {G:cR}{σ:ag}{o:Oper}{ev:Operand→W}
def axG{eC α:Type}{T K E d:Nat}{fZ:eC→W}{q:eC→eC→Bool}{x y z:Operand}{n:eC}(l:List (eC×α))(enc:α→W)(v:α)(h:o.op=.mapUpdate T x y z∨o.op=.insert T x y z)(u:ev x=.dm d)(ai:ev y=fZ n)(hz:ev z=enc v)(ah:(enc v).closed=true)
  {nX qQ:Nat} (af:σ.get d=some (.map nX qQ (jA fZ enc l))) (aT:Ek G.P T K E fZ q) :
  i2 G o ev σ [d] [] (λr aH=>r=.undef∧aH=σ.set d (.map nX qQ (jA fZ enc (nS q l n v)))):=by
 intro cx I β w bn av hop;have kG:x∈o.op.operands∧y∈o.op.operands∧z∈o.op.operands:=by rcases h with h|h<;>simp[h,Op.operands]
 have h1:=hop x kG.1;rw[u]at h1
 have D:=hop y kG.2.1;rw[ai]at D
 have WY:=aC.closed _ _ (aT.key.closed n) D;have D:=AH _ _ (aT.key.plain n) D;have aq:=hop z kG.2.2;rw[hz]at aq
 have aq:=aC.closed _ _ ah aq;obtain⟨r,es,clock,m5,ak,ax,aO,aL,bg,bI⟩:=JP av af h1;have aK:∀w,(underlying T).run G.P w=.ok (.map K E) w:=λw=>by simp[underlying,program,Sem.run,aT.gT]
 have dj:=w6 (P:=G.P) ax;have fF:=aT.key.jF false n w;have l0:=abN aT.key n w es.toList
 have h8:∀bc:Obj,(setObj r bc).run G.P w=.ok () {w with heap:=w.heap.setIfInBounds r bc}:=λbc=>by
  have:=hQ ax;simp[setObj,Sem.run,ax]
 have xm:∃hA lY,(execOp bn o).run G.P w=.ok .skip {w with heap:=w.heap.setIfInBounds r (.map hA lY)}∧fm I (jA fZ enc (nS q l n v)) hA.toList∧km hA lY:=by
  cases bw:wm q l n with
  |none=>
   obtain⟨de,ew⟩:=Q1 aT.key n w l es.toList 0 aO bw;have g3:(Instr.findKey K (valOf (fZ n)) es.toList).run G.P w=.ok none w:=by rw[l0,de]
   refine⟨_,_,by rcases h with h|h<;>simp[execOp,h,Instr.mapUpdate,m5,D,aK,dj,fF,g3,h8]<;>rfl,?_,?_⟩
   rotate_left
   ·exact bI.push _ _
   simpa using ew v ⟨valOf (fZ n),bn z,clock⟩ aq (by rw[←D];exact WY)
  |some a=>
   obtain⟨j,aR,de,ew,cC,e1,iS,pe⟩:=Q0 aT.key n w l es.toList 0 a aO bw;have g3:(Instr.findKey K (valOf (fZ n)) es.toList).run G.P w=.ok (some (0+j,aR)) w:=by rw[l0,de]
   have jy:es[j]?=some cC:=by simpa using e1
   have ow:(Instr.keyThatStays (valOf (fZ n)) (valOf (fZ n))).run G.P w=.ok (valOf (fZ n)) w:=by simp[Instr.keyThatStays,aT.key.bits n]
   refine⟨_,_,by rcases h with h|h<;>simp[execOp,h,Instr.mapUpdate,m5,D,aK,dj,fF,g3,h8,jy,iS,ow]<;>rfl,?_,?_⟩
   ·simpa using pe v (bn z) (λe=>{e with key:=valOf (fZ n),val:=bn z}) aq (λe=>⟨by rw[←D];exact WY,rfl⟩)
   ·exact bI.modify _ _ λ_=>rfl
 obtain⟨hA,lY,eV,iG,c1⟩:=xm;rw[eV];refine⟨.undef,_,I,β,⟨rfl,rfl⟩,by simp[aC,bm],?_,cV.refl I,λ_ _=>rfl,λx u=>by rw[avE,if_neg (by simpa using u)]⟩;have ga:cb (β d)=some r:=by rw[ak];rfl
 refine av.turn (d:=d) (avO w r _) bg (λx u=>by rw[avE,if_neg u]) (λx u Z e=>av.ee x d Z (by rw[af];rfl) u r e (kL ga)) (cV.refl I) (λ_ _ _=>rfl)
  (λo v aa=>by rw[aL o]at aa;cases aa) (aL none) (λ_ _=>rfl) (.inr rfl) (h5.refl β) (.inl ga) λbc cG=>?_
 rw[avE,if_pos rfl,af]at cG;injection cG with cG
 subst cG;simp only[bb];exact .inr ⟨r,hA,lY,ak,by have:=hQ ax;simp[Array.getElem?_setIfInBounds,this],iG,aL,bg,c1⟩
def alF{P:Program}{T:Nat}{xs bF:jc}{r:Bool}{w:World}(hu:P.underlying T=some (.struct (P.fieldsOf T)))(aF:P.stoodInHeld T=false)(h:(Op.eqFields 9999 xs bF (P.fieldsOf T).toList).run P w=.ok r w):(Op.equal T (.agg xs) (.agg bF)).run P w=.ok r w:=by
 show(Op.equalIn 10000 T (.agg xs) (.agg bF)).run P w=.ok r w;rw[run_equalIn_agg w 9999 T _ _ hu aF,h]
end
end
section
section
variable {P:Program}
def Jq{eC α:Type}(bp:Nat)(fZ:eC→W)(q:eC→eC→Bool)(l:List (eC×α))(n:eC)(enc:α→W)(v:α)(T:TypeId)(x y z:Operand)(env:au)(σ:ag):Option (dw×di):=
 match env.dx x with
  |some (.dm d)=>(match env.dx y with
   |some a=>(match env.dx z with
    |some b=>(match σ.get d with
     |some (.map K E bL)=>bif Nat.beq T bp then some (.e [d] [] .undef (σ.set d (.map K E (jA fZ enc (nS q l n v)))),([.c7 bL,a,b],[]))else none
     |_=>none)
    |_=>none)
   |_=>none)
  |_=>none
def Oh{eC α:Type}(bp:Nat)(fZ:eC→W)(q:eC→eC→Bool)(l:List (eC×α))(n:eC)(enc:α→W)(v:α)(op:Op)(env:au)(σ:ag):Option (dw×di):=match op with
 |.mapUpdate T x y z=>Jq bp fZ q l n enc v T x y z env σ
 |.insert T x y z=>Jq bp fZ q l n enc v T x y z env σ
 |_=>none
def Tl{eC α:Type}{bp fH fk:Nat}{fZ:eC→W}{q:eC→eC→Bool}{l:List (eC×α)}{n:eC}{enc:α→W}{v:α}(aT:Ek P bp fH fk fZ q)(ah:(enc v).closed=true){o:Oper}{N:Nat}{ids:dI}{env:au}{σ:ag}{s:dw}{bc:di}{T:TypeId}{x y z:Operand}
  (an:o.op=.mapUpdate T x y z∨o.op=.insert T x y z) (h:Jq bp fZ q l n enc v T x y z env σ=some (s,bc)) (he:bc=([.c7 (jA fZ enc l),fZ n,enc v],[])):gj ⟨P,N,ids⟩ o env σ s:=by
 simp only[Jq]at h;split at h
 ·rename_i d u;split at h
  ·rename_i a ai;split at h
   ·rename_i b hz;split at h
    ·rename_i K E bL af;cases U:Nat.beq T bp with
     |false=>rw[U]at h;cases h
     |true=>
      rw[U]at h;have:=Nat.eq_of_beq_eq_true U;subst this;cases h;simp only[Prod.mk.injEq,List.cons.injEq,W.c7.injEq,and_true]at he;obtain⟨rfl,rfl,rfl⟩:=he;exact⟨axG l enc v an (avz u) (avz ai) (avz hz) ah af aT,rfl⟩
    ·cases h
   ·cases h
  ·cases h
 ·cases h
def agU{eC α:Type}{bp fH fk:Nat}{fZ:eC→W}{q:eC→eC→Bool}{l:List (eC×α)}{n:eC}{enc:α→W}{v:α}(aT:Ek P bp fH fk fZ q)(ah:(enc v).closed=true){o:Oper}{N:Nat}{ids:dI}{env:au}{σ:ag}{s:dw}{bc:di}
  (h:Oh bp fZ q l n enc v o.op env σ=some (s,bc)) (he:bc=([.c7 (jA fZ enc l),fZ n,enc v],[])):gj ⟨P,N,ids⟩ o env σ s:=by
 cases an:o.op<;>rw[an]at h
 case mapUpdate T x y z=>exact Tl aT ah (.inl an) h he
 case insert T x y z=>exact Tl aT ah (.inr an) h he
 all_goals (simp only[Oh]at h;cases h)
def ana{eC α:Type}{bp fH fk:Nat}{fZ:eC→W}{q:eC→eC→Bool}(l:List (eC×α))(n:eC)(enc:α→W)(v:α)(aT:Ek P bp fH fk fZ q)(ah:(enc v).closed=true):Hint P:=
 .gs true ([.c7 (jA fZ enc l),fZ n,enc v],[]) (λ_=>Oh bp fZ q l n enc v) λ_ _ _ _ _ _ _ h he=>agU aT ah h he
def FZ(d K E:Nat)(ids:dI)(op:Op)(_:au)(_:ag):Option (dw×di):=match op with
 |.makeMap _ none=>bif !ids.contains d then some (.v d (.map K E []) (.dm d),([],[]))else none
 |_=>none
def agV{d K E:Nat}{o:Oper}{N:Nat}{ids:dI}{env:au}{σ:ag}{s:dw}{bc:di}(h:FZ d K E ids o.op env σ=some (s,bc)):gj ⟨P,N,ids⟩ o env σ s:=by
 cases an:o.op<;>rw[an]at h
 case makeMap T r=>
  cases r with
  |some r=>simp only[FZ]at h;cases h
  |none=>
   simp only[FZ]at h;cases hi:ids.contains d with
   |true=>rw[hi]at h;cases h
   |false=>rw[hi]at h;cases h;exact⟨hi,b6.makeMap an hi⟩
 all_goals (simp only[FZ]at h;cases h)
def anc(d K E:Nat):Hint P:=.gs true ([],[]) (λids=>FZ d K E ids) λ_ _ _ _ _ _ _ h _=>agV h
def agx{α:Type}(e:kC α){l r m:List α}(h:iP l r=some m)(aJ:0<l.length):0<(ar e m).length:=by
 obtain⟨_,D⟩:=QL h;rw[oM,←D,length_append];omega
def Ia(bp E d2 sz:Nat)(zs:List (List W))(ids:dI)(op:Op)(env:au)(σ:ag):Option (dw×di):=match op with
 |.call c=>match c.callee with
  |.builtin b=>(match b with
   |.append=>(match c.args.toList with
    |[s,x]=>(match c.argTypes.toList with
     |[T,oq]=>bif Nat.beq T bp&&Nat.beq oq bp&&!ids.contains d2&&σ.clean [d2].contains then(match env.dx x with
       |none=>none
       |some oI=>match kj [] σ oI with
        |some (.bf f bF)=>(match env.dx s with
         |some (.bf true xs)=>some (.e [d2] [d2] (.own d2) ((d2,.slice E sz zs 0 false)::σ),([.bf false xs,.bf false bF],[]))
         |_=>none)
        |_=>none)else none
     |_=>none)
    |_=>none)
   |_=>none)
  |_=>none
 |_=>none
def agW{bp E d2 sz bytes:Nat}{xs bF zs:List (List W)}(aT:kO P bp E sz bytes)(cp:Br sz bytes xs bF zs)(cA:0<bF.length){o:Oper}{N:Nat}{ids:dI}{env:au}{σ:ag}{s:dw}{bc:di}
  (h:Ia bp E d2 sz zs ids o.op env σ=some (s,bc)) (he:bc=([.bf false xs,.bf false bF],[])):gj ⟨P,N,ids⟩ o env σ s:=by
 obtain⟨C4,de,ew,e1,iS,pe⟩:=cp;cases an:o.op<;>rw[an]at h
 case call c=>
  obtain⟨cl,args,tys⟩:=c;simp only[Ia]at h;split at h
  ·split at h
   ·split at h
    ·rename_i k6 m7 mV;have:args=#[k6,m7]:=Array.toList_inj.1 (by simpa using mV);subst this;split at h
     ·rename_i T oq zW;have:tys=#[T,oq]:=Array.toList_inj.1 (by simpa using zW);subst this;generalize U:(Nat.beq T bp&&_&&_&&_)=eU at h;cases eU with
      |false=>cases h
      |true=>
       simp only[cond_true]at h;simp only[Bool.and_eq_true,Bool.not_eq_true']at U;obtain⟨⟨⟨ec,dY⟩,hb⟩,j3⟩:=U;have:=Nat.eq_of_beq_eq_true ec;subst this;have:=Nat.eq_of_beq_eq_true dY;subst this;split at h
       ·cases h
       ·rename_i oI u;split at h
        ·rename_i f PW Z;have vL:jJ σ (env.ev m7) (.bf f PW):=by rw[avz u];exact u0 Z
         split at h
         ·rename_i kU mU;cases h;simp only[Prod.mk.injEq,List.cons.injEq,W.bf.injEq,and_true,true_and]at he;obtain⟨rfl,rfl⟩:=he;refine⟨?_,by simpa using hb⟩;rw[←C4];exact awv (G:=⟨P,N,ids⟩) an (.inr ⟨avz mU,cA⟩) vL aT de ew e1 iS pe hb j3
         ·cases h
        ·cases h
     ·cases h
    ·cases h
   ·cases h
  ·cases h
 all_goals (simp only[Ia]at h;cases h)
def amj{bp E sz bytes:Nat}(d2:Nat){xs bF zs:List (List W)}(aT:kO P bp E sz bytes)(cp:Br sz bytes xs bF zs)(cA:0<bF.length):Hint P:=
 .gs true ([.bf false xs,.bf false bF],[]) (λids=>Ia bp E d2 sz zs ids) λ_ _ _ _ _ _ _ h he=>agW aT cp cA h he
end
section hdr
variable {P:Program}
end hdr
end
end
end Go.Proofs.YtmnbolcmepihlaaGreat
