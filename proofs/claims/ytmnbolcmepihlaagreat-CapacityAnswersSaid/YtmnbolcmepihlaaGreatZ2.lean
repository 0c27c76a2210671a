/- Several texts in one. No condition but those that stand in each. -/
import Derived.Test.YtmnbolcmepihlaaGreatZ1
import Derived.Shelf.SlSortCmp.NoneTotal
import Derived.Shelf.Spec.SlicesInsertGrow
import Derived.Maps.RangeRun
import Derived.Laws.MakeOwn
import Derived.Laws.OwnMore
namespace Go.Proofs.YtmnbolcmepihlaaGreat
section
set_option linter.all false
open Go Go.Sort Go.Lib Go.Shelf Go.RowKit List
def agC{w w':World}(bc:∀b,b<w.heap.size→w'.heap[b]?=w.heap[b]?)(Z:w.heap.size≤w'.heap.size)(bU:w'.tape=w.tape)(ar:w'.os=w.os)(cF:w'.output=w.output)(aa:w.drawn≤w'.drawn):
  ∃q aqk,w'=grow (w.drewN q) aqk:=by
 refine⟨w'.drawn-w.drawn,w'.heap.extract w.heap.size w'.heap.size,?_⟩;obtain⟨h1,t1,d1,hy,kO⟩:=w';obtain⟨h,t,d,o,aq⟩:=w;simp only at bc Z bU ar cF aa ⊢;subst bU ar cF;simp only[grow,World.drewN];congr 1
 ·apply Array.ext_getElem?;intro i;by_cases hi:i<h.size
  ·rw[Array.getElem?_append_left hi];exact bc i hi
  ·rw[Array.getElem?_append_right (by omega),Array.getElem?_extract];have e:h.size+(i-h.size)=i:=by omega
   rw[e];split
   ·rfl
   ·rw[Array.getElem?_eq_none (by omega)]
 ·omega
variable {α:Type}
def Mn(l:List (α→Int)):SWO (ltOf (gD l)) where
 irrefl:=λx=>by simpa [ltOf]using aa9 l x
 trans:=λx y z h1 D=>by simp only[ltOf,decide_eq_true_eq]at *;exact A0 l x y z h1 D
 ntrans:=λx y z h1 D=>by simp only[ltOf,decide_eq_false_iff_not]at *;exact aaH l x y z h1 D
variable {P:Program}{enc:α→List W}{fL:α→α→Int}{g:FuncId}{gR:α→fK}{k:Nat}
def RA[Inhabited α](ai:∀(I:bP) (β:Nat→Value) x,cw I β (enc x) (gR x))
    (bI:∀x y,dn P g [] [.agg (enc x),.agg (enc y)] (.int .i64 (fL x y))) (cV off size:Nat) (w:World):CmpLays P g #[] gR k fL cV off size w:=λm os amW Z x y=>by
  generalize sortWorldK gR k w cV off m amW os=bn
  have gi:cG ⟨P,0,[]⟩ (o2 (iO bn) (λ_=>.nilFunc) [] bn) (iO bn) (λ_=>.nilFunc) [] bn:=
    {good:=G6,iU:=GR,ku:=dc.refl _,jY:=λ_ _ _ _=>rfl,frame:=λ_ _ _=>rfl,size:=Nat.le_refl _,tape:=rfl,os:=rfl,output:=rfl,drawn:=Nat.le_refl _,
     dK:=λd o aa=>by simp[ag.get]at aa,eN:=λd fT aa=>by simp[ag.get]at aa,keep:=λd aa=>by simp at aa}
  have ah:=bI x y _ bn _ (λ_=>.nilFunc) [.agg (gR x).toArray,.agg (gR y).toArray] gi (by
    simp only[cw,aD];exact⟨_,_,rfl,⟨_,rfl,ai _ _ x⟩,_,_,rfl,⟨_,rfl,ai _ _ y⟩,rfl⟩)
  refine Calls.mono ah ?_;rintro e w' ⟨v,rfl,r,aL,bm,β',⟨rfl,rfl⟩,jx,gz⟩;have apo:=jT jx;subst apo;exact⟨rfl,agC (λb Y=>gz.frame b Y (by simp[o2,xm,ag.ids])) gz.size gz.tape gz.os gz.output gz.drawn⟩
def aaJ{k:Nat}(hk:0<k):∀(L:List (List Value)),(∀x∈L,x.length=k)→∀t,L.flatten[t]?=(L[t / k]?).bind λx=>x[t%k]?
 |[],_,t=>by simp
 |x::r,h,t=>by
  have u:=h x (by simp);rw[flatten_cons];by_cases bU:t<k
  ·rw[List.getElem?_append_left (by omega),Nat.div_eq_of_lt bU,Nat.mod_eq_of_lt bU];simp
  ·rw[List.getElem?_append_right (by omega),aaJ hk r (λy ak=>h y (by simp[ak])),u];have e1:t / k=(t-k) / k+1:=by rw[Nat.div_eq_sub_div hk (by omega)]
   have e2:(t-k)%k=t%k:=by rw[Nat.mod_eq_sub_mod (by omega:t≥k)]
   rw[e1,e2];simp
def Sr[Inhabited α](hk:0<k)(aP:∀x,(gR x).length=k)(d:Array α):(flatK gR k d).toList=(d.toList.map gR).flatten:=by
 apply List.ext_getElem?;intro t;rw[aaJ hk _ (λx u=>by obtain⟨y,_,rfl⟩:=List.mem_map.1 u;exact aP y),List.getElem?_map,Array.getElem?_toList,Array.getElem?_toList];by_cases bU:t<d.size*k
 ·have h1:t / k<d.size:=(Nat.div_lt_iff_lt_mul hk).2 bU;have D:=get_flatK gR k d t bU;rw[Array.getElem?_eq_getElem (by simpa using bU),Array.getElem?_eq_getElem h1];rw[getElem!_pos (flatK gR k d) t (by simpa using bU)]at D;rw[D,getElem!_pos d _ h1];have aj:t%k<(gR d[t / k]).length:=by rw[aP];exact Nat.mod_lt _ hk
  simp[List.getElem?_eq_getElem aj,getElem!_pos,aj]
 ·have h1:d.size≤t / k:=(Nat.le_div_iff_mul_le hk).2 (by omega);rw[Array.getElem?_eq_none (by simpa using bU),Array.getElem?_eq_none h1];rfl
def Ir(P:Program)(f g:FuncId){α:Type}[Inhabited α](gR:α→fK)(k:Nat)(fL:α→α→Int):Prop:=∀(cV off aT:Nat) (d:Array α) (w:World),HoldsK gR k w cV off d→cV<w.heap.size→d.size<4611686018427387904→
 Calls P f #[.slice (some ⟨cV,off,none⟩) d.size aT,.func (.func g) #[] #[]] w λe w'=>e=.returned (.tuple #[])∧∃fT n os,PermIn 0 d.size d fT∧SortedIn (ltOf fL) 0 d.size fT∧w'=sortWorldK gR k w cV off n fT os
def akp(P:Program)(f:FuncId):Prop:=∀(p:Option Addr) (aT:Nat) (Ag:Value) (w:World),Calls P f #[.slice p 0 aT,Ag] w λe w'=>e=.returned (.tuple #[])∧w'=w
def ab3[Inhabited α]{d fT:Array α}(aK:PermIn 0 d.size d fT)(Z:SortedIn (ltOf fL) 0 d.size fT):fT.toList.Perm d.toList∧fT.toList.Pairwise λa b=>¬fL b a<0:=by
 obtain⟨h1,_,D⟩:=aK;refine⟨?_,?_⟩
 ·have e1:fT.extract 0 d.size=fT:=by rw[←h1];simp
  have e2:d.extract 0 d.size=d:=by simp
  rwa [e1,e2]at D
 rw[pairwise_iff_getElem];intro i j hi aY iC;have sw:j<fT.size:=by simpa using aY
 have:=Z i j (Nat.zero_le _) iC (by omega);rw[getElem!_pos fT j sw,getElem!_pos fT i (by omega)]at this;simpa [ltOf]using this
def KU{I:bP}{α:Type}{enc:α→List W}{gR:α→fK}(ai:∀x vs,cD I (enc x) vs↔vs=gR x):∀(zs:List α) (vs:fK),cD I (zs.map enc).flatten vs↔vs=(zs.map gR).flatten
 |[],vs=>by simp[cD]
 |z::r,vs=>by
  simp only[map_cons,flatten_cons];rw[mC];constructor
  ·rintro⟨b8,ws,rfl,h1,D⟩;rw[(ai z b8).1 h1,(KU ai r ws).1 D]
  ·rintro rfl;exact⟨_,_,rfl,(ai z _).2 rfl,(KU ai r _).2 rfl⟩
def RV{f:FuncId}[Inhabited α](ai:∀(I:bP) x vs,cD I (enc x) vs↔vs=gR x)(hk:0<k)(aP:∀x,(gR x).length=k)(sv:∀x,(enc x).length=k)
  (bU:∀a b c,fL a b<0→fL b c<0→fL a c<0) (Z:Ir P f g gR k fL) (be:akp P f) {d T:Nat} {zs bD:List α} (h:o4 fL zs=some bD) :
  gZ P f [(d,.slice T k (zs.map enc) 0 false)] [.own d,.fn g []] (λr aL=>r=.dm []∧aL=[(d,.slice T k (bD.map enc) 0 false)]):=by
 intro cx w I β vs aA aC;obtain⟨qa,xb,hz⟩:=abX bU h;simp only[cw]at aC;obtain⟨aq,b8,rfl,aC,kY,zv,rfl,lK,rfl⟩:=aC;simp only[aD,cw]at lK;obtain⟨asH,rfl,lK⟩:=lK;have e2:asH=#[]:=by apply Array.ext';simpa using lK
 subst e2;have aa:ag.get [(d,c4.slice T k (zs.map enc) 0 false)] d=some (.slice T k (zs.map enc) 0 false):=by rw[axp,if_pos rfl]
 have ar:=aA.dK d _ aa;simp only[aD]at aC;obtain⟨rfl,aC⟩:=aC;simp only[br,length_map]at ar;rcases ar with q|⟨q,aG,_⟩|⟨b,aT,arr,ay,aG,a1,aW,bt,b1,cE,dA,ef,eY,gb⟩
 ·rw[q]at aC;simp[jX]at aC
 ·have yH:zs=[]:=by simpa using aG
  subst yH;have apA:bD=[]:=qa.eq_nil;subst apA;rw[q];refine Calls.mono (be none 0 _ w) ?_;rintro e w' ⟨rfl,rfl⟩;exact⟨.tuple #[],rfl,.dm [],_,I,β,⟨rfl,rfl⟩,by simp only[aD,cw];exact⟨_,rfl,rfl⟩,aA⟩
 ·have nh:arr.toList.take (zs.length*k)=(zs.map gR).flatten:=(KU (ai I) zs _).1 b1;have kT:arr.size=aT*k:=bt;have oA:zs.length*k≤arr.size:=by rw[kT];exact Nat.mul_le_mul_right k aG
  have Cw:(flatK gR k zs.toArray).toList=(zs.map gR).flatten:=by rw[Sr hk aP]
  have nQ:∀j,j<zs.length*k→arr[j]?=some ((flatK gR k zs.toArray)[j]!):=λj aY=>by
   have h1:(flatK gR k zs.toArray)[j]?=arr[j]?:=by
    rw[←Array.getElem?_toList,←Array.getElem?_toList,Cw,←nh,getElem?_take,if_pos aY]
   have D:j<(flatK gR k zs.toArray).size:=by simpa using aY
   rw[←h1,getElem!_pos _ j D,Array.getElem?_eq_getElem D]
  have uE:HoldsK gR k w b 0 zs.toArray:=λj aY=>by
   have aY:j<zs.length*k:=by simpa using aY
   constructor
   ·simp only[World.cell?,aW,Nat.zero_add];rw[nQ j aY];rfl
   ·simp[World.frozen?,aW]
  have cq:=hZ aW;have ah:=Z b 0 aT zs.toArray w uE cq (by simpa using hz);rw[ay];refine Calls.mono ah ?_;rintro e w' ⟨rfl,fT,n,os,aoZ,tF,rfl⟩;obtain⟨aoW,vM⟩:=ab3 aoZ tF;have eC:fT.toList=bD:=aa8 (aoW.trans qa.symm) xb vM;have JB:bD.length=zs.length:=qa.length_eq;have vG:fT.size=zs.length:=by rw[←JB,←eC];simp
  generalize cz:flatK gR k fT=R;have YC:R.toList=(bD.map gR).flatten:=by rw[←cz,Sr hk aP,eC]
  have Ct:R.size=zs.length*k:=by rw[←cz,size_flatK,vG]
  have PX:sortWorldK gR k w b 0 n fT os=grow (putRow id (Go.Sort.ahead w n) b 0 R) os:=by rw[←cz];rfl
  rw[PX];have Px:(grow (putRow id (Go.Sort.ahead w n) b 0 R) os).heap[b]?=some (.cells (putCells id 0 R arr) T (0,0)):=by
   simp only[grow,putRow,mapBlock,Go.Sort.ahead];rw[Array.getElem?_append_left (by simpa using cq),Array.getElem?_modify,if_pos rfl,aW];rfl
  have Nu:(putCells id 0 R arr).toList.take (bD.length*k)=(bD.map gR).flatten:=by
   rw[←YC];apply List.ext_getElem?;intro j;rw[getElem?_take];split
   ·rename_i aY;rw[JB]at aY;have h6:j<arr.size:=by omega
    rw[Array.getElem?_toList,Array.getElem?_toList];simp only[putCells,Array.getElem?_mapIdx];have ml:j<R.size:=by omega
    rw[Array.getElem?_eq_getElem h6,Array.getElem?_eq_getElem ml];simp[ml]
   ·rename_i aY;rw[List.getElem?_eq_none (by simp only[Array.length_toList];rw[JB]at aY;omega)]
  refine⟨.tuple #[],rfl,.dm [],_,I,β,⟨rfl,rfl⟩,by simp only[aD,cw];exact⟨_,rfl,rfl⟩,?_⟩;refine cG.turn (b:=b) (d:=d) aA ⟨λk hk cq=>?_,by simp[grow,putRow,mapBlock,Go.Sort.ahead],rfl,rfl,rfl,by simp[grow,putRow,mapBlock,Go.Sort.ahead]⟩ gb (λx u=>?_) (λx u h _=>?_) (dc.refl I) (λ_ _ _=>rfl) (λo v ai=>?_) (aA.uZ aW) (λ_ _=>rfl) (.inr rfl) (h8.refl β) (.inl (by rw[ay];rfl)) (λaZ c5=>?_)
  ·simp only[grow,putRow,mapBlock,Go.Sort.ahead];rw[Array.getElem?_append_left (by simpa using cq),Array.getElem?_modify,if_neg (λe=>hk e.symm)]
  ·rw[axp,axp,if_neg (Ne.symm u),if_neg (Ne.symm u)]
  ·rw[axp,if_neg (Ne.symm u)]at h;simp[ag.get]at h
  ·rw[eY o (by omega)]at ai;cases ai
  ·rw[axp,if_pos rfl]at c5;injection c5 with c5
   subst c5;simp only[br,length_map];refine .inr (.inr ⟨b,aT,_,by rw[ay,JB],by omega,a1,Px,by simpa [putCells]using bt,?_,?_,by omega,?_,?_,gb⟩)
   ·exact(KU (ai I) _ _).2 Nu
   ·intro e he;obtain⟨x,_,rfl⟩:=List.mem_map.1 he;exact sv x
   ·intro h;cases h
   ·intro o _;exact eY o (by omega)
end
section
set_option linter.all false
open Go Go.Lib Go.RowKit List
def abF{P:Program}(w:World)(t e ty:TypeId)(z:Value)(bU:P.underlying t=some (.slice e))(ai:∀w,(zeroValue e).run P w=.ok z w)(b o n c:Nat)(uu:jj)(T:TypeId)(bQ:w.heap[b]?=some (.cells uu T (0,0)))(be:0<n)
  (uM:o+(Builtin.zeroCells z.cells n).toList.length≤uu.size) (h1:∀v∈(Builtin.zeroCells z.cells n).toList,v.oneCell'=true) :
  (Builtin.clear_ #[t] ty #[.slice (some ⟨b,o,none⟩) n c]).run P w=.ok (.tuple #[]) (w.setRow b (uu.toList.take o++(Builtin.zeroCells z.cells n).toList++uu.toList.drop (o+(Builtin.zeroCells z.cells n).toList.length)).toArray):=by
 have lB:=run_storeCells_at P b o T (Builtin.zeroCells z.cells n).toList 0 uu w bQ (by simpa using uM) h1;simp only[Nat.add_zero]at lB;obtain⟨m,rfl⟩:∃m,n=m+1:=⟨n-1,by omega⟩;simp[Builtin.clear_,run_underlying bU,ai,lB]
def abQ{z:jj}(h:∀v∈z.toList,v.oneCell'=true):∀(n:Nat),∀v∈(Builtin.zeroCells z n).toList,v.oneCell'=true:=by
 intro n;unfold Builtin.zeroCells;intro v ai;simp only[Array.toList_map,List.mem_map]at ai;obtain⟨k,hk,rfl⟩:=ai;by_cases hz:k%z.size<z.size
 ·rw[getElem!_pos z _ hz];exact h _ (by simp)
 ·have:z.size=0:=by
   rcases Nat.eq_zero_or_pos z.size with h|h
   ·exact h
   ·exact absurd (Nat.mod_lt k h) hz
  simp[this]at hk
end
section
set_option linter.all false
open Go List
section
section redo
variable {G:c7}{cx:gj}{I:bP}{β:Nat→Value}{σ:ag}{w:World}
def cG.redo(h:cG G cx I β σ w){M news:ei}{σ2:ag}{gC:Nat→Value}{w':World}{b:Nat}(hk:hJ w w' b)(Yz:∀o,I b o=none)(pJ:∀x,x∉M→(σ.get x).isSome→b∉e4 (β x))(aK:Place cx b)
    (uW:∀x,x∉M→σ2.get x=σ.get x) (mK:∀x,x∉news→gC x=β x) (sy:∀x∈news,x∈M∧x∉G.ids) (iQ:∀x o,x∉M→σ.get x=some o→pE news.contains o=false)
    (B4:∀x∈M,∀o,σ2.get x=some o→br cx I gC w' x o)
    (Jv:∀x∈M,(σ2.get x).isSome→∀c∈e4 (gC x),∃y∈M,(σ.get y).isSome∧c∈e4 (β y))
    (pM:∀x∈M,∀y∈M,x≠y→(σ2.get x).isSome→(σ2.get y).isSome→∀c∈e4 (gC x),c∉e4 (gC y)):cG G cx I gC σ2 w':=by
  have IM:∀x,x∉M→gC x=β x:=λx u=>mK x λbe=>u (sy x be).1
  exact{
    good:=λaX o v ai=>by
      have h1:=h.good aX o v ai;have cq:aX<w.heap.size:=World.block_lt_of_cell? w _ h1;have di:aX≠b:=λe=>by subst e;rw[Yz]at ai;cases ai
      rw[World.cell?_of_block (w:=w) (hk.block aX di cq)];exact h1
    iU:=λaX v ai=>by
      have di:aX≠b:=λe=>by subst e;rw[Yz]at ai;cases ai
      obtain⟨es,clock,h1,D⟩:=h.iU aX v ai;exact⟨es,clock,by rw[hk.block aX di (hZ h1)];exact h1,D⟩
    ku:=h.ku
    jY:=h.jY
    frame:=λaX Y be=>by
      have:aX≠b:=λe=>by
        subst e;rcases aK with q|q
        · omega
        · exact be q
      rw[hk.block aX this (by have:=h.size;omega)];exact h.frame aX Y be
    size:=Nat.le_trans h.size hk.size
    tape:=hk.tape.trans h.tape
    os:=hk.os.trans h.os
    output:=hk.output.trans h.output
    drawn:=Nat.le_trans h.drawn hk.drawn
    dK:=λx o u=>by
      by_cases hm:x∈M
      · exact B4 x hm o u
      · rw[uW x hm]at u
        have h1:=(h.dK x o u).beta (β':=gC) (p:=news.contains) (λd aa=>mK d (by simpa using aa)) (by simpa using λbe=>hm (sy x be).1) (iQ x o hm u);exact h1.keep hk rfl (by rw[IM x hm];exact pJ x hm (by rw[u];rfl)) (dc.refl I) (λ_ _ _=>rfl) (h8.refl gC)
    eN:=λx y u ak di c ah j2=>by
      by_cases hm:x∈M
      · by_cases mH:y∈M
        · exact pM x hm y mH di u ak c ah j2
        · obtain⟨z,kG,l8,z3⟩:=Jv x hm u c ah
          rw[uW y mH]at ak;rw[IM y mH]at j2;exact h.eN z y l8 ak (λe=>mH (e▸kG)) c z3 j2
      · rw[uW x hm]at u
        rw[IM x hm]at ah;by_cases mH:y∈M
        · obtain⟨z,kG,l8,z3⟩:=Jv y mH ak c j2
          exact h.eN x z u l8 (λe=>hm (e▸kG)) c ah z3
        · rw[uW y mH]at ak
          rw[IM y mH]at j2;exact h.eN x y u ak di c ah j2
    keep:=λx u=>by
      have:x∉news:=λbe=>(sy x be).2 u;rw[mK x this];exact h.keep x u}
def cG.NP(h:cG G cx I β σ w){M news:ei}{σ2:ag}{gC:Nat→Value}
  (uW:∀x,x∉M→σ2.get x=σ.get x) (mK:∀x,x∉news→gC x=β x) (sy:∀x∈news,x∈M∧x∉G.ids) (iQ:∀x o,x∉M→σ.get x=some o→pE news.contains o=false)
  (B4:∀x∈M,∀o,σ2.get x=some o→br cx I gC w x o)
  (Jv:∀x∈M,(σ2.get x).isSome→∀c∈e4 (gC x),∃y∈M,(σ.get y).isSome∧c∈e4 (β y))
  (pM:∀x∈M,∀y∈M,x≠y→(σ2.get x).isSome→(σ2.get y).isSome→∀c∈e4 (gC x),c∉e4 (gC y)):cG G cx I gC σ2 w:=
 h.redo (b:=w.heap.size) ⟨λ_ _ _=>rfl,Nat.le_refl _,rfl,rfl,rfl,Nat.le_refl _⟩ (λo=>h.jS (Nat.le_refl _) o) (λx _ Z e=>by
  obtain⟨o,Z⟩:=Option.isSome_iff_exists.1 Z;exact absurd (h.tN Z e) (by omega)) (.inl h.size) uW mK sy iQ B4 Jv pM
end redo
section rows
variable {cx:gj}{I:bP}{w:World}
def jv.length:∀{dy:List hE} {Z:fK},jv cx I w dy Z→Z.length=dy.length
 |[],_,h=>by rw[show _=[]from h];rfl
 |x::r,_,h=>by obtain⟨aq,b8,rfl,_,_,aj⟩:=h;simp[jv.length aj]
def jv.get:∀{dy:List hE} {Z:fK},jv cx I w dy Z→∀{i:Nat} {x:hE},dy[i]?=some x→∃v,Z[i]?=some v∧l1 cx I w x v
 |[],_,_,i,x,hi=>by simp at hi
 |y::r,_,h,i,x,hi=>by
  obtain⟨aq,b8,rfl,h1,_,aj⟩:=h;cases i with
  |zero=>simp at hi;subst hi;exact⟨aq,rfl,h1⟩
  |succ i=>simp at hi ⊢;exact aj.get hi
def jv.ne:∀{dy:List hE} {Z:fK},jv cx I w dy Z→∀{i j:Nat} {aq v:Value} {b:Nat},i≠j→Z[i]?=some aq→Z[j]?=some v→cV aq=some b→cV v≠some b
 |[],_,h,i,j,aq,v,b,_,hi,_,_=>by rw[show _=[]from h]at hi;simp at hi
 |y::r,_,h,i,j,aq,v,b,iC,hi,aY,cF=>by
  obtain⟨z,b8,rfl,h1,D,aj⟩:=h;cases i with
  |zero=>
   cases j with
   |zero=>exact absurd rfl iC
   |succ j=>
    simp at hi aY;subst hi
    intro ai;exact D b cF (List.mem_filterMap.2 ⟨v,List.mem_of_getElem? aY,ai⟩)
  |succ i=>
   cases j with
   |zero=>
    simp at hi aY;subst aY
    intro ai;exact D b ai (List.mem_filterMap.2 ⟨aq,List.mem_of_getElem? hi,cF⟩)
   |succ j=>simp at hi aY;exact aj.ne (λe=>iC (by rw[e])) hi aY cF
def jv.set:∀{dy:List hE} {Z:fK},jv cx I w dy Z→∀{i:Nat} {x:hE} {v:Value},l1 cx I w x v→(∀j aq b,j≠i→Z[j]?=some aq→cV v=some b→cV aq≠some b)→jv cx I w (dy.set i x) (Z.set i v)
 |[],_,h,i,x,v,_,_=>by rw[show _=[]from h];simp[jv]
 |y::r,_,h,i,x,v,u,aa=>by
  obtain⟨z,b8,rfl,h1,D,aj⟩:=h;cases i with
  |zero=>
   refine⟨v,b8,rfl,u,λb Y hm=>?_,aj⟩;obtain⟨aq,cF,kD⟩:=List.mem_filterMap.1 hm;obtain⟨j,aY⟩:=List.getElem?_of_mem cF;exact aa (j+1) aq b (by simp) (by simpa using aY) Y kD
  |succ i=>
   refine⟨z,b8.set i v,rfl,h1,λb Y hm=>?_,aj.set u λj aq b aY cF Y=>aa (j+1) aq b (λe=>aY (by simpa using e)) (by simpa using cF) Y⟩;obtain⟨aq,cF,kD⟩:=List.mem_filterMap.1 hm;rcases List.mem_or_eq_of_mem_set cF with cF|rfl
   ·exact D b Y (List.mem_filterMap.2 ⟨aq,cF,kD⟩)
   ·exact aa 0 z b (by simp) rfl kD Y
def rq(vs:jj):e4 (.tuple vs)=vs.toList.filterMap cV:=rfl
def Rs{Z:fK}{i:Nat}{v:Value}{b:Nat}(h:b∈(Z.set i v).filterMap cV):b∈Z.filterMap cV∨cV v=some b:=by
 obtain⟨aq,cF,kD⟩:=List.mem_filterMap.1 h;rcases List.mem_or_eq_of_mem_set cF with cF|rfl
 ·exact .inl (List.mem_filterMap.2 ⟨aq,cF,kD⟩)
 ·exact .inr kD
def hE.obj:hE→c4
 |.sl T sz xs=>.slice T sz xs 0 false
 |.mp K E bO=>.map K E bO
def hE.empty:hE→hE
 |.sl T sz _=>.sl T sz []
 |.mp _ _ _=>.sl 0 0 []
def hE.agD(x:hE):l1 cx I w x.empty (.slice none 0 0):=by cases x<;>exact .inl ⟨rfl,rfl⟩
def l1.obj{x:hE}{v:Value}{β:Nat→Value}{d:Nat}(h:l1 cx I w x v)(aa:β d=v):br cx I β w d x.obj:=by
 cases x with
 |sl T sz xs=>
  simp only[hE.obj,br,aa];rcases h with⟨h,rfl⟩|⟨b,aT,arr,h1,D,aj,aV,b4,dz,fz,hv,hc⟩
  ·exact .inr (.inl ⟨h,rfl,trivial⟩)
  ·exact .inr (.inr ⟨b,aT,arr,h1,D,aj,aV,b4,dz,fz,Nat.zero_le _,λh=>(by cases h),λo _=>hv o,hc⟩)
 |mp K E bO=>
  simp only[hE.obj,br,aa];obtain⟨r,es,clock,h1,D,aj,aV,b4,dz⟩:=h;exact .inr ⟨r,es,clock,h1,D,aj,aV,b4,dz⟩
def ax1{T sz:Nat}{xs:List (List W)}{dO:Bool}{β:Nat→Value}{d:Nat}(h:br cx I β w d (.slice T sz xs 0 dO))(be:β d≠.nilFunc):l1 cx I w (.sl T sz xs) (β d):=by
 simp only[br]at h;rcases h with h|⟨h,rfl,_⟩|⟨b,aT,arr,h1,D,aj,aV,b4,dz,fz,_,_,hv,hc⟩
 ·exact absurd h be
 ·exact .inl ⟨h,rfl⟩
 ·exact .inr ⟨b,aT,arr,h1,D,aj,aV,b4,dz,fz,λo=>hv o (by omega),hc⟩
def l1.ne{x:hE}{v:Value}(h:l1 cx I w x v):v≠.nilFunc∧(jX v=true∨nN v=true):=by
 cases x with
 |sl T sz xs=>
  rcases h with⟨h,_⟩|⟨b,aT,arr,h1,_⟩
  ·rw[h];simp[jX]
  ·rw[h1];simp[jX]
 |mp K E bO=>obtain⟨r,es,clock,h1,_⟩:=h;rw[h1];simp[nN]
def l1.G7{x:hE}{v:Value}(h:l1 cx I w x v){b:Nat}(Y:b∈e4 v):cV v=some b:=by
 cases v with
 |tuple vs=>
  have:=h.ne.2;simp[jX,nN]at this
 |_=>simpa [e4]using Y
end rows
def c4.y4(e2:Nat)(D:Option (nZ×Nat)):c4→c4
 |.e5 T _ n _=>.e5 T e2 n D
 |.nO K E _ mu _ fx=>.nO K E e2 mu D fx
 |o=>o
def c4.zK:c4→Option (Nat×Option (nZ×Nat))
 |.e5 _ e _ h=>some (e,h)
 |.nO _ _ e _ h _=>some (e,h)
 |_=>none
def br.outer{cx:gj}{I:bP}{β:Nat→Value}{w:World}{d:Nat}{o:c4}{e:Nat}{gI:Option (nZ×Nat)}(ar:o.zK=some (e,gI))(h:br cx I β w d o):
  β d=.nilFunc∨∃Z dU,β e=.tuple Z∧lz β Z.toList dU gI∧∃b,cV (β d)=some b:=by
 cases o<;>simp only[c4.zK,Option.some.injEq,Prod.mk.injEq]at ar<;>first|(cases ar;done)|skip
 ·obtain⟨rfl,rfl⟩:=ar;simp only[br]at h;rcases h with q|⟨b,aT,arr,Z,ay,aG,a1,aW,bt,b1,cE,dA,ef,eY⟩
  ·exact .inl q
  ·exact .inr ⟨Z,_,b1,dA,b,by rw[ay];rfl⟩
 ·obtain⟨rfl,rfl⟩:=ar;simp only[br]at h;rcases h with q|⟨r,es,clock,Z,dU,ay,aG,a1,aW,bt,b1,cE,dA⟩
  ·exact .inl q
  ·exact .inr ⟨Z,_,a1,aW,r,by rw[ay];rfl⟩
def br.UK{cx:gj}{I:bP}{β gC:Nat→Value}{w:World}{d:Nat}{o:c4}{e e2:Nat}{gI D:Option (nZ×Nat)}{Z fV:jj}(ar:o.zK=some (e,gI))(h:br cx I β w d o)(aa:gC d=β d)
  (he:β e=.tuple Z) (oW:gC e2=.tuple fV) (be:fV.size=Z.size) (ct:∀dU,lz β Z.toList dU gI→lz gC fV.toList dU D):br cx I gC w d (o.y4 e2 D):=by
 cases o<;>simp only[c4.zK,Option.some.injEq,Prod.mk.injEq]at ar<;>first|(cases ar;done)|skip
 ·obtain⟨rfl,rfl⟩:=ar;simp only[br,c4.y4,aa]at h ⊢;rcases h with q|⟨b,aT,arr,m9,ay,aG,a1,aW,bt,b1,cE,dA,ef,eY⟩
  ·exact .inl q
  ·rw[he]at b1;cases b1
   exact .inr ⟨b,aT,arr,fV,ay,aG,a1,aW,bt,oW,be.trans cE,ct _ dA,ef,eY⟩
 ·obtain⟨rfl,rfl⟩:=ar;simp only[br,c4.y4,aa]at h ⊢;rcases h with q|⟨r,es,clock,m9,dU,ay,aG,a1,aW,bt,b1,cE,dA⟩
  ·exact .inl q
  ·rw[he]at a1;cases a1
   exact .inr ⟨r,es,clock,fV,dU,ay,aG,oW,ct _ aW,bt,b1,cE,dA⟩
section take
variable {G:c7}{cx:gj}{I:bP}{β:Nat→Value}{σ:ag}{w:World}
def D8(σ:ag)(d e e2 t:Nat)(pf:c4)(dy:List hE)(i:Nat)(x:hE):ag:=(t,x.obj)::(e2,.cO (dy.set i x.empty))::(d,pf.y4 e2 (some (some i,t)))::σ.minus [d,e]
def EL{σ:ag}{a b c:Nat}{A7 aZ ZE:c4}{M:ei}(x:Nat):ag.get ((a,A7)::(b,aZ)::(c,ZE)::σ.minus M) x=if a=x then some A7 else if b=x then some aZ else if c=x then some ZE else if x∈M then none else σ.get x:=by
 rw[axp,axp,axp,axz]
def zY{σ:ag}{a b:Nat}{A7 aZ:c4}{M:ei}(x:Nat):ag.get ((a,A7)::(b,aZ)::σ.minus M) x=if a=x then some A7 else if b=x then some aZ else if x∈M then none else σ.get x:=by
 rw[axp,axp,axz]
def cG.take(h:cG G cx I β σ w){d e e2 t i:Nat}{pf:c4}{dy:List hE}{x:hE}(aa:σ.get d=some pf)(ar:pf.zK=some (e,none))(he:σ.get e=some (.cO dy))(u:dy[i]?=some x)(k6:β d≠.nilFunc)
  (bU:σ.get t=none) (oW:σ.get e2=none) (P0:t≠e2) (P3:t∉G.ids) (uL:e2∉G.ids) (iQ:σ.clean [t,e2].contains=true) :
  ∃Z:jj,β e=.tuple Z∧∃v,Z[i]?=some v∧l1 cx I w x v∧cG G cx I (λy=>if y=t then v else if y=e2 then .tuple (Z.setIfInBounds i (.slice none 0 0))else β y) (D8 σ d e e2 t pf dy i x) w:=by
 rcases(h.dK d pf aa).outer ar with q|⟨Z,dU,ay,aG,bd,a1⟩
 ·exact absurd q k6
 have nK:=h.dK e _ he;simp only[br,ay,Value.tuple.injEq,reduceCtorEq,false_or]at nK;obtain⟨m9,rfl,Y⟩:=nK;obtain⟨v,g2,iP⟩:=Y.get u;refine⟨Z,ay,v,by simpa using g2,iP,?_⟩;have di:∀y,(σ.get y).isSome→y≠t∧y≠e2:=λy ak=>⟨λe=>(by subst e;rw[bU]at ak;cases ak),λe=>(by subst e;rw[oW]at ak;cases ak)⟩;have zL:=di d (by rw[aa];rfl);have IN:=di e (by rw[he];rfl);have m7:d≠e:=λdW=>by subst dW;rw[aa]at he;cases he;cases ar
 have Fx:i<Z.toList.length:=(List.getElem?_eq_some_iff.1 g2).1
 let gC:Nat→Value:=λy=>if y=t then v else if y=e2 then .tuple (Z.setIfInBounds i (.slice none 0 0))else β y
 have E4:gC t=v:=by show(if _ then _ else _)=_;rw[if_pos rfl]
 have vr:gC e2=.tuple (Z.setIfInBounds i (.slice none 0 0)):=by show(if _ then _ else _)=_;rw[if_neg (Ne.symm P0),if_pos rfl]
 have si:gC d=β d:=by show(if _ then _ else _)=_;rw[if_neg zL.1,if_neg zL.2]
 have j4:(Z.setIfInBounds i (.slice none 0 0)).toList=Z.toList.set i (.slice none 0 0):=by simp
 refine h.NP (M:=[d,e,e2,t]) (news:=[t,e2]) (gC:=gC) (λy ak=>?_) (λy ak=>?_) (λy ak=>?_) (λy o _ kE=>(axC iQ y o kE).2) (λy ak o kE=>?_) (λy ak fV c ah=>?_) (λy ak z hz sF fU fV c ah j2=>?_)
 ·simp only[mem_cons,not_mem_nil,or_false,not_or]at ak;rw[D8,EL,if_neg (Ne.symm ak.2.2.2),if_neg (Ne.symm ak.2.2.1),if_neg (Ne.symm ak.1),if_neg (by simp[ak.1,ak.2.1])]
 ·simp only[mem_cons,not_mem_nil,or_false,not_or]at ak;show(if _ then _ else _)=_;rw[if_neg ak.1,if_neg ak.2]
 ·simp only[mem_cons,not_mem_nil,or_false]at ak;rcases ak with rfl|rfl
  ·exact⟨by simp,P3⟩
  ·exact⟨by simp,uL⟩
 ·rw[D8,EL]at kE;split at kE
  ·rename_i dW;subst dW;cases kE;exact iP.obj E4
  ·split at kE
   ·rename_i dW;subst dW;cases kE
    simp only[br];refine .inr ⟨_,vr,?_⟩;rw[j4];exact Y.set x.agD λj aq b _ _ h5=>by cases h5
   ·split at kE
    ·rename_i dW;subst dW;cases kE
     refine(h.dK d pf aa).UK ar si ay vr (by simp) λdU pH=>?_;rw[show dU=Z.toList from pH,j4];refine⟨by simpa using Fx,by rw[E4];exact iP.ne.1,?_⟩;rw[E4,List.set_set];apply List.ext_getElem?;intro j;rw[List.getElem?_set];by_cases iC:i=j
     ·subst iC;rw[if_pos rfl,if_pos Fx];exact g2
     ·rw[if_neg iC]
    ·split at kE
     ·cases kE
     ·rename_i h1 D aj aV;simp only[mem_cons,not_mem_nil,or_false]at ak aV;rcases ak with rfl|rfl|rfl|rfl
      ·exact absurd rfl aj
      ·exact absurd (.inr rfl) aV
      ·exact absurd rfl D
      ·exact absurd rfl h1
 ·simp only[mem_cons,not_mem_nil,or_false]at ak;rw[D8,EL]at fV;by_cases AO:y=d
  ·subst AO;rw[si]at ah;exact⟨y,by simp,by rw[aa];rfl,ah⟩
  by_cases Qa:y=t
  ·subst Qa;rw[E4]at ah;exact⟨e,by simp,by rw[he];rfl,by rw[ay,rq];exact List.mem_filterMap.2 ⟨v,List.mem_of_getElem? g2,iP.G7 ah⟩⟩
  by_cases P9:y=e2
  ·subst P9;rw[vr,rq,j4]at ah;rcases Rs ah with ah|ah
   ·exact⟨e,by simp,by rw[he];rfl,by rw[ay,rq];exact ah⟩
   ·cases ah
  ·rw[if_neg (Ne.symm Qa),if_neg (Ne.symm P9),if_neg (Ne.symm AO),if_pos]at fV
   ·cases fV
   ·rcases ak with rfl|rfl|rfl|rfl
    ·exact absurd rfl AO
    ·simp
    ·exact absurd rfl P9
    ·exact absurd rfl Qa
 ·
  have ta:∀y,y∈[d,e,e2,t]→(ag.get (D8 σ d e e2 t pf dy i x) y).isSome→y=d∨y=e2∨y=t:=λy ak fV=>by
   rw[D8,EL]at fV;simp only[mem_cons,not_mem_nil,or_false]at ak;rcases ak with rfl|rfl|rfl|rfl
   ·exact .inl rfl
   ·rw[if_neg (Ne.symm IN.1),if_neg (Ne.symm IN.2),if_neg m7,if_pos (by simp)]at fV;cases fV
   ·exact .inr (.inl rfl)
   ·exact .inr (.inr rfl)
  have IP:∀c,c∈e4 (β d)→c∉e4 (β e):=h.eN d e (by rw[aa];rfl) (by rw[he];rfl) m7
  have Zq:∀c,c∈e4 (gC e2)→∃j aq,j≠i∧Z.toList[j]?=some aq∧cV aq=some c:=λc ah=>by
   rw[vr,rq,j4]at ah;obtain⟨aq,cF,kD⟩:=List.mem_filterMap.1 ah;obtain⟨j,aY⟩:=List.getElem?_of_mem cF;rw[List.getElem?_set]at aY;split at aY
   ·rename_i iC;cases aY;cases kD
   ·rename_i iC;exact⟨j,aq,λe=>iC e.symm,aY,kD⟩
  have WT:∀c,c∈e4 (gC e2)→c∈e4 (β e):=λc ah=>by
   obtain⟨j,aq,_,aY,cF⟩:=Zq c ah;rw[ay,rq];exact List.mem_filterMap.2 ⟨aq,List.mem_of_getElem? aY,cF⟩
  have Zr:∀c,c∈e4 (gC t)→cV v=some c:=λc ah=>by rw[E4]at ah;exact iP.G7 ah
  have WU:∀c,c∈e4 (gC t)→c∈e4 (β e):=λc ah=>by
   rw[ay,rq];exact List.mem_filterMap.2 ⟨v,List.mem_of_getElem? g2,Zr c ah⟩
  have Yr:∀c,c∈e4 (gC e2)→c∈e4 (gC t)→False:=λc ah j2=>by
   obtain⟨j,aq,aY,PB,kD⟩:=Zq c ah;exact Y.ne aY PB g2 kD (Zr c j2)
  rcases ta y ak fU with rfl|rfl|rfl<;>rcases ta z hz fV with rfl|rfl|rfl
  ·exact sF rfl
  ·rw[si]at ah;exact IP c ah (WT c j2)
  ·rw[si]at ah;exact IP c ah (WU c j2)
  ·rw[si]at j2;exact IP c j2 (WT c ah)
  ·exact sF rfl
  ·exact Yr c ah j2
  ·rw[si]at j2;exact IP c j2 (WU c ah)
  ·exact Yr c j2 ah
  ·exact sF rfl
def cG.back(h:cG G cx I β σ w){d e e2 t i:Nat}{pf:c4}{dy:List hE}{T sz:Nat}{xs:List (List W)}{dO:Bool}(aa:σ.get d=some pf)(ar:pf.zK=some (e,some (some i,t)))(he:σ.get e=some (.cO dy))
  (bU:σ.get t=some (.slice T sz xs 0 dO)) (oW:σ.get e2=none) (uL:e2∉G.ids) (iQ:σ.clean [e2].contains=true) :
  ∃gC,(∀y,y≠e2→gC y=β y)∧cG G cx I gC ((e2,.cO (dy.set i (.sl T sz xs)))::(d,pf.y4 e2 none)::σ.minus [d,e,t]) w:=by
 have di:∀y,(σ.get y).isSome→y≠e2:=λy ak e=>by subst e;rw[oW]at ak;cases ak
 have zL:=di d (by rw[aa];rfl);have IN:=di e (by rw[he];rfl);have apg:=di t (by rw[bU];rfl);have m7:d≠e:=λdW=>by subst dW;rw[aa]at he;cases he;cases ar
 have YI:d≠t:=λdW=>by subst dW;rw[aa]at bU;cases bU;cases ar
 have aol:e≠t:=λdW=>by subst dW;rw[he]at bU;cases bU
 have xo:∃aq:Value,(pf.zK=some (e,some (some i,t))→∀gC:Nat→Value,(∀y,y≠e2→gC y=β y)→gC e2=aq→br cx I gC w d (pf.y4 e2 none)∧br cx I gC w e2 (.cO (dy.set i (.sl T sz xs))))∧∀c∈e4 aq,c∈e4 (β e)∨c∈e4 (β t):=by
  rcases(h.dK d pf aa).outer ar with q|⟨Z,dU,ay,⟨aG,QV,awC⟩,bd,a1⟩
  ·refine⟨.nilFunc,λ_ gC h1 D=>⟨?_,by simp only[br];exact .inl D⟩,by simp[Rc]⟩;have:gC d=.nilFunc:=by rw[h1 d zL];exact q
   cases pf<;>simp only[c4.zK,reduceCtorEq]at ar<;>simp only[c4.y4,br]<;>exact .inl this
  ·have nK:=h.dK e _ he;simp only[br,ay,Value.tuple.injEq,reduceCtorEq,false_or]at nK;obtain⟨m9,rfl,Y⟩:=nK;have jm:=ax1 (h.dK t _ bU) QV;refine⟨.tuple (Z.setIfInBounds i (β t)),λ_ gC h1 D=>⟨?_,?_⟩,λc ah=>?_⟩
   ·refine(h.dK d pf aa).UK ar (h1 d zL) ay D (by simp) λai6 pH=>?_;obtain⟨_,_,pH⟩:=pH;show ai6=_;rw[pH];simp
   ·simp only[br];refine .inr ⟨_,D,?_⟩;rw[show(Z.setIfInBounds i (β t)).toList=Z.toList.set i (β t)by simp];refine Y.set jm λj aq b aY PB Pm nK=>?_;refine h.eN e t (by rw[he];rfl) (by rw[bU];rfl) aol b ?_ (lF Pm);rw[ay,rq];exact List.mem_filterMap.2 ⟨aq,List.mem_of_getElem? PB,nK⟩
   ·rw[rq,show(Z.setIfInBounds i (β t)).toList=Z.toList.set i (β t)by simp]at ah;rcases Rs ah with ah|ah
    ·exact .inl (by rw[ay,rq];exact ah)
    ·exact .inr (lF ah)
 obtain⟨aq,m1,m2⟩:=xo;have gr:∀y,y≠e2→(λy=>if y=e2 then aq else β y) y=β y:=λy ak=>if_neg ak;have wL:(λy=>if y=e2 then aq else β y) e2=aq:=if_pos rfl;refine⟨λy=>if y=e2 then aq else β y,gr,?_⟩;generalize (λy=>if y=e2 then aq else β y)=gC at gr wL;obtain⟨hy,fS⟩:=m1 ar gC gr wL
 have ta:∀y,y∈[d,e,e2,t]→(ag.get ((e2,.cO (dy.set i (.sl T sz xs)))::(d,pf.y4 e2 none)::σ.minus [d,e,t]) y).isSome→y=d∨y=e2:=λy ak fV=>by
  rw[zY]at fV;simp only[mem_cons,not_mem_nil,or_false]at ak;rcases ak with rfl|rfl|rfl|rfl
  ·exact .inl rfl
  ·rw[if_neg (Ne.symm IN),if_neg m7,if_pos (by simp)]at fV;cases fV
  ·exact .inr rfl
  ·rw[if_neg (Ne.symm apg),if_neg YI,if_pos (by simp)]at fV;cases fV
 have WV:∀c,c∈e4 (gC d)→c∉e4 (gC e2):=λc ah j2=>by
  rw[gr d zL]at ah;rw[wL]at j2;rcases m2 c j2 with q|q
  ·exact h.eN d e (by rw[aa];rfl) (by rw[he];rfl) m7 c ah q
  ·exact h.eN d t (by rw[aa];rfl) (by rw[bU];rfl) YI c ah q
 refine h.NP (M:=[d,e,e2,t]) (news:=[e2]) (gC:=gC) (λy ak=>?_) (λy ak=>gr y (by simpa using ak)) (λy ak=>by simp only[List.mem_singleton]at ak;subst ak;exact⟨by simp,uL⟩) (λy o _ kE=>(axC iQ y o kE).2) (λy ak o kE=>?_) (λy ak fV c ah=>?_) (λy ak z hz sF fU fV c ah j2=>?_)
 ·simp only[mem_cons,not_mem_nil,or_false,not_or]at ak;rw[zY,if_neg (Ne.symm ak.2.2.1),if_neg (Ne.symm ak.1),if_neg (by simp[ak.1,ak.2.1,ak.2.2.2])]
 ·have:=ta y ak (by rw[kE];rfl);rw[zY]at kE;rcases this with rfl|rfl
  ·rw[if_neg (Ne.symm zL),if_pos rfl]at kE;cases kE;exact hy
  ·rw[if_pos rfl]at kE;cases kE;exact fS
 ·rcases ta y ak fV with rfl|rfl
  ·rw[gr y zL]at ah;exact⟨y,by simp,by rw[aa];rfl,ah⟩
  ·rw[wL]at ah;rcases m2 c ah with q|q
   ·exact⟨e,by simp,by rw[he];rfl,q⟩
   ·exact⟨t,by simp,by rw[bU];rfl,q⟩
 ·rcases ta y ak fU with rfl|rfl<;>rcases ta z hz fV with rfl|rfl
  ·exact sF rfl
  ·exact WV c ah j2
  ·exact WV c j2 ah
  ·exact sF rfl
end take
end
section
def Dg{α:Type}(p:Int×α)(r:List (Int×α))(n:Int):cH (p::r) n=if p.1=n then some p.2 else cH r n:=by
 by_cases h:p.1=n<;>simp[cH,List.find?,h]
section
variable {G:c7}{σ:ag}{o:Oper}{ev:Operand→W}
end
end
section
section imms
variable {cx:gj}{I:bP}{β:Nat→Value}{w:World}
def br.apH{bm:bP}{d:Nat}{o:c4}(hle:dc I bm)(Y4:∀b∈e4 (β d),∀o,bm b o=I b o)(hd:br cx I β w d o):br cx bm β w d o:=by
 have jE:∀aX o,cV (β d)=some aX→bm aX o=I aX o:=λaX o h5=>Y4 aX (lF h5) o;cases o with
 |cO dy=>
  simp only[br]at hd ⊢;rcases hd with q|⟨Z,ay,aG⟩
  ·exact .inl q
  ·exact .inr ⟨Z,ay,aG.go hle λaX h5=>⟨λ_=>rfl,Y4 aX (by rw[ay];exact h5),id⟩⟩
 |ic T xs t=>
  simp only[br]at hd ⊢;rcases hd with q|⟨aX,aT,arr,ay,aG,a1,aW,bt,b1,cE,dA,ef,eY,gb⟩
  ·exact .inl q
  ·exact .inr ⟨aX,aT,arr,ay,aG,a1,aW,bt,ov hle _ _ b1,cE,dA,ef,λo=>by rw[jE aX o (by rw[ay];rfl)];exact eY o,gb⟩
 |vec T xs=>
  simp only[br]at hd ⊢;rcases hd with q|⟨aX,arr,ay,aG,a1,aW,bt⟩
  ·exact .inl q
  ·exact .inr ⟨aX,arr,ay,aG,a1,λo=>by rw[jE aX o (by rw[ay];rfl)];exact aW o,bt⟩
 |jd es clock bO seen=>
  simp only[br]at hd ⊢;rcases hd with q|⟨r,ha,ay,aG,a1,aW,bt,b1,cE⟩
  ·exact .inl q
  ·exact .inr ⟨r,ha,ay,aG,hle _ _ _ a1,nA hle _ _ aW,bt,λo=>by rw[jE r o (by rw[ay];rfl)];exact b1 o,cE⟩
 |e5 T e n gI=>
  simp only[br]at hd ⊢;rcases hd with q|⟨aX,aT,arr,Z,ay,aG,a1,aW,bt,b1,cE,dA,ef,eY⟩
  ·exact .inl q
  ·exact .inr ⟨aX,aT,arr,Z,ay,aG,a1,aW,bt,b1,cE,dA,λo=>by rw[jE aX o (by rw[ay];rfl)];exact ef o,eY⟩
 |nO K E e mu gI fx=>
  simp only[br]at hd ⊢;rcases hd with q|⟨r,es,clock,Z,dU,ay,aG,a1,aW,bt,b1,cE,dA⟩
  ·exact .inl q
  ·exact .inr ⟨r,es,clock,Z,dU,ay,aG,a1,aW,bt.mono hle,λo=>by rw[jE r o (by rw[ay];rfl)];exact b1 o,cE,dA⟩
 |cells T cs=>
  simp only[br]at hd ⊢;rcases hd with q|⟨aX,o7,ay,aG,a1,aW,bt⟩
  ·exact .inl q
  ·exact .inr ⟨aX,o7,ay,aG,vU hle (h8.refl _) _ _ a1,λo=>by rw[jE aX o (by rw[ay];rfl)];exact aW o,bt⟩
 |slice bl jh km gK anc=>
  simp only[br]at hd ⊢;rcases hd with q|q|⟨aX,Aa,o7,ay,aG,a1,aW,bt,b1,cE,dA,ef,eY,gb⟩
  ·exact .inl q
  ·exact .inr (.inl q)
  ·have di:cV (β d)=some aX:=by rw[ay];rfl
   exact .inr (.inr ⟨aX,Aa,o7,ay,aG,a1,aW,bt,ov hle _ _ b1,cE,dA,λhz o ar=>by rw[jE aX o di];exact ef hz o ar,λo ar=>by rw[jE aX o di];exact eY o ar,gb⟩)
 |win bl jh km=>
  simp only[br]at hd ⊢;rcases hd with q|q|⟨aX,hP,Aa,o7,ay,aG,a1,aW,bt,b1,cE,dA,ef⟩
  ·exact .inl q
  ·exact .inr (.inl q)
  ·have di:cV (β d)=some aX:=by rw[ay];rfl
   exact .inr (.inr ⟨aX,hP,Aa,o7,ay,aG,a1,aW,bt,AU hle _ _ _ b1,cE,λhz o ar=>by rw[jE aX o di];exact dA hz o ar,ef⟩)
 |map K E bO=>
  simp only[br]at hd ⊢;rcases hd with q|⟨r,es,clock,ay,aG,a1,aW,bt⟩
  ·exact .inl q
  ·exact .inr ⟨r,es,clock,ay,aG,nA hle _ _ a1,λo=>by rw[jE r o (by rw[ay];rfl)];exact aW o,bt⟩
 |mO K E bO=>
  simp only[br]at hd ⊢;rcases hd with q|⟨r,es,clock,ay,aG,a1,aW⟩
  ·exact .inl q
  ·exact .inr ⟨r,es,clock,ay,hle _ _ _ aG,nA hle _ _ a1,aW⟩
 |ij es clock K E bO=>
  simp only[br]at hd ⊢;rcases hd with q|⟨r,ay,aG,a1,aW,bt⟩
  ·exact .inl q
  ·exact .inr ⟨r,ay,aG,nA hle _ _ a1,λo=>by rw[jE r o (by rw[ay];rfl)];exact aW o,bt⟩
 |iter gV r9 mc seen=>
  simp only[br]at hd ⊢;rcases hd with q|⟨r,ha,ay,aG,a1,aW,bt⟩
  ·exact .inl q
  ·exact .inr ⟨r,ha,ay,aG,a1,λo=>by rw[jE r o (by rw[ay];rfl)];exact aW o,bt⟩
 |hdr gV n=>exact hd
end imms
section weak
variable {G:c7}{env:an}{σ:ag}
def WW{I:bP}{β gC:Nat→Value}{env:an}{a:Act}{e:Nat}(h:l2 I β env a)(ah:env.clean [e].contains=true)(Y:∀y,y≠e→gC y=β y):l2 I gC env a:=λt=>
 xk (p:=[e].contains) (λd aa=>Y d (by simpa using aa)) _ _ (axT ah t) (h t)
def l1.bf{cx:gj}{I bm:bP}{w:World}{T sz:Nat}{xs:List (List W)}{v:Value}(h:l1 cx I w (.sl T sz xs) v)(hle:dc I bm)(fZ:∀b,cV v=some b→∀o,bm b o=iO w b o):bk bm (.bf false xs) v:=by
 rcases h with⟨rfl,rfl⟩|⟨b,aT,arr,rfl,D,aj,aV,b4,dz,fz,hv,hc⟩
 ·simp only[bk];exact⟨none,0,rfl,by simp,by simp[maxLen],by simp,.inl trivial⟩
 ·simp only[bk];refine⟨_,aT,rfl,D,aj,by simp,.inr ⟨b,0,rfl,?_⟩⟩;have m5:∀o:Nat,bm b o=arr[o]?:=λo=>by rw[fZ b rfl o];simp[iO,World.cell?,aV]
  have key:∀(bD:List (List W)) (off:Nat) (b8:fK),(∀e∈bD,e.length=sz)→cD I bD.flatten b8→(∀j,j<b8.length→arr[off+j]?=b8[j]?)→jF bm b bD off:=by
   intro bD;induction bD with
   |nil=>intro _ _ _ _ _;simp[jF]
   |cons y bD bX=>
    intro off b8 ak aC cF;simp only[flatten_cons]at aC;have row:∀(cs:List W) (o:Nat) (c2:List W) (b8:fK),cD I (cs++c2) b8→(∀j,j<b8.length→arr[o+j]?=b8[j]?)→lu bm b cs o∧∃zv,cD I c2 zv∧b8=b8.take cs.length++zv∧zv=b8.drop cs.length:=by
     intro cs;induction cs with
     |nil=>intro o c2 b8 h _;exact⟨by simp[lu],b8,h,by simp,by simp⟩
     |cons c cs F5=>
      intro o c2 b8 h aY;simp only[cons_append,cD]at h;obtain⟨aq,wJ,rfl,h1,D⟩:=h
      obtain⟨cZ,zv,c8,h3,nE⟩:=F5 (o+1) c2 wJ D λj sw=>by
       have:=aY (j+1) (by simpa using sw);simpa [Nat.add_assoc,Nat.add_comm 1]using this
      refine⟨?_,zv,c8,by simpa using h3,by simpa using nE⟩;simp only[lu];refine⟨⟨aq,?_,kI hle c aq h1⟩,cZ⟩;rw[m5];simpa using aY 0 (by simp)
    obtain⟨cZ,zv,c8,h3,nE⟩:=row y off bD.flatten b8 aC cF;simp only[jF];refine⟨cZ,bX (off+y.length) zv (λe he=>ak e (mem_cons_of_mem _ he)) c8 λj aY=>?_⟩;subst nE;have:=cF (y.length+j) (by simp at aY;omega);rw[getElem?_drop,←this,Nat.add_assoc]
  refine key xs 0 _ fz dz λj aY=>?_;rw[Nat.zero_add,getElem?_take];have aY:j<min (xs.length*sz) arr.size:=by simpa using aY
  rw[if_pos (by omega)];simp
def A.ex{c:Code}{Q:Exit→an→ag→Prop}{ι:Type}{eB:ι→an}{σ2:ι→ag}(h:∀cx I β a w,cG G cx I β σ w→l2 I β env a→∃i bm β',cG G cx bm β' (σ2 i) w∧l2 bm β' (eB i) a)(k:∀i,aF G c Q (eB i) (σ2 i)):aF G c Q env σ:=
 axS λcx a w aC=>by
  obtain⟨I,β,h1,D,aj,aV⟩:=aC;obtain⟨i,bm,β',b4,dz⟩:=h cx I β a w h1 D;exact(k i).use cx a w ⟨bm,β',b4,dz,aj,aV⟩
def Lh{d:Nat}{o fS:c4}(aa:σ.get d=some o){cx:gj}{I:bP}{β:Nat→Value}{w:World}(h:cG G cx I β σ w)(ar:br cx I β w d fS):cG G cx I β (σ.set d fS) w:=by
 have fs:∀x,(ag.get (σ.set d fS) x).isSome→(σ.get x).isSome:=λx u=>by
  rw[axu]at u;split at u
  ·rename_i e;subst e;rw[aa];rfl
  ·exact u
 refine{h with dK:=λx hP u=>?_,eN:=λx y u ak=>h.eN x y (fs x u) (fs y ak)};rw[axu]at u;split at u
 ·rename_i e;subst e;rw[aa]at u;cases u;exact ar
 ·exact h.dK x hP u
def ayi{c:Code}{Q:Exit→an→ag→Prop}{d K E:Nat}{bO:List (W×W)}(aa:σ.get d=some (.map K E bO))(k:∀es clock,aF G c Q env (σ.set d (.ij es clock K E bO))):aF G c Q env σ:=
 A.ex (ι:=gx×Nat) (eB:=λ_=>env) (σ2:=λi=>σ.set d (.ij i.1 i.2 K E bO)) (λcx I β a w h dw=>by
  have:=h.dK d _ aa;simp only[br]at this;rcases this with q|⟨r,es,clock,ay,aG,a1,aW,bt,b1⟩
  ·exact⟨(#[],0),I,β,Lh aa h (by simp only[br];exact .inl q),dw⟩
  ·exact⟨(es,clock),I,β,Lh aa h (by simp only[br];exact .inr ⟨r,ay,aG,a1,aW,bt,b1⟩),dw⟩) λi=>k i.1 i.2
def azB{d K E clock:Nat}{es:gx}{bO:List (W×W)}(aa:σ.get d=some (.ij es clock K E bO)):dr G env σ env (σ.set d (.map K E bO)):=λcx I β a w h dw=>by
 refine⟨I,β,Lh aa h ?_,dw⟩;have:=h.dK d _ aa;simp only[br]at this ⊢;rcases this with q|⟨r,ay,aG,a1,aW,bt,b1⟩
 ·exact .inl q
 ·exact .inr ⟨r,es,clock,ay,aG,a1,aW,bt,b1⟩
end weak
end
section
open Go.ChangeMaps (setBlock)
open Classical in
section
variable {G:c7}{σ:ag}{o:Oper}{ev:Operand→W}
def Mo{I:bP}:∀{bO:List (W×W)} {es:oe} {i:Nat} {a c:W} {e:MapEntry},gm I bO es→bO[i]?=some (a,c)→es[i]?=some e→bk I a e.key∧bk I c e.val
 |[],_,i,_,_,_,_,h,_=>by simp at h
 |(k,v)::r,_,i,a,c,e,h,aI,he=>by
  simp only[gm]at h;obtain⟨f,b8,rfl,h1,D,aj⟩:=h;cases i with
  |zero=>simp at aI he;obtain⟨rfl,rfl⟩:=aI;subst he;exact⟨h1,D⟩
  |succ i=>simp at aI he;exact Mo aj aI he
def azY{c:Code}{Q:Exit→an→ag→Prop}{env:an}{F:Prop}(h:∀cx I β a w,cG G cx I β σ w→l2 I β env a→F)(k:F→aF G c Q env σ):aF G c Q env σ:=
 axS λcx a w aC=>by
  obtain⟨I,β,h1,D,aj,aV⟩:=aC;exact(k (h cx I β a w h1 D)).use cx a w ⟨I,β,h1,D,aj,aV⟩
def vh{bS α:Type}(l:List (bS×α))(p:ei):List (bS×α):=p.filterMap λi=>l[i]?
def acJ{bS α:Type}(l:List (bS×α)):vh l (List.range l.length)=l:=by
 have:∀(n:Nat),n≤l.length→vh l (List.range n)=l.take n:=by
  intro n;induction n with
  |zero=>intro _;simp[vh]
  |succ n bX=>
   intro be;rw[List.range_succ];simp only[vh,List.filterMap_append,filterMap_cons,filterMap_nil]at bX ⊢;rw[bX (by omega),List.getElem?_eq_getElem (by omega)];simp only;rw[take_succ,List.getElem?_eq_getElem (by omega)];rfl
 rw[this _ (Nat.le_refl _),take_length]
def acv{p:ei}{n:Nat}(h1:p.Nodup)(D:∀i,i∈p↔i<n):p.Perm (List.range n):=
 (perm_ext_iff_of_nodup h1 nodup_range).2 λi=>by rw[List.mem_range];exact D i
end
end
section
def aav{α:Type}(e:jD α)(l:List α):W:=.bf false (aM e l)
def as8{α:Type}(e:jD α)(I:bP):bk I (aav e []) (.slice none 0 0):=by
 simp only[aav,aM,map_nil,bk];exact⟨none,0,rfl,by simp,by simp[maxLen],by simp,.inl trivial⟩
def HK{P:Program}{E:Nat}{k:IntKind}(h:∀w,(zeroValue E).run P w=.ok (.int k 0) w):∀w,∃v,(zeroValue E).run P w=.ok v w∧∀I,bk I (dB k 0) v:=λw=>⟨_,h w,λI=>by simp[dB,bk]⟩
def as7{P:Program}{E:Nat}(h:∀w,(zeroValue E).run P w=.ok (.bool false) w):∀w,∃v,(zeroValue E).run P w=.ok v w∧∀I,bk I (jw false) v:=λw=>⟨_,h w,λI=>by simp[jw,bk]⟩
section
variable {P:Program}
def JT{α:Type}(bb:Nat)(k:IntKind)(l:List (Int×α))(n:Int)(enc:α→W)(z:α)(op:Op)(env:an)(σ:ag):Option (c9×cW):=match op with
 |.lookup T x y ok=>(match env.dg x with
  |some (.ec bO)=>(match env.dg y with
   |some (.int gK oK)=>bif Nat.beq T bb then some (.y [] (bif ok then .dm [enc ((cH l n).getD z),.bool (cH l n).isSome]else enc ((cH l n).getD z)),([.ec bO,.int gK oK],[]))else none
   |_=>none)
  |some (.ep d)=>(match env.dg y with
   |some (.int gK oK)=>(match σ.get d with
    |some (.ij es clock K E bO)=>bif Nat.beq T bb then some (.y [d] (bif ok then .dm [enc ((cH l n).getD z),.bool (cH l n).isSome]else enc ((cH l n).getD z)),([.ec bO,.int gK oK],[]))else none
    |_=>none)
   |_=>none)
  |_=>none)
 |_=>none
def ayV{G:c7}{o:Oper}{ev:Operand→W}{σ:ag}{α:Type}{T K E kQ l9 d:Nat}{es:gx}{clock:Nat}{k:IntKind}{x y:Operand}{ok:Bool}{n:Int}(l:List (Int×α))(enc:α→W)(z:α)(h:o.op=.lookup T x y ok)(u:ev x=.ep d)(ak:ev y=.int k n)(aa:σ.get d=some (.ij es clock kQ l9 (fh k enc l)))
  (aR:r2 G.P T K E k) (hz:∀w,∃v,(zeroValue E).run G.P w=.ok v w∧∀I,bk I (enc z) v) :
  Yields G o ev σ [] [d] (bif ok then .dm [enc ((cH l n).getD z),.bool (cH l n).isSome]else enc ((cH l n).getD z)):=
 .pure λaL cx I β w bp cz aA hop=>by
  have h1:=hop x (by simp[h,Op.operands]);rw[u]at h1
  have D:=hop y (by simp[h,Op.operands]);rw[ak]at D;have D:=jT D
  exact Ry l enc z h (Tk aA (by rw[cz d (by simp)];exact aa) h1) D aR hz
def air{α:Type}{bb i0 hs:Nat}{k:IntKind}{l:List (Int×α)}{n:Int}{enc:α→W}{z:α}(aR:r2 P bb i0 hs k)(hz:∀w,∃v,(zeroValue hs).run P w=.ok v w∧∀I,bk I (enc z) v){o:Oper}{N:Nat}{ids:ei}{env:an}{σ:ag}{s:c9}{aZ:cW}
  (h:JT bb k l n enc z o.op env σ=some (s,aZ)) (he:aZ=([.ec (fh k enc l),.int k n],[])):gh ⟨P,N,ids⟩ o env σ s:=by
 cases ar:o.op<;>rw[ar]at h
 case lookup T x y ok=>
  simp only[JT]at h;split at h
  ·rename_i bO u;split at h
   ·rename_i gK oK ak;cases Y:Nat.beq T bb with
    |false=>rw[Y]at h;cases h
    |true=>
     rw[Y]at h;have:=Nat.eq_of_beq_eq_true Y;subst this;cases h;simp only[Prod.mk.injEq,List.cons.injEq,W.int.injEq,W.ec.injEq,and_true]at he;obtain⟨rfl,rfl,rfl⟩:=he;exact ayX l enc z ar (axo u) (axo ak) aR hz
   ·cases h
  ·rename_i d u;split at h
   ·rename_i gK oK ak;split at h
    ·rename_i es clock K E bO aa;cases Y:Nat.beq T bb with
     |false=>rw[Y]at h;cases h
     |true=>
      rw[Y]at h;have:=Nat.eq_of_beq_eq_true Y;subst this;cases h;simp only[Prod.mk.injEq,List.cons.injEq,W.int.injEq,W.ec.injEq,and_true]at he;obtain⟨rfl,rfl,rfl⟩:=he;exact ayV l enc z ar (axo u) (axo ak) aa aR hz
    ·cases h
   ·cases h
  ·cases h
 all_goals (simp only[JT]at h;cases h)
def CB{α:Type}{bb i0 hs:Nat}{k:IntKind}(l:List (Int×α))(n:Int)(enc:α→W)(z:α)(aR:r2 P bb i0 hs k)(hz:∀w,∃v,(zeroValue hs).run P w=.ok v w∧∀I,bk I (enc z) v):Hint P:=
 .gs false ([.ec (fh k enc l),.int k n],[]) (λ_=>JT bb k l n enc z) λ_ _ _ _ _ _ _ h he=>air aR hz h he
end
end
section
section
variable {G:c7}{σ:ag}{o:Oper}{ev:Operand→W}
def S7{P:Program}{E:TypeId}{i:TypeInfo}{z BN:Value}{w:World}(hi:P.info? E=some i)(hz:i.zero=some z)(h:(zeroValue E).run P w=.ok BN w):BN=z:=by
 simp[zeroValue,typeInfo,hi,hz]at h;exact h.symm
def fP.makeSlice{T E bytes d:Nat}{x y:Operand}{k gK:IntKind}{n:Int}{a:W}{pl:Value}(h:o.op=.makeSlice T x y)(u:ev x=.int k n)(ak:ev y=.int gK n)(dZ:jy G.P T E 1 bytes)(fs:kz G.P T E 1 [pl])(aI:∀I,bk I a pl)(bA:0≤n)(Y:n≤4294967296)(pI:bytes≤65536)
  (hi:G.ids.contains d=false) (ah:σ.clean [d].contains=true):hK G o ev σ [d] [d] (λr aL=>r=.own d∧aL=(d,.slice E 1 (List.replicate n.toNat [a]) 0 false)::σ):=by
 intro cx I β w bp aA hop;have h1:=hop x (by simp[h,Op.operands]);rw[u]at h1;have h1:=jT h1
 have D:=hop y (by simp[h,Op.operands]);rw[ak]at D;have D:=jT D
 obtain⟨i,z,iY,jB,jI,pN,xd⟩:=dZ.info;obtain⟨BN,cZ,c8⟩:=fs.zero w;have:=S7 iY jB cZ;subst this;have FD:(i.bytes:Int)*n≤281474976710656:=by
  rw[pN];have h1:(bytes:Int)*n≤(65536:Int)*4294967296:=Int.mul_le_mul (by omega) Y bA (by omega);omega
 have aC:=run_make (P:=G.P) w T E i BN dZ.ia iY jB k gK n n bA (Int.le_refl _) FD (by omega);rw[jI,Nat.mul_one,c8]at aC;have gF:(execOp bp o).run G.P w=.ok (.value (.slice (some ⟨w.heap.size,0,none⟩) n.toNat n.toNat)) (w.alloc (.cells (madeCells #[pl] n.toNat) E)):=by simp[execOp,h,h1,D,aC]
 rw[gF];have ai:=aA.rY (ew:=[d]) (σ2:=σ) (env:=[]) ⟨λ_ _=>rfl,by simpa using hi,rfl,ah,λx u gV n h=>by have:=(axC ah x _ h).1;rw[List.contains_iff_mem.2 u]at this;cases this⟩;have Y:∀y,y≠d→iL (hL β [d]) d (.slice (some ⟨w.heap.size,0,none⟩) n.toNat n.toNat) y=β y:=λy ak=>by rw[iJ _ _ ak];simp[hL,ak]
 have uK:iL (hL β [d]) d (.slice (some ⟨w.heap.size,0,none⟩) n.toNat n.toNat) d=.slice (some ⟨w.heap.size,0,none⟩) n.toNat n.toNat:=h0 _ _ _;refine⟨.own d,_,I,iL (hL β [d]) d (.slice (some ⟨w.heap.size,0,none⟩) n.toNat n.toNat),⟨rfl,rfl⟩,?_,?_,dc.refl I,λy ak=>Y y (by simpa using ak),λy ak=>by rw[axp,if_neg (Ne.symm (by simpa using ak))]⟩
 ·simp only[aD,uK,jX,and_self]
 ·refine ai.turn (d:=d) (hJ.alloc w _) (.inl aA.size) (λx u=>by rw[axp,if_neg (Ne.symm u)]) (λx u Z e=>by
    obtain⟨aZ,Z⟩:=Option.isSome_iff_exists.1 Z;exact absurd (ai.tN Z e) (by omega)) (dc.refl I) (λ_ _ _=>rfl) (λhP eP kU=>by rw[aA.jS (Nat.le_refl _)]at kU;cases kU) (aA.jS (Nat.le_refl _) none)
   (λx u=>iJ _ _ u) (.inl (by simpa using hi)) (axX (by simp[hL])) (.inl (by rw[uK];rfl)) λaZ c5=>?_
  rw[axp,if_pos rfl]at c5;cases c5;simp only[br,uK];refine .inr (.inr ⟨w.heap.size,n.toNat,_,by rw[length_replicate],by rw[length_replicate];exact Nat.le_refl _,by simp[maxLen];omega,heap_alloc_new w _,by rw[size_madeCells,Nat.mul_one],?_,λe he=>by rw[List.eq_of_mem_replicate he];rfl,Nat.zero_le _,by simp,λo _=>aA.jS (Nat.le_refl _) o,.inl aA.size⟩);rw[toList_madeCells_one,length_replicate,Nat.mul_one];have:∀m:Nat,cD I (List.replicate m [a]).flatten (List.replicate m pl):=by
   intro m;induction m with
   |zero=>simp[cD]
   |succ m bX=>
    simp only[List.replicate_succ,flatten_cons,singleton_append,cD];exact⟨_,_,rfl,aI I,bX⟩
  have e:(List.replicate n.toNat pl).take n.toNat=List.replicate n.toNat pl:=by rw[take_of_length_le];simp
  rw[e];exact this _
def azc{T E N sz d off:Nat}{x y:Operand}{k:IntKind}{i:Int}(h:o.op=.indexAddr T x y)(u:ev x=.ptr d off)(ak:ev y=.int k i)(cF:G.P.underlying T=some (.array N E))(Z:∀w,(sizeOf E).run G.P w=.ok sz w)(hi:0≤i∧i<N):
  Yields G o ev σ [] [] (.ptr d (off+i.toNat*sz)):=
 .pure λaL cx I β w bp cz aA hop=>by
  have h1:=hop x (by simp[h,Op.operands]);rw[u]at h1
  have D:=hop y (by simp[h,Op.operands]);rw[ak]at D;have D:=jT D
  simp only[aD]at h1;obtain⟨b,dX,aj⟩:=h1;have e1:∀w,(underlying T).run G.P w=.ok (.array N E) w:=λw=>by simp[underlying,program,Sem.run,cF]
  exact⟨.pointer (some ⟨b,off+i.toNat*sz,none⟩),by simp[execOp,h,D,aj,Instr.indexAt,Instr.sureAddr,asIntOf,e1,hi,Z,Addr.add],by simp only[aD];exact⟨b,dX,rfl⟩⟩
end
section
variable {P:Program}
def yR{α:Type}(bb d E:Nat)(iA:α)(e:α→List W)(n:Int)(ids:ei)(op:Op)(env:an)(σ:ag):Option (c9×cW):=match op with
 |.makeSlice T x y=>(match env.dg x with
  |some (.int _ iE)=>(match env.dg y with
   |some (.int _ jC)=>bif Nat.beq T bb&&!ids.contains d&&σ.clean [d].contains then some (.e [d] [d] (.own d) ((d,.slice E 1 ((List.replicate n.toNat iA).map e) 0 false)::σ),([.int .i64 iE,.int .i64 jC],[]))else none
   |_=>none)
  |_=>none)
 |_=>none
def UL{α:Type}{bb E bytes d:Nat}{iA:α}{e:α→List W}{n:Int}{a:W}{pl:Value}(dZ:jy P bb E 1 bytes)(fs:kz P bb E 1 [pl])(k8:e iA=[a])(aI:∀I,bk I a pl)(bA:0≤n)(Y:n≤4294967296)(pI:bytes≤65536){o:Oper}{N:Nat}{ids:ei}{env:an}{σ:ag}{s:c9}{aZ:cW}
  (h:yR bb d E iA e n ids o.op env σ=some (s,aZ)) (he:aZ=([.int .i64 n,.int .i64 n],[])):gh ⟨P,N,ids⟩ o env σ s:=by
 cases ar:o.op<;>rw[ar]at h
 case makeSlice T x y=>
  simp only[yR]at h;split at h
  ·rename_i ga iE u;split at h
   ·rename_i bV jC ak;cases ah:(Nat.beq T bb&&!ids.contains d&&σ.clean [d].contains)with
    |false=>rw[ah]at h;cases h
    |true=>
     rw[ah]at h;simp only[Bool.and_eq_true,Bool.not_eq_true']at ah;obtain⟨⟨dI,ek⟩,hR⟩:=ah;have:=Nat.eq_of_beq_eq_true dI;subst this;cases h;simp only[Prod.mk.injEq,List.cons.injEq,W.int.injEq,and_true,true_and]at he;obtain⟨rfl,rfl⟩:=he;rw[List.map_replicate,k8];exact⟨fP.makeSlice ar (axo u) (axo ak) dZ fs aI bA Y pI ek hR,by simp only[all_cons,all_nil,ek];rfl⟩
   ·cases h
  ·cases h
 all_goals (simp only[yR]at h;cases h)
def yC{α:Type}{bb E bytes:Nat}{a:W}{pl:Value}(d:Nat)(iA:α)(e:α→List W)(n:Int)(dZ:jy P bb E 1 bytes)(fs:kz P bb E 1 [pl])(k8:e iA=[a])(aI:∀I,bk I a pl)(be:(decide (0≤n)&&decide (n≤4294967296))=true)(pI:bytes≤65536):Hint P:=
 .gs true ([.int .i64 n,.int .i64 n],[]) (yR bb d E iA e n) λ_ _ _ _ _ _ _ h he=>by
  simp only[Bool.and_eq_true,decide_eq_true_eq]at be;exact UL dZ fs k8 aI be.1 be.2 pI h he
end
end
section
def encS{α:Type}(T:TypeId)(sz:Nat)(enc:α→List W)(l:List (List α)):List hE:=l.map λr=>.sl T sz (r.map enc)
def Li{α:Type}{T:TypeId}{sz:Nat}{enc:α→List W}(l:List (List α))(i:Nat)(r:List α):encS T sz enc (l.set i r)=(encS T sz enc l).set i (.sl T sz (r.map enc)):=by simp[encS,List.map_set]
section weak
variable {G:c7}{env:an}{σ:ag}
def ayl{α:Type}{d e T n:Nat}(bl sz:Nat)(enc:α→List W)(be:0<n)(aa:σ.get d=some (.slice T 1 (List.replicate n [.dh]) 0 false))(he:σ.get e=none)(hi:G.ids.contains e=false)(ah:env.clean [e].contains=true)(Z:σ.clean [e].contains=true):
  dr G env σ env ((e,.cO (encS bl sz enc (List.replicate n [])))::(d,.e5 T e n none)::σ.minus [d]):=λcx I β a w h dw=>by
 have m7:d≠e:=λdW=>by subst dW;rw[he]at aa;cases aa
 have vH:e∉G.ids:=by simpa using hi
 let nc:jj:=(List.replicate n (Value.slice none 0 0)).toArray
 refine⟨I,iL β e (.tuple nc),?_,WW dw ah λy ak=>iJ β _ ak⟩;have vr:iL β e (.tuple nc) e=.tuple nc:=h0 _ _ _;have si:iL β e (.tuple nc) d=β d:=iJ β _ m7
 have NR:∀c,c∉e4 (Value.tuple nc):=λc ah=>by
  rw[rq]at ah;obtain⟨aq,cF,kD⟩:=List.mem_filterMap.1 ah;have:aq=Value.slice none 0 0:=List.eq_of_mem_replicate (by simpa [nc]using cF);rw[this]at kD;cases kD
 have ta:∀y,y∈[d,e]→∀o,ag.get ((e,c4.cO (encS bl sz enc (List.replicate n [])))::(d,.e5 T e n none)::σ.minus [d]) y=some o→(y=d∧o=.e5 T e n none)∨(y=e∧o=.cO (encS bl sz enc (List.replicate n []))):=λy ak o ar=>by
  rw[zY]at ar;split at ar
  ·rename_i dW;exact .inr ⟨dW.symm,(Option.some.inj ar).symm⟩
  ·rename_i jC;split at ar
   ·rename_i dW;exact .inl ⟨dW.symm,(Option.some.inj ar).symm⟩
   ·rename_i iE;simp only[mem_cons,not_mem_nil,or_false]at ak;rcases ak with rfl|rfl
    ·exact absurd rfl iE
    ·exact absurd rfl jC
 have Ow:∀y,y∈[d,e]→y=d∨y=e:=λy ak=>by simpa using ak
 have cO:∀m:Nat,jv cx I w (encS bl sz enc (List.replicate m [])) (List.replicate m (Value.slice none 0 0)):=by
  intro m;induction m with
  |zero=>rfl
  |succ m bX=>
   simp only[List.replicate_succ,encS,map_cons,map_nil,jv]at bX ⊢;exact⟨_,_,rfl,Or.inl ⟨rfl,rfl⟩,λb (Y:none=some b)=>(by cases Y),bX⟩
 refine h.NP (M:=[d,e]) (news:=[e]) (λy ak=>?_) (λy ak=>iJ β _ (by simpa using ak)) (λy ak=>?_) (λy o _ kE=>(axC Z y o kE).2) (λy ak o kE=>?_) (λy ak fV c ah=>?_) (λy ak z hz sF fU fV c ah j2=>?_)
 ·simp only[mem_cons,not_mem_nil,or_false,not_or]at ak;rw[zY,if_neg (Ne.symm ak.2),if_neg (Ne.symm ak.1),if_neg (by simp[ak.1])]
 ·simp only[List.mem_singleton]at ak;subst ak;exact⟨by simp,vH⟩
 ·rcases ta y ak o kE with⟨rfl,rfl⟩|⟨rfl,rfl⟩
  ·have:=h.dK y _ aa;simp only[br,si,vr]at this ⊢;rcases this with q|⟨q,xC,_⟩|⟨b,aT,arr,ay,aG,a1,aW,bt,b1,cE,dA,ef,eY,gb⟩
   ·exact .inl q
   ·
    have:n=0:=by simpa using xC
    omega
   ·refine .inr ⟨b,aT,arr,nc,by simpa using ay,by simpa using aG,a1,aW,by simpa using bt,rfl,by simp[nc],?_,λo=>eY o (by omega),gb⟩;have:∀(m:Nat) (l:fK),cD I (List.replicate m [W.dh]).flatten l→l=List.replicate m (Value.slice none 0 0):=by
     intro m;induction m with
     |zero=>intro l aP;simpa [cD]using aP
     |succ m bX=>
      intro l aP;simp only[List.replicate_succ,flatten_cons,singleton_append,cD,bk]at aP;obtain⟨aq,b8,rfl,rfl,aP⟩:=aP;rw[bX b8 aP,List.replicate_succ]
    have:=this n _ (by simpa using b1);show arr.toList.take n=nc.toList;rw[this]
  ·simp only[br,vr];exact .inr ⟨nc,rfl,by simpa [nc]using cO n⟩
 ·rcases Ow y ak with rfl|rfl
  ·rw[si]at ah;exact⟨y,by simp,by rw[aa];rfl,ah⟩
  ·rw[vr]at ah;exact absurd ah (NR c)
 ·rcases Ow y ak with rfl|rfl
  ·rcases Ow z hz with rfl|rfl
   ·exact sF rfl
   ·rw[vr]at j2;exact absurd j2 (NR c)
  ·rw[vr]at ah;exact absurd ah (NR c)
def ax5{α:Type}{bl sz T d e e2 t n i:Nat}{dO:Bool}(l:List (List α))(enc:α→List W)(row:List α)
  (aa:σ.get d=some (.e5 T e n (some (some i,t)))) (he:σ.get e=some (.cO (encS bl sz enc (l.set i [])))) (bU:σ.get t=some (.slice bl sz (row.map enc) 0 dO))
  (oW:σ.get e2=none) (uL:G.ids.contains e2=false) (ah:env.clean [e2].contains=true) (Z:σ.clean [e2].contains=true) :
  dr G env σ env ((e2,.cO (encS bl sz enc (l.set i row)))::(d,.e5 T e2 n none)::σ.minus [d,e,t]):=λcx I β a w h dw=>by
 obtain⟨gC,h1,D⟩:=h.back aa rfl he bU oW (by simpa using uL) Z;refine⟨I,gC,?_,WW dw ah h1⟩;have e1:(encS bl sz enc (l.set i [])).set i (.sl bl sz (row.map enc))=encS bl sz enc (l.set i row):=by rw[←Li,List.set_set]
 rw[e1]at D;exact D
def azy{α:Type}{bl sz T d e e2 t n:Nat}{i:Int}{dO:Bool}{row:List α}(l:List (List α))(enc:α→List W)(hi:b2 l i=some row)
  (aa:σ.get d=some (.e5 T e n (some (some i.toNat,t)))) (he:σ.get e=some (.cO (encS bl sz enc (l.set i.toNat [])))) (bU:σ.get t=some (.slice bl sz (row.map enc) 0 dO))
  (oW:σ.get e2=none) (uL:G.ids.contains e2=false) (ah:env.clean [e2].contains=true) (Z:σ.clean [e2].contains=true) :
  dr G env σ env ((e2,.cO (encS bl sz enc l))::(d,.e5 T e2 n none)::σ.minus [d,e,t]):=by
 have h:=ax5 l enc row aa he bU oW uL ah Z;have e1:l.set i.toNat row=l:=by
  unfold b2 at hi;split at hi
  ·apply List.ext_getElem?;intro j;rw[List.getElem?_set];split
   ·rename_i aY;subst aY;rw[if_pos (List.getElem?_eq_some_iff.1 hi).1,hi]
   ·rfl
  ·cases hi
 rwa [e1]at h
end weak
section
variable {G:c7}{σ:ag}{o:Oper}{ev:Operand→W}
def DA{cx:gj}{I:bP}{β:Nat→Value}{w:World}(aA:cG G cx I β σ w){d e T n:Nat}{gI:Option (nZ×Nat)}{dy:List hE}(aa:σ.get d=some (.e5 T e n gI))(he:σ.get e=some (.cO dy))(be:β d≠.nilFunc):
  ∃b aT arr,∃Z:jj,β d=.slice (some ⟨b,0,none⟩) n aT∧n≤aT∧aT≤maxLen∧w.heap[b]?=some (.cells arr T (0,0))∧arr.size=aT∧β e=.tuple Z∧Z.size=n∧lz β Z.toList (arr.toList.take n) gI∧(∀o:Nat,I b o=none)∧Place cx b∧jv cx I w dy Z.toList∧dy.length=n:=by
 have ar:=aA.dK d _ aa;simp only[br,be,false_or]at ar;obtain⟨b,aT,arr,Z,ay,aG,a1,aW,bt,b1,cE,dA,ef,eY⟩:=ar;have nK:=aA.dK e _ he;simp only[br,b1,Value.tuple.injEq,reduceCtorEq,false_or]at nK;obtain⟨m9,rfl,Y⟩:=nK;exact⟨b,aT,arr,Z,ay,aG,a1,aW,bt,b1,cE,dA,ef,eY,Y,by have:=Y.length;simp at this;omega⟩
def ay2{T E d e bb n:Nat}{gI:Option (nZ×Nat)}{dy:List hE}{x y:Operand}{k:IntKind}{i:Int}(h:o.op=.indexAddr T x y)(u:ev x=.own d)(ak:ev y=.int k i)(aa:σ.get d=some (.e5 bb e n gI))(he:σ.get e=some (.cO dy))(aR:ji G.P T E 1)
  (hi:0≤i∧i<dy.length):Yields G o ev σ [] [d,e] (.ptr d i.toNat):=
 .pure λaL cx I β w bp cz aA hop=>by
  have h1:=hop x (by simp[h,Op.operands]);rw[u]at h1
  have D:=hop y (by simp[h,Op.operands]);rw[ak]at D;have D:=jT D
  simp only[aD]at h1;obtain⟨h1,Z⟩:=h1;have k6:β d≠.nilFunc:=λe=>by rw[h1,e]at Z;simp[jX]at Z
  obtain⟨b,aT,arr,m9,ay,aG,a1,aW,bt,b1,cE,dA,ef,eY,gb,qn⟩:=DA aA (by rw[cz d (by simp)];exact aa) (by rw[cz e (by simp)];exact he) k6;refine⟨.pointer (some ⟨b,i.toNat,none⟩),?_,by simp only[aD];exact⟨b,by rw[ay];rfl,rfl⟩⟩;have e1:∀w,(underlying T).run G.P w=.ok (.slice E) w:=λw=>by simp[underlying,program,Sem.run,aR.ia]
  rw[ay]at h1;have vH:0≤i∧i<(n:Int):=by omega
  simp[execOp,h,h1,D,Instr.indexAt,asIntOf,e1,vH,aR.size,lG]
def azh{T d e bb n:Nat}{gI:Option (nZ×Nat)}{dy:List hE}{x:Operand}{jg}(h:o.op=.call ⟨.builtin .len,#[x],jg⟩)(hk:jg=#[T])(u:ev x=.own d)(aa:σ.get d=some (.e5 bb e n gI))(he:σ.get e=some (.cO dy)){E:Nat}(aR:G.P.underlying T=some (.slice E)):
  Yields G o ev σ [] [d,e] (.int .i64 (dy.length:Int)):=
 .pure λaL cx I β w bp cz aA hop=>by
  subst hk;have h1:=hop x (by simp[h,Op.operands,Call.operands]);rw[u]at h1
  simp only[aD]at h1;obtain⟨h1,Z⟩:=h1;have k6:β d≠.nilFunc:=λe=>by rw[h1,e]at Z;simp[jX]at Z
  obtain⟨b,aT,arr,m9,ay,aG,a1,aW,bt,b1,cE,dA,ef,eY,gb,qn⟩:=DA aA (by rw[cz d (by simp)];exact aa) (by rw[cz e (by simp)];exact he) k6;rw[ay]at h1;have e1:∀w,(underlying T).run G.P w=.ok (.slice E) w:=λw=>by simp[underlying,program,Sem.run,aR]
  exact⟨.int .i64 n,by simp[execOp,h,resolve,invoke,builtin,Builtin.len_,h1,e1,goInt],by simp[aD,bk,qn]⟩
def azN{α:Type}{T d e e2 t p bb n bl sz:Nat}{x:Operand}(l:List (List α))(enc:α→List W)(row:List α)(h:o.op=.load T x)(u:ev x=.ptr d p)(aa:σ.get d=some (.e5 bb e n none))(he:σ.get e=some (.cO (encS bl sz enc l)))(jm:l[p]?=some row)(aR:dS G.P T 1 false)
  (bU:σ.get t=none) (oW:σ.get e2=none) (P0:t≠e2) (P3:G.ids.contains t=false) (uL:G.ids.contains e2=false) (iQ:σ.clean [t,e2].contains=true) :
  hK G o ev σ [d,e,e2,t] [t,e2] (λr aL=>r=.own t∧aL=(t,.slice bl sz (row.map enc) 0 false)::(e2,.cO (encS bl sz enc (l.set p [])))::(d,.e5 bb e2 n (some (some p,t)))::σ.minus [d,e]):=by
 intro cx I β w bp aA hop;have h1:=hop x (by simp[h,Op.operands]);rw[u]at h1
 simp only[aD]at h1;obtain⟨b,h1,D⟩:=h1;have k6:β d≠.nilFunc:=λe=>by rw[e]at h1;cases h1
 obtain⟨aX,aT,arr,Z,ay,aG,a1,aW,bt,b1,cE,dA,ef,eY,gb,qn⟩:=DA aA aa he k6;have qx:aX=b:=by rw[ay]at h1;simpa [cV]using h1
 subst qx;have aK:p<l.length:=(List.getElem?_eq_some_iff.1 jm).1;have yA:l.length=n:=by simpa [encS]using qn
 have aC:(encS bl sz enc l)[p]?=some (.sl bl sz (row.map enc)):=by simp[encS,jm]
 obtain⟨fV,cZ,iP,c8,h3,nE⟩:=aA.take aa rfl he aC k6 bU oW P0 (by simpa using P3) (by simpa using uL) iQ;rw[b1]at cZ;cases cZ
 have nh:arr[p]?=some iP:=by
  have:(arr.toList.take n)[p]?=Z.toList[p]?:=by rw[show arr.toList.take n=Z.toList from dA]
  rw[getElem?_take,if_pos (by omega)]at this;have e:Z.toList[p]?=some iP:=by simpa using c8
  rw[e]at this;simpa using this
 have m5:∀j,j<1→∃v,[iP][j]?=some v∧w.cell? ⟨aX,p+j,none⟩=some v:=λj aY=>by
  have:j=0:=by omega
  subst this;exact⟨iP,rfl,by simp[World.cell?,aW,nh]⟩
 have aP:=wW aR (vs:=[iP]) m5 (λ_=>by omega);have gF:(execOp bp o).run G.P w=.ok (.value iP) w:=by
  simp[execOp,h,D,Instr.loadAt,Instr.sureAddr,aP]
 rw[gF];refine⟨.own t,_,I,λy=>if y=t then iP else if y=e2 then .tuple (Z.setIfInBounds p (.slice none 0 0))else β y,⟨rfl,rfl⟩,?_,?_,dc.refl I,λy ak=>?_,λy ak=>?_⟩
 ·simp only[aD,if_true];refine⟨trivial,?_⟩;rcases h3 with⟨q,_⟩|⟨b,aT,arr,q,_⟩<;>rw[q]<;>rfl
 ·rw[Li];exact nE
 ·simp only[mem_cons,not_mem_nil,or_false,not_or]at ak;simp only[if_neg ak.1,if_neg ak.2]
 ·simp only[mem_cons,not_mem_nil,or_false,not_or]at ak;rw[EL,if_neg (Ne.symm ak.2.2.2),if_neg (Ne.symm ak.2.2.1),if_neg (Ne.symm ak.1),if_neg (by simp[ak.1,ak.2.1])]
def azL{α:Type}{T d e e2 j p bb n bl sz:Nat}{dO:Bool}{x y:Operand}(l:List (List α))(enc:α→List W)(row:List α)(h:o.op=.store T x y)(u:ev x=.ptr d p)(ak:ev y=.own j)(aY:σ.get j=some (.slice bl sz (row.map enc) 0 dO))(aa:σ.get d=some (.e5 bb e n none))(he:σ.get e=some (.cO (encS bl sz enc l)))(aK:p<l.length)(aR:dS G.P T 1 false)
  (oW:σ.get e2=none) (uL:G.ids.contains e2=false) (iQ:σ.clean [e2].contains=true) :
  hK G o ev σ [d,e,e2,j] [e2] (λr aL=>r=.undef∧aL=(e2,.cO (encS bl sz enc (l.set p row)))::(d,.e5 bb e2 n none)::σ.minus [d,e,j]):=by
 intro cx I β w bp aA hop;have h1:=hop x (by simp[h,Op.operands]);rw[u]at h1
 have aj:=hop y (by simp[h,Op.operands]);rw[ak]at aj
 simp only[aD]at h1 aj;obtain⟨b,h1,D⟩:=h1;obtain⟨aj,Yx⟩:=aj;have k6:β d≠.nilFunc:=λe=>by rw[e]at h1;cases h1
 obtain⟨aX,aT,arr,Z,ay,aG,a1,aW,bt,b1,cE,dA,ef,eY,gb,qn⟩:=DA aA aa he k6;have qx:aX=b:=by rw[ay]at h1;simpa [cV]using h1
 subst qx;have yA:l.length=n:=by simpa [encS]using qn
 have jm:=ax1 (aA.dK j _ aY) λe=>(by rw[aj,e]at Yx;cases Yx);have aoh:e2∉G.ids:=by simpa using uL
 have vG:(σ.get d).isSome:=by rw[aa];rfl
 have kK:(σ.get e).isSome:=by rw[he];rfl
 have uO:(σ.get j).isSome:=by rw[aY];rfl
 have m7:d≠e:=λdW=>by subst dW;rw[aa]at he;cases he
 have Jp:d≠j:=λdW=>by subst dW;rw[aa]at aY;cases aY
 have aoi:e≠j:=λdW=>by subst dW;rw[he]at aY;cases aY
 have di:∀y,(σ.get y).isSome→y≠e2:=λy ak e=>by subst e;rw[oW]at ak;cases ak
 have gw:aX∈e4 (β d):=lF h1;have qB:(β j).oneCell'=true∧(β j).cells=#[β j]:=by
  rcases jm with⟨q,_⟩|⟨c,px,auo,q,_⟩<;>rw[q]<;>exact⟨rfl,rfl⟩
 have lB:=JU (P:=G.P) aW [β j] (off:=p) (by simp;omega) (λv ai=>by rw[List.mem_singleton.1 ai];exact qB.1);have gF:(execOp bp o).run G.P w=.ok .skip (w.setRow aX (iT arr.toList p [β j]).toArray):=by
  have e1:((#[β j]:jj).size≠1)=False:=by simp
  simp[execOp,h,D,aj,Instr.storeAt,Instr.sureAddr,storeVar,aR.size,qB.2,lB]
 rw[gF]
 let m9:jj:=Z.setIfInBounds p (β j)
 have j4:m9.toList=Z.toList.set p (β j):=by simp[m9]
 have Ox:jv cx I w (encS bl sz enc (l.set p row)) m9.toList:=by
  rw[j4,Li];refine gb.set jm λi aq c _ aoD an6 nK=>?_;refine aA.eN e j kK uO aoi c ?_ (lF an6);rw[b1,rq];exact List.mem_filterMap.2 ⟨aq,List.mem_of_getElem? aoD,nK⟩
 have mI:∀c∈m9.toList.filterMap cV,c∈e4 (β e)∨c∈e4 (β j):=λc ah=>by
  rw[j4]at ah;rcases Rs ah with ah|ah
  ·exact .inl (by rw[b1,rq];exact ah)
  ·exact .inr (lF ah)
 have uS:∀c∈m9.toList.filterMap cV,c≠aX:=λc ah dW=>by
  subst dW;rcases mI c ah with q|q
  ·exact aA.eN d e vG kK m7 c gw q
  ·exact aA.eN d j vG uO Jp c gw q
 have hk:hJ w (w.setRow aX (iT arr.toList p [β j]).toArray) aX:=hJ.setRow w aX _;have gr:∀y,y≠e2→(λy=>if y=e2 then(Value.tuple m9)else β y) y=β y:=λy ak=>if_neg ak;have wL:(λy=>if y=e2 then(Value.tuple m9)else β y) e2=.tuple m9:=if_pos rfl
 have FB:∀y,y∉[d,e,e2,j]→ag.get ((e2,.cO (encS bl sz enc (l.set p row)))::(d,.e5 bb e2 n none)::σ.minus [d,e,j]) y=σ.get y:=λy ak=>by
  simp only[mem_cons,not_mem_nil,or_false,not_or]at ak;rw[zY,if_neg (Ne.symm ak.2.2.1),if_neg (Ne.symm ak.1),if_neg (by simp[ak.1,ak.2.1,ak.2.2.2])]
 generalize (λy=>if y=e2 then(Value.tuple m9)else β y)=gC at gr wL;have si:gC d=β d:=gr d (di d vG)
 have ta:∀y,y∈[d,e,e2,j]→∀o,ag.get ((e2,.cO (encS bl sz enc (l.set p row)))::(d,.e5 bb e2 n none)::σ.minus [d,e,j]) y=some o→(y=d∧o=.e5 bb e2 n none)∨(y=e2∧o=.cO (encS bl sz enc (l.set p row))):=λy ak o ar=>by
  rw[zY]at ar;split at ar
  ·rename_i dW;exact .inr ⟨dW.symm,(Option.some.inj ar).symm⟩
  ·rename_i jC;split at ar
   ·rename_i dW;exact .inl ⟨dW.symm,(Option.some.inj ar).symm⟩
   ·split at ar
    ·cases ar
    ·rename_i iE QB;simp only[mem_cons,not_mem_nil,or_false,not_or]at ak QB;rcases ak with rfl|rfl|rfl|rfl
     ·exact absurd rfl iE
     ·exact absurd rfl QB.2.1
     ·exact absurd rfl jC
     ·exact absurd rfl QB.2.2
 have OU:∀y,y∈[d,e,e2,j]→(ag.get ((e2,.cO (encS bl sz enc (l.set p row)))::(d,.e5 bb e2 n none)::σ.minus [d,e,j]) y).isSome→y=d∨y=e2:=λy ak Z=>by
  obtain⟨o,ar⟩:=Option.isSome_iff_exists.1 Z;rcases ta y ak o ar with q|q
  ·exact .inl q.1
  ·exact .inr q.1
 have Z1:∀c,c∈e4 (gC d)→c∉e4 (gC e2):=λc ah j2=>by
  rw[si,ay]at ah;have:c=aX:=by simpa [e4,cV]using ah
  exact uS c (by rw[wL]at j2;exact j2) this
 refine⟨.undef,_,I,gC,⟨rfl,rfl⟩,by simp[aD,bk],?_,dc.refl I,λy ak=>gr y (by simpa using ak),λy ak=>FB y ak⟩;refine aA.redo (M:=[d,e,e2,j]) (news:=[e2]) (b:=aX) (gC:=gC) hk (λo=>?_) (λy ak Z dW=>?_) eY (λy ak=>FB y ak) (λy ak=>gr y (by simpa using ak)) (λy ak=>?_) (λy o _ kE=>(axC iQ y o kE).2) (λy ak o kE=>?_) (λy ak fV c ah=>?_) (λy ak z hz sF fU fV c ah j2=>?_)
 ·cases o with
  |none=>exact aA.uZ aW
  |some o=>exact ef o
 ·exact aA.eN d y vG Z (λe=>ak (by simp[e])) aX gw dW
 ·simp only[List.mem_singleton]at ak;subst ak;exact⟨by simp,aoh⟩
 ·rcases ta y ak o kE with⟨rfl,rfl⟩|⟨rfl,rfl⟩
  ·simp only[br,si,wL];refine .inr ⟨aX,aT,_,m9,ay,aG,a1,setRow_heap w aX arr _ bb _ aW,by simp only[iT,size_toArray,length_append,length_take,length_drop,length_singleton,Array.length_toList];omega,rfl,by simp[m9,cE],?_,ef,eY⟩;show(iT arr.toList p [β j]).take n=m9.toList;rw[j4,←show arr.toList.take n=Z.toList from dA];apply List.ext_getElem?;intro i;have avB:p<arr.toList.length:=by simp;omega
   rw[getElem?_take,List.getElem?_set,getElem?_take];simp only[iT,length_singleton];by_cases gi:i<n
   ·rw[if_pos gi,if_pos gi];by_cases n3:p=i
    ·subst n3;rw[if_pos rfl,if_pos (by simp;omega),List.append_assoc,List.getElem?_append_right (by simp;omega),length_take,Nat.min_eq_left (by omega)];simp
    ·rw[if_neg n3];by_cases cq:i<p
     ·rw[List.append_assoc,List.getElem?_append_left (by simp;omega),getElem?_take,if_pos cq]
     ·rw[List.getElem?_append_right (by simp;omega),getElem?_drop];congr 1;simp only[length_append,length_take,length_singleton];omega
   ·rw[if_neg gi,if_neg gi];by_cases n3:p=i
    ·omega
    ·rw[if_neg n3]
  ·simp only[br];exact .inr ⟨m9,wL,Ox.go (dc.refl I) λc ah=>⟨λcq=>hk.block c (uS c ah) cq,λ_=>rfl,id⟩⟩
 ·rcases OU y ak fV with rfl|rfl
  ·rw[si]at ah;exact⟨y,by simp,vG,ah⟩
  ·rw[wL]at ah;rcases mI c ah with q|q
   ·exact⟨e,by simp,kK,q⟩
   ·exact⟨j,by simp,uO,q⟩
 ·rcases OU y ak fU with rfl|rfl<;>rcases OU z hz fV with rfl|rfl
  ·exact sF rfl
  ·exact Z1 c ah j2
  ·exact Z1 c j2 ah
  ·exact sF rfl
end
end
section
section
variable {P:Program}
def JI(bb:Nat)(op:Op)(env:an)(σ:ag):Option (c9×cW):=match op with
 |.indexAddr T x y=>(match env.dg x with
  |some (.own d)=>(match env.dg y with
   |some (.int k i)=>(match σ.get d with
    |some (.e5 gT e n gI)=>(match σ.get e with
     |some (.cO dy)=>bif Nat.beq T bb then some (.y [d,e] (.ptr d i.toNat),([.int .i64 i],[(0,.cO dy)]))else none
     |_=>none)
    |_=>none)
   |_=>none)
  |_=>none)
 |_=>none
def ahU{α:Type}{bb E bl sz:Nat}{enc:α→List W}{l:List (List α)}{i:Int}{row:List α}(aR:ji P bb E 1)(hi:b2 l i=some row){o:Oper}{N:Nat}{ids:ei}{env:an}{σ:ag}{s:c9}{aZ:cW}
  (h:JI bb o.op env σ=some (s,aZ)) (he:aZ=([.int .i64 i],[(0,.cO (encS bl sz enc l))])):gh ⟨P,N,ids⟩ o env σ s:=by
 cases ar:o.op<;>rw[ar]at h
 case indexAddr T x y=>
  simp only[JI]at h;split at h
  ·rename_i d u;split at h
   ·rename_i k FV ak;split at h
    ·rename_i gT e n gI aa;split at h
     ·rename_i dy Y;cases ah:Nat.beq T bb with
      |false=>rw[ah]at h;cases h
      |true=>
       rw[ah]at h;have:=Nat.eq_of_beq_eq_true ah;subst this;cases h;simp only[Prod.mk.injEq,List.cons.injEq,W.int.injEq,c4.cO.injEq,and_true,true_and]at he;obtain⟨rfl,rfl⟩:=he;refine ay2 ar (axo u) (axo ak) aa Y aR ?_;unfold b2 at hi;split at hi
       ·rename_i bA;have:=(List.getElem?_eq_some_iff.1 hi).1;simp only[encS,length_map];omega
       ·cases hi
     ·cases h
    ·cases h
   ·cases h
  ·cases h
 all_goals (simp only[JI]at h;cases h)
def lW{α:Type}{bb E:Nat}{l:List (List α)}{i:Int}{row:List α}(bl sz:Nat)(enc:α→List W)(aR:ji P bb E 1)(hi:b2 l i=some row):Hint P:=
 .gs false ([.int .i64 i],[(0,.cO (encS bl sz enc l))]) (λ_=>JI bb) λ_ _ _ _ _ _ _ h he=>ahU aR hi h he
def Kc(bb:Nat)(n:Int)(op:Op)(env:an)(σ:ag):Option (c9×cW):=match op with
 |.call c=>(match c.callee with
  |.builtin b=>(match b with
   |.len=>(match c.args.toList with
    |[x]=>(match c.argTypes.toList with
     |[T]=>(match env.dg x with
      |some (.own d)=>(match σ.get d with
       |some (.e5 gT e m gI)=>(match σ.get e with
        |some (.cO dy)=>bif Nat.beq T bb then some (.y [d,e] (.int .i64 n),([],[(0,.cO dy)]))else none
        |_=>none)
       |_=>none)
      |_=>none)
     |_=>none)
    |_=>none)
   |_=>none)
  |_=>none)
 |_=>none
def ahV{α:Type}{bb E bl sz:Nat}{enc:α→List W}{l:List (List α)}(aR:ji P bb E 1){o:Oper}{N:Nat}{ids:ei}{env:an}{σ:ag}{s:c9}{aZ:cW}
  (h:Kc bb (l.length:Int) o.op env σ=some (s,aZ)) (he:aZ=([],[(0,.cO (encS bl sz enc l))])):gh ⟨P,N,ids⟩ o env σ s:=by
 cases ar:o.op<;>rw[ar]at h
 case call c=>
  obtain⟨cl,args,tys⟩:=c;simp only[Kc]at h;split at h
  ·rename_i b;split at h
   ·split at h
    ·rename_i x pG;have:args=#[x]:=Array.toList_inj.1 (by simpa using pG);subst this;split at h
     ·rename_i T Oy;have:tys=#[T]:=Array.toList_inj.1 (by simpa using Oy);subst this;split at h
      ·rename_i d u;split at h
       ·rename_i gT e m gI aa;split at h
        ·rename_i dy Y;cases ah:Nat.beq T bb with
         |false=>rw[ah]at h;cases h
         |true=>
          rw[ah]at h;have:=Nat.eq_of_beq_eq_true ah;subst this;cases h;simp only[Prod.mk.injEq,List.cons.injEq,c4.cO.injEq,and_true,true_and]at he;subst he;have:=azh (G:=⟨P,N,ids⟩) ar rfl (axo u) aa Y aR.ia;rw[show(encS bl sz enc l).length=l.length by simp[encS]]at this;exact this
        ·cases h
       ·cases h
      ·cases h
     ·cases h
    ·cases h
   ·cases h
  ·cases h
 all_goals (simp only[Kc]at h;cases h)
def pK{α:Type}{bb E:Nat}(bl sz:Nat)(enc:α→List W)(l:List (List α))(aR:ji P bb E 1):Hint P:=
 .gs false ([],[(0,.cO (encS bl sz enc l))]) (λ_=>Kc bb (l.length:Int)) λ_ _ _ _ _ _ _ h he=>ahV aR h he
def JZ{α:Type}(bb bl sz e2 t p:Nat)(l:List (List α))(row:List α)(enc:α→List W)(ids:ei)(op:Op)(env:an)(σ:ag):Option (c9×cW):=match op with
 |.load T x=>(match env.dg x with
  |some (.ptr d oM)=>(match σ.get d with
   |some (.e5 gT e n none)=>(match σ.get e with
    |some (.cO dy)=>bif Nat.beq T bb&&(σ.get t).isNone&&(σ.get e2).isNone&&!Nat.beq t e2&&!ids.contains t&&!ids.contains e2&&σ.clean [t,e2].contains then
      some (.e [d,e,e2,t] [t,e2] (.own t) ((t,.slice bl sz (row.map enc) 0 false)::(e2,.cO (encS bl sz enc (l.set p [])))::(d,.e5 gT e2 n (some (some p,t)))::σ.minus [d,e]),([.ptr 0 oM],[(1,.cO dy)]))else none
    |_=>none)
   |_=>none)
  |_=>none)
 |_=>none
def ahW{α:Type}{bb bl sz e2 t:Nat}{l:List (List α)}{i:Int}{row:List α}{enc:α→List W}(aR:dS P bb 1 false)(hi:b2 l i=some row){o:Oper}{N:Nat}{ids:ei}{env:an}{σ:ag}{s:c9}{aZ:cW}
  (h:JZ bb bl sz e2 t i.toNat l row enc ids o.op env σ=some (s,aZ)) (he:aZ=([.ptr 0 i.toNat],[(1,.cO (encS bl sz enc l))])):gh ⟨P,N,ids⟩ o env σ s:=by
 cases ar:o.op<;>rw[ar]at h
 case load T x=>
  simp only[JZ]at h;split at h
  ·rename_i d oM u;split at h
   ·rename_i gT e n aa;split at h
    ·rename_i dy Y;generalize ah:(Nat.beq T bb&&_&&_&&_&&_&&_&&_)=fc at h;cases fc with
     |false=>cases h
     |true=>
      simp only[Bool.and_eq_true,Bool.not_eq_true']at ah;obtain⟨⟨⟨⟨⟨⟨aN,bw⟩,cg⟩,dR⟩,eV⟩,gY⟩,i1⟩:=ah;have:=Nat.eq_of_beq_eq_true aN;subst this;cases h;simp only[Prod.mk.injEq,List.cons.injEq,W.ptr.injEq,c4.cO.injEq,and_true,true_and]at he;obtain⟨rfl,rfl⟩:=he;have jm:l[i.toNat]?=some row:=by
       unfold b2 at hi;split at hi
       ·exact hi
       ·cases hi
      refine⟨azN l enc row ar (axo u) aa Y jm aR (by simpa using bw) (by simpa using cg) (λe=>?_) eV gY i1,?_⟩
      ·subst e;rw[Nat.beq_refl]at dR;cases dR
      ·simp only[all_cons,all_nil,eV,gY];rfl
    ·cases h
   ·cases h
  ·cases h
 all_goals (simp only[JZ]at h;cases h)
def Fz{α:Type}{bb:Nat}{l:List (List α)}{i:Int}{row:List α}(bl sz e2 t:Nat)(enc:α→List W)(aR:dS P bb 1 false)(hi:b2 l i=some row):Hint P:=
 .gs true ([.ptr 0 i.toNat],[(1,.cO (encS bl sz enc l))]) (JZ bb bl sz e2 t i.toNat l row enc) λ_ _ _ _ _ _ _ h he=>ahW aR hi h he
def KM{α:Type}(bb bl sz e2 p:Nat)(l:List (List α))(row:List α)(enc:α→List W)(ids:ei)(op:Op)(env:an)(σ:ag):Option (c9×cW):=match op with
 |.store T x y=>(match env.dg x with
  |some (.ptr d oM)=>(match env.dg y with
   |some (.own j)=>(match σ.get j with
    |some (.slice ny Z5 xs 0 _)=>(match σ.get d with
     |some (.e5 gT e n none)=>(match σ.get e with
      |some (.cO dy)=>bif Nat.beq T bb&&Nat.beq ny bl&&Nat.beq Z5 sz&&(σ.get e2).isNone&&!ids.contains e2&&σ.clean [e2].contains then
        some (.e [d,e,e2,j] [e2] .undef ((e2,.cO (encS bl sz enc (l.set p row)))::(d,.e5 gT e2 n none)::σ.minus [d,e,j]),([.ptr 0 oM,.bf false xs],[(1,.cO dy)]))else none
      |_=>none)
     |_=>none)
    |_=>none)
   |_=>none)
  |_=>none)
 |_=>none
def ahX{α:Type}{bb bl sz e2:Nat}{l:List (List α)}{i:Int}{Oz row:List α}{enc:α→List W}(aR:dS P bb 1 false)(hi:b2 l i=some Oz){o:Oper}{N:Nat}{ids:ei}{env:an}{σ:ag}{s:c9}{aZ:cW}
  (h:KM bb bl sz e2 i.toNat l row enc ids o.op env σ=some (s,aZ)) (he:aZ=([.ptr 0 i.toNat,.bf false (row.map enc)],[(1,.cO (encS bl sz enc l))])):gh ⟨P,N,ids⟩ o env σ s:=by
 cases ar:o.op<;>rw[ar]at h
 case store T x y=>
  simp only[KM]at h;split at h
  ·rename_i d oM u;split at h
   ·rename_i j ak;split at h
    ·rename_i ny Z5 xs dO aY;split at h
     ·rename_i gT e n aa;split at h
      ·rename_i dy Y;generalize ah:(Nat.beq T bb&&_&&_&&_&&_&&_)=fc at h;cases fc with
       |false=>cases h
       |true=>
        simp only[Bool.and_eq_true,Bool.not_eq_true']at ah;obtain⟨⟨⟨⟨⟨aN,bw⟩,cg⟩,dR⟩,eV⟩,gY⟩:=ah;have:=Nat.eq_of_beq_eq_true aN;subst this;have:=Nat.eq_of_beq_eq_true bw;subst this;have:=Nat.eq_of_beq_eq_true cg;subst this;cases h;simp only[Prod.mk.injEq,List.cons.injEq,W.ptr.injEq,W.bf.injEq,c4.cO.injEq,and_true,true_and]at he;obtain⟨⟨rfl,rfl⟩,rfl⟩:=he;have aK:i.toNat<l.length:=by
         unfold b2 at hi;split at hi
         ·exact(List.getElem?_eq_some_iff.1 hi).1
         ·cases hi
        exact⟨azL (dO:=dO) l enc row ar (axo u) (axo ak) aY aa Y aK aR (by simpa using dR) eV gY,by simp only[all_cons,all_nil,eV];rfl⟩
      ·cases h
     ·cases h
    ·cases h
   ·cases h
  ·cases h
 all_goals (simp only[KM]at h;cases h)
def PT{α:Type}{bb:Nat}{l:List (List α)}{i:Int}{Oz:List α}(bl sz e2:Nat)(enc:α→List W)(row:List α)(aR:dS P bb 1 false)(hi:b2 l i=some Oz):Hint P:=
 .gs true ([.ptr 0 i.toNat,.bf false (row.map enc)],[(1,.cO (encS bl sz enc l))]) (KM bb bl sz e2 i.toNat l row enc) λ_ _ _ _ _ _ _ h he=>ahX aR hi h he
def Ka(bb d E:Nat)(n:Int)(ids:ei)(op:Op)(env:an)(σ:ag):Option (c9×cW):=match op with
 |.makeSlice T x y=>(match env.dg x with
  |some (.int _ iE)=>(match env.dg y with
   |some (.int _ jC)=>bif Nat.beq T bb&&!ids.contains d&&σ.clean [d].contains then some (.e [d] [d] (.own d) ((d,.slice E 1 (List.replicate n.toNat [.dh]) 0 false)::σ),([.int .i64 iE,.int .i64 jC],[]))else none
   |_=>none)
  |_=>none)
 |_=>none
def ahY{bb E bytes d:Nat}{n:Int}(dZ:jy P bb E 1 bytes)(fs:kz P bb E 1 [.slice none 0 0])(bA:0≤n)(Y:n≤4294967296)(pI:bytes≤65536){o:Oper}{N:Nat}{ids:ei}{env:an}{σ:ag}{s:c9}{aZ:cW}
  (h:Ka bb d E n ids o.op env σ=some (s,aZ)) (he:aZ=([.int .i64 n,.int .i64 n],[])):gh ⟨P,N,ids⟩ o env σ s:=by
 cases ar:o.op<;>rw[ar]at h
 case makeSlice T x y=>
  simp only[Ka]at h;split at h
  ·rename_i ga iE u;split at h
   ·rename_i bV jC ak;cases ah:(Nat.beq T bb&&!ids.contains d&&σ.clean [d].contains)with
    |false=>rw[ah]at h;cases h
    |true=>
     rw[ah]at h;simp only[Bool.and_eq_true,Bool.not_eq_true']at ah;obtain⟨⟨dI,ek⟩,hR⟩:=ah;have:=Nat.eq_of_beq_eq_true dI;subst this;cases h;simp only[Prod.mk.injEq,List.cons.injEq,W.int.injEq,and_true,true_and]at he;obtain⟨rfl,rfl⟩:=he;exact⟨fP.makeSlice ar (axo u) (axo ak) dZ fs (λI=>by simp[bk]) bA Y pI ek hR,by simp only[all_cons,all_nil,ek];rfl⟩
   ·cases h
  ·cases h
 all_goals (simp only[Ka]at h;cases h)
def PK{bb E bytes:Nat}(d:Nat)(n:Int)(dZ:jy P bb E 1 bytes)(fs:kz P bb E 1 [.slice none 0 0])(be:(decide (0<n)&&decide (n≤4294967296))=true)(pI:bytes≤65536):Hint P:=
 .gs true ([.int .i64 n,.int .i64 n],[]) (Ka bb d E n) λ_ _ _ _ _ _ _ h he=>by
  simp only[Bool.and_eq_true,decide_eq_true_eq]at be;exact ahY dZ fs (by omega) be.2 pI h he
end
def NS{n:Int}(be:(decide (0<n)&&decide (n≤4294967296))=true):0<n.toNat:=by
 simp only[Bool.and_eq_true,decide_eq_true_eq]at be;omega
end
section
def dL{bS α:Type}(q:bS→bS→Bool)(l:List (bS×α))(n:bS):Option α:=(l.find? λp=>q n p.1).map (·.2)
def gq{bS α:Type}(q:bS→bS→Bool):List (bS×α)→bS→α→List (bS×α)
 |[],n,v=>[(n,v)]
 |p::r,n,v=>bif q n p.1 then(n,v)::r else p::gq q r n v
def dV{bS α:Type}(cL:bS→W)(enc:α→W)(l:List (bS×α)):List (W×W):=l.map λp=>(cL p.1,enc p.2)
def eD{bS:Type}(e:jD bS)(x:bS):W:=.agg (e.enc x)
structure EM(P:Program)(K:TypeId){bS:Type}(cL:bS→W)(q:bS→bS→Bool):Prop where
 plain:∀a,(cL a).plain=true
 closed:∀a,(cL a).closed=true
 now:∃kd,P.underlying K=some kd∧∀a v,Instr.sameNow kd (valOf (cL a)) v=none
 eq:∀a b w,(Op.equal K (valOf (cL a)) (valOf (cL b))).run P w=.ok (q a b) w
 hU:∀e a w,(Instr.checkKey e 10000 K (valOf (cL a))).run P w=.ok () w
 same:∀a b,q a b=true→a=b
 bits:∀a,Instr.sameBits 10000 (valOf (cL a)) (valOf (cL a))=true
structure l3(P:Program)(T K E:TypeId){bS:Type}(cL:bS→W)(q:bS→bS→Bool):Prop where
 ia:P.underlying T=some (.map K E)
 key:EM P K cL q
def bk.plain{I:bP}{a:W}{v:Value}(aK:a.plain=true)(h:bk I a v):v=valOf a:=u0 (β:=λ_=>Go.undef) a v aK (bk.rep _ _ _ h)
section
variable {P:Program}{I:bP}{bS α:Type}{K:TypeId}{cL:bS→W}{q:bS→bS→Bool}{enc:α→W}
def GX(gE:EM P K cL q)(n:bS)(w:World):∀(l:List (bS×α)) (es:oe) (i:Nat) (a:α),gm I (dV cL enc l) es→dL q l n=some a→
  ∃j v,(Instr.findAsking K (valOf (cL n)) es i).run P w=.ok (some (i+j,v)) w∧bk I (enc a) v∧∃e,es[j]?=some e∧e.key=valOf (cL n)∧
   ∀(b:α) (aq:Value) (jg:MapEntry→MapEntry),bk I (enc b) aq→(∀e,bk I (cL n) (jg e).key∧(jg e).val=aq)→gm I (dV cL enc (gq q l n b)) (es.modify j jg)
 |[],es,i,a,h,bQ=>by simp[dL]at bQ
 |(m,b)::r,es,i,a,h,bQ=>by
  simp only[dV,map_cons,gm]at h;obtain⟨e,b8,rfl,h1,D,aj⟩:=h;have wZ:=bk.plain (gE.plain m) h1;have e1:=gE.eq n m w;cases hm:q n m with
  |true=>
   have:=gE.same n m hm;subst this;simp only[dL,List.find?,hm,Option.map_some,Option.some.injEq]at bQ;subst bQ;rw[hm]at e1;refine⟨0,e.val,?_,D,e,rfl,wZ,?_⟩
   ·rw[Instr.findAsking];simp[wZ,e1]
   ·intro c aq jg cF hk;simp only[gq,hm,cond_true,dV,map_cons,gm,modify_zero_cons];exact⟨jg e,b8,rfl,(hk e).1,by rw[(hk e).2];exact cF,aj⟩
  |false=>
   have uN:dL q r n=some a:=by simpa [dL,List.find?,hm]using bQ
   obtain⟨j,v,ay,aG,dW,a1,aW,bt⟩:=GX gE n w r b8 (i+1) a aj uN;rw[hm]at e1;refine⟨j+1,v,?_,aG,dW,by simpa using a1,aW,?_⟩
   ·rw[Instr.findAsking];simp only[Sem.run_bind,wZ,e1,Result.andThen_ok];simp only[Bool.false_eq_true,if_false];rw[ay];simp[Nat.add_assoc,Nat.add_comm 1 j]
   ·intro c aq jg cF hk;simp only[gq,hm,cond_false,dV,map_cons,gm,modify_succ_cons];exact⟨e,_,rfl,h1,D,bt c aq jg cF hk⟩
def vV(gE:EM P K cL q)(n:bS)(w:World):∀(l:List (bS×α)) (es:oe) (i:Nat),gm I (dV cL enc l) es→dL q l n=none→
  (Instr.findAsking K (valOf (cL n)) es i).run P w=.ok none w∧∀(b:α) (e:MapEntry),bk I (enc b) e.val→bk I (cL n) e.key→gm I (dV cL enc (gq q l n b)) (es++[e])
 |[],es,i,h,bQ=>by
  simp only[dV,map_nil,gm]at h;subst h;refine⟨rfl,λb e Y hk=>?_⟩;simp only[gq,dV,map_cons,map_nil,gm,nil_append];exact⟨e,[],rfl,hk,Y,rfl⟩
 |(m,c)::r,es,i,h,bQ=>by
  simp only[dV,map_cons,gm]at h;obtain⟨e,b8,rfl,h1,D,aj⟩:=h;have wZ:=bk.plain (gE.plain m) h1;have e1:=gE.eq n m w;have hm:q n m=false:=by
   cases hm:q n m with
   |false=>rfl
   |true=>simp[dL,List.find?,hm]at bQ
  rw[hm]at e1;have uN:dL q r n=none:=by simpa [dL,List.find?,hm]using bQ
  obtain⟨ay,aG⟩:=vV gE n w r b8 (i+1) aj uN;refine⟨?_,λb dW Y hk=>?_⟩
  ·rw[Instr.findAsking];simp only[Sem.run_bind,wZ,e1,Result.andThen_ok];simp only[Bool.false_eq_true,if_false];exact ay
  ·simp only[gq,hm,cond_false,dV,map_cons,gm,cons_append];exact⟨e,_,rfl,h1,D,aG b dW Y hk⟩
def Bf(gE:EM P K cL q)(n:bS)(w:World)(es:oe):(Instr.findKey K (valOf (cL n)) es).run P w=(Instr.findAsking K (valOf (cL n)) es).run P w:=by
 obtain⟨kd,cF,Z⟩:=gE.now;have e2:∀w,(underlying K).run P w=.ok kd w:=λw=>by simp[underlying,program,Sem.run,cF]
 cases es with
 |nil=>simp[Instr.findKey,e2,Instr.findNow,Instr.findAsking]
 |cons e r=>
  rw[Instr.findKey];simp only[Sem.run_bind,e2,Result.andThen_ok,Instr.findNow,Z]
end
section
variable {G:c7}{σ:ag}{o:Oper}{ev:Operand→W}
def ay3{bS α:Type}{T K E d:Nat}{cL:bS→W}{q:bS→bS→Bool}{x y:Operand}{ok:Bool}{n:bS}(l:List (bS×α))(enc:α→W)(z:α)(h:o.op=.lookup T x y ok)(u:ev x=.ep d)(ak:ev y=cL n){kQ l9:Nat}(aa:σ.get d=some (.map kQ l9 (dV cL enc l)))
  (aR:l3 G.P T K E cL q) (hz:∀w,∃v,(zeroValue E).run G.P w=.ok v w∧∀I,bk I (enc z) v) :
  Yields G o ev σ [] [d] (bif ok then .dm [enc ((dL q l n).getD z),.bool (dL q l n).isSome]else enc ((dL q l n).getD z)):=
 .pure λaL cx I β w bp cz aA hop=>by
  have h1:=hop x (by simp[h,Op.operands]);rw[u]at h1
  have D:=hop y (by simp[h,Op.operands]);rw[ak]at D;have D:=u0 _ _ (aR.key.plain n) D
  obtain⟨r,es,clock,i5,aG,a1⟩:=Rx aA (by rw[cz d (by simp)];exact aa) h1;have e1:∀w,(underlying T).run G.P w=.ok (.map K E) w:=λw=>by simp[underlying,program,Sem.run,aR.ia]
  have bT:=q8 (P:=G.P) aG;have fG:=aR.key.hU (es.isEmpty) n w;have e0:=Bf aR.key n w es.toList;cases bQ:dL q l n with
  |none=>
   obtain⟨cM,_⟩:=vV aR.key n w l es.toList 0 a1 bQ;obtain⟨v,kG,l8⟩:=hz w;have gy:(Instr.findKey K (valOf (cL n)) es.toList).run G.P w=.ok none w:=by rw[e0,cM]
   cases ok with
   |true=>
    refine⟨.tuple #[v,.bool false],by simp[execOp,h,Instr.lookup,i5,D,e1,bT,fG,gy,kG],?_⟩;simp only[cond_true,aD,cw];exact⟨_,rfl,v,[.bool false],rfl,bk.rep β _ _ (l8 I),.bool false,[],rfl,by simp[bk],rfl⟩
   |false=>
    refine⟨v,by simp[execOp,h,Instr.lookup,i5,D,e1,bT,fG,gy,kG],?_⟩;simp only[cond_false];exact bk.rep β _ _ (l8 I)
  |some a=>
   obtain⟨j,v,cM,dY,_⟩:=GX aR.key n w l es.toList 0 a a1 bQ;have gy:(Instr.findKey K (valOf (cL n)) es.toList).run G.P w=.ok (some (0+j,v)) w:=by rw[e0,cM]
   cases ok with
   |true=>
    refine⟨.tuple #[v,.bool true],by simp[execOp,h,Instr.lookup,i5,D,e1,bT,fG,gy],?_⟩;simp only[cond_true,aD,cw];exact⟨_,rfl,v,[.bool true],rfl,bk.rep β _ _ dY,.bool true,[],rfl,by simp[bk],rfl⟩
   |false=>
    refine⟨v,by simp[execOp,h,Instr.lookup,i5,D,e1,bT,fG,gy],?_⟩;simp only[cond_false];exact bk.rep β _ _ dY
def azH{bS α:Type}{T K E d:Nat}{cL:bS→W}{q:bS→bS→Bool}{x y z:Operand}{n:bS}(l:List (bS×α))(enc:α→W)(v:α)(h:o.op=.mapUpdate T x y z∨o.op=.insert T x y z)(u:ev x=.ep d)(ak:ev y=cL n)(hz:ev z=enc v)(ah:(enc v).closed=true)
  {kQ l9:Nat} (aa:σ.get d=some (.map kQ l9 (dV cL enc l))) (aR:l3 G.P T K E cL q) :
  hK G o ev σ [d] [] (λr aL=>r=.undef∧aL=σ.set d (.map kQ l9 (dV cL enc (gq q l n v)))):=by
 intro cx I β w bp aA hop;have kV:x∈o.op.operands∧y∈o.op.operands∧z∈o.op.operands:=by rcases h with h|h<;>simp[h,Op.operands]
 have h1:=hop x kV.1;rw[u]at h1
 have D:=hop y kV.2.1;rw[ak]at D
 have Yw:=aD.closed _ _ (aR.key.closed n) D;have D:=u0 _ _ (aR.key.plain n) D;have aj:=hop z kV.2.2;rw[hz]at aj
 have aj:=aD.closed _ _ ah aj;obtain⟨r,es,clock,i5,ay,aG,a1,aW,bt,b1⟩:=Rw aA aa h1;have e1:∀w,(underlying T).run G.P w=.ok (.map K E) w:=λw=>by simp[underlying,program,Sem.run,aR.ia]
 have bT:=q8 (P:=G.P) aG;have fG:=aR.key.hU false n w;have e0:=Bf aR.key n w es.toList
 have hj:∀aZ:Obj,(setObj r aZ).run G.P w=.ok () {w with heap:=w.heap.setIfInBounds r aZ}:=λaZ=>by
  have:=hZ aG;simp[setObj,Sem.run,aG]
 have xo:∃kJ oQ,(execOp bp o).run G.P w=.ok .skip {w with heap:=w.heap.setIfInBounds r (.map kJ oQ)}∧gm I (dV cL enc (gq q l n v)) kJ.toList∧k9 kJ oQ:=by
  cases bQ:dL q l n with
  |none=>
   obtain⟨cM,dY⟩:=vV aR.key n w l es.toList 0 a1 bQ;have gy:(Instr.findKey K (valOf (cL n)) es.toList).run G.P w=.ok none w:=by rw[e0,cM]
   refine⟨_,_,by rcases h with h|h<;>simp[execOp,h,Instr.mapUpdate,i5,D,e1,bT,fG,gy,hj]<;>rfl,?_,?_⟩
   rotate_left
   ·exact b1.push _ _
   simpa using dY v ⟨valOf (cL n),bp z,clock⟩ aj (by rw[←D];exact Yw)
  |some a=>
   obtain⟨j,aq,cM,dY,dW,fJ,iy,nu⟩:=GX aR.key n w l es.toList 0 a a1 bQ;have gy:(Instr.findKey K (valOf (cL n)) es.toList).run G.P w=.ok (some (0+j,aq)) w:=by rw[e0,cM]
   have g1:es[j]?=some dW:=by simpa using fJ
   have jN:(Instr.keyThatStays (valOf (cL n)) (valOf (cL n))).run G.P w=.ok (valOf (cL n)) w:=by simp[Instr.keyThatStays,aR.key.bits n]
   refine⟨_,_,by rcases h with h|h<;>simp[execOp,h,Instr.mapUpdate,i5,D,e1,bT,fG,gy,hj,g1,iy,jN]<;>rfl,?_,?_⟩
   ·simpa using nu v (bp z) (λe=>{e with key:=valOf (cL n),val:=bp z}) aj (λe=>⟨by rw[←D];exact Yw,rfl⟩)
   ·exact b1.modify _ _ λ_=>rfl
 obtain⟨kJ,oQ,gF,iV,fq⟩:=xo;rw[gF];refine⟨.undef,_,I,β,⟨rfl,rfl⟩,by simp[aD,bk],?_,dc.refl I,λ_ _=>rfl,λx u=>by rw[axu,if_neg (by simpa using u)]⟩;have gw:cV (β d)=some r:=by rw[ay];rfl
 refine aA.turn (d:=d) (axM w r _) bt (λx u=>by rw[axu,if_neg u]) (λx u Z e=>aA.eN x d Z (by rw[aa];rfl) u r e (lF gw)) (dc.refl I) (λ_ _ _=>rfl)
  (λo v ai=>by rw[aW o]at ai;cases ai) (aW none) (λ_ _=>rfl) (.inr rfl) (h8.refl β) (.inl gw) λaZ c5=>?_
 rw[axu,if_pos rfl,aa]at c5;injection c5 with c5
 subst c5;simp only[br];exact .inr ⟨r,kJ,oQ,ay,by have:=hZ aG;simp[Array.getElem?_setIfInBounds,this],iV,aW,bt,fq⟩
def Cn{P:Program}{T:Nat}{xs bD:jj}{r:Bool}{w:World}(cF:P.underlying T=some (.struct (P.fieldsOf T)))(aK:P.stoodInHeld T=false)(h:(Op.eqFields 9999 xs bD (P.fieldsOf T).toList).run P w=.ok r w):(Op.equal T (.agg xs) (.agg bD)).run P w=.ok r w:=by
 show(Op.equalIn 10000 T (.agg xs) (.agg bD)).run P w=.ok r w;rw[run_equalIn_agg w 9999 T _ _ cF aK,h]
end
end
section
section
variable {P:Program}
def JR{bS α:Type}(bb:Nat)(q:bS→bS→Bool)(l:List (bS×α))(n:bS)(enc:α→W)(z:α)(op:Op)(env:an)(σ:ag):Option (c9×cW):=match op with
 |.lookup T x y ok=>(match env.dg x with
  |some (.ep d)=>(match env.dg y with
   |some a=>(match σ.get d with
    |some (.map K E bO)=>bif Nat.beq T bb then some (.y [d] (bif ok then .dm [enc ((dL q l n).getD z),.bool (dL q l n).isSome]else enc ((dL q l n).getD z)),([.ec bO,a],[]))else none
    |_=>none)
   |_=>none)
  |_=>none)
 |_=>none
def ahZ{bS α:Type}{bb i0 hs:Nat}{cL:bS→W}{q:bS→bS→Bool}{l:List (bS×α)}{n:bS}{enc:α→W}{z:α}(aR:l3 P bb i0 hs cL q)(hz:∀w,∃v,(zeroValue hs).run P w=.ok v w∧∀I,bk I (enc z) v){o:Oper}{N:Nat}{ids:ei}{env:an}{σ:ag}{s:c9}{aZ:cW}
  (h:JR bb q l n enc z o.op env σ=some (s,aZ)) (he:aZ=([.ec (dV cL enc l),cL n],[])):gh ⟨P,N,ids⟩ o env σ s:=by
 cases ar:o.op<;>rw[ar]at h
 case lookup T x y ok=>
  simp only[JR]at h;split at h
  ·rename_i d u;split at h
   ·rename_i a ak;split at h
    ·rename_i K E bO aa;cases Y:Nat.beq T bb with
     |false=>rw[Y]at h;cases h
     |true=>
      rw[Y]at h;have:=Nat.eq_of_beq_eq_true Y;subst this;cases h;simp only[Prod.mk.injEq,List.cons.injEq,W.ec.injEq,and_true]at he;obtain⟨rfl,rfl⟩:=he;exact ay3 l enc z ar (axo u) (axo ak) aa aR hz
    ·cases h
   ·cases h
  ·cases h
 all_goals (simp only[JR]at h;cases h)
def aoL{bS α:Type}{bb i0 hs:Nat}{cL:bS→W}{q:bS→bS→Bool}(l:List (bS×α))(n:bS)(enc:α→W)(z:α)(aR:l3 P bb i0 hs cL q)(hz:∀w,∃v,(zeroValue hs).run P w=.ok v w∧∀I,bk I (enc z) v):Hint P:=
 .gs false ([.ec (dV cL enc l),cL n],[]) (λ_=>JR bb q l n enc z) λ_ _ _ _ _ _ _ h he=>ahZ aR hz h he
def J6{bS α:Type}(bb:Nat)(cL:bS→W)(q:bS→bS→Bool)(l:List (bS×α))(n:bS)(enc:α→W)(v:α)(T:TypeId)(x y z:Operand)(env:an)(σ:ag):Option (c9×cW):=
 match env.dg x with
  |some (.ep d)=>(match env.dg y with
   |some a=>(match env.dg z with
    |some b=>(match σ.get d with
     |some (.map K E bO)=>bif Nat.beq T bb then some (.e [d] [] .undef (σ.set d (.map K E (dV cL enc (gq q l n v)))),([.ec bO,a,b],[]))else none
     |_=>none)
    |_=>none)
   |_=>none)
  |_=>none
def Qw{bS α:Type}(bb:Nat)(cL:bS→W)(q:bS→bS→Bool)(l:List (bS×α))(n:bS)(enc:α→W)(v:α)(op:Op)(env:an)(σ:ag):Option (c9×cW):=match op with
 |.mapUpdate T x y z=>J6 bb cL q l n enc v T x y z env σ
 |.insert T x y z=>J6 bb cL q l n enc v T x y z env σ
 |_=>none
def UM{bS α:Type}{bb i0 hs:Nat}{cL:bS→W}{q:bS→bS→Bool}{l:List (bS×α)}{n:bS}{enc:α→W}{v:α}(aR:l3 P bb i0 hs cL q)(ah:(enc v).closed=true){o:Oper}{N:Nat}{ids:ei}{env:an}{σ:ag}{s:c9}{aZ:cW}{T:TypeId}{x y z:Operand}
  (ar:o.op=.mapUpdate T x y z∨o.op=.insert T x y z) (h:J6 bb cL q l n enc v T x y z env σ=some (s,aZ)) (he:aZ=([.ec (dV cL enc l),cL n,enc v],[])):gh ⟨P,N,ids⟩ o env σ s:=by
 simp only[J6]at h;split at h
 ·rename_i d u;split at h
  ·rename_i a ak;split at h
   ·rename_i b hz;split at h
    ·rename_i K E bO aa;cases Y:Nat.beq T bb with
     |false=>rw[Y]at h;cases h
     |true=>
      rw[Y]at h;have:=Nat.eq_of_beq_eq_true Y;subst this;cases h;simp only[Prod.mk.injEq,List.cons.injEq,W.ec.injEq,and_true]at he;obtain⟨rfl,rfl,rfl⟩:=he;exact⟨azH l enc v ar (axo u) (axo ak) (axo hz) ah aa aR,rfl⟩
    ·cases h
   ·cases h
  ·cases h
 ·cases h
def ah0{bS α:Type}{bb i0 hs:Nat}{cL:bS→W}{q:bS→bS→Bool}{l:List (bS×α)}{n:bS}{enc:α→W}{v:α}(aR:l3 P bb i0 hs cL q)(ah:(enc v).closed=true){o:Oper}{N:Nat}{ids:ei}{env:an}{σ:ag}{s:c9}{aZ:cW}
  (h:Qw bb cL q l n enc v o.op env σ=some (s,aZ)) (he:aZ=([.ec (dV cL enc l),cL n,enc v],[])):gh ⟨P,N,ids⟩ o env σ s:=by
 cases ar:o.op<;>rw[ar]at h
 case mapUpdate T x y z=>exact UM aR ah (.inl ar) h he
 case insert T x y z=>exact UM aR ah (.inr ar) h he
 all_goals (simp only[Qw]at h;cases h)
def Y0{bS α:Type}{bb i0 hs:Nat}{cL:bS→W}{q:bS→bS→Bool}(l:List (bS×α))(n:bS)(enc:α→W)(v:α)(aR:l3 P bb i0 hs cL q)(ah:(enc v).closed=true):Hint P:=
 .gs true ([.ec (dV cL enc l),cL n,enc v],[]) (λ_=>Qw bb cL q l n enc v) λ_ _ _ _ _ _ _ h he=>ah0 aR ah h he
def Gv(d K E:Nat)(ids:ei)(op:Op)(_:an)(_:ag):Option (c9×cW):=match op with
 |.makeMap _ none=>bif !ids.contains d then some (.v d (.map K E []) (.ep d),([],[]))else none
 |_=>none
def ah1{d K E:Nat}{o:Oper}{N:Nat}{ids:ei}{env:an}{σ:ag}{s:c9}{aZ:cW}(h:Gv d K E ids o.op env σ=some (s,aZ)):gh ⟨P,N,ids⟩ o env σ s:=by
 cases ar:o.op<;>rw[ar]at h
 case makeMap T r=>
  cases r with
  |some r=>simp only[Gv]at h;cases h
  |none=>
   simp only[Gv]at h;cases hi:ids.contains d with
   |true=>rw[hi]at h;cases h
   |false=>rw[hi]at h;cases h;exact⟨hi,b5.makeMap ar hi⟩
 all_goals (simp only[Gv]at h;cases h)
def PI(d K E:Nat):Hint P:=.gs true ([],[]) (λids=>Gv d K E ids) λ_ _ _ _ _ _ _ h _=>ah1 h
def ah4{α:Type}(e:jD α){l r m:List α}(h:jf l r=some m)(aP:0<l.length):0<(aM e m).length:=by
 obtain⟨_,D⟩:=S4 h;rw[nB,←D,length_append];omega
def I2(bb E d2 sz:Nat)(zs:List (List W))(ids:ei)(op:Op)(env:an)(σ:ag):Option (c9×cW):=match op with
 |.call c=>match c.callee with
  |.builtin b=>(match b with
   |.append=>(match c.args.toList with
    |[s,x]=>(match c.argTypes.toList with
     |[T,ny]=>bif Nat.beq T bb&&Nat.beq ny bb&&!ids.contains d2&&σ.clean [d2].contains then(match env.dg x with
       |none=>none
       |some oo=>match js [] σ oo with
        |some (.bf f bD)=>(match env.dg s with
         |some (.bf true xs)=>some (.e [d2] [d2] (.own d2) ((d2,.slice E sz zs 0 false)::σ),([.bf false xs,.bf false bD],[]))
         |_=>none)
        |_=>none)else none
     |_=>none)
    |_=>none)
   |_=>none)
  |_=>none
 |_=>none
def ah2{bb E d2 sz bytes:Nat}{xs bD zs:List (List W)}(aR:jy P bb E sz bytes)(cv:BQ sz bytes xs bD zs)(di:0<bD.length){o:Oper}{N:Nat}{ids:ei}{env:an}{σ:ag}{s:c9}{aZ:cW}
  (h:I2 bb E d2 sz zs ids o.op env σ=some (s,aZ)) (he:aZ=([.bf false xs,.bf false bD],[])):gh ⟨P,N,ids⟩ o env σ s:=by
 obtain⟨De,cM,dY,fJ,iy,nu⟩:=cv;cases ar:o.op<;>rw[ar]at h
 case call c=>
  obtain⟨cl,args,tys⟩:=c;simp only[I2]at h;split at h
  ·split at h
   ·split at h
    ·rename_i jM iA k8;have:args=#[jM,iA]:=Array.toList_inj.1 (by simpa using k8);subst this;split at h
     ·rename_i T ny Av;have:tys=#[T,ny]:=Array.toList_inj.1 (by simpa using Av);subst this;generalize Y:(Nat.beq T bb&&_&&_&&_)=fc at h;cases fc with
      |false=>cases h
      |true=>
       simp only[cond_true]at h;simp only[Bool.and_eq_true,Bool.not_eq_true']at Y;obtain⟨⟨⟨dI,ek⟩,hR⟩,j8⟩:=Y;have:=Nat.eq_of_beq_eq_true dI;subst this;have:=Nat.eq_of_beq_eq_true ek;subst this;split at h
       ·cases h
       ·rename_i oo u;split at h
        ·rename_i f RZ Z;have vN:jk σ (env.ev iA) (.bf f RZ):=by rw[axo u];exact sG Z
         split at h
         ·rename_i km nc;cases h;simp only[Prod.mk.injEq,List.cons.injEq,W.bf.injEq,and_true,true_and]at he;obtain⟨rfl,rfl⟩:=he;refine⟨?_,by simpa using hR⟩;rw[←De];exact ayp (G:=⟨P,N,ids⟩) ar (.inr ⟨axo nc,di⟩) vN aR cM dY fJ iy nu hR j8
         ·cases h
        ·cases h
     ·cases h
    ·cases h
   ·cases h
  ·cases h
 all_goals (simp only[I2]at h;cases h)
def anY{bb E sz bytes:Nat}(d2:Nat){xs bD zs:List (List W)}(aR:jy P bb E sz bytes)(cv:BQ sz bytes xs bD zs)(di:0<bD.length):Hint P:=
 .gs true ([.bf false xs,.bf false bD],[]) (λids=>I2 bb E d2 sz zs ids) λ_ _ _ _ _ _ _ h he=>ah2 aR cv di h he
end
section hdr
variable {P:Program}
end hdr
end
end
section
set_option linter.all false
open Go List
section
section
def cD.row{I bm:bP}(hle:dc I bm){b:Nat}:∀(cs:List W) (vs:fK) (o:Nat),cD I cs vs→(∀j,j<vs.length→bm b ((o+j:Nat):nZ)=vs[j]?)→lu bm b cs o
 |[],_,_,_,_=>by simp[lu]
 |x::r,vs,o,h,aY=>by
  simp only[cD]at h;obtain⟨aq,b8,rfl,h1,D⟩:=h;simp only[lu];refine⟨⟨aq,?_,kI hle _ _ h1⟩,cD.row hle r b8 (o+1) D λj sw=>?_⟩
  ·have:=aY 0 (by simp);simpa using this
  ·have:=aY (j+1) (by simp;omega);rw[show o+1+j=o+(j+1)by omega];simpa using this
def ayn{G:c7}{env:an}{σ:ag}(t C:Nat){T:Nat}{cs:List W}(bU:env.get t=.ptr C 0)(mF:σ.get C=some (.cells T cs))(ah:mE cs=true):dr G env σ ((t,.gP cs)::env) (σ.minus [C]):=by
 intro cx I β a w h dw;have ar:=h.dK C _ mF;simp only[br]at ar;have aK:=dw t;rw[bU]at aK;simp only[aD]at aK;obtain⟨b,Y,ao3⟩:=aK;rcases ar with q|⟨aX,arr,ay,aG,a1,aW,bt⟩
 ·rw[q]at Y;simp[cV]at Y
 ·have qx:aX=b:=by rw[ay]at Y;simpa [cV]using Y
  subst qx
  let bm:bP:=I.on λdI o=>if dI=aX then arr[o]? else I dI o
  have hle:dc I bm:=λdI o v ai=>by
   cases o with
   |none=>exact ai
   |some o=>
   show(if dI=aX then arr[o]? else I dI o)=some v;split
   ·rename_i ct;subst ct;rw[aW]at ai;cases ai
   ·exact ai
  have jE:∀dI o,dI≠aX→bm dI o=I dI o:=λdI o di=>by
   cases o with
   |none=>rfl
   |some o=>
   show(if dI=aX then arr[o]? else I dI o)=_;rw[if_neg di]
  have FB:∀d o,(σ.minus [C]).get d=some o→d≠C∧σ.get d=some o:=λd o aa=>by
   rw[axz]at aa;split at aa
   ·cases aa
   ·rename_i hm;exact⟨by simpa using hm,aa⟩
  have VM:∀d,((σ.minus [C]).get d).isSome→(σ.get d).isSome:=λd aa=>by
   obtain⟨o,ar⟩:=Option.isSome_iff_exists.1 aa;rw[(FB d o ar).2];rfl
  have jm:lu bm aX cs 0:=cD.row hle cs arr.toList 0 (Rz ah a1) λj aY=>by
   show(if aX=aX then arr[0+j]? else I aX (some (0+j)))=_;rw[if_pos rfl];simp
  refine⟨bm,β,{good:=λdI o v ai=>?_,iU:=h.iU,ku:=λdI o v ai=>hle _ _ _ (h.ku _ _ _ ai),jY:=λdI dX be o=>?_,frame:=h.frame,size:=h.size,tape:=h.tape,os:=h.os,output:=h.output,drawn:=h.drawn,dK:=λd o aa=>?_,eN:=λd fT aa eC=>h.eN d fT (VM d aa) (VM fT eC),keep:=h.keep},λwH=>?_⟩
  ·change (if dI=aX then arr[o]? else I dI o)=some v at ai
   split at ai
   ·rename_i ct;subst ct;simp only[World.cell?,aG];simpa using ai
   ·exact h.good dI o v ai
  ·have di:dI≠aX:=λe=>by
    subst e;rcases bt with q|q
    ·omega
    ·exact be q
   rw[jE dI o di];exact h.jY dI dX be o
  ·obtain⟨aoa,Ay⟩:=FB d o aa;refine(h.dK d o Ay).Qf hle jE λdI dX dW=>?_;subst dW;exact h.eN d C (by rw[Ay];rfl) (by rw[mF];rfl) aoa dI dX (lF Y)
  ·rw[axI];split
   ·rename_i e;subst e
    simp only[aD,bk];exact⟨aX,0,ao3,jm⟩
   ·exact(dw.mono hle (h8.refl β)) wH
def Mp{a:Act}{t:Nat}{v:Value}(h:t<a.tmps.size):(a.put (some t) v).eval (.tmp t)=v:=by
 simp[Act.put,Act.eval,Array.getD,h]
def HI{a:Act}{t wH:Nat}{v:Value}(h:t≠wH):(a.put (some t) v).eval (.tmp wH)=a.eval (.tmp wH):=by
 simp[Act.put,Act.eval,Array.getD_eq_getD_getElem?,Array.getElem?_setIfInBounds,h]
def KW{P:Program}{ops:lp}{Q:Exit→Act→World→Prop}{i:Nat}{l:ei}{a:Act}{w w':World}{o:Oper}{v:Value}(ar:ops[i]?=some o)(bQ:o.guard=none)(aC:(execOp a.eval o).run P w=.ok (.value v) w')
  (k:wpOps P ops Q l (a.put o.dst v) w'):wpOps P ops Q (i::l) a w:=by
 have aA:Region.wanted o (yielded ops a.tmps)=true:=by simp[Region.wanted,bQ]
 simp only[wpOps,ar,aA,if_true];exact .inl (mN.wp (Φ:=λeP iS=>eP=v∧iS=w') (by rw[aC];exact⟨rfl,rfl⟩) λeP iS h=>by obtain⟨rfl,rfl⟩:=h;exact k)
def RB{α:Type}{sz:Nat}:∀(xs:List (List α)) (n:Nat),(∀e∈xs,e.length=sz)→(xs.take n).flatten=xs.flatten.take (n*sz)
 |[],_,_=>by simp
 |x::r,0,_=>by simp
 |x::r,n+1,h=>by
  have u:=h x (by simp);rw[take_succ_cons,flatten_cons,flatten_cons,RB r n λe he=>h e (by simp[he]),Nat.add_mul,Nat.one_mul,Nat.add_comm (n*sz) sz,take_append,u];rw[take_of_length_le (l:=x) (by omega),Nat.add_sub_cancel_left]
def aat(z:jj):∀m,(Builtin.zeroCells z m).toList=(List.replicate m z.toList).flatten:=by
 intro m;apply List.ext_getElem?;intro j;induction m generalizing j with
 |zero=>simp[Builtin.zeroCells]
 |succ m bX=>
  rw[List.replicate_succ,flatten_cons];unfold Builtin.zeroCells at bX ⊢;simp only[Array.toList_map,List.getElem?_map,Array.toList_range]at bX ⊢;by_cases aY:j<z.size
  ·rw[List.getElem?_append_left (by simpa using aY),List.getElem?_range (by rw[Nat.add_mul];omega)];simp[Nat.mod_eq_of_lt aY,aY]
  ·rw[List.getElem?_append_right (by simpa using aY)];have:=bX (j-z.size);simp only[Array.length_toList];rw[←this];by_cases h6:j<(m+1)*z.size
   ·rw[List.getElem?_range h6,List.getElem?_range (by rw[Nat.add_mul]at h6;omega)];simp[←Nat.mod_eq_sub_mod (by omega:j≥z.size)]
   ·rw[List.getElem?_eq_none (by simp;omega),List.getElem?_eq_none (by simp;rw[Nat.add_mul]at h6;omega)]
def S8{I:bP}{zr:List W}{zs:fK}(h:cD I zr zs):∀m,cD I (List.replicate m zr).flatten (List.replicate m zs).flatten
 |0=>by simp[cD]
 |m+1=>by
  rw[List.replicate_succ,flatten_cons,List.replicate_succ,flatten_cons];exact(mC _ _ _).2 ⟨_,_,rfl,h,S8 h m⟩
def acK{α:Type}(m:Nat)(l:List α):(List.replicate m l).flatten.length=m*l.length:=by
 induction m with
 |zero=>simp
 |succ m bX=>rw[List.replicate_succ,flatten_cons,length_append,bX,Nat.add_mul];omega
def ah3{α:Type}(e:jD α)(l:List α)(n:Nat)(z:α):(aM e l).take n++List.replicate ((aM e l).length-n) (e.enc z)=aM e (l.take n++List.replicate (l.length-n) z):=by simp[aM,map_take]
def aks{α:Type}(e:jD α){l:List α}{i:Int}(h:0≤i∧i<(l.length:Int)):0≤i∧i<((aM e l).length:Int):=by rw[nB];exact h
def azW{G:c7}{Q:Exit→an→ag→Prop}{env:an}{σ:ag}{id T:Nat}(ts ze t1 t2 t3 E sz d:Nat){o0 hy fS pe:Oper}{xs:List (List W)}{i:Int}{z:Value}{zr:List W}
  (bA:o0.op=.move (.tmp ts)∧o0.dst=some t1∧o0.guard=none) (h1:hy.op=.move (.tmp ze)∧hy.dst=some t2∧hy.guard=none)
  (D:fS.op=.slice T (.tmp t1) (some (.tmp t2)) none none∧fS.dst=some t3∧fS.guard=none) (aj:pe.op=.call ⟨.builtin .clear,#[.tmp t3],#[T]⟩∧pe.dst=none∧pe.guard=none)
  (m3:t1<G.N∧t2<G.N∧t3<G.N) (di:t1≠t2∧t1≠t3∧t2≠t3∧t1≠ze) (aR:ji G.P T E sz) (hz:∀w,(zeroValue E).run G.P w=.ok z w) (jB:∀v∈z.cells.toList,v.oneCell'=true) (Qb:∀I,cD I zr z.cells.toList) (uV:z.cells.size=sz)
  (Z:env.get ts=.own d) (hi:env.get ze=.int .i64 i) (aa:σ.get d=some (.slice E sz xs 0 false)) (aoB:0≤i∧i<xs.length) (he:env.get t1=.ig∧env.get t2=.ig∧env.get t3=.ig)
  {bD:List (List W)} (tH:xs.take i.toNat++List.replicate (xs.length-i.toNat) zr=bD) (k:Q .normal env (σ.set d (.slice E sz bD 0 false))):aF G (.region id #[o0,hy,fS,pe] false) Q env σ:=by
 subst tH;refine axS λcx a w aC=>?_;obtain⟨I,β,aA,bU,kT,Az⟩:=aC;have e1:=bU ts;rw[Z]at e1;simp only[aD]at e1
 obtain⟨e1,Ym⟩:=e1;have e2:=bU ze;rw[hi]at e2;have e2:=jT e2
 have ar:=aA.dK d _ aa;simp only[br]at ar;rcases ar with q|⟨q,aG,_⟩|⟨b,aT,arr,ay,aG,a1,aW,bt,b1,cE,dA,ef,eY,gb⟩
 ·rw[e1,q]at Ym;cases Ym
 ·subst aG;simp at aoB;omega
 obtain⟨n,rfl⟩:∃n:Nat,i=(n:Int):=⟨i.toNat,by omega⟩;have be:n<xs.length:=by omega
 simp only[Int.toNat_natCast]at k ⊢;have e0:a.eval (.tmp ts)=.slice (some ⟨b,0,none⟩) xs.length aT:=by rw[←ay];exact e1
 have e2:a.eval (.tmp ze)=.int .i64 n:=e2;obtain⟨g6,tv⟩:∃g6,g6=a.put (some t1) (.slice (some ⟨b,0,none⟩) xs.length aT):=⟨_,rfl⟩;obtain⟨a2,uH⟩:∃a2,a2=g6.put (some t2) (.int .i64 n):=⟨_,rfl⟩;obtain⟨a3,Ft⟩:∃a3,a3=a2.put (some t3) (.slice (some ⟨b,n*sz,none⟩) (xs.length-n) (aT-n)):=⟨_,rfl⟩;have s1:g6.tmps.size=G.N:=by rw[tv,zb];exact kT
 have e8:a2.tmps.size=G.N:=by rw[uH,zb];exact s1
 have s3:a3.tmps.size=G.N:=by rw[Ft,zb];exact e8
 have g2:a2.eval (.tmp t1)=.slice (some ⟨b,0,none⟩) xs.length aT:=by rw[uH,HI (Ne.symm di.1),tv,Mp (by rw[kT];exact m3.1)]
 have iP:a2.eval (.tmp t2)=.int .i64 n:=by rw[uH,Mp (by rw[s1];exact m3.2.1)]
 have v3:a3.eval (.tmp t3)=.slice (some ⟨b,n*sz,none⟩) (xs.length-n) (aT-n):=by rw[Ft,Mp (by rw[e8];exact m3.2.2)]
 have oA:aT≠n:=by omega
 have hW:(execOp a2.eval fS).run G.P w=.ok (.value (.slice (some ⟨b,n*sz,none⟩) (xs.length-n) (aT-n))) w:=by
  have iS:(Instr.sliceBounds true xs.length aT (some (.int .i64 n)) none none).run G.P w=.ok (n,xs.length,aT) w:=by
   have:=run_sliceBound (P:=G.P) (k:=.i64) (n:=(n:Int)) (y:=xs.length) (code:=.sliceB) (w:=w) ⟨by omega,by omega⟩;simp[Instr.sliceBounds,this]
  have kZ:∀w,(underlying T).run G.P w=.ok (.slice E) w:=λw=>run_underlying aR.ia w;simp only[execOp,D.1,Instr.sliceAt,Instr.slice,g2,Option.map_some,iP,Sem.run_bind,kZ,Result.andThen_ok,iS,aR.size,Sem.run_pure,Option.map_none];rw[if_neg oA];simp only[Addr.add_lit,Option.map_some,Nat.zero_add]
 have WI:z.cells.toList.length=sz:=by rw[←uV,Array.length_toList]
 obtain⟨A,dZ⟩:∃A,A=(arr.toList.take (n*sz)++(Builtin.zeroCells z.cells (xs.length-n)).toList++arr.toList.drop (n*sz+(Builtin.zeroCells z.cells (xs.length-n)).toList.length)).toArray:=⟨_,rfl⟩;have OA:(Builtin.zeroCells z.cells (xs.length-n)).toList.length=(xs.length-n)*sz:=by rw[aat,acK,WI]
 have uP:n*sz+(xs.length-n)*sz=xs.length*sz:=by rw[←Nat.add_mul];congr 1;omega
 have tC:xs.length*sz≤aT*sz:=Nat.mul_le_mul_right _ aG;have qY:(execOp a3.eval pe).run G.P w=.ok (.value (.tuple #[])) (w.setRow b A):=by
  have:=abF (P:=G.P) w T E pe.type z aR.ia hz b (n*sz) (xs.length-n) (aT-n) arr E aW (by omega) (by rw[OA,bt];omega) (abQ jB _);rw[←dZ]at this;simp only[execOp,aj.1];have q:a3.tmps.getD t3 undef=_:=v3;simp[resolve,invoke,builtin,v3,this,Result.andThen]
 have xo:qX G cx env (σ.set d (.slice E sz (xs.take n++List.replicate (xs.length-n) zr) 0 false)) a3 (w.setRow b A):=by
  refine⟨I,β,?_,λt=>?_,s3,by rw[Ft,yM,uH,yM,tv,yM];exact Az⟩
  ·have Y:cV (β d)=some b:=by rw[ay];rfl
   refine aA.turn (d:=d) (hJ.setRow w b _) gb (λx u=>by rw[axu,if_neg u]) (λx u Z e=>aA.eN x d Z (by rw[aa];rfl) u b e (lF Y)) (dc.refl I) (λ_ _ _=>rfl)
    (λo v ai=>by rw[eY o (by omega)]at ai;cases ai) (aA.uZ aW) (λ_ _=>rfl) (.inr rfl) (h8.refl β) (.inl Y) λaZ c5=>?_
   rw[axu,if_pos rfl,aa]at c5;injection c5 with c5
   subst c5;have yz:(xs.take n++List.replicate (xs.length-n) zr).length=xs.length:=by simp;omega
   simp only[br,yz];have apC:zr.length=sz:=by rw[←WI];exact(oT _ _ (Qb I)).symm
   refine .inr (.inr ⟨b,aT,A,ay,aG,a1,setRow_heap w b arr A E _ aW,?_,?_,?_,Nat.zero_le _,(λh=>by cases h),eY,gb⟩)
   ·rw[dZ];simp only[size_toArray,length_append,length_take,length_drop,Array.length_toList,OA,bt];omega
   ·rw[List.flatten_append,RB xs n cE];have anr:A.toList.take (xs.length*sz)=(arr.toList.take (xs.length*sz)).take (n*sz)++(List.replicate (xs.length-n) z.cells.toList).flatten:=by
     rw[dZ,←aat,take_take,Nat.min_eq_left (by omega)];refine take_left' ?_;rw[length_append,length_take,OA,Array.length_toList,bt];omega
    rw[anr];refine(mC _ _ _).2 ⟨_,_,rfl,?_,S8 (Qb I) _⟩;have gy:xs.flatten=xs.flatten.take (n*sz)++xs.flatten.drop (n*sz):=(take_append_drop _ _).symm;rw[gy]at b1;obtain⟨b8,ws,kO,kY,vi⟩:=(mC _ _ _).1 b1;have asq:b8.length=n*sz:=by
     rw[oT _ _ kY,length_take,yK xs cE];exact Nat.min_eq_left (by omega)
    rw[kO,take_left' asq];exact kY
   ·intro e he;rcases List.mem_append.1 he with he|he
    ·exact cE e (mem_of_mem_take he)
    ·rw[(List.mem_replicate.1 he).2];exact apC
  ·by_cases aN:t=t1
   ·subst aN;rw[he.1];simp[aD]
   by_cases bw:t=t2
   ·subst bw;rw[he.2.1];simp[aD]
   by_cases cg:t=t3
   ·subst cg;rw[he.2.2];simp[aD]
   have:a3.eval (.tmp t)=a.eval (.tmp t):=by rw[Ft,HI (Ne.symm cg),uH,HI (Ne.symm bw),tv,HI (Ne.symm aN)]
   have b4:=bU t
   change aD I β (env.get t) (a.eval (.tmp t))at b4
   rw[←this]at b4;exact b4
 refine wp_region ?_;show wpOps G.P #[o0,hy,fS,pe] _ [0,1,2,3] a w;refine KW (o:=o0) (v:=.slice (some ⟨b,0,none⟩) xs.length aT) (w':=w) rfl bA.2.2 (by simp only[execOp,bA.1];simp[e0]) ?_;rw[bA.2.1,←tv];have v4:g6.eval (.tmp ze)=.int .i64 n:=by rw[tv,HI di.2.2.2];exact e2
 refine KW (o:=hy) (v:=.int .i64 n) (w':=w) rfl h1.2.2 (by simp only[execOp,h1.1];simp[v4]) ?_;rw[h1.2.1,←uH];refine KW (o:=fS) rfl D.2.2 hW ?_;rw[D.2.1,←Ft];refine KW (o:=pe) rfl aj.2.2 qY ?_;rw[aj.2.1];exact⟨env,_,xo,k⟩
end
section
variable {G:c7}{o:Oper}{ev:Operand→W}{σ:ag}
def Te{I:bP}:∀{xs:List W} {vs:fK} (n:Nat),cD I xs vs→cD I (xs.take n) (vs.take n)
 |[],vs,n,h=>by simp only[cD]at h;subst h;simp[cD]
 |x::r,vs,0,h=>by simp[cD]
 |x::r,vs,n+1,h=>by
  simp only[cD]at h;obtain⟨aq,b8,rfl,h1,D⟩:=h;simp only[take_succ_cons,cD];exact⟨aq,_,rfl,h1,Te n D⟩
def azR{T E sz bl d d2:Nat}{x y:Operand}{xs:List (List W)}{k:IntKind}{n:Int}(h:o.op=.slice T x none (some y) none)(u:ev x=.own d)(ak:ev y=.int k n)(aa:σ.get d=some (.slice bl sz xs 0 false))(aR:ji G.P T E sz)
  (be:0≤n∧n≤xs.length) (hi:G.ids.contains d2=false) (ah:(σ.minus [d]).clean [d2].contains=true) :
  hK G o ev σ [d,d2] [d2] (λr aL=>r=.own d2∧aL=(d2,.slice bl sz (xs.take n.toNat) 0 false)::σ.minus [d]):=by
 intro cx I β w bp aA hop;have fU:=hop x (by simp[h,Op.operands]);rw[u]at fU;simp only[aD]at fU;obtain⟨fU,fV⟩:=fU;have sD:=hop y (by simp[h,Op.operands]);rw[ak]at sD;have sD:=jT sD;have lM:cG G cx I β (σ.minus [d]) w:=aA.sub λx aZ u=>by rw[axz]at u;split at u<;>first|cases u|exact u
 have ar:=aA.dK d _ aa;simp only[br]at ar;have run:∀(a:Option Addr) (c:Nat),bp x=.slice a xs.length c→xs.length≤c→(execOp bp o).run G.P w=.ok (.value (.slice (if c=0 then a else a.map (·.add (0*sz))) n.toNat c)) w:=by
  intro a c h1 D;have e1:(Instr.sliceBounds true xs.length c none (some (.int k n)) none).run G.P w=.ok (0,n.toNat,c) w:=by
   have:=run_sliceBound (P:=G.P) (k:=k) (n:=n) (y:=c) (code:=.sliceAcap) (w:=w) ⟨be.1,by omega⟩;simp[Instr.sliceBounds,this]
  have e2:∀w,(underlying T).run G.P w=.ok (.slice E) w:=λw=>run_underlying aR.ia w;simp only[execOp,h,Instr.sliceAt,Instr.slice,h1,Sem.run_bind,e2,Result.andThen_ok,Option.map_some,Option.map_none,sD,e1,aR.size,Sem.run_pure,Nat.sub_zero]
 have fin:∀(eP:Value),(execOp bp o).run G.P w=.ok (.value eP) w→jX eP=true→(∀b∈e4 eP,b∈e4 (β d))→br cx I (iL β d2 eP) w d2 (.slice bl sz (xs.take n.toNat) 0 false)→
   mN G.P (λv w'=>∃(bZ:W) (aL:ag) (bm:bP) (β':Nat→Value),(bZ=.own d2∧aL=(d2,c4.slice bl sz (xs.take n.toNat) 0 false)::σ.minus [d])∧aD bm β' bZ v∧cG G cx bm β' aL w'∧dc I bm∧(∀x,x∉[d2]→β' x=β x)∧(∀x,x∉[d,d2]→aL.get x=σ.get x)) ((execOp bp o).run G.P w):=by
  intro eP gF j4 gw c5;rw[gF];refine⟨.own d2,_,I,iL β d2 eP,⟨rfl,rfl⟩,by simp only[aD,h0,j4,and_self],?_,dc.refl I,λx u=>iJ β eP (by simpa using u),λx u=>?_⟩
  ·have vE:∀x,[d2].contains x=false→iL β d2 eP x=β x:=λx u=>iJ β eP (by simpa using u);refine{lM with dK:=λx aZ u=>?_,eN:=λx y u ak di b=>?_,keep:=λx u=>?_}
   ·rw[axp]at u;split at u
    ·rename_i e;subst e;cases u;exact c5
    ·obtain⟨aN,bw⟩:=axC ah x aZ u;exact(lM.dK x aZ u).beta vE aN bw
   ·have wD:∀x,(ag.get ((d2,c4.slice bl sz (xs.take n.toNat) 0 false)::σ.minus [d]) x).isSome→x≠d2→(σ.get x).isSome∧x≠d:=λx u be=>by
     rw[axp,if_neg (Ne.symm be),axz]at u;split at u
     ·cases u
     ·rename_i hm;exact⟨u,by simpa using hm⟩
    by_cases eu:x=d2
    ·subst eu;have qD:y≠x:=λe=>di e.symm;obtain⟨s1,e8⟩:=wD y ak qD;rw[h0,iJ β eP qD];intro e1 e2;exact aA.eN y d s1 (by rw[aa];rfl) e8 b e2 (gw b e1)
    ·obtain⟨s1,e8⟩:=wD x u eu;rw[iJ β eP eu];by_cases qD:y=d2
     ·subst qD;rw[h0];intro e1 e2;exact aA.eN x d s1 (by rw[aa];rfl) e8 b e1 (gw b e2)
     ·obtain⟨t1,t2⟩:=wD y ak qD;rw[iJ β eP qD];exact aA.eN x y s1 t1 di b
   ·have:x≠d2:=λe=>by subst e;rw[←Bool.not_eq_true]at hi;exact hi (by simpa using u)
    rw[iJ β eP this];exact aA.keep x u
  ·have u:x≠d∧x≠d2:=by simpa using u
   rw[axp,if_neg (Ne.symm u.2),axz,if_neg (by simpa using u.1)]
 rcases ar with q|⟨q,rfl,_⟩|⟨b,aT,arr,ay,aG,a1,aW,bt,b1,cE,dA,ef,eY,gb⟩
 ·rw[q]at fU;rw[fU]at fV;simp[jX]at fV
 ·have AE:n=0:=by simp at be;omega
  subst AE;refine fin _ (run none 0 (by rw[fU,q];rfl) (by simp)) rfl (by simp[e4,cV]) ?_;simp only[br,h0];exact .inr (.inl ⟨by simp,by simp,trivial⟩)
 ·have yA:n.toNat≤xs.length:=by omega
  refine fin _ (run _ aT (by rw[fU,ay]) aG) rfl ?_ ?_
  ·intro aX h5;rw[ay];split at h5
   ·exact h5
   ·simp only[Option.map_some,lG]at h5;exact h5
  ·simp only[br,h0];have eH:(xs.take n.toNat).length=n.toNat:=by simp;omega
   refine .inr (.inr ⟨b,aT,arr,?_,by rw[eH];omega,a1,aW,bt,?_,λe he=>cE e (mem_of_mem_take he),Nat.zero_le _,λh=>by simp at h,eY,gb⟩)
   ·rw[eH];split<;>simp[lG]
   ·rw[eH,RB _ _ cE];have:=Te (n.toNat*sz) b1
    rwa [take_take,Nat.min_eq_left (Nat.mul_le_mul_right _ yA)]at this
end
section
variable {P:Program}
def Ab(bb d2 sz:Nat)(zs:List (List W))(ids:ei)(op:Op)(env:an)(σ:ag):Option (c9×cW):=match op with
 |.slice T x none (some y) none=>(match env.dg x with
  |some (.own d)=>(match env.dg y with
   |some (.int k n)=>(match σ.get d with
    |some (.slice bl jh xs 0 false)=>bif Nat.beq T bb&&Nat.beq jh sz&&!ids.contains d2&&(σ.minus [d]).clean [d2].contains then some (.e [d,d2] [d2] (.own d2) ((d2,.slice bl jh zs 0 false)::σ.minus [d]),([.bf false xs,.int .i64 n],[]))else none
    |_=>none)
   |_=>none)
  |_=>none)
 |_=>none
def ah5{bb E d2 sz:Nat}{xs zs:List (List W)}{n:Int}(aR:ji P bb E sz)(cv:s5 sz xs 0 n zs){o:Oper}{N:Nat}{ids:ei}{env:an}{σ:ag}{s:c9}{aZ:cW}
  (h:Ab bb d2 sz zs ids o.op env σ=some (s,aZ)) (he:aZ=([.bf false xs,.int .i64 n],[])):gh ⟨P,N,ids⟩ o env σ s:=by
 cases ar:o.op<;>rw[ar]at h
 case slice T x lo hi pZ=>
  cases lo with
  |some m=>simp only[Ab]at h;cases h
  |none=>
  cases hi with
  |none=>simp only[Ab]at h;cases h
  |some y=>
  cases pZ with
  |some m=>simp only[Ab]at h;cases h
  |none=>
   simp only[Ab]at h;split at h
   ·rename_i d u;split at h
    ·rename_i k oK ak;split at h
     ·rename_i bl jh km aa;generalize Y:(Nat.beq T bb&&_&&_&&_)=fc at h;cases fc with
      |false=>cases h
      |true=>
       simp only[cond_true]at h;simp only[Bool.and_eq_true,Bool.not_eq_true']at Y;obtain⟨⟨⟨dI,ek⟩,hR⟩,j8⟩:=Y;have:=Nat.eq_of_beq_eq_true dI;subst this;have:=Nat.eq_of_beq_eq_true ek;subst this;cases h;simp only[Prod.mk.injEq,List.cons.injEq,W.bf.injEq,W.int.injEq,and_true,true_and]at he;obtain⟨rfl,rfl⟩:=he;obtain⟨cM,dY,fJ⟩:=cv;refine⟨?_,by simpa using hR⟩;have hl:=azR (G:=⟨P,N,ids⟩) (d2:=d2) ar (axo u) (axo ak) aa aR ⟨by omega,dY.2.2⟩ hR j8;rw[←fJ];simpa using hl
     ·cases h
    ·cases h
   ·cases h
 all_goals (simp only[Ab]at h;cases h)
def an7{bb E sz:Nat}(d2:Nat){xs zs:List (List W)}{n:Int}(aR:ji P bb E sz)(cv:s5 sz xs 0 n zs):Hint P:=
 .gs true ([.bf false xs,.int .i64 n],[]) (λids=>Ab bb d2 sz zs ids) λ_ _ _ _ _ _ _ h he=>ah5 aR cv h he
def Yields.h9{G:c7}{o:Oper}{ev:Operand→W}{σ:ag}{ew R:ei}{f:Nat}{l:List W}(h:Yields G o ev σ ew R (.fn f l))(ah:mE l=true):Yields G o ev σ ew R (.h9 f l):=λaL cx I β w bp cz aA hm hop=>by
 have:=h aL cx I β w bp cz aA hm hop;generalize (execOp bp o).run G.P w=r at this
 have key:∀v w',(∃bm β',aD bm β' (.fn f l) v∧cG G cx bm β' aL w'∧dc I bm∧(∀d,d∉ew→β' d=β d))→∃bm β',aD bm β' (.h9 f l) v∧cG G cx bm β' aL w'∧dc I bm∧(∀d,d∉ew→β' d=β d):=λv w' ⟨bm,β',h1,D⟩=>by
  simp only[aD]at h1;obtain⟨vs,rfl,aj⟩:=h1;exact⟨bm,β',by simp only[aD,bk];exact⟨vs,rfl,Rz ah aj⟩,D⟩
 cases r with
 |halt x w'=>exact this.elim
 |ok n w'=>cases n with
  |value v=>exact key _ _ this
  |skip=>exact key _ _ this
  |enter f args=>exact Calls.mono this λe vo ⟨v,h1,D⟩=>⟨v,h1,key _ _ D⟩
  |_=>exact this.elim
def OR(op:Op)(env:an):Option (c9×cW):=match op with
 |.makeFunc (.func f) first aT=>match first.toList with
  |[]=>(match env.qj aT.toList with
   |some l=>bif mE l then some (.y [] (.h9 f l),([],[]))else none
   |_=>none)
  |_=>none
 |_=>none
def ah6{o:Oper}{N:Nat}{ids:ei}{env:an}{σ:ag}{s:c9}{aZ:cW}(h:OR o.op env=some (s,aZ)):gh ⟨P,N,ids⟩ o env σ s:=by
 unfold OR at h;split at h
 ·rename_i f first aT ar;split at h
  ·rename_i bc;split at h
   ·rename_i l aP;cases ah:mE l with
    |false=>rw[ah]at h;cases h
    |true=>
     rw[ah]at h;cases h
     have e1:first=#[]:=by simpa using congrArg toArray bc
     subst e1;exact Yields.h9 (bM.makeFunc ar aP) ah
   ·cases h
  ·cases h
 ·cases h
def YF:Hint P:=.gs false ([],[]) (λ_ op env _=>OR op env) λ_ _ _ _ _ _ _ h _=>ah6 h
end
end
section
section
variable {G:c7}{σ:ag}{o:Oper}{ev:Operand→W}
def UN{cx:gj}{I:bP}{β:Nat→Value}{w:World}(aA:cG G cx I β σ w){d T t:Nat}{xs:List (List W)}(aa:σ.get d=some (.ic T xs t))(be:β d≠.nilFunc):
  ∃b aT arr,β d=.slice (some ⟨b,0,none⟩) (xs.length+1) aT∧xs.length+1≤aT∧aT≤maxLen∧w.heap[b]?=some (.cells arr T (0,0))∧arr.size=aT∧
    cD I xs.flatten (arr.toList.take xs.length)∧(∀e∈xs,e.length=1)∧arr[xs.length]?=some (β t)∧β t≠.nilFunc∧(∀o:Nat,I b o=none)∧Place cx b:=by
 have ar:=aA.dK d _ aa;simp only[br,be,false_or]at ar;exact ar
def ay5{T E d bb t:Nat}{xs:List (List W)}{x y:Operand}{k:IntKind}{i:Int}(h:o.op=.indexAddr T x y)(u:ev x=.own d)(ak:ev y=.int k i)(aa:σ.get d=some (.ic bb xs t))(aR:ji G.P T E 1)
  (hi:0≤i∧i<(xs.length:Int)+1):Yields G o ev σ [] [d] (.ptr d i.toNat):=
 .pure λaL cx I β w bp cz aA hop=>by
  have h1:=hop x (by simp[h,Op.operands]);rw[u]at h1
  have D:=hop y (by simp[h,Op.operands]);rw[ak]at D;have D:=jT D
  simp only[aD]at h1;obtain⟨h1,Z⟩:=h1;have k6:β d≠.nilFunc:=λe=>by rw[h1,e]at Z;simp[jX]at Z
  obtain⟨b,aT,arr,ay,aG,a1,aW,_⟩:=UN aA (by rw[cz d (by simp)];exact aa) k6;refine⟨.pointer (some ⟨b,i.toNat,none⟩),?_,by simp only[aD];exact⟨b,by rw[ay];rfl,rfl⟩⟩;have e1:∀w,(underlying T).run G.P w=.ok (.slice E) w:=λw=>by simp[underlying,program,Sem.run,aR.ia]
  rw[ay]at h1;have vH:0≤i∧i<(xs.length:Int)+1:=hi;have aoz:¬((xs.length:Int)+1≤i):=by omega
  simp[aoz,execOp,h,h1,D,Instr.indexAt,asIntOf,e1,vH,aR.size,lG]
def TZ{cx:gj}{I:bP}{β:Nat→Value}{w:World}(aA:cG G cx I β σ w){d T t p:Nat}{xs:List (List W)}(aa:σ.get d=some (.ic T xs t)){v:Value}(h1:aD I β (.ptr d p) v):
  ∃b arr,v=.pointer (some ⟨b,p,none⟩)∧w.heap[b]?=some (.cells arr T (0,0))∧cD I xs.flatten (arr.toList.take xs.length)∧(∀e∈xs,e.length=1)∧arr[xs.length]?=some (β t)∧β t≠.nilFunc∧xs.length+1≤arr.size:=by
 simp only[aD]at h1;obtain⟨b,h1,D⟩:=h1;have k6:β d≠.nilFunc:=λe=>by rw[e]at h1;cases h1
 obtain⟨aX,aT,arr,ay,aG,a1,aW,bt,b1,cE,dA,ef,eY,gb⟩:=UN aA aa k6;have qx:aX=b:=by rw[ay]at h1;simpa [cV]using h1
 subst qx;exact⟨aX,arr,D,aW,b1,cE,dA,ef,by omega⟩
def c4.IS:c4→Bool
 |.map ..=>true
 |.ij ..=>true
 |_=>false
def ay6{T d p bb t:Nat}{xs:List (List W)}{x:Operand}{ql:c4}(h:o.op=.load T x)(u:ev x=.ptr d p)(aa:σ.get d=some (.ic bb xs t))(aK:p=xs.length)(bU:σ.get t=some ql)(hm:ql.IS=true)(aR:dS G.P T 1 false):
  Yields G o ev σ [] [d,t] (.ep t):=
 .pure λaL cx I β w bp cz aA hop=>by
  have h1:=hop x (by simp[h,Op.operands]);rw[u]at h1
  obtain⟨b,arr,D,aW,b1,cE,dA,ef,eY⟩:=TZ aA (by rw[cz d (by simp)];exact aa) h1
  have m5:∀j,j<1→∃v,[β t][j]?=some v∧w.cell? ⟨b,p+j,none⟩=some v:=λj aY=>by
   have:j=0:=by omega
   subst this;exact⟨β t,rfl,by subst aK;simp[World.cell?,aW,dA]⟩
  have aP:=wW aR (vs:=[β t]) m5 (λ_=>by omega);refine⟨β t,by simp[execOp,h,D,Instr.loadAt,Instr.sureAddr,aP],?_⟩;simp only[aD,true_and];have ar:=aA.dK t ql (by rw[cz t (by simp)];exact bU);cases ql<;>simp only[c4.IS,reduceCtorEq]at hm
  ·simp only[br,ef,false_or]at ar;obtain⟨r,_,_,e,_⟩:=ar;rw[e];rfl
  ·simp only[br,ef,false_or]at ar;obtain⟨r,e,_⟩:=ar;rw[e];rfl
def T0:∀{xs:List (List W)} {p:Nat} {a:W},(∀e∈xs,e.length=1)→xs[p]?=some [a]→xs.flatten[p]?=some a
 |[],_,_,_,h=>by simp at h
 |e::r,p,a,aP,h=>by
  obtain⟨c,rfl⟩:∃c,e=[c]:=length_eq_one_iff.1 (aP e (by simp));cases p with
  |zero=>simp at h;subst h;rfl
  |succ p=>simp only[flatten_cons,singleton_append,getElem?_cons_succ]at h ⊢;exact T0 (λe he=>aP e (by simp[he])) h
def ay7{T d p bb t:Nat}{xs:List (List W)}{x:Operand}{a:W}(h:o.op=.load T x)(u:ev x=.ptr d p)(aa:σ.get d=some (.ic bb xs t))(aK:xs[p]?=some [a])(aR:dS G.P T 1 false):
  Yields G o ev σ [] [d] a:=
 .pure λaL cx I β w bp cz aA hop=>by
  have h1:=hop x (by simp[h,Op.operands]);rw[u]at h1
  obtain⟨b,arr,D,aW,b1,cE,dA,ef,eY⟩:=TZ aA (by rw[cz d (by simp)];exact aa) h1;obtain⟨v,cZ,c8⟩:=Ln (β:=β) (cD.rep β _ _ b1) (T0 cE aK);have k7:p<xs.length:=(List.getElem?_eq_some_iff.1 aK).1;have h3:arr[p]?=some v:=by
   rw[getElem?_take,if_pos k7]at cZ;simpa using cZ
  have m5:∀j,j<1→∃eP,[v][j]?=some eP∧w.cell? ⟨b,p+j,none⟩=some eP:=λj aY=>by
   have:j=0:=by omega
   subst this;exact⟨v,rfl,by simp[World.cell?,aW,h3]⟩
  have aP:=wW aR (vs:=[v]) m5 (λ_=>by omega);exact⟨v,by simp[execOp,h,D,Instr.loadAt,Instr.sureAddr,aP],c8⟩
def azM{s x:Operand}{T E bytes d d2 oU t bl HU:Nat}{dO:Bool}{xs:List (List W)}(h:o.op=.call ⟨.builtin .append,#[s,x],#[T,T]⟩)(Z:ev s=.own d)(aa:σ.get d=some (.slice bl 1 xs 0 dO))(u:ev x=.fH (.Ck 1) oU)(gW:σ.get oU=some (.cells HU [.ep t]))(aR:jy G.P T E 1 bytes)(iV:bl=E)
  (Y:(xs.length+1)*bytes≤140737488355328) (qw:xs.length+1≤maxLen) (hi:G.ids.contains d2=false)
  (ah:(σ.minus [d]).clean [d2].contains=true) (m6:oU≠d) (PZ:t≠d) :
  hK G o ev σ [d,d2] [d2] (λr aL=>r=.own d2∧aL=(d2,.ic bl xs t)::σ.minus [d]):=by
 subst iV;intro cx I β w bp aA hop;have fU:=hop s (by simp[h,Op.operands,Call.operands]);rw[Z]at fU;simp only[aD]at fU;obtain⟨fU,fV⟩:=fU;have bF:=hop x (by simp[h,Op.operands,Call.operands]);rw[u]at bF;simp only[aD]at bF;obtain⟨z2,k8,bF⟩:=bF;have bF:bp x=.slice (some ⟨z2,0,none⟩) 1 1:=bF;obtain⟨i,z,iY,jB,jI,pN,xd⟩:=aR.info;have aoc:(σ.minus [d]).get oU=some (.cells HU [.ep t]):=by rw[axz,if_neg (by simpa using m6)];exact gW
 have WJ:t≠d2:=λe=>by
  have:=(axC ah oU _ aoc).2;simp[pE,pU,W.refs,e]at this
 have rB:w.cell? ⟨z2,0,none⟩=some (β t)∧nN (β t)=true:=by
  have YG:β oU≠.nilFunc:=λe=>by rw[e]at k8;cases k8
  have ar:=aA.dK oU _ gW;simp only[br,YG,false_or]at ar;obtain⟨b,arr,ay,aG,a1,_⟩:=ar;have:b=z2:=by rw[ay]at k8;simpa [cV]using k8
  subst this;simp only[cw,aD]at a1;obtain⟨aq,b8,e1,⟨e2,bT⟩,fG⟩:=a1;subst fG;have:arr[0]?=some aq:=by
   have:arr.toList[0]?=some aq:=by rw[e1];rfl
   simpa using this
  rw[e2]at this bT;exact⟨by simp[World.cell?,aG,this],bT⟩
 have uT:β t≠.nilFunc:=λe=>by rw[e]at rB;simp[nN]at rB
 have qB:∀v∈[β t],v.oneCell'=true:=λv ai=>by
  rw[List.mem_singleton.1 ai];have:=rB.2;cases Pm:β t<;>rw[Pm]at this<;>simp[nN]at this<;>rfl
 have lZ:xs.length+1≤9223372036854775807:=by simp only[maxLen]at qw;omega
 have lM:cG G cx I β (σ.minus [d]) w:=aA.sub λx aZ u=>by rw[axz]at u;split at u<;>first|cases u|exact u
 have ng:=lM.rY (ew:=[d2]) (σ2:=(d2,.ic bl xs t)::σ.minus [d]) (env:=[]) ⟨λx u=>by rw[axp,if_neg (λe=>u (by simp[e]))],λx u=>by simp at u;subst u;simpa using hi,rfl,ah,λx u gV n h=>by simp at u;subst u;rw[axp,if_pos rfl]at h;cases h⟩;have hj:∀x,x≠d2→hL β [d2] x=β x:=λx u=>by simp[hL,u]
 have fin:∀(eP:Value) (w':World) (b:Nat),(execOp bp o).run G.P w=.ok (.value eP) w'→jX eP=true→hJ w w' b→Place cx b→(∀x,((σ.minus [d]).get x).isSome→b∉e4 (β x))→
   (∀(o:Nat) v,I b o=some v→w'.cell? ⟨b,o,none⟩=some v)→I b none=none→(cV eP=some b∨e4 eP=[])→br cx I (iL β d2 eP) w' d2 (.ic bl xs t)→
   mN G.P (λv w'=>∃(bZ:W) (aL:ag) (bm:bP) (β':Nat→Value),(bZ=.own d2∧aL=(d2,c4.ic bl xs t)::σ.minus [d])∧aD bm β' bZ v∧cG G cx bm β' aL w'∧dc I bm∧(∀x,x∉[d2]→β' x=β x)∧(∀x,x∉[d,d2]→aL.get x=σ.get x)) ((execOp bp o).run G.P w):=by
  intro eP w' b gF j4 hk aK pJ BI AG gw c5;rw[gF];refine⟨.own d2,_,I,iL β d2 eP,⟨rfl,rfl⟩,by simp only[aD,h0,j4,and_self],?_,dc.refl I,λx u=>iJ β eP (by simpa using u),λx u=>?_⟩
  ·refine ng.turn (d:=d2) hk aK (λ_ _=>rfl) (λx u lZ e=>?_) (dc.refl I) (λ_ _ _=>rfl) BI AG (λx u=>by rw[iJ β eP u,hj x u]) (.inl (by simpa using hi)) (λx=>?_) (by rw[h0];exact gw) (λaZ oG=>?_)
   ·rw[axp,if_neg (Ne.symm u)]at lZ;rw[hj x u]at e;exact pJ x lZ e
   ·by_cases u:x=d2
    ·left;simp[hL,u]
    ·right;rw[iJ β eP u,hj x u]
   ·rw[axp,if_pos rfl]at oG;injection oG with oG
    subst oG;exact c5
  ·have u:x≠d∧x≠d2:=by simpa using u
   rw[axp,if_neg (Ne.symm u.2),axz,if_neg (by simpa using u.1)]
 have rU:∀b,cV (β d)=some b→∀x,((σ.minus [d]).get x).isSome→b∉e4 (β x):=λb gw x u e=>by
  rw[axz]at u;split at u
  ·cases u
  ·rename_i o1;exact aA.eN x d u (by rw[aa];rfl) (by simpa using o1) b e (lF gw)
 have fresh:∀x,((σ.minus [d]).get x).isSome→w.heap.size∉e4 (β x):=λx u e=>by
  obtain⟨aZ,u⟩:=Option.isSome_iff_exists.1 u;exact absurd (lM.tN u e) (by omega)
 have yh:I w.heap.size none=none:=aA.jS (Nat.le_refl _) none;have zj:∀(w':World) (o:Nat) v,I w.heap.size o=some v→w'.cell? ⟨w.heap.size,o,none⟩=some v:=λw' o v ai=>by rw[aA.jS (Nat.le_refl _)]at ai;cases ai
 have tO:∀nt,nt<xs.length+1→xs.length+1≤grownCap w (xs.length+1) nt bl∧grownCap w (xs.length+1) nt bl≤maxLen:=λnt _=>⟨grownCap_ge _ _ _ _,grownCap_le_maxLen _ _ _ _ qw⟩
 have lU:∀j aq,[β t][j]?=some aq→w.cell? ((⟨z2,0,none⟩:Addr).add j)=some aq:=λj aq cF=>by
  cases j with
  |zero=>simp at cF;subst cF;rw[lG];exact rB.1
  |succ j=>simp at cF
 have wo:∀(iF:fK) (aT:Nat),cD I xs.flatten iF→iF.length=xs.length→(∀e∈xs,e.length=1)→xs.length+1≤aT→aT≤maxLen→
   br cx I (iL β d2 (.slice (some ⟨w.heap.size,0,none⟩) (xs.length+1) aT)) (w.drew.alloc (.cells (iF.toArray++[β t].toArray++Builtin.zeroCells z.cells (aT-(xs.length+1))) bl)) d2 (.ic bl xs t):=by
  intro iF aT rE lY FI qy n2;simp only[br,h0,iJ β _ WJ];refine .inr ⟨w.heap.size,aT,_,rfl,qy,n2,heap_alloc_new w.drew _,?_,?_,FI,?_,uT,λo=>aA.jS (Nat.le_refl _) o,.inl aA.size⟩
  ·simp only[Array.size_append,size_toArray,size_zeroCells,xd,lY,length_cons,length_nil,Nat.mul_one];omega
  ·have:(iF.toArray++[β t].toArray++Builtin.zeroCells z.cells (aT-(xs.length+1))).toList.take xs.length=iF:=by
    simp only[Array.toList_append,List.append_assoc];rw[←lY];exact take_left
   rw[this];exact rE
  ·have:(iF.toArray++[β t].toArray++Builtin.zeroCells z.cells (aT-(xs.length+1))).toList[xs.length]?=some (β t):=by
    simp only[Array.toList_append,List.append_assoc];rw[List.getElem?_append_right (by simp[lY])];simp[lY]
   rw[←Array.getElem?_toList];exact this
 have nq:∀aZ,hJ w (w.drew.alloc aZ) w.heap.size:=λaZ=>(hJ.alloc w.drew aZ).drew;have ar:=aA.dK d _ aa;simp only[br,Nat.mul_one]at ar;rcases ar with q|⟨q,rfl,-⟩|⟨b,aT,arr,ay,aG,a1,aW,bt,b1,cE,dA,ef,eY,gb⟩
 ·rw[q]at fU;rw[fU]at fV;simp[jX]at fV
 ·have aC:=run_append_nil (P:=G.P) w T o.type bl i z aR.ia iY jB ⟨z2,0,none⟩ 1 1 [β t] (by rw[jI];rfl) lU (by omega) (by omega) (by simp at Y;rw[pN];omega);obtain⟨cZ,c8⟩:=tO 0 (by simp);simp only[length_nil,Nat.zero_add]at cZ c8;refine fin _ _ w.heap.size (oS h (by rw[fU,bF,q];exact aC)) rfl (nq _) (.inl aA.size) fresh (zj _) yh (.inl rfl) ?_;have:=wo [] (grownCap w 1 0 bl) rfl (by simp) (by simp) (by simpa using cZ) c8;simpa using this
 ·have gw:cV (β d)=some b:=by rw[ay];rfl
  have cq:=hZ aW;have uI:arr.toList.length=aT:=by simpa using bt
  have mJ:xs.length≤arr.toList.length:=by omega
  have FE:∀o:Nat,I b o=none:=λo=>eY o (by omega);by_cases rG:xs.length+1≤aT
  ·have aC:=run_append_room (P:=G.P) w T o.type bl i aR.ia iY b xs.length aT arr aW ⟨z2,0,none⟩ 1 1 [β t] (by rw[jI];rfl) lU qB rG (by rw[jI,Nat.mul_one,bt];exact rG);rw[jI,Nat.mul_one]at aC;refine fin _ _ b (oS h (by rw[fU,bF,ay];exact aC)) rfl (hJ.setRow w b _) gb (rU b gw) (λo v ai=>by rw[FE o]at ai;cases ai) (aA.uZ aW) (.inl rfl) ?_;have ct:=setRow_heap w b arr (arr.toList.take xs.length++[β t]++arr.toList.drop (xs.length+[β t].length)).toArray bl (0,0) aW;simp only[br,h0,iJ β _ WJ];refine .inr ⟨b,aT,_,rfl,rG,a1,ct,?_,?_,cE,?_,uT,FE,gb⟩
   ·simp;omega
   ·have:(arr.toList.take xs.length++[β t]++arr.toList.drop (xs.length+[β t].length)).take xs.length=arr.toList.take xs.length:=by
     rw[List.append_assoc,take_append_of_le_length (by rw[length_take];omega),take_take,Nat.min_self]
    simp only at this ⊢;rw[this];exact b1
   ·have:(arr.toList.take xs.length++[β t]++arr.toList.drop (xs.length+[β t].length))[xs.length]?=some (β t):=by
     rw[List.append_assoc,List.getElem?_append_right (by rw[length_take];omega)];rw[length_take,Nat.min_eq_left mJ,Nat.sub_self];rfl
    rw[←Array.getElem?_toList];exact this
  ·have rF:(arr.toList.take xs.length).length=xs.length:=by rw[length_take,Nat.min_eq_left mJ]
   have holds:∀j v,(arr.toList.take xs.length)[j]?=some v→w.cell? ((⟨b,0,none⟩:Addr).add j)=some v:=λj v ai=>by
    rw[lG];rw[getElem?_take]at ai;split at ai
    ·simp only[World.cell?,aW,Nat.zero_add];simpa using ai
    ·cases ai
   have aC:=run_append_grow (P:=G.P) w T o.type bl i z aR.ia iY jB ⟨b,0,none⟩ xs.length aT _ (by rw[jI,Nat.mul_one];exact rF) holds ⟨z2,0,none⟩ 1 1 [β t] (by rw[jI];rfl) lU (by omega) (by omega) (growslice_fits (by omega) (by rw[pN];exact Y));obtain⟨cZ,c8⟩:=tO aT (by omega);exact fin _ _ w.heap.size (oS h (by rw[fU,bF,ay];exact aC)) rfl (nq _) (.inl aA.size) fresh (zj _) yh (.inl rfl) (wo _ _ b1 rF cE cZ c8)
end
end
section
def ayH{G:c7}{env:an}{σ:ag}(d t:Nat){T K E:Nat}{xs:List (List W)}{bO:List (W×W)}(aa:σ.get d=some (.ic T xs t))(bU:σ.get t=some (.mO K E bO)):
  dr G env σ env (σ.set d (.slice T 1 (xs++[[.ec bO]]) 0 false)):=λcx I β a w h dw=>by
 refine⟨I,β,Lh aa h ?_,dw⟩;have ar:=h.dK d _ aa;have hm:=h.dK t _ bU;simp only[br]at ar hm ⊢;rcases ar with q|⟨b,aT,arr,ay,aG,a1,aW,bt,b1,cE,dA,ef,eY,gb⟩
 ·exact .inl q
 ·obtain⟨r,es,clock,cM,dY,fJ,iy,nu⟩:=hm.resolve_left ef;refine .inr (.inr ⟨b,aT,arr,by rw[ay];simp,by simpa using aG,a1,aW,by omega,?_,λe he=>?_,by simp,by simp,λo _=>eY o,gb⟩)
  ·have cq:xs.length<arr.toList.length:=by simpa using (Array.getElem?_eq_some_iff.1 dA).1
   have e1:arr.toList[xs.length]?=some (β t):=by simpa using dA
   have e2:arr.toList.take ((xs++[[W.ec bO]]).length*1)=arr.toList.take xs.length++[β t]:=by
    rw[length_append,length_singleton,Nat.mul_one,take_add_one,e1];rfl
   rw[e2,List.flatten_append];refine(mC _ _ _).2 ⟨_,_,rfl,b1,?_⟩;simp only[flatten_cons,flatten_nil,append_nil,cD,bk];exact⟨β t,[],rfl,⟨r,es,clock,cM,dY,fJ,nu⟩,rfl⟩
  ·rcases List.mem_append.1 he with he|he
   ·exact cE e he
   ·rw[List.mem_singleton.1 he];rfl
def nT(k:IntKind)(n:Int)(es:gx)(clock:Nat):Nat:=match Instr.findNow (.int k) (.int k n) es.toList 0 with
 |some (some (j,_))=>((es[j]?).map (·.born)).getD 0
 |_=>clock
def kW(k:IntKind)(n:Int)(z:Value)(es:gx)(clock:Nat):gx:=match Instr.findNow (.int k) (.int k n) es.toList 0 with
 |some (some _)=>es
 |_=>es.push ⟨.int k n,z,clock⟩
def sV(k:IntKind)(n:Int)(es:gx)(clock:Nat):Nat:=match Instr.findNow (.int k) (.int k n) es.toList 0 with
 |some (some _)=>clock
 |_=>clock+1
def aau(kd:TypeDesc)(key:Value)(B:oe):∀(A:oe) (i:Nat),Instr.findNow kd key A i=some none→Instr.findNow kd key (A++B) i=Instr.findNow kd key B (i+A.length)
 |[],i,_=>rfl
 |e::A,i,h=>by
  simp only[Instr.findNow,cons_append]at h ⊢;cases Z:Instr.sameNow kd key e.key with
  |none=>rw[Z]at h;cases h
  |some b=>
   cases b with
   |true=>rw[Z]at h;cases h
   |false=>
    rw[Z]at h;simp only at h ⊢;rw[aau kd key B A (i+1) h,length_cons];congr 1;omega
def ab4{α:Type}{l:Array α}{j:Nat}{f:α→α}(h:∀e,l[j]?=some e→f e=e):l.modify j f=l:=by
 apply Array.ext_getElem?;intro i;rw[Array.getElem?_modify];split
 ·rename_i aY;subst aY;cases he:l[j]? with
  |none=>rfl
  |some e=>simp[h e he]
 ·rfl
def GY{α:Type}(n:Int)(v:α):∀l:List (Int×α),cH (eG l n v) n=some v
 |[]=>by simp[eG,cH]
 |p::r=>by
  unfold eG;split
  ·simp[cH]
  ·rename_i aK;have:=GY n v r;unfold cH at this ⊢;rw[find?_cons_of_neg (by simpa using aK)];exact this
def S9{α:Type}{n:Int}:∀{l:List (Int×α)} {v:α},cH l n=some v→eG l n v=l
 |[],_,h=>by simp[cH]at h
 |p::r,v,h=>by
  unfold eG;unfold cH at h;split
  ·rename_i aK;rw[find?_cons_of_pos (by simpa using aK)]at h;simp at h;obtain⟨cM,dY⟩:=p;simp only at aK h;rw[aK,h]
  ·rename_i aK;rw[find?_cons_of_neg (by simpa using aK)]at h;rw[S9 (l:=r) h]
def RW{α:Type}(n:Int)(aq v:α):∀l:List (Int×α),eG (eG l n aq) n v=eG l n v
 |[]=>by simp[eG]
 |p::r=>by
  by_cases aK:p.1=n
  ·simp[eG,aK]
  ·simp[eG,aK,RW n aq v r]
section
variable {G:c7}{σ:ag}{o:Oper}{ev:Operand→W}
def azF{α:Type}{T K E d clock:Nat}{k:IntKind}{x y:Operand}{n:Int}{es:gx}{z:Value}(l:List (Int×α))(enc:α→W)(sb:α)(h:o.op=.mapEntry T x y)(u:ev x=.ep d)(ak:ev y=.int k n)
  (aa:σ.get d=some (.ij es clock K E (fh k enc l))) (aR:r2 G.P T K E k) (hz:∀w,(zeroValue E).run G.P w=.ok z w) (FT:∀I,bk I (enc sb) z) :
  hK G o ev σ [d] [] (λr aL=>r=.dm [.ig,.int .i64 (nT k n es clock:Int)]∧aL=σ.set d (.ij (kW k n z es clock) (sV k n es clock) K E (fh k enc (eG l n ((cH l n).getD sb))))):=by
 intro cx I β w bp aA hop;have h1:=hop x (by simp[h,Op.operands]);rw[u]at h1
 have D:=hop y (by simp[h,Op.operands]);rw[ak]at D;have D:=jT D
 simp only[aD]at h1;obtain⟨h1,Fg⟩:=h1;have k6:β d≠.nilFunc:=λe=>by rw[h1,e]at Fg;simp[nN]at Fg
 have ar:=aA.dK d _ aa;simp only[br,k6,false_or]at ar;obtain⟨r,ay,aG,a1,aW,bt,b1⟩:=ar;have e1:∀w,(underlying T).run G.P w=.ok (.map K E) w:=λw=>by simp[underlying,program,Sem.run,aR.ia]
 have e2:∀w,(underlying K).run G.P w=.ok (.int k) w:=λw=>by simp[underlying,program,Sem.run,aR.key]
 have bT:=q8 (P:=G.P) aG;have fG:=Q7 (P:=G.P) aR.key false n w
 have hj:∀aZ:Obj,(setObj r aZ).run G.P w=.ok () {w with heap:=w.heap.setIfInBounds r aZ}:=λaZ=>by
  have:=hZ aG;simp[setObj,Sem.run,aG]
 have i5:bp x=.map (some r):=by rw[h1,ay]
 have xo:∃v,(execOp bp o).run G.P w=.ok (.value (.tuple #[v,.int .i64 (nT k n es clock:Int)])) {w with heap:=w.heap.setIfInBounds r (.map (kW k n z es clock) (sV k n es clock))}∧gm I (fh k enc (eG l n ((cH l n).getD sb))) (kW k n z es clock).toList∧k9 (kW k n z es clock) (sV k n es clock):=by
  cases bQ:cH l n with
  |none=>
   obtain⟨cM,dY⟩:=Ku n l es.toList 0 a1 bQ;have gy:(Instr.findKey K (.int k n) es.toList).run G.P w=.ok none w:=by simp[Instr.findKey,e2,cM]
   have dI:nT k n es clock=clock:=by unfold nT;rw[cM]
   have ek:kW k n z es clock=es.push ⟨.int k n,z,clock⟩:=by unfold kW;rw[cM]
   have hR:sV k n es clock=clock+1:=by unfold sV;rw[cM]
   rw[dI,ek,hR];refine⟨z,by simp[execOp,h,Instr.mapEntry,i5,D,e1,bT,fG,gy,hj,hz,goInt],?_,b1.push _ _⟩;simpa using dY sb ⟨.int k n,z,clock⟩ (FT I) rfl
  |some a=>
   obtain⟨j,aq,cM,dY,dW,fJ,iy,nu⟩:=GC n l es.toList 0 a a1 bQ;have gy:(Instr.findKey K (.int k n) es.toList).run G.P w=.ok (some (0+j,aq)) w:=by simp[Instr.findKey,e2,cM]
   have g1:es[j]?=some dW:=by simpa using fJ
   have jN:(Instr.keyThatStays (.int k n) (.int k n)).run G.P w=.ok (.int k n) w:=by simp[Instr.keyThatStays,Instr.sameBits]
   have dI:nT k n es clock=dW.born:=by unfold nT;rw[cM];simp[g1]
   have ek:kW k n z es clock=es:=by unfold kW;rw[cM]
   have hR:sV k n es clock=clock:=by unfold sV;rw[cM]
   have j8:es.modify j (λe=>{e with key:=.int k n})=es:=ab4 λe he=>by
    rw[g1]at he;cases he;rw[←iy]
   rw[dI,ek,hR];refine⟨aq,by simp[execOp,h,Instr.mapEntry,i5,D,e1,bT,fG,gy,hj,g1,iy,jN,goInt,j8],?_,b1⟩;rw[show(some a:Option α).getD sb=a from rfl,S9 bQ];exact a1
 obtain⟨v,gF,iV,fq⟩:=xo;rw[gF];refine⟨.dm [.ig,.int .i64 (nT k n es clock:Int)],_,I,β,⟨rfl,rfl⟩,by simp[aD,cw,bk],?_,dc.refl I,λ_ _=>rfl,λx u=>by rw[axu,if_neg (by simpa using u)]⟩;have gw:cV (β d)=some r:=by rw[ay];rfl
 refine aA.turn (d:=d) (axM w r _) bt (λx u=>by rw[axu,if_neg u]) (λx u Z e=>aA.eN x d Z (by rw[aa];rfl) u r e (lF gw)) (dc.refl I) (λ_ _ _=>rfl)
  (λo v ai=>by rw[aW o]at ai;cases ai) (aW none) (λ_ _=>rfl) (.inr rfl) (h8.refl β) (.inl gw) λaZ c5=>?_
 rw[axu,if_pos rfl,aa]at c5;injection c5 with c5
 subst c5;simp only[br];exact .inr ⟨r,ay,by have:=hZ aG;simp[Array.getElem?_setIfInBounds,this],iV,aW,bt,fq⟩
def akt{I:bP}{α:Type}{k:IntKind}{n:Int}{es:gx}{clock:Nat}{z:Value}{l:List (Int×α)}{enc:α→W}{a:α}(iV:gm I (fh k enc l) (kW k n z es clock).toList)(fq:k9 (kW k n z es clock) (sV k n es clock))(bQ:cH l n=some a):
  ∃j e,(kW k n z es clock).findIdx? (λe=>(e.born:Int)==(nT k n es clock:Int))=some j∧(kW k n z es clock)[j]?=some e∧e.key=.int k n∧
   ∀(b:α) (aq:Value),bk I (enc b) aq→gm I (fh k enc (eG l n b)) ((kW k n z es clock).modify j λe=>{e with val:=aq}).toList:=by
 obtain⟨j,aq,cM,dY,dW,fJ,iy,nu⟩:=GC n l _ 0 a iV bQ;have Y:dW.born=nT k n es clock:=by
  cases bc:Instr.findNow (.int k) (.int k n) es.toList 0 with
  |none=>
   have dI:nT k n es clock=clock:=by unfold nT;rw[bc]
   have ek:kW k n z es clock=es.push ⟨.int k n,z,clock⟩:=by unfold kW;rw[bc]
   rw[ek]at cM;exfalso;rw[Array.toList_push]at cM;have:∀(A B:oe) (i:Nat),Instr.findNow (.int k) (.int k n) A i=none→Instr.findNow (.int k) (.int k n) (A++B) i=none:=by
    intro A B;induction A with
    |nil=>intro i h;cases h
    |cons c A bX=>
     intro i h;simp only[Instr.findNow,cons_append]at h ⊢;cases Z:Instr.sameNow (.int k) (.int k n) c.key with
     |none=>rfl
     |some b=>
      cases b with
      |true=>rw[Z]at h;cases h
      |false=>rw[Z]at h;exact bX (i+1) h
   rw[this _ _ 0 bc]at cM;cases cM
  |some q=>
   cases q with
   |none=>
    have dI:nT k n es clock=clock:=by unfold nT;rw[bc]
    have ek:kW k n z es clock=es.push ⟨.int k n,z,clock⟩:=by unfold kW;rw[bc]
    rw[ek,Array.toList_push,aau _ _ _ _ _ bc]at cM;have aY:j=es.size:=by
     simp only[Instr.findNow]at cM;cases Z:Instr.sameNow (.int k) (.int k n) (Value.int k n)with
     |none=>rw[Z]at cM;cases cM
     |some b=>
      cases b with
      |true=>rw[Z]at cM;simp at cM;omega
      |false=>rw[Z]at cM;cases cM
    rw[ek,aY]at fJ;simp at fJ;rw[←fJ,dI]
   |some q=>
    obtain⟨e3,v0⟩:=q;have ek:kW k n z es clock=es:=by unfold kW;rw[bc]
    rw[ek,bc]at cM;have aY:e3=j:=by simp at cM;omega
    rw[ek]at fJ;have dI:nT k n es clock=((es[e3]?).map (·.born)).getD 0:=by unfold nT;rw[bc]
    have:es[j]?=some dW:=by simpa using fJ
    rw[dI,aY,this];rfl
 have g1:(kW k n z es clock)[j]?=some dW:=by simpa using fJ
 refine⟨j,dW,?_,g1,iy,λb aq cF=>?_⟩
 ·rw[Array.findIdx?_eq_some_iff_getElem];obtain⟨cq,he⟩:=Array.getElem?_eq_some_iff.1 g1;refine⟨cq,by rw[he];simp[Y],λi hi=>?_⟩;intro ah;have ah:(kW k n z es clock)[i].born=nT k n es clock:=by
   have:((kW k n z es clock)[i].born:Int)=(nT k n es clock:Int):=by simpa using ah
   omega
  have h1:=fq.1;have:=pairwise_iff_getElem.1 h1 i j (by simp;omega) (by simpa using cq) hi;apply this;simp only[List.getElem_map,Array.getElem_toList];rw[ah,he,Y]
 ·have:=nu b aq (λe=>{e with key:=.int k n,val:=aq}) cF (λe=>⟨rfl,rfl⟩)
  have jN:((kW k n z es clock).modify j λe=>{e with val:=aq}).toList=(kW k n z es clock).toList.modify j λe=>{e with key:=.int k n,val:=aq}:=by
   rw[Array.toList_modify];apply List.ext_getElem?;intro i;rw[List.getElem?_modify,List.getElem?_modify];by_cases iC:j=i
   ·subst iC;rw[fJ];simp[←iy]
   ·simp[iC]
  rw[jN];exact this
def azC{α:Type}{T K E d clock:Nat}{k:IntKind}{x y v:Operand}{n:Int}{es:gx}{z:Value}{a0:α}(l:List (Int×α))(enc:α→W)(a:α)(h:o.op=.entryStore T x y v)(u:ev x=.ep d)(ak:ev y=.int .i64 (nT k n es clock:Int))(ai:ev v=enc a)(ah:(enc a).closed=true)
  (aa:σ.get d=some (.ij (kW k n z es clock) (sV k n es clock) K E (fh k enc l))) (bQ:cH l n=some a0) :
  hK G o ev σ [d] [] (λr aL=>r=.undef∧aL=σ.set d (.map K E (fh k enc (eG l n a)))):=by
 intro cx I β w bp aA hop;have h1:=hop x (by simp[h,Op.operands]);rw[u]at h1
 have D:=hop y (by simp[h,Op.operands]);rw[ak]at D;have D:=jT D
 have aj:=hop v (by simp[h,Op.operands]);rw[ai]at aj
 have aj:=aD.closed _ _ ah aj;simp only[aD]at h1;obtain⟨h1,Fg⟩:=h1;have k6:β d≠.nilFunc:=λe=>by rw[h1,e]at Fg;simp[nN]at Fg
 have ar:=aA.dK d _ aa;simp only[br,k6,false_or]at ar;obtain⟨r,ay,aG,a1,aW,bt,b1⟩:=ar;have bT:=q8 (P:=G.P) aG
 have hj:∀aZ:Obj,(setObj r aZ).run G.P w=.ok () {w with heap:=w.heap.setIfInBounds r aZ}:=λaZ=>by
  have:=hZ aG;simp[setObj,Sem.run,aG]
 have i5:bp x=.map (some r):=by rw[h1,ay]
 obtain⟨j,e,m1,m2,o6,C4⟩:=akt a1 b1 bQ
 have gF:(execOp bp o).run G.P w=.ok .skip {w with heap:=w.heap.setIfInBounds r (.map ((kW k n z es clock).modify j λe=>{e with val:=bp v}) (sV k n es clock))}:=by
  simp[execOp,h,Instr.entryStore,i5,D,bT,asInt,asIntOf,m1,hj]
 rw[gF];refine⟨.undef,_,I,β,⟨rfl,rfl⟩,by simp[aD,bk],?_,dc.refl I,λ_ _=>rfl,λx u=>by rw[axu,if_neg (by simpa using u)]⟩;have gw:cV (β d)=some r:=by rw[ay];rfl
 refine aA.turn (d:=d) (axM w r _) bt (λx u=>by rw[axu,if_neg u]) (λx u Z e=>aA.eN x d Z (by rw[aa];rfl) u r e (lF gw)) (dc.refl I) (λ_ _ _=>rfl)
  (λo v ai=>by rw[aW o]at ai;cases ai) (aW none) (λ_ _=>rfl) (.inr rfl) (h8.refl β) (.inl gw) λaZ c5=>?_
 rw[axu,if_pos rfl,aa]at c5;injection c5 with c5
 subst c5;simp only[br];exact .inr ⟨r,_,_,ay,by have:=hZ aG;simp[Array.getElem?_setIfInBounds,this],C4 a (bp v) aj,aW,bt,b1.modify _ _ λ_=>rfl⟩
end
end
section
open Go.ChangeMaps (setBlock)
section cert
variable {G:c7}{ops:lp}{K:an→ag→Prop}
def axZ:∀{l:ei} {log IT:List (Nat×ei)} {env:an} {σ:ag},gG G ops ⟨false,[],[]⟩ log l env σ K→gG G ops ⟨false,[],[]⟩ IT l env σ K
 |[],_,_,_,_,h=>h
 |i::l,log,IT,env,σ,h=>by
  obtain⟨o,ar,h⟩:=h;refine⟨o,ar,?_⟩;rcases h with⟨h1,D,aj⟩|⟨h1,D,ew,R,bZ,σ2,aj,aV,b4,dz,fz⟩|⟨h1,D,M,news,Φ,aj,aV,b4,dz,fz⟩|⟨h1,D,aj⟩
  ·exact .inl ⟨h1,D,axZ aj⟩
  ·exact .inr (.inl ⟨h1,D,ew,R,bZ,σ2,aj,aV,b4,dz,axZ fz⟩)
  ·exact .inr (.inr (.inl ⟨h1,D,M,news,Φ,aj,(λh=>by cases h),b4,dz,λbZ aL cA=>axZ (fz bZ aL cA)⟩))
  ·exact .inr (.inr (.inr ⟨h1,D,axZ aj⟩))
def gG.append{hx:ei}:∀{iw:ei} {log:List (Nat×ei)} {env:an} {σ:ag},gG G ops ⟨false,[],[]⟩ log iw env σ (λe s=>gG G ops ⟨false,[],[]⟩ [] hx e s K)→gG G ops ⟨false,[],[]⟩ log (iw++hx) env σ K
 |[],_,_,_,h=>axZ h
 |i::l,log,env,σ,h=>by
  obtain⟨o,ar,h⟩:=h;refine⟨o,ar,?_⟩;rcases h with⟨h1,D,aj⟩|⟨h1,D,ew,R,bZ,σ2,aj,aV,b4,dz,fz⟩|⟨h1,D,M,news,Φ,aj,aV,b4,dz,fz⟩|⟨h1,D,aj⟩
  ·exact .inl ⟨h1,D,gG.append aj⟩
  ·exact .inr (.inl ⟨h1,D,ew,R,bZ,σ2,aj,aV,b4,dz,gG.append fz⟩)
  ·exact .inr (.inr (.inl ⟨h1,D,M,news,Φ,aj,aV,b4,dz,λbZ aL cA=>gG.append (fz bZ aL cA)⟩))
  ·exact .inr (.inr (.inr ⟨h1,D,gG.append aj⟩))
end cert
variable {id:Nat}
def ayh{P:Program}{N:Nat}{ids:ei}{b6:hf}{env:an}{σ:ag}{Q:Exit→an→ag→Prop}(bn:j7 P b6){ops:lp}(n:Nat)(hx:ei)(Z:List (Nat×Hint P))(e1:an)(s1:ag){o:Oper}{M news:ei}{Φ:W→ag→Prop}
  (aP:List.range ops.size=List.range n++n::hx) (aa:zh N ops=true) (h1:sU b6 ids ops ⟨false,[],[]⟩ ((List.range n).map λi=>(i,hintOf Z i)) [] env σ=some (e1,s1,(List.range n).map λi=>(hintOf Z i).exp))
  (ar:ops[n]?=some o) (bQ:o.guard=none) (fP:hK ⟨P,N,ids⟩ o e1.ev s1 M news Φ) (ah:e1.clean news.contains=true) (be:news.all (λd=>!ids.contains d&&(s1.get d).isNone)=true)
  (k:∀bZ aL,Φ bZ aL→∃(fV:List (Nat×Hint P)) (e2:an) (e8:ag),sU b6 ids ops ⟨false,[],[]⟩ (hx.map λi=>(i,hintOf fV i)) [] (e1.put o.dst bZ) aL=some (e2,e8,hx.map λi=>(hintOf fV i).exp)∧Q .normal e2 e8):aF ⟨P,N,ids⟩ (.region id ops false) Q env σ:=by
 refine A.region aa ?_;rw[aP]
 have run:∀(Z:List (Nat×Hint P)) (l:ei) {K:an→ag→Prop} {e dW:an} {s eF:ag},sU b6 ids ops ⟨false,[],[]⟩ (l.map λi=>(i,hintOf Z i)) [] e s=some (dW,eF,l.map λi=>(hintOf Z i).exp)→K dW eF→gG ⟨P,N,ids⟩ ops ⟨false,[],[]⟩ [] l e s K:=λZ l K e dW s eF h gE=>by
  have:=xz (N:=N) (K:=K) bn h (by rw[List.map_map];rfl) gE;rw[List.map_map,show((λx:Nat×Hint P=>x.1)∘λi=>(i,hintOf Z i))=λi=>i from rfl,List.map_id']at this;exact this
 refine gG.append (run Z _ h1 ?_);refine⟨o,ar,.inr (.inr (.inl ⟨?_,(λh=>by cases h),M,news,Φ,fP,(λh=>by cases h),ah,λd aa=>?_,λbZ aL cA=>?_⟩))⟩
 ·simp only[jR,bQ]
 ·have:=List.all_eq_true.1 be d aa;simpa using this
 ·obtain⟨fV,e2,e8,cZ,c8⟩:=k bZ aL cA;exact run fV _ cZ c8
section iter
variable {G:c7}{σ:ag}{o:Oper}{ev:Operand→W}
def Lj{cx:gj}{I:bP}{β:Nat→Value}{w:World}(aA:cG G cx I β σ w){gn clock:Nat}{es:gx}{bO:List (W×W)}{seen:pQ}(hi:σ.get gn=some (.jd es clock bO seen)){v:Value}(h1:aD I β (.ptr gn 0) v):
  ∃r ha,v=.pointer (some ⟨r,0,none⟩)∧cV (β gn)=some r∧w.heap[r]?=some (.mapIter (some ha) clock seen clock)∧w.heap[ha]?=some (.map es clock)∧I ha none=some (qe es clock)∧gm I bO es.toList∧k9 es clock∧(∀o,I r o=none)∧Place cx r∧β gn=.pointer (some ⟨r,0,none⟩):=by
 simp only[aD]at h1;obtain⟨b,h1,D⟩:=h1;have gi:β gn≠.nilFunc:=λe=>by rw[e]at h1;cases h1
 have ar:=aA.dK gn _ hi;simp only[br,gi,false_or]at ar;obtain⟨r,ha,ay,aG,a1,aW,bt,b1,cE⟩:=ar;have Pl:b=r:=by rw[ay]at h1;simpa [cV]using h1.symm
 subst Pl;obtain⟨kJ,oQ,cZ,c8⟩:=aA.iU ha _ a1;obtain⟨rfl,rfl⟩:=K0 c8;exact⟨b,ha,D,h1,aG,cZ,a1,aW,bt,b1,cE,ay⟩
def ayI{T K E gn:Nat}{x:Operand}{bO:List (W×W)}(h:o.op=.range T x)(u:ev x=.ec bO)(aR:G.P.underlying T=some (.map K E))(hi:G.ids.contains gn=false)(ah:σ.clean [gn].contains=true):
  hK G o ev σ [gn] [gn] (λr aL=>r=.ptr gn 0∧∃es clock,aL=(gn,.jd es clock bO #[])::σ):=by
 intro cx I β w bp aA hop;have h1:=hop x (by simp[h,Op.operands]);rw[u]at h1
 simp only[aD,bk]at h1;obtain⟨ha,es,clock,ay,aG,a1,aW⟩:=h1;obtain⟨kJ,oQ,cZ,c8⟩:=aA.iU ha _ aG;obtain⟨rfl,rfl⟩:=K0 c8;have gF:(execOp bp o).run G.P w=.ok (.value (.pointer (some ⟨w.heap.size,0,none⟩))) (w.alloc (.mapIter (some ha) clock #[] clock)):=by
  simp[execOp,h,ay,run_range_map w T K E ha es clock aR cZ]
 rw[gF];have ai:=aA.rY (ew:=[gn]) (σ2:=σ) (env:=[]) ⟨λ_ _=>rfl,by simpa using hi,rfl,ah,λx u gV n h=>by have:=(axC ah x _ h).1;rw[List.contains_iff_mem.2 u]at this;cases this⟩;have Y:∀y,y≠gn→iL (hL β [gn]) gn (.pointer (some ⟨w.heap.size,0,none⟩)) y=β y:=λy ak=>by rw[iJ _ _ ak];simp[hL,ak]
 have uK:iL (hL β [gn]) gn (.pointer (some ⟨w.heap.size,0,none⟩)) gn=.pointer (some ⟨w.heap.size,0,none⟩):=h0 _ _ _;refine⟨.ptr gn 0,_,I,iL (hL β [gn]) gn (.pointer (some ⟨w.heap.size,0,none⟩)),⟨rfl,es,clock,rfl⟩,?_,?_,dc.refl I,λy ak=>Y y (by simpa using ak),λy ak=>by rw[axp,if_neg (Ne.symm (by simpa using ak))]⟩
 ·simp only[aD,uK];exact⟨w.heap.size,rfl,rfl⟩
 ·refine ai.turn (d:=gn) (hJ.alloc w _) (.inl aA.size) (λx u=>by rw[axp,if_neg (Ne.symm u)]) (λx u Z e=>by
    obtain⟨aZ,Z⟩:=Option.isSome_iff_exists.1 Z;exact absurd (ai.tN Z e) (by omega)) (dc.refl I) (λ_ _ _=>rfl) (λhP eP kU=>by rw[aA.jS (Nat.le_refl _)]at kU;cases kU) (aA.jS (Nat.le_refl _) none)
   (λx u=>iJ _ _ u) (.inl (by simpa using hi)) (axX (by simp[hL])) (.inl (by rw[uK];rfl)) λaZ c5=>?_
  rw[axp,if_pos rfl]at c5;cases c5;simp only[br,uK];exact .inr ⟨w.heap.size,ha,rfl,heap_alloc_new w _,aG,a1,aW,λo=>aA.jS (Nat.le_refl _) o,.inl aA.size⟩
def azQ{gn clock:Nat}{x:Operand}{es:gx}{bO:List (W×W)}{seen:pQ}(h:o.op=.next x false)(u:ev x=.ptr gn 0)(hi:σ.get gn=some (.jd es clock bO seen)):
  hK G o ev σ [gn] [] (λr aL=>((leftOf es seen).size=0∧r=.dm [.bool false]∧aL=σ)∨∃e∈(leftOf es seen).toList,r=.dm [.bool true,.ig,.ig]∧aL=σ.set gn (.jd es clock bO (seen.push e.born))):=by
 intro cx I β w bp aA hop;have h1:=hop x (by simp[h,Op.operands]);rw[u]at h1
 obtain⟨b,ha,D,gw,a1,dY,b1,cE,fJ,aW,bt,ay⟩:=Lj aA hi h1;rcases run_next_at (P:=G.P) w o.type b ha clock clock seen es clock a1 dY fJ.2 (Nat.le_refl _)with⟨s1,e8⟩|⟨e,s1,iS,e8,s3⟩
 ·have gF:(execOp bp o).run G.P w=.ok (.value (.tuple #[.bool false])) w:=by simp[execOp,h,D,e8]
  rw[gF];refine⟨.dm [.bool false],σ,I,β,.inl ⟨s1,rfl,rfl⟩,?_,aA,dc.refl I,λ_ _=>rfl,λ_ _=>rfl⟩;simp[aD,cw,bk]
 ·have gF:(execOp bp o).run G.P w=.ok (.value (.tuple #[.bool true,e.key,e.val])) (setBlock iS b (.mapIter (some ha) clock (seen.push e.born) clock)):=by simp[execOp,h,D,s3]
  rw[gF];refine⟨.dm [.bool true,.ig,.ig],σ.set gn (.jd es clock bO (seen.push e.born)),I,β,.inr ⟨e,s1,rfl,rfl⟩,?_,?_,dc.refl I,λ_ _=>rfl,λy ak=>by rw[axu,if_neg (by simpa using ak)]⟩
  ·simp only[aD,cw,bk];exact⟨_,rfl,_,_,rfl,rfl,_,_,rfl,trivial,_,_,rfl,trivial,rfl⟩
  ·have hk:hJ w (setBlock iS b (.mapIter (some ha) clock (seen.push e.born) clock)) b:=by
    rcases e8 with rfl|rfl
    ·exact axM _ b _
    ·exact hJ.drew (axM _ b _)
   have ct:(setBlock iS b (.mapIter (some ha) clock (seen.push e.born) clock)).heap[b]?=some (.mapIter (some ha) clock (seen.push e.born) clock):=by
    have cq:=hZ a1;have:iS.heap=w.heap:=by rcases e8 with rfl|rfl<;>rfl
    simp[setBlock,this,Array.getElem?_setIfInBounds,cq]
   refine aA.turn (d:=gn) hk bt (λx u=>by rw[axu,if_neg u]) (λx u Z dW=>aA.eN x gn Z (by rw[hi];rfl) u b dW (lF gw)) (dc.refl I) (λ_ _ _=>rfl)
    (λo v ai=>by rw[aW o]at ai;cases ai) (aW none) (λ_ _=>rfl) (.inr rfl) (h8.refl β) (.inl gw) λaZ c5=>?_
   rw[axu,if_pos rfl,hi]at c5;injection c5 with c5
   subst c5;simp only[br];exact .inr ⟨b,ha,ay,ct,b1,cE,fJ,aW,bt⟩
def aza{α:Type}{gn clock i:Nat}{k:IntKind}{x:Operand}{es:gx}{seen:pQ}{e:MapEntry}{n:Int}{v:α}(l:List (Int×α))(enc:α→W)(h:o.op=.entry x)(u:ev x=.ptr gn 0)(hi:σ.get gn=some (.jd es clock (fh k enc l) (seen.push e.born)))
  (he:es[i]?=some e) (be:l[i]?=some (n,v)):Yields G o ev σ [] [gn] (.dm [.int k n,enc v]):=
 .pure λaL cx I β w bp cz aA hop=>by
  have h1:=hop x (by simp[h,Op.operands]);rw[u]at h1
  obtain⟨b,ha,D,gw,a1,dY,b1,cE,fJ,aW,bt,ay⟩:=Lj aA (by rw[cz gn (by simp)];exact hi) h1;have vL:e∈es.toList:=by
   have:es.toList[i]?=some e:=by simpa using he
   exact List.mem_of_getElem? this
  have gF:(execOp bp o).run G.P w=.ok (.value (.tuple #[e.key,e.val])) w:=by simp[execOp,h,D,run_entry_at (P:=G.P) w b ha clock seen es clock e a1 dY vL fJ.1]
  refine⟨_,gF,?_⟩;obtain⟨s1,e8⟩:=Mo cE (i:=i) (a:=.int k n) (c:=enc v) (e:=e) (by simp[fh,be]) (by simpa using he);simp only[aD,cw];exact⟨_,rfl,e.key,[e.val],rfl,s1,e.val,[],rfl,bk.rep β _ _ e8,rfl⟩
def azb{bS α:Type}{gn clock i:Nat}{cL:bS→W}{x:Operand}{es:gx}{seen:pQ}{e:MapEntry}{n:bS}{v:α}(l:List (bS×α))(enc:α→W)(h:o.op=.entry x)(u:ev x=.ptr gn 0)(hi:σ.get gn=some (.jd es clock (dV cL enc l) (seen.push e.born)))
  (he:es[i]?=some e) (be:l[i]?=some (n,v)):Yields G o ev σ [] [gn] (.dm [cL n,enc v]):=
 .pure λaL cx I β w bp cz aA hop=>by
  have h1:=hop x (by simp[h,Op.operands]);rw[u]at h1
  obtain⟨b,ha,D,gw,a1,dY,b1,cE,fJ,aW,bt,ay⟩:=Lj aA (by rw[cz gn (by simp)];exact hi) h1;have vL:e∈es.toList:=by
   have:es.toList[i]?=some e:=by simpa using he
   exact List.mem_of_getElem? this
  have gF:(execOp bp o).run G.P w=.ok (.value (.tuple #[e.key,e.val])) w:=by simp[execOp,h,D,run_entry_at (P:=G.P) w b ha clock seen es clock e a1 dY vL fJ.1]
  refine⟨_,gF,?_⟩;obtain⟨s1,e8⟩:=Mo cE (i:=i) (a:=cL n) (c:=enc v) (e:=e) (by simp[dV,be]) (by simpa using he);simp only[aD,cw];exact⟨_,rfl,e.key,[e.val],rfl,bk.rep β _ _ s1,e.val,[],rfl,bk.rep β _ _ e8,rfl⟩
end iter
def T1{I:bP}:∀{bO:List (W×W)} {es:oe},gm I bO es→es.length=bO.length
 |[],_,h=>by simp only[gm]at h;rw[h];rfl
 |(k,v)::r,_,h=>by
  simp only[gm]at h;obtain⟨e,b8,rfl,_,_,aj⟩:=h;simp[T1 aj]
def acM{A:Type}[DecidableEq A]{a b:List A}(h:a.Nodup)(Z:∀x∈a,x∈b):a.length≤b.length:=by
 induction a generalizing b with
 |nil=>simp
 |cons x a bX=>
  rw[nodup_cons]at h;have u:=Z x (by simp);have:=bX (b:=b.erase x) h.2 λy ak=>(List.mem_erase_of_ne (λe=>h.1 (by rw[←e];exact ak))).2 (Z y (by simp[ak]));rw[length_erase_of_mem u]at this;have:=length_pos_of_mem u;simp only[length_cons];omega
variable {S α:Type}{b clock gn hV t1 t2:Nat}{es:gx}
def ayN{bS:Type}{G:c7}{σ:ag}{env:an}{Q:Exit→an→ag→Prop}{cL:bS→W}{enc:α→W}{l:List (bS×α)}{hy fS:Oper}{y:Code}
  (Inv:List (bS×α)→S→Prop) (q9:S) (hB:S→an) (hG:pQ→S→ag) (rE:hy.op=.next (.tmp hV) false∧hy.dst=some t1∧hy.guard=none) (lY:fS.op=.extract (.tmp t1) 0∧fS.dst=some t2∧fS.guard=none) (aa:zh G.N #[hy,fS]=true)
  (bA:Inv [] q9) (yx:∀g,(hB g).get hV=.ptr gn 0) (Jz:∀seen g,(hG seen g).get gn=some (.jd es clock (dV cL enc l) seen))
  (hj:∀seen g eF,(hG seen g).set gn (.jd es clock (dV cL enc l) eF)=hG eF g) (aA:dr G env σ (hB q9) (hG #[] q9))
  (body:∀(seen:pQ) (e:MapEntry) (i:Nat) (n:bS) (v:α) (p:List (bS×α)) (g:S),es[i]?=some e→l[i]?=some (n,v)→p.length<l.length→Inv p g→
   aF G y (ve (λhh aL=>∃ox,Inv (p++[(n,v)]) ox∧dr G hh aL (hB ox) (hG (seen.push e.born) ox)) Q) ((t2,.bool true)::(t1,.dm [.bool true,.ig,.ig])::hB g) (hG (seen.push e.born) g))
  (out:∀seen p g,p.Perm l→Inv p g→Q (.exit b) ((t2,.bool false)::(t1,.dm [.bool false])::hB g) (hG seen g)) :
  aF G (.loop (.seq (.region id #[hy,fS] false) (.seq (.cond (.tmp t2) .skip (.exit b)) y))) Q env σ:=by
 refine A.loop (α:=pQ×S) (λs=>hB s.2) (λs=>hG s.1 s.2) (λs=>∃p:ei,p.Nodup∧(∀i∈p,i<l.length)∧(∀(i:Nat) (e:MapEntry),es[i]?=some e→(s.1.contains e.born=true↔i∈p))∧Inv (vh l p) s.2)
  (λs=>(leftOf es s.1).size) (#[],q9) ⟨[],nodup_nil,by simp,by simp,bA⟩ aA ?_
 rintro⟨seen,g⟩ ⟨p,cM,dY,fJ,iy⟩;refine azY (F:=es.size=l.length∧(es.toList.map (·.born)).Nodup) (λcx I β a w fD aR=>?_) λ⟨f1,f2⟩=>?_
 ·have h1:=aR hV;rw[show(hB (seen,g).2).get hV=.ptr gn 0 from yx g]at h1;obtain⟨b,ha,D,gw,a1,dY,b1,cE,fJ,aW,bt,ay⟩:=Lj fD (Jz seen g) h1;have:=T1 cE;exact⟨by simpa [dV]using this,fJ.1⟩
 have uD:an.get ((t2,.bool true)::(t1,.dm [.bool true,.ig,.ig])::hB g) t2=.bool true:=by rw[axI,if_pos rfl]
 have qv:an.get ((t2,.bool false)::(t1,.dm [.bool false])::hB g) t2=.bool false:=by rw[axI,if_pos rfl]
 refine A.seq (A.region aa ?_);show gG G #[hy,fS] ⟨false,[],[]⟩ [] [0,1] (hB g) (hG seen g) _;refine⟨hy,rfl,.inr (.inr (.inl ⟨by simp only[jR,rE.2.2],by simp,[gn],[],_,azQ (x:=.tmp hV) rE.1 (yx g) (Jz seen g),by simp,ax0 _,by simp,λbZ aL uJ=>?_⟩))⟩
 have ext:∀(vs:List W) (fc:Bool) (aL:ag) (K:an→ag→Prop),vs[0]?=some (.bool fc)→K ((t2,.bool fc)::(t1,.dm vs)::hB g) aL→gG G #[hy,fS] ⟨false,[],[]⟩ [] [1] ((hB g).put hy.dst (.dm vs)) aL K:=λvs fc aL K ai gE=>by
  refine⟨fS,rfl,.inr (.inl ⟨by simp only[jR,lY.2.2],by simp,[],[],.bool fc,aL,ax6 _ _ _,by simp,by simp,b5.extract (x:=.tmp t1) lY.1 (by rw[rE.2.1];show an.get _ _=_;rw[an.put,axI,if_pos rfl]) ai,?_⟩)⟩;rw[rE.2.1,lY.2.1];exact gE
 rcases uJ with⟨kO,rfl,rfl⟩|⟨e,kO,rfl,rfl⟩
 ·refine ext _ false _ _ rfl ?_
  have k5:∀i,i∈p↔i<l.length:=λi=>⟨dY i,λcq=>by
   have YZ:i<es.size:=by omega
   refine(fJ i es[i] (Array.getElem?_eq_getElem YZ)).1 ?_;by_cases ah:seen.contains es[i].born=true
   ·exact ah
   ·exfalso;have:es[i]∈leftOf es seen:=by
     unfold leftOf;rw[Array.mem_filter];exact⟨Array.getElem_mem YZ,by simpa using ah⟩
    have:leftOf es seen≠#[]:=λe=>by rw[e]at this;simp at this
    exact this (Array.eq_empty_of_size_eq_zero kO)⟩
  have aK:(vh l p).Perm l:=by
   have:=(acv cM k5).filterMap λi=>l[i]?;have e2:=acJ l;unfold vh at e2 ⊢
   rwa [e2]at this
  refine A.seq (A.cond (b:=false) qv (λh=>by cases h) λ_=>A.exit ?_);exact out seen _ g aK iy
 ·refine ext _ true _ _ rfl ?_;rw[hj seen g];obtain⟨g2,iP⟩:=mem_left kO;obtain⟨i,iY⟩:=List.getElem?_of_mem g2;have iY:es[i]?=some e:=by simpa using iY
  have vI:i<l.length:=by have:=(Array.getElem?_eq_some_iff.1 iY).1;omega
  have n3:i∉p:=λh=>by
   have:=(fJ i e iY).2 h;rw[iP]at this;cases this
  have CC:l[i]?=some (l[i].1,l[i].2):=List.getElem?_eq_getElem vI;have fH:(p++[i]).Nodup:=by
   rw[nodup_append];exact⟨cM,by simp,λa aI c ah=>by simp only[List.mem_singleton]at ah;subst ah;exact λe=>n3 (e▸aI)⟩
  have B5:∀j∈p++[i],j<l.length:=λj aY=>by
   rcases List.mem_append.1 aY with aY|aY
   ·exact dY j aY
   ·rw[List.mem_singleton.1 aY];exact vI
  have e1:vh l (p++[i])=vh l p++[(l[i].1,l[i].2)]:=by
   unfold vh;rw[List.filterMap_append];simp[filterMap_cons,List.getElem?_eq_getElem vI]
  refine A.seq (A.cond (b:=true) uD (λ_=>A.skip ?_) λh=>by cases h);refine(body seen e i l[i].1 l[i].2 _ g iY CC (by
   have h1:=acM fH (b:=List.range l.length) λj aY=>List.mem_range.2 (B5 j aY);have D:(vh l p).length≤p.length:=length_filterMap_le ..;rw[length_range,length_append]at h1;simp only[length_cons,length_nil]at h1;omega) iy).mono λex hh aL cA=>?_
  cases ex with
  |normal=>
   obtain⟨ox,PN,FK⟩:=cA;refine⟨(seen.push e.born,ox),⟨p++[i],fH,B5,λj dW aY=>?_,by rw[e1];exact PN⟩,left_shrinks es seen e kO,FK⟩;rw[contains_push,Bool.or_eq_true,beq_iff_eq,fJ j dW aY,List.mem_append,List.mem_singleton];constructor
   ·rintro(h|h)
    ·exact .inl h
    ·right;have sw:es.toList[j]?=some dW:=by simpa using aY
     have vH:es.toList[i]?=some e:=by simpa using iY
     have p8:=(List.getElem?_eq_some_iff.1 sw).1;have Fx:=(List.getElem?_eq_some_iff.1 vH).1;have cZ:=(List.getElem?_eq_some_iff.1 sw).2;have c8:=(List.getElem?_eq_some_iff.1 vH).2;have pw:=pairwise_iff_getElem.1 f2;rcases Nat.lt_trichotomy j i with q|q|q
     ·refine absurd ?_ (pw j i (by simpa using p8) (by simpa using Fx) q);rw[List.getElem_map,List.getElem_map,cZ,c8,h]
     ·exact q
     ·refine absurd ?_ (pw i j (by simpa using Fx) (by simpa using p8) q);rw[List.getElem_map,List.getElem_map,cZ,c8,h]
   ·rintro(h|h)
    ·exact .inl h
    ·subst h;rw[iY]at aY;cases aY;exact .inr rfl
  |_=>exact cA
def azZ{G:c7}{σ:ag}{env:an}{Q:Exit→an→ag→Prop}{k:IntKind}{enc:α→W}{l:List (Int×α)}{hy fS:Oper}{y:Code}
  (Inv:List (Int×α)→S→Prop) (q9:S) (hB:S→an) (hG:pQ→S→ag) (rE:hy.op=.next (.tmp hV) false∧hy.dst=some t1∧hy.guard=none) (lY:fS.op=.extract (.tmp t1) 0∧fS.dst=some t2∧fS.guard=none) (aa:zh G.N #[hy,fS]=true)
  (bA:Inv [] q9) (yx:∀g,(hB g).get hV=.ptr gn 0) (Jz:∀seen g,(hG seen g).get gn=some (.jd es clock (fh k enc l) seen))
  (hj:∀seen g eF,(hG seen g).set gn (.jd es clock (fh k enc l) eF)=hG eF g) (aA:dr G env σ (hB q9) (hG #[] q9))
  (body:∀(seen:pQ) (e:MapEntry) (i:Nat) (n:Int) (v:α) (p:List (Int×α)) (g:S),es[i]?=some e→l[i]?=some (n,v)→Inv p g→
   aF G y (ve (λhh aL=>∃ox,Inv (p++[(n,v)]) ox∧dr G hh aL (hB ox) (hG (seen.push e.born) ox)) Q) ((t2,.bool true)::(t1,.dm [.bool true,.ig,.ig])::hB g) (hG (seen.push e.born) g))
  (out:∀seen p g,p.Perm l→Inv p g→Q (.exit b) ((t2,.bool false)::(t1,.dm [.bool false])::hB g) (hG seen g)) :
  aF G (.loop (.seq (.region id #[hy,fS] false) (.seq (.cond (.tmp t2) .skip (.exit b)) y))) Q env σ:=
 ayN (cL:=λn=>.int k n) Inv q9 hB hG rE lY aa bA yx Jz hj aA (λseen e i n v p g h1 D _ aj=>body seen e i n v p g h1 D aj) out
end
section
section
variable {P:Program}
def Lt(bb:Nat)(op:Op)(env:an)(σ:ag):Option (c9×cW):=match op with
 |.indexAddr T x y=>(match env.dg x with
  |some (.own d)=>(match env.dg y with
   |some (.int k i)=>(match σ.get d with
    |some (.ic gT xs t)=>bif Nat.beq T bb then some (.y [d] (.ptr d i.toNat),([.int .i64 i],[(0,.ic 0 xs 0)]))else none
    |_=>none)
   |_=>none)
  |_=>none)
 |_=>none
def aic{bb E:Nat}{xs:List (List W)}{i:Int}(aR:ji P bb E 1)(hi:0≤i∧i<(xs.length:Int)+1){o:Oper}{N:Nat}{ids:ei}{env:an}{σ:ag}{s:c9}{aZ:cW}
  (h:Lt bb o.op env σ=some (s,aZ)) (he:aZ=([.int .i64 i],[(0,.ic 0 xs 0)])):gh ⟨P,N,ids⟩ o env σ s:=by
 cases ar:o.op<;>rw[ar]at h
 case indexAddr T x y=>
  simp only[Lt]at h;split at h
  ·rename_i d u;split at h
   ·rename_i k FV ak;split at h
    ·rename_i gT km t aa;cases ah:Nat.beq T bb with
     |false=>rw[ah]at h;cases h
     |true=>
      rw[ah]at h;have:=Nat.eq_of_beq_eq_true ah;subst this;cases h;simp only[Prod.mk.injEq,List.cons.injEq,W.int.injEq,c4.ic.injEq,and_true,true_and]at he;obtain⟨rfl,rfl⟩:=he;exact ay5 ar (axo u) (axo ak) aa aR hi
    ·cases h
   ·cases h
  ·cases h
 all_goals (simp only[Lt]at h;cases h)
def FP{bb E:Nat}{xs:List (List W)}{i:Int}(aR:ji P bb E 1)(hi:0≤i∧i<(xs.length:Int)+1):Hint P:=
 .gs false ([.int .i64 i],[(0,.ic 0 xs 0)]) (λ_=>Lt bb) λ_ _ _ _ _ _ _ h he=>aic aR hi h he
def Lv(bb:Nat)(op:Op)(env:an)(σ:ag):Option (c9×cW):=match op with
 |.load T x=>(match env.dg x with
  |some (.ptr d p)=>(match σ.get d with
   |some (.ic gT xs t)=>(match σ.get t with
    |some ql=>bif Nat.beq T bb&&ql.IS then some (.y [d,t] (.ep t),([.ptr 0 p],[(0,.ic 0 xs 0)]))else none
    |_=>none)
   |_=>none)
  |_=>none)
 |_=>none
def aid{bb p:Nat}{xs:List (List W)}(aR:dS P bb 1 false)(aK:p=xs.length){o:Oper}{N:Nat}{ids:ei}{env:an}{σ:ag}{s:c9}{aZ:cW}
  (h:Lv bb o.op env σ=some (s,aZ)) (he:aZ=([.ptr 0 p],[(0,.ic 0 xs 0)])):gh ⟨P,N,ids⟩ o env σ s:=by
 cases ar:o.op<;>rw[ar]at h
 case load T x=>
  simp only[Lv]at h;split at h
  ·rename_i d oM u;split at h
   ·rename_i gT km t aa;split at h
    ·rename_i ql bU;cases ah:(Nat.beq T bb&&ql.IS)with
     |false=>rw[ah]at h;cases h
     |true=>
      rw[ah]at h;simp only[Bool.and_eq_true]at ah;have:=Nat.eq_of_beq_eq_true ah.1;subst this;cases h;simp only[Prod.mk.injEq,List.cons.injEq,W.ptr.injEq,c4.ic.injEq,and_true,true_and]at he;obtain⟨rfl,rfl⟩:=he;exact ay6 ar (axo u) aa aK bU ah.2 aR
    ·cases h
   ·cases h
  ·cases h
 all_goals (simp only[Lv]at h;cases h)
def mJ{bb p:Nat}{xs:List (List W)}(aR:dS P bb 1 false)(aK:p=xs.length):Hint P:=
 .gs false ([.ptr 0 p],[(0,.ic 0 xs 0)]) (λ_=>Lv bb) λ_ _ _ _ _ _ _ h he=>aid aR aK h he
def LA(bb:Nat)(a:W)(op:Op)(env:an)(σ:ag):Option (c9×cW):=match op with
 |.load T x=>(match env.dg x with
  |some (.ptr d p)=>(match σ.get d with
   |some (.ic gT xs t)=>bif Nat.beq T bb then some (.y [d] a,([.ptr 0 p],[(0,.ic 0 xs 0)]))else none
   |_=>none)
  |_=>none)
 |_=>none
def ahL{bb p:Nat}{xs:List (List W)}{a:W}(aR:dS P bb 1 false)(aK:xs[p]?=some [a]){o:Oper}{N:Nat}{ids:ei}{env:an}{σ:ag}{s:c9}{aZ:cW}
  (h:LA bb a o.op env σ=some (s,aZ)) (he:aZ=([.ptr 0 p],[(0,.ic 0 xs 0)])):gh ⟨P,N,ids⟩ o env σ s:=by
 cases ar:o.op<;>rw[ar]at h
 case load T x=>
  simp only[LA]at h;split at h
  ·rename_i d oM u;split at h
   ·rename_i gT km t aa;cases ah:Nat.beq T bb with
    |false=>rw[ah]at h;cases h
    |true=>
     rw[ah]at h;have:=Nat.eq_of_beq_eq_true ah;subst this;cases h;simp only[Prod.mk.injEq,List.cons.injEq,W.ptr.injEq,c4.ic.injEq,and_true,true_and]at he;obtain⟨rfl,rfl⟩:=he;exact ay7 ar (axo u) aa aK aR
   ·cases h
  ·cases h
 all_goals (simp only[LA]at h;cases h)
def Zn{bb p:Nat}{xs:List (List W)}{a:W}(aR:dS P bb 1 false)(aK:xs[p]?=some [a]):Hint P:=
 .gs false ([.ptr 0 p],[(0,.ic 0 xs 0)]) (λ_=>LA bb a) λ_ _ _ _ _ _ _ h he=>ahL aR aK h he
def Ls(bb hs d2:Nat)(ids:ei)(op:Op)(env:an)(σ:ag):Option (c9×cW):=match op with
 |.call c=>(match c.callee with
  |.builtin b=>(match b with
   |.append=>(match c.args.toList with
    |[s,x]=>(match c.argTypes.toList with
     |[T,bl]=>(match env.dg s with
      |some (.own d)=>(match σ.get d with
       |some (.slice gT 1 xs 0 dO)=>(match env.dg x with
        |some (.fH (.Ck 1) oU)=>(match σ.get oU with
         |some (.cells HU [.ep t])=>bif Nat.beq T bb&&Nat.beq bl bb&&Nat.beq gT hs&&!ids.contains d2&&(σ.minus [d]).clean [d2].contains&&!Nat.beq oU d&&!Nat.beq t d then
           some (.e [d,d2] [d2] (.own d2) ((d2,.ic gT xs t)::σ.minus [d]),([],[(0,.ic 0 xs 0)]))else none
         |_=>none)
        |_=>none)
       |_=>none)
      |_=>none)
     |_=>none)
    |_=>none)
   |_=>none)
  |_=>none)
 |_=>none
def ahM{bb hs bytes d2:Nat}{xs:List (List W)}(dZ:jy P bb hs 1 bytes)(Y:(xs.length+1)*bytes≤140737488355328)(qw:xs.length+1≤maxLen){o:Oper}{N:Nat}{ids:ei}{env:an}{σ:ag}{s:c9}{aZ:cW}
  (h:Ls bb hs d2 ids o.op env σ=some (s,aZ)) (he:aZ=([],[(0,.ic 0 xs 0)])):gh ⟨P,N,ids⟩ o env σ s:=by
 cases ar:o.op<;>rw[ar]at h
 case call c=>
  obtain⟨cl,args,tys⟩:=c;simp only[Ls]at h;split at h
  ·rename_i b;split at h
   ·split at h
    ·rename_i s1 x pG;have:args=#[s1,x]:=Array.toList_inj.1 (by simpa using pG);subst this;split at h
     ·rename_i T bl Oy;have:tys=#[T,bl]:=Array.toList_inj.1 (by simpa using Oy);subst this;split at h
      ·rename_i d Z;split at h
       ·rename_i gT km dO aa;split at h
        ·rename_i oU u;split at h
         ·rename_i HU t gW;cases ah:(Nat.beq T bb&&Nat.beq bl bb&&Nat.beq gT hs&&!ids.contains d2&&(σ.minus [d]).clean [d2].contains&&!Nat.beq oU d&&!Nat.beq t d)with
          |false=>rw[ah]at h;cases h
          |true=>
           rw[ah]at h;simp only[Bool.and_eq_true,Bool.not_eq_true']at ah;obtain⟨⟨⟨⟨⟨⟨aN,bw⟩,cg⟩,dR⟩,eV⟩,gY⟩,i1⟩:=ah;have:=Nat.eq_of_beq_eq_true aN;subst this
           have:=Nat.eq_of_beq_eq_true bw;subst this
           have:=Nat.eq_of_beq_eq_true cg;subst this
           cases h;simp only[Prod.mk.injEq,List.cons.injEq,c4.ic.injEq,and_true,true_and]at he;subst he;exact⟨azM ar (axo Z) aa (axo u) gW dZ rfl Y qw dR eV (Nat.ne_of_beq_eq_false gY) (Nat.ne_of_beq_eq_false i1),by simp only[all_cons,all_nil,dR];rfl⟩
         ·cases h
        ·cases h
       ·cases h
      ·cases h
     ·cases h
    ·cases h
   ·cases h
  ·cases h
 all_goals (simp only[Ls]at h;cases h)
def Zk{bb hs bytes:Nat}(d2:Nat){xs:List (List W)}(dZ:jy P bb hs 1 bytes)(Y:(xs.length+1)*bytes≤140737488355328)(qw:xs.length+1≤maxLen):Hint P:=
 .gs true ([],[(0,.ic 0 xs 0)]) (Ls bb hs d2) λ_ _ _ _ _ _ _ h he=>ahM dZ Y qw h he
def J9{α:Type}(bb i0 hs:Nat)(k:IntKind)(n:Int)(z:Value)(l:List (Int×α))(enc:α→W)(sb:α)(es:gx)(clock:Nat)(op:Op)(env:an)(σ:ag):Option (c9×cW):=match op with
 |.mapEntry T x y=>(match env.dg x with
  |some (.ep d)=>(match env.dg y with
   |some (.int gK oK)=>(match σ.get d with
    |some (.ij kJ c K E bO)=>bif Nat.beq T bb&&Nat.beq K i0&&Nat.beq E hs then some (.e [d] [] (.dm [.ig,.int .i64 (nT k n es clock:Int)]) (σ.set d (.ij (kW k n z es clock) (sV k n es clock) K E (fh k enc (eG l n ((cH l n).getD sb))))),
      ([.ec bO,.int gK oK],[(0,.ij kJ c 0 0 [])]))else none
    |_=>none)
   |_=>none)
  |_=>none)
 |_=>none
def ahN{α:Type}{bb i0 hs:Nat}{k:IntKind}{n:Int}{z:Value}{l:List (Int×α)}{enc:α→W}{sb:α}{es:gx}{clock:Nat}(aR:r2 P bb i0 hs k)(hz:∀w,(zeroValue hs).run P w=.ok z w)(FT:∀I,bk I (enc sb) z){o:Oper}{N:Nat}{ids:ei}{env:an}{σ:ag}{s:c9}{aZ:cW}
  (h:J9 bb i0 hs k n z l enc sb es clock o.op env σ=some (s,aZ)) (he:aZ=([.ec (fh k enc l),.int k n],[(0,.ij es clock 0 0 [])])):gh ⟨P,N,ids⟩ o env σ s:=by
 cases ar:o.op<;>rw[ar]at h
 case mapEntry T x y=>
  simp only[J9]at h;split at h
  ·rename_i d u;split at h
   ·rename_i gK oK ak;split at h
    ·rename_i kJ c K E bO aa;cases ah:(Nat.beq T bb&&Nat.beq K i0&&Nat.beq E hs)with
     |false=>rw[ah]at h;cases h
     |true=>
      rw[ah]at h;simp only[Bool.and_eq_true]at ah;obtain⟨⟨aN,bw⟩,cg⟩:=ah;have:=Nat.eq_of_beq_eq_true aN;subst this
      have:=Nat.eq_of_beq_eq_true bw;subst this
      have:=Nat.eq_of_beq_eq_true cg;subst this
      cases h;simp only[Prod.mk.injEq,List.cons.injEq,W.ec.injEq,W.int.injEq,c4.ij.injEq,and_true,true_and]at he;obtain⟨⟨rfl,rfl,rfl⟩,rfl,rfl⟩:=he;exact⟨azF l enc sb ar (axo u) (axo ak) aa aR hz FT,rfl⟩
    ·cases h
   ·cases h
  ·cases h
 all_goals (simp only[J9]at h;cases h)
def Y1{α:Type}{bb i0 hs:Nat}{k:IntKind}{z:Value}(n:Int)(l:List (Int×α))(enc:α→W)(sb:α)(es:gx)(clock:Nat)(aR:r2 P bb i0 hs k)(hz:∀w,(zeroValue hs).run P w=.ok z w)(FT:∀I,bk I (enc sb) z):Hint P:=
 .gs true ([.ec (fh k enc l),.int k n],[(0,.ij es clock 0 0 [])]) (λ_=>J9 bb i0 hs k n z l enc sb es clock) λ_ _ _ _ _ _ _ h he=>ahN aR hz FT h he
def Jj{α:Type}(k:IntKind)(n:Int)(l:List (Int×α))(enc:α→W)(a:α)(op:Op)(env:an)(σ:ag):Option (c9×cW):=match op with
 |.entryStore T x y v=>(match env.dg x with
  |some (.ep d)=>(match env.dg y with
   |some (.int jg b)=>(match env.dg v with
    |some bZ=>(match σ.get d with
     |some (.ij es c K E bO)=>some (.e [d] [] .undef (σ.set d (.map K E (fh k enc (eG l n a)))),([.ec bO,.int jg b,bZ],[(0,.ij es c 0 0 [])]))
     |_=>none)
    |_=>none)
   |_=>none)
  |_=>none)
 |_=>none
def ahO{α:Type}{k:IntKind}{n:Int}{z:Value}{l:List (Int×α)}{enc:α→W}{a a0:α}{es:gx}{clock:Nat}(bQ:cH l n=some a0)(ah:(enc a).closed=true){o:Oper}{N:Nat}{ids:ei}{env:an}{σ:ag}{s:c9}{aZ:cW}
  (h:Jj k n l enc a o.op env σ=some (s,aZ)) (he:aZ=([.ec (fh k enc l),.int .i64 (nT k n es clock:Int),enc a],[(0,.ij (kW k n z es clock) (sV k n es clock) 0 0 [])])):gh ⟨P,N,ids⟩ o env σ s:=by
 cases ar:o.op<;>rw[ar]at h
 case entryStore T x y v=>
  simp only[Jj]at h;split at h
  ·rename_i d u;split at h
   ·rename_i jg b ak;split at h
    ·rename_i bZ ai;split at h
     ·rename_i kJ c K E bO aa;cases h;simp only[Prod.mk.injEq,List.cons.injEq,W.ec.injEq,W.int.injEq,c4.ij.injEq,and_true,true_and]at he;obtain⟨⟨rfl,⟨rfl,rfl⟩,rfl⟩,rfl,rfl⟩:=he;exact⟨azC l enc a ar (axo u) (axo ak) (axo ai) ah aa bQ,rfl⟩
     ·cases h
    ·cases h
   ·cases h
  ·cases h
 all_goals (simp only[Jj]at h;cases h)
def kK{α:Type}{k:IntKind}{a0:α}(n:Int)(z:Value)(l:List (Int×α))(enc:α→W)(a:α)(es:gx)(clock:Nat)(bQ:cH l n=some a0)(ah:(enc a).closed=true):Hint P:=
 .gs true ([.ec (fh k enc l),.int .i64 (nT k n es clock:Int),enc a],[(0,.ij (kW k n z es clock) (sV k n es clock) 0 0 [])]) (λ_=>Jj k n l enc a) λ_ _ _ _ _ _ _ h he=>ahO (z:=z) bQ ah h he
def ye(gn:Nat)(a:W)(op:Op)(env:an)(σ:ag):Option (c9×cW):=match op with
 |.entry x=>(match env.dg x with
  |some (.ptr Fa 0)=>(match σ.get gn with
   |some (.jd es c bO seen)=>bif Nat.beq Fa gn then some (.y [gn] a,([.ec bO],[(0,.jd es c [] seen)]))else none
   |_=>none)
  |_=>none)
 |_=>none
def ahP{α:Type}{gn clock i:Nat}{k:IntKind}{es:gx}{seen:pQ}{e:MapEntry}{n:Int}{v:α}{l:List (Int×α)}{enc:α→W}(iV:es[i]?=some e)(aP:l[i]?=some (n,v)){o:Oper}{N:Nat}{ids:ei}{env:an}{σ:ag}{s:c9}{aZ:cW}
  (h:ye gn (.dm [.int k n,enc v]) o.op env σ=some (s,aZ)) (he:aZ=([.ec (fh k enc l)],[(0,.jd es clock [] (seen.push e.born))])):gh ⟨P,N,ids⟩ o env σ s:=by
 cases ar:o.op<;>rw[ar]at h
 case entry x=>
  simp only[ye]at h;split at h
  ·rename_i Fa u;split at h
   ·rename_i kJ c bO aqI aa;cases Y:Nat.beq Fa gn with
    |false=>rw[Y]at h;cases h
    |true=>
     rw[Y]at h;have:=Nat.eq_of_beq_eq_true Y;subst this;cases h;simp only[Prod.mk.injEq,List.cons.injEq,W.ec.injEq,c4.jd.injEq,and_true,true_and]at he;obtain⟨rfl,rfl,rfl,rfl⟩:=he;exact aza l enc ar (axo u) aa iV aP
   ·cases h
  ·cases h
 all_goals (simp only[ye]at h;cases h)
def apw{α:Type}{es:gx}{i:Nat}{e:MapEntry}{n:Int}{v:α}{l:List (Int×α)}(gn clock:Nat)(k:IntKind)(seen:pQ)(enc:α→W)(iV:es[i]?=some e)(aP:l[i]?=some (n,v)):Hint P:=
 .gs false ([.ec (fh k enc l)],[(0,.jd es clock [] (seen.push e.born))]) (λ_=>ye gn (.dm [.int k n,enc v])) λ_ _ _ _ _ _ _ h he=>ahP iV aP h he
end
end
section
variable {env:an}{ih:W→ag→Prop}{σ:ag}
def sO.mono{G:c7}{fn:Func}{Ef:W→ag→Prop}{e:Exit}(h:sO G fn ih e env σ)(aK:∀a s,ih a s→Ef a s):sO G fn Ef e env σ:=by
 obtain⟨eB,σ2,aA,aC⟩:=h;refine⟨eB,σ2,aA,?_⟩;cases e with
 |normal=>obtain⟨dO,x,r,aL,h1,D,aj,aV⟩:=aC;exact⟨dO,x,r,aL,h1,D,aj,aK _ _ aV⟩
 |ret=>obtain⟨dO,x,r,aL,h1,D,aj,aV⟩:=aC;exact⟨dO,x,r,aL,h1,D,aj,aK _ _ aV⟩
 |_=>exact aC
variable {N:Nat}{P:Program}{dH:List W}{f:FuncId}
def ayq{ids:ei}{ey:ag}{o:Oper}{c:Call}{ZI:List W}(news:ei)(ar:o.op=.call c)(aI:vf env c=some (f,ZI))(Z:tQ ey.ids σ ZI=some dH)(j1:σ.at ey.ids=some ey)
  (dI:news.all (λd=>!ids.contains d&&(σ.get d).isNone)=true) (ek:(σ.minus ey.ids).clean news.contains=true) (j3:∀r σ2,ih r σ2→r.refs (λd=>!(ey.ids++news).contains d)=false∧σ2.clean (λd=>!(ey.ids++news).contains d)=true) (cv:gZ P f ey dH ih) (ah:cS P f) :
  hK ⟨P,N,ids⟩ o env.ev σ (ey.ids++news) news (λr aL=>∃σ2,ih r σ2∧aL=σ2++σ.minus ey.ids):=by
 obtain⟨hH,args,k,aT,ps,rfl,bc,aK,rfl⟩:=Bd aI;exact ayG (G:=⟨P,N,ids⟩) (σ:=σ) news ar bc ah.h cv aK (A4 Z) (axG j1).1 dI ek j3
def OB{P:Program}(b6:hf)(ids:ei)(ops:lp)(n:Nat)(i4:List mS)(Z:List (Nat×Hint P))(env:an)(σ:ag):Option (an×ag×List cW):=match xV ids i4 env σ with
 |none=>none
 |some (e0,jM)=>sU b6 ids ops ⟨false,[],[]⟩ ((List.range n).map λi=>(i,hintOf Z i)) [] e0 jM
def WE{P:Program}(b6:hf)(ids:ei)(ops:lp)(n:Nat)(i4:List mS)(Z:List (Nat×Hint P))(env:an)(σ:ag):Option (FuncId×List W×List cW):=match OB b6 ids ops n i4 Z env σ with
 |none=>none
 |some (e1,s1,jP)=>match ops[n]? with
  |none=>none
  |some o=>match o.guard with
   |some _=>none
   |none=>match o.op with
    |.call c=>(match vf e1 c with
     |none=>none
     |some (f,ps)=>match tQ [] s1 ps with
      |none=>none
      |some dH=>some (f,dH,jP))
    |_=>none
def WG{P:Program}(b6:hf)(ids:ei)(ops:lp)(n:Nat)(hx:ei)(i4:List mS)(Z fV:List (Nat×Hint P))(env:an)(σ:ag)(bZ:W)(ks ds:ei):Option (an×ag×List cW):=match OB b6 ids ops n i4 Z env σ with
 |none=>none
 |some (e1,s1,_)=>match ops[n]? with
  |none=>none
  |some o=>match sU b6 ids ops ⟨false,[],[]⟩ (hx.map λi=>(i,hintOf fV i)) [] (e1.put o.dst bZ) s1 with
   |none=>none
   |some (e2,e8,jP)=>match BB [] ds e8 e2 ks with
    |none=>none
    |some bT=>match e8.at ds with
     |none=>none
     |some s3=>some (bT,s3,jP)
def ayL{ids:ei}{b6:hf}{Q:Exit→an→ag→Prop}{y:Code}(bn:j7 P b6){id:Nat}{ops:lp}(n:Nat)(hx:ei)(i4:List mS)(Z:List (Nat×Hint P))(cv:gZ P f [] dH ih)(ah:cS P f)
  (aP:List.range ops.size=List.range n++n::hx) (aa:zh N ops=true) (h:WE b6 ids ops n i4 Z env σ=some (f,dH,(List.range n).map λi=>(hintOf Z i).exp)) (j3:∀r σ2,ih r σ2→r.refs (λd=>!([]:ei).contains d)=false∧σ2=[])
  (k:∀bZ σ2,ih bZ σ2→∃(fV:List (Nat×Hint P)) (eB:an) (σ3:ag),WG b6 ids ops n hx i4 Z fV env σ bZ (rQ eB) σ3.ids=some (eB,σ3,hx.map λi=>(hintOf fV i).exp)∧aF ⟨P,N,ids⟩ y Q eB σ3):aF ⟨P,N,ids⟩ (.seq (.region id ops false) y) Q env σ:=by
 simp only[WE]at h;split at h
 ·cases h
 ·rename_i e1 s1 jP u;split at h
  ·cases h
  ·rename_i o ar;split at h
   ·cases h
   ·rename_i bQ;split at h
    ·rename_i c hop;split at h
     ·cases h
     ·rename_i n0 ps aI;split at h
      ·cases h
      ·rename_i zA vN;simp only[Option.some.injEq,Prod.mk.injEq]at h;obtain⟨rfl,rfl,c5⟩:=h;have k8:=u;simp only[OB]at u;split at u
       ·cases u
       ·rename_i e0 jM hm;refine axB (Bl hm) (A.seq (ayh bn n hx Z e1 s1 aP aa (by rw[u,c5]) ar bQ (ayq (ey:=[]) [] hop aI vN rfl rfl (ax3 _) (λr σ2 aK=>?_) cv ah) (ax0 _) rfl ?_))
        ·obtain⟨cZ,c8⟩:=j3 r σ2 aK;exact⟨cZ,by rw[c8];rfl⟩
        ·rintro bZ aL ⟨σ2,aK,rfl⟩;obtain⟨cZ,c8⟩:=j3 bZ σ2 aK;subst c8;obtain⟨fV,eB,σ3,cM,dY⟩:=k bZ [] aK;rw[show([]:ag)++s1.minus (ag.ids [])=s1 from K4 s1];simp only[WG,k8,ar]at cM;split at cM
         ·cases cM
         ·rename_i e2 e8 aqh lK;split at cM
          ·cases cM
          ·rename_i bT Cz;split at cM
           ·cases cM
           ·rename_i s3 sD;simp only[Option.some.injEq,Prod.mk.injEq]at cM;obtain⟨rfl,rfl,lY⟩:=cM;exact⟨fV,e2,e8,by rw[lK,lY],axB (ax8 (Hf Cz) (axG sD).1) dY⟩
    ·cases h
noncomputable def ES{α β:Type}(P:α→Prop)(K:α→Option β):Option β:=@dite _ (∃r,(∃a,P a)∧∀a,P a→K a=some r) (Classical.propDecidable _) (λh=>some (Classical.choose h)) (λ_=>none)
variable {α β:Type}{K:α→Option β}{r:β}
def acN{P:α→Prop}(h:ES P K=some r):∀a,P a→K a=some r:=by
 unfold ES at h;split at h
 ·rename_i u;have:=(Classical.choose_spec u).2;rw[Option.some.inj h]at this;exact this
 ·cases h
def agK{P:α→Prop}(h1:∃a,P a)(h:∀a,P a→K a=some r):ES P K=some r:=by
 unfold ES;have u:∃r,(∃a,P a)∧∀a,P a→K a=some r:=⟨r,h1,h⟩;rw[dif_pos u];obtain⟨a,aI⟩:=h1;have:=(Classical.choose_spec u).2 a aI;rw[h a aI]at this;exact this.symm
end
end
section
set_option linter.all false
open Go List
def Ta{I:bP}:∀{xs:List W} {vs:fK} {i:Nat} {a:W},cD I xs vs→xs[i]?=some a→∃v,vs[i]?=some v∧bk I a v
 |[],_,_,_,_,h=>by simp at h
 |x::r,vs,i,a,h,hi=>by
  simp only[cD]at h;obtain⟨aq,b8,rfl,h1,D⟩:=h;cases i with
  |zero=>simp only[getElem?_cons_zero,Option.some.injEq]at hi ⊢;subst hi;exact⟨aq,rfl,h1⟩
  |succ i=>simp only[getElem?_cons_succ]at hi ⊢;exact Ta D hi
def Tb{I:bP}{a:W}{v:Value}(aI:bk I a v):∀{xs:List W} {vs:fK} (i:Nat),cD I xs vs→cD I (xs.set i a) (vs.set i v)
 |[],vs,i,h=>by simp only[cD]at h;subst h;simp[cD]
 |x::r,vs,i,h=>by
  simp only[cD]at h;obtain⟨aq,b8,rfl,h1,D⟩:=h;cases i with
  |zero=>simp only[set_cons_zero,cD];exact⟨v,b8,rfl,aI,D⟩
  |succ i=>simp only[set_cons_succ,cD];exact⟨aq,_,rfl,h1,Tb aI i D⟩
def aaK{α:Type}{a:α}:∀{l:List (List α)} (i:Nat),(∀e∈l,e.length=1)→(l.set i [a]).flatten=l.flatten.set i a
 |[],i,_=>by simp
 |x::r,i,h=>by
  have u:=h x (by simp);obtain⟨y,rfl⟩:∃y,x=[y]:=by
   match x,u with
   |[y],_=>exact⟨y,rfl⟩
  cases i with
  |zero=>simp
  |succ i=>simp only[set_cons_succ,flatten_cons,cons_append,nil_append];rw[aaK i λe he=>h e (by simp[he])]
variable {I:bP}{cx:gj}{w:World}{β:Nat→Value}
def UP{G:c7}{σ:ag}(aA:cG G cx I β σ w){e:Nat}{dy:List hE}(he:σ.get e=some (.cO dy)){Z:jj}(Y:β e=.tuple Z):jv cx I w dy Z.toList:=by
 have h:=aA.dK e _ he;simp only[br,Y,Value.tuple.injEq,reduceCtorEq,false_or]at h;obtain⟨m9,rfl,h⟩:=h;exact h
def jv.turn{cx:gj}{I:bP}{w w':World}{b:Nat}{x:hE}(hk:∀c,c≠b→c<w.heap.size→w'.heap[c]?=w.heap[c]?):∀{dy:List hE} {Z:fK},jv cx I w dy Z→∀{p:Nat} {aq:Value},p<dy.length→Z[p]?=some aq→cV aq=some b→l1 cx I w' x aq→jv cx I w' (dy.set p x) Z
 |[],_,_,p,_,aK,_,_,_=>by simp at aK
 |y::r,Z,h,p,aq,aK,cF,nK,u=>by
  simp only[jv]at h;obtain⟨v,vs,rfl,h1,D,aj⟩:=h;cases p with
  |zero=>
   simp only[getElem?_cons_zero,Option.some.injEq]at cF;subst cF;simp only[set_cons_zero,jv];refine⟨v,vs,rfl,u,D,aj.go (dc.refl I) λc ah=>⟨λcq=>hk c (λe=>?_) cq,λ_=>rfl,id⟩⟩;subst e;exact D c nK ah
  |succ p=>
   simp only[getElem?_cons_succ]at cF;simp only[set_cons_succ,jv];have gi:b∈vs.filterMap cV:=List.mem_filterMap.2 ⟨aq,List.mem_of_getElem? cF,nK⟩;refine⟨v,vs,rfl,h1.go (dc.refl I) λc ah=>⟨λcq=>hk c (λe=>?_) cq,λ_=>rfl,id⟩,D,jv.turn hk aj (by simpa using aK) cF nK u⟩;subst e;exact D c ah gi
def abR{p:Nat→Bool}(h:∀d,p d=false)(o:c4):pE p o=false:=by
 cases o<;>simp only[pE,yL h,h,Bool.false_or]
 all_goals (split<;>simp[h])
section
variable {G:c7}{σ:ag}{o:Oper}{ev:Operand→W}
def azi{T d e p bb n:Nat}{dy:List hE}{x:Operand}(h:o.op=.load T x)(u:ev x=.ptr d p)(aa:σ.get d=some (.e5 bb e n none))(he:σ.get e=some (.cO dy))(aK:p<dy.length)(aR:dS G.P T 1 false):
  Yields G o ev σ [] [d,e] (.fH (.row p) e):=
 .pure λaL cx I β w bp cz aA hop=>by
  have h1:=hop x (by simp[h,Op.operands]);rw[u]at h1
  simp only[aD]at h1;obtain⟨b,h1,D⟩:=h1;have k6:β d≠.nilFunc:=λe=>by rw[e]at h1;cases h1
  obtain⟨aX,aT,arr,Z,ay,aG,a1,aW,bt,b1,cE,dA,ef,eY,gb,qn⟩:=DA aA (by rw[cz d (by simp)];exact aa) (by rw[cz e (by simp)];exact he) k6;have qx:aX=b:=by rw[ay]at h1;simpa [cV]using h1
  subst qx;have k7:p<Z.toList.length:=by simp;omega
  have tG:Z.toList[p]?=some (Z.toList[p]'k7):=List.getElem?_eq_getElem k7;generalize Z.toList[p]'k7=iP at tG;have nh:arr[p]?=some iP:=by
   have:(arr.toList.take n)[p]?=Z.toList[p]?:=by rw[show arr.toList.take n=Z.toList from dA]
   rw[getElem?_take,if_pos (by omega),tG]at this;simpa using this
  have m5:∀j,j<1→∃v,[iP][j]?=some v∧w.cell? ⟨aX,p+j,none⟩=some v:=λj aY=>by
   have:j=0:=by omega
   subst this;exact⟨iP,rfl,by simp[World.cell?,aW,nh]⟩
  have aP:=wW aR (vs:=[iP]) m5 (λ_=>by omega);exact⟨iP,by simp[execOp,h,D,Instr.loadAt,Instr.sureAddr,aP],by simp only[aD,om.rep];exact⟨Z,b1,tG⟩⟩
def Ud{cx:gj}{I:bP}{β:Nat→Value}{w:World}(aA:cG G cx I β σ w){e p gT sz:Nat}{dy:List hE}{rows:List (List W)}(he:σ.get e=some (.cO dy))(aC:dy[p]?=some (.sl gT sz rows)){v:Value}(ai:(om.row p).rep (β e) v)(bA:rows≠[]):
  ∃Z b aT arr,β e=.tuple Z∧Z.toList[p]?=some v∧jv cx I w dy Z.toList∧v=.slice (some ⟨b,0,none⟩) rows.length aT∧rows.length≤aT∧aT≤maxLen∧w.heap[b]?=some (.cells arr gT (0,0))∧arr.size=aT*sz∧
    cD I rows.flatten (arr.toList.take (rows.length*sz))∧(∀e∈rows,e.length=sz)∧(∀o:Nat,I b o=none)∧Place cx b:=by
 obtain⟨Z,ay,aG⟩:=ai;have Y:=UP aA he ay;obtain⟨eP,cZ,c8⟩:=Y.get aC;rw[aG]at cZ;cases cZ;rcases c8 with⟨_,g⟩|⟨b,aT,arr,cZ,c8,h3,nE,vB,Cp,ane,anf,ang⟩
 ·exact absurd g bA
 ·exact⟨Z,b,aT,arr,ay,aG,Y,cZ,c8,h3,nE,vB,Cp,ane,anf,ang⟩
def ayW{T E sz e p gT:Nat}{dy:List hE}{rows:List (List W)}{x y:Operand}{k:IntKind}{i:Int}(h:o.op=.indexAddr T x y)(u:ev x=.fH (.row p) e)(ak:ev y=.int k i)(he:σ.get e=some (.cO dy))(aC:dy[p]?=some (.sl gT sz rows))(aR:ji G.P T E sz)
  (hi:0≤i∧i<rows.length):Yields G o ev σ [] [e] (.fH (.pT p (i.toNat*sz)) e):=
 .pure λaL cx I β w bp cz aA hop=>by
  have h1:=hop x (by simp[h,Op.operands]);rw[u]at h1
  have D:=hop y (by simp[h,Op.operands]);rw[ak]at D;have D:=jT D
  simp only[aD]at h1;obtain⟨Z,b,aT,arr,ay,aG,_,a1,aW,bt,b1,cE,dA,ef,eY,gb⟩:=Ud aA (by rw[cz e (by simp)];exact he) aC h1 (λe=>by rw[e]at hi;simp at hi;omega);have e1:∀w,(underlying T).run G.P w=.ok (.slice E) w:=λw=>by simp[underlying,program,Sem.run,aR.ia]
  have vH:0≤i∧i<(rows.length:Int):=by omega
  refine⟨.pointer (some ⟨b,i.toNat*sz,none⟩),by simp[execOp,h,D,a1,Instr.indexAt,asIntOf,e1,vH,aR.size,lG],?_⟩;simp only[aD,om.rep];exact⟨Z,_,b,ay,aG,by rw[a1];rfl,rfl⟩
def ay8{T e p gT sz:Nat}{dy:List hE}{rows:List (List W)}{x:Operand}{jg}(h:o.op=.call ⟨.builtin .len,#[x],jg⟩)(hk:jg=#[T])(u:ev x=.fH (.row p) e)(he:σ.get e=some (.cO dy))(aC:dy[p]?=some (.sl gT sz rows)){E:Nat}(aR:G.P.underlying T=some (.slice E)):
  Yields G o ev σ [] [e] (.int .i64 (rows.length:Int)):=
 .pure λaL cx I β w bp cz aA hop=>by
  subst hk;have h1:=hop x (by simp[h,Op.operands,Call.operands]);rw[u]at h1
  simp only[aD]at h1;have ai:∃a c,bp x=.slice a rows.length c:=by
   obtain⟨Z,ay,aG⟩:=h1;have Y:=UP aA (by rw[cz e (by simp)];exact he) ay;obtain⟨eP,cZ,c8⟩:=Y.get aC;rw[aG]at cZ;cases cZ;rcases c8 with⟨g,ox⟩|⟨b,aT,arr,cZ,_⟩
   ·exact⟨none,0,by rw[g,ox];rfl⟩
   ·exact⟨_,_,cZ⟩
  obtain⟨a,c,ai⟩:=ai;have e1:∀w,(underlying T).run G.P w=.ok (.slice E) w:=λw=>by simp[underlying,program,Sem.run,aR]
  exact⟨.int .i64 rows.length,by simp[execOp,h,resolve,invoke,builtin,Builtin.len_,ai,e1,goInt],by simp[aD,bk]⟩
def T2{cx:gj}{I:bP}{β:Nat→Value}{w:World}(aA:cG G cx I β σ w){e p off gT sz:Nat}{dy:List hE}{rows:List (List W)}(he:σ.get e=some (.cO dy))(aC:dy[p]?=some (.sl gT sz rows)){v:Value}(ai:(om.pT p off).rep (β e) v)(bA:rows≠[]):
  ∃Z aq b aT arr,β e=.tuple Z∧Z.toList[p]?=some aq∧cV aq=some b∧jv cx I w dy Z.toList∧v=.pointer (some ⟨b,off,none⟩)∧aq=.slice (some ⟨b,0,none⟩) rows.length aT∧rows.length≤aT∧aT≤maxLen∧w.heap[b]?=some (.cells arr gT (0,0))∧arr.size=aT*sz∧
    cD I rows.flatten (arr.toList.take (rows.length*sz))∧(∀e∈rows,e.length=sz)∧(∀o:Nat,I b o=none)∧Place cx b:=by
 obtain⟨Z,aq,b,ay,aG,a1,aW⟩:=ai;obtain⟨m9,aX,aT,arr,cZ,c8,h3,nE,vB⟩:=Ud aA he aC (v:=aq) ⟨Z,ay,aG⟩ bA;have:aX=b:=by rw[nE]at a1;simpa [cV]using a1
 subst this;rw[ay]at cZ;cases cZ;exact⟨Z,aq,aX,aT,arr,ay,aG,a1,h3,aW,nE,vB⟩
def ayR{T e p off gT sz:Nat}{dy:List hE}{rows:List (List W)}{x:Operand}{a:W}(h:o.op=.load T x)(u:ev x=.fH (.pT p off) e)(he:σ.get e=some (.cO dy))(aC:dy[p]?=some (.sl gT sz rows))(aI:rows.flatten[off]?=some a)(aR:dS G.P T 1 false):
  Yields G o ev σ [] [e] a:=
 .pure λaL cx I β w bp cz aA hop=>by
  have h1:=hop x (by simp[h,Op.operands]);rw[u]at h1
  simp only[aD]at h1;obtain⟨Z,aq,b,aT,arr,ay,aG,a1,aW,bt,b1,cE,dA,ef,eY,gb,qn,QT,QU⟩:=T2 aA (by rw[cz e (by simp)];exact he) aC h1 (λe=>by rw[e]at aI;simp at aI);obtain⟨v,cZ,c8⟩:=Ta gb aI;have nh:arr[off]?=some v:=by
   rw[getElem?_take]at cZ;split at cZ
   ·simpa using cZ
   ·cases cZ
  have m5:∀j,j<1→∃eP,[v][j]?=some eP∧w.cell? ⟨b,off+j,none⟩=some eP:=λj aY=>by
   have:j=0:=by omega
   subst this;exact⟨v,rfl,by simp[World.cell?,ef,nh]⟩
  have aP:=wW aR (vs:=[v]) m5 (λ_=>by omega);exact⟨v,by simp[execOp,h,bt,Instr.loadAt,Instr.sureAddr,aP],bk.rep _ _ _ c8⟩
def azI{T e p off gT:Nat}{dy:List hE}{rows:List (List W)}{x y:Operand}{a:W}(h:o.op=.store T x y)(u:ev x=.fH (.pT p off) e)(ak:ev y=a)(ah:a.closed=true)(ani:a.one=true)(he:σ.get e=some (.cO dy))(aC:dy[p]?=some (.sl gT 1 rows))(ar:off<rows.length)(aR:dS G.P T 1 false):
  hK G o ev σ [e] [] (λr aL=>r=.undef∧aL=(e,.cO (dy.set p (.sl gT 1 (rows.set off [a]))))::σ.minus [e]):=by
 intro cx I β w bp aA hop;have h1:=hop x (by simp[h,Op.operands]);rw[u]at h1
 have aj:=hop y (by simp[h,Op.operands]);rw[ak]at aj
 simp only[aD]at h1;obtain⟨Z,aq,b,aT,arr,ay,aG,a1,aW,bt,b1,cE,dA,ef,eY,gb,qn,QT,QU⟩:=T2 aA he aC h1 (λe=>by rw[e]at ar;simp at ar);have qB:=ayy ani aj;have an9:=aD.closed _ _ ah aj;have lB:=JU (P:=G.P) ef [bp y] (off:=off) (by simp;omega) (λv ai=>by rw[List.mem_singleton.1 ai];exact qB.1);have gF:(execOp bp o).run G.P w=.ok .skip (w.setRow b (iT arr.toList off [bp y]).toArray):=by
  have e1:((#[bp y]:jj).size≠1)=False:=by simp
  simp[execOp,h,bt,Instr.storeAt,Instr.sureAddr,storeVar,aR.size,qB.2,lB]
 rw[gF];have kK:(σ.get e).isSome:=by rw[he];rfl
 have hk:hJ w (w.setRow b (iT arr.toList off [bp y]).toArray) b:=hJ.setRow w b _;have an2:b∈e4 (β e):=by rw[ay,rq];exact List.mem_filterMap.2 ⟨aq,List.mem_of_getElem? aG,a1⟩
 have oZ:iT arr.toList off [bp y]=arr.toList.set off (bp y):=by
  apply List.ext_getElem?;intro i;simp only[iT,length_singleton];rw[List.getElem?_set];by_cases lW:off=i
  ·subst lW;rw[if_pos rfl,if_pos (by simp;omega),List.append_assoc,List.getElem?_append_right (by simp;omega),length_take,Nat.min_eq_left (by simp;omega)];simp
  ·rw[if_neg lW];by_cases cq:i<off
   ·rw[List.append_assoc,List.getElem?_append_left (by simp;omega),getElem?_take,if_pos cq]
   ·rw[List.getElem?_append_right (by simp;omega),getElem?_drop];congr 1;simp only[length_append,length_take,length_singleton,Array.length_toList];omega
 have jm:l1 cx I (w.setRow b (iT arr.toList off [bp y]).toArray) (.sl gT 1 (rows.set off [a])) aq:=by
  refine .inr ⟨b,aT,_,by rw[b1,length_set],by rw[length_set];exact cE,dA,setRow_heap w b arr _ gT _ ef,?_,?_,?_,QT,QU⟩
  ·rw[oZ];simp[eY]
  ·rw[aaK off qn,length_set,oZ];have:=Tb an9 off gb;rw[←take_set]at this;simpa using this
  ·intro dW Po;rcases List.mem_or_eq_of_mem_set Po with q|q
   ·exact qn dW q
   ·rw[q];rfl
 have k7:p<dy.length:=(List.getElem?_eq_some_iff.1 aC).1;have Ox:=jv.turn (λc ah cq=>hk.block c ah cq) aW k7 aG a1 jm
 have nQ:∀y,y≠e→ag.get ((e,c4.cO (dy.set p (.sl gT 1 (rows.set off [a]))))::σ.minus [e]) y=σ.get y:=λy ak=>by
  rw[axp,if_neg (Ne.symm ak),axz,if_neg (by simpa using ak)]
 refine⟨.undef,_,I,β,⟨rfl,rfl⟩,by simp[aD,bk],?_,dc.refl I,λ_ _=>rfl,λy ak=>nQ y (by simpa using ak)⟩;refine aA.redo (M:=[e]) (news:=[]) (b:=b) (gC:=β) hk (λo=>?_) (λy ak Z dW=>?_) QU (λy ak=>nQ y (by simpa using ak)) (λ_ _=>rfl) (λy ak=>by cases ak) (λy o _ _=>?_) (λy ak o kE=>?_) (λy ak fV c ah=>?_) (λy ak z hz sF fU fV c ah j2=>?_)
 ·cases o with
  |none=>exact aA.uZ ef
  |some o=>exact QT o
 ·exact aA.eN e y kK Z (λe=>ak (by simp[e])) b an2 dW
 ·exact abR (λ_=>rfl) o
 ·simp only[List.mem_singleton]at ak;subst ak;rw[axp,if_pos rfl]at kE;cases kE;simp only[br];exact .inr ⟨Z,ay,Ox⟩
 ·simp only[List.mem_singleton]at ak;subst ak;exact⟨y,by simp,kK,ah⟩
 ·simp only[List.mem_singleton]at ak hz;exact sF (ak.trans hz.symm)
end
def T3{cx:gj}{I bm:bP}{w:World}{α:Type}{T sz:Nat}{enc:α→List W}(hle:dc I bm):∀(l:List (List α)) (vs:fK),jv cx I w (encS T sz enc l) vs→(∀b∈vs.filterMap cV,∀o,bm b o=iO w b o)→cD bm (l.map λr=>[W.bf false (r.map enc)]).flatten vs
 |[],vs,h,_=>by simp only[encS,map_nil,jv]at h;subst h;simp[cD]
 |r::l,vs,h,fZ=>by
  simp only[encS,map_cons,jv]at h;obtain⟨aq,b8,rfl,h1,_,aj⟩:=h;simp only[map_cons,flatten_cons,cons_append,nil_append,cD];refine⟨aq,b8,rfl,l1.bf h1 hle λb Y=>fZ b (by simp[Y]),T3 hle l b8 aj λb Y=>fZ b ?_⟩;rw[filterMap_cons];split
  ·exact Y
  ·exact mem_cons_of_mem _ Y
variable {T:Nat}
def aym{G:c7}{env:an}{σ:ag}{α:Type}{bl sz d e n:Nat}(l:List (List α))(enc:α→List W)(aa:σ.get d=some (.e5 T e n none))(he:σ.get e=some (.cO (encS bl sz enc l))):
  dr G env σ env ((d,.slice T 1 (l.map λr=>[.bf false (r.map enc)]) 0 false)::σ.minus [d,e]):=λcx I β a w h dw=>by
 have m7:d≠e:=λdW=>by subst dW;rw[aa]at he;cases he
 have vG:(σ.get d).isSome:=by rw[aa];rfl
 have kK:(σ.get e).isSome:=by rw[he];rfl
 let bm:bP:=λb o=>if b∈e4 (β e)then iO w b o else I b o
 have gi:∀b,b∈e4 (β e)→∀o,bm b o=iO w b o:=λb Y o=>if_pos Y;have pL:∀b,¬(b∈e4 (β e))→∀o,bm b o=I b o:=λb Y o=>if_neg Y
 have hle:dc I bm:=λb o v ai=>by
  by_cases Y:b∈e4 (β e)
  ·rw[gi b Y];exact h.U0 b o v ai
  ·rw[pL b Y];exact ai
 have k7:∀b,b∈e4 (β e)→Place cx b:=λb Y=>(h.M8 he Y).2
 have sub:∀x o,ag.get ((d,.slice T 1 (l.map λr=>[.bf false (r.map enc)]) 0 false)::σ.minus [d,e]) x=some o→(x=d∧o=.slice T 1 (l.map λr=>[.bf false (r.map enc)]) 0 false)∨(x≠d∧x≠e∧σ.get x=some o):=λx o u=>by
  rw[axp,axz]at u;split at u
  ·rename_i dW;exact .inl ⟨dW.symm,(Option.some.inj u).symm⟩
  ·rename_i iE;split at u
   ·cases u
   ·rename_i jC;simp only[mem_cons,not_mem_nil,or_false,not_or]at jC;exact .inr ⟨jC.1,jC.2,u⟩
 have WH:∀x,(ag.get ((d,c4.slice T 1 (l.map λr=>[.bf false (r.map enc)]) 0 false)::σ.minus [d,e]) x).isSome→(σ.get x).isSome:=λx u=>by
  obtain⟨o,u⟩:=Option.isSome_iff_exists.1 u;rcases sub x o u with⟨rfl,_⟩|⟨_,_,u⟩
  ·exact vG
  ·rw[u];rfl
 refine⟨bm,β,{h with good:=λb o v ai=>?_,iU:=λb v ai=>?_,ku:=h.ku.trans hle,jY:=λb Y be o=>?_,dK:=λx o u=>?_,eN:=λx y u ak=>h.eN x y (WH x u) (WH y ak)},dw.mono hle (h8.refl β)⟩
 ·by_cases Y:b∈e4 (β e)
  ·rw[gi b Y]at ai;exact G6 b o v ai
  ·rw[pL b Y]at ai;exact h.good b o v ai
 ·by_cases Y:b∈e4 (β e)
  ·rw[gi b Y]at ai;exact GR b v ai
  ·rw[pL b Y]at ai;exact h.iU b v ai
 ·have:¬(b∈e4 (β e)):=λh5=>by
   rcases k7 b h5 with q|q
   ·omega
   ·exact be q
  rw[pL b this];exact h.jY b Y be o
 ·rcases sub x o u with⟨rfl,rfl⟩|⟨iE,jC,u⟩
  ·by_cases k6:β x=.nilFunc
   ·simp only[br];exact .inl k6
   obtain⟨b,aT,arr,Z,ay,aG,a1,aW,bt,b1,cE,dA,ef,eY,gb,qn⟩:=DA h aa he k6;have yA:l.length=n:=by simpa [encS]using qn
   have CF:¬b∈e4 (β e):=h.eN x e vG kK m7 b (lF (by rw[ay];rfl));simp only[br];refine .inr (.inr ⟨b,aT,arr,by rw[ay];simp[yA],by simp[yA];exact aG,a1,aW,by simpa using bt,?_,λe Po=>?_,Nat.zero_le _,(λh=>by cases h),(λo _=>by rw[pL b CF];exact ef o),eY⟩)
   ·have:=T3 hle l Z.toList gb λb Y=>gi b (by rw[b1,rq];exact Y);rw[←show arr.toList.take n=Z.toList from dA]at this;simpa [yA]using this
   ·obtain⟨r,_,rfl⟩:=List.mem_map.1 Po;rfl
  ·exact(h.dK x o u).apH hle λb Y=>pL b λq=>h.eN x e (by rw[u];rfl) kK jC b Y q
section
variable {P:Program}
def KF(bb:Nat)(op:Op)(env:an)(σ:ag):Option (c9×cW):=match op with
 |.load T x=>(match env.dg x with
  |some (.ptr d p)=>(match σ.get d with
   |some (.e5 gT e n none)=>(match σ.get e with
    |some (.cO dy)=>bif Nat.beq T bb then some (.y [d,e] (.fH (.row p) e),([.ptr 0 p],[(0,.cO dy)]))else none
    |_=>none)
   |_=>none)
  |_=>none)
 |_=>none
def ahR{bb p:Nat}{dy:List hE}(aR:dS P bb 1 false)(aK:p<dy.length){o:Oper}{N:Nat}{ids:ei}{env:an}{σ:ag}{s:c9}{aZ:cW}
  (h:KF bb o.op env σ=some (s,aZ)) (he:aZ=([.ptr 0 p],[(0,.cO dy)])):gh ⟨P,N,ids⟩ o env σ s:=by
 cases ar:o.op<;>rw[ar]at h
 case load T x=>
  simp only[KF]at h;split at h
  ·rename_i d oM u;split at h
   ·rename_i gT e n aa;split at h
    ·rename_i Jh Y;cases ah:Nat.beq T bb with
     |false=>rw[ah]at h;cases h
     |true=>
      rw[ah]at h;have:=Nat.eq_of_beq_eq_true ah;subst this;cases h;simp only[Prod.mk.injEq,List.cons.injEq,W.ptr.injEq,c4.cO.injEq,and_true,true_and]at he;obtain⟨rfl,rfl⟩:=he;exact azi ar (axo u) aa Y aK aR
    ·cases h
   ·cases h
  ·cases h
 all_goals (simp only[KF]at h;cases h)
def y0{α:Type}{l:List α}{i:Int}{r:α}(h:b2 l i=some r):0≤i∧i.toNat<l.length∧l[i.toNat]?=some r:=by
 unfold b2 at h;split at h
 ·exact⟨‹_›,(List.getElem?_eq_some_iff.1 h).1,h⟩
 ·cases h
def rH{α:Type}{bb bl sz:Nat}{enc:α→List W}{l:List (List α)}{i:Int}{r:List α}(h:b2 l i=some r)(aR:dS P bb 1 false):Hint P:=
 .gs false ([.ptr 0 i.toNat],[(0,.cO (encS bl sz enc l))]) (λ_=>KF bb) λ_ _ _ _ _ _ _ dw he=>ahR aR (by simpa [encS]using (y0 h).2.1) dw he
def Kz(bb:Nat)(op:Op)(env:an)(σ:ag):Option (c9×cW):=match op with
 |.indexAddr T x y=>(match env.dg x with
  |some (.fH (.row p) e)=>(match env.dg y with
   |some (.int k j)=>(match σ.get e with
    |some (.cO dy)=>bif Nat.beq T bb then some (.y [e] (.fH (.pT p j.toNat) e),([.fH (.row p) 0,.int .i64 j],[(0,.cO dy)]))else none
    |_=>none)
   |_=>none)
  |_=>none)
 |_=>none
def aiu{bb E p gT:Nat}{j:Int}{dy:List hE}{rows:List (List W)}(aC:dy[p]?=some (.sl gT 1 rows))(aR:ji P bb E 1)(aY:0≤j∧j<rows.length){o:Oper}{N:Nat}{ids:ei}{env:an}{σ:ag}{s:c9}{aZ:cW}
  (h:Kz bb o.op env σ=some (s,aZ)) (he:aZ=([.fH (.row p) 0,.int .i64 j],[(0,.cO dy)])):gh ⟨P,N,ids⟩ o env σ s:=by
 cases ar:o.op<;>rw[ar]at h
 case indexAddr T x y=>
  simp only[Kz]at h;split at h
  ·rename_i oM e u;split at h
   ·rename_i k avO ak;split at h
    ·rename_i Jh Y;cases ah:Nat.beq T bb with
     |false=>rw[ah]at h;cases h
     |true=>
      rw[ah]at h;have:=Nat.eq_of_beq_eq_true ah;subst this;cases h;simp only[Prod.mk.injEq,List.cons.injEq,W.fH.injEq,om.row.injEq,W.int.injEq,c4.cO.injEq,and_true,true_and]at he;obtain⟨⟨rfl,rfl⟩,rfl⟩:=he;have:=ayW (G:=⟨P,N,ids⟩) ar (axo u) (axo ak) Y aC aR aY;rw[Nat.mul_one]at this;exact this
    ·cases h
   ·cases h
  ·cases h
 all_goals (simp only[Kz]at h;cases h)
def LM{α:Type}{bl sz:Nat}{enc:α→List W}{l:List (List α)}{i:Int}{r:List α}(h:b2 l i=some r):(encS bl sz enc l)[i.toNat]?=some (.sl bl sz (r.map enc)):=by
 simp[encS,(y0 h).2.2]
def sC{α:Type}{bb E bl:Nat}{enc:α→List W}{l:List (List α)}{i j:Int}{r:List α}{c:α}(h:b2 l i=some r)(D:b2 r j=some c)(aR:ji P bb E 1):Hint P:=
 .gs false ([.fH (.row i.toNat) 0,.int .i64 j],[(0,.cO (encS bl 1 enc l))]) (λ_=>Kz bb) λ_ _ _ _ _ _ _ dw he=>aiu (LM h) aR (by have:=y0 D;rw[length_map];omega) dw he
def KA(bb:Nat)(a:W)(op:Op)(env:an)(σ:ag):Option (c9×cW):=match op with
 |.load T x=>(match env.dg x with
  |some (.fH (.pT p off) e)=>(match σ.get e with
   |some (.cO dy)=>bif Nat.beq T bb then some (.y [e] a,([.fH (.pT p off) 0],[(0,.cO dy)]))else none
   |_=>none)
  |_=>none)
 |_=>none
def aiv{bb p off gT sz:Nat}{dy:List hE}{rows:List (List W)}{a:W}(aC:dy[p]?=some (.sl gT sz rows))(aI:rows.flatten[off]?=some a)(aR:dS P bb 1 false){o:Oper}{N:Nat}{ids:ei}{env:an}{σ:ag}{s:c9}{aZ:cW}
  (h:KA bb a o.op env σ=some (s,aZ)) (he:aZ=([.fH (.pT p off) 0],[(0,.cO dy)])):gh ⟨P,N,ids⟩ o env σ s:=by
 cases ar:o.op<;>rw[ar]at h
 case load T x=>
  simp only[KA]at h;split at h
  ·rename_i oM aqi e u;split at h
   ·rename_i Jh Y;cases ah:Nat.beq T bb with
    |false=>rw[ah]at h;cases h
    |true=>
     rw[ah]at h;have:=Nat.eq_of_beq_eq_true ah;subst this;cases h;simp only[Prod.mk.injEq,List.cons.injEq,W.fH.injEq,om.pT.injEq,c4.cO.injEq,and_true,true_and]at he;obtain⟨⟨rfl,rfl⟩,rfl⟩:=he;exact ayR ar (axo u) Y aC aI aR
   ·cases h
  ·cases h
 all_goals (simp only[KA]at h;cases h)
def ad8{α:Type}{enc:α→List W}{f:α→W}(bc:∀x,enc x=[f x]){r:List α}{j:Nat}{c:α}(h:r[j]?=some c):(r.map enc).flatten[j]?=some (f c):=by
 have:(r.map enc).flatten=r.map f:=by
  clear h;induction r with
  |nil=>rfl
  |cons x r bX=>simp[bc,bX]
 rw[this,List.getElem?_map,h];rfl
def oC{α:Type}{bb bl:Nat}{enc:α→List W}{f:α→W}{l:List (List α)}{i j:Int}{r:List α}{c:α}(h:b2 l i=some r)(D:b2 r j=some c)(bc:∀x,enc x=[f x])(aR:dS P bb 1 false):Hint P:=
 .gs false ([.fH (.pT i.toNat j.toNat) 0],[(0,.cO (encS bl 1 enc l))]) (λ_=>KA bb (f c)) λ_ _ _ _ _ _ _ dw he=>aiv (LM h) (ad8 bc (y0 D).2.2) aR dw he
def KD(bb:Nat)(IU:List hE)(op:Op)(env:an)(σ:ag):Option (c9×cW):=match op with
 |.store T x y=>(match env.dg x with
  |some (.fH (.pT p off) e)=>(match env.dg y with
   |some a=>(match σ.get e with
    |some (.cO dy)=>bif Nat.beq T bb then some (.e [e] [] .undef ((e,.cO IU)::σ.minus [e]),([.fH (.pT p off) 0,a],[(0,.cO dy)]))else none
    |_=>none)
   |_=>none)
  |_=>none)
 |_=>none
def aiw{bb p off gT:Nat}{dy IU:List hE}{rows:List (List W)}{a:W}(ah:a.closed=true)(h1:a.one=true)(aC:dy[p]?=some (.sl gT 1 rows))(D:off<rows.length)(aj:IU=dy.set p (.sl gT 1 (rows.set off [a])))(aR:dS P bb 1 false){o:Oper}{N:Nat}{ids:ei}{env:an}{σ:ag}{s:c9}{aZ:cW}
  (h:KD bb IU o.op env σ=some (s,aZ)) (he:aZ=([.fH (.pT p off) 0,a],[(0,.cO dy)])):gh ⟨P,N,ids⟩ o env σ s:=by
 cases ar:o.op<;>rw[ar]at h
 case store T x y=>
  simp only[KD]at h;split at h
  ·rename_i oM aqi e u;split at h
   ·rename_i gl ak;split at h
    ·rename_i Jh Y;cases gr:Nat.beq T bb with
     |false=>rw[gr]at h;cases h
     |true=>
      rw[gr]at h;have:=Nat.eq_of_beq_eq_true gr;subst this;cases h;simp only[Prod.mk.injEq,List.cons.injEq,W.fH.injEq,om.pT.injEq,c4.cO.injEq,and_true,true_and]at he;obtain⟨⟨⟨rfl,rfl⟩,rfl⟩,rfl⟩:=he;subst aj;exact⟨azI ar (axo u) (axo ak) ah h1 Y aC D aR,rfl⟩
    ·cases h
   ·cases h
  ·cases h
 all_goals (simp only[KD]at h;cases h)
def oD{α:Type}{bb bl:Nat}{enc:α→List W}{f:α→W}{l:List (List α)}{i j:Int}{r:List α}{c:α}(x:α)(h:b2 l i=some r)(D:b2 r j=some c)(bc:∀x,enc x=[f x])(ah:(f x).closed=true)(h1:(f x).one=true)(aR:dS P bb 1 false):Hint P:=
 .gs true ([.fH (.pT i.toNat j.toNat) 0,f x],[(0,.cO (encS bl 1 enc l))]) (λ_=>KD bb (encS bl 1 enc (l.set i.toNat (r.set j.toNat x)))) λ_ _ _ _ _ _ _ dw he=>
  aiw ah h1 (LM h) (by rw[length_map];exact(y0 D).2.1) (by rw[Li,List.map_set,bc]) aR dw he
def Dr(bb:Nat)(n:Nat)(op:Op)(env:an)(σ:ag):Option (c9×cW):=match op with
 |.call ⟨.builtin .len,args,ks⟩=>(match args.toList,ks.toList with
  |[x],[T]=>(match env.dg x with
   |some (.fH (.row p) e)=>(match σ.get e with
    |some (.cO dy)=>bif Nat.beq T bb then some (.y [e] (.int .i64 (n:Int)),([.fH (.row p) 0],[(0,.cO dy)]))else none
    |_=>none)
   |_=>none)
  |_,_=>none)
 |_=>none
def aix{bb E n p gT sz:Nat}{dy:List hE}{rows:List (List W)}(aC:dy[p]?=some (.sl gT sz rows))(be:rows.length=n)(aR:P.underlying bb=some (.slice E)){o:Oper}{N:Nat}{ids:ei}{env:an}{σ:ag}{s:c9}{aZ:cW}
  (h:Dr bb n o.op env σ=some (s,aZ)) (he:aZ=([.fH (.row p) 0],[(0,.cO dy)])):gh ⟨P,N,ids⟩ o env σ s:=by
 cases ar:o.op with
 |call c=>
  rw[ar]at h;obtain⟨f,args,ks⟩:=c;cases f with
  |builtin b=>
   cases b<;>first|(simp only[Dr]at h;cases h;done)|skip
   simp only[Dr]at h;split at h
   ·rename_i x T bc hk;split at h
    ·rename_i oM e u;split at h
     ·rename_i Jh Y;cases ah:Nat.beq T bb with
      |false=>rw[ah]at h;cases h
      |true=>
       rw[ah]at h;have:=Nat.eq_of_beq_eq_true ah;subst this;cases h;simp only[Prod.mk.injEq,List.cons.injEq,W.fH.injEq,om.row.injEq,c4.cO.injEq,and_true,true_and]at he;obtain⟨rfl,rfl⟩:=he;have e1:args=#[x]:=by simpa using congrArg toArray bc
       have e2:ks=#[T]:=by simpa using congrArg toArray hk
       subst e1 e2;subst be;exact ay8 ar rfl (axo u) Y aC aR
     ·cases h
    ·cases h
   ·cases h
  |_=>simp only[Dr]at h;cases h
 |_=>rw[ar]at h;simp only[Dr]at h;cases h
def uS{α:Type}{bb E bl sz:Nat}{enc:α→List W}{l:List (List α)}{i:Int}{r:List α}(h:b2 l i=some r)(aR:P.underlying bb=some (.slice E)):Hint P:=
 .gs false ([.fH (.row i.toNat) 0],[(0,.cO (encS bl sz enc l))]) (λ_=>Dr bb r.length) λ_ _ _ _ _ _ _ dw he=>aix (LM h) (by simp) aR dw he
end
structure jr(n:Nat) where
 l:cN
 h:l.length=n
def jr.zero(n:Nat):jr n:=⟨List.replicate n 0,length_replicate⟩
def jr.put{n:Nat}(v:jr n)(i:Nat)(x:Int):jr n:=⟨v.l.set i x,by rw[length_set];exact v.h⟩
def sI{σ:ag}{d:Nat}{o o0:c4}(h:σ.get d=some o0):(σ.set d o).get d=some o:=by rw[axu,if_pos rfl,h];rfl
def xD{σ:ag}{d x:Nat}{o:c4}(h:x≠d):(σ.set d o).get x=σ.get x:=by rw[axu,if_neg h]
def K6{d:Nat}{xs:cN}:br cx I β w d (.vec T xs)↔br cx I β w d (.cells T (xs.map (W.int .i64))):=by
 simp only[br];constructor
 ·rintro(h|⟨b,arr,h1,D,aj,aV⟩)
  ·exact .inl h
  ·exact .inr ⟨b,arr,h1,D,by rw[aj];exact LK xs,aV⟩
 ·rintro(h|⟨b,arr,h1,D,aj,aV⟩)
  ·exact .inl h
  ·exact .inr ⟨b,arr,h1,D,MB xs _ aj,aV⟩
def cG.swap{G:c7}{σ σ2:ag}(h:cG G cx I β σ w){d:Nat}{o fS:c4}(aa:σ.get d=some o)(Ay:σ2.get d=some fS)(bQ:∀x,x≠d→σ2.get x=σ.get x)(ar:br cx I β w d o→br cx I β w d fS):cG G cx I β σ2 w:=by
 have fs:∀x,(σ2.get x).isSome→(σ.get x).isSome:=λx u=>by
  by_cases e:x=d
  ·subst e;rw[aa];rfl
  ·rw[←bQ x e];exact u
 refine{h with dK:=λx hP u=>?_,eN:=λx y u ak=>h.eN x y (fs x u) (fs y ak)};by_cases e:x=d
 ·subst e;rw[Ay]at u;cases u;exact ar (h.dK x o aa)
 ·rw[bQ x e]at u;exact h.dK x hP u
section
variable {G:c7}{σ:ag}{o:Oper}{ev:Operand→W}
def Yields.vec{ew R:ei}{bZ:W}{d T:Nat}{xs:cN}(aa:σ.get d=some (.vec T xs))(aob:d∈R)(h:Yields G o ev (σ.set d (.cells T (xs.map (W.int .i64)))) ew R bZ):Yields G o ev σ ew R bZ:=λaL cx I β w bp cz aA hm hop=>by
 have eC:aL.get d=some (.vec T xs):=by rw[cz d aob];exact aa
 have ng:cG G cx I β (aL.set d (.cells T (xs.map (W.int .i64)))) w:=aA.swap eC (sI eC) (λx u=>xD u) K6.1
 have:=h (aL.set d (.cells T (xs.map (W.int .i64)))) cx I β w bp (λx u=>by
  by_cases e:x=d
  ·subst e;rw[sI eC,sI aa]
  ·rw[xD e,xD e];exact cz x u) ng hm hop
 generalize (execOp bp o).run G.P w=r at this;have key:∀v w',(∃bm β',aD bm β' bZ v∧cG G cx bm β' (aL.set d (.cells T (xs.map (W.int .i64)))) w'∧dc I bm∧(∀d,d∉ew→β' d=β d))→∃bm β',aD bm β' bZ v∧cG G cx bm β' aL w'∧dc I bm∧(∀d,d∉ew→β' d=β d):=λv w' ⟨bm,β',h1,D,aj⟩=>⟨bm,β',h1,D.swap (sI eC) eC (λx u=>(xD u).symm) K6.2,aj⟩;cases r with
 |halt x w'=>exact this.elim
 |ok n w'=>cases n with
  |value v=>exact key _ _ this
  |skip=>exact key _ _ this
  |enter f args=>exact Calls.mono this λe vo ⟨v,h1,D⟩=>⟨v,h1,key _ _ D⟩
  |_=>exact this.elim
def Yields.arr{ew R:ei}{xs:cN}(h:Yields G o ev σ ew R (.agg (xs.map (W.int .i64)))):Yields G o ev σ ew R (.arr xs):=λaL cx I β w bp cz aA hm hop=>by
 have:=h aL cx I β w bp cz aA hm hop;generalize (execOp bp o).run G.P w=r at this;have key:∀v w',(∃bm β',aD bm β' (.agg (xs.map (W.int .i64))) v∧cG G cx bm β' aL w'∧dc I bm∧(∀d,d∉ew→β' d=β d))→∃bm β',aD bm β' (.arr xs) v∧cG G cx bm β' aL w'∧dc I bm∧(∀d,d∉ew→β' d=β d):=λv w' ⟨bm,β',h1,D⟩=>⟨bm,β',MC.1 h1,D⟩;cases r with
 |halt x w'=>exact this.elim
 |ok n w'=>cases n with
  |value v=>exact key _ _ this
  |skip=>exact key _ _ this
  |enter f args=>exact Calls.mono this λe vo ⟨v,h1,D⟩=>⟨v,h1,key _ _ D⟩
  |_=>exact this.elim
def hK.vec{d T ny:Nat}{xs bD:cN}{xF:W}{M:ei}(kR:M=[d])(aa:σ.get d=some (.vec T xs))
  (h:hK G o ev (σ.set d (.cells T (xs.map (W.int .i64)))) M [] (λr aL=>r=xF∧aL=(σ.set d (.cells T (xs.map (W.int .i64)))).set d (.cells ny (bD.map (W.int .i64))))) :
  hK G o ev σ M [] (λr aL=>r=xF∧aL=σ.set d (.vec ny bD)):=λcx I β w bp aA hop=>by
 subst kR;have ng:cG G cx I β (σ.set d (.cells T (xs.map (W.int .i64)))) w:=aA.swap aa (sI aa) (λx u=>xD u) K6.1;have:=h cx I β w bp ng hop
 have conv:∀{bm β' w'},cG G cx bm β' ((σ.set d (.cells T (xs.map (W.int .i64)))).set d (.cells ny (bD.map (W.int .i64)))) w'→cG G cx bm β' (σ.set d (.vec ny bD)) w':=λD=>
  D.swap (d:=d) (sI (sI aa)) (sI aa) (λx u=>by rw[xD u,xD u,xD u]) K6.2
 have nQ:∀x,x∉[d]→(σ.set d (.vec ny bD)).get x=σ.get x:=λx u=>xD (by simpa using u);generalize (execOp bp o).run G.P w=r at this
 have key:∀v w',(∃bZ aL bm β',(bZ=xF∧aL=(σ.set d (.cells T (xs.map (W.int .i64)))).set d (.cells ny (bD.map (W.int .i64))))∧aD bm β' bZ v∧cG G cx bm β' aL w'∧dc I bm∧(∀x,x∉([]:ei)→β' x=β x)∧(∀x,x∉[d]→aL.get x=(σ.set d (.cells T (xs.map (W.int .i64)))).get x))→∃bZ aL bm β',(bZ=xF∧aL=σ.set d (.vec ny bD))∧aD bm β' bZ v∧cG G cx bm β' aL w'∧dc I bm∧(∀x,x∉([]:ei)→β' x=β x)∧(∀x,x∉[d]→aL.get x=σ.get x):=λv w' ⟨a,aL,bm,β',⟨bA,h1⟩,D,aj,aV,b4,_⟩=>by
  subst bA h1;exact⟨a,_,bm,β',⟨rfl,rfl⟩,D,conv aj,aV,b4,nQ⟩
 cases r with
 |halt x w'=>exact this.elim
 |ok n w'=>cases n with
  |value v=>exact key _ _ this
  |skip=>exact key _ _ this
  |enter f args=>exact Calls.mono this λe vo ⟨v,h1,D⟩=>⟨v,h1,key _ _ D⟩
  |_=>exact this.elim
end
section
variable {P:Program}
def La(bb d:Nat)(xs:cN)(op:Op)(ids:ei):Option (c9×cW):=match op with
 |.alloc T=>bif Nat.beq T bb&&!ids.contains d then some (.v d (.vec T xs) (.ptr d 0),([],[]))else none
 |_=>none
def aiy{bb d:Nat}{xs:cN}{zs:fK}(hz:∀w,∃z,(zeroValue bb).run P w=.ok z w∧z.cells=zs.toArray)(ai:qL zs=xs.map (W.int .i64)){o:Oper}{N:Nat}{ids:ei}{env:an}{σ:ag}{s:c9}{aZ:cW}
  (h:La bb d xs o.op ids=some (s,aZ)):gh ⟨P,N,ids⟩ o env σ s:=by
 cases ar:o.op<;>rw[ar]at h
 case alloc T=>
  simp only[La]at h;cases ah:(Nat.beq T bb&&!ids.contains d)with
  |false=>rw[ah]at h;cases h
  |true=>
   rw[ah]at h;simp only[Bool.and_eq_true,Bool.not_eq_true']at ah;have:=Nat.eq_of_beq_eq_true ah.1;subst this;cases h;refine⟨ah.2,Yields.vec (T:=T) (xs:=xs) (by rw[axp,if_pos rfl]) (by simp) ?_⟩;refine Yields.Z4 (σ:=(d,.cells T (qL zs))::σ) (λx u=>?_) (b5.alloc ar hz ah.2);rw[List.mem_singleton.1 u,sI (o0:=.vec T xs) (by rw[axp,if_pos rfl]),axp,if_pos rfl,ai]
 all_goals (simp only[La]at h;cases h)
def P5{bb n:Nat}{zs:fK}(d:Nat)(v:jr n)(hz:∀w,∃z,(zeroValue bb).run P w=.ok z w∧z.cells=zs.toArray)(ai:qL zs=v.l.map (W.int .i64)):Hint P:=
 .gs false ([],[]) (λids op _ _=>La bb d v.l op ids) λ_ _ _ _ _ _ _ dw _=>aiy hz ai dw
def Lb(bb:Nat)(op:Op)(env:an):Option (c9×cW):=match op with
 |.indexAddr T x y=>(match env.dg x with
  |some (.ptr d off)=>(match env.dg y with
   |some (.int k i)=>bif Nat.beq T bb then some (.y [] (.ptr d i.toNat),([.ptr 0 off,.int .i64 i],[]))else none
   |_=>none)
  |_=>none)
 |_=>none
def aiz{bb nx E:Nat}{i:Int}(cF:P.underlying bb=some (.array nx E))(Z:∀w,(sizeOf E).run P w=.ok 1 w)(hi:0≤i∧i<nx){o:Oper}{N:Nat}{ids:ei}{env:an}{σ:ag}{s:c9}{aZ:cW}
  (h:Lb bb o.op env=some (s,aZ)) (he:aZ=([.ptr 0 0,.int .i64 i],[])):gh ⟨P,N,ids⟩ o env σ s:=by
 cases ar:o.op<;>rw[ar]at h
 case indexAddr T x y=>
  simp only[Lb]at h;split at h
  ·rename_i d off u;split at h
   ·rename_i k FV ak;cases ah:Nat.beq T bb with
    |false=>rw[ah]at h;cases h
    |true=>
     rw[ah]at h;have:=Nat.eq_of_beq_eq_true ah;subst this;cases h;simp only[Prod.mk.injEq,List.cons.injEq,W.ptr.injEq,W.int.injEq,and_true,true_and]at he;obtain⟨rfl,rfl⟩:=he;have:=azc (G:=⟨P,N,ids⟩) (σ:=σ) ar (axo u) (axo ak) cF Z hi;rw[Nat.mul_one,Nat.zero_add]at this;exact this
   ·cases h
  ·cases h
 all_goals (simp only[Lb]at h;cases h)
def uU{bb nx E:Nat}{v:jr nx}{i c:Int}(h:b2 v.l i=some c)(cF:P.underlying bb=some (.array nx E))(Z:∀w,(sizeOf E).run P w=.ok 1 w):Hint P:=
 .gs false ([.ptr 0 0,.int .i64 i],[]) (λ_ op env _=>Lb bb op env) λ_ _ _ _ _ _ _ dw he=>aiz cF Z (by have:=y0 h;have:=v.h;omega) dw he
def Lc(bb:Nat)(a:W)(op:Op)(env:an)(σ:ag):Option (c9×cW):=match op with
 |.load T x=>(match env.dg x with
  |some (.ptr d p)=>(match σ.get d with
   |some (.vec gT xs)=>bif Nat.beq T bb then some (.y [d] a,([.ptr 0 p],[(0,.vec 0 xs)]))else none
   |_=>none)
  |_=>none)
 |_=>none
def aiA{bb p:Nat}{xs:cN}{c:Int}(aR:dS P bb 1 false)(ah:xs[p]?=some c){o:Oper}{N:Nat}{ids:ei}{env:an}{σ:ag}{s:c9}{aZ:cW}
  (h:Lc bb (.int .i64 c) o.op env σ=some (s,aZ)) (he:aZ=([.ptr 0 p],[(0,.vec 0 xs)])):gh ⟨P,N,ids⟩ o env σ s:=by
 cases ar:o.op<;>rw[ar]at h
 case load T x=>
  simp only[Lc]at h;split at h
  ·rename_i d oM u;split at h
   ·rename_i gT km aa;cases Y:Nat.beq T bb with
    |false=>rw[Y]at h;cases h
    |true=>
     rw[Y]at h;have:=Nat.eq_of_beq_eq_true Y;subst this;cases h;simp only[Prod.mk.injEq,List.cons.injEq,W.ptr.injEq,c4.vec.injEq,and_true,true_and]at he;obtain⟨rfl,rfl⟩:=he;refine Yields.vec aa (by simp) ?_;have cq:=(List.getElem?_eq_some_iff.1 ah).1;have:=ayj (G:=⟨P,N,ids⟩) (σ:=σ.set d (.cells gT (km.map (W.int .i64)))) ar (axo u) (sI aa) aR rfl (by simp;omega);rw[show od false 1 ((km.map (W.int .i64)).drop oM)=.int .i64 c by
      simp only[od,cond_false,←map_drop,headD_eq_head?_getD,head?_map,head?_drop,ah];rfl]at this
     exact this
   ·cases h
  ·cases h
 all_goals (simp only[Lc]at h;cases h)
def vP{bb nx:Nat}{v:jr nx}{i c:Int}(h:b2 v.l i=some c)(aR:dS P bb 1 false):Hint P:=
 .gs false ([.ptr 0 i.toNat],[(0,.vec 0 v.l)]) (λ_=>Lc bb (.int .i64 c)) λ_ _ _ _ _ _ _ dw he=>aiA aR (y0 h).2.2 dw he
def Lf(bb:Nat)(op:Op)(env:an)(σ:ag):Option (c9×cW):=match op with
 |.load T x=>(match env.dg x with
  |some (.ptr d p)=>(match σ.get d with
   |some (.vec gT xs)=>bif Nat.beq T bb then some (.y [d] (.arr xs),([.ptr 0 p],[(0,.vec 0 xs)]))else none
   |_=>none)
  |_=>none)
 |_=>none
def aiB{bb nx:Nat}{v:jr nx}(aR:dS P bb nx true){o:Oper}{N:Nat}{ids:ei}{env:an}{σ:ag}{s:c9}{aZ:cW}
  (h:Lf bb o.op env σ=some (s,aZ)) (he:aZ=([.ptr 0 0],[(0,.vec 0 v.l)])):gh ⟨P,N,ids⟩ o env σ s:=by
 cases ar:o.op<;>rw[ar]at h
 case load T x=>
  simp only[Lf]at h;split at h
  ·rename_i d oM u;split at h
   ·rename_i gT km aa;cases ah:Nat.beq T bb with
    |false=>rw[ah]at h;cases h
    |true=>
     rw[ah]at h;have:=Nat.eq_of_beq_eq_true ah;subst this;cases h;simp only[Prod.mk.injEq,List.cons.injEq,W.ptr.injEq,c4.vec.injEq,and_true,true_and]at he;obtain⟨rfl,rfl⟩:=he;refine Yields.vec aa (by simp) (Yields.arr ?_);have:=ayj (G:=⟨P,N,ids⟩) (σ:=σ.set d (.cells gT (v.l.map (W.int .i64)))) ar (axo u) (sI aa) aR rfl (by simp[v.h]);simp only[od,cond_true,drop_zero]at this;rw[take_of_length_le (by simp[v.h])]at this;exact this
   ·cases h
  ·cases h
 all_goals (simp only[Lf]at h;cases h)
def apq{bb nx:Nat}(v:jr nx)(aR:dS P bb nx true):Hint P:=
 .gs false ([.ptr 0 0],[(0,.vec 0 v.l)]) (λ_=>Lf bb) λ_ _ _ _ _ _ _ dw he=>aiB aR dw he
def Ld(bb:Nat)(bD:cN)(op:Op)(env:an)(σ:ag):Option (c9×cW):=match op with
 |.store T x y=>(match env.dg x with
  |some (.ptr d p)=>(match env.dg y with
   |some a=>(match σ.get d with
    |some (.vec gT xs)=>bif Nat.beq T bb then some (.e [d] [] .undef (σ.set d (.vec gT bD)),([.ptr 0 p,a],[(0,.vec 0 xs)]))else none
    |_=>none)
   |_=>none)
  |_=>none)
 |_=>none
def acz{α:Type}{l:List α}{p:Nat}{x:α}(h:p<l.length):iT l p [x]=l.set p x:=by
 apply List.ext_getElem?;intro k;simp only[iT,length_singleton,List.getElem?_set];by_cases hk:p=k
 ·subst hk;rw[if_pos rfl,if_pos h,List.append_assoc,List.getElem?_append_right (by simp;omega),length_take,Nat.min_eq_left (by omega)];simp
 ·rw[if_neg hk];by_cases cq:k<p
  ·rw[List.append_assoc,List.getElem?_append_left (by simp;omega),getElem?_take,if_pos cq]
  ·rw[List.getElem?_append_right (by simp;omega),getElem?_drop];congr 1;simp only[length_append,length_take,length_singleton];omega
def aiC{bb p:Nat}{xs:cN}{z:Int}(aR:dS P bb 1 false)(aK:p<xs.length){o:Oper}{N:Nat}{ids:ei}{env:an}{σ:ag}{s:c9}{aZ:cW}
  (h:Ld bb (xs.set p z) o.op env σ=some (s,aZ)) (he:aZ=([.ptr 0 p,.int .i64 z],[(0,.vec 0 xs)])):gh ⟨P,N,ids⟩ o env σ s:=by
 cases ar:o.op<;>rw[ar]at h
 case store T x y=>
  simp only[Ld]at h;split at h
  ·rename_i d oM u;split at h
   ·rename_i gl ak;split at h
    ·rename_i gT km aa;cases ah:Nat.beq T bb with
     |false=>rw[ah]at h;cases h
     |true=>
      rw[ah]at h;have:=Nat.eq_of_beq_eq_true ah;subst this;cases h;simp only[Prod.mk.injEq,List.cons.injEq,W.ptr.injEq,c4.vec.injEq,and_true,true_and]at he;obtain⟨⟨rfl,rfl⟩,rfl⟩:=he;refine⟨hK.vec rfl aa ?_,rfl⟩;have:=ayo (G:=⟨P,N,ids⟩) (σ:=σ.set d (.cells gT (km.map (W.int .i64)))) ar (axo u) (axo ak) (sI aa) aR.size rfl rfl (by simp;omega);rw[show iT (km.map (W.int .i64)) oM (mY (.int .i64 z))=(km.set oM z).map (W.int .i64)by
       rw[show mY (.int .i64 z)=[.int .i64 z]from rfl,acz (by simp;omega),List.map_set]]at this
      exact this
    ·cases h
   ·cases h
  ·cases h
 all_goals (simp only[Ld]at h;cases h)
def apn{bb nx:Nat}{v:jr nx}{i c:Int}(x:Int)(h:b2 v.l i=some c)(aR:dS P bb 1 false):Hint P:=
 .gs true ([.ptr 0 i.toNat,.int .i64 x],[(0,.vec 0 v.l)]) (λ_=>Ld bb (v.put i.toNat x).l) λ_ _ _ _ _ _ _ dw he=>aiC aR (y0 h).2.1 dw he
def azJ{G:c7}{σ:ag}{o:Oper}{ev:Operand→W}{T bl d n:Nat}{x y:Operand}{xs:cN}{cs:List W}(h:o.op=.store T x y)(u:ev x=.ptr d 0)(ak:ev y=.arr xs)(aa:σ.get d=some (.cells bl cs))(aR:∀w,(sizeOf T).run G.P w=.ok n w)(be:xs.length=n)(aP:cs.length=n):
  hK G o ev σ [d] [] (λr aL=>r=.undef∧aL=σ.set d (.cells bl (xs.map (W.int .i64)))):=by
 have bc:(W.agg (xs.map (W.int .i64))).flat=true:=by
  show(xs.map (W.int .i64)).all W.one=true;rw[List.all_eq_true];intro a aI;obtain⟨x,_,rfl⟩:=List.mem_map.1 aI;rfl
 have eH:(mY (W.agg (xs.map (W.int .i64)))).length=n:=by simp[mY,be]
 have Z:iT cs 0 (mY (W.agg (xs.map (W.int .i64))))=xs.map (W.int .i64):=by
  simp only[iT,mY,take_zero,nil_append,Nat.zero_add];rw[drop_eq_nil_of_le (by simp;omega),append_nil]
 intro cx I β w bp aA hop
 letI:DecidableEq Operand:=λ_ _=>Classical.propDecidable _
 let yd:Operand→W:=λz=>if z=y then .agg (xs.map (W.int .i64))else ev z
 have n5:x≠y:=λe=>by rw[e,ak]at u;cases u
 have:=ayo (G:=G) (σ:=σ) (o:=o) (ev:=yd) (bl:=bl) h (show yd x=.ptr d 0 by simp[yd,n5,u]) (show yd y=W.agg (xs.map (W.int .i64))by simp[yd]) aa aR bc eH (by omega);rw[Z]at this;refine this cx I β w bp aA λz hz=>?_;show aD I β (if z=y then _ else ev z) (bp z);split
 ·rename_i e;subst e
  have:=hop z hz;rw[ak]at this;exact MC.2 this
 ·exact hop z hz
def Le(bb:Nat)(op:Op)(env:an)(σ:ag):Option (c9×cW):=match op with
 |.store T x y=>(match env.dg x with
  |some (.ptr d p)=>(match env.dg y with
   |some (.arr bD)=>(match σ.get d with
    |some (.vec gT xs)=>bif Nat.beq T bb then some (.e [d] [] .undef (σ.set d (.vec gT bD)),([.ptr 0 p,.arr bD],[(0,.vec 0 xs)]))else none
    |_=>none)
   |_=>none)
  |_=>none)
 |_=>none
def aiD{bb nx:Nat}{v aq:jr nx}(aR:∀w,(sizeOf bb).run P w=.ok nx w){o:Oper}{N:Nat}{ids:ei}{env:an}{σ:ag}{s:c9}{aZ:cW}
  (h:Le bb o.op env σ=some (s,aZ)) (he:aZ=([.ptr 0 0,.arr aq.l],[(0,.vec 0 v.l)])):gh ⟨P,N,ids⟩ o env σ s:=by
 cases ar:o.op<;>rw[ar]at h
 case store T x y=>
  simp only[Le]at h;split at h
  ·rename_i d oM u;split at h
   ·rename_i bD ak;split at h
    ·rename_i gT xs aa;cases ah:Nat.beq T bb with
     |false=>rw[ah]at h;cases h
     |true=>
      rw[ah]at h;have:=Nat.eq_of_beq_eq_true ah;subst this;cases h;simp only[Prod.mk.injEq,List.cons.injEq,W.ptr.injEq,W.arr.injEq,c4.vec.injEq,and_true,true_and]at he;obtain⟨⟨rfl,rfl⟩,rfl⟩:=he;exact⟨hK.vec rfl aa (azJ ar (axo u) (axo ak) (sI aa) aR aq.h (by simp[v.h])),rfl⟩
    ·cases h
   ·cases h
  ·cases h
 all_goals (simp only[Le]at h;cases h)
def Zh{bb nx:Nat}(v aq:jr nx)(aR:∀w,(sizeOf bb).run P w=.ok nx w):Hint P:=
 .gs true ([.ptr 0 0,.arr aq.l],[(0,.vec 0 v.l)]) (λ_=>Le bb) λ_ _ _ _ _ _ _ dw he=>aiD aR dw he
def azX{N:Nat}{ids:ei}{b6:hf}(bn:j7 P b6){fn:Func}{env e1:an}{σ s1 σ2:ag}{x R:W}{e:Exit}(i4:List mS)(he:(match e with|.ret|.normal=>true|_=>false)=true)(hm:xV ids i4 env σ=some (e1,s1))(aC:sS ⟨P,N,ids⟩ e1 s1 fn.results.toList x)(Z:js σ2.ids s1 x=some R)(aI:s1.at σ2.ids=some σ2):
  sO ⟨P,N,ids⟩ fn (λa aL=>a=R∧aL=σ2) e env σ:=by
 refine⟨e1,s1,Bl hm,?_⟩;have key:∃dO x r aL,sS ⟨P,N,ids⟩ e1 (s1.freeze dO) fn.results.toList x∧jk (s1.freeze dO) x r∧(∀p∈aL,(s1.freeze dO).get p.1=some p.2)∧(r=R∧aL=σ2):=by
  refine⟨[],x,R,σ2,?_,?_,?_,rfl,rfl⟩
  ·rw[axV];exact aC
  ·rw[axV];exact sG Z
  ·rw[axV];exact(axG aI).1.mem
 cases e<;>first|exact key|cases he
end
end
section
set_option linter.all false
open Go List
section look
variable {P:Program}{I:bP}{bS α:Type}{K:TypeId}{cL:bS→W}{q:bS→bS→Bool}{enc:α→W}
def nL{bS α:Type}(q:bS→bS→Bool)(l:List (bS×α))(n:bS):Nat:=l.findIdx λp=>q n p.1
def Hq(gE:EM P K cL q)(n:bS)(w:World):∀(l:List (bS×α)) (es:oe) (i:Nat) (a:α),gm I (dV cL enc l) es→dL q l n=some a→
  ∃e,(Instr.findAsking K (valOf (cL n)) es i).run P w=.ok (some (i+nL q l n,e.val)) w∧bk I (enc a) e.val∧es[nL q l n]?=some e∧e.key=valOf (cL n)∧
   ∀(b:α) (jg:MapEntry→MapEntry),(∀e,bk I (cL n) e.key→bk I (cL n) (jg e).key)→(∀e,bk I (enc b) (jg e).val)→gm I (dV cL enc (gq q l n b)) (es.modify (nL q l n) jg)
 |[],es,i,a,h,bQ=>by simp[dL]at bQ
 |(m,b)::r,es,i,a,h,bQ=>by
  simp only[dV,map_cons,gm]at h;obtain⟨e,b8,rfl,h1,D,aj⟩:=h;have wZ:=bk.plain (gE.plain m) h1;have e1:=gE.eq n m w;cases hm:q n m with
  |true=>
   have:=gE.same n m hm;subst this;simp only[dL,List.find?,hm,Option.map_some,Option.some.injEq]at bQ;subst bQ;rw[hm]at e1;have bA:nL q ((n,b)::r) n=0:=by simp[nL,findIdx_cons,hm]
   rw[bA];refine⟨e,?_,D,rfl,wZ,?_⟩
   ·rw[Instr.findAsking];simp[wZ,e1]
   ·intro c jg hk ai;simp only[gq,hm,cond_true,dV,map_cons,gm,modify_zero_cons];exact⟨jg e,b8,rfl,hk e h1,ai e,aj⟩
  |false=>
   have uN:dL q r n=some a:=by simpa [dL,List.find?,hm]using bQ
   obtain⟨dW,ay,aG,a1,aW,bt⟩:=Hq gE n w r b8 (i+1) a aj uN;rw[hm]at e1;have bA:nL q ((m,b)::r) n=nL q r n+1:=by simp[nL,findIdx_cons,hm]
   rw[bA];refine⟨dW,?_,aG,by simpa using a1,aW,?_⟩
   ·rw[Instr.findAsking];simp only[Sem.run_bind,wZ,e1,Result.andThen_ok];simp only[Bool.false_eq_true,if_false];rw[ay];simp[Nat.add_assoc,Nat.add_comm 1]
   ·intro c jg hk ai;simp only[gq,hm,cond_false,dV,map_cons,gm,modify_succ_cons];exact⟨e,_,rfl,h1,D,bt c jg hk ai⟩
def T4(cA:∀n,q n n=true):∀(l:List (bS×α)) (n:bS) (v:α),dL q (gq q l n v) n=some v
 |[],n,v=>by simp[gq,dL,List.find?,cA]
 |p::r,n,v=>by
  cases hm:q n p.1 with
  |true=>simp[gq,hm,dL,List.find?,cA]
  |false=>
   have:=T4 cA r n v;simp only[gq,hm,cond_false];simpa [dL,List.find?,hm]using this
end look
section ops
variable {G:c7}{σ:ag}{o:Oper}{ev:Operand→W}
def aaL{I:bP}{β:Nat→Value}{w:World}{bp:Operand→Value}{bS α:Type}{T K E:Nat}{cL:bS→W}{q:bS→bS→Bool}{x y:Operand}{ok:Bool}{n:bS}(l:List (bS×α))(enc:α→W)(z:α)(h:o.op=.lookup T x y ok)(h1:DK I w (bp x) (dV cL enc l))(D:bp y=valOf (cL n))
  (aR:l3 G.P T K E cL q) (hz:∀w,∃v,(zeroValue E).run G.P w=.ok v w∧∀I,bk I (enc z) v) :
  ∃v,(execOp bp o).run G.P w=.ok (.value v) w∧aD I β (bif ok then .dm [enc ((dL q l n).getD z),.bool (dL q l n).isSome]else enc ((dL q l n).getD z)) v:=by
 obtain⟨r,es,clock,i5,aG,a1⟩:=h1;have e1:∀w,(underlying T).run G.P w=.ok (.map K E) w:=λw=>by simp[underlying,program,Sem.run,aR.ia]
 have bT:=q8 (P:=G.P) aG;have fG:=aR.key.hU (es.isEmpty) n w;have e0:=Bf aR.key n w es.toList;cases bQ:dL q l n with
 |none=>
  obtain⟨cM,_⟩:=vV aR.key n w l es.toList 0 a1 bQ;obtain⟨v,kG,l8⟩:=hz w;have gy:(Instr.findKey K (valOf (cL n)) es.toList).run G.P w=.ok none w:=by rw[e0,cM]
  cases ok with
  |true=>
   refine⟨.tuple #[v,.bool false],by simp[execOp,h,Instr.lookup,i5,D,e1,bT,fG,gy,kG],?_⟩;simp only[cond_true,aD,cw];exact⟨_,rfl,v,[.bool false],rfl,bk.rep β _ _ (l8 I),.bool false,[],rfl,by simp[bk],rfl⟩
  |false=>
   refine⟨v,by simp[execOp,h,Instr.lookup,i5,D,e1,bT,fG,gy,kG],?_⟩;simp only[cond_false];exact bk.rep β _ _ (l8 I)
 |some a=>
  obtain⟨j,v,cM,dY,_⟩:=GX aR.key n w l es.toList 0 a a1 bQ;have gy:(Instr.findKey K (valOf (cL n)) es.toList).run G.P w=.ok (some (0+j,v)) w:=by rw[e0,cM]
  cases ok with
  |true=>
   refine⟨.tuple #[v,.bool true],by simp[execOp,h,Instr.lookup,i5,D,e1,bT,fG,gy],?_⟩;simp only[cond_true,aD,cw];exact⟨_,rfl,v,[.bool true],rfl,bk.rep β _ _ dY,.bool true,[],rfl,by simp[bk],rfl⟩
  |false=>
   refine⟨v,by simp[execOp,h,Instr.lookup,i5,D,e1,bT,fG,gy],?_⟩;simp only[cond_false];exact bk.rep β _ _ dY
def ayY{bS α:Type}{T K E:Nat}{cL:bS→W}{q:bS→bS→Bool}{x y:Operand}{ok:Bool}{n:bS}(l:List (bS×α))(enc:α→W)(z:α)(h:o.op=.lookup T x y ok)(u:ev x=.ec (dV cL enc l))(ak:ev y=cL n)(aR:l3 G.P T K E cL q)(hz:∀w,∃v,(zeroValue E).run G.P w=.ok v w∧∀I,bk I (enc z) v):
  Yields G o ev σ [] [] (bif ok then .dm [enc ((dL q l n).getD z),.bool (dL q l n).isSome]else enc ((dL q l n).getD z)):=
 .pure λaL cx I β w bp cz aA hop=>by
  have h1:=hop x (by simp[h,Op.operands]);rw[u]at h1
  have D:=hop y (by simp[h,Op.operands]);rw[ak]at D;have D:=u0 _ _ (aR.key.plain n) D
  exact aaL l enc z h (Tl aA h1) D aR hz
def ayZ{bS α:Type}{T K E kQ l9 d clock:Nat}{es:gx}{cL:bS→W}{q:bS→bS→Bool}{x y:Operand}{ok:Bool}{n:bS}(l:List (bS×α))(enc:α→W)(z:α)(h:o.op=.lookup T x y ok)(u:ev x=.ep d)(ak:ev y=cL n)(aa:σ.get d=some (.ij es clock kQ l9 (dV cL enc l)))(aR:l3 G.P T K E cL q)(hz:∀w,∃v,(zeroValue E).run G.P w=.ok v w∧∀I,bk I (enc z) v):
  Yields G o ev σ [] [d] (bif ok then .dm [enc ((dL q l n).getD z),.bool (dL q l n).isSome]else enc ((dL q l n).getD z)):=
 .pure λaL cx I β w bp cz aA hop=>by
  have h1:=hop x (by simp[h,Op.operands]);rw[u]at h1
  have D:=hop y (by simp[h,Op.operands]);rw[ak]at D;have D:=u0 _ _ (aR.key.plain n) D
  exact aaL l enc z h (Tk aA (by rw[cz d (by simp)];exact aa) h1) D aR hz
def wF{bS α:Type}(q:bS→bS→Bool)(l:List (bS×α))(n:bS)(es:gx):Int:=((es[nL q l n]?).map λe=>(e.born:Int)).getD 0
def aaM{cx:gj}{I:bP}{β:Nat→Value}{w:World}(aA:cG G cx I β σ w){d clock:Nat}{es:gx}{K E:TypeId}{bO:List (W×W)}(aa:σ.get d=some (.ij es clock K E bO)){v:Value}(ai:aD I β (.ep d) v):
  ∃r,v=.map (some r)∧β d=.map (some r)∧w.heap[r]?=some (.map es clock)∧gm I bO es.toList∧(∀o,I r o=none)∧Place cx r∧k9 es clock:=by
 simp only[aD]at ai;obtain⟨rfl,ai⟩:=ai;have:=aA.dK d _ aa;simp only[br]at this;rcases this with q|⟨r,ay,aG,a1,aW,bt,b1⟩
 ·rw[q]at ai;simp[nN]at ai
 ·exact⟨r,ay,ay,aG,a1,aW,bt,b1⟩
def azG{bS α:Type}{T K E d clock:Nat}{es:gx}{cL:bS→W}{q:bS→bS→Bool}{x y:Operand}{n:bS}(l:List (bS×α))(enc:α→W)(a:α)(h:o.op=.mapEntry T x y)(u:ev x=.ep d)(ak:ev y=cL n){kQ l9:Nat}(aa:σ.get d=some (.ij es clock kQ l9 (dV cL enc l)))
  (aR:l3 G.P T K E cL q) (bQ:dL q l n=some a):hK G o ev σ [] [] (λr aL=>r=.dm [enc a,.int .i64 (wF q l n es)]∧aL=σ):=by
 intro cx I β w bp aA hop;have h1:=hop x (by simp[h,Op.operands]);rw[u]at h1
 have D:=hop y (by simp[h,Op.operands]);rw[ak]at D
 have D:=u0 _ _ (aR.key.plain n) D;obtain⟨r,i5,ay,aG,a1,aW,bt,b1⟩:=aaM aA aa h1;have e1:∀w,(underlying T).run G.P w=.ok (.map K E) w:=λw=>by simp[underlying,program,Sem.run,aR.ia]
 have bT:=q8 (P:=G.P) aG;have fG:=aR.key.hU false n w;have e0:=Bf aR.key n w es.toList;have hj:(setObj r (.map es clock)).run G.P w=.ok () w:=by
  have cq:=hZ aG;have:w.heap.setIfInBounds r (.map es clock)=w.heap:=by
   apply Array.ext_getElem?;intro i;by_cases hi:r=i
   ·subst hi;rw[Array.getElem?_setIfInBounds_self_of_lt cq,aG]
   ·rw[Array.getElem?_setIfInBounds_ne hi]
  simp[setObj,Sem.run,aG,this]
 obtain⟨dW,cM,dY,fJ,iy,nu⟩:=Hq aR.key n w l es.toList 0 a a1 bQ;have gy:(Instr.findKey K (valOf (cL n)) es.toList).run G.P w=.ok (some (0+nL q l n,dW.val)) w:=by rw[e0,cM]
 have g1:es[nL q l n]?=some dW:=by simpa using fJ
 have jN:(Instr.keyThatStays (valOf (cL n)) (valOf (cL n))).run G.P w=.ok (valOf (cL n)) w:=by simp[Instr.keyThatStays,aR.key.bits n]
 have lB:wF q l n es=(dW.born:Int):=by unfold wF;rw[g1];rfl
 have PJ:es.modify (nL q l n) (λe=>{e with key:=valOf (cL n)})=es:=by
  apply Array.ext';rw[Array.toList_modify];apply List.ext_getElem?;intro i;rw[List.getElem?_modify];by_cases hi:nL q l n=i
  ·subst hi;have am0:es.toList[nL q l n]?=some dW:=by simpa using g1
   rw[am0];simp only[Option.map_eq_map,Option.map_some,if_true];congr 1;cases dW;simp only at iy;rw[iy]
  ·simp[hi]
 have gF:(execOp bp o).run G.P w=.ok (.value (.tuple #[dW.val,.int .i64 (wF q l n es)])) w:=by
  rw[lB];simp[execOp,h,Instr.mapEntry,i5,D,e1,bT,fG,gy,g1,iy,jN,PJ,hj,goInt]
 rw[gF];refine⟨_,_,I,β,⟨rfl,rfl⟩,?_,aA,dc.refl I,λ_ _=>rfl,λx u=>rfl⟩;simp only[aD,cw];exact⟨_,rfl,_,_,rfl,bk.rep β _ _ dY,_,_,rfl,by simp[bk],rfl⟩
def aaF{l:oe}(be:(l.map (·.born)).Nodup){j:Nat}{e0:MapEntry}(h:l[j]?=some e0):l.findIdx? (λe=>((e.born:Nat):Int)==((e0.born:Nat):Int))=some j:=by
 induction l generalizing j with
 |nil=>simp at h
 |cons a r bX=>
  simp only[map_cons,nodup_cons]at be;cases j with
  |zero=>
   simp only[getElem?_cons_zero,Option.some.injEq]at h;subst h;simp[findIdx?_cons]
  |succ j=>
   simp only[getElem?_cons_succ]at h;have di:a.born≠e0.born:=λe1=>be.1 (List.mem_map.2 ⟨e0,List.mem_of_getElem? h,e1.symm⟩);have Y:(((a.born:Nat):Int)==((e0.born:Nat):Int))=false:=by
    simp only[beq_eq_false_iff_ne,ne_eq,Int.natCast_inj];exact di
   rw[findIdx?_cons,Y];simp[bX be.2 h]
def azD{bS α:Type}{T K E bb d clock:Nat}{es:gx}{cL:bS→W}{q:bS→bS→Bool}{x s y:Operand}{n:bS}(l:List (bS×α))(enc:α→W)(v:α)(h:o.op=.entryStore bb x s y)(u:ev x=.ep d)(Z:ev s=.int .i64 (wF q l n es))(ak:ev y=enc v)(ah:(enc v).closed=true){kQ l9:Nat}(aa:σ.get d=some (.ij es clock kQ l9 (dV cL enc l)))
  (aR:l3 G.P T K E cL q) (bQ:(dL q l n).isSome=true):hK G o ev σ [d] [] (λr aL=>r=.undef∧aL=σ.set d (.map kQ l9 (dV cL enc (gq q l n v)))):=by
 intro cx I β w bp aA hop;have h1:=hop x (by simp[h,Op.operands]);rw[u]at h1
 have D:=hop s (by simp[h,Op.operands]);rw[Z]at D
 have D:=jT D;have aj:=hop y (by simp[h,Op.operands]);rw[ak]at aj
 have aj:=aD.closed _ _ ah aj;obtain⟨r,i5,ay,aG,a1,aW,bt,b1⟩:=aaM aA aa h1;obtain⟨a,bQ⟩:=Option.isSome_iff_exists.1 bQ;obtain⟨dW,cM,dY,fJ,iy,nu⟩:=Hq aR.key n w l es.toList 0 a a1 bQ;have g1:es[nL q l n]?=some dW:=by simpa using fJ
 have bT:=q8 (P:=G.P) aG;have lB:wF q l n es=(dW.born:Int):=by unfold wF;rw[g1];rfl
 have Py:es.findIdx? (λe=>((e.born:Nat):Int)==((dW.born:Nat):Int))=some (nL q l n):=by
  have:es.findIdx? (λe=>((e.born:Nat):Int)==((dW.born:Nat):Int))=es.toList.findIdx? (λe=>((e.born:Nat):Int)==((dW.born:Nat):Int)):=by cases es;simp
  rw[this];exact aaF b1.1 fJ
 have hj:∀aZ:Obj,(setObj r aZ).run G.P w=.ok () {w with heap:=w.heap.setIfInBounds r aZ}:=λaZ=>by
  have:=hZ aG;simp[setObj,Sem.run,aG]
 have gF:(execOp bp o).run G.P w=.ok .skip {w with heap:=w.heap.setIfInBounds r (.map (es.modify (nL q l n) λe=>{e with val:=bp y}) clock)}:=by
  simp[execOp,h,Instr.entryStore,i5,D,lB,bT,asInt,asIntOf,Py,hj]
 rw[gF];refine⟨.undef,_,I,β,⟨rfl,rfl⟩,by simp[aD,bk],?_,dc.refl I,λ_ _=>rfl,λx u=>by rw[axu,if_neg (by simpa using u)]⟩;have gw:cV (β d)=some r:=by rw[ay];rfl
 refine aA.turn (d:=d) (axM w r _) bt (λx u=>by rw[axu,if_neg u]) (λx u Z e=>aA.eN x d Z (by rw[aa];rfl) u r e (lF gw)) (dc.refl I) (λ_ _ _=>rfl)
  (λo v ai=>by rw[aW o]at ai;cases ai) (aW none) (λ_ _=>rfl) (.inr rfl) (h8.refl β) (.inl gw) λaZ c5=>?_
 rw[axu,if_pos rfl,aa]at c5;injection c5 with c5
 subst c5;simp only[br];exact .inr ⟨r,es.modify (nL q l n) (λe=>{e with val:=bp y}),clock,ay,by have:=hZ aG;simp[Array.getElem?_setIfInBounds,this],by simpa using nu v (λe=>{e with val:=bp y}) (λe h=>h) (λe=>aj),aW,bt,b1.modify _ _ λ_=>rfl⟩
end ops
section hints
variable {P:Program}
def IV{bS α:Type}(bb:Nat)(q:bS→bS→Bool)(l:List (bS×α))(n:bS)(enc:α→W)(z:α)(op:Op)(env:an)(σ:ag):Option (c9×cW):=match op with
 |.lookup T x y ok=>(match env.dg x with
  |some (.ec bO)=>(match env.dg y with
   |some a=>bif Nat.beq T bb then some (.y [] (bif ok then .dm [enc ((dL q l n).getD z),.bool (dL q l n).isSome]else enc ((dL q l n).getD z)),([.ec bO,a],[]))else none
   |_=>none)
  |some (.ep d)=>(match env.dg y with
   |some a=>(match σ.get d with
    |some (.ij _ _ _ _ bO)=>bif Nat.beq T bb then some (.y [d] (bif ok then .dm [enc ((dL q l n).getD z),.bool (dL q l n).isSome]else enc ((dL q l n).getD z)),([.ec bO,a],[]))else none
    |_=>none)
   |_=>none)
  |_=>none)
 |_=>none
def agL{bS α:Type}{bb i0 hs:Nat}{cL:bS→W}{q:bS→bS→Bool}{l:List (bS×α)}{n:bS}{enc:α→W}{z:α}(aR:l3 P bb i0 hs cL q)(hz:∀w,∃v,(zeroValue hs).run P w=.ok v w∧∀I,bk I (enc z) v){o:Oper}{N:Nat}{ids:ei}{env:an}{σ:ag}{s:c9}{aZ:cW}
  (h:IV bb q l n enc z o.op env σ=some (s,aZ)) (he:aZ=([.ec (dV cL enc l),cL n],[])):gh ⟨P,N,ids⟩ o env σ s:=by
 cases ar:o.op<;>rw[ar]at h
 case lookup T x y ok=>
  simp only[IV]at h;split at h
  ·rename_i bO u;split at h
   ·rename_i a ak;cases Y:Nat.beq T bb with
    |false=>rw[Y]at h;cases h
    |true=>
     rw[Y]at h;have:=Nat.eq_of_beq_eq_true Y;subst this;cases h;simp only[Prod.mk.injEq,List.cons.injEq,W.ec.injEq,and_true]at he;obtain⟨rfl,rfl⟩:=he;exact ayY l enc z ar (axo u) (axo ak) aR hz
   ·cases h
  ·rename_i d u;split at h
   ·rename_i a ak;split at h
    ·rename_i es clock K E bO aa;cases Y:Nat.beq T bb with
     |false=>rw[Y]at h;cases h
     |true=>
      rw[Y]at h;have:=Nat.eq_of_beq_eq_true Y;subst this;cases h;simp only[Prod.mk.injEq,List.cons.injEq,W.ec.injEq,and_true]at he;obtain⟨rfl,rfl⟩:=he;exact ayZ l enc z ar (axo u) (axo ak) aa aR hz
    ·cases h
   ·cases h
  ·cases h
 all_goals (simp only[IV]at h;cases h)
def IW{bS α:Type}{bb i0 hs:Nat}{cL:bS→W}{q:bS→bS→Bool}(l:List (bS×α))(n:bS)(enc:α→W)(z:α)(aR:l3 P bb i0 hs cL q)(hz:∀w,∃v,(zeroValue hs).run P w=.ok v w∧∀I,bk I (enc z) v):Hint P:=
 .gs false ([.ec (dV cL enc l),cL n],[]) (λ_=>IV bb q l n enc z) λ_ _ _ _ _ _ _ h he=>agL aR hz h he
def IX{bS α:Type}(bb:Nat)(q:bS→bS→Bool)(l:List (bS×α))(n:bS)(enc:α→W)(a:α)(op:Op)(env:an)(σ:ag):Option (c9×cW):=match op with
 |.mapEntry T x y=>(match env.dg x with
  |some (.ep d)=>(match env.dg y with
   |some k=>(match σ.get d with
    |some (.ij es _ _ _ bO)=>bif Nat.beq T bb then some (.e [] [] (.dm [enc a,.int .i64 (wF q l n es)]) σ,([.ec bO,k],[]))else none
    |_=>none)
   |_=>none)
  |_=>none)
 |_=>none
def agM{bS α:Type}{bb i0 hs:Nat}{cL:bS→W}{q:bS→bS→Bool}{l:List (bS×α)}{n:bS}{enc:α→W}{a:α}(aR:l3 P bb i0 hs cL q)(bQ:dL q l n=some a){o:Oper}{N:Nat}{ids:ei}{env:an}{σ:ag}{s:c9}{aZ:cW}
  (h:IX bb q l n enc a o.op env σ=some (s,aZ)) (he:aZ=([.ec (dV cL enc l),cL n],[])):gh ⟨P,N,ids⟩ o env σ s:=by
 cases ar:o.op<;>rw[ar]at h
 case mapEntry T x y=>
  simp only[IX]at h;split at h
  ·rename_i d u;split at h
   ·rename_i k ak;split at h
    ·rename_i es clock K E bO aa;cases Y:Nat.beq T bb with
     |false=>rw[Y]at h;cases h
     |true=>
      rw[Y]at h;have:=Nat.eq_of_beq_eq_true Y;subst this;cases h;simp only[Prod.mk.injEq,List.cons.injEq,W.ec.injEq,and_true]at he;obtain⟨rfl,rfl⟩:=he;exact⟨azG l enc a ar (axo u) (axo ak) aa aR bQ,rfl⟩
    ·cases h
   ·cases h
  ·cases h
 all_goals (simp only[IX]at h;cases h)
def Xx{bS α:Type}{bb i0 hs:Nat}{cL:bS→W}{q:bS→bS→Bool}(l:List (bS×α))(n:bS)(enc:α→W)(a:α)(aR:l3 P bb i0 hs cL q)(bQ:dL q l n=some a):Hint P:=
 .gs true ([.ec (dV cL enc l),cL n],[]) (λ_=>IX bb q l n enc a) λ_ _ _ _ _ _ _ h he=>agM aR bQ h he
def IY{bS α:Type}(cL:bS→W)(q:bS→bS→Bool)(l:List (bS×α))(n:bS)(enc:α→W)(v:α)(op:Op)(env:an)(σ:ag):Option (c9×cW):=match op with
 |.entryStore _ x s y=>(match env.dg x with
  |some (.ep d)=>(match env.dg s with
   |some a=>(match env.dg y with
    |some b=>(match σ.get d with
     |some (.ij es clock K E bO)=>some (.e [d] [] .undef (σ.set d (.map K E (dV cL enc (gq q l n v)))),([.ec bO,a,b],[(0,.ij es clock 0 0 [])]))
     |_=>none)
    |_=>none)
   |_=>none)
  |_=>none)
 |_=>none
def agN{bS α:Type}{bb i0 hs Ni:Nat}{Fb:gx}{cL:bS→W}{q:bS→bS→Bool}{l:List (bS×α)}{n:bS}{enc:α→W}{v:α}(aR:l3 P bb i0 hs cL q)(ah:(enc v).closed=true)(bQ:(dL q l n).isSome=true){o:Oper}{N:Nat}{ids:ei}{env:an}{σ:ag}{s:c9}{aZ:cW}
  (h:IY cL q l n enc v o.op env σ=some (s,aZ)) (he:aZ=([.ec (dV cL enc l),.int .i64 (wF q l n Fb),enc v],[(0,.ij Fb Ni 0 0 [])])):gh ⟨P,N,ids⟩ o env σ s:=by
 cases ar:o.op<;>rw[ar]at h
 case entryStore T x s y=>
  simp only[IY]at h;split at h
  ·rename_i d u;split at h
   ·rename_i a Z;split at h
    ·rename_i b ak;split at h
     ·rename_i es clock K E bO aa;cases h;simp only[Prod.mk.injEq,List.cons.injEq,W.ec.injEq,c4.ij.injEq,and_true,true_and]at he;obtain⟨⟨rfl,rfl,rfl⟩,rfl,rfl⟩:=he;exact⟨azD l enc v ar (axo u) (axo Z) (axo ak) ah aa aR bQ,rfl⟩
     ·cases h
    ·cases h
   ·cases h
  ·cases h
 all_goals (simp only[IY]at h;cases h)
def Xy{bS α:Type}{bb i0 hs:Nat}{cL:bS→W}{q:bS→bS→Bool}(Fb:gx)(Ni:Nat)(l:List (bS×α))(n:bS)(enc:α→W)(v:α)(aR:l3 P bb i0 hs cL q)(ah:(enc v).closed=true)(bQ:(dL q l n).isSome=true):Hint P:=
 .gs true ([.ec (dV cL enc l),.int .i64 (wF q l n Fb),enc v],[(0,.ij Fb Ni 0 0 [])]) (λ_=>IY cL q l n enc v) λ_ _ _ _ _ _ _ h he=>agN aR ah bQ h he
def UQ{bS α:Type}{q:bS→bS→Bool}{l:List (bS×α)}{n:bS}{z:α}(h:(dL q l n).isSome=true):dL q l n=some ((dL q l n).getD z):=by
 cases bQ:dL q l n with
 |none=>rw[bQ]at h;cases h
 |some a=>rfl
end hints
def mN.mono{P:Program}{Φ HL:Value→World→Prop}{r:Result Next}(h:mN P Φ r)(aK:∀v w,Φ v w→HL v w):mN P HL r:=by
 cases r with
 |ok n w=>
  cases n with
  |value v=>exact aK _ _ h
  |skip=>exact aK _ _ h
  |enter f args=>exact Calls.mono h λe vo ⟨v,h1,D⟩=>⟨v,h1,aK _ _ D⟩
  |_=>exact h
 |_=>exact h
variable {news:ei}
def hK.HY{G:c7}{o:Oper}{ev:Operand→W}{σ σ2:ag}{M:ei}{r r':W}(h:hK G o ev σ M news (λa aL=>a=r∧aL=σ2++σ))(Z:js [] (σ2.freeze σ2.ids) r=some r')(be:σ2.ids.all (λd=>(σ.get d).isNone)=true):
  hK G o ev σ M news (λa aL=>a=r'∧aL=σ):=by
 intro cx I β w bp aA hop;refine mN.mono (h cx I β w bp aA hop) ?_;rintro v w' ⟨bZ,aL,bm,β',⟨rfl,rfl⟩,ay,aG,a1,aW,bt⟩;obtain⟨Sf,hle,lM⟩:=aG.K2 σ2.ids
 have mI:∀d o,σ.get d=some o→((σ2++σ).freeze σ2.ids).get d=some o:=λd o aa=>by
  have Ay:d∉σ2.ids:=λhm=>by
   have:=List.all_eq_true.1 be d hm;rw[aa]at this;cases this
  rw[axE,axQ];have:σ2.get d=none:=by
   cases h:σ2.get d with
   |none=>rfl
   |some x=>
    obtain⟨p,cM,dY,_⟩:=tL σ2 d x h;exact absurd (by rw[←dY];exact List.mem_map.2 ⟨p,cM,rfl⟩) Ay
  rw[this];simp[aa,Ay]
 have akw:∀d o,(σ2.freeze σ2.ids).get d=some o→((σ2++σ).freeze σ2.ids).get d=some o:=λd o aa=>by
  rw[axE]at aa ⊢;rw[axQ];cases h:σ2.get d with
  |none=>rw[h]at aa;simp at aa
  |some x=>rw[h]at aa;exact aa
 refine⟨r',σ,Sf,β',⟨rfl,rfl⟩,(sG Z).rep (lM.sub akw) _ (Dm hle (h8.refl _) _ _ ay),lM.sub mI,λb o v ai=>hle _ _ _ (a1 _ _ _ ai),aW,λ_ _=>rfl⟩
def QA{α:Type}(bb d E:Nat)(iA:α)(e:α→List W)(n:Int)(ids:ei)(op:Op)(env:an)(σ:ag):Option (c9×cW):=match yR bb d E iA e n ids op env σ with
 |some (.e _ _ _ _,aZ)=>bif (σ.get d).isNone then some (.e [d] [d] (.bf false ((List.replicate n.toNat iA).map e)) σ,aZ)else none
 |_=>none
variable {E bb:Nat}{env:an}
def aiE{α:Type}{d:Nat}{iA:α}{e:α→List W}{n:Int}{ids:ei}{op:Op}{σ:ag}{p:c9×cW}(h:yR bb d E iA e n ids op env σ=some p):p.1=.e [d] [d] (.own d) ((d,.slice E 1 ((List.replicate n.toNat iA).map e) 0 false)::σ):=by
 cases op<;>simp only[yR]at h<;>try cases h
 split at h
 ·split at h
  ·rename_i iE _ _ jC _;generalize Y:(Nat.beq _ bb&&_&&_)=fc at h;cases fc with
   |false=>cases h
   |true=>simp only[cond_true,Option.some.injEq]at h;rw[←h]
  ·cases h
 ·cases h
variable {N:Nat}{aZ:cW}
def aiF{α:Type}{P:Program}{bytes d:Nat}{iA:α}{e:α→List W}{n:Int}{a:W}{pl:Value}(dZ:jy P bb E 1 bytes)(fs:kz P bb E 1 [pl])(k8:e iA=[a])(aI:∀I,bk I a pl)(bA:0≤n)(Y:n≤4294967296)(pI:bytes≤65536){o:Oper}{ids:ei}{σ:ag}{s:c9}
  (h:QA bb d E iA e n ids o.op env σ=some (s,aZ)) (he:aZ=([.int .i64 n,.int .i64 n],[])):gh ⟨P,N,ids⟩ o env σ s:=by
 unfold QA at h;cases hm:yR bb d E iA e n ids o.op env σ with
 |none=>rw[hm]at h;cases h
 |some p=>
  obtain⟨jM,awk⟩:=p;have h1:=aiE hm;simp only at h1;subst h1;rw[hm]at h;simp only at h;generalize cA:(σ.get d).isNone=fc at h;cases fc with
  |false=>cases h
  |true=>
   simp only[cond_true,Option.some.injEq,Prod.mk.injEq]at h;obtain⟨rfl,rfl⟩:=h;obtain⟨hl,be⟩:=UL (N:=N) (ids:=ids) dZ fs k8 aI bA Y pI hm he;refine⟨hK.HY (σ2:=[(d,.slice E 1 ((List.replicate n.toNat iA).map e) 0 false)]) (r:=.own d) hl ?_ ?_,be⟩
   ·simp[js,ag.freeze,ag.ids,c4.vA,ag.get]
   ·simp[ag.ids,cA]
def aoT{α:Type}{P:Program}{bb E bytes:Nat}{a:W}{pl:Value}(d:Nat)(iA:α)(e:α→List W)(n:Int)(dZ:jy P bb E 1 bytes)(fs:kz P bb E 1 [pl])(k8:e iA=[a])(aI:∀I,bk I a pl)(be:(decide (0≤n)&&decide (n≤4294967296))=true)(pI:bytes≤65536):Hint P:=
 .gs true ([.int .i64 n,.int .i64 n],[]) (QA bb d E iA e n) λ_ _ _ _ _ _ _ h he=>by
  simp only[Bool.and_eq_true,decide_eq_true_eq]at be;exact aiF dZ fs k8 aI be.1 be.2 pI h he
def J2(ids:ei)(env:an)(σ:ag)(ds news:ei)(r r':W)(σ2:ag)(op:Op):Option (c9×cW):=match op with
 |.call c=>match vf env c with
  |none=>none
  |some (f,um)=>match σ.at ds with
   |none=>none
   |some σs=>match sN (Bx 9 σs) um with
    |none=>none
    |some dH=>match js [] (σ2.freeze σ2.ids) r with
     |none=>none
     |some x=>bif news.all (λd=>!ids.contains d&&(σ.get d).isNone)&&σ.clean news.contains&&r.qS&&!r.refs (λd=>!news.contains d)&&σ2.clean (λd=>!news.contains d)&&σ2.ids.all (λd=>(σ.get d).isNone)then some (.e news news r' σ,(.fn f []::x::dH,[]))else none
 |_=>none
variable {ds:ei}{f:FuncId}
def aiG{P:Program}{ids:ei}{σ:ag}{o:Oper}{σ2:ag}{dH:List W}{r r':W}(cv:gZ P f [] dH (λa aL=>a=r∧aL=σ2))(ah:cS P f)(yg:xQ σ2){s:c9}(h:J2 ids env σ ds news r r' σ2 o.op=some (s,aZ))(he:aZ=(.fn f []::r'::dH,[])):gh ⟨P,N,ids⟩ o env σ s:=by
 cases ar:o.op<;>rw[ar]at h
 case call c=>
  simp only[J2]at h;split at h
  ·cases h
  ·rename_i n0 um aI;obtain⟨hH,args,k,aT,ps,rfl,bc,aK,rfl⟩:=Bd aI;split at h
   ·cases h
   ·rename_i nW j1;split at h
    ·cases h
    ·rename_i zA Z;split at h
     ·cases h
     ·rename_i x u;generalize Y:(news.all _&&_&&_&&_&&_&&_)=fc at h;cases fc with
      |false=>cases h
      |true=>
       simp only[Bool.and_eq_true,Bool.not_eq_true']at Y;obtain⟨⟨⟨⟨⟨dI,ek⟩,hR⟩,j8⟩,uo⟩,OM⟩:=Y;cases h;simp only[Prod.mk.injEq,List.cons.injEq,W.fn.injEq,and_true]at he;obtain⟨rfl,rfl,rfl⟩:=he;exact⟨(ayJ (G:=⟨P,N,ids⟩) (σs:=nW) 9 news ar bc ah.h cv aK Z (axG j1).1 dI ek hR j8 uo yg).HY u OM,by rw[List.all_eq_true]at dI ⊢;exact λd aa=>((Bool.and_eq_true _ _).mp (dI d aa)).1⟩
 all_goals (simp only[J2]at h;cases h)
def aoM{P:Program}(ds news:ei){f:FuncId}{dH:List W}{r:W}(r':W){σ2:ag}(cv:gZ P f [] dH (λa aL=>a=r∧aL=σ2))(ah:cS P f)(yg:xQ σ2):Hint P:=
 .gs true (.fn f []::r'::dH,[]) (λids op env σ=>J2 ids env σ ds news r r' σ2 op) λ_ _ _ _ _ _ _ h he=>aiG cv ah yg h he
def KB(env:an)(ds:ei)(σ:ag)(r:W):Op→Option (c9×cW)
 |.call c=>match vf env c with
  |none=>none
  |some (f,um)=>match σ.at (ds++Bz um)with
   |none=>none
   |some nW=>match By nW 0 um with
    |none=>none
    |some dH=>bif r.closed then some (.y nW.ids r,(.fn f []::dH,[]))else none
 |_=>none
def aiH{P:Program}{ids:ei}{σ:ag}{o:Oper}{dH:List W}{r:W}(cv:dn P f [] dH r)(ah:cS P f){s:c9}(h:KB env ds σ r o.op=some (s,aZ))(he:aZ=(.fn f []::dH,[])):gh ⟨P,N,ids⟩ o env σ s:=by
 cases ar:o.op<;>rw[ar]at h
 case call c=>
  simp only[KB]at h;split at h
  ·cases h
  ·rename_i n0 um aI;obtain⟨hH,args,k,aT,ps,rfl,bc,aK,rfl⟩:=Bd aI;split at h
   ·cases h
   ·rename_i nW j1;split at h
    ·cases h
    ·rename_i zA Z;generalize Y:r.closed=fc at h;cases fc with
     |false=>cases h
     |true=>
      cases h;simp only[Prod.mk.injEq,List.cons.injEq,W.fn.injEq,and_true]at he;obtain⟨rfl,rfl⟩:=he;exact bM.call (G:=⟨P,N,ids⟩) (σs:=nW) (ey:=[]) ar bc ah.h cv aK (Lg Z) (axG j1).1 trivial Y rfl
 all_goals (simp only[KB]at h;cases h)
def Y8{P:Program}(ds:ei){f:FuncId}{dH:List W}{r:W}(cv:dn P f [] dH r)(ah:cS P f):Hint P:=
 .gs false (.fn f []::dH,[]) (λ_ op env σ=>KB env ds σ r op) λ_ _ _ _ _ _ _ h he=>aiH cv ah h he
section many
variable {P:Program}
def gG.app{G:c7}{ops:lp}{s:ll}{K:an→ag→Prop}{hx:ei}:∀{iw:ei} {log:List (Nat×ei)} {env:an} {σ:ag},gG G ops s log iw env σ (λe aL=>∀IT,gG G ops s IT hx e aL K)→gG G ops s log (iw++hx) env σ K
 |[],log,_,_,h=>h log
 |i::l,log,env,σ,h=>by
  obtain⟨o,ar,h⟩:=h;refine⟨o,ar,?_⟩;rcases h with⟨h1,D,aj⟩|⟨h1,D,ew,R,bZ,σ2,aj,aV,b4,dz,fz⟩|⟨h1,D,M,news,Φ,aj,aV,b4,dz,fz⟩|⟨h1,D,aj⟩
  ·exact .inl ⟨h1,D,gG.app aj⟩
  ·exact .inr (.inl ⟨h1,D,ew,R,bZ,σ2,aj,aV,b4,dz,gG.app fz⟩)
  ·exact .inr (.inr (.inl ⟨h1,D,M,news,Φ,aj,aV,b4,dz,λbZ aL cA=>gG.app (fz bZ aL cA)⟩))
  ·exact .inr (.inr (.inr ⟨h1,D,gG.app aj⟩))
def ET(b6:hf)(ids:ei)(ops:lp)(s:ll):List (Nat×Hint P)→an→ag→Option (an×ag×List cW)
 |[],env,σ=>some (env,σ,[])
 |(i,h)::r,env,σ=>match ops[i]? with
  |none=>none
  |some o=>match D7 ops o env with
   |none=>none
   |some false=>none
   |some true=>match BA b6 ids o env σ h with
    |none=>none
    |some (.y R bZ,aZ)=>bif !o3 s i||Ik σ R then(match ET b6 ids ops s r (env.put o.dst bZ) σ with
     |none=>none
     |some (e,eF,jP)=>some (e,eF,aZ::jP))else none
    |some (.v _ _ _,_)=>none
    |some (.e M news bZ aL,aZ)=>bif uY s i&&M.isEmpty&&env.clean news.contains&&news.all (λd=>(σ.get d).isNone)then(match ET b6 ids ops s r (env.put o.dst bZ) aL with
     |none=>none
     |some (e,eF,jP)=>some (e,eF,aZ::jP))else none
def BH(s:ll)(i:Nat):∀log:List (Nat×ei),sQ s i [] log=true
 |[]=>rfl
 |(j,R)::r=>by simp[sQ,BH s i r]
def LN{b6:hf}{N:Nat}{ids:ei}{ops:lp}{s:ll}{K:an→ag→Prop}(bn:j7 P b6):∀{g0:List (Nat×Hint P)} {log:List (Nat×ei)} {env ud:an} {σ pn:ag} {jP:List cW},
  ET b6 ids ops s g0 env σ=some (ud,pn,jP)→jP=g0.map (λp=>p.2.exp)→K ud pn→gG ⟨P,N,ids⟩ ops s log (g0.map (·.1)) env σ K
 |[],log,env,ud,σ,pn,jP,h,_,k=>by cases h;exact C.nil k
 |(i,hi)::r,log,env,ud,σ,pn,jP,h,he,k=>by
  simp only[ET]at h;split at h
  ·cases h
  ·rename_i o ar;split at h
   ·cases h
   ·cases h
   ·rename_i aA;split at h
    ·cases h
    ·rename_i R bZ aZ Z;generalize Y:(!o3 s i||_)=fc at h;cases fc with
     |false=>cases h
     |true=>
      simp only[cond_true]at h;split at h
      ·cases h
      ·rename_i e eF EJ aC;cases h;simp only[map_cons,List.cons.injEq]at he ⊢;have hI:=Dq (N:=N) bn Z he.1;cases aK:o3 s i with
       |true=>
        rw[aK]at Y;exact C.y ar (Bm aA) aK (by simpa using Y) hI (LN bn aC he.2 k)
       |false=>exact ayO ar (Bm aA) (M5 aK) hI (LN bn aC he.2 k)
    ·cases h
    ·rename_i M news bZ aL aZ Z;generalize Y:(uY s i&&_&&_&&_)=fc at h;cases fc with
     |false=>cases h
     |true=>
      simp only[cond_true]at h;simp only[Bool.and_eq_true]at Y;split at h
      ·cases h
      ·rename_i e eF EJ aC;cases h;simp only[map_cons,List.cons.injEq]at he ⊢;have hI:=Dq (N:=N) bn Z he.1;have kR:M=[]:=by simpa using Y.1.1.2
       subst kR;refine C.e ar (Bm aA) Y.1.1.1 hI.1 (by rw[BH];simp) Y.1.2 ?_ (λa e8 ct=>?_)
       ·rw[List.all_eq_true];intro d aa;rw[Bool.and_eq_true];exact⟨List.all_eq_true.1 hI.2 d aa,List.all_eq_true.1 Y.2 d aa⟩
       ·obtain⟨rfl,rfl⟩:=ct;exact LN bn aC he.2 k
def N4(b6:hf)(ids:ei)(ops:lp)(s:ll)(iw:ei)(i4:List mS)(Z:List (Nat×Hint P))(env:an)(σ:ag):Option (an×ag×List cW):=match xV ids i4 env σ with
 |none=>none
 |some (e0,jM)=>sU b6 ids ops s (iw.map λi=>(i,hintOf Z i)) [] e0 jM
def Xz(b6:hf)(ids:ei)(ops:lp)(s:ll)(iw:ei)(n:Nat)(i4:List mS)(Z:List (Nat×Hint P))(env:an)(σ:ag):Option (FuncId×List W×List cW):=match N4 b6 ids ops s iw i4 Z env σ with
 |none=>none
 |some (e1,s1,jP)=>match ops[n]? with
  |none=>none
  |some o=>match o.guard with
   |some _=>none
   |none=>match o.op with
    |.call c=>(match vf e1 c with
     |none=>none
     |some (f,ps)=>match tQ [] s1 ps with
      |none=>none
      |some dH=>some (f,dH,jP))
    |_=>none
def XA(b6:hf)(ids:ei)(ops:lp)(s:ll)(iw:ei)(n:Nat)(hx:ei)(i4:List mS)(Z fV:List (Nat×Hint P))(env:an)(σ:ag)(bZ:W)(ks ds:ei):Option (an×ag×List cW):=match N4 b6 ids ops s iw i4 Z env σ with
 |none=>none
 |some (e1,s1,_)=>match ops[n]? with
  |none=>none
  |some o=>match ET b6 ids ops s (hx.map λi=>(i,hintOf fV i)) (e1.put o.dst bZ) s1 with
   |none=>none
   |some (e2,e8,jP)=>match BB [] ds e8 e2 ks with
    |none=>none
    |some bT=>match e8.at ds with
     |none=>none
     |some s3=>some (bT,s3,jP)
def ayM{N:Nat}{ids:ei}{b6:hf}{env:an}{σ:ag}{Q:Exit→an→ag→Prop}{y:Code}(bn:j7 P b6){id:Nat}{ops:lp}(es iw:ei)(n:Nat)(hx:ei)(i4:List mS)(Z:List (Nat×Hint P)){f:FuncId}{dH:List W}{ih:W→ag→Prop}(cv:gZ P f [] dH ih)(ah:cS P f)
  (aa:Eo N ops ⟨true,EK ops.toList,es⟩ (iw++n::hx)=true) (kK:es.contains n=true) (h:Xz b6 ids ops ⟨true,EK ops.toList,es⟩ iw n i4 Z env σ=some (f,dH,iw.map λi=>(hintOf Z i).exp)) (j3:∀r σ2,ih r σ2→r.refs (λd=>!([]:ei).contains d)=false∧σ2=[])
  (k:∀bZ σ2,ih bZ σ2→∃(fV:List (Nat×Hint P)) (eB:an) (σ3:ag),XA b6 ids ops ⟨true,EK ops.toList,es⟩ iw n hx i4 Z fV env σ bZ (rQ eB) σ3.ids=some (eB,σ3,hx.map λi=>(hintOf fV i).exp)∧aF ⟨P,N,ids⟩ y Q eB σ3):aF ⟨P,N,ids⟩ (.seq (.region id ops true) y) Q env σ:=by
 simp only[Xz]at h;split at h
 ·cases h
 ·rename_i e1 s1 jP u;split at h
  ·cases h
  ·rename_i o ar;split at h
   ·cases h
   ·rename_i bQ;split at h
    ·rename_i c hop;split at h
     ·cases h
     ·rename_i n0 ps aI;split at h
      ·cases h
      ·rename_i zA vN;simp only[Option.some.injEq,Prod.mk.injEq]at h;obtain⟨rfl,rfl,c5⟩:=h;have k8:=u;simp only[N4]at u;split at u
       ·cases u
       ·rename_i e0 jM hm;refine axB (Bl hm) (A.seq (A.any _ es (iw++n::hx) bn.mix aa (gG.app ?_)))
        have aqC:∀{K:an→ag→Prop},K e1 s1→gG ⟨P,N,ids⟩ ops ⟨true,EK ops.toList,es⟩ [] iw e0 jM K:=λ{K} gE=>by
         have:=xz (N:=N) (K:=K) bn u (by rw[c5,List.map_map];rfl) gE;rw[List.map_map,show((λx:Nat×Hint P=>x.1)∘λi=>(i,hintOf Z i))=λi=>i from rfl,List.map_id']at this;exact this
        refine aqC λlog=>?_
        have fP:=ayq (N:=N) (ids:=ids) (σ:=s1) (ey:=[]) [] hop aI vN rfl rfl (ax3 _) (λr σ2 aK=>by
         obtain⟨cZ,c8⟩:=j3 r σ2 aK;exact⟨cZ,by rw[c8];rfl⟩) cv ah
        refine⟨o,ar,.inr (.inr (.inl ⟨by simp only[jR,bQ],λ_=>List.contains_iff_mem.1 kK,[],[],_,fP,λ_=>BH _ _ _,ax0 _,λd aa=>(by cases aa),?_⟩))⟩;rintro bZ aL ⟨σ2,aK,rfl⟩;obtain⟨cZ,c8⟩:=j3 bZ σ2 aK;subst c8;obtain⟨fV,eB,σ3,cM,dY⟩:=k bZ [] aK;rw[show([]:ag)++s1.minus (ag.ids [])=s1 from K4 s1];simp only[XA,k8,ar]at cM;split at cM
        ·cases cM
        ·rename_i e2 e8 aqh lK;split at cM
         ·cases cM
         ·rename_i bT Cz;split at cM
          ·cases cM
          ·rename_i s3 sD;simp only[Option.some.injEq,Prod.mk.injEq]at cM;obtain⟨rfl,rfl,lY⟩:=cM;have:=LN (N:=N) (K:=λe s=>∃bT s3,dr ⟨P,N,ids⟩ e s bT s3∧aF ⟨P,N,ids⟩ y Q bT s3) (log:=log) bn lK (by rw[lY,List.map_map];rfl) ⟨_,_,ax8 (Hf Cz) (axG sD).1,dY⟩;rw[List.map_map,show((λx:Nat×Hint P=>x.1)∘λi=>(i,hintOf fV i))=λi=>i from rfl,List.map_id']at this;refine gG.mono (λe s gE=>?_) this;obtain⟨au3,awJ,iS,kZ⟩:=gE;exact axB iS kZ
    ·cases h
end many
section made
variable {G:c7}{σ:ag}{o:Oper}{ev:Operand→W}
def aaN(zs:fK)(bA:0<zs.length):∀n:Nat,(madeCells zs.toArray (n*zs.length)).toList=(List.replicate n zs).flatten
 |0=>by simp[madeCells]
 |n+1=>by
  have bX:=aaN zs bA n
  have e:∀m:Nat,(madeCells zs.toArray m).toList=(List.range m).map λi=>zs.toArray[i%zs.length]!:=λm=>by
   simp[madeCells,Array.toList_range]
  rw[e]at bX ⊢;rw[Nat.add_mul,Nat.one_mul,List.range_add,List.map_append,bX,List.replicate_succ',List.flatten_append,List.map_map];congr 1;simp only[flatten_cons,flatten_nil,append_nil];apply ext_getElem
  ·simp
  ·intro i h1 D;have hi:i<zs.length:=D;simp only[List.getElem_map,List.getElem_range,Function.comp];rw[Nat.mul_comm,Nat.mul_add_mod,Nat.mod_eq_of_lt hi];simp[hi]
def Ss{I:bP}:∀{a b:List W} {aq v:fK},cD I a aq→cD I b v→cD I (a++b) (aq++v)
 |[],_,_,_,h,D=>by simp only[cD]at h;subst h;exact D
 |x::r,b,aq,v,h,D=>by
  simp only[cD]at h;obtain⟨y,bD,rfl,aj,aV⟩:=h;simp only[cons_append,cD];exact⟨y,_,rfl,aj,Ss aV D⟩
def azE{T E bytes sz d:Nat}{x y:Operand}{k gK:IntKind}{n:Int}{um:List W}{zs:fK}(h:o.op=.makeSlice T x y)(u:ev x=.int k n)(ak:ev y=.int gK n)(dZ:jy G.P T E sz bytes)(fs:kz G.P T E sz zs)(aI:∀I,cD I um zs)(aP:um.length=sz)(kT:0<sz)(lZ:sz≤64)(bA:0≤n)(Y:n≤4294967296)(pI:bytes≤65536)
  (hi:G.ids.contains d=false) (ah:σ.clean [d].contains=true):hK G o ev σ [d] [d] (λr aL=>r=.own d∧aL=(d,.slice E sz (List.replicate n.toNat um) 0 false)::σ):=by
 intro cx I β w bp aA hop;have h1:=hop x (by simp[h,Op.operands]);rw[u]at h1;have h1:=jT h1
 have D:=hop y (by simp[h,Op.operands]);rw[ak]at D;have D:=jT D
 obtain⟨i,z,iY,jB,jI,pN,xd⟩:=dZ.info;obtain⟨BN,cZ,c8⟩:=fs.zero w;have:=S7 iY jB cZ;subst this;have uV:=fs.atK;have FD:(i.bytes:Int)*n≤281474976710656:=by
  rw[pN];have h1:(bytes:Int)*n≤(65536:Int)*4294967296:=Int.mul_le_mul (by omega) Y bA (by omega);omega
 have aC:=run_make (P:=G.P) w T E i BN dZ.ia iY jB k gK n n bA (Int.le_refl _) FD (by omega);rw[jI,c8]at aC;have gF:(execOp bp o).run G.P w=.ok (.value (.slice (some ⟨w.heap.size,0,none⟩) n.toNat n.toNat)) (w.alloc (.cells (madeCells zs.toArray (n.toNat*sz)) E)):=by simp[execOp,h,h1,D,aC]
 rw[gF];have ai:=aA.rY (ew:=[d]) (σ2:=σ) (env:=[]) ⟨λ_ _=>rfl,by simpa using hi,rfl,ah,λx u gV n h=>by have:=(axC ah x _ h).1;rw[List.contains_iff_mem.2 u]at this;cases this⟩;have uK:iL (hL β [d]) d (.slice (some ⟨w.heap.size,0,none⟩) n.toNat n.toNat) d=.slice (some ⟨w.heap.size,0,none⟩) n.toNat n.toNat:=h0 _ _ _;have Y:∀y,y≠d→iL (hL β [d]) d (.slice (some ⟨w.heap.size,0,none⟩) n.toNat n.toNat) y=β y:=λy ak=>by rw[iJ _ _ ak];simp[hL,ak]
 refine⟨.own d,_,I,iL (hL β [d]) d (.slice (some ⟨w.heap.size,0,none⟩) n.toNat n.toNat),⟨rfl,rfl⟩,?_,?_,dc.refl I,λy ak=>Y y (by simpa using ak),λy ak=>by rw[axp,if_neg (Ne.symm (by simpa using ak))]⟩
 ·simp only[aD,uK,jX,and_self]
 ·refine ai.turn (d:=d) (hJ.alloc w _) (.inl aA.size) (λx u=>by rw[axp,if_neg (Ne.symm u)]) (λx u Z e=>by
    obtain⟨aZ,Z⟩:=Option.isSome_iff_exists.1 Z;exact absurd (ai.tN Z e) (by omega)) (dc.refl I) (λ_ _ _=>rfl) (λhP eP kU=>by rw[aA.jS (Nat.le_refl _)]at kU;cases kU) (aA.jS (Nat.le_refl _) none)
   (λx u=>iJ _ _ u) (.inl (by simpa using hi)) (axX (by simp[hL])) (.inl (by rw[uK];rfl)) λaZ c5=>?_
  rw[axp,if_pos rfl]at c5;cases c5;simp only[br,uK];refine .inr (.inr ⟨w.heap.size,n.toNat,_,by rw[length_replicate],by rw[length_replicate];exact Nat.le_refl _,by simp[maxLen];omega,heap_alloc_new w _,by rw[size_madeCells],?_,λe he=>by rw[List.eq_of_mem_replicate he];exact aP,Nat.zero_le _,by simp,λo _=>aA.jS (Nat.le_refl _) o,.inl aA.size⟩);have hm:=aaN zs (by omega) n.toNat;rw[uV]at hm;rw[hm,length_replicate];have:∀m:Nat,cD I (List.replicate m um).flatten (List.replicate m zs).flatten:=by
   intro m;induction m with
   |zero=>simp[cD]
   |succ m bX=>
    simp only[List.replicate_succ,flatten_cons];exact Ss (aI I) bX
  rw[take_of_length_le]
  ·exact this _
  ·rw[length_flatten,List.map_replicate,List.sum_replicate_nat,uV];exact Nat.le_refl _
end made
section
variable {P:Program}
def IZ{α:Type}(bb d E sz:Nat)(iA:α)(e:α→List W)(n:Int)(ids:ei)(op:Op)(env:an)(σ:ag):Option (c9×cW):=match op with
 |.makeSlice T x y=>(match env.dg x with
  |some (.int _ iE)=>(match env.dg y with
   |some (.int _ jC)=>bif Nat.beq T bb&&!ids.contains d&&σ.clean [d].contains then some (.e [d] [d] (.own d) ((d,.slice E sz ((List.replicate n.toNat iA).map e) 0 false)::σ),([.int .i64 iE,.int .i64 jC],[]))else none
   |_=>none)
  |_=>none)
 |_=>none
def agO{α:Type}{bb E bytes sz d:Nat}{iA:α}{e:α→List W}{n:Int}{zs:fK}(dZ:jy P bb E sz bytes)(fs:kz P bb E sz zs)(aI:∀I,cD I (e iA) zs)(aP:(e iA).length=sz)(kT:0<sz)(lZ:sz≤64)(bA:0≤n)(Y:n≤4294967296)(pI:bytes≤65536){o:Oper}{N:Nat}{ids:ei}{env:an}{σ:ag}{s:c9}{aZ:cW}
  (h:IZ bb d E sz iA e n ids o.op env σ=some (s,aZ)) (he:aZ=([.int .i64 n,.int .i64 n],[])):gh ⟨P,N,ids⟩ o env σ s:=by
 cases ar:o.op<;>rw[ar]at h
 case makeSlice T x y=>
  simp only[IZ]at h;split at h
  ·rename_i ga iE u;split at h
   ·rename_i bV jC ak;cases ah:(Nat.beq T bb&&!ids.contains d&&σ.clean [d].contains)with
    |false=>rw[ah]at h;cases h
    |true=>
     rw[ah]at h;simp only[Bool.and_eq_true,Bool.not_eq_true']at ah;obtain⟨⟨dI,ek⟩,hR⟩:=ah;have:=Nat.eq_of_beq_eq_true dI;subst this;cases h;simp only[Prod.mk.injEq,List.cons.injEq,W.int.injEq,and_true,true_and]at he;obtain⟨rfl,rfl⟩:=he;rw[List.map_replicate];exact⟨azE ar (axo u) (axo ak) dZ fs aI aP kT lZ bA Y pI ek hR,by simp only[all_cons,all_nil,ek];rfl⟩
   ·cases h
  ·cases h
 all_goals (simp only[IZ]at h;cases h)
def aoS{α:Type}{bb E bytes sz:Nat}{zs:fK}(d:Nat)(iA:α)(e:α→List W)(n:Int)(dZ:jy P bb E sz bytes)(fs:kz P bb E sz zs)(aI:∀I,cD I (e iA) zs)(aP:(e iA).length=sz)(kT:0<sz)(lZ:sz≤64)(be:(decide (0≤n)&&decide (n≤4294967296))=true)(pI:bytes≤65536):Hint P:=
 .gs true ([.int .i64 n,.int .i64 n],[]) (IZ bb d E sz iA e n) λ_ _ _ _ _ _ _ h he=>by
  simp only[Bool.and_eq_true,decide_eq_true_eq]at be;exact agO dZ fs aI aP kT lZ be.1 be.2 pI h he
end
def aiI{P:Program}{bS α:Type}{gn clock i:Nat}{cL:bS→W}{es:gx}{seen:pQ}{e:MapEntry}{n:bS}{v:α}{l:List (bS×α)}{enc:α→W}(iV:es[i]?=some e)(aP:l[i]?=some (n,v)){o:Oper}{ids:ei}{σ:ag}{s:c9}
  (h:ye gn (.dm [cL n,enc v]) o.op env σ=some (s,aZ)) (he:aZ=([.ec (dV cL enc l)],[(0,.jd es clock [] (seen.push e.born))])):gh ⟨P,N,ids⟩ o env σ s:=by
 cases ar:o.op<;>rw[ar]at h
 case entry x=>
  simp only[ye]at h;split at h
  ·rename_i Fa u;split at h
   ·rename_i kJ c bO aqI aa;cases Y:Nat.beq Fa gn with
    |false=>rw[Y]at h;cases h
    |true=>
     rw[Y]at h;have:=Nat.eq_of_beq_eq_true Y;subst this;cases h;simp only[Prod.mk.injEq,List.cons.injEq,W.ec.injEq,c4.jd.injEq,and_true,true_and]at he;obtain⟨rfl,rfl,rfl,rfl⟩:=he;exact azb l enc ar (axo u) aa iV aP
   ·cases h
  ·cases h
 all_goals (simp only[ye]at h;cases h)
def apx{P:Program}{bS α:Type}{es:gx}{i:Nat}{e:MapEntry}{n:bS}{v:α}{l:List (bS×α)}(gn clock:Nat)(cL:bS→W)(seen:pQ)(enc:α→W)(iV:es[i]?=some e)(aP:l[i]?=some (n,v)):Hint P:=
 .gs false ([.ec (dV cL enc l)],[(0,.jd es clock [] (seen.push e.born))]) (λ_=>ye gn (.dm [cL n,enc v])) λ_ _ _ _ _ _ _ h he=>aiI iV aP h he
end
section
open Go Go.Proofs.Tryz List
set_option maxRecDepth 100000
set_option linter.all false
structure fe where
 eR:Int
 LD:Bool
instance:Inhabited fe:=⟨fe.mk (0:Int) false⟩
def fN:jD fe:=⟨λx=>[.int .i64 x.eR,.bool x.LD],2,λ_=>rfl,λ_=>rfl,λ_=>rfl⟩
structure dJ where
 A:Int
 B:Int
 ki:Int
 lJ:Int
 lS:Int
instance:Inhabited dJ:=⟨dJ.mk (0:Int) (0:Int) (0:Int) (0:Int) (0:Int)⟩
def ff:jD dJ:=⟨λx=>[.int .i64 x.A,.int .i64 x.B,.int .i64 x.ki,.int .i64 x.lJ,.int .i64 x.lS],5,λ_=>rfl,λ_=>rfl,λ_=>rfl⟩
structure bu where
 cn:List fe
 Links:List dJ
instance:Inhabited bu:=⟨bu.mk [] []⟩
def mX:jD bu:=⟨λx=>[.bf false (aM fN x.cn),.bf false (aM ff x.Links)],2,λ_=>rfl,λ_=>rfl,λ_=>rfl⟩
structure aQ where
 bh:Int
 aS:Int
instance:Inhabited aQ:=⟨aQ.mk (0:Int) (0:Int)⟩
def bH:jD aQ:=⟨λx=>[.int .i64 x.bh,.int .i64 x.aS],2,λ_=>rfl,λ_=>rfl,λ_=>rfl⟩
def dj(a b:aQ):Bool:=decide (a.bh=b.bh)&&(decide (a.aS=b.aS)&&true)
structure bW where
 Hop:aQ
 hM:Int
instance:Inhabited bW:=⟨bW.mk (aQ.mk (0:Int) (0:Int)) (0:Int)⟩
def fl:jD bW:=⟨λx=>[.int .i64 x.Hop.bh,.int .i64 x.Hop.aS,.int .i64 x.hM],3,λ_=>rfl,λ_=>rfl,λ_=>rfl⟩
structure eo where
 L:List Int
 At:Int
instance:Inhabited eo:=⟨eo.mk [] (0:Int)⟩
structure bR where
 cc:Int
 Links:List aQ
instance:Inhabited bR:=⟨bR.mk (0:Int) []⟩
def cC:jD bR:=⟨λx=>[.int .i64 x.cc,.bf false (aM bH x.Links)],2,λ_=>rfl,λ_=>rfl,λ_=>rfl⟩
structure bB where
 bh:Int
 aS:Int
 Count:Int
instance:Inhabited bB:=⟨bB.mk (0:Int) (0:Int) (0:Int)⟩
def cp:jD bB:=⟨λx=>[.int .i64 x.bh,.int .i64 x.aS,.int .i64 x.Count],3,λ_=>rfl,λ_=>rfl,λ_=>rfl⟩
def Hr(a b:bB):Bool:=decide (a.bh=b.bh)&&(decide (a.aS=b.aS)&&(decide (a.Count=b.Count)&&true))
structure Ke where
 aw3:Int
 auV:Int
instance:Inhabited Ke:=⟨Ke.mk (0:Int) (0:Int)⟩
structure XB where
 cn:List Int
 Value:Int
instance:Inhabited XB:=⟨XB.mk [] (0:Int)⟩
structure bY where
 cc:Int
 dM:List Int
 de:Int
instance:Inhabited bY:=⟨bY.mk (0:Int) [] (0:Int)⟩
def cm:jD bY:=⟨λx=>[.int .i64 x.cc,.bf false (aM az x.dM),.int .i64 x.de],3,λ_=>rfl,λ_=>rfl,λ_=>rfl⟩
structure aam where
 awt:List (Int×List Ke)
 avL:List (Int×List Ke)
instance:Inhabited aam:=⟨aam.mk [] []⟩
structure SH where
 hs:Int
 at2:Int
 vp:Int
instance:Inhabited SH:=⟨SH.mk (0:Int) (0:Int) (0:Int)⟩
def aad:fO:=⟨1,false,some [zI0],.int .i64⟩
def are:fR prog 2 aad:=⟨Rf,λzs h=>by cases h;exact atk,underlying2⟩
def aae:fO:=⟨1,false,some [zI0],.int .i64⟩
def aro:fR prog 3 aae:=⟨hQ,λzs h=>by cases h;exact aa1,underlying3⟩
def aaf:fO:=⟨1,false,some [.bool false],.bool⟩
def arw:fR prog 4 aaf:=⟨G9,λzs h=>by cases h;exact aa2,underlying4⟩
def aag:fO:=⟨1,false,some [.int .u8 0],.int .u8⟩
def arz:fR prog 5 aag:=⟨asb,λzs h=>by cases h;exact atv,underlying5⟩
def aah:fO:=⟨1,false,some [.int .u8 0],.int .u8⟩
def arD:fR prog 6 aah:=⟨Rg,λzs h=>by cases h;exact atx,underlying6⟩
def aai:fO:=⟨4,true,some [zI0,zI0,.bool false,.int .u8 0],.struct [zI0,zI0,.bool false,.int .u8 0] [(0,1),(1,1),(2,1),(3,1)] [false,false,false,false]⟩
def arG:fR prog 7 aai:=⟨ash,λzs h=>by cases h;exact aty,nD aqY ⟨ahB,ahC,ahD,ahE,trivial⟩ ⟨ahF,ahG,ahH,ahI,trivial⟩⟩
def aaj:fO:=⟨4,true,some [zI0,zI0,.bool false,.int .u8 0],.struct [zI0,zI0,.bool false,.int .u8 0] [(0,1),(1,1),(2,1),(3,1)] [false,false,false,false]⟩
def arM:fR prog 8 aaj:=⟨aso,λzs h=>by cases h;exact atE,nD aqZ ⟨ahJ,ahK,aha,ahb,trivial⟩ ⟨ahc,ahd,ahe,ahf,trivial⟩⟩
def aak:fO:=⟨1,false,some [.string ⟨#[]⟩],.str⟩
def arO:fR prog 9 aak:=⟨Rh,λzs h=>by cases h;exact atF,underlying9⟩
def XC:fO:=⟨1,false,some [.string ⟨#[]⟩],.str⟩
def aq4:fR prog 10 XC:=⟨arS,λzs h=>by cases h;exact ata,underlying10⟩
def XD:fO:=⟨1,false,some [.string ⟨#[]⟩],.str⟩
def aq5:fR prog 11 XD:=⟨arT,λzs h=>by cases h;exact atb,underlying11⟩
def XE:fO:=⟨1,false,some [.int .u64 0],.int .u64⟩
def aq6:fR prog 12 XE:=⟨NW,λzs h=>by cases h;exact atc,underlying12⟩
def XF:fO:=⟨2,true,some [.string ⟨#[]⟩,.int .u64 0],.struct [.string ⟨#[]⟩,.int .u64 0] [(0,1),(1,1)] [false,false]⟩
def aq7:fR prog 13 XF:=⟨arU,λzs h=>by cases h;exact atd,nD aju ⟨ae2,ae3,trivial⟩ ⟨ae4,aeE,trivial⟩⟩
def XG:fO:=⟨2,true,some [.string ⟨#[]⟩,.int .u64 0],.struct [.string ⟨#[]⟩,.int .u64 0] [(0,1),(1,1)] [false,false]⟩
def aq8:fR prog 14 XG:=⟨arV,λzs h=>by cases h;exact ate,nD ajv ⟨aeF,aeG,trivial⟩ ⟨aeH,aeI,trivial⟩⟩
def XH:fO:=⟨1,false,some [.pointer none],.pg⟩
def aq9:fR prog 15 XH:=⟨arW,λzs h=>by cases h;exact atf,trivial⟩
def W7:fO:=⟨1,false,some [.pointer none],.pg⟩
def ara:fR prog 16 W7:=⟨arX,λzs h=>by cases h;exact atg,trivial⟩
def W8:fO:=⟨1,false,some [.pointer none],.pg⟩
def arb:fR prog 17 W8:=⟨NX,λzs h=>by cases h;exact ath,trivial⟩
def W9:fO:=⟨1,true,some [.pointer none],.struct [.pointer none] [(0,1)] [false]⟩
def arc:fR prog 18 W9:=⟨arY,λzs h=>by cases h;exact ati,nD ajw ⟨aeJ,trivial⟩ ⟨aeK,trivial⟩⟩
def Xa:fO:=⟨1,true,some [.pointer none],.struct [.pointer none] [(0,1)] [false]⟩
def ard:fR prog 19 Xa:=⟨arZ,λzs h=>by cases h;exact atj,nD ajx ⟨aeL,trivial⟩ ⟨aeM,trivial⟩⟩
def Xb:fO:=⟨1,false,some [.int .i32 0],.int .i32⟩
def arf:fR prog 21 Xb:=⟨ar0,λzs h=>by cases h;exact atl,underlying21⟩
def Xc:fO:=⟨1,false,some [zS0],.slice 3 1 8 [zI0]⟩
def arh:fR prog 22 Xc:=⟨nj,λzs h=>by cases h;exact Wt,⟨qQ,Et,Im⟩⟩
def Xd:fO:=⟨1,false,some [.pointer none],.pg⟩
def ari:fR prog 23 Xd:=⟨ar1,λzs h=>by cases h;exact atm,trivial⟩
def Xe:fO:=⟨1,false,some [zS0],.slice 31 2 16 [zI0,.bool false]⟩
def arj:fR prog 25 Xe:=⟨NY,λzs h=>by cases h;exact atn,⟨aqM,ajy,ajz⟩⟩
def Xf:fO:=⟨1,false,some [zS0],.slice 62 5 40 [zI0,zI0,zI0,zI0,zI0]⟩
def ark:fR prog 26 Xf:=⟨NZ,λzs h=>by cases h;exact ato,⟨aqN,ajA,ajB⟩⟩
def Xg:fO:=⟨2,true,some [zS0,zS0],.struct [zS0,zS0] [(0,1),(1,1)] [false,false]⟩
def arl:fR prog 27 Xg:=⟨ar2,λzs h=>by cases h;exact atp,nD ajC ⟨aeN,afG,trivial⟩ ⟨afH,afI,trivial⟩⟩
def Xh:fO:=⟨2,true,some [zS0,zS0],.struct [zS0,zS0] [(0,1),(1,1)] [false,false]⟩
def arn:fR prog 28 Xh:=⟨ar3,λzs h=>by cases h;exact Wu,nD ajD ⟨afJ,afK,trivial⟩ ⟨afL,afM,trivial⟩⟩
def Xi:fO:=⟨2,true,some [zI0,.bool false],.struct [zI0,.bool false] [(0,1),(1,1)] [false,false]⟩
def arp:fR prog 30 Xi:=⟨ar4,λzs h=>by cases h;exact atq,nD ajE ⟨afN,afO,trivial⟩ ⟨afP,afQ,trivial⟩⟩
def Xj:fO:=⟨2,true,some [zI0,.bool false],.struct [zI0,.bool false] [(0,1),(1,1)] [false,false]⟩
def arq:fR prog 31 Xj:=⟨ar5,λzs h=>by cases h;exact Wv,nD ajF ⟨afR,afS,trivial⟩ ⟨afT,afU,trivial⟩⟩
def Xk:fO:=⟨1,false,some [zS0],.slice 84 2 16 [zI0,zI0]⟩
def ars:fR prog 34 Xk:=⟨N0,λzs h=>by cases h;exact atr,⟨aqO,ai7,ai8⟩⟩
def Xl:fO:=⟨2,true,some [zI0,zS0],.struct [zI0,zS0] [(0,1),(1,1)] [false,false]⟩
def art:fR prog 35 Xl:=⟨ar6,λzs h=>by cases h;exact att,nD ai9 ⟨afV,afW,trivial⟩ ⟨afX,afY,trivial⟩⟩
def Xm:fO:=⟨2,true,some [zI0,zS0],.struct [zI0,zS0] [(0,1),(1,1)] [false,false]⟩
def aru:fR prog 36 Xm:=⟨ar7,λzs h=>by cases h;exact Ww,nD aja ⟨afZ,af0,trivial⟩ ⟨af1,af2,trivial⟩⟩
def Xn:fO:=⟨1,false,some [zI0],.int .i64⟩
def arv:fR prog 37 Xn:=⟨ar8,λzs h=>by cases h;exact atu,underlying37⟩
def Xo:fO:=⟨1,false,some [zS0],.slice 52 3 40 [zI0,zS0,zI0]⟩
def arx:fR prog 46 Xo:=⟨ar9,λzs h=>by cases h;exact Wx,⟨aqP,ajb,ajc⟩⟩
def Xp:fO:=⟨1,false,some [zS0],.slice 36 2 32 [zI0,zS0]⟩
def ary:fR prog 48 Xp:=⟨asa,λzs h=>by cases h;exact Wy,⟨aqQ,VD,VE⟩⟩
def Xq:fO:=⟨3,true,some [zI0,zS0,zI0],.struct [zI0,zS0,zI0] [(0,1),(1,1),(2,1)] [false,false,false]⟩
def arA:fR prog 51 Xq:=⟨asc,λzs h=>by cases h;exact atw,nD ajd ⟨af3,af4,af5,trivial⟩ ⟨afg,afh,afi,trivial⟩⟩
def Xr:fO:=⟨3,true,some [zI0,zS0,zI0],.struct [zI0,zS0,zI0] [(0,1),(1,1),(2,1)] [false,false,false]⟩
def arB:fR prog 52 Xr:=⟨asd,λzs h=>by cases h;exact Wz,nD aje ⟨afj,afk,afl,trivial⟩ ⟨afm,afn,afo,trivial⟩⟩
def Xs:fO:=⟨1,false,some [zS0],.slice 60 3 24 [zI0,zI0,zI0]⟩
def arC:fR prog 53 Xs:=⟨ase,λzs h=>by cases h;exact WA,⟨aqR,ajf,akz⟩⟩
def Xt:fO:=⟨3,true,some [zI0,zI0,zI0],.struct [zI0,zI0,zI0] [(0,1),(1,1),(2,1)] [false,false,false]⟩
def arE:fR prog 60 Xt:=⟨asf,λzs h=>by cases h;exact WB,nD akA ⟨afp,afq,afr,trivial⟩ ⟨afs,aft,afu,trivial⟩⟩
def Xu:fO:=⟨5,true,some [zI0,zI0,zI0,zI0,zI0],.struct [zI0,zI0,zI0,zI0,zI0] [(0,1),(1,1),(2,1),(3,1),(4,1)] [false,false,false,false,false]⟩
def arF:fR prog 62 Xu:=⟨asg,λzs h=>by cases h;exact WC,nD akC ⟨afv,afw,afx,afy,afz,trivial⟩ ⟨afA,afB,afC,afD,afE,trivial⟩⟩
def Xv:fO:=⟨1,false,some [zS0],.slice 28 2 48 [zS0,zS0]⟩
def arH:fR prog 71 Xv:=⟨asi,λzs h=>by cases h;exact atz,⟨aqS,akD,akE⟩⟩
def Xw:fO:=⟨1,false,some [zS0],.slice 46 1 24 [zS0]⟩
def arI:fR prog 72 Xw:=⟨asj,λzs h=>by cases h;exact atA,⟨aqT,akF,akG⟩⟩
def WX:fO:=⟨1,false,some [zS0],.slice 48 1 24 [zS0]⟩
def arJ:fR prog 74 WX:=⟨asl,λzs h=>by cases h;exact atB,⟨aqU,akH,akI⟩⟩
def WY:fO:=⟨1,false,some [zS0],.slice 22 1 24 [zS0]⟩
def arK:fR prog 76 WY:=⟨asm,λzs h=>by cases h;exact atC,⟨nR,Nx,Ny⟩⟩
def WZ:fO:=⟨1,false,some [zS0],.slice 53 1 24 [zS0]⟩
def arL:fR prog 77 WZ:=⟨asn,λzs h=>by cases h;exact atD,⟨aqV,akJ,akK⟩⟩
def W0:fO:=⟨2,true,some [zI0,zI0],.struct [zI0,zI0] [(0,1),(1,1)] [false,false]⟩
def arN:fR prog 84 W0:=⟨Wp,λzs h=>by cases h;exact WD,nD akL ⟨afF,ae6,trivial⟩ ⟨ae7,ae8,trivial⟩⟩
def VN:fO:=⟨2,true,some [zS0,zI0],.struct [zS0,zI0] [(0,1),(1,1)] [false,false]⟩
def akx:fR prog 103 VN:=⟨akM,λzs h=>by cases h;exact ajS,nD ahg ⟨adq,adr,trivial⟩ ⟨ads,adt,trivial⟩⟩
def Vm:fO:=⟨1,false,some [zS0],.slice 106 1 24 [zS0]⟩
def aky:fR prog 105 Vm:=⟨akN,λzs h=>by cases h;exact ajT,⟨zk,U1,U2⟩⟩
def Vn:fO:=⟨1,false,some [zS0],.slice 4 1 1 [.bool false]⟩
def aj2:fR prog 106 Vn:=⟨Eu,λzs h=>by cases h;exact Vz,⟨akO,U3,U4⟩⟩
def Vo:fO:=⟨1,false,some [zS0],.slice 175 3 24 [zI0,zI0,zI0]⟩
def aj3:fR prog 111 Vo:=⟨VF,λzs h=>by cases h;exact ajU,⟨Nz,ahh,ahi⟩⟩
def Vp:fO:=⟨100,true,some [zI0,zI0,zI0,zI0,zI0,zI0,zI0,zI0,zI0,zI0,zI0,zI0,zI0,zI0,zI0,zI0,zI0,zI0,zI0,zI0,zI0,zI0,zI0,zI0,zI0,zI0,zI0,zI0,zI0,zI0,zI0,zI0,zI0,zI0,zI0,zI0,zI0,zI0,zI0,zI0,zI0,zI0,zI0,zI0,zI0,zI0,zI0,zI0,zI0,zI0,zI0,zI0,zI0,zI0,zI0,zI0,zI0,zI0,zI0,zI0,zI0,zI0,zI0,zI0,zI0,zI0,zI0,zI0,zI0,zI0,zI0,zI0,zI0,zI0,zI0,zI0,zI0,zI0,zI0,zI0,zI0,zI0,zI0,zI0,zI0,zI0,zI0,zI0,zI0,zI0,zI0,zI0,zI0,zI0,zI0,zI0,zI0,zI0,zI0,zI0],.pg⟩
def aj4:fR prog 114 Vp:=⟨Ev,λzs h=>by cases h;exact Il,trivial⟩
def Vq:fO:=⟨1,false,some [.map none],.pg⟩
def aj5:fR prog 125 Vq:=⟨akP,λzs h=>by cases h;exact ajV,trivial⟩
def Vr:fO:=⟨1,false,some [.map none],.pg⟩
def aj6:fR prog 126 Vr:=⟨akQ,λzs h=>by cases h;exact ajW,trivial⟩
def Vs:fO:=⟨1,false,some [.map none],.map 3 3 .i64⟩
def aj7:fR prog 144 Vs:=⟨Ei,λzs h=>by cases h;exact VA,HW⟩
def Vt:fO:=⟨1,false,some [.nilFunc],.pg⟩
def aj8:fR prog 158 Vt:=⟨akR,λzs h=>by cases h;exact ajX,trivial⟩
def Vu:fO:=⟨1,false,some [.pointer none],.pg⟩
def aj9:fR prog 161 Vu:=⟨akS,λzs h=>by cases h;exact ajY,trivial⟩
def Vv:fO:=⟨1,false,some [zS0],.slice 144 1 8 [.map none]⟩
def aka:fR prog 162 Vv:=⟨VG,λzs h=>by cases h;exact ajZ,⟨Ej,U5,ahj⟩⟩
def VW:fO:=⟨1,false,some [zS0],.slice 166 1 8 [.map none]⟩
def alz:fR prog 163 VW:=⟨VH,λzs h=>by cases h;exact aj0,⟨VI,U6,ahk⟩⟩
def VX:fO:=⟨3,true,some [zS0,zS0,zS0],.struct [zS0,zS0,zS0] [(0,1),(1,1),(2,1)] [false,false,false]⟩
def alA:fR prog 165 VX:=⟨akT,λzs h=>by cases h;exact aj1,nD ahl ⟨adu,adv,adw,trivial⟩ ⟨ac4,ac5,ac6,trivial⟩⟩
def VY:fO:=⟨1,false,some [.map none],.map 3 169 .i64⟩
def alB:fR prog 166 VY:=⟨VJ,λzs h=>by cases h;exact VB,HB⟩
def VZ:fO:=⟨2,true,some [zI0,zI0],.struct [zI0,zI0] [(0,1),(1,1)] [false,false]⟩
def alC:fR prog 169 VZ:=⟨akU,λzs h=>by cases h;exact ajg,nD ahm ⟨ac7,ac8,trivial⟩ ⟨ac9,ada,trivial⟩⟩
def V0:fO:=⟨1,false,some [.nilFunc],.pg⟩
def alD:fR prog 172 V0:=⟨akV,λzs h=>by cases h;exact ajh,trivial⟩
def V1:fO:=⟨3,true,some [zI0,zI0,zI0],.struct [zI0,zI0,zI0] [(0,2),(2,1)] [true,false]⟩
def alE:fR prog 175 V1:=⟨akW,λzs h=>by cases h;exact VC,nD ahn ⟨adb,ade,trivial⟩ ⟨adf,ad0,trivial⟩⟩
def V2:fO:=⟨1,false,some [.nilFunc],.pg⟩
def alF:fR prog 177 V2:=⟨akX,λzs h=>by cases h;exact aji,trivial⟩
def V3:fO:=⟨1,false,some [.int .u64 0],.int .u64⟩
def alG:fR prog 178 V3:=⟨akb,λzs h=>by cases h;exact ajj,underlying178⟩
def V4:fO:=⟨1,false,some [.nilFunc],.pg⟩
def alH:fR prog 182 V4:=⟨akc,λzs h=>by cases h;exact ajk,trivial⟩
def V5:fO:=⟨1,false,some [.nilFunc],.pg⟩
def alI:fR prog 185 V5:=⟨akd,λzs h=>by cases h;exact ajl,trivial⟩
def V6:fO:=⟨1,false,some [.nilFunc],.pg⟩
def alJ:fR prog 187 V6:=⟨ake,λzs h=>by cases h;exact ajm,trivial⟩
def V7:fO:=⟨1,false,some [.nilFunc],.pg⟩
def alK:fR prog 188 V7:=⟨akf,λzs h=>by cases h;exact ajn,trivial⟩
def V8:fO:=⟨1,false,some [.nilFunc],.pg⟩
def alL:fR prog 190 V8:=⟨akg,λzs h=>by cases h;exact ajo,trivial⟩
def V9:fO:=⟨1,false,some [.map none],.map 3 4 .i64⟩
def alM:fR prog 191 V9:=⟨akh,λzs h=>by cases h;exact ajp,U7⟩
def Wa:fO:=⟨1,false,some [.nilFunc],.pg⟩
def alN:fR prog 198 Wa:=⟨aki,λzs h=>by cases h;exact ajq,trivial⟩
def Wb:fO:=⟨1,false,some [zI0],.int .i64⟩
def alO:fR prog 245 Wb:=⟨akj,λzs h=>by cases h;exact ajr,underlying245⟩
def Wc:fO:=⟨1,false,some [.int .u32 0],.int .u32⟩
def alP:fR prog 252 Wc:=⟨akk,λzs h=>by cases h;exact ajs,underlying252⟩
def Wd:fO:=⟨1,false,some [.int .u64 0],.int .u64⟩
def alQ:fR prog 254 Wd:=⟨akl,λzs h=>by cases h;exact ajt,underlying254⟩
def b6:hf:=[(2,aad),(3,aae),(4,aaf),(5,aag),(6,aah),(7,aai),(8,aaj),(9,aak),(10,XC),(11,XD),(12,XE),(13,XF),(14,XG),(15,XH),(16,W7),(17,W8),(18,W9),(19,Xa),(21,Xb),(22,Xc),(23,Xd),(25,Xe),(26,Xf),(27,Xg),(28,Xh),(30,Xi),(31,Xj),(34,Xk),(35,Xl),(36,Xm),(37,Xn),(46,Xo),(48,Xp),(51,Xq),(52,Xr),(53,Xs),(60,Xt),(62,Xu),(71,Xv),(72,Xw),(74,WX),(76,WY),(77,WZ),(84,W0),(103,VN),(105,Vm),(106,Vn),(111,Vo),(114,Vp),(125,Vq),(126,Vr),(144,Vs),(158,Vt),(161,Vu),(162,Vv),(163,VW),(165,VX),(166,VY),(169,VZ),(172,V0),(175,V1),(177,V2),(178,V3),(182,V4),(185,V5),(187,V6),(188,V7),(190,V8),(191,V9),(198,Wa),(245,Wb),(252,Wc),(254,Wd)]
def cQ:j7 prog b6:=⟨aoR,⟨are,aro,arw,arz,arD,arG,arM,arO,aq4,aq5,aq6,aq7,aq8,aq9,ara,arb,arc,ard,arf,arh,ari,arj,ark,arl,arn,arp,arq,ars,art,aru,arv,arx,ary,arA,arB,arC,arE,arF,arH,arI,arJ,arK,arL,arN,akx,aky,aj2,aj3,aj4,aj5,aj6,aj7,aj8,aj9,aka,alz,alA,alB,alC,alD,alE,alF,alG,alH,alI,alJ,alK,alL,alM,alN,alO,alP,alQ,trivial⟩⟩
def amr:cS prog 12:=⟨call12⟩
def ams:cS prog 13:=⟨call13⟩
def rW:cS prog 14:=⟨call14⟩
def amt:cS prog 15:=⟨call15⟩
def amu:cS prog 19:=⟨call19⟩
def IA:cS prog 20:=⟨call20⟩
def N5:cS prog 21:=⟨call21⟩
def amv:cS prog 22:=⟨call22⟩
def W1:cS prog 23:=⟨call23⟩
def W2:cS prog 24:=⟨call24⟩
def W3:cS prog 25:=⟨call25⟩
def wM:cS prog 26:=⟨call26⟩
def W4:cS prog 27:=⟨call27⟩
def N6:cS prog 28:=⟨call28⟩
def amw:cS prog 29:=⟨call29⟩
def amx:cS prog 32:=⟨call32⟩
def amy:cS prog 33:=⟨call33⟩
def amz:cS prog 34:=⟨call34⟩
def IB:cS prog 35:=⟨call35⟩
def N7:cS prog 36:=⟨call36⟩
def amA:cS prog 37:=⟨call37⟩
def amB:cS prog 38:=⟨call38⟩
def amC:cS prog 39:=⟨call39⟩
def N8:cS prog 40:=⟨call40⟩
def amD:cS prog 41:=⟨call41⟩
def amE:cS prog 42:=⟨call42⟩
def W5:cS prog 43:=⟨call43⟩
def amF:cS prog 44:=⟨call44⟩
def W6:cS prog 45:=⟨call45⟩
def IC:cS prog 46:=⟨call46⟩
def zM:cS prog 59:=⟨call59⟩
def amG:cS prog 60:=⟨call60⟩
def amH:cS prog 61:=⟨call61⟩
def XW:cS prog 63:=⟨call63⟩
def amI:cS prog 64:=⟨call64⟩
def amJ:cS prog 67:=⟨call67⟩
def amK:cS prog 68:=⟨call68⟩
def XX:cS prog 70:=⟨call70⟩
def N9:cS prog 71:=⟨call71⟩
def Oa:cS prog 72:=⟨call72⟩
def XY:cS prog 73:=⟨call73⟩
def amL:cS prog 74:=⟨call74⟩
def amM:cS prog 75:=⟨call75⟩
def amN:cS prog 76:=⟨call76⟩
def B6:cS prog 77:=⟨call77⟩
def Ob:cS prog 78:=⟨call78⟩
def Oc:cS prog 79:=⟨call79⟩
def XZ:cS prog 80:=⟨call80⟩
def X0:cS prog 81:=⟨call81⟩
def amO:cS prog 82:=⟨call82⟩
def EU:cS prog 83:=⟨call83⟩
def Od:cS prog 84:=⟨call84⟩
def Oe:cS prog 85:=⟨call85⟩
def ID:cS prog 86:=⟨call86⟩
def EV:cS prog 87:=⟨call87⟩
def X1:cS prog 88:=⟨call88⟩
def X2:cS prog 89:=⟨call89⟩
def X3:cS prog 90:=⟨call90⟩
def Of:cS prog 91:=⟨call91⟩
def Og:cS prog 92:=⟨call92⟩
def X4:cS prog 93:=⟨call93⟩
def X5:cS prog 94:=⟨call94⟩
def Oh:cS prog 95:=⟨call95⟩
def X6:cS prog 96:=⟨call96⟩
def amP:cS prog 97:=⟨call97⟩
def amQ:cS prog 98:=⟨call98⟩
def IE:cS prog 99:=⟨call99⟩
def We:cS prog 100:=⟨call100⟩
def Wf:cS prog 101:=⟨call101⟩
def u6:cS prog 106:=⟨call106⟩
def DV:cS prog 119:=⟨call119⟩
def BC:cS prog 120:=⟨call120⟩
def alR:cS prog 121:=⟨call121⟩
def Is:cS prog 122:=⟨call122⟩
def alS:cS prog 123:=⟨call123⟩
def alT:cS prog 124:=⟨call124⟩
def En:cS prog 126:=⟨call126⟩
def alU:cS prog 127:=⟨call127⟩
def NF:cS prog 129:=⟨call129⟩
def alV:cS prog 130:=⟨call130⟩
def Wg:cS prog 131:=⟨call131⟩
def alW:cS prog 132:=⟨call132⟩
def alX:cS prog 133:=⟨call133⟩
def BD:cS prog 134:=⟨call134⟩
def NG:cS prog 135:=⟨call135⟩
def Wh:cS prog 136:=⟨call136⟩
def Wi:cS prog 137:=⟨call137⟩
def NH:cS prog 138:=⟨call138⟩
def ak8:cS prog 139:=⟨call139⟩
def ak9:cS prog 140:=⟨call140⟩
def ala:cS prog 141:=⟨call141⟩
def Ia:cS prog 142:=⟨call142⟩
def alb:cS prog 143:=⟨call143⟩
def alc:cS prog 144:=⟨call144⟩
def Wj:cS prog 145:=⟨call145⟩
def ald:cS prog 146:=⟨call146⟩
def BE:cS prog 147:=⟨call147⟩
def Ib:cS prog 148:=⟨call148⟩
def Ic:cS prog 149:=⟨call149⟩
def ale:cS prog 150:=⟨call150⟩
def alf:cS prog 151:=⟨call151⟩
def alg:cS prog 152:=⟨call152⟩
def alh:cS prog 153:=⟨call153⟩
def ali:cS prog 154:=⟨call154⟩
def alj:cS prog 156:=⟨call156⟩
def alk:cS prog 157:=⟨call157⟩
def Ex:cS prog 159:=⟨call159⟩
def BF:cS prog 164:=⟨call164⟩
def alm:cS prog 178:=⟨call178⟩
def aln:cS prog 180:=⟨call180⟩
def alo:cS prog 181:=⟨call181⟩
def alp:cS prog 182:=⟨call182⟩
def alq:cS prog 183:=⟨call183⟩
def alr:cS prog 185:=⟨call185⟩
def NI:cS prog 186:=⟨call186⟩
def als:cS prog 207:=⟨call207⟩
def alu:cS prog 216:=⟨call216⟩
def aO{N:Nat}{ids:List Nat}{y:Code}{Q:Exit→an→ag→Prop}{env:an}{σ:ag}{id:Nat}{ops:Array Oper}{gp:Bool}(Z:List (Nat×Hint prog))(eB:an)(σ2:ag)(k:aF ⟨prog,N,ids⟩ y Q eB σ2)
  (h:xW b6 N ids ops gp (lP ops gp Z).1 (lP ops gp Z).2 [] Z (rQ eB) σ2.ids env σ=some (eB,σ2,(lP ops gp Z).2.map λi=>(hintOf Z i).exp):=by kernel_rfl):aF ⟨prog,N,ids⟩ (.seq (.region id ops gp) y) Q env σ:=axr cQ [] Z eB σ2 h k
def Ko{N:Nat}{ids:List Nat}{Q:Exit→an→ag→Prop}{env:an}{σ:ag}{id:Nat}{ops:Array Oper}{gp:Bool}(Z:List (Nat×Hint prog))(eB:an)(σ2:ag)(k:Q .normal eB σ2)
  (h:xW b6 N ids ops gp (lP ops gp Z).1 (lP ops gp Z).2 [] Z (rQ eB) σ2.ids env σ=some (eB,σ2,(lP ops gp Z).2.map λi=>(hintOf Z i).exp):=by kernel_rfl):aF ⟨prog,N,ids⟩ (.region id ops gp) Q env σ:=A.R cQ [] Z eB σ2 h k
def X7(n:Nat):List Nat→Bool
 |[]=>false
 |k::r=>bif Nat.beq k n then true else X7 n r
def oi{α:Type}(ks:List Nat)(jo:List (Nat×α)):List (Nat×α)→List (Nat×α)
 |[]=>jo
 |p::l=>bif X7 p.1 ks then oi ks jo l else p::oi ks jo l
section
variable {N:Nat}{ids:List Nat}{y:Code}{Q:Exit→an→ag→Prop}{env:an}{σ:ag}{id:Nat}{ops:Array Oper}{gp:Bool}(Z:List (Nat×Hint prog))(ks:List Nat)(jo:an)(C1:List Nat)(Dc:ag)
def c0(k:aF ⟨prog,N,ids⟩ y Q (oi ks jo env) (oi C1 Dc σ))
  (h:xW b6 N ids ops gp (lP ops gp Z).1 (lP ops gp Z).2 [] Z (rQ (oi ks jo env)) (ag.ids (oi C1 Dc σ)) env σ=some (oi ks jo env,oi C1 Dc σ,(lP ops gp Z).2.map λi=>(hintOf Z i).exp):=by kernel_rfl):aF ⟨prog,N,ids⟩ (.seq (.region id ops gp) y) Q env σ:=axr cQ [] Z _ _ h k
def aH(k:aF ⟨prog,N,ids⟩ y Q (oi ks jo env) σ)
  (h:xW b6 N ids ops gp (lP ops gp Z).1 (lP ops gp Z).2 [] Z (rQ (oi ks jo env)) σ.ids env σ=some (oi ks jo env,σ,(lP ops gp Z).2.map λi=>(hintOf Z i).exp):=by kernel_rfl):aF ⟨prog,N,ids⟩ (.seq (.region id ops gp) y) Q env σ:=axr cQ [] Z _ _ h k
def hr(k:Q .normal (oi ks jo env) (oi C1 Dc σ))
  (h:xW b6 N ids ops gp (lP ops gp Z).1 (lP ops gp Z).2 [] Z (rQ (oi ks jo env)) (ag.ids (oi C1 Dc σ)) env σ=some (oi ks jo env,oi C1 Dc σ,(lP ops gp Z).2.map λi=>(hintOf Z i).exp):=by kernel_rfl):aF ⟨prog,N,ids⟩ (.region id ops gp) Q env σ:=A.R cQ [] Z _ _ h k
def cB(k:Q .normal (oi ks jo env) σ)
  (h:xW b6 N ids ops gp (lP ops gp Z).1 (lP ops gp Z).2 [] Z (rQ (oi ks jo env)) σ.ids env σ=some (oi ks jo env,σ,(lP ops gp Z).2.map λi=>(hintOf Z i).exp):=by kernel_rfl):aF ⟨prog,N,ids⟩ (.region id ops gp) Q env σ:=A.R cQ [] Z _ _ h k
end
def bG{N:Nat}{ids:List Nat}{fn:Func}{env:an}{σ σ2:ag}{R:W}(h:Oq b6 ids [] σ2.ids fn.results.toList env σ=some (R,σ2):=by kernel_rfl):
  sO ⟨prog,N,ids⟩ fn (λa aL=>a=R∧aL=σ2) .ret env σ:=axv cQ [] rfl h
variable {G:c7}
def fm{env eB:an}{σ σ2:ag}(h:D6 G.ids [] [] (rQ eB) σ2.ids env σ=some (eB,σ2):=by kernel_rfl):dr G env σ eB σ2:=dr.go [] [] h
variable {bp:Type}{r:bp}
def ck{α:Type}{J:α→Option bp}{env:an}{σ:ag}{hB:α→an}{hG:α→ag}(g:α)(bQ:J g=some r)(h:D6 G.ids [] [] (rQ (hB g)) (hG g).ids env σ=some (hB g,hG g):=by kernel_rfl):
  ∃g,J g=some r∧dr G env σ (hB g) (hG g):=⟨g,bQ,dr.go [] [] h⟩
variable {o:Operand}
def bz{p:Bool}{x y:Code}{Q:Exit→an→ag→Prop}{env:an}{σ:ag}(aK:p=true)(k:aF G x Q env σ)(ah:env.dg o=some (.bool p):=by kernel_rfl):aF G (.cond o x y) Q env σ:=axD ah aK k
def bx{p:Bool}{x y:Code}{Q:Exit→an→ag→Prop}{env:an}{σ:ag}(aK:p=false)(k:aF G y Q env σ)(ah:env.dg o=some (.bool p):=by kernel_rfl):aF G (.cond o x y) Q env σ:=axA ah aK k
def gM{env eB:an}{σ σ2:ag}(i4:List mS)(sl:List Nat)(h:D6 G.ids i4 sl (rQ eB) σ2.ids env σ=some (eB,σ2):=by kernel_rfl):dr G env σ eB σ2:=Tc h
def awD{p:Bool}{x y:Code}{Q:Exit→an→ag→Prop}{env:an}{σ:ag}{s t:Option bp}(hm:(bif p then s else t)=some r)(ga:p=true→s=some r→aF G x Q env σ)(bV:p=false→t=some r→aF G y Q env σ)(ah:env.dg o=some (.bool p):=by kernel_rfl):aF G (.cond o x y) Q env σ:=by
 rcases bL hm with⟨h,hm⟩|⟨h,hm⟩
 ·exact axD ah h (ga h hm)
 ·exact axA ah h (bV h hm)
abbrev W.d(p:Prop)[Decidable p]:W:=.bool (decide p)
abbrev c4.c(T:TypeId)(cs:List W):c4:=.cells T cs
abbrev U(n:Int):W:=.int .i64 n
abbrev av{α:Type}(e:jD α)(l:List α):W:=.bf false (aM e l)
abbrev tK(x:fe):List W:=[.int .i64 x.eR,.bool x.LD]
abbrev ga(x:dJ):List W:=[.int .i64 x.A,.int .i64 x.B,.int .i64 x.ki,.int .i64 x.lJ,.int .i64 x.lS]
abbrev bV(x:bu):List W:=[.bf false (aM fN x.cn),.bf false (aM ff x.Links)]
abbrev i3(x:aQ):List W:=[.int .i64 x.bh,.int .i64 x.aS]
abbrev rM(x:bW):List W:=[.int .i64 x.Hop.bh,.int .i64 x.Hop.aS,.int .i64 x.hM]
abbrev hp(x:eo):List W:=[.bf false (aM az x.L),.int .i64 x.At]
abbrev gL(x:bR):List W:=[.int .i64 x.cc,.bf false (aM bH x.Links)]
abbrev vY(x:bB):List W:=[.int .i64 x.bh,.int .i64 x.aS,.int .i64 x.Count]
abbrev hq(x:bY):List W:=[.int .i64 x.cc,.bf false (aM az x.dM),.int .i64 x.de]
abbrev xe:=List bB
abbrev yO:=List bW
abbrev AZ:=List (List bY)
abbrev Bk:=List bY
abbrev Bt:=List bR
abbrev Em:=List (List bR)
abbrev Es:=List aQ
abbrev GH:=List bu
abbrev G5:=List dJ
abbrev Hy:=List (List bB)
abbrev HC:=List fe
end
end Go.Proofs.YtmnbolcmepihlaaGreat
