/- gw F9 sort by a xD, at tO of aR OG own. bM bN cu cg bz cv in ck. -/
import Derived.Test.YtmnbolcmepihlaaGreatBA
import Derived.Shelf.SlSortCmp.NoneTotal
namespace Go.Proofs.YtmnbolcmepihlaaGreat
set_option linter.all false
open Go Go.Sort Go.Lib Go.Shelf Go.RowKit
theorem Y7{w w':World}(be:∀b,b<w.heap.size→w'.heap[b]?=w.heap[b]?)(W:w.heap.size≤w'.heap.size)(bB:w'.tape=w.tape)(aj:w'.os=w.os)(hu:w'.output=w.output)(Z:w.drawn≤w'.drawn):
  ∃q aiI,w'=grow (w.drewN q) aiI:=by
 refine⟨w'.drawn-w.drawn,w'.heap.extract w.heap.size w'.heap.size,?_⟩;obtain⟨h1,t1,d1,gd,iT⟩:=w';obtain⟨h,t,d,o,ay⟩:=w;simp only at be W bB aj hu Z ⊢;subst bB aj hu;simp only[grow,World.drewN];congr 1
 ·apply Array.ext_getElem?;intro i;by_cases hi:i<h.size
  ·rw[Array.getElem?_append_left hi];exact be i hi
  ·rw[Array.getElem?_append_right (by omega),Array.getElem?_extract];have e:h.size+(i-h.size)=i:=by omega
   rw[e];split
   ·rfl
   ·rw[Array.getElem?_eq_none (by omega)]
 ·omega
variable {α:Type}
theorem Ma(l:List (α→Int)):SWO (ltOf (fL l)) where
 irrefl:=λx=>by simpa [ltOf]using TL l x
 trans:=λx y z h1 D=>by simp only[ltOf,decide_eq_true_eq]at *;exact x3 l x y z h1 D
 ntrans:=λx y z h1 D=>by simp only[ltOf,decide_eq_false_iff_not]at *;exact TM l x y z h1 D
variable {P:Program}{eE:α→α→Int}{enc:α→List U}{fR:α→List Value}{k:Nat}
theorem Ll{g:FuncId}[Inhabited α](af:∀(I:bw) (β:Nat→Value) x,bO I β (enc x) (fR x))
    (cE:∀x y,ef P g [] [.agg (enc x),.agg (enc y)] (.int .i64 (eE x y))) (bV off size:Nat) (w:World):CmpLays P g #[] fR k eE bV off size w:=λm os afz W x y=>by
  generalize sortWorldK fR k w bV off m afz os=a1
  have fA:bS ⟨P,0,[]⟩ (mE (iq a1) (λ_=>.nilFunc) [] a1) (iq a1) (λ_=>.nilFunc) [] a1:=
    {good:=CY,h9:=CQ,ja:=b7.refl _,iL:=λ_ _ _ _=>rfl,frame:=λ_ _ _=>rfl,size:=Nat.le_refl _,tape:=rfl,os:=rfl,output:=rfl,drawn:=Nat.le_refl _,
     cB:=λd o Z=>by simp[Y.get]at Z,dn:=λd eD Z=>by simp[Y.get]at Z,keep:=λd Z=>by simp at Z}
  have aa:=cE x y _ a1 _ (λ_=>.nilFunc) [.agg (fR x).toArray,.agg (fR y).toArray] fA (by
    simp only[bO,ar];exact⟨_,_,rfl,⟨_,rfl,af _ _ x⟩,_,_,rfl,⟨_,rfl,af _ _ y⟩,rfl⟩)
  refine Calls.mono aa ?_;rintro e w' ⟨v,rfl,r,az,aS,β',⟨rfl,rfl⟩,jg,eS⟩;have ahQ:=iH jg;subst ahQ;exact⟨rfl,Y7 (λb V=>eS.frame b V (by simp[mE,te,Y.ids])) eS.size eS.tape eS.os eS.output eS.drawn⟩
theorem TP{k:Nat}(hk:0<k):∀(L:List (List Value)),(∀x∈L,x.length=k)→∀t,L.flatten[t]?=(L[t / k]?).bind λx=>x[t%k]?
 |[],_,t=>by simp
 |x::r,h,t=>by
  have u:=h x (by simp);rw[List.flatten_cons];by_cases bB:t<k
  ·rw[List.getElem?_append_left (by omega),Nat.div_eq_of_lt bB,Nat.mod_eq_of_lt bB];simp
  ·rw[List.getElem?_append_right (by omega),TP hk r (λy ah=>h y (by simp[ah])),u];have aA:t / k=(t-k) / k+1:=by rw[Nat.div_eq_sub_div hk (by omega)]
   have e2:(t-k)%k=t%k:=by rw[Nat.mod_eq_sub_mod (by omega:t≥k)]
   rw[aA,e2];simp
theorem T7[Inhabited α](hk:0<k)(aJ:∀x,(fR x).length=k)(d:Array α):(flatK fR k d).toList=(d.toList.map fR).flatten:=by
 apply List.ext_getElem?;intro t;rw[TP hk _ (λx u=>by obtain⟨y,_,rfl⟩:=List.mem_map.1 u;exact aJ y),List.getElem?_map,Array.getElem?_toList,Array.getElem?_toList];by_cases bB:t<d.size*k
 ·have h1:t / k<d.size:=(Nat.div_lt_iff_lt_mul hk).2 bB;have D:=get_flatK fR k d t bB;rw[Array.getElem?_eq_getElem (by simpa using bB),Array.getElem?_eq_getElem h1];rw[getElem!_pos (flatK fR k d) t (by simpa using bB)]at D;rw[D,getElem!_pos d _ h1];have ak:t%k<(fR d[t / k]).length:=by rw[aJ];exact Nat.mod_lt _ hk
  simp[List.getElem?_eq_getElem ak,getElem!_pos,ak]
 ·have h1:d.size≤t / k:=(Nat.le_div_iff_mul_le hk).2 (by omega);rw[Array.getElem?_eq_none (by simpa using bB),Array.getElem?_eq_none h1];rfl
def Ho(P:Program)(f g:FuncId){α:Type}[Inhabited α](fR:α→List Value)(k:Nat)(eE:α→α→Int):Prop:=∀(bV off aF:Nat) (d:Array α) (w:World),HoldsK fR k w bV off d→bV<w.heap.size→d.size<4611686018427387904→
 Calls P f #[.slice (some ⟨bV,off,none⟩) d.size aF,.func (.func g) #[] #[]] w λe w'=>e=.returned (.tuple #[])∧∃eD n os,PermIn 0 d.size d eD∧SortedIn (ltOf eE) 0 d.size eD∧w'=sortWorldK fR k w bV off n eD os
def ad9(P:Program)(f:FuncId):Prop:=∀(p:Option Addr) (aF:Nat) (xE:Value) (w:World),Calls P f #[.slice p 0 aF,xE] w λe w'=>e=.returned (.tuple #[])∧w'=w
theorem Vy[Inhabited α]{d eD:Array α}(aB:PermIn 0 d.size d eD)(W:SortedIn (ltOf eE) 0 d.size eD):eD.toList.Perm d.toList∧eD.toList.Pairwise λa b=>¬eE b a<0:=by
 obtain⟨h1,_,D⟩:=aB;refine⟨?_,?_⟩
 ·have aA:eD.extract 0 d.size=eD:=by rw[←h1];simp
  have e2:d.extract 0 d.size=d:=by simp
  rwa [aA,e2]at D
 rw[List.pairwise_iff_getElem];intro i j hi aM g2;have nZ:j<eD.size:=by simpa using aM
 have:=W i j (Nat.zero_le _) g2 (by omega);rw[getElem!_pos eD j nZ,getElem!_pos eD i (by omega)]at this;simpa [ltOf]using this
theorem FZ{I:bw}{α:Type}{enc:α→List U}{fR:α→List Value}(af:∀x vs,b9 I (enc x) vs↔vs=fR x):∀(zs:List α) (vs:List Value),b9 I (zs.map enc).flatten vs↔vs=(zs.map fR).flatten
 |[],vs=>by simp[b9]
 |z::r,vs=>by
  simp only[List.map_cons,List.flatten_cons];rw[lN];constructor
  ·rintro⟨bF,ws,rfl,h1,D⟩;rw[(af z bF).1 h1,(FZ af r ws).1 D]
  ·rintro rfl;exact⟨_,_,rfl,(af z _).2 rfl,(FZ af r _).2 rfl⟩
theorem LC{f g:FuncId}[Inhabited α](af:∀(I:bw) x vs,b9 I (enc x) vs↔vs=fR x)(hk:0<k)(aJ:∀x,(fR x).length=k)(xO:∀x,(enc x).length=k)
  (bB:∀a b c,eE a b<0→eE b c<0→eE a c<0) (W:Ho P f g fR k eE) (aT:ad9 P f) {d T:Nat} {zs bu:List α} (h:m0 eE zs=some bu) :
  gi P f [(d,.slice T k (zs.map enc) 0 false)] [.own d,.fn g []] (λr az=>r=.cD []∧az=[(d,.slice T k (bu.map enc) 0 false)]):=by
 intro cx w I β vs aq ax;obtain⟨p4,n2,hz⟩:=VU bB h;simp only[bO]at ax;obtain⟨ay,bF,rfl,ax,jK,w8,rfl,jR,rfl⟩:=ax;simp only[ar,bO]at jR;obtain⟨ala,rfl,jR⟩:=jR;have e2:ala=#[]:=by apply Array.ext';simpa using jR
 subst e2;have Z:Y.get [(d,cn.slice T k (zs.map enc) 0 false)] d=some (.slice T k (zs.map enc) 0 false):=by rw[Y.c4,if_pos rfl]
 have aj:=aq.cB d _ Z;simp only[ar]at ax;obtain⟨rfl,ax⟩:=ax;simp only[aU,List.length_map]at aj;rcases aj with q|⟨q,au,_⟩|⟨b,aF,arr,an,au,aK,aG,bb,bC,bY,cK,di,ec,e3⟩
 ·rw[q]at ax;simp[iy]at ax
 ·have Kg:zs=[]:=by simpa using au
  subst Kg;have ahY:bu=[]:=p4.eq_nil;subst ahY;rw[q];refine Calls.mono (aT none 0 _ w) ?_;rintro e w' ⟨rfl,rfl⟩;exact⟨.tuple #[],rfl,.cD [],_,I,β,⟨rfl,rfl⟩,by simp only[ar,bO];exact⟨_,rfl,rfl⟩,aq⟩
 ·have mo:arr.toList.take (zs.length*k)=(zs.map fR).flatten:=(FZ (af I) zs _).1 bC;have jH:arr.size=aF*k:=bb;have mF:zs.length*k≤arr.size:=by rw[jH];exact Nat.mul_le_mul_right k au
  have zl:(flatK fR k zs.toArray).toList=(zs.map fR).flatten:=by rw[T7 hk aJ]
  have lZ:∀j,j<zs.length*k→arr[j]?=some ((flatK fR k zs.toArray)[j]!):=λj aM=>by
   have h1:(flatK fR k zs.toArray)[j]?=arr[j]?:=by
    rw[←Array.getElem?_toList,←Array.getElem?_toList,zl,←mo,List.getElem?_take,if_pos aM]
   have D:j<(flatK fR k zs.toArray).size:=by simpa using aM
   rw[←h1,getElem!_pos _ j D,Array.getElem?_eq_getElem D]
  have rX:HoldsK fR k w b 0 zs.toArray:=λj aM=>by
   have aM:j<zs.length*k:=by simpa using aM
   constructor
   ·simp only[World.cell?,aG,Nat.zero_add];rw[lZ j aM];rfl
   ·simp[World.frozen?,aG]
  have bQ:=gV aG;have aa:=W b 0 aF zs.toArray w rX bQ (by simpa using hz);rw[an];refine Calls.mono aa ?_;rintro e w' ⟨rfl,eD,n,os,ahy,zB,rfl⟩;obtain⟨ahw,zy⟩:=Vy ahy zB;have dw:eD.toList=bu:=TK (ahw.trans p4.symm) n2 zy;have E2:bu.length=zs.length:=p4.length_eq;have nY:eD.size=zs.length:=by rw[←E2,←dw];simp
  generalize b2:flatK fR k eD=R;have JH:R.toList=(bu.map fR).flatten:=by rw[←b2,T7 hk aJ,dw]
  have zi:R.size=zs.length*k:=by rw[←b2,size_flatK,nY]
  have ahK:sortWorldK fR k w b 0 n eD os=grow (putRow id (Go.Sort.ahead w n) b 0 R) os:=by rw[←b2];rfl
  rw[ahK];have B1:(grow (putRow id (Go.Sort.ahead w n) b 0 R) os).heap[b]?=some (.cells (putCells id 0 R arr) T (0,0)):=by
   simp only[grow,putRow,mapBlock,Go.Sort.ahead];rw[Array.getElem?_append_left (by simpa using bQ),Array.getElem?_modify,if_pos rfl,aG];rfl
  have Ii:(putCells id 0 R arr).toList.take (bu.length*k)=(bu.map fR).flatten:=by
   rw[←JH];apply List.ext_getElem?;intro j;rw[List.getElem?_take];split
   ·rename_i aM;rw[E2]at aM;have jo:j<arr.size:=by omega
    rw[Array.getElem?_toList,Array.getElem?_toList];simp only[putCells,Array.getElem?_mapIdx];have qQ:j<R.size:=by omega
    rw[Array.getElem?_eq_getElem jo,Array.getElem?_eq_getElem qQ];simp[qQ]
   ·rename_i aM;rw[List.getElem?_eq_none (by simp only[Array.length_toList];rw[E2]at aM;omega)]
  refine⟨.tuple #[],rfl,.cD [],_,I,β,⟨rfl,rfl⟩,by simp only[ar,bO];exact⟨_,rfl,rfl⟩,?_⟩;refine bS.turn (b:=b) (d:=d) aq ⟨λk hk bQ=>?_,by simp[grow,putRow,mapBlock,Go.Sort.ahead],rfl,rfl,rfl,by simp[grow,putRow,mapBlock,Go.Sort.ahead]⟩ e3 (λx u=>?_) (λx u h _=>?_) (b7.refl I) (λ_ _ _=>rfl) (λo v af=>?_) (aq.rV aG) (λ_ _=>rfl) (.inr rfl) (g0.refl β) (.inl (by rw[an];rfl)) (λaI b3=>?_)
  ·simp only[grow,putRow,mapBlock,Go.Sort.ahead];rw[Array.getElem?_append_left (by simpa using bQ),Array.getElem?_modify,if_neg (λe=>hk e.symm)]
  ·rw[Y.c4,Y.c4,if_neg (Ne.symm u),if_neg (Ne.symm u)]
  ·rw[Y.c4,if_neg (Ne.symm u)]at h;simp[Y.get]at h
  ·rw[ec o (by omega)]at af;cases af
  ·rw[Y.c4,if_pos rfl]at b3;injection b3 with b3
   subst b3;simp only[aU,List.length_map];refine .inr (.inr ⟨b,aF,_,by rw[an,E2],by omega,aK,B1,by simpa [putCells]using bb,?_,?_,by omega,?_,?_,e3⟩)
   ·exact(FZ (af I) _ _).2 Ii
   ·intro e he;obtain⟨x,_,rfl⟩:=List.mem_map.1 he;exact xO x
   ·intro h;cases h
   ·intro o _;exact ec o (by omega)
end Go.Proofs.YtmnbolcmepihlaaGreat
