/- The s8 sort by a function, at structs of the afQ own. No condition but bf aM stand in each. -/
import Derived.Test.YtmnbolcmepihlaaGreatBA
import Derived.Shelf.SlSortCmp.NoneTotal
namespace Go.Proofs.YtmnbolcmepihlaaGreat
set_option linter.all false
open Go Go.Sort Go.Lib Go.Shelf Go.RowKit
theorem alv{w w':World}(hf:∀b,b<w.heap.size→w'.heap[b]?=w.heap[b]?)(hs:w.heap.size≤w'.heap.size)(ht:w'.tape=w.tape)(ho:w'.os=w.os)(hu:w'.output=w.output)(hd:w.drawn≤w'.drawn):
  ∃q os',w'=grow (w.drewN q) os':=by
 refine⟨w'.drawn-w.drawn,w'.heap.extract w.heap.size w'.heap.size,?_⟩;obtain⟨h1,t1,d1,o1,u1⟩:=w';obtain⟨h,t,d,o,u⟩:=w;simp only at hf hs ht ho hu hd ⊢;subst ht ho hu;simp only[grow,World.drewN];congr 1
 ·apply Array.ext_getElem?;intro i;by_cases hi:i<h.size
  ·rw[Array.getElem?_append_left hi];exact hf i hi
  ·rw[Array.getElem?_append_right (by omega),Array.getElem?_extract];have e:h.size+(i-h.size)=i:=by omega
   rw[e];split
   ·rfl
   ·rw[Array.getElem?_eq_none (by omega)]
 ·omega
variable {α:Type}
theorem yT(l:List (α→Int)):SWO (ltOf (cZ l)) where
 irrefl:=λx=>by simpa [ltOf]using yh l x
 trans:=λx y z h1 h2=>by simp only[ltOf,decide_eq_true_eq]at *;exact mh l x y z h1 h2
 ntrans:=λx y z h1 h2=>by simp only[ltOf,decide_eq_false_iff_not]at *;exact yj l x y z h1 h2
variable {P:Program}{cf:α→α→Int}{enc:α→List AV}{k:Nat}{vals:α→List Value}
theorem vf{g:FuncId}[Inhabited α](hv:∀(I:Imm) (β:Nat→Value) x,aW I β (enc x) (vals x))
    (hro:∀x y,RO P g [] [.agg (enc x),.agg (enc y)] (.int .i64 (cf x y))) (blk off size:Nat) (w:World):CmpLays P g #[] vals k cf blk off size w:=λm os dk hs x y=>by
  generalize sortWorldK vals k w blk off m dk os=W
  have hin:aX ⟨P,0,[]⟩ (gO (snap W) (λ_=>.nilFunc) [] W) (snap W) (λ_=>.nilFunc) [] W:=
    {good:=qL,dO:=pJ,eX:=aQ.refl _,fU:=λ_ _ _ _=>rfl,frame:=λ_ _ _=>rfl,size:=Nat.le_refl _,tape:=rfl,os:=rfl,output:=rfl,drawn:=Nat.le_refl _,
     bB:=λd o hd=>by simp[Sto.get]at hd,bQ:=λd d' hd=>by simp[Sto.get]at hd,keep:=λd hd=>by simp at hd}
  have hc:=hro x y _ W _ (λ_=>.nilFunc) [.agg (vals x).toArray,.agg (vals y).toArray] hin (by
    simp only[aW,Rep];exact⟨_,_,rfl,⟨_,rfl,hv _ _ x⟩,_,_,rfl,⟨_,rfl,hv _ _ y⟩,rfl⟩)
  refine Calls.mono hc ?_;rintro e w' ⟨v,rfl,r,σ',I',β',⟨rfl,rfl⟩,fD,hw'⟩;have hvv:=de fD;subst hvv;exact⟨rfl,alv (λb hb=>hw'.frame b hb (by simp[gO,kQ,Sto.ids])) hw'.size hw'.tape hw'.os hw'.output hw'.drawn⟩
theorem yo{k:Nat}(hk:0<k):∀(L:List (List Value)),(∀x∈L,x.length=k)→∀t,L.flatten[t]?=(L[t / k]?).bind λx=>x[t%k]?
 |[],_,t=>by simp
 |x::r,h,t=>by
  have hx:=h x (by simp);rw[List.flatten_cons];by_cases ht:t<k
  ·rw[List.getElem?_append_left (by omega),Nat.div_eq_of_lt ht,Nat.mod_eq_of_lt ht];simp
  ·rw[List.getElem?_append_right (by omega),yo hk r (λy hy=>h y (by simp[hy])),hx];have e1:t / k=(t-k) / k+1:=by rw[Nat.div_eq_sub_div hk (by omega)]
   have e2:(t-k)%k=t%k:=by rw[Nat.mod_eq_sub_mod (by omega:t≥k)]
   rw[e1,e2];simp
theorem zR[Inhabited α](hk:0<k)(hl:∀x,(vals x).length=k)(d:Array α):(flatK vals k d).toList=(d.toList.map vals).flatten:=by
 apply List.ext_getElem?;intro t;rw[yo hk _ (λx hx=>by obtain⟨y,_,rfl⟩:=List.mem_map.1 hx;exact hl y),List.getElem?_map,Array.getElem?_toList,Array.getElem?_toList];by_cases ht:t<d.size*k
 ·have h1:t / k<d.size:=(Nat.div_lt_iff_lt_mul hk).2 ht;have h2:=get_flatK vals k d t ht;rw[Array.getElem?_eq_getElem (by simpa using ht),Array.getElem?_eq_getElem h1];rw[getElem!_pos (flatK vals k d) t (by simpa using ht)]at h2;rw[h2,getElem!_pos d _ h1];have h3:t%k<(vals d[t / k]).length:=by rw[hl];exact Nat.mod_lt _ hk
  simp[List.getElem?_eq_getElem h3,getElem!_pos,h3]
 ·have h1:d.size≤t / k:=(Nat.le_div_iff_mul_le hk).2 (by omega);rw[Array.getElem?_eq_none (by simpa using ht),Array.getElem?_eq_none h1];rfl
def ab2(P:Program)(f g:FuncId){α:Type}[Inhabited α](vals:α→List Value)(k:Nat)(cf:α→α→Int):Prop:=∀(blk off cap:Nat) (d:Array α) (w:World),HoldsK vals k w blk off d→blk<w.heap.size→d.size<4611686018427387904→
 Calls P f #[.slice (some ⟨blk,off,none⟩) d.size cap,.func (.func g) #[] #[]] w λe w'=>e=.returned (.tuple #[])∧∃d' n os,PermIn 0 d.size d d'∧SortedIn (ltOf cf) 0 d.size d'∧w'=sortWorldK vals k w blk off n d' os
def arq(P:Program)(f:FuncId):Prop:=∀(p:Option Addr) (cap:Nat) (fv:Value) (w:World),Calls P f #[.slice p 0 cap,fv] w λe w'=>e=.returned (.tuple #[])∧w'=w
theorem adJ[Inhabited α]{d d':Array α}(hp:PermIn 0 d.size d d')(hs:SortedIn (ltOf cf) 0 d.size d'):d'.toList.Perm d.toList∧d'.toList.Pairwise λa b=>¬cf b a<0:=by
 obtain⟨h1,_,h2⟩:=hp;refine⟨?_,?_⟩
 ·have e1:d'.extract 0 d.size=d':=by rw[←h1];simp
  have e2:d.extract 0 d.size=d:=by simp
  rwa [e1,e2]at h2
 rw[List.pairwise_iff_getElem];intro i j hi hj hij;have hj':j<d'.size:=by simpa using hj
 have:=hs i j (Nat.zero_le _) hij (by omega);rw[getElem!_pos d' j hj',getElem!_pos d' i (by omega)]at this;simpa [ltOf]using this
theorem rP{I:Imm}{α:Type}{enc:α→List AV}{vals:α→List Value}(hv:∀x vs,aS I (enc x) vs↔vs=vals x):∀(zs:List α) (vs:List Value),aS I (zs.map enc).flatten vs↔vs=(zs.map vals).flatten
 |[],vs=>by simp[aS]
 |z::r,vs=>by
  simp only[List.map_cons,List.flatten_cons];rw[cS];constructor
  ·rintro⟨us,ws,rfl,h1,h2⟩;rw[(hv z us).1 h1,(rP hv r ws).1 h2]
  ·rintro rfl;exact⟨_,_,rfl,(hv z _).2 rfl,(rP hv r _).2 rfl⟩
theorem wR{f g:FuncId}[Inhabited α](hv:∀(I:Imm) x vs,aS I (enc x) vs↔vs=vals x)(hk:0<k)(hl:∀x,(vals x).length=k)(hel:∀x,(enc x).length=k)
  (ht:∀a b c,cf a b<0→cf b c<0→cf a c<0) (hs:ab2 P f g vals k cf) (hn:arq P f) {d T:Nat} {zs ys:List α} (h:jO cf zs=some ys) :
  b9 P f [(d,.slice T k (zs.map enc) 0 false)] [.own d,.fn g []] (λr σ'=>r=.tup []∧σ'=[(d,.slice T k (ys.map enc) 0 false)]):=by
 intro cx w I β vs hw hr;obtain⟨hp1,hp2,hz⟩:=aeC ht h;simp only[aW]at hr;obtain⟨u,us,rfl,hr,u2,us2,rfl,hr2,rfl⟩:=hr;simp only[Rep,aW]at hr2;obtain⟨vs2,rfl,hr2⟩:=hr2;have e2:vs2=#[]:=by apply Array.ext';simpa using hr2
 subst e2;have hd:Sto.get [(d,br.slice T k (zs.map enc) 0 false)] d=some (.slice T k (zs.map enc) 0 false):=by rw[Sto.aK,if_pos rfl]
 have ho:=hw.bB d _ hd;simp only[Rep]at hr;obtain⟨rfl,hr⟩:=hr;simp only[aj,List.length_map]at ho;rcases ho with q|⟨q,q2,_⟩|⟨b,cap,arr,q1,q2,q3,q4,q5,q6,q7,q8,q9,q10,q11⟩
 ·rw[q]at hr;simp[fP]at hr
 ·have hz0:zs=[]:=by simpa using q2
  subst hz0;have hy0:ys=[]:=hp1.eq_nil;subst hy0;rw[q];refine Calls.mono (hn none 0 _ w) ?_;rintro e w' ⟨rfl,rfl⟩;exact⟨.tuple #[],rfl,.tup [],_,I,β,⟨rfl,rfl⟩,by simp only[Rep,aW];exact⟨_,rfl,rfl⟩,hw⟩
 ·have jT:arr.toList.take (zs.length*k)=(zs.map vals).flatten:=(rP (hv I) zs _).1 q6;have hsz:arr.size=cap*k:=q5;have hcap:zs.length*k≤arr.size:=by rw[hsz];exact Nat.mul_le_mul_right k q2
  have hfl:(flatK vals k zs.toArray).toList=(zs.map vals).flatten:=by rw[zR hk hl]
  have mg:∀j,j<zs.length*k→arr[j]?=some ((flatK vals k zs.toArray)[j]!):=λj hj=>by
   have h1:(flatK vals k zs.toArray)[j]?=arr[j]?:=by
    rw[←Array.getElem?_toList,←Array.getElem?_toList,hfl,←jT,List.getElem?_take,if_pos hj]
   have h2:j<(flatK vals k zs.toArray).size:=by simpa using hj
   rw[←h1,getElem!_pos _ j h2,Array.getElem?_eq_getElem h2]
  have hH:HoldsK vals k w b 0 zs.toArray:=λj hj=>by
   have hj:j<zs.length*k:=by simpa using hj
   constructor
   ·simp only[World.cell?,q4,Nat.zero_add];rw[mg j hj];rfl
   ·simp[World.frozen?,q4]
  have hlt:=bF q4;have hc:=hs b 0 cap zs.toArray w hH hlt (by simpa using hz);rw[q1];refine Calls.mono hc ?_;rintro e w' ⟨rfl,d',n,os,hpi,hso,rfl⟩;obtain⟨hpe,hpw⟩:=adJ hpi hso;have hd':d'.toList=ys:=yg (hpe.trans hp1.symm) hp2 hpw;have hyl:ys.length=zs.length:=hp1.length_eq;have hds:d'.size=zs.length:=by rw[←hyl,←hd'];simp
  generalize hR:flatK vals k d'=R;have hRl:R.toList=(ys.map vals).flatten:=by rw[←hR,zR hk hl,hd']
  have hRs:R.size=zs.length*k:=by rw[←hR,size_flatK,hds]
  have hsw:sortWorldK vals k w b 0 n d' os=grow (putRow id (Go.Sort.ahead w n) b 0 R) os:=by rw[←hR];rfl
  rw[hsw];have hheap:(grow (putRow id (Go.Sort.ahead w n) b 0 R) os).heap[b]?=some (.cells (putCells id 0 R arr) T (0,0)):=by
   simp only[grow,putRow,mapBlock,Go.Sort.ahead];rw[Array.getElem?_append_left (by simpa using hlt),Array.getElem?_modify,if_pos rfl,q4];rfl
  have aet:(putCells id 0 R arr).toList.take (ys.length*k)=(ys.map vals).flatten:=by
   rw[←hRl];apply List.ext_getElem?;intro j;rw[List.getElem?_take];split
   ·rename_i hj;rw[hyl]at hj;have hj2:j<arr.size:=by omega
    rw[Array.getElem?_toList,Array.getElem?_toList];simp only[putCells,Array.getElem?_mapIdx];have hj3:j<R.size:=by omega
    rw[Array.getElem?_eq_getElem hj2,Array.getElem?_eq_getElem hj3];simp[hj3]
   ·rename_i hj;rw[List.getElem?_eq_none (by simp only[Array.length_toList];rw[hyl]at hj;omega)]
  refine⟨.tuple #[],rfl,.tup [],_,I,β,⟨rfl,rfl⟩,by simp only[Rep,aW];exact⟨_,rfl,rfl⟩,?_⟩;refine aX.turn (b:=b) (d:=d) hw ⟨λk hk hlt=>?_,by simp[grow,putRow,mapBlock,Go.Sort.ahead],rfl,rfl,rfl,by simp[grow,putRow,mapBlock,Go.Sort.ahead]⟩ q11 (λx hx=>?_) (λx hx h _=>?_) (aQ.refl I) (λ_ _ _=>rfl) (λo v hv=>?_) (hw.gN q4) (λ_ _=>rfl) (.inr rfl) (HLe.refl β) (.inl (by rw[q1];rfl)) (λob hob=>?_)
  ·simp only[grow,putRow,mapBlock,Go.Sort.ahead];rw[Array.getElem?_append_left (by simpa using hlt),Array.getElem?_modify,if_neg (λe=>hk e.symm)]
  ·rw[Sto.aK,Sto.aK,if_neg (Ne.symm hx),if_neg (Ne.symm hx)]
  ·rw[Sto.aK,if_neg (Ne.symm hx)]at h;simp[Sto.get]at h
  ·rw[q10 o (by omega)]at hv;cases hv
  ·rw[Sto.aK,if_pos rfl]at hob;injection hob with hob
   subst hob;simp only[aj,List.length_map];refine .inr (.inr ⟨b,cap,_,by rw[q1,hyl],by omega,q3,hheap,by simpa [putCells]using q5,?_,?_,by omega,?_,?_,q11⟩)
   ·exact(rP (hv I) _ _).2 aet
   ·intro e he;obtain⟨x,_,rfl⟩:=List.mem_map.1 he;exact hel x
   ·intro h;cases h
   ·intro o _;exact q10 o (by omega)
end Go.Proofs.YtmnbolcmepihlaaGreat
