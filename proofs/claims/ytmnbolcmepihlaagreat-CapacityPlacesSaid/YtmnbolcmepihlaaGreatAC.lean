/- Several texts in one. No condition but those that stand in each. -/
import Derived.Maps.RangeRun
import Derived.Test.YtmnbolcmepihlaaGreatBA
import Derived.Laws.MakeOwn
import Derived.Laws.OwnMore
namespace Go.Proofs.YtmnbolcmepihlaaGreat
set_option linter.all false
open Go
section
section redo
variable {G:Gl}{cx:Cx}{I:Imm}{β:Nat→Value}{σ:Sto}{w:World}
theorem aX.redo(h:aX G cx I β σ w){M news:List Nat}{σ2:Sto}{β2:Nat→Value}{w':World}{b:Nat}(hk:Kept w w' b)(hIb:∀o,I b o=none)(hfree:∀x,x∉M→(σ.get x).isSome→b∉bY (β x))(hp:Place cx b)
    (hσ:∀x,x∉M→σ2.get x=σ.get x) (hβ:∀x,x∉news→β2 x=β x) (hnews:∀x∈news,x∈M∧x∉G.ids) (hcl:∀x o,x∉M→σ.get x=some o→fV news.contains o=false)
    (aas:∀x∈M,∀o,σ2.get x=some o→aj cx I β2 w' x o)
    (hown:∀x∈M,(σ2.get x).isSome→∀c∈bY (β2 x),∃y∈M,(σ.get y).isSome∧c∈bY (β y))
    (hsep:∀x∈M,∀y∈M,x≠y→(σ2.get x).isSome→(σ2.get y).isSome→∀c∈bY (β2 x),c∉bY (β2 y)):aX G cx I β2 σ2 w':=by
  have aeM:∀x,x∉M→β2 x=β x:=λx hx=>hβ x λhn=>hx (hnews x hn).1
  exact{
    good:=λb' o v hv=>by
      have h1:=h.good b' o v hv;have hlt:b'<w.heap.size:=World.block_lt_of_cell? w _ h1;have hne:b'≠b:=λe=>by subst e;rw[hIb]at hv;cases hv
      rw[World.cell?_of_block (w:=w) (hk.block b' hne hlt)];exact h1
    dO:=λb' v hv=>by
      have hne:b'≠b:=λe=>by subst e;rw[hIb]at hv;cases hv
      obtain⟨es,clock,h1,h2⟩:=h.dO b' v hv;exact⟨es,clock,by rw[hk.block b' hne (bF h1)];exact h1,h2⟩
    eX:=h.eX
    fU:=h.fU
    frame:=λb' hb hn=>by
      have:b'≠b:=λe=>by
        subst e;rcases hp with q|q
        · omega
        · exact hn q
      rw[hk.block b' this (by have:=h.size;omega)];exact h.frame b' hb hn
    size:=Nat.le_trans h.size hk.size
    tape:=hk.tape.trans h.tape
    os:=hk.os.trans h.os
    output:=hk.output.trans h.output
    drawn:=Nat.le_trans h.drawn hk.drawn
    bB:=λx o hx=>by
      by_cases hm:x∈M
      · exact aas x hm o hx
      · rw[hσ x hm]at hx
        have h1:=(h.bB x o hx).beta (β':=β2) (p:=news.contains) (λd hd=>hβ d (by simpa using hd)) (by simpa using λhn=>hm (hnews x hn).1) (hcl x o hm hx);exact h1.keep hk rfl (by rw[aeM x hm];exact hfree x hm (by rw[hx];rfl)) (aQ.refl I) (λ_ _ _=>rfl) (HLe.refl β2)
    bQ:=λx y hx hy hne c hc hc'=>by
      by_cases hm:x∈M
      · by_cases hm':y∈M
        · exact hsep x hm y hm' hne hx hy c hc hc'
        · obtain⟨z,z1,z2,z3⟩:=hown x hm hx c hc
          rw[hσ y hm']at hy;rw[aeM y hm']at hc';exact h.bQ z y z2 hy (λe=>hm' (e▸z1)) c z3 hc'
      · rw[hσ x hm]at hx
        rw[aeM x hm]at hc;by_cases hm':y∈M
        · obtain⟨z,z1,z2,z3⟩:=hown y hm' hy c hc'
          exact h.bQ x z hx z2 (λe=>hm (e▸z1)) c hc z3
        · rw[hσ y hm']at hy
          rw[aeM y hm']at hc';exact h.bQ x y hx hy hne c hc hc'
    keep:=λx hx=>by
      have:x∉news:=λhn=>(hnews x hn).2 hx;rw[hβ x this];exact h.keep x hx}
theorem aX.aeN(h:aX G cx I β σ w){M news:List Nat}{σ2:Sto}{β2:Nat→Value}
  (hσ:∀x,x∉M→σ2.get x=σ.get x) (hβ:∀x,x∉news→β2 x=β x) (hnews:∀x∈news,x∈M∧x∉G.ids) (hcl:∀x o,x∉M→σ.get x=some o→fV news.contains o=false)
  (aas:∀x∈M,∀o,σ2.get x=some o→aj cx I β2 w x o)
  (hown:∀x∈M,(σ2.get x).isSome→∀c∈bY (β2 x),∃y∈M,(σ.get y).isSome∧c∈bY (β y))
  (hsep:∀x∈M,∀y∈M,x≠y→(σ2.get x).isSome→(σ2.get y).isSome→∀c∈bY (β2 x),c∉bY (β2 y)):aX G cx I β2 σ2 w:=
 h.redo (b:=w.heap.size) ⟨λ_ _ _=>rfl,Nat.le_refl _,rfl,rfl,rfl,Nat.le_refl _⟩ (λo=>h.ct (Nat.le_refl _) o) (λx _ hs e=>by
  obtain⟨o,hs⟩:=Option.isSome_iff_exists.1 hs;exact absurd (h.lE hs e) (by omega)) (.inl h.size) hσ hβ hnews hcl aas hown hsep
end redo
section rows
variable {cx:Cx}{I:Imm}{w:World}
theorem eD.length:∀{els:List Rw} {hs:List Value},eD cx I w els hs→hs.length=els.length
 |[],_,h=>by rw[show _=[]from h];rfl
 |x::r,_,h=>by obtain⟨u,us,rfl,_,_,h3⟩:=h;simp[eD.length h3]
theorem eD.get:∀{els:List Rw} {hs:List Value},eD cx I w els hs→∀{i:Nat} {x:Rw},els[i]?=some x→∃v,hs[i]?=some v∧ia cx I w x v
 |[],_,_,i,x,hi=>by simp at hi
 |y::r,_,h,i,x,hi=>by
  obtain⟨u,us,rfl,h1,_,h3⟩:=h;cases i with
  |zero=>simp at hi;subst hi;exact⟨u,rfl,h1⟩
  |succ i=>simp at hi ⊢;exact h3.get hi
theorem eD.ne:∀{els:List Rw} {hs:List Value},eD cx I w els hs→∀{i j:Nat} {u v:Value} {b:Nat},i≠j→hs[i]?=some u→hs[j]?=some v→blk u=some b→blk v≠some b
 |[],_,h,i,j,u,v,b,_,hi,_,_=>by rw[show _=[]from h]at hi;simp at hi
 |y::r,_,h,i,j,u,v,b,hij,hi,hj,hu=>by
  obtain⟨z,us,rfl,h1,h2,h3⟩:=h;cases i with
  |zero=>
   cases j with
   |zero=>exact absurd rfl hij
   |succ j=>
    simp at hi hj;subst hi
    intro hv;exact h2 b hu (List.mem_filterMap.2 ⟨v,List.mem_of_getElem? hj,hv⟩)
  |succ i=>
   cases j with
   |zero=>
    simp at hi hj;subst hj
    intro hv;exact h2 b hv (List.mem_filterMap.2 ⟨u,List.mem_of_getElem? hi,hu⟩)
   |succ j=>simp at hi hj;exact h3.ne (λe=>hij (by rw[e])) hi hj hu
theorem eD.set:∀{els:List Rw} {hs:List Value},eD cx I w els hs→∀{i:Nat} {x:Rw} {v:Value},ia cx I w x v→(∀j u b,j≠i→hs[j]?=some u→blk v=some b→blk u≠some b)→eD cx I w (els.set i x) (hs.set i v)
 |[],_,h,i,x,v,_,_=>by rw[show _=[]from h];simp[eD]
 |y::r,_,h,i,x,v,hx,hd=>by
  obtain⟨z,us,rfl,h1,h2,h3⟩:=h;cases i with
  |zero=>
   refine⟨v,us,rfl,hx,λb hb hm=>?_,h3⟩;obtain⟨u,hu,hub⟩:=List.mem_filterMap.1 hm;obtain⟨j,hj⟩:=List.getElem?_of_mem hu;exact hd (j+1) u b (by simp) (by simpa using hj) hb hub
  |succ i=>
   refine⟨z,us.set i v,rfl,h1,λb hb hm=>?_,h3.set hx λj u b hj hu hb=>hd (j+1) u b (λe=>hj (by simpa using e)) (by simpa using hu) hb⟩;obtain⟨u,hu,hub⟩:=List.mem_filterMap.1 hm;rcases List.mem_or_eq_of_mem_set hu with hu|rfl
   ·exact h2 b hb (List.mem_filterMap.2 ⟨u,hu,hub⟩)
   ·exact hd 0 z b (by simp) rfl hub hb
theorem eD.push:∀{els:List Rw} {hs:List Value},eD cx I w els hs→∀{x:Rw} {v:Value},ia cx I w x v→(∀u b,u∈hs→blk v=some b→blk u≠some b)→eD cx I w (els++[x]) (hs++[v])
 |[],_,h,x,v,hx,_=>by rw[show _=[]from h];exact⟨v,[],rfl,hx,by simp,rfl⟩
 |y::r,_,h,x,v,hx,hd=>by
  obtain⟨z,us,rfl,h1,h2,h3⟩:=h;refine⟨z,us++[v],rfl,h1,λb hb hm=>?_,h3.push hx λu b hu=>hd u b (List.mem_cons_of_mem _ hu)⟩;obtain⟨u,hu,hub⟩:=List.mem_filterMap.1 hm;rcases List.mem_append.1 hu with hu|hu
  ·exact h2 b hb (List.mem_filterMap.2 ⟨u,hu,hub⟩)
  ·simp at hu;subst hu
   exact hd z b (by simp) hub hb
theorem eD.other{cx':Cx}{I':Imm}{w':World}{els:List Rw}{hs:List Value}(h:eD cx I w els hs)(hle:aQ I I')(hb:∀b∈hs.filterMap blk,(b<w.heap.size→w'.heap[b]?=w.heap[b]?)∧(∀o,I' b o=I b o)∧(Place cx b→Place cx' b)):eD cx' I' w' els hs:=h.go hle hb
theorem eY(vs:Array Value):bY (.tuple vs)=vs.toList.filterMap blk:=rfl
theorem qA{hs:List Value}{i:Nat}{v:Value}{b:Nat}(h:b∈(hs.set i v).filterMap blk):b∈hs.filterMap blk∨blk v=some b:=by
 obtain⟨u,hu,hub⟩:=List.mem_filterMap.1 h;rcases List.mem_or_eq_of_mem_set hu with hu|rfl
 ·exact .inl (List.mem_filterMap.2 ⟨u,hu,hub⟩)
 ·exact .inr hub
def Rw.obj:Rw→br
 |.sl T sz xs=>.slice T sz xs 0 false
 |.mp K E aL=>.map K E aL
def Rw.empty:Rw→Rw
 |.sl T sz _=>.sl T sz []
 |.mp _ _ _=>.sl 0 0 []
theorem Rw.alw(x:Rw):ia cx I w x.empty (.slice none 0 0):=by cases x<;>exact .inl ⟨rfl,rfl⟩
theorem ia.obj{x:Rw}{v:Value}{β:Nat→Value}{d:Nat}(h:ia cx I w x v)(hd:β d=v):aj cx I β w d x.obj:=by
 cases x with
 |sl T sz xs=>
  simp only[Rw.obj,aj,hd];rcases h with⟨h,rfl⟩|⟨b,cap,arr,h1,h2,h3,h4,h5,h6,h7,h8,h9⟩
  ·exact .inr (.inl ⟨h,rfl,trivial⟩)
  ·exact .inr (.inr ⟨b,cap,arr,h1,h2,h3,h4,h5,h6,h7,Nat.zero_le _,λh=>(by cases h),λo _=>h8 o,h9⟩)
 |mp K E aL=>
  simp only[Rw.obj,aj,hd];obtain⟨r,es,clock,h1,h2,h3,h4,h5,h6⟩:=h;exact .inr ⟨r,es,clock,h1,h2,h3,h4,h5,h6⟩
theorem ia.of_slice{T sz:Nat}{xs:List (List AV)}{fz:Bool}{β:Nat→Value}{d:Nat}(h:aj cx I β w d (.slice T sz xs 0 fz))(hn:β d≠.nilFunc):ia cx I w (.sl T sz xs) (β d):=by
 simp only[aj]at h;rcases h with h|⟨h,rfl,_⟩|⟨b,cap,arr,h1,h2,h3,h4,h5,h6,h7,_,_,h8,h9⟩
 ·exact absurd h hn
 ·exact .inl ⟨h,rfl⟩
 ·exact .inr ⟨b,cap,arr,h1,h2,h3,h4,h5,h6,h7,λo=>h8 o (by omega),h9⟩
theorem ia.ne{x:Rw}{v:Value}(h:ia cx I w x v):v≠.nilFunc∧(fP v=true∨jS v=true):=by
 cases x with
 |sl T sz xs=>
  rcases h with⟨h,_⟩|⟨b,cap,arr,h1,_⟩
  ·rw[h];simp[fP]
  ·rw[h1];simp[fP]
 |mp K E aL=>obtain⟨r,es,clock,h1,_⟩:=h;rw[h1];simp[jS]
theorem ia.sx{x:Rw}{v:Value}(h:ia cx I w x v){b:Nat}(hb:b∈bY v):blk v=some b:=by
 cases v with
 |tuple vs=>
  have:=h.ne.2;simp[fP,jS]at this
 |_=>simpa [bY]using hb
end rows
def br.reb(e2:Nat)(h2:Option (Option Nat×Nat)):br→br
 |.b8 T _ n _=>.b8 T e2 n h2
 |.gh K E _ keys _ fx=>.gh K E e2 keys h2 fx
 |o=>o
def br.wS:br→Option (Nat×Option (Option Nat×Nat))
 |.b8 _ e _ h=>some (e,h)
 |.gh _ _ e _ h _=>some (e,h)
 |_=>none
theorem aj.outer{cx:Cx}{I:Imm}{β:Nat→Value}{w:World}{d:Nat}{o:br}{e:Nat}{hole:Option (Option Nat×Nat)}(ho:o.wS=some (e,hole))(h:aj cx I β w d o):
  β d=.nilFunc∨∃hs as,β e=.tuple hs∧eW β hs.toList as hole∧∃b,blk (β d)=some b:=by
 cases o<;>simp only[br.wS,Option.some.injEq,Prod.mk.injEq]at ho<;>first|(cases ho;done)|skip
 ·obtain⟨rfl,rfl⟩:=ho;simp only[aj]at h;rcases h with q|⟨b,cap,arr,hs,q1,q2,q3,q4,q5,q6,q7,q8,q9,q10⟩
  ·exact .inl q
  ·exact .inr ⟨hs,_,q6,q8,b,by rw[q1];rfl⟩
 ·obtain⟨rfl,rfl⟩:=ho;simp only[aj]at h;rcases h with q|⟨r,es,clock,hs,as,q1,q2,q3,q4,q5,q6,q7,q8⟩
  ·exact .inl q
  ·exact .inr ⟨hs,_,q3,q4,r,by rw[q1];rfl⟩
theorem aj.age{cx:Cx}{I:Imm}{β β2:Nat→Value}{w:World}{d:Nat}{o:br}{e e2:Nat}{hole h2:Option (Option Nat×Nat)}{hs hs2:Array Value}(ho:o.wS=some (e,hole))(h:aj cx I β w d o)(hd:β2 d=β d)
  (he:β e=.tuple hs) (he2:β2 e2=.tuple hs2) (hn:hs2.size=hs.size) (hh:∀as,eW β hs.toList as hole→eW β2 hs2.toList as h2):aj cx I β2 w d (o.reb e2 h2):=by
 cases o<;>simp only[br.wS,Option.some.injEq,Prod.mk.injEq]at ho<;>first|(cases ho;done)|skip
 ·obtain⟨rfl,rfl⟩:=ho;simp only[aj,br.reb,hd]at h ⊢;rcases h with q|⟨b,cap,arr,hs',q1,q2,q3,q4,q5,q6,q7,q8,q9,q10⟩
  ·exact .inl q
  ·rw[he]at q6;cases q6
   exact .inr ⟨b,cap,arr,hs2,q1,q2,q3,q4,q5,he2,hn.trans q7,hh _ q8,q9,q10⟩
 ·obtain⟨rfl,rfl⟩:=ho;simp only[aj,br.reb,hd]at h ⊢;rcases h with q|⟨r,es,clock,hs',as,q1,q2,q3,q4,q5,q6,q7,q8⟩
  ·exact .inl q
  ·rw[he]at q3;cases q3
   exact .inr ⟨r,es,clock,hs2,as,q1,q2,he2,hh _ q4,q5,q6,q7,q8⟩
section take
variable {G:Gl}{cx:Cx}{I:Imm}{β:Nat→Value}{σ:Sto}{w:World}
def xR(σ:Sto)(d e e2 t:Nat)(od:br)(els:List Rw)(i:Nat)(x:Rw):Sto:=(t,x.obj)::(e2,.bun (els.set i x.empty))::(d,od.reb e2 (some (some i,t)))::σ.minus [d,e]
theorem acD{σ:Sto}{a b c:Nat}{oa ob oc:br}{M:List Nat}(x:Nat):Sto.get ((a,oa)::(b,ob)::(c,oc)::σ.minus M) x=if a=x then some oa else if b=x then some ob else if c=x then some oc else if x∈M then none else σ.get x:=by
 rw[Sto.aK,Sto.aK,Sto.aK,Sto.dn]
theorem tK{σ:Sto}{a b:Nat}{oa ob:br}{M:List Nat}(x:Nat):Sto.get ((a,oa)::(b,ob)::σ.minus M) x=if a=x then some oa else if b=x then some ob else if x∈M then none else σ.get x:=by
 rw[Sto.aK,Sto.aK,Sto.dn]
theorem aX.take(h:aX G cx I β σ w){d e e2 t i:Nat}{od:br}{els:List Rw}{x:Rw}(hd:σ.get d=some od)(ho:od.wS=some (e,none))(he:σ.get e=some (.bun els))(hx:els[i]?=some x)(hdn:β d≠.nilFunc)
  (ht:σ.get t=none) (he2:σ.get e2=none) (hte:t≠e2) (hti:t∉G.ids) (hei:e2∉G.ids) (hcl:σ.clean [t,e2].contains=true) :
  ∃hs:Array Value,β e=.tuple hs∧∃v,hs[i]?=some v∧ia cx I w x v∧aX G cx I (λy=>if y=t then v else if y=e2 then .tuple (hs.setIfInBounds i (.slice none 0 0))else β y) (xR σ d e e2 t od els i x) w:=by
 rcases(h.bB d od hd).outer ho with q|⟨hs,as,q1,q2,bd,q3⟩
 ·exact absurd q hdn
 have hbu:=h.bB e _ he;simp only[aj,q1,Value.tuple.injEq,reduceCtorEq,false_or]at hbu;obtain⟨hs',rfl,hb⟩:=hbu;obtain⟨v,v1,v2⟩:=hb.get hx;refine⟨hs,q1,v,by simpa using v1,v2,?_⟩;have hne:∀y,(σ.get y).isSome→y≠t∧y≠e2:=λy hy=>⟨λe=>(by subst e;rw[ht]at hy;cases hy),λe=>(by subst e;rw[he2]at hy;cases hy)⟩;have wT:=hne d (by rw[hd];rfl);have aeO:=hne e (by rw[he];rfl);have hde:d≠e:=λe'=>by subst e';rw[hd]at he;cases he;cases ho
 have hilt:i<hs.toList.length:=(List.getElem?_eq_some_iff.1 v1).1
 let β2:Nat→Value:=λy=>if y=t then v else if y=e2 then .tuple (hs.setIfInBounds i (.slice none 0 0))else β y
 have b2t:β2 t=v:=by show(if _ then _ else _)=_;rw[if_pos rfl]
 have b2e:β2 e2=.tuple (hs.setIfInBounds i (.slice none 0 0)):=by show(if _ then _ else _)=_;rw[if_neg (Ne.symm hte),if_pos rfl]
 have b2d:β2 d=β d:=by show(if _ then _ else _)=_;rw[if_neg wT.1,if_neg wT.2]
 have hsl:(hs.setIfInBounds i (.slice none 0 0)).toList=hs.toList.set i (.slice none 0 0):=by simp
 refine h.aeN (M:=[d,e,e2,t]) (news:=[t,e2]) (β2:=β2) (λy hy=>?_) (λy hy=>?_) (λy hy=>?_) (λy o _ hyo=>(Sto.cm hcl y o hyo).2) (λy hy o hyo=>?_) (λy hy hs2 c hc=>?_) (λy hy z hz hyz hs1 hs2 c hc hc'=>?_)
 ·simp only[List.mem_cons,List.not_mem_nil,or_false,not_or]at hy;rw[xR,acD,if_neg (Ne.symm hy.2.2.2),if_neg (Ne.symm hy.2.2.1),if_neg (Ne.symm hy.1),if_neg (by simp[hy.1,hy.2.1])]
 ·simp only[List.mem_cons,List.not_mem_nil,or_false,not_or]at hy;show(if _ then _ else _)=_;rw[if_neg hy.1,if_neg hy.2]
 ·simp only[List.mem_cons,List.not_mem_nil,or_false]at hy;rcases hy with rfl|rfl
  ·exact⟨by simp,hti⟩
  ·exact⟨by simp,hei⟩
 ·rw[xR,acD]at hyo;split at hyo
  ·rename_i e';subst e';cases hyo;exact v2.obj b2t
  ·split at hyo
   ·rename_i e';subst e';cases hyo
    simp only[aj];refine .inr ⟨_,b2e,?_⟩;rw[hsl];exact hb.set x.alw λj u b _ _ hb'=>by cases hb'
   ·split at hyo
    ·rename_i e';subst e';cases hyo
     refine(h.bB d od hd).age ho b2d q1 b2e (by simp) λas has=>?_;rw[show as=hs.toList from has,hsl];refine⟨by simpa using hilt,by rw[b2t];exact v2.ne.1,?_⟩;rw[b2t,List.set_set];apply List.ext_getElem?;intro j;rw[List.getElem?_set];by_cases hij:i=j
     ·subst hij;rw[if_pos rfl,if_pos hilt];exact v1
     ·rw[if_neg hij]
    ·split at hyo
     ·cases hyo
     ·rename_i h1 h2 h3 h4;simp only[List.mem_cons,List.not_mem_nil,or_false]at hy h4;rcases hy with rfl|rfl|rfl|rfl
      ·exact absurd rfl h3
      ·exact absurd (.inr rfl) h4
      ·exact absurd rfl h2
      ·exact absurd rfl h1
 ·simp only[List.mem_cons,List.not_mem_nil,or_false]at hy;rw[xR,acD]at hs2;by_cases hyd:y=d
  ·subst hyd;rw[b2d]at hc;exact⟨y,by simp,by rw[hd];rfl,hc⟩
  by_cases hyt:y=t
  ·subst hyt;rw[b2t]at hc;exact⟨e,by simp,by rw[he];rfl,by rw[q1,eY];exact List.mem_filterMap.2 ⟨v,List.mem_of_getElem? v1,v2.sx hc⟩⟩
  by_cases hye:y=e2
  ·subst hye;rw[b2e,eY,hsl]at hc;rcases qA hc with hc|hc
   ·exact⟨e,by simp,by rw[he];rfl,by rw[q1,eY];exact hc⟩
   ·cases hc
  ·rw[if_neg (Ne.symm hyt),if_neg (Ne.symm hye),if_neg (Ne.symm hyd),if_pos]at hs2
   ·cases hs2
   ·rcases hy with rfl|rfl|rfl|rfl
    ·exact absurd rfl hyd
    ·simp
    ·exact absurd rfl hye
    ·exact absurd rfl hyt
 ·
  have cls:∀y,y∈[d,e,e2,t]→(Sto.get (xR σ d e e2 t od els i x) y).isSome→y=d∨y=e2∨y=t:=λy hy hs2=>by
   rw[xR,acD]at hs2;simp only[List.mem_cons,List.not_mem_nil,or_false]at hy;rcases hy with rfl|rfl|rfl|rfl
   ·exact .inl rfl
   ·rw[if_neg (Ne.symm aeO.1),if_neg (Ne.symm aeO.2),if_neg hde,if_pos (by simp)]at hs2;cases hs2
   ·exact .inr (.inl rfl)
   ·exact .inr (.inr rfl)
  have aeP:∀c,c∈bY (β d)→c∉bY (β e):=h.bQ d e (by rw[hd];rfl) (by rw[he];rfl) hde
  have inE:∀c,c∈bY (β2 e2)→∃j u,j≠i∧hs.toList[j]?=some u∧blk u=some c:=λc hc=>by
   rw[b2e,eY,hsl]at hc;obtain⟨u,hu,hub⟩:=List.mem_filterMap.1 hc;obtain⟨j,hj⟩:=List.getElem?_of_mem hu;rw[List.getElem?_set]at hj;split at hj
   ·rename_i hij;cases hj;cases hub
   ·rename_i hij;exact⟨j,u,λe=>hij e.symm,hj,hub⟩
  have anE:∀c,c∈bY (β2 e2)→c∈bY (β e):=λc hc=>by
   obtain⟨j,u,_,hj,hu⟩:=inE c hc;rw[q1,eY];exact List.mem_filterMap.2 ⟨u,List.mem_of_getElem? hj,hu⟩
  have inT:∀c,c∈bY (β2 t)→blk v=some c:=λc hc=>by rw[b2t]at hc;exact v2.sx hc
  have anG:∀c,c∈bY (β2 t)→c∈bY (β e):=λc hc=>by
   rw[q1,eY];exact List.mem_filterMap.2 ⟨v,List.mem_of_getElem? v1,inT c hc⟩
  have et:∀c,c∈bY (β2 e2)→c∈bY (β2 t)→False:=λc hc hc'=>by
   obtain⟨j,u,hj,hju,hub⟩:=inE c hc;exact hb.ne hj hju v1 hub (inT c hc')
  rcases cls y hy hs1 with rfl|rfl|rfl<;>rcases cls z hz hs2 with rfl|rfl|rfl
  ·exact hyz rfl
  ·rw[b2d]at hc;exact aeP c hc (anE c hc')
  ·rw[b2d]at hc;exact aeP c hc (anG c hc')
  ·rw[b2d]at hc';exact aeP c hc' (anE c hc)
  ·exact hyz rfl
  ·exact et c hc hc'
  ·rw[b2d]at hc';exact aeP c hc' (anG c hc)
  ·exact et c hc' hc
  ·exact hyz rfl
theorem aX.back(h:aX G cx I β σ w){d e e2 t i:Nat}{od:br}{els:List Rw}{T sz:Nat}{xs:List (List AV)}{fz:Bool}(hd:σ.get d=some od)(ho:od.wS=some (e,some (some i,t)))(he:σ.get e=some (.bun els))
  (ht:σ.get t=some (.slice T sz xs 0 fz)) (he2:σ.get e2=none) (hei:e2∉G.ids) (hcl:σ.clean [e2].contains=true) :
  ∃β2,(∀y,y≠e2→β2 y=β y)∧aX G cx I β2 ((e2,.bun (els.set i (.sl T sz xs)))::(d,od.reb e2 none)::σ.minus [d,e,t]) w:=by
 have hne:∀y,(σ.get y).isSome→y≠e2:=λy hy e=>by subst e;rw[he2]at hy;cases hy
 have wT:=hne d (by rw[hd];rfl);have aeO:=hne e (by rw[he];rfl);have htne:=hne t (by rw[ht];rfl);have hde:d≠e:=λe'=>by subst e';rw[hd]at he;cases he;cases ho
 have hdt:d≠t:=λe'=>by subst e';rw[hd]at ht;cases ht;cases ho
 have het:e≠t:=λe'=>by subst e';rw[he]at ht;cases ht
 have main:∃u:Value,(od.wS=some (e,some (some i,t))→∀β2:Nat→Value,(∀y,y≠e2→β2 y=β y)→β2 e2=u→aj cx I β2 w d (od.reb e2 none)∧aj cx I β2 w e2 (.bun (els.set i (.sl T sz xs))))∧∀c∈bY u,c∈bY (β e)∨c∈bY (β t):=by
  rcases(h.bB d od hd).outer ho with q|⟨hs,as,q1,⟨q2,q2',q2''⟩,bd,q3⟩
  ·refine⟨.nilFunc,λ_ β2 h1 h2=>⟨?_,by simp only[aj];exact .inl h2⟩,by simp[sy]⟩;have:β2 d=.nilFunc:=by rw[h1 d wT];exact q
   cases od<;>simp only[br.wS,reduceCtorEq]at ho<;>simp only[br.reb,aj]<;>exact .inl this
  ·have hbu:=h.bB e _ he;simp only[aj,q1,Value.tuple.injEq,reduceCtorEq,false_or]at hbu;obtain⟨hs',rfl,hb⟩:=hbu;have hrow:=ia.of_slice (h.bB t _ ht) q2';refine⟨.tuple (hs.setIfInBounds i (β t)),λ_ β2 h1 h2=>⟨?_,?_⟩,λc hc=>?_⟩
   ·refine(h.bB d od hd).age ho (h1 d wT) q1 h2 (by simp) λas' has=>?_;obtain⟨_,_,has⟩:=has;show as'=_;rw[has];simp
   ·simp only[aj];refine .inr ⟨_,h2,?_⟩;rw[show(hs.setIfInBounds i (β t)).toList=hs.toList.set i (β t)by simp];refine hb.set hrow λj u b hj hju hbt hbu=>?_;refine h.bQ e t (by rw[he];rfl) (by rw[ht];rfl) het b ?_ (cR hbt);rw[q1,eY];exact List.mem_filterMap.2 ⟨u,List.mem_of_getElem? hju,hbu⟩
   ·rw[eY,show(hs.setIfInBounds i (β t)).toList=hs.toList.set i (β t)by simp]at hc;rcases qA hc with hc|hc
    ·exact .inl (by rw[q1,eY];exact hc)
    ·exact .inr (cR hc)
 obtain⟨u,m1,m2⟩:=main;have hb2:∀y,y≠e2→(λy=>if y=e2 then u else β y) y=β y:=λy hy=>if_neg hy;have nU:(λy=>if y=e2 then u else β y) e2=u:=if_pos rfl;refine⟨λy=>if y=e2 then u else β y,hb2,?_⟩;generalize (λy=>if y=e2 then u else β y)=β2 at hb2 nU;obtain⟨o1,o2⟩:=m1 ho β2 hb2 nU
 have cls:∀y,y∈[d,e,e2,t]→(Sto.get ((e2,.bun (els.set i (.sl T sz xs)))::(d,od.reb e2 none)::σ.minus [d,e,t]) y).isSome→y=d∨y=e2:=λy hy hs2=>by
  rw[tK]at hs2;simp only[List.mem_cons,List.not_mem_nil,or_false]at hy;rcases hy with rfl|rfl|rfl|rfl
  ·exact .inl rfl
  ·rw[if_neg (Ne.symm aeO),if_neg hde,if_pos (by simp)]at hs2;cases hs2
  ·exact .inr rfl
  ·rw[if_neg (Ne.symm htne),if_neg hdt,if_pos (by simp)]at hs2;cases hs2
 have anH:∀c,c∈bY (β2 d)→c∉bY (β2 e2):=λc hc hc'=>by
  rw[hb2 d wT]at hc;rw[nU]at hc';rcases m2 c hc' with q|q
  ·exact h.bQ d e (by rw[hd];rfl) (by rw[he];rfl) hde c hc q
  ·exact h.bQ d t (by rw[hd];rfl) (by rw[ht];rfl) hdt c hc q
 refine h.aeN (M:=[d,e,e2,t]) (news:=[e2]) (β2:=β2) (λy hy=>?_) (λy hy=>hb2 y (by simpa using hy)) (λy hy=>by simp only[List.mem_singleton]at hy;subst hy;exact⟨by simp,hei⟩) (λy o _ hyo=>(Sto.cm hcl y o hyo).2) (λy hy o hyo=>?_) (λy hy hs2 c hc=>?_) (λy hy z hz hyz hs1 hs2 c hc hc'=>?_)
 ·simp only[List.mem_cons,List.not_mem_nil,or_false,not_or]at hy;rw[tK,if_neg (Ne.symm hy.2.2.1),if_neg (Ne.symm hy.1),if_neg (by simp[hy.1,hy.2.1,hy.2.2.2])]
 ·have:=cls y hy (by rw[hyo];rfl);rw[tK]at hyo;rcases this with rfl|rfl
  ·rw[if_neg (Ne.symm wT),if_pos rfl]at hyo;cases hyo;exact o1
  ·rw[if_pos rfl]at hyo;cases hyo;exact o2
 ·rcases cls y hy hs2 with rfl|rfl
  ·rw[hb2 y wT]at hc;exact⟨y,by simp,by rw[hd];rfl,hc⟩
  ·rw[nU]at hc;rcases m2 c hc with q|q
   ·exact⟨e,by simp,by rw[he];rfl,q⟩
   ·exact⟨t,by simp,by rw[ht];rfl,q⟩
 ·rcases cls y hy hs1 with rfl|rfl<;>rcases cls z hz hs2 with rfl|rfl
  ·exact hyz rfl
  ·exact anH c hc hc'
  ·exact anH c hc' hc
  ·exact hyz rfl
end take
end
section
def iD{α:Type}(k:IntKind)(l:List (Int×α)):List AV:=l.map λp=>.int k p.1
def pM{α:Type}(T:TypeId)(sz:Nat)(enc:α→List AV)(l:List (Int×List α)):List Rw:=l.map λp=>.sl T sz (p.2.map enc)
def je{α:Type}:List (Int×α)→Int→Nat
 |[],_=>0
 |p::r,n=>if p.1=n then 0 else je r n+1
def zT{α:Type}(l:List (Int×α))(n:Int)(t:Nat):Option (Option Nat×Nat):=some (bif (aY l n).isSome then some (je l n)else none,t)
variable {α:Type}
theorem gD(p:Int×α)(r:List (Int×α))(n:Int):aY (p::r) n=if p.1=n then some p.2 else aY r n:=by
 by_cases h:p.1=n<;>simp[aY,List.find?,h]
theorem acE{α:Type}:∀{l:List (Int×α)} {n:Int} {a:α},aY l n=some a→∃m,m=n∧l[je l n]?=some (m,a)
 |[],_,_,h=>by simp[aY]at h
 |p::r,n,a,h=>by
  rw[gD]at h;split at h
  ·rename_i hp;cases h;exact⟨p.1,hp,by simp only[je,if_pos hp];rfl⟩
  ·rename_i hp;obtain⟨m,h1,h2⟩:=acE h;exact⟨m,h1,by simp[je,hp,h2]⟩
theorem yU{α:Type}:∀{l:List (Int×α)} {n:Int} {a:α} (v:α),aY l n=some a→bN l n v=l.set (je l n) (n,v)
 |[],_,_,_,h=>by simp[aY]at h
 |p::r,n,a,v,h=>by
  rw[gD]at h;split at h
  ·rename_i hp;simp[bN,je,hp]
  ·rename_i hp;simp[bN,je,hp,yU v h]
theorem wU{α:Type}:∀{l:List (Int×α)} {n:Int} (v:α),aY l n=none→bN l n v=l++[(n,v)]
 |[],_,_,_=>rfl
 |p::r,n,v,h=>by
  rw[gD]at h;split at h
  ·cases h
  ·rename_i hp;simp[bN,hp,wU v h]
theorem ahQ{T:TypeId}{sz:Nat}{enc:α→List AV}(l:List (Int×List α))(i:Nat)(n:Int)(v:List α):pM T sz enc (l.set i (n,v))=(pM T sz enc l).set i (.sl T sz (v.map enc)):=by simp[pM,List.map_set]
theorem ahR{k:IntKind}{l:List (Int×α)}{n:Int}{a:α}(v:α)(h:aY l n=some a):iD k (l.set (je l n) (n,v))=iD k l:=by
 obtain⟨m,rfl,h2⟩:=acE h;simp only[iD,List.map_set];apply List.ext_getElem?;intro j;rw[List.getElem?_set];split
 ·rename_i hj;subst hj;rw[List.getElem?_map,h2];split
  ·rfl
  ·rename_i hlt;exact absurd (by simpa using (List.getElem?_eq_some_iff.1 h2).1) hlt
 ·rfl
theorem yp{I:Imm}{α:Type}{k:IntKind}(n:Int):∀(l:List (Int×α)) (vs:List Value) (es:List MapEntry) (i:Nat) (a:α),iK I (iD k l) vs es→aY l n=some a→
  ∃v e,vs[je l n]?=some v∧es[je l n]?=some e∧e.key=.int k n∧Instr.findNow (.int k) (.int k n) es i=some (some (i+je l n,v))∧
   ∀(u:Value) (kk:MapEntry→MapEntry),(∀e,(kk e).key=.int k n∧(kk e).val=u)→iK I (iD k l) (vs.set (je l n) u) (es.modify (je l n) kk)
 |[],vs,es,i,a,h,hg=>by simp[aY]at hg
 |(m,b)::r,vs,es,i,a,h,hg=>by
  simp only[iD,List.map_cons,iK]at h;obtain⟨v,us,e,fs,rfl,rfl,h3,h4,h5⟩:=h;simp only[aB]at h3;rw[gD]at hg;by_cases hm:m=n
  ·subst hm;simp only[je,if_true];refine⟨v,e,rfl,rfl,h3,by simp[Instr.findNow,Instr.sameNow,h3,h4],λu kk hk=>?_⟩;simp only[iD,List.map_cons,List.set_cons_zero,List.modify_zero_cons,iK];exact⟨u,us,kk e,fs,rfl,rfl,by simp only[aB];exact(hk e).1,(hk e).2,h5⟩
  ·rw[if_neg hm]at hg;obtain⟨v',e',q1,q2,q3,q4,q5⟩:=yp n r us fs (i+1) a h5 hg;simp only[je,if_neg hm];refine⟨v',e',by simpa using q1,by simpa using q2,q3,?_,λu kk hk=>?_⟩
   ·simp only[Instr.findNow,Instr.sameNow,h3,if_pos];have:(n==m)=false:=by simpa using λe=>hm e.symm
    rw[this];simp only;rw[q4];simp[Nat.add_assoc,Nat.add_comm 1]
   ·simp only[iD,List.map_cons,List.set_cons_succ,List.modify_succ_cons,iK];exact⟨v,_,e,_,rfl,rfl,by simp only[aB];exact h3,h4,q5 u kk hk⟩
theorem yq{I:Imm}{α:Type}{k:IntKind}(n:Int):∀(l:List (Int×α)) (vs:List Value) (es:List MapEntry) (i:Nat),iK I (iD k l) vs es→aY l n=none→
  Instr.findNow (.int k) (.int k n) es i=some none∧∀(b:α) (e:MapEntry),e.key=.int k n→iK I (iD k (l++[(n,b)])) (vs++[e.val]) (es++[e])
 |[],vs,es,i,h,hg=>by
  simp only[iD,List.map_nil,iK]at h;obtain⟨rfl,rfl⟩:=h;refine⟨rfl,λb e hk=>?_⟩;simp only[List.nil_append,iD,List.map_cons,List.map_nil,iK];exact⟨e.val,[],e,[],rfl,rfl,by simp only[aB];exact hk,rfl,rfl,rfl⟩
 |(m,c)::r,vs,es,i,h,hg=>by
  simp only[iD,List.map_cons,iK]at h;obtain⟨v,us,e,fs,rfl,rfl,h3,h4,h5⟩:=h;simp only[aB]at h3;rw[gD]at hg;have hm:m≠n:=λhm=>by rw[if_pos hm]at hg;cases hg
  rw[if_neg hm]at hg;obtain⟨q1,q2⟩:=yq n r us fs (i+1) h5 hg;refine⟨?_,λb e' hk=>?_⟩
  ·simp only[Instr.findNow,Instr.sameNow,h3,if_pos];have:(n==m)=false:=by simpa using λe=>hm e.symm
   rw[this];exact q1
  ·have:=q2 b e' hk;simp only[iD]at this;simp only[iD,List.cons_append,List.map_cons,iK];exact⟨v,_,e,_,rfl,rfl,by simp only[aB];exact h3,h4,this⟩
theorem iK.length{I:Imm}:∀{ks:List AV} {vs:List Value} {es:List MapEntry},iK I ks vs es→vs.length=ks.length∧es.length=ks.length
 |[],_,_,h=>by obtain⟨rfl,rfl⟩:=h;exact⟨rfl,rfl⟩
 |k::ks,_,_,h=>by
  obtain⟨v,us,e,fs,rfl,rfl,_,_,h5⟩:=h;have:=h5.length;simp[this.1,this.2]
section
variable {G:Gl}{σ:Sto}{o:Oper}{ev:Operand→AV}
end
end
section
section put
variable {G:Gl}{cx:Cx}{I:Imm}{β:Nat→Value}{σ:Sto}{w:World}
theorem aX.ars(h:aX G cx I β σ w){d e e2 r K E clock':Nat}{keys keys':List AV}{hole:Option (Option Nat×Nat)}{fx:Option (Array MapEntry×Nat)}{els els':List Rw}{M0:List Nat}{hs':Array Value}{es':Array MapEntry}{w':World}
  (hd:σ.get d=some (.gh K E e keys hole fx)) (he:σ.get e=some (.bun els)) (hr:β d=.map (some r)) (he2:σ.get e2=none) (hei:e2∉G.ids) (hcl:σ.clean [e2].contains=true) (hdM:d∉M0)
  (hk:Kept w w' r) (hw':w'.heap[r]?=some (.map es' clock')) (hb:eD cx I w els' hs'.toList) (hkv:iK I keys' hs'.toList es'.toList) (hB:gv es' clock')
  (hsub:∀c∈hs'.toList.filterMap blk,c∈bY (β e)∨∃y∈M0,(σ.get y).isSome∧c∈bY (β y)) :
  aX G cx I (λy=>if y=e2 then .tuple hs' else β y) ((e2,.bun els')::(d,.gh K E e2 keys' none none)::σ.minus (d::e::M0)) w':=by
 have hod:=h.bB d _ hd;simp only[aj,hr,reduceCtorEq,false_or]at hod;obtain⟨r',es,clock,hs,as,q1,q2,q3,q4,q5,q6,q7,q8,_⟩:=hod;cases q1;have hds:(σ.get d).isSome:=by rw[hd];rfl
 have hes:(σ.get e).isSome:=by rw[he];rfl
 have hne:∀y,(σ.get y).isSome→y≠e2:=λy hy e=>by subst e;rw[he2]at hy;cases hy
 have hde:d≠e:=λe'=>by subst e';rw[hd]at he;cases he
 have hrd:r∈bY (β d):=cR (by rw[hr];rfl)
 have hrn:∀c∈hs'.toList.filterMap blk,c≠r:=λc hc e=>by
  subst e;rcases hsub c hc with q|⟨y,y1,y2,y3⟩
  ·exact h.bQ d e hds hes hde c hrd q
  ·exact h.bQ d y hds y2 (λe=>hdM (e▸y1)) c hrd y3
 have hb2:∀y,y≠e2→(λy=>if y=e2 then(Value.tuple hs')else β y) y=β y:=λy hy=>if_neg hy;have nU:(λy=>if y=e2 then(Value.tuple hs')else β y) e2=.tuple hs':=if_pos rfl;generalize (λy=>if y=e2 then(Value.tuple hs')else β y)=β2 at hb2 nU;have b2d:β2 d=β d:=hb2 d (hne d hds)
 have cls:∀y,y∈d::e::e2::M0→∀o,(Sto.get ((e2,.bun els')::(d,.gh K E e2 keys' none none)::σ.minus (d::e::M0)) y)=some o→(y=d∧o=.gh K E e2 keys' none none)∨(y=e2∧o=.bun els'):=λy hy o ho=>by
  rw[tK]at ho;split at ho
  ·rename_i e';exact .inr ⟨e'.symm,(Option.some.inj ho).symm⟩
  ·rename_i n2;split at ho
   ·rename_i e';exact .inl ⟨e'.symm,(Option.some.inj ho).symm⟩
   ·split at ho
    ·cases ho
    ·rename_i n1 n3;simp only[List.mem_cons,not_or]at hy n3;rcases hy with rfl|rfl|rfl|hy
     ·exact absurd rfl n1
     ·exact absurd rfl n3.2.1
     ·exact absurd rfl n2
     ·exact absurd hy n3.2.2
 have cls':∀y,y∈d::e::e2::M0→(Sto.get ((e2,.bun els')::(d,.gh K E e2 keys' none none)::σ.minus (d::e::M0)) y).isSome→y=d∨y=e2:=λy hy hs=>by
  obtain⟨o,ho⟩:=Option.isSome_iff_exists.1 hs;rcases cls y hy o ho with q|q
  ·exact .inl q.1
  ·exact .inr q.1
 have inE:∀c,c∈bY (β2 e2)→c∈bY (β e)∨∃y∈M0,(σ.get y).isSome∧c∈bY (β y):=λc hc=>hsub c (by rw[nU]at hc;exact hc)
 have sep:∀c,c∈bY (β2 d)→c∉bY (β2 e2):=λc hc hc'=>by
  rw[b2d,hr]at hc;have:c=r:=by simpa [bY,blk]using hc
  exact hrn c (by rw[nU]at hc';exact hc') this
 refine h.redo (M:=d::e::e2::M0) (news:=[e2]) (b:=r) (β2:=β2) hk q6 (λy hy hs e'=>?_) q7 (λy hy=>?_) (λy hy=>hb2 y (by simpa using hy)) (λy hy=>?_) (λy o _ hyo=>(Sto.cm hcl y o hyo).2) (λy hy o hyo=>?_) (λy hy hs2 c hc=>?_) (λy hy z hz hyz hs1 hs2 c hc hc'=>?_)
 ·exact h.bQ d y hds hs (λe=>hy (by simp[e])) r hrd e'
 ·simp only[List.mem_cons,not_or]at hy;rw[tK,if_neg (Ne.symm hy.2.2.1),if_neg (Ne.symm hy.1),if_neg (by simp[hy.1,hy.2.1,hy.2.2.2])]
 ·simp only[List.mem_singleton]at hy;subst hy;exact⟨by simp,hei⟩
 ·rcases cls y hy o hyo with⟨rfl,rfl⟩|⟨rfl,rfl⟩
  ·simp only[aj,b2d,hr,nU];exact .inr ⟨r,es',clock',hs',hs'.toList,rfl,hw',rfl,rfl,hkv,q6,q7,hB,by simp⟩
  ·simp only[aj];exact .inr ⟨hs',nU,hb.go (aQ.refl I) λc hc=>⟨λhlt=>hk.block c (hrn c hc) hlt,λ_=>rfl,id⟩⟩
 ·rcases cls' y hy hs2 with rfl|rfl
  ·rw[b2d]at hc;exact⟨y,by simp,hds,hc⟩
  ·rcases inE c hc with q|⟨y,y1,y2,y3⟩
   ·exact⟨e,by simp,hes,q⟩
   ·exact⟨y,by simp[y1],y2,y3⟩
 ·rcases cls' y hy hs1 with rfl|rfl<;>rcases cls' z hz hs2 with rfl|rfl
  ·exact hyz rfl
  ·exact sep c hc hc'
  ·exact sep c hc' hc
  ·exact hyz rfl
end put
section
variable {G:Gl}{σ:Sto}{o:Oper}{ev:Operand→AV}
theorem D.anI{α:Type}{T K E d e e2 T' sz:Nat}{k:IntKind}{x y z:Operand}{n:Int}{fz:Bool}{fx:Option (Array MapEntry×Nat)}{hole:Option (Option Nat×Nat)}(M0:List Nat)(l:List (Int×List α))(enc:α→List AV)(row:List α)(h:o.op=.mapUpdate T x y z∨o.op=.insert T x y z)(hx:ev x=.bX d)(hy:ev y=.int k n)
  (hz:(ev z=.bI∧row=[]∧M0=[])∨∃j,ev z=.own j∧σ.get j=some (.slice T' sz (row.map enc) 0 fz)∧M0=[j])
  (hd:σ.get d=some (.gh K E e (iD k l) hole fx)) (hh:hole=none∨∃t,hole=zT l n t) (he:σ.get e=some (.bun (pM T' sz enc l))) (hT:jD G.P T K E k)
  (he2:σ.get e2=none) (hei:G.ids.contains e2=false) (hcl:σ.clean [e2].contains=true) :
  dU G o ev σ (d::e::e2::M0) [e2] (λr σ'=>r=.undef∧σ'=(e2,.bun (pM T' sz enc (bN l n row)))::(d,.gh K E e2 (iD k (bN l n row)) none none)::σ.minus (d::e::M0)):=by
 intro cx I β w ρ hw hop;have fQ:x∈o.op.operands∧y∈o.op.operands∧z∈o.op.operands:=by rcases h with h|h<;>simp[h,Op.operands]
 have h1:=hop x fQ.1;rw[hx]at h1
 have h2:=hop y fQ.2.1;rw[hy]at h2;have h2:=de h2
 have h3:=hop z fQ.2.2;simp only[Rep]at h1;obtain⟨h1,h1m⟩:=h1;have hdn:β d≠.nilFunc:=λe=>by rw[h1,e]at h1m;simp[jS]at h1m
 have hod:=hw.bB d _ hd;simp only[aj,hdn,false_or]at hod;obtain⟨r,es,clock,hs,as,q1,q2,q3,q4,q5,q6,q7,q8,_⟩:=hod;have hbu:=hw.bB e _ he;simp only[aj,q3,Value.tuple.injEq,reduceCtorEq,false_or]at hbu;obtain⟨hs',rfl,hb⟩:=hbu;have hv:ia cx I w (.sl T' sz (row.map enc)) (ρ z)∧(∀c,blk (ρ z)=some c→∃y∈M0,(σ.get y).isSome∧c∈bY (β y))∧d∉M0∧e∉M0:=by
  rcases hz with⟨hz,rfl,rfl⟩|⟨j,hz,hj,rfl⟩
  ·rw[hz]at h3;simp only[Rep,aB]at h3;rw[h3];exact⟨Or.inl ⟨rfl,rfl⟩,λc (hc:none=some c)=>(by cases hc),by simp,by simp⟩
  ·rw[hz]at h3;simp only[Rep]at h3;obtain⟨h3,h3s⟩:=h3;rw[h3];refine⟨ia.of_slice (hw.bB j _ hj) λe=>(by rw[h3,e]at h3s;cases h3s),λc hc=>⟨j,by simp,by rw[hj];rfl,cR hc⟩,λhm=>?_,λhm=>?_⟩
   ·rw[List.mem_singleton.1 hm,hj]at hd;cases hd
   ·rw[List.mem_singleton.1 hm,hj]at he;cases he
 obtain⟨v1,v2,v3,v4⟩:=hv
 have tX:∀u b,u∈hs.toList→blk (ρ z)=some b→blk u≠some b:=λu b hu hbz hbu=>by
  obtain⟨y,y1,y2,y3⟩:=v2 b hbz;refine hw.bQ e y (by rw[he];rfl) y2 (λe=>v4 (e▸y1)) b ?_ y3;rw[q3,eY];exact List.mem_filterMap.2 ⟨u,hu,hbu⟩
 have ahS:e2∉G.ids:=by simpa using hei
 have e1:∀w,(underlying T).run G.P w=.ok (.map K E) w:=λw=>by simp[underlying,program,Sem.run,hT.und]
 have e2':∀w,(underlying K).run G.P w=.ok (.int k) w:=λw=>by simp[underlying,program,Sem.run,hT.key]
 have e3:=fJ (P:=G.P) q2;have e4:=mE (P:=G.P) hT.key false n w;have dN:∀ob:Obj,(setObj r ob).run G.P w=.ok () {w with heap:=w.heap.setIfInBounds r ob}:=λob=>by simp[setObj,Sem.run,q2]
 have hheap:∀ob:Obj,({w with heap:=w.heap.setIfInBounds r ob}:World).heap[r]?=some ob:=λob=>by have:=bF q2;simp[Array.getElem?_setIfInBounds,this]
 have fin:∀(hs2:Array Value) (els':List Rw) (keys':List AV) (es':Array MapEntry) (clock':Nat),els'=pM T' sz enc (bN l n row)→keys'=iD k (bN l n row)→
   (execOp ρ o).run G.P w=.ok .skip {w with heap:=w.heap.setIfInBounds r (.map es' clock')}→eD cx I w els' hs2.toList→iK I keys' hs2.toList es'.toList→gv es' clock'→
   (∀c∈hs2.toList.filterMap blk,c∈hs.toList.filterMap blk∨blk (ρ z)=some c)→
   gK G.P (λv w'=>∃av,∃σ':Sto,∃I' β',(av=.undef∧σ'=(e2,.bun (pM T' sz enc (bN l n row)))::(d,.gh K E e2 (iD k (bN l n row)) none none)::σ.minus (d::e::M0))∧Rep I' β' av v∧aX G cx I' β' σ' w'∧aQ I I'∧(∀d,d∉[e2]→β' d=β d)∧(∀x,x∉d::e::e2::M0→σ'.get x=σ.get x)) ((execOp ρ o).run G.P w):=by
  intro hs2 els' keys' es' clock' p1 p2 p3 p4 p5 p6 p7;subst p1 p2;rw[p3]
  have:=hw.ars hd he q1 he2 ahS hcl v3 (Kept.setObj w r (.map es' clock')) (hheap _) p4 p5 p6 λc hc=>by
   rcases p7 c hc with q|q
   ·exact .inl (by rw[q3,eY];exact q)
   ·exact .inr (v2 c q)
  refine⟨.undef,_,I,_,⟨rfl,rfl⟩,by simp[Rep,aB],this,aQ.refl I,λy hy=>if_neg (by simpa using hy),λy hy=>?_⟩;simp only[List.mem_cons,not_or]at hy;rw[tK,if_neg (Ne.symm hy.2.2.1),if_neg (Ne.symm hy.1),if_neg (by simp[hy.1,hy.2.1,hy.2.2.2])]
 cases hg:aY l n with
 |none=>
  have has:as=hs.toList:=by
   rcases hh with rfl|⟨t,rfl⟩
   ·exact q4
   ·simp only[zT,hg,Option.isSome_none,cond_false]at q4;exact q4
  rw[has]at q5;obtain⟨p1,p2⟩:=yq n l hs.toList es.toList 0 q5 hg;have e5:(Instr.findKey K (.int k n) es.toList).run G.P w=.ok none w:=by simp[Instr.findKey,e2',p1]
  refine fin (hs.push (ρ z)) (pM T' sz enc l++[.sl T' sz (row.map enc)]) (iD k (l++[(n,row)])) (es.push ⟨.int k n,ρ z,clock⟩) (clock+1) ?_ ?_ ?_ ?_ ?_ ?_ ?_
  ·rw[wU row hg];simp[pM]
  ·rw[wU row hg]
  ·rcases h with h|h<;>simp[execOp,h,Instr.mapUpdate,h1,q1,h2,e1,e3,e4,e5,dN]
  ·simp only[Array.toList_push];exact hb.push v1 tX
  ·simp only[Array.toList_push];exact p2 row ⟨.int k n,ρ z,clock⟩ rfl
  ·exact q8.push _ _
  ·intro c hc;simp only[Array.toList_push,List.filterMap_append,List.mem_append]at hc;rcases hc with hc|hc
   ·exact .inl hc
   ·obtain⟨u,hu,hub⟩:=List.mem_filterMap.1 hc;rw[List.mem_singleton.1 hu]at hub;exact .inr hub
 |some a=>
  obtain⟨v',e',p1,p2,p3,p4,p5⟩:=yp n l as es.toList 0 a q5 hg;have e5:(Instr.findKey K (.int k n) es.toList).run G.P w=.ok (some (0+je l n,v')) w:=by simp[Instr.findKey,e2',p4]
  have e6:es[je l n]?=some e':=by simpa using p2
  have e7:(Instr.keyThatStays (.int k n) (.int k n)).run G.P w=.ok (.int k n) w:=by simp[Instr.keyThatStays,Instr.sameBits]
  have has:as.set (je l n) (ρ z)=hs.toList.set (je l n) (ρ z):=by
   rcases hh with rfl|⟨t,rfl⟩
   ·rw[show as=hs.toList from q4]
   ·simp only[zT,hg,Option.isSome_some,cond_true]at q4;obtain⟨_,_,q4⟩:=q4;rw[q4,List.set_set]
  have hsl:(hs.setIfInBounds (je l n) (ρ z)).toList=hs.toList.set (je l n) (ρ z):=by simp
  have hk':=p5 (ρ z) (λe=>{e with key:=.int k n,val:=ρ z}) (λe=>⟨rfl,rfl⟩);rw[has]at hk';refine fin (hs.setIfInBounds (je l n) (ρ z)) ((pM T' sz enc l).set (je l n) (.sl T' sz (row.map enc))) (iD k l) (es.modify (je l n) λe=>{e with key:=.int k n,val:=ρ z}) clock ?_ ?_ ?_ ?_ ?_ ?_ ?_
  ·rw[yU row hg,ahQ]
  ·rw[yU row hg,ahR row hg]
  ·rcases h with h|h<;>simp[execOp,h,Instr.mapUpdate,h1,q1,h2,e1,e3,e4,e5,dN,e6,p3,e7]
  ·rw[hsl];exact hb.set v1 λj u b _ hju hbz=>tX u b (List.mem_of_getElem? hju) hbz
  ·rw[hsl];simpa using hk'
  ·exact q8.modify _ _ λ_=>rfl
  ·intro c hc;rw[hsl]at hc;exact qA hc
end
end
section
section imms
variable {cx:Cx}{I:Imm}{β:Nat→Value}{w:World}
theorem aj.immS{I':Imm}{d:Nat}{o:br}(hle:aQ I I')(hoB:∀b∈bY (β d),∀o,I' b o=I b o)(hold:aj cx I β w d o):aj cx I' β w d o:=by
 have dR:∀b' o,blk (β d)=some b'→I' b' o=I b' o:=λb' o hb'=>hoB b' (cR hb') o;cases o with
 |bun els=>
  simp only[aj]at hold ⊢;rcases hold with q|⟨hs,q1,q2⟩
  ·exact .inl q
  ·exact .inr ⟨hs,q1,q2.go hle λb' hb'=>⟨λ_=>rfl,hoB b' (by rw[q1];exact hb'),id⟩⟩
 |slm T xs t=>
  simp only[aj]at hold ⊢;rcases hold with q|⟨b',cap,arr,q1,q2,q3,q4,q5,q6,q7,q8,q9,q10,q11⟩
  ·exact .inl q
  ·exact .inr ⟨b',cap,arr,q1,q2,q3,q4,q5,ef hle _ _ q6,q7,q8,q9,λo=>by rw[dR b' o (by rw[q1];rfl)];exact q10 o,q11⟩
 |vec T xs=>
  simp only[aj]at hold ⊢;rcases hold with q|⟨b',arr,q1,q2,q3,q4,q5⟩
  ·exact .inl q
  ·exact .inr ⟨b',arr,q1,q2,q3,λo=>by rw[dR b' o (by rw[q1];rfl)];exact q4 o,q5⟩
 |ei es clock aL seen=>
  simp only[aj]at hold ⊢;rcases hold with q|⟨r,bm,q1,q2,q3,q4,q5,q6,q7⟩
  ·exact .inl q
  ·exact .inr ⟨r,bm,q1,q2,hle _ _ _ q3,eo hle _ _ q4,q5,λo=>by rw[dR r o (by rw[q1];rfl)];exact q6 o,q7⟩
 |b8 T e n hole=>
  simp only[aj]at hold ⊢;rcases hold with q|⟨b',cap,arr,hs,q1,q2,q3,q4,q5,q6,q7,q8,q9,q10⟩
  ·exact .inl q
  ·exact .inr ⟨b',cap,arr,hs,q1,q2,q3,q4,q5,q6,q7,q8,λo=>by rw[dR b' o (by rw[q1];rfl)];exact q9 o,q10⟩
 |gh K E e keys hole fx=>
  simp only[aj]at hold ⊢;rcases hold with q|⟨r,es,clock,hs,as,q1,q2,q3,q4,q5,q6,q7,q8⟩
  ·exact .inl q
  ·exact .inr ⟨r,es,clock,hs,as,q1,q2,q3,q4,q5.mono hle,λo=>by rw[dR r o (by rw[q1];rfl)];exact q6 o,q7,q8⟩
 |cells T cs=>
  simp only[aj]at hold ⊢;rcases hold with q|⟨b',mT,q1,q2,q3,q4,q5⟩
  ·exact .inl q
  ·exact .inr ⟨b',mT,q1,q2,iN hle (HLe.refl _) _ _ q3,λo=>by rw[dR b' o (by rw[q1];rfl)];exact q4 o,q5⟩
 |slice T' sz' xs' k' fz'=>
  simp only[aj]at hold ⊢;rcases hold with q|q|⟨b',cap',mT,q1,q2,q3,q4,q5,q6,q7,q8,q9,q10,q11⟩
  ·exact .inl q
  ·exact .inr (.inl q)
  ·have hne:blk (β d)=some b':=by rw[q1];rfl
   exact .inr (.inr ⟨b',cap',mT,q1,q2,q3,q4,q5,ef hle _ _ q6,q7,q8,λhz o ho=>by rw[dR b' o hne];exact q9 hz o ho,λo ho=>by rw[dR b' o hne];exact q10 o ho,q11⟩)
 |win T' sz' xs'=>
  simp only[aj]at hold ⊢;rcases hold with q|q|⟨b',o',cap',mT,q1,q2,q3,q4,q5,q6,q7,q8,q9⟩
  ·exact .inl q
  ·exact .inr (.inl q)
  ·have hne:blk (β d)=some b':=by rw[q1];rfl
   exact .inr (.inr ⟨b',o',cap',mT,q1,q2,q3,q4,q5,jy hle _ _ _ q6,q7,λhz o ho=>by rw[dR b' o hne];exact q8 hz o ho,q9⟩)
 |map K E aL=>
  simp only[aj]at hold ⊢;rcases hold with q|⟨r,es,clock,q1,q2,q3,q4,q5⟩
  ·exact .inl q
  ·exact .inr ⟨r,es,clock,q1,q2,eo hle _ _ q3,λo=>by rw[dR r o (by rw[q1];rfl)];exact q4 o,q5⟩
 |jA K E aL=>
  simp only[aj]at hold ⊢;rcases hold with q|⟨r,es,clock,q1,q2,q3,q4⟩
  ·exact .inl q
  ·exact .inr ⟨r,es,clock,q1,hle _ _ _ q2,eo hle _ _ q3,q4⟩
 |dI es clock K E aL=>
  simp only[aj]at hold ⊢;rcases hold with q|⟨r,q1,q2,q3,q4,q5⟩
  ·exact .inl q
  ·exact .inr ⟨r,q1,q2,eo hle _ _ q3,λo=>by rw[dR r o (by rw[q1];rfl)];exact q4 o,q5⟩
 |iter dm since c0 seen=>
  simp only[aj]at hold ⊢;rcases hold with q|⟨r,bm,q1,q2,q3,q4,q5⟩
  ·exact .inl q
  ·exact .inr ⟨r,bm,q1,q2,q3,λo=>by rw[dR r o (by rw[q1];rfl)];exact q4 o,q5⟩
 |hdr dm n=>exact hold
end imms
section weak
variable {G:Gl}{env:Env}{σ:Sto}
theorem ahT{I:Imm}{β β2:Nat→Value}{env:Env}{a:Act}{e:Nat}(h:jc I β env a)(hc:env.clean [e].contains=true)(hb:∀y,y≠e→β2 y=β y):jc I β2 env a:=λt=>
 kP (p:=[e].contains) (λd hd=>hb d (by simpa using hd)) _ _ (Env.cm hc t) (h t)
theorem ia.lst{cx:Cx}{I I':Imm}{w:World}{T sz:Nat}{xs:List (List AV)}{v:Value}(h:ia cx I w (.sl T sz xs) v)(hle:aQ I I')(hI:∀b,blk v=some b→∀o,I' b o=snap w b o):aB I' (.lst false xs) v:=by
 rcases h with⟨rfl,rfl⟩|⟨b,cap,arr,rfl,h2,h3,h4,h5,h6,h7,h8,h9⟩
 ·simp only[aB];exact⟨none,0,rfl,by simp,by simp[maxLen],by simp,.inl trivial⟩
 ·simp only[aB];refine⟨_,cap,rfl,h2,h3,by simp,.inr ⟨b,0,rfl,?_⟩⟩;have hcell:∀o:Nat,I' b o=arr[o]?:=λo=>by rw[hI b rfl o];simp[snap,World.cell?,h4]
  have key:∀(ys:List (List AV)) (off:Nat) (us:List Value),(∀e∈ys,e.length=sz)→aS I ys.flatten us→(∀j,j<us.length→arr[off+j]?=us[j]?)→dg I' b ys off:=by
   intro ys;induction ys with
   |nil=>intro _ _ _ _ _;simp[dg]
   |cons y ys ih=>
    intro off us hy hr hu;simp only[List.flatten_cons]at hr;have row:∀(cs:List AV) (o:Nat) (rest:List AV) (us:List Value),aS I (cs++rest) us→(∀j,j<us.length→arr[o+j]?=us[j]?)→fc I' b cs o∧∃us2,aS I rest us2∧us=us.take cs.length++us2∧us2=us.drop cs.length:=by
     intro cs;induction cs with
     |nil=>intro o rest us h _;exact⟨by simp[fc],us,h,by simp,by simp⟩
     |cons c cs ih2=>
      intro o rest us h hj;simp only[List.cons_append,aS]at h;obtain⟨u,us',rfl,h1,h2⟩:=h
      obtain⟨g1,us2,g2,g3,g4⟩:=ih2 (o+1) rest us' h2 λj hj'=>by
       have:=hj (j+1) (by simpa using hj');simpa [Nat.add_assoc,Nat.add_comm 1]using this
      refine⟨?_,us2,g2,by simpa using g3,by simpa using g4⟩;simp only[fc];refine⟨⟨u,?_,cM hle c u h1⟩,g1⟩;rw[hcell];simpa using hj 0 (by simp)
    obtain⟨g1,us2,g2,g3,g4⟩:=row y off ys.flatten us hr hu;simp only[dg];refine⟨g1,ih (off+y.length) us2 (λe he=>hy e (List.mem_cons_of_mem _ he)) g2 λj hj=>?_⟩;subst g4;have:=hu (y.length+j) (by simp at hj;omega);rw[List.getElem?_drop,←this,Nat.add_assoc]
  refine key xs 0 _ h7 h6 λj hj=>?_;rw[Nat.zero_add,List.getElem?_take];have hj:j<min (xs.length*sz) arr.size:=by simpa using hj
  rw[if_pos (by omega)];simp
theorem A.ex{c:Code}{Q:Exit→Env→Sto→Prop}{ι:Type}{bT:ι→Env}{σ2:ι→Sto}(h:∀cx I β a w,aX G cx I β σ w→jc I β env a→∃i I' β',aX G cx I' β' (σ2 i) w∧jc I' β' (bT i) a)(k:∀i,af G c Q (bT i) (σ2 i)):af G c Q env σ:=
 af.of λcx a w hr=>by
  obtain⟨I,β,h1,h2,h3,h4⟩:=hr;obtain⟨i,I',β',h5,h6⟩:=h cx I β a w h1 h2;exact(k i).use cx a w ⟨I',β',h5,h6,h3,h4⟩
theorem yV{d:Nat}{o o2:br}(hd:σ.get d=some o){cx:Cx}{I:Imm}{β:Nat→Value}{w:World}(h:aX G cx I β σ w)(ho:aj cx I β w d o2):aX G cx I β (σ.set d o2) w:=by
 have hS:∀x,(Sto.get (σ.set d o2) x).isSome→(σ.get x).isSome:=λx hx=>by
  rw[Sto.cB]at hx;split at hx
  ·rename_i e;subst e;rw[hd];rfl
  ·exact hx
 refine{h with bB:=λx o' hx=>?_,bQ:=λx y hx hy=>h.bQ x y (hS x hx) (hS y hy)};rw[Sto.cB]at hx;split at hx
 ·rename_i e;subst e;rw[hd]at hx;cases hx;exact ho
 ·exact h.bB x o' hx
theorem A.ahU{c:Code}{Q:Exit→Env→Sto→Prop}{d K E:Nat}{aL:List (AV×AV)}(hd:σ.get d=some (.map K E aL))(k:∀es clock,af G c Q env (σ.set d (.dI es clock K E aL))):af G c Q env σ:=
 A.ex (ι:=Array MapEntry×Nat) (bT:=λ_=>env) (σ2:=λi=>σ.set d (.dI i.1 i.2 K E aL)) (λcx I β a w h h'=>by
  have:=h.bB d _ hd;simp only[aj]at this;rcases this with q|⟨r,es,clock,q1,q2,q3,q4,q5,q6⟩
  ·exact⟨(#[],0),I,β,yV hd h (by simp only[aj];exact .inl q),h'⟩
  ·exact⟨(es,clock),I,β,yV hd h (by simp only[aj];exact .inr ⟨r,q1,q2,q3,q4,q5,q6⟩),h'⟩) λi=>k i.1 i.2
end weak
end
section
open Go.ChangeMaps (setBlock)
def lz{α S:Type}(B:Int→α→S→Option S):List (Int×α)→S→Option S
 |[],s=>some s
 |p::r,s=>match B p.1 p.2 s with|none=>none|some s'=>lz B r s'
open Classical in
noncomputable def acF{α S:Type}(l:List (Int×α))(B:Int→α→S→Option S)(s:S):Option S:=
 if ∀l':List (Int×α),l'.Perm l→lz B l' s=lz B l s then lz B l s else none
theorem adK{α S:Type}{l:List (Int×α)}{B:Int→α→S→Option S}{s r:S}(h:acF l B s=some r):(∀l':List (Int×α),l'.Perm l→lz B l' s=lz B l s)∧lz B l s=some r:=by
 unfold acF at h;split at h
 ·rename_i h1;exact⟨h1,h⟩
 ·cases h
theorem sK{α S:Type}{B:Int→α→S→Option S}:∀(l l':List (Int×α)) (s:S),lz B (l++l') s=(lz B l s).bind (lz B l')
 |[],_,_=>rfl
 |p::r,l',s=>by
  simp only[List.cons_append,lz];cases B p.1 p.2 s with
  |none=>rfl
  |some s'=>exact sK r l' s'
section
variable {G:Gl}{σ:Sto}{o:Oper}{ev:Operand→AV}
def br.lie:br→Option (Array MapEntry×Nat)
 |.dI es c _ _ _=>some (es,c)
 |.gh _ _ _ _ _ fx=>fx
 |_=>none
theorem zU{cx:Cx}{I:Imm}{β:Nat→Value}{w:World}(hw:aX G cx I β σ w){dm clock:Nat}{om:br}{es:Array MapEntry}(hd:σ.get dm=some om)(hl:om.lie=some (es,clock))(hn:β dm≠.nilFunc):
  ∃bm,β dm=.map (some bm)∧w.heap[bm]?=some (.map es clock)∧gv es clock:=by
 have h:=hw.bB dm om hd;cases om<;>simp only[br.lie,reduceCtorEq]at hl
 ·cases hl;simp only[aj,hn,false_or]at h;obtain⟨r,q1,q2,q3,q4,q5,q6⟩:=h;exact⟨r,q1,q2,q6⟩
 ·simp only[aj,hn,false_or]at h;obtain⟨r,es',clock',hs,as,q1,q2,q3,q4,q5,q6,q7,q8,q9⟩:=h;cases q9 _ hl;exact⟨r,q1,q2,q8⟩
theorem D.range{T dm di K E clock:Nat}{x:Operand}{es:Array MapEntry}{om:br}(h:o.op=.range T x)(hx:ev x=.bX dm)(hd:σ.get dm=some om)(hl:om.lie=some (es,clock))(hT:G.P.underlying T=some (.map K E))
  (hi:G.ids.contains di=false) (hc:σ.clean [di].contains=true):dU G o ev σ [di] [di] (λr σ'=>r=.ptr di 0∧σ'=(di,.iter dm clock clock #[])::σ):=by
 intro cx I β w ρ hw hop;have h1:=hop x (by simp[h,Op.operands]);rw[hx]at h1
 simp only[Rep]at h1;obtain⟨h1,h1m⟩:=h1;have hdn:β dm≠.nilFunc:=λe=>by rw[h1,e]at h1m;simp[jS]at h1m
 obtain⟨bm,q1,q2,q3⟩:=zU hw hd hl hdn
 have hdi:dm≠di:=λe=>by
  have:=(Sto.cm hc dm om hd).1;simp[e]at this
 have hrun:(execOp ρ o).run G.P w=.ok (.value (.pointer (some ⟨w.heap.size,0,none⟩))) (w.alloc (.mapIter (some bm) clock #[] clock)):=by
  simp[execOp,h,h1,q1,run_range_map w T K E bm es clock hT q2]
 rw[hrun];have hv:=hw.ov (mat:=[di]) (σ2:=σ) (env:=[]) ⟨λ_ _=>rfl,by simpa using hi,rfl,hc,λx hx dm n h=>by have:=(Sto.cm hc x _ h).1;rw[List.contains_iff_mem.2 hx]at this;cases this⟩;have hb:∀y,y≠di→en (dP β [di]) di (.pointer (some ⟨w.heap.size,0,none⟩)) y=β y:=λy hy=>by rw[cc _ _ hy];simp[dP,hy]
 have hbi:en (dP β [di]) di (.pointer (some ⟨w.heap.size,0,none⟩)) di=.pointer (some ⟨w.heap.size,0,none⟩):=bO _ _ _;refine⟨.ptr di 0,_,I,en (dP β [di]) di (.pointer (some ⟨w.heap.size,0,none⟩)),⟨rfl,rfl⟩,?_,?_,aQ.refl I,λy hy=>hb y (by simpa using hy),λy hy=>by rw[Sto.aK,if_neg (Ne.symm (by simpa using hy))]⟩
 ·simp only[Rep,hbi];exact⟨w.heap.size,rfl,rfl⟩
 ·refine hv.turn (d:=di) (Kept.alloc w _) (.inl hw.size) (λx hx=>by rw[Sto.aK,if_neg (Ne.symm hx)]) (λx hx hs e=>by
    obtain⟨ob,hs⟩:=Option.isSome_iff_exists.1 hs;exact absurd (hv.lE hs e) (by omega)) (aQ.refl I) (λ_ _ _=>rfl) (λo' v' hv'=>by rw[hw.ct (Nat.le_refl _)]at hv';cases hv') (hw.ct (Nat.le_refl _) none)
   (λx hx=>cc _ _ hx) (.inl (by simpa using hi)) (HLe.upd (by simp[dP])) (.inl (by rw[hbi];rfl)) λob hob=>?_
  rw[Sto.aK,if_pos rfl]at hob;cases hob;simp only[aj,hbi,hb dm hdi,q1];exact .inr ⟨w.heap.size,bm,rfl,rfl,heap_alloc_new w _,λo=>hw.ct (Nat.le_refl _) o,.inl hw.size⟩
theorem D.next{dm di clock:Nat}{x:Operand}{es:Array MapEntry}{seen:Array Nat}{om:br}(h:o.op=.next x false)(hx:ev x=.ptr di 0)(hi:σ.get di=some (.iter dm clock clock seen))(hd:σ.get dm=some om)(hl:om.lie=some (es,clock)):
  dU G o ev σ [di] [] (λr σ'=>((leftOf es seen).size=0∧r=.tup [.bool false]∧σ'=σ)∨∃e∈(leftOf es seen).toList,r=.tup [.bool true,.dM,.dM]∧σ'=σ.set di (.iter dm clock clock (seen.push e.born))):=by
 intro cx I β w ρ hw hop;have h1:=hop x (by simp[h,Op.operands]);rw[hx]at h1
 simp only[Rep]at h1;obtain⟨b,h1,h2⟩:=h1;have hin:β di≠.nilFunc:=λe=>by rw[e]at h1;cases h1
 have hit:=hw.bB di _ hi;simp only[aj,hin,false_or]at hit;obtain⟨r,bm,q1,q2,q3,q4,q5⟩:=hit;have hbr:b=r:=by rw[q1]at h1;simpa [blk]using h1.symm
 subst hbr;have hdn:β dm≠.nilFunc:=λe=>by rw[e]at q2;cases q2
 obtain⟨bm',p1,p2,p3⟩:=zU hw hd hl hdn;have:bm'=bm:=by rw[p1]at q2;simpa [blk]using q2
 subst this;rcases run_next_at (P:=G.P) w o.type b bm' clock clock seen es clock q3 p2 p3.2 (Nat.le_refl _)with⟨s1,s2⟩|⟨e,s1,w1,s2,s3⟩
 ·have hrun:(execOp ρ o).run G.P w=.ok (.value (.tuple #[.bool false])) w:=by simp[execOp,h,h2,s2]
  rw[hrun];refine⟨.tup [.bool false],σ,I,β,.inl ⟨s1,rfl,rfl⟩,?_,hw,aQ.refl I,λ_ _=>rfl,λ_ _=>rfl⟩;simp[Rep,aW,aB]
 ·have hrun:(execOp ρ o).run G.P w=.ok (.value (.tuple #[.bool true,e.key,e.val])) (setBlock w1 b (.mapIter (some bm') clock (seen.push e.born) clock)):=by simp[execOp,h,h2,s3]
  rw[hrun];refine⟨.tup [.bool true,.dM,.dM],σ.set di (.iter dm clock clock (seen.push e.born)),I,β,.inr ⟨e,s1,rfl,rfl⟩,?_,?_,aQ.refl I,λ_ _=>rfl,λy hy=>by rw[Sto.cB,if_neg (by simpa using hy)]⟩
  ·simp only[Rep,aW,aB];exact⟨_,rfl,_,_,rfl,rfl,_,_,rfl,trivial,_,_,rfl,trivial,rfl⟩
  ·have hk:Kept w (setBlock w1 b (.mapIter (some bm') clock (seen.push e.born) clock)) b:=by
    rcases s2 with rfl|rfl
    ·exact Kept.setObj _ b _
    ·exact Kept.drew (Kept.setObj _ b _)
   have hbd:blk (β di)=some b:=h1;have hh:(setBlock w1 b (.mapIter (some bm') clock (seen.push e.born) clock)).heap[b]?=some (.mapIter (some bm') clock (seen.push e.born) clock):=by
    have hlt:=bF q3;have:w1.heap=w.heap:=by rcases s2 with rfl|rfl<;>rfl
    simp[setBlock,this,Array.getElem?_setIfInBounds,hlt]
   refine hw.turn (d:=di) hk q5 (λx hx=>by rw[Sto.cB,if_neg hx]) (λx hx hs e'=>hw.bQ x di hs (by rw[hi];rfl) hx b e' (cR hbd)) (aQ.refl I) (λ_ _ _=>rfl)
    (λo v hv=>by rw[q4 o]at hv;cases hv) (q4 none) (λ_ _=>rfl) (.inr rfl) (HLe.refl β) (.inl hbd) λob hob=>?_
   rw[Sto.cB,if_pos rfl,hi]at hob;injection hob with hob
   subst hob;simp only[aj];exact .inr ⟨b,bm',q1,q2,hh,q4,q5⟩
theorem vg{I:Imm}:∀{aL:List (AV×AV)} {es:List MapEntry} {i:Nat} {a c:AV} {e:MapEntry},cW I aL es→aL[i]?=some (a,c)→es[i]?=some e→aB I a e.key∧aB I c e.val
 |[],_,i,_,_,_,_,h,_=>by simp at h
 |(k,v)::r,_,i,a,c,e,h,ha,he=>by
  simp only[cW]at h;obtain⟨f,us,rfl,h1,h2,h3⟩:=h;cases i with
  |zero=>simp at ha he;obtain⟨rfl,rfl⟩:=ha;subst he;exact⟨h1,h2⟩
  |succ i=>simp at ha he;exact vg h3 ha he
theorem agf{cx:Cx}{I:Imm}{β:Nat→Value}{w:World}{ρ:Operand→Value}{dm di clock i:Nat}{x:Operand}{es:Array MapEntry}{seen:Array Nat}{om:br}{e:MapEntry}(hw:aX G cx I β σ w)(h:o.op=.entry x)(h1:Rep I β (.ptr di 0) (ρ x))
  (hi:σ.get di=some (.iter dm clock clock (seen.push e.born))) (hd:σ.get dm=some om) (hl:om.lie=some (es,clock)) (he:es[i]?=some e):(execOp ρ o).run G.P w=.ok (.value (.tuple #[e.key,e.val])) w∧β dm≠.nilFunc:=by
 simp only[Rep]at h1;obtain⟨b,h1,h2⟩:=h1;have hin:β di≠.nilFunc:=λe=>by rw[e]at h1;cases h1
 have hit:=hw.bB di _ hi;simp only[aj,hin,false_or]at hit;obtain⟨r,bm,q1,q2,q3,q4,q5⟩:=hit;have hbr:b=r:=by rw[q1]at h1;simpa [blk]using h1.symm
 subst hbr;have hdn:β dm≠.nilFunc:=λe=>by rw[e]at q2;cases q2
 obtain⟨bm',p1,p2,p3⟩:=zU hw hd hl hdn;have:bm'=bm:=by rw[p1]at q2;simpa [blk]using q2
 subst this;have hmem:e∈es.toList:=by
  have:es.toList[i]?=some e:=by simpa using he
  exact List.mem_of_getElem? this
 exact⟨by simp[execOp,h,h2,run_entry_at (P:=G.P) w b bm' clock seen es clock e q3 p2 hmem p3.1],hdn⟩
theorem Y.anJ{α:Type}{dm di clock i K E:Nat}{k:IntKind}{x:Operand}{es:Array MapEntry}{seen:Array Nat}{e:MapEntry}{n:Int}{v:α}(l:List (Int×α))(enc:α→AV)(h:o.op=.entry x)(hx:ev x=.ptr di 0)(hi:σ.get di=some (.iter dm clock clock (seen.push e.born)))
  (hd:σ.get dm=some (.dI es clock K E (bU k enc l))) (he:es[i]?=some e) (hn:l[i]?=some (n,v)):Yields G o ev σ [] [di,dm] (.tup [.int k n,enc v]):=
 .pure λσ' cx I β w ρ hR hw hop=>by
  have h1:=hop x (by simp[h,Op.operands]);rw[hx]at h1
  have hd':σ'.get dm=some (.dI es clock K E (bU k enc l)):=by rw[hR dm (by simp)];exact hd
  obtain⟨r1,r2⟩:=agf hw h h1 (by rw[hR di (by simp)];exact hi) hd' rfl he;refine⟨_,r1,?_⟩;have ho:=hw.bB dm _ hd';simp only[aj,r2,false_or]at ho;obtain⟨r,q1,q2,q3,_⟩:=ho;obtain⟨s1,s2⟩:=vg q3 (i:=i) (a:=.int k n) (c:=enc v) (e:=e) (by simp[bU,hn]) (by simpa using he);simp only[Rep,aW];exact⟨_,rfl,e.key,[e.val],rfl,s1,e.val,[],rfl,aB.rep β _ _ s2,rfl⟩
def vh{α:Type}(l:List (Int×α))(n:Int):List (Int×α):=match l with
 |[]=>[]
 |p::r=>if p.1=n then r else p::vh r n
theorem v8{I:Imm}{α:Type}{k:IntKind}{enc:α→AV}(n:Int):∀(l:List (Int×α)) (es:List MapEntry) (i:Nat) (a:α),cW I (bU k enc l) es→aY l n=some a→
  ∃j v,Instr.findNow (.int k) (.int k n) es i=some (some (i+j,v))∧j<es.length∧cW I (bU k enc (vh l n)) (es.eraseIdx j)
 |[],es,i,a,h,hg=>by simp[aY]at hg
 |(m,b)::r,es,i,a,h,hg=>by
  simp only[bU,List.map_cons,cW]at h;obtain⟨e,us,rfl,h3,h4,h5⟩:=h;simp only[aB]at h3;rw[gD]at hg;by_cases hm:m=n
  ·subst hm;refine⟨0,e.val,by simp[Instr.findNow,Instr.sameNow,h3],by simp,?_⟩;simp only[vh,if_true,List.eraseIdx_cons_zero];exact h5
  ·rw[if_neg hm]at hg;obtain⟨j,v,q1,q2,q3⟩:=v8 n r us (i+1) a h5 hg;refine⟨j+1,v,?_,by simpa using q2,?_⟩
   ·simp only[Instr.findNow,Instr.sameNow,h3,if_pos];have:(n==m)=false:=by simpa using λe=>hm e.symm
    rw[this];simp only;rw[q1];simp[Nat.add_assoc,Nat.add_comm 1]
   ·simp only[vh,hm,if_false,List.eraseIdx_cons_succ,bU,List.map_cons,cW];exact⟨e,_,rfl,by simp only[aB];exact h3,h4,q3⟩
theorem abq{α:Type}:∀{l:List (Int×α)} {n:Int},aY l n=none→vh l n=l
 |[],_,_=>rfl
 |p::r,n,h=>by
  rw[gD]at h;split at h
  ·cases h
  ·rename_i hp;simp only[vh,if_neg hp,abq h]
theorem gv.erase{es:Array MapEntry}{clock:Nat}(h:gv es clock)(j:Nat):gv (es.eraseIdxIfInBounds j) clock:=by
 obtain⟨h1,h2⟩:=h;have e:(es.eraseIdxIfInBounds j).toList=es.toList.eraseIdx j:=by simp
 refine⟨?_,λx hx=>h2 x ?_⟩
 ·rw[e,ChangeMaps.map_eraseIdx];exact h1.sublist (List.eraseIdx_sublist _ _)
 ·rw[e]at hx;exact(List.eraseIdx_sublist _ _).subset hx
theorem D.agh{α:Type}{T K E d:Nat}{k:IntKind}{x y:Operand}{n:Int}(l:List (Int×α))(enc:α→AV)(h:o.op=.call ⟨.builtin .delete,#[x,y],#[T,K]⟩)(hx:ev x=.bX d)(hy:ev y=.int k n)
  (hd:σ.get d=some (.map K E (bU k enc l))) (hT:jD G.P T K E k) :
  dU G o ev σ [d] [] (λr σ'=>r=.tup []∧σ'=σ.set d (.map K E (bU k enc (vh l n)))):=by
 intro cx I β w ρ hw hop;have h1:=hop x (by simp[h,Op.operands,Call.operands]);rw[hx]at h1
 have h2:=hop y (by simp[h,Op.operands,Call.operands]);rw[hy]at h2;have h2:=de h2
 obtain⟨r,es,clock,q0,q1,q2,q3,q4,q5,q6⟩:=rM hw hd h1;have e1:∀w,(underlying T).run G.P w=.ok (.map K E) w:=λw=>by simp[underlying,program,Sem.run,hT.und]
 have e2:∀w,(underlying K).run G.P w=.ok (.int k) w:=λw=>by simp[underlying,program,Sem.run,hT.key]
 have e3:=fJ (P:=G.P) q2;have e4:=mE (P:=G.P) hT.key (es.isEmpty) n w;have dN:∀ob:Obj,(setObj r ob).run G.P w=.ok () {w with heap:=w.heap.setIfInBounds r ob}:=λob=>by simp[setObj,Sem.run,q2]
 have main:∃es',(execOp ρ o).run G.P w=.ok (.value (.tuple #[])) {w with heap:=w.heap.setIfInBounds r (.map es' clock)}∧cW I (bU k enc (vh l n)) es'.toList∧gv es' clock:=by
  cases hg:aY l n with
  |none=>
   obtain⟨p1,p2⟩:=nt n l es.toList 0 q3 hg;have e5:(Instr.findKey K (.int k n) es.toList).run G.P w=.ok none w:=by simp[Instr.findKey,e2,p1]
   refine⟨es,by simp[execOp,h,resolve,invoke,builtin,Builtin.delete_,q0,h2,e1,e3,e4,e5,dN],?_,q6⟩;rw[abq hg];exact q3
  |some a=>
   obtain⟨j,u,p1,p2,p3⟩:=v8 n l es.toList 0 a q3 hg;have e5:(Instr.findKey K (.int k n) es.toList).run G.P w=.ok (some (0+j,u)) w:=by simp[Instr.findKey,e2,p1]
   refine⟨es.eraseIdxIfInBounds j,by simp[execOp,h,resolve,invoke,builtin,Builtin.delete_,q0,h2,e1,e3,e4,e5,dN],?_,q6.erase j⟩;simpa using p3
 obtain⟨es',hrun,hE,hB⟩:=main;rw[hrun];refine⟨.tup [],_,I,β,⟨rfl,rfl⟩,by simp[Rep,aW],?_,aQ.refl I,λ_ _=>rfl,λx hx=>by rw[Sto.cB,if_neg (by simpa using hx)]⟩;have hbd:blk (β d)=some r:=by rw[q1];rfl
 refine hw.turn (d:=d) (Kept.setObj w r _) q5 (λx hx=>by rw[Sto.cB,if_neg hx]) (λx hx hs e=>hw.bQ x d hs (by rw[hd];rfl) hx r e (cR hbd)) (aQ.refl I) (λ_ _ _=>rfl)
  (λo v hv=>by rw[q4 o]at hv;cases hv) (q4 none) (λ_ _=>rfl) (.inr rfl) (HLe.refl β) (.inl hbd) λob hob=>?_
 rw[Sto.cB,if_pos rfl,hd]at hob;injection hob with hob
 subst hob;simp only[aj];exact .inr ⟨r,es',clock,q1,by have:=bF q2;simp[Array.getElem?_setIfInBounds,this],hE,q4,q5,hB⟩
theorem A.anK{c:Code}{Q:Exit→Env→Sto→Prop}{env:Env}{F:Prop}(h:∀cx I β a w,aX G cx I β σ w→jc I β env a→F)(k:F→af G c Q env σ):af G c Q env σ:=
 af.of λcx a w hr=>by
  obtain⟨I,β,h1,h2,h3,h4⟩:=hr;exact(k (h cx I β a w h1 h2)).use cx a w ⟨I,β,h1,h2,h3,h4⟩
def sel{κ α:Type}(l:List (κ×α))(p:List Nat):List (κ×α):=p.filterMap λi=>l[i]?
theorem wV{κ α:Type}(l:List (κ×α)):sel l (List.range l.length)=l:=by
 have:∀(n:Nat),n≤l.length→sel l (List.range n)=l.take n:=by
  intro n;induction n with
  |zero=>intro _;simp[sel]
  |succ n ih=>
   intro hn;rw[List.range_succ];simp only[sel,List.filterMap_append,List.filterMap_cons,List.filterMap_nil]at ih ⊢;rw[ih (by omega),List.getElem?_eq_getElem (by omega)];simp only;rw[List.take_succ,List.getElem?_eq_getElem (by omega)];rfl
 rw[this _ (Nat.le_refl _),List.take_length]
theorem vi{p:List Nat}{n:Nat}(h1:p.Nodup)(h2:∀i,i∈p↔i<n):p.Perm (List.range n):=
 (List.perm_ext_iff_of_nodup h1 List.nodup_range).2 λi=>by rw[List.mem_range];exact h2 i
theorem A.rng{S α:Type}{env:Env}{Q:Exit→Env→Sto→Prop}{l:List (Int×α)}{B:Int→α→S→Option S}{g0 r:S}(hm:acF l B g0=some r){id b t1 t2 it dm di clock:Nat}{es:Array MapEntry}{o1 o2:Oper}{y:Code}
  (inv:S→Prop) (cn:S→Env) (dh:Array Nat→S→Sto) (ho1:o1.op=.next (.tmp it) false∧o1.dst=some t1∧o1.guard=none) (ho2:o2.op=.extract (.tmp t1) 0∧o2.dst=some t2∧o2.guard=none) (hd:rK G.N #[o1,o2]=true)
  (h0:inv g0) (hinv:∀n v g g',B n v g=some g'→inv g→inv g') (hit:∀g,(cn g).get it=.ptr di 0) (hsi:∀seen g,(dh seen g).get di=some (.iter dm clock clock seen)) (hsl:∀seen g,∃om,(dh seen g).get dm=some om∧om.lie=some (es,clock))
  (dN:∀seen g s',(dh seen g).set di (.iter dm clock clock s')=dh s' g) (hlen:∀seen g,inv g→∀cx I β w,aX G cx I β (dh seen g) w→β dm≠.nilFunc→es.size=l.length)
  (hw:aU G env σ (cn g0) (dh #[] g0))
  (body:∀(seen:Array Nat) (e:MapEntry) (i:Nat) (n:Int) (v:α) (g g':S),es[i]?=some e→l[i]?=some (n,v)→inv g→B n v g=some g'→
   af G y (l8 (λenv' σ'=>aU G env' σ' (cn g') (dh (seen.push e.born) g')) Q) ((t2,.bool true)::(t1,.tup [.bool true,.dM,.dM])::cn g) (dh (seen.push e.born) g))
  (out:∀seen,Q (.exit b) ((t2,.bool false)::(t1,.tup [.bool false])::cn r) (dh seen r)) :
  af G (.loop (.seq (.region id #[o1,o2] false) (.seq (.cond (.tmp t2) .skip (.exit b)) y))) Q env σ:=by
 obtain⟨m1,m2⟩:=adK hm
 refine A.loop (α:=Array Nat×S) (λs=>cn s.2) (λs=>dh s.1 s.2) (λs=>inv s.2∧∃p:List Nat,p.Nodup∧(∀i∈p,i<l.length)∧(∀(i:Nat) (e:MapEntry),es[i]?=some e→(s.1.contains e.born=true↔i∈p))∧lz B (sel l p) g0=some s.2)
  (λs=>(leftOf es s.1).size) (#[],g0) ⟨h0,[],List.nodup_nil,by simp,by simp,rfl⟩ hw ?_
 rintro⟨seen,g⟩ ⟨hi,p,p1,p2,p3,p4⟩;refine A.anK (F:=es.size=l.length∧(es.toList.map (·.born)).Nodup) (λcx I β a w hW hT=>?_) λ⟨f1,f2⟩=>?_
 ·have h1:=hT it;rw[show(cn (seen,g).2).get it=.ptr di 0 from hit g]at h1;simp only[Rep]at h1;obtain⟨b,h1,_⟩:=h1;have hin:β di≠.nilFunc:=λe=>by rw[e]at h1;cases h1
  have ho:=hW.bB di _ (hsi seen g);simp only[aj,hin,false_or]at ho;obtain⟨r,bm,q1,q2,_⟩:=ho;have hdn:β dm≠.nilFunc:=λe=>by rw[e]at q2;cases q2
  obtain⟨om,s1,s2⟩:=hsl seen g;obtain⟨_,_,_,s3⟩:=zU hW s1 s2 hdn;exact⟨hlen seen g hi cx I β w hW hdn,s3.1⟩
 obtain⟨om,s1,s2⟩:=hsl seen g;have h21:Env.get ((t2,.bool true)::(t1,.tup [.bool true,.dM,.dM])::cn g) t2=.bool true:=by rw[Env.aK,if_pos rfl]
 have h20:Env.get ((t2,.bool false)::(t1,.tup [.bool false])::cn g) t2=.bool false:=by rw[Env.aK,if_pos rfl]
 refine A.seq (A.region hd ?_);show Cert G #[o1,o2] ⟨false,[],[]⟩ [] [0,1] (cn g) (dh seen g) _;refine⟨o1,rfl,.inr (.inr (.inl ⟨by simp only[Want,ho1.2.2],by simp,[di],[],_,D.next (x:=.tmp it) ho1.1 (hit g) (hsi seen g) s1 s2,by simp,Env.gi _,by simp,λav σ' hav=>?_⟩))⟩
 have ext:∀(vs:List AV) (bb:Bool) (σ':Sto) (K:Env→Sto→Prop),vs[0]?=some (.bool bb)→K ((t2,.bool bb)::(t1,.tup vs)::cn g) σ'→Cert G #[o1,o2] ⟨false,[],[]⟩ [] [1] ((cn g).put o1.dst (.tup vs)) σ' K:=λvs bb σ' K hv hK=>by
  refine⟨o2,rfl,.inr (.inl ⟨by simp only[Want,ho2.2.2],by simp,[],[],.bool bb,σ',uG.none _ _ _,by simp,by simp,Y.extract (x:=.tmp t1) ho2.1 (by rw[ho1.2.1];show Env.get _ _=_;rw[Env.put,Env.aK,if_pos rfl]) hv,?_⟩)⟩;rw[ho1.2.1,ho2.2.1];exact hK
 rcases hav with⟨u1,rfl,rfl⟩|⟨e,u1,rfl,rfl⟩
 ·refine ext _ false _ _ rfl ?_
  have hall:∀i,i∈p↔i<l.length:=λi=>⟨p2 i,λhlt=>by
   have hlt':i<es.size:=by omega
   refine(p3 i es[i] (Array.getElem?_eq_getElem hlt')).1 ?_;by_cases hc:seen.contains es[i].born=true
   ·exact hc
   ·exfalso;have:es[i]∈leftOf es seen:=by
     unfold leftOf;rw[Array.mem_filter];exact⟨Array.getElem_mem hlt',by simpa using hc⟩
    have:leftOf es seen≠#[]:=λe=>by rw[e]at this;simp at this
    exact this (Array.eq_empty_of_size_eq_zero u1)⟩
  have hp:(sel l p).Perm l:=by
   have:=(vi p1 hall).filterMap λi=>l[i]?;have e2:=wV l;unfold sel at e2 ⊢
   rwa [e2]at this
  have hg:g=r:=by
   have:=m1 _ hp;rw[m2,p4]at this;exact Option.some.inj this
  subst hg;refine A.seq (A.cond (b:=false) h20 (λh=>by cases h) λ_=>A.exit ?_);exact out seen
 ·refine ext _ true _ _ rfl ?_;rw[dN seen g];obtain⟨v1,v2⟩:=mem_left u1;obtain⟨i,hi1⟩:=List.getElem?_of_mem v1;have hi1:es[i]?=some e:=by simpa using hi1
  have hil:i<l.length:=by have:=(Array.getElem?_eq_some_iff.1 hi1).1;omega
  have hip:i∉p:=λh=>by
   have:=(p3 i e hi1).2 h;rw[v2]at this;cases this
  have hli:l[i]?=some (l[i].1,l[i].2):=List.getElem?_eq_getElem hil;have hnd:(p++[i]).Nodup:=by
   rw[List.nodup_append];exact⟨p1,by simp,λa ha c hc=>by simp only[List.mem_singleton]at hc;subst hc;exact λe=>hip (e▸ha)⟩
  have vj:∀j∈p++[i],j<l.length:=λj hj=>by
   rcases List.mem_append.1 hj with hj|hj
   ·exact p2 j hj
   ·rw[List.mem_singleton.1 hj];exact hil
  have hg':∃g',B l[i].1 l[i].2 g=some g'∧lz B (sel l (p++[i])) g0=some g':=by
   have e1:sel l (p++[i])=sel l p++[(l[i].1,l[i].2)]:=by
    unfold sel;rw[List.filterMap_append];simp[List.filterMap_cons,List.getElem?_eq_getElem hil]
   have e2:lz B (sel l (p++[i])) g0=B l[i].1 l[i].2 g:=by
    rw[e1,sK,p4];simp only[Option.bind_some,lz];cases B l[i].1 l[i].2 g<;>rfl
   have full:(p++[i]++(List.range l.length).filter λj=>!(p++[i]).contains j).Perm (List.range l.length):=by
    refine vi ?_ λj=>?_
    ·rw[List.nodup_append];refine⟨hnd,List.nodup_range.filter _,λa ha c hc e=>?_⟩;subst e;have:=(List.mem_filter.1 hc).2;simp only[Bool.not_eq_true',List.contains_eq_mem,decide_eq_false_iff_not]at this;exact this ha
    ·rw[List.mem_append,List.mem_filter,List.mem_range];constructor
     ·rintro(h|h)
      ·exact vj j h
      ·exact h.1
     ·intro h;by_cases hj:j∈p++[i]
      ·exact .inl hj
      ·exact .inr ⟨h,by simpa using hj⟩
   have hp2:=full.filterMap λi=>l[i]?;have e3:=wV l;unfold sel at e3;rw[e3,List.filterMap_append]at hp2;have h3:=m1 _ hp2;rw[m2,sK]at h3;cases hf:lz B (sel l (p++[i])) g0 with
   |none=>unfold sel at hf;rw[hf]at h3;cases h3
   |some g'=>exact⟨g',by rw[←e2];exact hf,rfl⟩
  obtain⟨g',w1,w2⟩:=hg';refine A.seq (A.cond (b:=true) h21 (λ_=>A.skip ?_) λh=>by cases h);refine(body seen e i l[i].1 l[i].2 g g' hi1 hli hi w1).mono λex env' σ' hq=>?_;cases ex with
  |normal=>
   refine⟨(seen.push e.born,g'),⟨hinv _ _ _ _ w1 hi,p++[i],hnd,vj,λj e' hj=>?_,w2⟩,left_shrinks es seen e u1,hq⟩;rw[contains_push,Bool.or_eq_true,beq_iff_eq,p3 j e' hj,List.mem_append,List.mem_singleton];constructor
   ·rintro(h|h)
    ·exact .inl h
    ·right;have hj':es.toList[j]?=some e':=by simpa using hj
     have hi':es.toList[i]?=some e:=by simpa using hi1
     have hjl:=(List.getElem?_eq_some_iff.1 hj').1;have hilt:=(List.getElem?_eq_some_iff.1 hi').1;have g1:=(List.getElem?_eq_some_iff.1 hj').2;have g2:=(List.getElem?_eq_some_iff.1 hi').2;have pw:=List.pairwise_iff_getElem.1 f2;rcases Nat.lt_trichotomy j i with q|q|q
     ·refine absurd ?_ (pw j i (by simpa using hjl) (by simpa using hilt) q);rw[List.getElem_map,List.getElem_map,g1,g2,h]
     ·exact q
     ·refine absurd ?_ (pw i j (by simpa using hilt) (by simpa using hjl) q);rw[List.getElem_map,List.getElem_map,g1,g2,h]
   ·rintro(h|h)
    ·exact .inl h
    ·subst h;rw[hj]at hi1;cases hi1;exact .inr rfl
  |exit id=>exact hq
  |goto l=>exact hq
  |ret=>exact hq
  |panic c=>exact hq
  |outgrown=>exact hq
end
end
section
def vL{α:Type}(e:En α)(l:List α):AV:=.lst false (ml e l)
variable {α:Type}
theorem zL(e:En α)(I:Imm):aB I (vL e []) (.slice none 0 0):=by
 simp only[vL,ml,List.map_nil,aB];exact⟨none,0,rfl,by simp,by simp[maxLen],by simp,.inl trivial⟩
variable {E:Nat}{k:IntKind}
theorem zI{P:Program}(h:∀w,(zeroValue E).run P w=.ok (.int k 0) w):∀w,∃v,(zeroValue E).run P w=.ok v w∧∀I,aB I (vI k 0) v:=λw=>⟨_,h w,λI=>by simp[vI,aB]⟩
theorem zB{P:Program}(h:∀w,(zeroValue E).run P w=.ok (.bool false) w):∀w,∃v,(zeroValue E).run P w=.ok v w∧∀I,aB I (vB false) v:=λw=>⟨_,h w,λI=>by simp[vB,aB]⟩
section
variable {P:Program}
def anM(env:Env)(σ:Sto)(T' sz:Nat)(z:Operand):Option (List Nat×List (List AV)):=match env.evo z with
 |some .bI=>some ([],[])
 |some (.own j)=>(match σ.get j with
  |some (.slice T2 sz2 xs 0 _)=>bif Nat.beq T2 T'&&Nat.beq sz2 sz then some ([j],xs)else none
  |_=>none)
 |_=>none
def ptP{α:Type}(T0 K0 E0 T' sz e2:Nat)(k:IntKind)(l':List (Int×List α))(enc:α→List AV)(ids:List Nat)(T:Nat)(x y z:Operand)(env:Env)(σ:Sto):Option (Stp×Obs×Option (Option Nat×Nat)):=match env.evo x with
  |some (.bX d)=>(match env.evo y with
   |some (.int k' n')=>(match σ.get d with
    |some (.gh K E e keys hole fx)=>(match σ.get e with
     |some (.bun els)=>(match anM env σ T' sz z with
      |some (M0,xs)=>bif Nat.beq T T0&&Nat.beq K K0&&Nat.beq E E0&&(σ.get e2).isNone&&!ids.contains e2&&σ.clean [e2].contains then
       some (.e (d::e::e2::M0) [e2] .undef ((e2,.bun (pM T' sz enc l'))::(d,.gh K E e2 (iD k l') none none)::σ.minus (d::e::M0)),([.int k' n',.agg keys,.lst false xs],[(1,.bun els)]),hole)else none
      |none=>none)
     |_=>none)
    |_=>none)
   |_=>none)
  |_=>none
theorem anN{α:Type}{T0 K0 E0 T' sz e2:Nat}{k:IntKind}{ks:List AV}{l l':List (Int×List α)}{n:Int}{enc:α→List AV}{row:List α}(hT:jD P T0 K0 E0 k){o:Oper}{N:Nat}{ids:List Nat}{env:Env}{σ:Sto}{s:Stp}{ob:Obs}{hole:Option (Option Nat×Nat)}{T:Nat}{x y z:Operand}
  (ho:o.op=.mapUpdate T x y z∨o.op=.insert T x y z) (h:ptP T0 K0 E0 T' sz e2 k l' enc ids T x y z env σ=some (s,ob,hole)) (he:ob=([.int k n,.agg ks,.lst false (row.map enc)],[(1,.bun (pM T' sz enc l))])) (hks:iD k l=ks) (hl':bN l n row=l') (hh:hole=none∨∃t,hole=zT l n t) (hrow:row.map enc=[]→row=[]):cz ⟨P,N,ids⟩ o env σ s:=by
 subst hks hl';simp only[ptP]at h;split at h
 ·rename_i d hx;split at h
  ·rename_i k' n' hy;split at h
   ·rename_i K E e keys hole' fx hd;split at h
    ·rename_i els hb;split at h
     ·rename_i M0 xs hr;generalize hc:(Nat.beq T T0&&_&&_&&_&&_&&_)=bb at h;cases bb with
      |false=>cases h
      |true=>
       simp only[Bool.and_eq_true,Bool.not_eq_true']at hc;obtain⟨⟨⟨⟨⟨c1,c2⟩,c3⟩,c4⟩,c5⟩,c6⟩:=hc;have:=Nat.eq_of_beq_eq_true c1;subst this;have:=Nat.eq_of_beq_eq_true c2;subst this;have:=Nat.eq_of_beq_eq_true c3;subst this;cases h;simp only[Prod.mk.injEq,List.cons.injEq,AV.int.injEq,AV.agg.injEq,AV.lst.injEq,br.bun.injEq,and_true,true_and]at he;obtain⟨⟨⟨rfl,rfl⟩,rfl,rfl⟩,rfl⟩:=he;simp only[anM]at hr;split at hr
       ·rename_i hz;simp only[Option.some.injEq,Prod.mk.injEq]at hr;obtain⟨rfl,hr⟩:=hr;exact⟨D.anI (fz:=false) [] l enc row ho (Env.aG hx) (Env.aG hy) (.inl ⟨Env.aG hz,hrow hr.symm,rfl⟩) hd hh hb hT (by simpa using c4) c5 c6,by simp only[List.all_cons,List.all_nil,c5];rfl⟩
       ·rename_i j hz;split at hr
        ·rename_i T2 sz2 xs' fz hj;cases hq:(Nat.beq T2 T'&&Nat.beq sz2 sz)with
         |false=>rw[hq]at hr;cases hr
         |true=>
          rw[hq]at hr;simp only[cond_true,Option.some.injEq,Prod.mk.injEq]at hr;obtain⟨rfl,rfl⟩:=hr;simp only[Bool.and_eq_true]at hq;have:=Nat.eq_of_beq_eq_true hq.1;subst this;have:=Nat.eq_of_beq_eq_true hq.2;subst this;exact⟨D.anI (fz:=fz) [j] l enc row ho (Env.aG hx) (Env.aG hy) (.inr ⟨j,Env.aG hz,hj,rfl⟩) hd hh hb hT (by simpa using c4) c5 c6,by simp only[List.all_cons,List.all_nil,c5];rfl⟩
        ·cases hr
       ·cases hr
     ·cases h
    ·cases h
   ·cases h
  ·cases h
 ·cases h
def tL:Option (Option Nat×Nat)→AV
 |none=>.dM
 |some (none,t)=>.own t
 |some (some i,t)=>.ptr t i
theorem ahW:∀{a b:Option (Option Nat×Nat)},tL a=tL b→a=b
 |none,none,_=>rfl
 |some (none,t),some (none,u),h=>by simp only[tL,AV.own.injEq]at h;rw[h]
 |some (some i,t),some (some j,u),h=>by simp only[tL,AV.ptr.injEq]at h;rw[h.1,h.2]
 |none,some (none,_),h|none,some (some _,_),h|some (none,_),none,h|some (some _,_),none,h|some (none,_),some (some _,_),h|some (some _,_),some (none,_),h=>by simp[tL]at h
def ptF{α:Type}(T0 K0 E0 T' sz e2:Nat)(k:IntKind)(l':List (Int×List α))(enc:α→List AV)(ids:List Nat)(op:Op)(env:Env)(σ:Sto):Option (Stp×Obs):=match op with
 |.mapUpdate T x y z=>(match ptP T0 K0 E0 T' sz e2 k l' enc ids T x y z env σ with|some (s,ob,hole)=>some (s,(tL hole::ob.1,ob.2))|none=>none)
 |.insert T x y z=>(match ptP T0 K0 E0 T' sz e2 k l' enc ids T x y z env σ with|some (s,ob,hole)=>some (s,(tL hole::ob.1,ob.2))|none=>none)
 |_=>none
theorem anO{α:Type}{T0 K0 E0 T' sz e2:Nat}{k:IntKind}{ks:List AV}{l l':List (Int×List α)}{n:Int}{enc:α→List AV}{row:List α}{hv:Option (Option Nat×Nat)}(hT:jD P T0 K0 E0 k)(hks:iD k l=ks)(hl':bN l n row=l')(hh:hv=none∨∃t,hv=zT l n t){o:Oper}{N:Nat}{ids:List Nat}{env:Env}{σ:Sto}{s:Stp}{ob:Obs}
  (h:ptF T0 K0 E0 T' sz e2 k l' enc ids o.op env σ=some (s,ob)) (he:ob=([tL hv,.int k n,.agg ks,.lst false (row.map enc)],[(1,.bun (pM T' sz enc l))])):cz ⟨P,N,ids⟩ o env σ s:=by
 have hrow:row.map enc=[]→row=[]:=λh=>List.map_eq_nil_iff.1 h;have key:∀{T:Nat} {x y z:Operand} (hole:Option (Option Nat×Nat)) (ob':Obs),(o.op=.mapUpdate T x y z∨o.op=.insert T x y z)→ptP T0 K0 E0 T' sz e2 k l' enc ids T x y z env σ=some (s,ob',hole)→ob=(tL hole::ob'.1,ob'.2)→cz ⟨P,N,ids⟩ o env σ s:=by
  intro T x y z hole ob' ho h2 h3;rw[h3]at he;simp only[Prod.mk.injEq,List.cons.injEq]at he;obtain⟨⟨e1,e2'⟩,e3⟩:=he;refine anN hT ho h2 (Prod.ext e2' e3) hks hl' ?_ hrow;rw[ahW e1];exact hh
 cases ho:o.op<;>rw[ho]at h
 case mapUpdate T x y z=>
  simp only[ptF]at h;split at h
  ·rename_i s' ob' hole h2;cases h;exact key hole ob' (.inl ho) h2 rfl
  ·cases h
 case insert T x y z=>
  simp only[ptF]at h;split at h
  ·rename_i s' ob' hole h2;cases h;exact key hole ob' (.inr ho) h2 rfl
  ·cases h
 all_goals (simp only[ptF]at h;cases h)
def hpm{α:Type}{T0 K0 E0:Nat}{k:IntKind}(T' sz e2:Nat)(l:List (Int×List α))(n:Int)(enc:α→List AV)(row:List α)(hT:jD P T0 K0 E0 k):Hint P:=
 .gs true ([tL none,.int k n,.agg (iD k l),.lst false (row.map enc)],[(1,.bun (pM T' sz enc l))]) (ptF T0 K0 E0 T' sz e2 k (bN l n row) enc) λ_ _ _ _ _ _ _ h he=>anO hT rfl rfl (.inl rfl) h he
def lfF{α:Type}(T0:Nat)(k:IntKind)(l:List (Int×α))(n:Int)(enc:α→AV)(z:α)(op:Op)(env:Env)(σ:Sto):Option (Stp×Obs):=match op with
 |.lookup T x y ok=>(match env.evo x with
  |some (.mpf aL)=>(match env.evo y with
   |some (.int k' n')=>bif Nat.beq T T0 then some (.y [] (bif ok then .tup [enc ((aY l n).getD z),.bool (aY l n).isSome]else enc ((aY l n).getD z)),([.mpf aL,.int k' n'],[]))else none
   |_=>none)
  |some (.bX d)=>(match env.evo y with
   |some (.int k' n')=>(match σ.get d with
    |some (.dI es clock K E aL)=>bif Nat.beq T T0 then some (.y [d] (bif ok then .tup [enc ((aY l n).getD z),.bool (aY l n).isSome]else enc ((aY l n).getD z)),([.mpf aL,.int k' n'],[]))else none
    |_=>none)
   |_=>none)
  |_=>none)
 |_=>none
theorem Y.ahX{G:Gl}{o:Oper}{ev:Operand→AV}{σ:Sto}{α:Type}{T K E K' E' d:Nat}{es:Array MapEntry}{clock:Nat}{k:IntKind}{x y:Operand}{ok:Bool}{n:Int}(l:List (Int×α))(enc:α→AV)(z:α)(h:o.op=.lookup T x y ok)(hx:ev x=.bX d)(hy:ev y=.int k n)(hd:σ.get d=some (.dI es clock K' E' (bU k enc l)))
  (hT:jD G.P T K E k) (hz:∀w,∃v,(zeroValue E).run G.P w=.ok v w∧∀I,aB I (enc z) v) :
  Yields G o ev σ [] [d] (bif ok then .tup [enc ((aY l n).getD z),.bool (aY l n).isSome]else enc ((aY l n).getD z)):=
 .pure λσ' cx I β w ρ hR hw hop=>by
  have h1:=hop x (by simp[h,Op.operands]);rw[hx]at h1
  have h2:=hop y (by simp[h,Op.operands]);rw[hy]at h2;have h2:=de h2
  exact uS l enc z h (ack hw (by rw[hR d (by simp)];exact hd) h1) h2 hT hz
theorem anP{α:Type}{T0 K0 E0:Nat}{k:IntKind}{l:List (Int×α)}{n:Int}{enc:α→AV}{z:α}(hT:jD P T0 K0 E0 k)(hz:∀w,∃v,(zeroValue E0).run P w=.ok v w∧∀I,aB I (enc z) v){o:Oper}{N:Nat}{ids:List Nat}{env:Env}{σ:Sto}{s:Stp}{ob:Obs}
  (h:lfF T0 k l n enc z o.op env σ=some (s,ob)) (he:ob=([.mpf (bU k enc l),.int k n],[])):cz ⟨P,N,ids⟩ o env σ s:=by
 cases ho:o.op<;>rw[ho]at h
 case lookup T x y ok=>
  simp only[lfF]at h;split at h
  ·rename_i aL hx;split at h
   ·rename_i k' n' hy;cases hb:Nat.beq T T0 with
    |false=>rw[hb]at h;cases h
    |true=>
     rw[hb]at h;have:=Nat.eq_of_beq_eq_true hb;subst this;cases h;simp only[Prod.mk.injEq,List.cons.injEq,AV.int.injEq,AV.mpf.injEq,and_true]at he;obtain⟨rfl,rfl,rfl⟩:=he;exact Y.akh l enc z ho (Env.aG hx) (Env.aG hy) hT hz
   ·cases h
  ·rename_i d hx;split at h
   ·rename_i k' n' hy;split at h
    ·rename_i es clock K E aL hd;cases hb:Nat.beq T T0 with
     |false=>rw[hb]at h;cases h
     |true=>
      rw[hb]at h;have:=Nat.eq_of_beq_eq_true hb;subst this;cases h;simp only[Prod.mk.injEq,List.cons.injEq,AV.int.injEq,AV.mpf.injEq,and_true]at he;obtain⟨rfl,rfl,rfl⟩:=he;exact Y.ahX l enc z ho (Env.aG hx) (Env.aG hy) hd hT hz
    ·cases h
   ·cases h
  ·cases h
 all_goals (simp only[lfF]at h;cases h)
def hlf{α:Type}{T0 K0 E0:Nat}{k:IntKind}(l:List (Int×α))(n:Int)(enc:α→AV)(z:α)(hT:jD P T0 K0 E0 k)(hz:∀w,∃v,(zeroValue E0).run P w=.ok v w∧∀I,aB I (enc z) v):Hint P:=
 .gs false ([.mpf (bU k enc l),.int k n],[]) (λ_=>lfF T0 k l n enc z) λ_ _ _ _ _ _ _ h he=>anP hT hz h he
def deF{α:Type}(T0 K0:Nat)(k:IntKind)(l:List (Int×α))(n:Int)(enc:α→AV)(op:Op)(env:Env)(σ:Sto):Option (Stp×Obs):=match op with
 |.call c=>(match c.callee with
  |.builtin b=>(match b with
   |.delete=>(match c.args.toList with
    |[x,y]=>(match c.argTypes.toList with
     |[T,K]=>(match env.evo x with
      |some (.bX d)=>(match env.evo y with
       |some (.int k' n')=>(match σ.get d with
        |some (.map K' E aL)=>bif Nat.beq T T0&&Nat.beq K K0&&Nat.beq K' K0 then some (.e [d] [] (.tup []) (σ.set d (.map K' E (bU k enc (vh l n)))),([.mpf aL,.int k' n'],[(0,.cells E [])]))else none
        |_=>none)
       |_=>none)
      |_=>none)
     |_=>none)
    |_=>none)
   |_=>none)
  |_=>none)
 |_=>none
theorem anQ{α:Type}{T0 K0 E0:Nat}{k:IntKind}{l:List (Int×α)}{n:Int}{enc:α→AV}(hT:jD P T0 K0 E0 k){o:Oper}{N:Nat}{ids:List Nat}{env:Env}{σ:Sto}{s:Stp}{ob:Obs}
  (h:deF T0 K0 k l n enc o.op env σ=some (s,ob)) (he:ob=([.mpf (bU k enc l),.int k n],[(0,.cells E0 [])])):cz ⟨P,N,ids⟩ o env σ s:=by
 cases ho:o.op<;>rw[ho]at h
 case call c=>
  obtain⟨cl,args,tys⟩:=c;simp only[deF]at h;split at h
  ·rename_i b;split at h
   ·split at h
    ·rename_i x y hargs;have:args=#[x,y]:=Array.toList_inj.1 (by simpa using hargs);subst this;split at h
     ·rename_i T K acG;have:tys=#[T,K]:=Array.toList_inj.1 (by simpa using acG);subst this;split at h
      ·rename_i d hx;split at h
       ·rename_i k' n' hy;split at h
        ·rename_i K' E aL hd;cases hb:(Nat.beq T T0&&Nat.beq K K0&&Nat.beq K' K0)with
         |false=>rw[hb]at h;cases h
         |true=>
          rw[hb]at h;simp only[Bool.and_eq_true]at hb;obtain⟨⟨b1,b2⟩,b3⟩:=hb;have:=Nat.eq_of_beq_eq_true b1;subst this;have:=Nat.eq_of_beq_eq_true b2;subst this;have:=Nat.eq_of_beq_eq_true b3;subst this;cases h;simp only[Prod.mk.injEq,List.cons.injEq,AV.int.injEq,AV.mpf.injEq,br.cells.injEq,and_true,true_and]at he;obtain⟨⟨rfl,rfl,rfl⟩,rfl⟩:=he;exact⟨D.agh l enc ho (Env.aG hx) (Env.aG hy) hd hT,rfl⟩
        ·cases h
       ·cases h
      ·cases h
     ·cases h
    ·cases h
   ·cases h
  ·cases h
 all_goals (simp only[deF]at h;cases h)
def hde{α:Type}{T0 K0 E0:Nat}{k:IntKind}(l:List (Int×α))(n:Int)(enc:α→AV)(hT:jD P T0 K0 E0 k):Hint P:=
 .gs true ([.mpf (bU k enc l),.int k n],[(0,.cells E0 [])]) (λ_=>deF T0 K0 k l n enc) λ_ _ _ _ _ _ _ h he=>anQ hT h he
def rgF(T0 di:Nat)(es:Array MapEntry)(clock:Nat)(ids:List Nat)(op:Op)(env:Env)(σ:Sto):Option (Stp×Obs):=match op with
 |.range T x=>(match env.evo x with
  |some (.bX dm)=>(match σ.get dm with
   |some om=>(match om.lie with
    |some (es',c')=>bif Nat.beq T T0&&!ids.contains di&&σ.clean [di].contains then some (.e [di] [di] (.ptr di 0) ((di,.iter dm clock clock #[])::σ),([],[(0,.dI es' c' 0 0 [])]))else none
    |_=>none)
   |_=>none)
  |_=>none)
 |_=>none
theorem anR{T0 K0 E0 di clock:Nat}{k:IntKind}{es:Array MapEntry}(hT:jD P T0 K0 E0 k){o:Oper}{N:Nat}{ids:List Nat}{env:Env}{σ:Sto}{s:Stp}{ob:Obs}
  (h:rgF T0 di es clock ids o.op env σ=some (s,ob)) (he:ob=([],[(0,.dI es clock 0 0 [])])):cz ⟨P,N,ids⟩ o env σ s:=by
 cases ho:o.op<;>rw[ho]at h
 case range T x=>
  simp only[rgF]at h;split at h
  ·rename_i dm hx;split at h
   ·rename_i om hd;split at h
    ·rename_i es' c' hl;cases hb:(Nat.beq T T0&&!ids.contains di&&σ.clean [di].contains)with
     |false=>rw[hb]at h;cases h
     |true=>
      rw[hb]at h;simp only[Bool.and_eq_true,Bool.not_eq_true']at hb;obtain⟨⟨b1,b2⟩,b3⟩:=hb;have:=Nat.eq_of_beq_eq_true b1;subst this;cases h;simp only[Prod.mk.injEq,List.cons.injEq,br.dI.injEq,and_true,true_and]at he;obtain⟨rfl,rfl⟩:=he;exact⟨D.range ho (Env.aG hx) hd hl hT.und b2 b3,by simp only[List.all_cons,List.all_nil,b2];rfl⟩
    ·cases h
   ·cases h
  ·cases h
 all_goals (simp only[rgF]at h;cases h)
def hrg{T0 K0 E0:Nat}{k:IntKind}(di:Nat)(es:Array MapEntry)(clock:Nat)(hT:jD P T0 K0 E0 k):Hint P:=
 .gs true ([],[(0,.dI es clock 0 0 [])]) (rgF T0 di es clock) λ_ _ _ _ _ _ _ h he=>anR hT h he
def enF(di dm:Nat)(a:AV)(rows:Bool)(op:Op)(env:Env)(σ:Sto):Option (Stp×Obs):=match op with
 |.entry x=>(match env.evo x with
  |some (.ptr di' 0)=>(match σ.get di with
   |some ob1=>(match σ.get dm with
    |some (.dI es c K E aL)=>bif Nat.beq di' di&&!rows then some (.y [di,dm] a,([.mpf aL],[(0,ob1),(1,.dI es c 0 0 [])]))else none
    |some (.gh K E e keys hole (some (es,c)))=>bif Nat.beq di' di&&rows then some (.y [di,dm] a,([.agg keys],[(0,ob1),(1,.dI es c 0 0 [])]))else none
    |_=>none)
   |_=>none)
  |_=>none)
 |_=>none
theorem anS{α:Type}{di dm clock i:Nat}{k:IntKind}{es:Array MapEntry}{seen:Array Nat}{e:MapEntry}{n:Int}{v:α}{l:List (Int×α)}{enc:α→AV}(hE:es[i]?=some e)(hl:l[i]?=some (n,v)){o:Oper}{N:Nat}{ids:List Nat}{env:Env}{σ:Sto}{s:Stp}{ob:Obs}
  (h:enF di dm (.tup [.int k n,enc v]) false o.op env σ=some (s,ob)) (he:ob=([.mpf (bU k enc l)],[(0,.iter dm clock clock (seen.push e.born)),(1,.dI es clock 0 0 [])])):cz ⟨P,N,ids⟩ o env σ s:=by
 cases ho:o.op<;>rw[ho]at h
 case entry x=>
  simp only[enF]at h;split at h
  ·rename_i di' hx;split at h
   ·rename_i ob1 h1;split at h
    ·rename_i es' c K E aL hd;cases hb:Nat.beq di' di with
     |false=>rw[hb]at h;cases h
     |true=>
      rw[hb]at h;have:=Nat.eq_of_beq_eq_true hb;subst this;cases h;simp only[Prod.mk.injEq,List.cons.injEq,AV.mpf.injEq,br.dI.injEq,and_true,true_and]at he;obtain⟨rfl,rfl,rfl,rfl⟩:=he;exact Y.anJ l enc ho (Env.aG hx) h1 hd hE hl
    ·rename_i K E e keys hole es' c hd;simp only[Bool.and_false,cond_false]at h;cases h
    ·cases h
   ·cases h
  ·cases h
 all_goals (simp only[enF]at h;cases h)
def hex{α:Type}{es:Array MapEntry}{i:Nat}{e:MapEntry}{n:Int}{v:α}{l:List (Int×α)}(di dm clock:Nat)(k:IntKind)(seen:Array Nat)(enc:α→AV)(hE:es[i]?=some e)(hl:l[i]?=some (n,v)):Hint P:=
 .gs false ([.mpf (bU k enc l)],[(0,.iter dm clock clock (seen.push e.born)),(1,.dI es clock 0 0 [])]) (λ_=>enF di dm (.tup [.int k n,enc v]) false) λ_ _ _ _ _ _ _ h he=>anS hE hl h he
end
theorem aml{G:Gl}{σ:Sto}{cx:Cx}{I:Imm}{β:Nat→Value}{w:World}{dm K e clock:Nat}{es:Array MapEntry}{hole:Option (Option Nat×Nat)}{l l0:List (Int×α)}(hw:aX G cx I β σ w)(hd:σ.get dm=some (.gh K E e (iD k l) hole (some (es,clock))))(hn:β dm≠.nilFunc)(hl:l.map (·.1)=l0.map (·.1)):es.size=l0.length:=by
 have ho:=hw.bB dm _ hd;simp only[aj,hn,false_or]at ho;obtain⟨r,es',clock',hs,as,q1,q2,q3,q4,q5,q6,q7,q8,q9⟩:=ho;cases q9 _ rfl;have h1:=q5.length.2;have h2:=congrArg List.length hl;simp[iD]at h1 h2;omega
end
section
section
variable {G:Gl}{σ:Sto}{o:Oper}{ev:Operand→AV}
theorem abr{P:Program}{E:TypeId}{i:TypeInfo}{z z':Value}{w:World}(hi:P.info? E=some i)(hz:i.zero=some z)(h:(zeroValue E).run P w=.ok z' w):z'=z:=by
 simp[zeroValue,typeInfo,hi,hz]at h;exact h.symm
theorem D.makeSlice{T E bytes d:Nat}{x y:Operand}{k k':IntKind}{n:Int}{a:AV}{zc:Value}(h:o.op=.makeSlice T x y)(hx:ev x=.int k n)(hy:ev y=.int k' n)(hA:gL G.P T E 1 bytes)(hS:iP G.P T E 1 [zc])(ha:∀I,aB I a zc)(h0:0≤n)(hb:n≤4294967296)(hby:bytes≤65536)
  (hi:G.ids.contains d=false) (hc:σ.clean [d].contains=true):dU G o ev σ [d] [d] (λr σ'=>r=.own d∧σ'=(d,.slice E 1 (List.replicate n.toNat [a]) 0 false)::σ):=by
 intro cx I β w ρ hw hop;have h1:=hop x (by simp[h,Op.operands]);rw[hx]at h1;have h1:=de h1
 have h2:=hop y (by simp[h,Op.operands]);rw[hy]at h2;have h2:=de h2
 obtain⟨i,z,hi1,hz1,hz2,hz3,hz4⟩:=hA.info;obtain⟨z',g1,g2⟩:=hS.zero w;have:=abr hi1 hz1 g1;subst this;have hmul:(i.bytes:Int)*n≤281474976710656:=by
  rw[hz3];have h1:(bytes:Int)*n≤(65536:Int)*4294967296:=Int.mul_le_mul (by omega) hb h0 (by omega);omega
 have hr:=run_make (P:=G.P) w T E i z' hA.und hi1 hz1 k k' n n h0 (Int.le_refl _) hmul (by omega);rw[hz2,Nat.mul_one,g2]at hr;have hrun:(execOp ρ o).run G.P w=.ok (.value (.slice (some ⟨w.heap.size,0,none⟩) n.toNat n.toNat)) (w.alloc (.cells (madeCells #[zc] n.toNat) E)):=by simp[execOp,h,h1,h2,hr]
 rw[hrun];have hv:=hw.ov (mat:=[d]) (σ2:=σ) (env:=[]) ⟨λ_ _=>rfl,by simpa using hi,rfl,hc,λx hx dm n h=>by have:=(Sto.cm hc x _ h).1;rw[List.contains_iff_mem.2 hx]at this;cases this⟩;have hb:∀y,y≠d→en (dP β [d]) d (.slice (some ⟨w.heap.size,0,none⟩) n.toNat n.toNat) y=β y:=λy hy=>by rw[cc _ _ hy];simp[dP,hy]
 have hbi:en (dP β [d]) d (.slice (some ⟨w.heap.size,0,none⟩) n.toNat n.toNat) d=.slice (some ⟨w.heap.size,0,none⟩) n.toNat n.toNat:=bO _ _ _;refine⟨.own d,_,I,en (dP β [d]) d (.slice (some ⟨w.heap.size,0,none⟩) n.toNat n.toNat),⟨rfl,rfl⟩,?_,?_,aQ.refl I,λy hy=>hb y (by simpa using hy),λy hy=>by rw[Sto.aK,if_neg (Ne.symm (by simpa using hy))]⟩
 ·simp only[Rep,hbi,fP,and_self]
 ·refine hv.turn (d:=d) (Kept.alloc w _) (.inl hw.size) (λx hx=>by rw[Sto.aK,if_neg (Ne.symm hx)]) (λx hx hs e=>by
    obtain⟨ob,hs⟩:=Option.isSome_iff_exists.1 hs;exact absurd (hv.lE hs e) (by omega)) (aQ.refl I) (λ_ _ _=>rfl) (λo' v' hv'=>by rw[hw.ct (Nat.le_refl _)]at hv';cases hv') (hw.ct (Nat.le_refl _) none)
   (λx hx=>cc _ _ hx) (.inl (by simpa using hi)) (HLe.upd (by simp[dP])) (.inl (by rw[hbi];rfl)) λob hob=>?_
  rw[Sto.aK,if_pos rfl]at hob;cases hob;simp only[aj,hbi];refine .inr (.inr ⟨w.heap.size,n.toNat,_,by rw[List.length_replicate],by rw[List.length_replicate];exact Nat.le_refl _,by simp[maxLen];omega,heap_alloc_new w _,by rw[size_madeCells,Nat.mul_one],?_,λe he=>by rw[List.eq_of_mem_replicate he];rfl,Nat.zero_le _,by simp,λo _=>hw.ct (Nat.le_refl _) o,.inl hw.size⟩);rw[toList_madeCells_one,List.length_replicate,Nat.mul_one];have:∀m:Nat,aS I (List.replicate m [a]).flatten (List.replicate m zc):=by
   intro m;induction m with
   |zero=>simp[aS]
   |succ m ih=>
    simp only[List.replicate_succ,List.flatten_cons,List.singleton_append,aS];exact⟨_,_,rfl,ha I,ih⟩
  have e:(List.replicate n.toNat zc).take n.toNat=List.replicate n.toNat zc:=by rw[List.take_of_length_le];simp
  rw[e];exact this _
theorem Y.agi{T E N sz d off:Nat}{x y:Operand}{k:IntKind}{i:Int}(h:o.op=.indexAddr T x y)(hx:ev x=.ptr d off)(hy:ev y=.int k i)(hu:G.P.underlying T=some (.array N E))(hs:∀w,(sizeOf E).run G.P w=.ok sz w)(hi:0≤i∧i<N):
  Yields G o ev σ [] [] (.ptr d (off+i.toNat*sz)):=
 .pure λσ' cx I β w ρ hR hw hop=>by
  have h1:=hop x (by simp[h,Op.operands]);rw[hx]at h1
  have h2:=hop y (by simp[h,Op.operands]);rw[hy]at h2;have h2:=de h2
  simp only[Rep]at h1;obtain⟨b,hb1,h3⟩:=h1;have e1:∀w,(underlying T).run G.P w=.ok (.array N E) w:=λw=>by simp[underlying,program,Sem.run,hu]
  exact⟨.pointer (some ⟨b,off+i.toNat*sz,none⟩),by simp[execOp,h,h2,h3,Instr.indexAt,Instr.sureAddr,asIntOf,e1,hi,hs,Addr.add],by simp only[Rep];exact⟨b,hb1,rfl⟩⟩
end
section
variable {P:Program}
def msF{α:Type}(T0 d E:Nat)(x0:α)(e:α→List AV)(n:Int)(ids:List Nat)(op:Op)(env:Env)(σ:Sto):Option (Stp×Obs):=match op with
 |.makeSlice T x y=>(match env.evo x with
  |some (.int _ n1)=>(match env.evo y with
   |some (.int _ n2)=>bif Nat.beq T T0&&!ids.contains d&&σ.clean [d].contains then some (.e [d] [d] (.own d) ((d,.slice E 1 ((List.replicate n.toNat x0).map e) 0 false)::σ),([.int .i64 n1,.int .i64 n2],[]))else none
   |_=>none)
  |_=>none)
 |_=>none
theorem anU{α:Type}{T0 E bytes d:Nat}{x0:α}{e:α→List AV}{n:Int}{a:AV}{zc:Value}(hA:gL P T0 E 1 bytes)(hS:iP P T0 E 1 [zc])(hx0:e x0=[a])(ha:∀I,aB I a zc)(h0:0≤n)(hb:n≤4294967296)(hby:bytes≤65536){o:Oper}{N:Nat}{ids:List Nat}{env:Env}{σ:Sto}{s:Stp}{ob:Obs}
  (h:msF T0 d E x0 e n ids o.op env σ=some (s,ob)) (he:ob=([.int .i64 n,.int .i64 n],[])):cz ⟨P,N,ids⟩ o env σ s:=by
 cases ho:o.op<;>rw[ho]at h
 case makeSlice T x y=>
  simp only[msF]at h;split at h
  ·rename_i k1 n1 hx;split at h
   ·rename_i k2 n2 hy;cases hc:(Nat.beq T T0&&!ids.contains d&&σ.clean [d].contains)with
    |false=>rw[hc]at h;cases h
    |true=>
     rw[hc]at h;simp only[Bool.and_eq_true,Bool.not_eq_true']at hc;obtain⟨⟨b1,b2⟩,b3⟩:=hc;have:=Nat.eq_of_beq_eq_true b1;subst this;cases h;simp only[Prod.mk.injEq,List.cons.injEq,AV.int.injEq,and_true,true_and]at he;obtain⟨rfl,rfl⟩:=he;rw[List.map_replicate,hx0];exact⟨D.makeSlice ho (Env.aG hx) (Env.aG hy) hA hS ha h0 hb hby b2 b3,by simp only[List.all_cons,List.all_nil,b2];rfl⟩
   ·cases h
  ·cases h
 all_goals (simp only[msF]at h;cases h)
def hms{α:Type}{T0 E bytes:Nat}{a:AV}{zc:Value}(d:Nat)(x0:α)(e:α→List AV)(n:Int)(hA:gL P T0 E 1 bytes)(hS:iP P T0 E 1 [zc])(hx0:e x0=[a])(ha:∀I,aB I a zc)(hn:(decide (0≤n)&&decide (n≤4294967296))=true)(hby:bytes≤65536):Hint P:=
 .gs true ([.int .i64 n,.int .i64 n],[]) (msF T0 d E x0 e n) λ_ _ _ _ _ _ _ h he=>by
  simp only[Bool.and_eq_true,decide_eq_true_eq]at hn;exact anU hA hS hx0 ha hn.1 hn.2 hby h he
def baF(T0:Nat)(zs:List Value)(pl:List (Nat×Nat))(op:Op)(env:Env):Option (Stp×Obs):=match op with
 |.build T parts=>(match env.ru parts.toList with
  |some ps=>(match uQ pl (lq zs) ps with
   |some cs=>bif Nat.beq T T0 then some (.y [] (.agg cs),([],[]))else none
   |none=>none)
  |none=>none)
 |_=>none
theorem anV{T0:Nat}{zs:List Value}{pl:List (Nat×Nat)}(hS:iz P T0 zs pl){o:Oper}{N:Nat}{ids:List Nat}{env:Env}{σ:Sto}{s:Stp}{ob:Obs}(h:baF T0 zs pl o.op env=some (s,ob)):cz ⟨P,N,ids⟩ o env σ s:=by
 cases ho:o.op<;>rw[ho]at h
 case build T parts=>
  simp only[baF]at h;split at h
  ·rename_i ps hp;split at h
   ·rename_i cs hf;cases hc:Nat.beq T T0 with
    |false=>rw[hc]at h;cases h
    |true=>
     rw[hc]at h;have:=Nat.eq_of_beq_eq_true hc;subst this;cases h;exact Z.build ho hS hp hf
   ·cases h
  ·cases h
 all_goals (simp only[baF]at h;cases h)
def hba{T0:Nat}{zs:List Value}{pl:List (Nat×Nat)}(hS:iz P T0 zs pl):Hint P:=.gs false ([],[]) (λ_ op env _=>baF T0 zs pl op env) λ_ _ _ _ _ _ _ h _=>anV hS h
def iaF(T0 N0 sz:Nat)(op:Op)(env:Env):Option (Stp×Obs):=match op with
 |.indexAddr T x y=>(match env.evo x with
  |some (.ptr d off)=>(match env.evo y with
   |some (.int _ i)=>bif Nat.beq T T0&&(decide (0≤i)&&decide (i<(N0:Int)))then some (.y [] (.ptr d (off+i.toNat*sz)),([],[]))else none
   |_=>none)
  |_=>none)
 |_=>none
theorem anW{T0 N0 E sz:Nat}(hu:P.underlying T0=some (.array N0 E))(hs:∀w,(sizeOf E).run P w=.ok sz w){o:Oper}{N:Nat}{ids:List Nat}{env:Env}{σ:Sto}{s:Stp}{ob:Obs}(h:iaF T0 N0 sz o.op env=some (s,ob)):cz ⟨P,N,ids⟩ o env σ s:=by
 cases ho:o.op<;>rw[ho]at h
 case indexAddr T x y=>
  simp only[iaF]at h;split at h
  ·rename_i d off hx;split at h
   ·rename_i k i hy;cases hc:(Nat.beq T T0&&(decide (0≤i)&&decide (i<(N0:Int))))with
    |false=>rw[hc]at h;cases h
    |true=>
     rw[hc]at h;simp only[Bool.and_eq_true,decide_eq_true_eq]at hc;have:=Nat.eq_of_beq_eq_true hc.1;subst this;cases h;exact Y.agi ho (Env.aG hx) (Env.aG hy) hu hs hc.2
   ·cases h
  ·cases h
 all_goals (simp only[iaF]at h;cases h)
def hia{T0 N0 E sz:Nat}(hu:P.underlying T0=some (.array N0 E))(hs:∀w,(sizeOf E).run P w=.ok sz w):Hint P:=.gs false ([],[]) (λ_ op env _=>iaF T0 N0 sz op env) λ_ _ _ _ _ _ _ h _=>anW hu hs h
end
end
section
def encS{α:Type}(T:TypeId)(sz:Nat)(enc:α→List AV)(l:List (List α)):List Rw:=l.map λr=>.sl T sz (r.map enc)
theorem vk{α:Type}{T:TypeId}{sz:Nat}{enc:α→List AV}(l:List (List α))(i:Nat)(r:List α):encS T sz enc (l.set i r)=(encS T sz enc l).set i (.sl T sz (r.map enc)):=by simp[encS,List.map_set]
section weak
variable {G:Gl}{env:Env}{σ:Sto}
theorem aU.acH{α:Type}{d e T n:Nat}(T' sz:Nat)(enc:α→List AV)(hn:0<n)(hd:σ.get d=some (.slice T 1 (List.replicate n [.bI]) 0 false))(he:σ.get e=none)(hi:G.ids.contains e=false)(hc:env.clean [e].contains=true)(hs:σ.clean [e].contains=true):
  aU G env σ env ((e,.bun (encS T' sz enc (List.replicate n [])))::(d,.b8 T e n none)::σ.minus [d]):=λcx I β a w h h'=>by
 have hde:d≠e:=λe'=>by subst e';rw[he]at hd;cases hd
 have hi':e∉G.ids:=by simpa using hi
 let hs0:Array Value:=(List.replicate n (Value.slice none 0 0)).toArray
 refine⟨I,en β e (.tuple hs0),?_,ahT h' hc λy hy=>cc β _ hy⟩;have b2e:en β e (.tuple hs0) e=.tuple hs0:=bO _ _ _;have b2d:en β e (.tuple hs0) d=β d:=cc β _ hde
 have aeR:∀c,c∉bY (Value.tuple hs0):=λc hc=>by
  rw[eY]at hc;obtain⟨u,hu,hub⟩:=List.mem_filterMap.1 hc;have:u=Value.slice none 0 0:=List.eq_of_mem_replicate (by simpa [hs0]using hu);rw[this]at hub;cases hub
 have cls:∀y,y∈[d,e]→∀o,Sto.get ((e,br.bun (encS T' sz enc (List.replicate n [])))::(d,.b8 T e n none)::σ.minus [d]) y=some o→(y=d∧o=.b8 T e n none)∨(y=e∧o=.bun (encS T' sz enc (List.replicate n []))):=λy hy o ho=>by
  rw[tK]at ho;split at ho
  ·rename_i e';exact .inr ⟨e'.symm,(Option.some.inj ho).symm⟩
  ·rename_i n2;split at ho
   ·rename_i e';exact .inl ⟨e'.symm,(Option.some.inj ho).symm⟩
   ·rename_i n1;simp only[List.mem_cons,List.not_mem_nil,or_false]at hy;rcases hy with rfl|rfl
    ·exact absurd rfl n1
    ·exact absurd rfl n2
 have ahY:∀y,y∈[d,e]→y=d∨y=e:=λy hy=>by simpa using hy
 have bun:∀m:Nat,eD cx I w (encS T' sz enc (List.replicate m [])) (List.replicate m (Value.slice none 0 0)):=by
  intro m;induction m with
  |zero=>rfl
  |succ m ih=>
   simp only[List.replicate_succ,encS,List.map_cons,List.map_nil,eD]at ih ⊢;exact⟨_,_,rfl,Or.inl ⟨rfl,rfl⟩,λb (hb:none=some b)=>(by cases hb),ih⟩
 refine h.aeN (M:=[d,e]) (news:=[e]) (λy hy=>?_) (λy hy=>cc β _ (by simpa using hy)) (λy hy=>?_) (λy o _ hyo=>(Sto.cm hs y o hyo).2) (λy hy o hyo=>?_) (λy hy hs2 c hc=>?_) (λy hy z hz hyz hs1 hs2 c hc hc'=>?_)
 ·simp only[List.mem_cons,List.not_mem_nil,or_false,not_or]at hy;rw[tK,if_neg (Ne.symm hy.2),if_neg (Ne.symm hy.1),if_neg (by simp[hy.1])]
 ·simp only[List.mem_singleton]at hy;subst hy;exact⟨by simp,hi'⟩
 ·rcases cls y hy o hyo with⟨rfl,rfl⟩|⟨rfl,rfl⟩
  ·have:=h.bB y _ hd;simp only[aj,b2d,b2e]at this ⊢;rcases this with q|⟨q,q',_⟩|⟨b,cap,arr,q1,q2,q3,q4,q5,q6,q7,q8,q9,q10,q11⟩
   ·exact .inl q
   ·
    have:n=0:=by simpa using q'
    omega
   ·refine .inr ⟨b,cap,arr,hs0,by simpa using q1,by simpa using q2,q3,q4,by simpa using q5,rfl,by simp[hs0],?_,λo=>q10 o (by omega),q11⟩;have:∀(m:Nat) (l:List Value),aS I (List.replicate m [AV.bI]).flatten l→l=List.replicate m (Value.slice none 0 0):=by
     intro m;induction m with
     |zero=>intro l hl;simpa [aS]using hl
     |succ m ih=>
      intro l hl;simp only[List.replicate_succ,List.flatten_cons,List.singleton_append,aS,aB]at hl;obtain⟨u,us,rfl,rfl,hl⟩:=hl;rw[ih us hl,List.replicate_succ]
    have:=this n _ (by simpa using q6);show arr.toList.take n=hs0.toList;rw[this]
  ·simp only[aj,b2e];exact .inr ⟨hs0,rfl,by simpa [hs0]using bun n⟩
 ·rcases ahY y hy with rfl|rfl
  ·rw[b2d]at hc;exact⟨y,by simp,by rw[hd];rfl,hc⟩
  ·rw[b2e]at hc;exact absurd hc (aeR c)
 ·rcases ahY y hy with rfl|rfl
  ·rcases ahY z hz with rfl|rfl
   ·exact hyz rfl
   ·rw[b2e]at hc';exact absurd hc' (aeR c)
  ·rw[b2e]at hc;exact absurd hc (aeR c)
theorem aU.zV{α:Type}{T' sz T d e e2 t n i:Nat}{fz:Bool}(l:List (List α))(enc:α→List AV)(row:List α)
  (hd:σ.get d=some (.b8 T e n (some (some i,t)))) (he:σ.get e=some (.bun (encS T' sz enc (l.set i [])))) (ht:σ.get t=some (.slice T' sz (row.map enc) 0 fz))
  (he2:σ.get e2=none) (hei:G.ids.contains e2=false) (hc:env.clean [e2].contains=true) (hs:σ.clean [e2].contains=true) :
  aU G env σ env ((e2,.bun (encS T' sz enc (l.set i row)))::(d,.b8 T e2 n none)::σ.minus [d,e,t]):=λcx I β a w h h'=>by
 obtain⟨β2,h1,h2⟩:=h.back hd rfl he ht he2 (by simpa using hei) hs;refine⟨I,β2,?_,ahT h' hc h1⟩;have e1:(encS T' sz enc (l.set i [])).set i (.sl T' sz (row.map enc))=encS T' sz enc (l.set i row):=by rw[←vk,List.set_set]
 rw[e1]at h2;exact h2
theorem aU.anX{α:Type}{T' sz T d e e2 t n:Nat}{i:Int}{fz:Bool}{row:List α}(l:List (List α))(enc:α→List AV)(hi:elO l i=some row)
  (hd:σ.get d=some (.b8 T e n (some (some i.toNat,t)))) (he:σ.get e=some (.bun (encS T' sz enc (l.set i.toNat [])))) (ht:σ.get t=some (.slice T' sz (row.map enc) 0 fz))
  (he2:σ.get e2=none) (hei:G.ids.contains e2=false) (hc:env.clean [e2].contains=true) (hs:σ.clean [e2].contains=true) :
  aU G env σ env ((e2,.bun (encS T' sz enc l))::(d,.b8 T e2 n none)::σ.minus [d,e,t]):=by
 have h:=aU.zV l enc row hd he ht he2 hei hc hs;have e1:l.set i.toNat row=l:=by
  unfold elO at hi;split at hi
  ·apply List.ext_getElem?;intro j;rw[List.getElem?_set];split
   ·rename_i hj;subst hj;rw[if_pos (List.getElem?_eq_some_iff.1 hi).1,hi]
   ·rfl
  ·cases hi
 rwa [e1]at h
end weak
section
variable {G:Gl}{σ:Sto}{o:Oper}{ev:Operand→AV}
theorem sj{cx:Cx}{I:Imm}{β:Nat→Value}{w:World}(hw:aX G cx I β σ w){d e T n:Nat}{hole:Option (Option Nat×Nat)}{els:List Rw}(hd:σ.get d=some (.b8 T e n hole))(he:σ.get e=some (.bun els))(hn:β d≠.nilFunc):
  ∃b cap arr,∃hs:Array Value,β d=.slice (some ⟨b,0,none⟩) n cap∧n≤cap∧cap≤maxLen∧w.heap[b]?=some (.cells arr T (0,0))∧arr.size=cap∧β e=.tuple hs∧hs.size=n∧eW β hs.toList (arr.toList.take n) hole∧(∀o:Nat,I b o=none)∧Place cx b∧eD cx I w els hs.toList∧els.length=n:=by
 have ho:=hw.bB d _ hd;simp only[aj,hn,false_or]at ho;obtain⟨b,cap,arr,hs,q1,q2,q3,q4,q5,q6,q7,q8,q9,q10⟩:=ho;have hbu:=hw.bB e _ he;simp only[aj,q6,Value.tuple.injEq,reduceCtorEq,false_or]at hbu;obtain⟨hs',rfl,hb⟩:=hbu;exact⟨b,cap,arr,hs,q1,q2,q3,q4,q5,q6,q7,q8,q9,q10,hb,by have:=hb.length;simp at this;omega⟩
theorem Y.alz{T E d e T0 n:Nat}{hole:Option (Option Nat×Nat)}{els:List Rw}{x y:Operand}{k:IntKind}{i:Int}(h:o.op=.indexAddr T x y)(hx:ev x=.own d)(hy:ev y=.int k i)(hd:σ.get d=some (.b8 T0 e n hole))(he:σ.get e=some (.bun els))(hT:SlS G.P T E 1)
  (hi:0≤i∧i<els.length):Yields G o ev σ [] [d,e] (.ptr d i.toNat):=
 .pure λσ' cx I β w ρ hR hw hop=>by
  have h1:=hop x (by simp[h,Op.operands]);rw[hx]at h1
  have h2:=hop y (by simp[h,Op.operands]);rw[hy]at h2;have h2:=de h2
  simp only[Rep]at h1;obtain⟨h1,hs⟩:=h1;have hdn:β d≠.nilFunc:=λe=>by rw[h1,e]at hs;simp[fP]at hs
  obtain⟨b,cap,arr,hs',q1,q2,q3,q4,q5,q6,q7,q8,q9,q10,q11,q12⟩:=sj hw (by rw[hR d (by simp)];exact hd) (by rw[hR e (by simp)];exact he) hdn;refine⟨.pointer (some ⟨b,i.toNat,none⟩),?_,by simp only[Rep];exact⟨b,by rw[q1];rfl,rfl⟩⟩;have e1:∀w,(underlying T).run G.P w=.ok (.slice E) w:=λw=>by simp[underlying,program,Sem.run,hT.und]
  rw[q1]at h1;have hi':0≤i∧i<(n:Int):=by omega
  simp[execOp,h,h1,h2,Instr.indexAt,asIntOf,e1,hi',hT.size,dY]
theorem Y.art{T d e T0 n:Nat}{hole:Option (Option Nat×Nat)}{els:List Rw}{x:Operand}{kk}(h:o.op=.call ⟨.builtin .len,#[x],kk⟩)(hk:kk=#[T])(hx:ev x=.own d)(hd:σ.get d=some (.b8 T0 e n hole))(he:σ.get e=some (.bun els)){E:Nat}(hT:G.P.underlying T=some (.slice E)):
  Yields G o ev σ [] [d,e] (.int .i64 (els.length:Int)):=
 .pure λσ' cx I β w ρ hR hw hop=>by
  subst hk;have h1:=hop x (by simp[h,Op.operands,Call.operands]);rw[hx]at h1
  simp only[Rep]at h1;obtain⟨h1,hs⟩:=h1;have hdn:β d≠.nilFunc:=λe=>by rw[h1,e]at hs;simp[fP]at hs
  obtain⟨b,cap,arr,hs',q1,q2,q3,q4,q5,q6,q7,q8,q9,q10,q11,q12⟩:=sj hw (by rw[hR d (by simp)];exact hd) (by rw[hR e (by simp)];exact he) hdn;rw[q1]at h1;have e1:∀w,(underlying T).run G.P w=.ok (.slice E) w:=λw=>by simp[underlying,program,Sem.run,hT]
  exact⟨.int .i64 n,by simp[execOp,h,resolve,invoke,builtin,Builtin.len_,h1,e1,goInt],by simp[Rep,aB,q12]⟩
theorem D.anY{α:Type}{T d e e2 t p T0 n T' sz:Nat}{x:Operand}(l:List (List α))(enc:α→List AV)(row:List α)(h:o.op=.load T x)(hx:ev x=.ptr d p)(hd:σ.get d=some (.b8 T0 e n none))(he:σ.get e=some (.bun (encS T' sz enc l)))(hrow:l[p]?=some row)(hT:TyS G.P T 1 false)
  (ht:σ.get t=none) (he2:σ.get e2=none) (hte:t≠e2) (hti:G.ids.contains t=false) (hei:G.ids.contains e2=false) (hcl:σ.clean [t,e2].contains=true) :
  dU G o ev σ [d,e,e2,t] [t,e2] (λr σ'=>r=.own t∧σ'=(t,.slice T' sz (row.map enc) 0 false)::(e2,.bun (encS T' sz enc (l.set p [])))::(d,.b8 T0 e2 n (some (some p,t)))::σ.minus [d,e]):=by
 intro cx I β w ρ hw hop;have h1:=hop x (by simp[h,Op.operands]);rw[hx]at h1
 simp only[Rep]at h1;obtain⟨b,h1,h2⟩:=h1;have hdn:β d≠.nilFunc:=λe=>by rw[e]at h1;cases h1
 obtain⟨b',cap,arr,hs,q1,q2,q3,q4,q5,q6,q7,q8,q9,q10,q11,q12⟩:=sj hw hd he hdn;have hbb:b'=b:=by rw[q1]at h1;simpa [blk]using h1
 subst hbb;have hp:p<l.length:=(List.getElem?_eq_some_iff.1 hrow).1;have hln:l.length=n:=by simpa [encS]using q12
 have hr:(encS T' sz enc l)[p]?=some (.sl T' sz (row.map enc)):=by simp[encS,hrow]
 obtain⟨hs2,g1,v2,g2,g3,g4⟩:=hw.take hd rfl he hr hdn ht he2 hte (by simpa using hti) (by simpa using hei) hcl;rw[q6]at g1;cases g1
 have jT:arr[p]?=some v2:=by
  have:(arr.toList.take n)[p]?=hs.toList[p]?:=by rw[show arr.toList.take n=hs.toList from q8]
  rw[List.getElem?_take,if_pos (by omega)]at this;have e:hs.toList[p]?=some v2:=by simpa using g2
  rw[e]at this;simpa using this
 have hcell:∀j,j<1→∃v,[v2][j]?=some v∧w.cell? ⟨b',p+j,none⟩=some v:=λj hj=>by
  have:j=0:=by omega
  subst this;exact⟨v2,rfl,by simp[World.cell?,q4,jT]⟩
 have hl:=iy hT (vs:=[v2]) hcell (λ_=>by omega);have hrun:(execOp ρ o).run G.P w=.ok (.value v2) w:=by
  simp[execOp,h,h2,Instr.loadAt,Instr.sureAddr,hl]
 rw[hrun];refine⟨.own t,_,I,λy=>if y=t then v2 else if y=e2 then .tuple (hs.setIfInBounds p (.slice none 0 0))else β y,⟨rfl,rfl⟩,?_,?_,aQ.refl I,λy hy=>?_,λy hy=>?_⟩
 ·simp only[Rep,if_true];refine⟨trivial,?_⟩;rcases g3 with⟨q,_⟩|⟨b,cap,arr,q,_⟩<;>rw[q]<;>rfl
 ·rw[vk];exact g4
 ·simp only[List.mem_cons,List.not_mem_nil,or_false,not_or]at hy;simp only[if_neg hy.1,if_neg hy.2]
 ·simp only[List.mem_cons,List.not_mem_nil,or_false,not_or]at hy;rw[acD,if_neg (Ne.symm hy.2.2.2),if_neg (Ne.symm hy.2.2.1),if_neg (Ne.symm hy.1),if_neg (by simp[hy.1,hy.2.1])]
theorem D.alA{α:Type}{T d e e2 j p T0 n T' sz:Nat}{fz:Bool}{x y:Operand}(l:List (List α))(enc:α→List AV)(row:List α)(h:o.op=.store T x y)(hx:ev x=.ptr d p)(hy:ev y=.own j)(hj:σ.get j=some (.slice T' sz (row.map enc) 0 fz))(hd:σ.get d=some (.b8 T0 e n none))(he:σ.get e=some (.bun (encS T' sz enc l)))(hp:p<l.length)(hT:TyS G.P T 1 false)
  (he2:σ.get e2=none) (hei:G.ids.contains e2=false) (hcl:σ.clean [e2].contains=true) :
  dU G o ev σ [d,e,e2,j] [e2] (λr σ'=>r=.undef∧σ'=(e2,.bun (encS T' sz enc (l.set p row)))::(d,.b8 T0 e2 n none)::σ.minus [d,e,j]):=by
 intro cx I β w ρ hw hop;have h1:=hop x (by simp[h,Op.operands]);rw[hx]at h1
 have h3:=hop y (by simp[h,Op.operands]);rw[hy]at h3
 simp only[Rep]at h1 h3;obtain⟨b,h1,h2⟩:=h1;obtain⟨h3,h3s⟩:=h3;have hdn:β d≠.nilFunc:=λe=>by rw[e]at h1;cases h1
 obtain⟨b',cap,arr,hs,q1,q2,q3,q4,q5,q6,q7,q8,q9,q10,q11,q12⟩:=sj hw hd he hdn;have hbb:b'=b:=by rw[q1]at h1;simpa [blk]using h1
 subst hbb;have hln:l.length=n:=by simpa [encS]using q12
 have hrow:=ia.of_slice (hw.bB j _ hj) λe=>(by rw[h3,e]at h3s;cases h3s);have ahS:e2∉G.ids:=by simpa using hei
 have hds:(σ.get d).isSome:=by rw[hd];rfl
 have hes:(σ.get e).isSome:=by rw[he];rfl
 have hjs:(σ.get j).isSome:=by rw[hj];rfl
 have hde:d≠e:=λe'=>by subst e';rw[hd]at he;cases he
 have hdj:d≠j:=λe'=>by subst e';rw[hd]at hj;cases hj
 have hej:e≠j:=λe'=>by subst e';rw[he]at hj;cases hj
 have hne:∀y,(σ.get y).isSome→y≠e2:=λy hy e=>by subst e;rw[he2]at hy;cases hy
 have hbd:b'∈bY (β d):=cR h1;have hone:(β j).oneCell'=true∧(β j).cells=#[β j]:=by
  rcases hrow with⟨q,_⟩|⟨c,cp,ar,q,_⟩<;>rw[q]<;>exact⟨rfl,rfl⟩
 have hst:=kg (P:=G.P) q4 [β j] (off:=p) (by simp;omega) (λv hv=>by rw[List.mem_singleton.1 hv];exact hone.1);have hrun:(execOp ρ o).run G.P w=.ok .skip (w.setRow b' (cG arr.toList p [β j]).toArray):=by
  have e1:((#[β j]:Array Value).size≠1)=False:=by simp
  simp[execOp,h,h2,h3,Instr.storeAt,Instr.sureAddr,storeVar,hT.size,hone.2,hst]
 rw[hrun]
 let hs':Array Value:=hs.setIfInBounds p (β j)
 have hsl:hs'.toList=hs.toList.set p (β j):=by simp[hs']
 have ahZ:eD cx I w (encS T' sz enc (l.set p row)) hs'.toList:=by
  rw[hsl,vk];refine q11.set hrow λi u c _ hiu hbz hbu=>?_;refine hw.bQ e j hes hjs hej c ?_ (cR hbz);rw[q6,eY];exact List.mem_filterMap.2 ⟨u,List.mem_of_getElem? hiu,hbu⟩
 have hsub:∀c∈hs'.toList.filterMap blk,c∈bY (β e)∨c∈bY (β j):=λc hc=>by
  rw[hsl]at hc;rcases qA hc with hc|hc
  ·exact .inl (by rw[q6,eY];exact hc)
  ·exact .inr (cR hc)
 have hrn:∀c∈hs'.toList.filterMap blk,c≠b':=λc hc e'=>by
  subst e';rcases hsub c hc with q|q
  ·exact hw.bQ d e hds hes hde c hbd q
  ·exact hw.bQ d j hds hjs hdj c hbd q
 have hk:Kept w (w.setRow b' (cG arr.toList p [β j]).toArray) b':=Kept.setRow w b' _;have hb2:∀y,y≠e2→(λy=>if y=e2 then(Value.tuple hs')else β y) y=β y:=λy hy=>if_neg hy;have nU:(λy=>if y=e2 then(Value.tuple hs')else β y) e2=.tuple hs':=if_pos rfl
 have hmin:∀y,y∉[d,e,e2,j]→Sto.get ((e2,.bun (encS T' sz enc (l.set p row)))::(d,.b8 T0 e2 n none)::σ.minus [d,e,j]) y=σ.get y:=λy hy=>by
  simp only[List.mem_cons,List.not_mem_nil,or_false,not_or]at hy;rw[tK,if_neg (Ne.symm hy.2.2.1),if_neg (Ne.symm hy.1),if_neg (by simp[hy.1,hy.2.1,hy.2.2.2])]
 generalize (λy=>if y=e2 then(Value.tuple hs')else β y)=β2 at hb2 nU;have b2d:β2 d=β d:=hb2 d (hne d hds)
 have cls:∀y,y∈[d,e,e2,j]→∀o,Sto.get ((e2,.bun (encS T' sz enc (l.set p row)))::(d,.b8 T0 e2 n none)::σ.minus [d,e,j]) y=some o→(y=d∧o=.b8 T0 e2 n none)∨(y=e2∧o=.bun (encS T' sz enc (l.set p row))):=λy hy o ho=>by
  rw[tK]at ho;split at ho
  ·rename_i e';exact .inr ⟨e'.symm,(Option.some.inj ho).symm⟩
  ·rename_i n2;split at ho
   ·rename_i e';exact .inl ⟨e'.symm,(Option.some.inj ho).symm⟩
   ·split at ho
    ·cases ho
    ·rename_i n1 n3;simp only[List.mem_cons,List.not_mem_nil,or_false,not_or]at hy n3;rcases hy with rfl|rfl|rfl|rfl
     ·exact absurd rfl n1
     ·exact absurd rfl n3.2.1
     ·exact absurd rfl n2
     ·exact absurd rfl n3.2.2
 have cls':∀y,y∈[d,e,e2,j]→(Sto.get ((e2,.bun (encS T' sz enc (l.set p row)))::(d,.b8 T0 e2 n none)::σ.minus [d,e,j]) y).isSome→y=d∨y=e2:=λy hy hs=>by
  obtain⟨o,ho⟩:=Option.isSome_iff_exists.1 hs;rcases cls y hy o ho with q|q
  ·exact .inl q.1
  ·exact .inr q.1
 have sep:∀c,c∈bY (β2 d)→c∉bY (β2 e2):=λc hc hc'=>by
  rw[b2d,q1]at hc;have:c=b':=by simpa [bY,blk]using hc
  exact hrn c (by rw[nU]at hc';exact hc') this
 refine⟨.undef,_,I,β2,⟨rfl,rfl⟩,by simp[Rep,aB],?_,aQ.refl I,λy hy=>hb2 y (by simpa using hy),λy hy=>hmin y hy⟩;refine hw.redo (M:=[d,e,e2,j]) (news:=[e2]) (b:=b') (β2:=β2) hk (λo=>?_) (λy hy hs e'=>?_) q10 (λy hy=>hmin y hy) (λy hy=>hb2 y (by simpa using hy)) (λy hy=>?_) (λy o _ hyo=>(Sto.cm hcl y o hyo).2) (λy hy o hyo=>?_) (λy hy hs2 c hc=>?_) (λy hy z hz hyz hs1 hs2 c hc hc'=>?_)
 ·cases o with
  |none=>exact hw.gN q4
  |some o=>exact q9 o
 ·exact hw.bQ d y hds hs (λe=>hy (by simp[e])) b' hbd e'
 ·simp only[List.mem_singleton]at hy;subst hy;exact⟨by simp,ahS⟩
 ·rcases cls y hy o hyo with⟨rfl,rfl⟩|⟨rfl,rfl⟩
  ·simp only[aj,b2d,nU];refine .inr ⟨b',cap,_,hs',q1,q2,q3,setRow_heap w b' arr _ T0 _ q4,by simp only[cG,List.size_toArray,List.length_append,List.length_take,List.length_drop,List.length_singleton,Array.length_toList];omega,rfl,by simp[hs',q7],?_,q9,q10⟩;show(cG arr.toList p [β j]).take n=hs'.toList;rw[hsl,←show arr.toList.take n=hs.toList from q8];apply List.ext_getElem?;intro i;have hpa:p<arr.toList.length:=by simp;omega
   rw[List.getElem?_take,List.getElem?_set,List.getElem?_take];simp only[cG,List.length_singleton];by_cases hin:i<n
   ·rw[if_pos hin,if_pos hin];by_cases hip:p=i
    ·subst hip;rw[if_pos rfl,if_pos (by simp;omega),List.append_assoc,List.getElem?_append_right (by simp;omega),List.length_take,Nat.min_eq_left (by omega)];simp
    ·rw[if_neg hip];by_cases hlt:i<p
     ·rw[List.append_assoc,List.getElem?_append_left (by simp;omega),List.getElem?_take,if_pos hlt]
     ·rw[List.getElem?_append_right (by simp;omega),List.getElem?_drop];congr 1;simp only[List.length_append,List.length_take,List.length_singleton];omega
   ·rw[if_neg hin,if_neg hin];by_cases hip:p=i
    ·omega
    ·rw[if_neg hip]
  ·simp only[aj];exact .inr ⟨hs',nU,ahZ.go (aQ.refl I) λc hc=>⟨λhlt=>hk.block c (hrn c hc) hlt,λ_=>rfl,id⟩⟩
 ·rcases cls' y hy hs2 with rfl|rfl
  ·rw[b2d]at hc;exact⟨y,by simp,hds,hc⟩
  ·rw[nU]at hc;rcases hsub c hc with q|q
   ·exact⟨e,by simp,hes,q⟩
   ·exact⟨j,by simp,hjs,q⟩
 ·rcases cls' y hy hs1 with rfl|rfl<;>rcases cls' z hz hs2 with rfl|rfl
  ·exact hyz rfl
  ·exact sep c hc hc'
  ·exact sep c hc' hc
  ·exact hyz rfl
end
end
section
section
variable {P:Program}
def ioF(T0:Nat)(op:Op)(env:Env)(σ:Sto):Option (Stp×Obs):=match op with
 |.indexAddr T x y=>(match env.evo x with
  |some (.own d)=>(match env.evo y with
   |some (.int k i)=>(match σ.get d with
    |some (.b8 T1 e n hole)=>(match σ.get e with
     |some (.bun els)=>bif Nat.beq T T0 then some (.y [d,e] (.ptr d i.toNat),([.int .i64 i],[(0,.bun els)]))else none
     |_=>none)
    |_=>none)
   |_=>none)
  |_=>none)
 |_=>none
theorem anZ{α:Type}{T0 E T' sz:Nat}{enc:α→List AV}{l:List (List α)}{i:Int}{row:List α}(hT:SlS P T0 E 1)(hi:elO l i=some row){o:Oper}{N:Nat}{ids:List Nat}{env:Env}{σ:Sto}{s:Stp}{ob:Obs}
  (h:ioF T0 o.op env σ=some (s,ob)) (he:ob=([.int .i64 i],[(0,.bun (encS T' sz enc l))])):cz ⟨P,N,ids⟩ o env σ s:=by
 cases ho:o.op<;>rw[ho]at h
 case indexAddr T x y=>
  simp only[ioF]at h;split at h
  ·rename_i d hx;split at h
   ·rename_i k i' hy;split at h
    ·rename_i T1 e n hole hd;split at h
     ·rename_i els hb;cases hc:Nat.beq T T0 with
      |false=>rw[hc]at h;cases h
      |true=>
       rw[hc]at h;have:=Nat.eq_of_beq_eq_true hc;subst this;cases h;simp only[Prod.mk.injEq,List.cons.injEq,AV.int.injEq,br.bun.injEq,and_true,true_and]at he;obtain⟨rfl,rfl⟩:=he;refine Y.alz ho (Env.aG hx) (Env.aG hy) hd hb hT ?_;unfold elO at hi;split at hi
       ·rename_i h0;have:=(List.getElem?_eq_some_iff.1 hi).1;simp only[encS,List.length_map];omega
       ·cases hi
     ·cases h
    ·cases h
   ·cases h
  ·cases h
 all_goals (simp only[ioF]at h;cases h)
def hio{α:Type}{T0 E:Nat}{l:List (List α)}{i:Int}{row:List α}(T' sz:Nat)(enc:α→List AV)(hT:SlS P T0 E 1)(hi:elO l i=some row):Hint P:=
 .gs false ([.int .i64 i],[(0,.bun (encS T' sz enc l))]) (λ_=>ioF T0) λ_ _ _ _ _ _ _ h he=>anZ hT hi h he
def noF(T0:Nat)(n:Int)(op:Op)(env:Env)(σ:Sto):Option (Stp×Obs):=match op with
 |.call c=>(match c.callee with
  |.builtin b=>(match b with
   |.len=>(match c.args.toList with
    |[x]=>(match c.argTypes.toList with
     |[T]=>(match env.evo x with
      |some (.own d)=>(match σ.get d with
       |some (.b8 T1 e m hole)=>(match σ.get e with
        |some (.bun els)=>bif Nat.beq T T0 then some (.y [d,e] (.int .i64 n),([],[(0,.bun els)]))else none
        |_=>none)
       |_=>none)
      |_=>none)
     |_=>none)
    |_=>none)
   |_=>none)
  |_=>none)
 |_=>none
theorem an0{α:Type}{T0 E T' sz:Nat}{enc:α→List AV}{l:List (List α)}(hT:SlS P T0 E 1){o:Oper}{N:Nat}{ids:List Nat}{env:Env}{σ:Sto}{s:Stp}{ob:Obs}
  (h:noF T0 (l.length:Int) o.op env σ=some (s,ob)) (he:ob=([],[(0,.bun (encS T' sz enc l))])):cz ⟨P,N,ids⟩ o env σ s:=by
 cases ho:o.op<;>rw[ho]at h
 case call c=>
  obtain⟨cl,args,tys⟩:=c;simp only[noF]at h;split at h
  ·rename_i b;split at h
   ·split at h
    ·rename_i x hargs;have:args=#[x]:=Array.toList_inj.1 (by simpa using hargs);subst this;split at h
     ·rename_i T acG;have:tys=#[T]:=Array.toList_inj.1 (by simpa using acG);subst this;split at h
      ·rename_i d hx;split at h
       ·rename_i T1 e m hole hd;split at h
        ·rename_i els hb;cases hc:Nat.beq T T0 with
         |false=>rw[hc]at h;cases h
         |true=>
          rw[hc]at h;have:=Nat.eq_of_beq_eq_true hc;subst this;cases h;simp only[Prod.mk.injEq,List.cons.injEq,br.bun.injEq,and_true,true_and]at he;subst he;have:=Y.art (G:=⟨P,N,ids⟩) ho rfl (Env.aG hx) hd hb hT.und;rw[show(encS T' sz enc l).length=l.length by simp[encS]]at this;exact this
        ·cases h
       ·cases h
      ·cases h
     ·cases h
    ·cases h
   ·cases h
  ·cases h
 all_goals (simp only[noF]at h;cases h)
def hno{α:Type}{T0 E:Nat}(T' sz:Nat)(enc:α→List AV)(l:List (List α))(hT:SlS P T0 E 1):Hint P:=
 .gs false ([],[(0,.bun (encS T' sz enc l))]) (λ_=>noF T0 (l.length:Int)) λ_ _ _ _ _ _ _ h he=>an0 hT h he
def loF{α:Type}(T0 T' sz e2 t p:Nat)(l:List (List α))(row:List α)(enc:α→List AV)(ids:List Nat)(op:Op)(env:Env)(σ:Sto):Option (Stp×Obs):=match op with
 |.load T x=>(match env.evo x with
  |some (.ptr d p')=>(match σ.get d with
   |some (.b8 T1 e n none)=>(match σ.get e with
    |some (.bun els)=>bif Nat.beq T T0&&(σ.get t).isNone&&(σ.get e2).isNone&&!Nat.beq t e2&&!ids.contains t&&!ids.contains e2&&σ.clean [t,e2].contains then
      some (.e [d,e,e2,t] [t,e2] (.own t) ((t,.slice T' sz (row.map enc) 0 false)::(e2,.bun (encS T' sz enc (l.set p [])))::(d,.b8 T1 e2 n (some (some p,t)))::σ.minus [d,e]),([.ptr 0 p'],[(1,.bun els)]))else none
    |_=>none)
   |_=>none)
  |_=>none)
 |_=>none
theorem an1{α:Type}{T0 T' sz e2 t:Nat}{l:List (List α)}{i:Int}{row:List α}{enc:α→List AV}(hT:TyS P T0 1 false)(hi:elO l i=some row){o:Oper}{N:Nat}{ids:List Nat}{env:Env}{σ:Sto}{s:Stp}{ob:Obs}
  (h:loF T0 T' sz e2 t i.toNat l row enc ids o.op env σ=some (s,ob)) (he:ob=([.ptr 0 i.toNat],[(1,.bun (encS T' sz enc l))])):cz ⟨P,N,ids⟩ o env σ s:=by
 cases ho:o.op<;>rw[ho]at h
 case load T x=>
  simp only[loF]at h;split at h
  ·rename_i d p' hx;split at h
   ·rename_i T1 e n hd;split at h
    ·rename_i els hb;generalize hc:(Nat.beq T T0&&_&&_&&_&&_&&_&&_)=bb at h;cases bb with
     |false=>cases h
     |true=>
      simp only[Bool.and_eq_true,Bool.not_eq_true']at hc;obtain⟨⟨⟨⟨⟨⟨c1,c2⟩,c3⟩,c4⟩,c5⟩,c6⟩,c7⟩:=hc;have:=Nat.eq_of_beq_eq_true c1;subst this;cases h;simp only[Prod.mk.injEq,List.cons.injEq,AV.ptr.injEq,br.bun.injEq,and_true,true_and]at he;obtain⟨rfl,rfl⟩:=he;have hrow:l[i.toNat]?=some row:=by
       unfold elO at hi;split at hi
       ·exact hi
       ·cases hi
      refine⟨D.anY l enc row ho (Env.aG hx) hd hb hrow hT (by simpa using c2) (by simpa using c3) (λe=>?_) c5 c6 c7,?_⟩
      ·subst e;rw[Nat.beq_refl]at c4;cases c4
      ·simp only[List.all_cons,List.all_nil,c5,c6];rfl
    ·cases h
   ·cases h
  ·cases h
 all_goals (simp only[loF]at h;cases h)
def hlS{α:Type}{T0:Nat}{l:List (List α)}{i:Int}{row:List α}(T' sz e2 t:Nat)(enc:α→List AV)(hT:TyS P T0 1 false)(hi:elO l i=some row):Hint P:=
 .gs true ([.ptr 0 i.toNat],[(1,.bun (encS T' sz enc l))]) (loF T0 T' sz e2 t i.toNat l row enc) λ_ _ _ _ _ _ _ h he=>an1 hT hi h he
def soF{α:Type}(T0 T' sz e2 p:Nat)(l:List (List α))(row:List α)(enc:α→List AV)(ids:List Nat)(op:Op)(env:Env)(σ:Sto):Option (Stp×Obs):=match op with
 |.store T x y=>(match env.evo x with
  |some (.ptr d p')=>(match env.evo y with
   |some (.own j)=>(match σ.get j with
    |some (.slice T2 sz2 xs 0 _)=>(match σ.get d with
     |some (.b8 T1 e n none)=>(match σ.get e with
      |some (.bun els)=>bif Nat.beq T T0&&Nat.beq T2 T'&&Nat.beq sz2 sz&&(σ.get e2).isNone&&!ids.contains e2&&σ.clean [e2].contains then
        some (.e [d,e,e2,j] [e2] .undef ((e2,.bun (encS T' sz enc (l.set p row)))::(d,.b8 T1 e2 n none)::σ.minus [d,e,j]),([.ptr 0 p',.lst false xs],[(1,.bun els)]))else none
      |_=>none)
     |_=>none)
    |_=>none)
   |_=>none)
  |_=>none)
 |_=>none
theorem an2{α:Type}{T0 T' sz e2:Nat}{l:List (List α)}{i:Int}{ah0 row:List α}{enc:α→List AV}(hT:TyS P T0 1 false)(hi:elO l i=some ah0){o:Oper}{N:Nat}{ids:List Nat}{env:Env}{σ:Sto}{s:Stp}{ob:Obs}
  (h:soF T0 T' sz e2 i.toNat l row enc ids o.op env σ=some (s,ob)) (he:ob=([.ptr 0 i.toNat,.lst false (row.map enc)],[(1,.bun (encS T' sz enc l))])):cz ⟨P,N,ids⟩ o env σ s:=by
 cases ho:o.op<;>rw[ho]at h
 case store T x y=>
  simp only[soF]at h;split at h
  ·rename_i d p' hx;split at h
   ·rename_i j hy;split at h
    ·rename_i T2 sz2 xs fz hj;split at h
     ·rename_i T1 e n hd;split at h
      ·rename_i els hb;generalize hc:(Nat.beq T T0&&_&&_&&_&&_&&_)=bb at h;cases bb with
       |false=>cases h
       |true=>
        simp only[Bool.and_eq_true,Bool.not_eq_true']at hc;obtain⟨⟨⟨⟨⟨c1,c2⟩,c3⟩,c4⟩,c5⟩,c6⟩:=hc;have:=Nat.eq_of_beq_eq_true c1;subst this;have:=Nat.eq_of_beq_eq_true c2;subst this;have:=Nat.eq_of_beq_eq_true c3;subst this;cases h;simp only[Prod.mk.injEq,List.cons.injEq,AV.ptr.injEq,AV.lst.injEq,br.bun.injEq,and_true,true_and]at he;obtain⟨⟨rfl,rfl⟩,rfl⟩:=he;have hp:i.toNat<l.length:=by
         unfold elO at hi;split at hi
         ·exact(List.getElem?_eq_some_iff.1 hi).1
         ·cases hi
        exact⟨D.alA (fz:=fz) l enc row ho (Env.aG hx) (Env.aG hy) hj hd hb hp hT (by simpa using c4) c5 c6,by simp only[List.all_cons,List.all_nil,c5];rfl⟩
      ·cases h
     ·cases h
    ·cases h
   ·cases h
  ·cases h
 all_goals (simp only[soF]at h;cases h)
def hsS{α:Type}{T0:Nat}{l:List (List α)}{i:Int}{ah0:List α}(T' sz e2:Nat)(enc:α→List AV)(row:List α)(hT:TyS P T0 1 false)(hi:elO l i=some ah0):Hint P:=
 .gs true ([.ptr 0 i.toNat,.lst false (row.map enc)],[(1,.bun (encS T' sz enc l))]) (soF T0 T' sz e2 i.toNat l row enc) λ_ _ _ _ _ _ _ h he=>an2 hT hi h he
def mrF(T0 d E:Nat)(n:Int)(ids:List Nat)(op:Op)(env:Env)(σ:Sto):Option (Stp×Obs):=match op with
 |.makeSlice T x y=>(match env.evo x with
  |some (.int _ n1)=>(match env.evo y with
   |some (.int _ n2)=>bif Nat.beq T T0&&!ids.contains d&&σ.clean [d].contains then some (.e [d] [d] (.own d) ((d,.slice E 1 (List.replicate n.toNat [.bI]) 0 false)::σ),([.int .i64 n1,.int .i64 n2],[]))else none
   |_=>none)
  |_=>none)
 |_=>none
theorem an3{T0 E bytes d:Nat}{n:Int}(hA:gL P T0 E 1 bytes)(hS:iP P T0 E 1 [.slice none 0 0])(h0:0≤n)(hb:n≤4294967296)(hby:bytes≤65536){o:Oper}{N:Nat}{ids:List Nat}{env:Env}{σ:Sto}{s:Stp}{ob:Obs}
  (h:mrF T0 d E n ids o.op env σ=some (s,ob)) (he:ob=([.int .i64 n,.int .i64 n],[])):cz ⟨P,N,ids⟩ o env σ s:=by
 cases ho:o.op<;>rw[ho]at h
 case makeSlice T x y=>
  simp only[mrF]at h;split at h
  ·rename_i k1 n1 hx;split at h
   ·rename_i k2 n2 hy;cases hc:(Nat.beq T T0&&!ids.contains d&&σ.clean [d].contains)with
    |false=>rw[hc]at h;cases h
    |true=>
     rw[hc]at h;simp only[Bool.and_eq_true,Bool.not_eq_true']at hc;obtain⟨⟨b1,b2⟩,b3⟩:=hc;have:=Nat.eq_of_beq_eq_true b1;subst this;cases h;simp only[Prod.mk.injEq,List.cons.injEq,AV.int.injEq,and_true,true_and]at he;obtain⟨rfl,rfl⟩:=he;exact⟨D.makeSlice ho (Env.aG hx) (Env.aG hy) hA hS (λI=>by simp[aB]) h0 hb hby b2 b3,by simp only[List.all_cons,List.all_nil,b2];rfl⟩
   ·cases h
  ·cases h
 all_goals (simp only[mrF]at h;cases h)
def hmr{T0 E bytes:Nat}(d:Nat)(n:Int)(hA:gL P T0 E 1 bytes)(hS:iP P T0 E 1 [.slice none 0 0])(hn:(decide (0<n)&&decide (n≤4294967296))=true)(hby:bytes≤65536):Hint P:=
 .gs true ([.int .i64 n,.int .i64 n],[]) (mrF T0 d E n) λ_ _ _ _ _ _ _ h he=>by
  simp only[Bool.and_eq_true,decide_eq_true_eq]at hn;exact an3 hA hS (by omega) hn.2 hby h he
end
theorem aeS{n:Int}(hn:(decide (0<n)&&decide (n≤4294967296))=true):0<n.toNat:=by
 simp only[Bool.and_eq_true,decide_eq_true_eq]at hn;omega
end
section
def bZ{κ α:Type}(q:κ→κ→Bool)(l:List (κ×α))(n:κ):Option α:=(l.find? λp=>q n p.1).map (·.2)
def er{κ α:Type}(q:κ→κ→Bool):List (κ×α)→κ→α→List (κ×α)
 |[],n,v=>[(n,v)]
 |p::r,n,v=>bif q n p.1 then(n,v)::r else p::er q r n v
def bG{κ α:Type}(ek:κ→AV)(enc:α→AV)(l:List (κ×α)):List (AV×AV):=l.map λp=>(ek p.1,enc p.2)
def kv{κ:Type}(e:En κ)(x:κ):AV:=.agg (e.enc x)
structure acI(P:Program)(K:TypeId){κ:Type}(ek:κ→AV)(q:κ→κ→Bool):Prop where
 plain:∀a,(ek a).plain=true
 closed:∀a,(ek a).closed=true
 now:∃kd,P.underlying K=some kd∧∀a v,Instr.sameNow kd (valOf (ek a)) v=none
 eq:∀a b w,(Op.equal K (valOf (ek a)) (valOf (ek b))).run P w=.ok (q a b) w
 chk:∀e a w,(Instr.checkKey e 10000 K (valOf (ek a))).run P w=.ok () w
 same:∀a b,q a b=true→a=b
 bits:∀a,Instr.sameBits 10000 (valOf (ek a)) (valOf (ek a))=true
structure jE(P:Program)(T K E:TypeId){κ:Type}(ek:κ→AV)(q:κ→κ→Bool):Prop where
 und:P.underlying T=some (.map K E)
 key:acI P K ek q
theorem aB.plain{I:Imm}{a:AV}{v:Value}(hp:a.plain=true)(h:aB I a v):v=valOf a:=iO (β:=λ_=>Go.undef) a v hp (aB.rep _ _ _ h)
section
variable {P:Program}{I:Imm}{κ α:Type}{K:TypeId}{ek:κ→AV}{q:κ→κ→Bool}{enc:α→AV}
theorem tc(hK:acI P K ek q)(n:κ)(w:World):∀(l:List (κ×α)) (es:List MapEntry) (i:Nat) (a:α),cW I (bG ek enc l) es→bZ q l n=some a→
  ∃j v,(Instr.findAsking K (valOf (ek n)) es i).run P w=.ok (some (i+j,v)) w∧aB I (enc a) v∧∃e,es[j]?=some e∧e.key=valOf (ek n)∧
   ∀(b:α) (u:Value) (kk:MapEntry→MapEntry),aB I (enc b) u→(∀e,aB I (ek n) (kk e).key∧(kk e).val=u)→cW I (bG ek enc (er q l n b)) (es.modify j kk)
 |[],es,i,a,h,hg=>by simp[bZ]at hg
 |(m,b)::r,es,i,a,h,hg=>by
  simp only[bG,List.map_cons,cW]at h;obtain⟨e,us,rfl,h1,h2,h3⟩:=h;have h1':=aB.plain (hK.plain m) h1;have e1:=hK.eq n m w;cases hm:q n m with
  |true=>
   have:=hK.same n m hm;subst this;simp only[bZ,List.find?,hm,Option.map_some,Option.some.injEq]at hg;subst hg;rw[hm]at e1;refine⟨0,e.val,?_,h2,e,rfl,h1',?_⟩
   ·rw[Instr.findAsking];simp[h1',e1]
   ·intro c u kk hu hk;simp only[er,hm,cond_true,bG,List.map_cons,cW,List.modify_zero_cons];exact⟨kk e,us,rfl,(hk e).1,by rw[(hk e).2];exact hu,h3⟩
  |false=>
   have hg':bZ q r n=some a:=by simpa [bZ,List.find?,hm]using hg
   obtain⟨j,v,q1,q2,e',q3,q4,q5⟩:=tc hK n w r us (i+1) a h3 hg';rw[hm]at e1;refine⟨j+1,v,?_,q2,e',by simpa using q3,q4,?_⟩
   ·rw[Instr.findAsking];simp only[Sem.run_bind,h1',e1,Result.andThen_ok];simp only[Bool.false_eq_true,if_false];rw[q1];simp[Nat.add_assoc,Nat.add_comm 1 j]
   ·intro c u kk hu hk;simp only[er,hm,cond_false,bG,List.map_cons,cW,List.modify_succ_cons];exact⟨e,_,rfl,h1,h2,q5 c u kk hu hk⟩
theorem oU(hK:acI P K ek q)(n:κ)(w:World):∀(l:List (κ×α)) (es:List MapEntry) (i:Nat),cW I (bG ek enc l) es→bZ q l n=none→
  (Instr.findAsking K (valOf (ek n)) es i).run P w=.ok none w∧∀(b:α) (e:MapEntry),aB I (enc b) e.val→aB I (ek n) e.key→cW I (bG ek enc (er q l n b)) (es++[e])
 |[],es,i,h,hg=>by
  simp only[bG,List.map_nil,cW]at h;subst h;refine⟨rfl,λb e hb hk=>?_⟩;simp only[er,bG,List.map_cons,List.map_nil,cW,List.nil_append];exact⟨e,[],rfl,hk,hb,rfl⟩
 |(m,c)::r,es,i,h,hg=>by
  simp only[bG,List.map_cons,cW]at h;obtain⟨e,us,rfl,h1,h2,h3⟩:=h;have h1':=aB.plain (hK.plain m) h1;have e1:=hK.eq n m w;have hm:q n m=false:=by
   cases hm:q n m with
   |false=>rfl
   |true=>simp[bZ,List.find?,hm]at hg
  rw[hm]at e1;have hg':bZ q r n=none:=by simpa [bZ,List.find?,hm]using hg
  obtain⟨q1,q2⟩:=oU hK n w r us (i+1) h3 hg';refine⟨?_,λb e' hb hk=>?_⟩
  ·rw[Instr.findAsking];simp only[Sem.run_bind,h1',e1,Result.andThen_ok];simp only[Bool.false_eq_true,if_false];exact q1
  ·simp only[er,hm,cond_false,bG,List.map_cons,cW,List.cons_append];exact⟨e,_,rfl,h1,h2,q2 b e' hb hk⟩
theorem sL(hK:acI P K ek q)(n:κ)(w:World)(es:List MapEntry):(Instr.findKey K (valOf (ek n)) es).run P w=(Instr.findAsking K (valOf (ek n)) es).run P w:=by
 obtain⟨kd,hu,hs⟩:=hK.now;have e2:∀w,(underlying K).run P w=.ok kd w:=λw=>by simp[underlying,program,Sem.run,hu]
 cases es with
 |nil=>simp[Instr.findKey,e2,Instr.findNow,Instr.findAsking]
 |cons e r=>
  rw[Instr.findKey];simp only[Sem.run_bind,e2,Result.andThen_ok,Instr.findNow,hs]
end
section
variable {G:Gl}{σ:Sto}{o:Oper}{ev:Operand→AV}
theorem Y.alB{κ α:Type}{T K E d:Nat}{ek:κ→AV}{q:κ→κ→Bool}{x y:Operand}{ok:Bool}{n:κ}(l:List (κ×α))(enc:α→AV)(z:α)(h:o.op=.lookup T x y ok)(hx:ev x=.bX d)(hy:ev y=ek n){K' E':Nat}(hd:σ.get d=some (.map K' E' (bG ek enc l)))
  (hT:jE G.P T K E ek q) (hz:∀w,∃v,(zeroValue E).run G.P w=.ok v w∧∀I,aB I (enc z) v) :
  Yields G o ev σ [] [d] (bif ok then .tup [enc ((bZ q l n).getD z),.bool (bZ q l n).isSome]else enc ((bZ q l n).getD z)):=
 .pure λσ' cx I β w ρ hR hw hop=>by
  have h1:=hop x (by simp[h,Op.operands]);rw[hx]at h1
  have h2:=hop y (by simp[h,Op.operands]);rw[hy]at h2;have h2:=iO _ _ (hT.key.plain n) h2
  obtain⟨r,es,clock,q0,q2,q3⟩:=uR hw (by rw[hR d (by simp)];exact hd) h1;have e1:∀w,(underlying T).run G.P w=.ok (.map K E) w:=λw=>by simp[underlying,program,Sem.run,hT.und]
  have e3:=fJ (P:=G.P) q2;have e4:=hT.key.chk (es.isEmpty) n w;have e0:=sL hT.key n w es.toList;cases hg:bZ q l n with
  |none=>
   obtain⟨p1,_⟩:=oU hT.key n w l es.toList 0 q3 hg;obtain⟨v,z1,z2⟩:=hz w;have e5:(Instr.findKey K (valOf (ek n)) es.toList).run G.P w=.ok none w:=by rw[e0,p1]
   cases ok with
   |true=>
    refine⟨.tuple #[v,.bool false],by simp[execOp,h,Instr.lookup,q0,h2,e1,e3,e4,e5,z1],?_⟩;simp only[cond_true,Rep,aW];exact⟨_,rfl,v,[.bool false],rfl,aB.rep β _ _ (z2 I),.bool false,[],rfl,by simp[aB],rfl⟩
   |false=>
    refine⟨v,by simp[execOp,h,Instr.lookup,q0,h2,e1,e3,e4,e5,z1],?_⟩;simp only[cond_false];exact aB.rep β _ _ (z2 I)
  |some a=>
   obtain⟨j,v,p1,p2,_⟩:=tc hT.key n w l es.toList 0 a q3 hg;have e5:(Instr.findKey K (valOf (ek n)) es.toList).run G.P w=.ok (some (0+j,v)) w:=by rw[e0,p1]
   cases ok with
   |true=>
    refine⟨.tuple #[v,.bool true],by simp[execOp,h,Instr.lookup,q0,h2,e1,e3,e4,e5],?_⟩;simp only[cond_true,Rep,aW];exact⟨_,rfl,v,[.bool true],rfl,aB.rep β _ _ p2,.bool true,[],rfl,by simp[aB],rfl⟩
   |false=>
    refine⟨v,by simp[execOp,h,Instr.lookup,q0,h2,e1,e3,e4,e5],?_⟩;simp only[cond_false];exact aB.rep β _ _ p2
theorem D.aeT{κ α:Type}{T K E d:Nat}{ek:κ→AV}{q:κ→κ→Bool}{x y z:Operand}{n:κ}(l:List (κ×α))(enc:α→AV)(v:α)(h:o.op=.mapUpdate T x y z∨o.op=.insert T x y z)(hx:ev x=.bX d)(hy:ev y=ek n)(hz:ev z=enc v)(hc:(enc v).closed=true)
  {K' E':Nat} (hd:σ.get d=some (.map K' E' (bG ek enc l))) (hT:jE G.P T K E ek q) :
  dU G o ev σ [d] [] (λr σ'=>r=.undef∧σ'=σ.set d (.map K' E' (bG ek enc (er q l n v)))):=by
 intro cx I β w ρ hw hop;have fQ:x∈o.op.operands∧y∈o.op.operands∧z∈o.op.operands:=by rcases h with h|h<;>simp[h,Op.operands]
 have h1:=hop x fQ.1;rw[hx]at h1
 have h2:=hop y fQ.2.1;rw[hy]at h2
 have h2c:=Rep.closed _ _ (hT.key.closed n) h2;have h2:=iO _ _ (hT.key.plain n) h2;have h3:=hop z fQ.2.2;rw[hz]at h3
 have h3:=Rep.closed _ _ hc h3;obtain⟨r,es,clock,q0,q1,q2,q3,q4,q5,q6⟩:=rM hw hd h1;have e1:∀w,(underlying T).run G.P w=.ok (.map K E) w:=λw=>by simp[underlying,program,Sem.run,hT.und]
 have e3:=fJ (P:=G.P) q2;have e4:=hT.key.chk false n w;have e0:=sL hT.key n w es.toList
 have dN:∀ob:Obj,(setObj r ob).run G.P w=.ok () {w with heap:=w.heap.setIfInBounds r ob}:=λob=>by
  have:=bF q2;simp[setObj,Sem.run,q2]
 have main:∃es' clock',(execOp ρ o).run G.P w=.ok .skip {w with heap:=w.heap.setIfInBounds r (.map es' clock')}∧cW I (bG ek enc (er q l n v)) es'.toList∧gv es' clock':=by
  cases hg:bZ q l n with
  |none=>
   obtain⟨p1,p2⟩:=oU hT.key n w l es.toList 0 q3 hg;have e5:(Instr.findKey K (valOf (ek n)) es.toList).run G.P w=.ok none w:=by rw[e0,p1]
   refine⟨_,_,by rcases h with h|h<;>simp[execOp,h,Instr.mapUpdate,q0,h2,e1,e3,e4,e5,dN]<;>rfl,?_,?_⟩
   rotate_left
   ·exact q6.push _ _
   simpa using p2 v ⟨valOf (ek n),ρ z,clock⟩ h3 (by rw[←h2];exact h2c)
  |some a=>
   obtain⟨j,u,p1,p2,e',p3,p4,p5⟩:=tc hT.key n w l es.toList 0 a q3 hg;have e5:(Instr.findKey K (valOf (ek n)) es.toList).run G.P w=.ok (some (0+j,u)) w:=by rw[e0,p1]
   have e6:es[j]?=some e':=by simpa using p3
   have e7:(Instr.keyThatStays (valOf (ek n)) (valOf (ek n))).run G.P w=.ok (valOf (ek n)) w:=by simp[Instr.keyThatStays,hT.key.bits n]
   refine⟨_,_,by rcases h with h|h<;>simp[execOp,h,Instr.mapUpdate,q0,h2,e1,e3,e4,e5,dN,e6,p4,e7]<;>rfl,?_,?_⟩
   ·simpa using p5 v (ρ z) (λe=>{e with key:=valOf (ek n),val:=ρ z}) h3 (λe=>⟨by rw[←h2];exact h2c,rfl⟩)
   ·exact q6.modify _ _ λ_=>rfl
 obtain⟨es',clock',hrun,hE,hB⟩:=main;rw[hrun];refine⟨.undef,_,I,β,⟨rfl,rfl⟩,by simp[Rep,aB],?_,aQ.refl I,λ_ _=>rfl,λx hx=>by rw[Sto.cB,if_neg (by simpa using hx)]⟩;have hbd:blk (β d)=some r:=by rw[q1];rfl
 refine hw.turn (d:=d) (Kept.setObj w r _) q5 (λx hx=>by rw[Sto.cB,if_neg hx]) (λx hx hs e=>hw.bQ x d hs (by rw[hd];rfl) hx r e (cR hbd)) (aQ.refl I) (λ_ _ _=>rfl)
  (λo v hv=>by rw[q4 o]at hv;cases hv) (q4 none) (λ_ _=>rfl) (.inr rfl) (HLe.refl β) (.inl hbd) λob hob=>?_
 rw[Sto.cB,if_pos rfl,hd]at hob;injection hob with hob
 subst hob;simp only[aj];exact .inr ⟨r,es',clock',q1,by have:=bF q2;simp[Array.getElem?_setIfInBounds,this],hE,q4,q5,hB⟩
theorem eqK{P:Program}{T:Nat}{xs ys:Array Value}{r:Bool}{w:World}(hu:P.underlying T=some (.struct (P.fieldsOf T)))(hp:P.stoodInHeld T=false)(h:(Op.eqFields 9999 xs ys (P.fieldsOf T).toList).run P w=.ok r w):(Op.equal T (.agg xs) (.agg ys)).run P w=.ok r w:=by
 show(Op.equalIn 10000 T (.agg xs) (.agg ys)).run P w=.ok r w;rw[run_equalIn_agg w 9999 T _ _ hu hp,h]
end
end
section
section
variable {P:Program}
def lKF{κ α:Type}(T0:Nat)(q:κ→κ→Bool)(l:List (κ×α))(n:κ)(enc:α→AV)(z:α)(op:Op)(env:Env)(σ:Sto):Option (Stp×Obs):=match op with
 |.lookup T x y ok=>(match env.evo x with
  |some (.bX d)=>(match env.evo y with
   |some a=>(match σ.get d with
    |some (.map K E aL)=>bif Nat.beq T T0 then some (.y [d] (bif ok then .tup [enc ((bZ q l n).getD z),.bool (bZ q l n).isSome]else enc ((bZ q l n).getD z)),([.mpf aL,a],[]))else none
    |_=>none)
   |_=>none)
  |_=>none)
 |_=>none
theorem an4{κ α:Type}{T0 K0 E0:Nat}{ek:κ→AV}{q:κ→κ→Bool}{l:List (κ×α)}{n:κ}{enc:α→AV}{z:α}(hT:jE P T0 K0 E0 ek q)(hz:∀w,∃v,(zeroValue E0).run P w=.ok v w∧∀I,aB I (enc z) v){o:Oper}{N:Nat}{ids:List Nat}{env:Env}{σ:Sto}{s:Stp}{ob:Obs}
  (h:lKF T0 q l n enc z o.op env σ=some (s,ob)) (he:ob=([.mpf (bG ek enc l),ek n],[])):cz ⟨P,N,ids⟩ o env σ s:=by
 cases ho:o.op<;>rw[ho]at h
 case lookup T x y ok=>
  simp only[lKF]at h;split at h
  ·rename_i d hx;split at h
   ·rename_i a hy;split at h
    ·rename_i K E aL hd;cases hb:Nat.beq T T0 with
     |false=>rw[hb]at h;cases h
     |true=>
      rw[hb]at h;have:=Nat.eq_of_beq_eq_true hb;subst this;cases h;simp only[Prod.mk.injEq,List.cons.injEq,AV.mpf.injEq,and_true]at he;obtain⟨rfl,rfl⟩:=he;exact Y.alB l enc z ho (Env.aG hx) (Env.aG hy) hd hT hz
    ·cases h
   ·cases h
  ·cases h
 all_goals (simp only[lKF]at h;cases h)
def hlK{κ α:Type}{T0 K0 E0:Nat}{ek:κ→AV}{q:κ→κ→Bool}(l:List (κ×α))(n:κ)(enc:α→AV)(z:α)(hT:jE P T0 K0 E0 ek q)(hz:∀w,∃v,(zeroValue E0).run P w=.ok v w∧∀I,aB I (enc z) v):Hint P:=
 .gs false ([.mpf (bG ek enc l),ek n],[]) (λ_=>lKF T0 q l n enc z) λ_ _ _ _ _ _ _ h he=>an4 hT hz h he
def mKP{κ α:Type}(T0:Nat)(ek:κ→AV)(q:κ→κ→Bool)(l:List (κ×α))(n:κ)(enc:α→AV)(v:α)(T:TypeId)(x y z:Operand)(env:Env)(σ:Sto):Option (Stp×Obs):=
 match env.evo x with
  |some (.bX d)=>(match env.evo y with
   |some a=>(match env.evo z with
    |some b=>(match σ.get d with
     |some (.map K E aL)=>bif Nat.beq T T0 then some (.e [d] [] .undef (σ.set d (.map K E (bG ek enc (er q l n v)))),([.mpf aL,a,b],[]))else none
     |_=>none)
    |_=>none)
   |_=>none)
  |_=>none
def mKF{κ α:Type}(T0:Nat)(ek:κ→AV)(q:κ→κ→Bool)(l:List (κ×α))(n:κ)(enc:α→AV)(v:α)(op:Op)(env:Env)(σ:Sto):Option (Stp×Obs):=match op with
 |.mapUpdate T x y z=>mKP T0 ek q l n enc v T x y z env σ
 |.insert T x y z=>mKP T0 ek q l n enc v T x y z env σ
 |_=>none
theorem agj{κ α:Type}{T0 K0 E0:Nat}{ek:κ→AV}{q:κ→κ→Bool}{l:List (κ×α)}{n:κ}{enc:α→AV}{v:α}(hT:jE P T0 K0 E0 ek q)(hc:(enc v).closed=true){o:Oper}{N:Nat}{ids:List Nat}{env:Env}{σ:Sto}{s:Stp}{ob:Obs}{T:TypeId}{x y z:Operand}
  (ho:o.op=.mapUpdate T x y z∨o.op=.insert T x y z) (h:mKP T0 ek q l n enc v T x y z env σ=some (s,ob)) (he:ob=([.mpf (bG ek enc l),ek n,enc v],[])):cz ⟨P,N,ids⟩ o env σ s:=by
 simp only[mKP]at h;split at h
 ·rename_i d hx;split at h
  ·rename_i a hy;split at h
   ·rename_i b hz;split at h
    ·rename_i K E aL hd;cases hb:Nat.beq T T0 with
     |false=>rw[hb]at h;cases h
     |true=>
      rw[hb]at h;have:=Nat.eq_of_beq_eq_true hb;subst this;cases h;simp only[Prod.mk.injEq,List.cons.injEq,AV.mpf.injEq,and_true]at he;obtain⟨rfl,rfl,rfl⟩:=he;exact⟨D.aeT l enc v ho (Env.aG hx) (Env.aG hy) (Env.aG hz) hc hd hT,rfl⟩
    ·cases h
   ·cases h
  ·cases h
 ·cases h
theorem an5{κ α:Type}{T0 K0 E0:Nat}{ek:κ→AV}{q:κ→κ→Bool}{l:List (κ×α)}{n:κ}{enc:α→AV}{v:α}(hT:jE P T0 K0 E0 ek q)(hc:(enc v).closed=true){o:Oper}{N:Nat}{ids:List Nat}{env:Env}{σ:Sto}{s:Stp}{ob:Obs}
  (h:mKF T0 ek q l n enc v o.op env σ=some (s,ob)) (he:ob=([.mpf (bG ek enc l),ek n,enc v],[])):cz ⟨P,N,ids⟩ o env σ s:=by
 cases ho:o.op<;>rw[ho]at h
 case mapUpdate T x y z=>exact agj hT hc (.inl ho) h he
 case insert T x y z=>exact agj hT hc (.inr ho) h he
 all_goals (simp only[mKF]at h;cases h)
def hmK{κ α:Type}{T0 K0 E0:Nat}{ek:κ→AV}{q:κ→κ→Bool}(l:List (κ×α))(n:κ)(enc:α→AV)(v:α)(hT:jE P T0 K0 E0 ek q)(hc:(enc v).closed=true):Hint P:=
 .gs true ([.mpf (bG ek enc l),ek n,enc v],[]) (λ_=>mKF T0 ek q l n enc v) λ_ _ _ _ _ _ _ h he=>an5 hT hc h he
def mmF(d K E:Nat)(ids:List Nat)(op:Op)(_:Env)(_:Sto):Option (Stp×Obs):=match op with
 |.makeMap _ none=>bif !ids.contains d then some (.v d (.map K E []) (.bX d),([],[]))else none
 |_=>none
theorem an6{d K E:Nat}{o:Oper}{N:Nat}{ids:List Nat}{env:Env}{σ:Sto}{s:Stp}{ob:Obs}(h:mmF d K E ids o.op env σ=some (s,ob)):cz ⟨P,N,ids⟩ o env σ s:=by
 cases ho:o.op<;>rw[ho]at h
 case makeMap T r=>
  cases r with
  |some r=>simp only[mmF]at h;cases h
  |none=>
   simp only[mmF]at h;cases hi:ids.contains d with
   |true=>rw[hi]at h;cases h
   |false=>rw[hi]at h;cases h;exact⟨hi,Y.makeMap ho hi⟩
 all_goals (simp only[mmF]at h;cases h)
def hmm(d K E:Nat):Hint P:=.gs true ([],[]) (λids=>mmF d K E ids) λ_ _ _ _ _ _ _ h _=>an6 h
theorem apNE{α:Type}(e:En α){l r m:List α}(h:gn l r=some m)(hl:0<l.length):0<(ml e m).length:=by
 obtain⟨_,h2⟩:=abo h;rw[eF,←h2,List.length_append];omega
def anF(T0 E d2 sz:Nat)(zs:List (List AV))(ids:List Nat)(op:Op)(env:Env)(σ:Sto):Option (Stp×Obs):=match op with
 |.call c=>match c.callee with
  |.builtin b=>(match b with
   |.append=>(match c.args.toList with
    |[s,x]=>(match c.argTypes.toList with
     |[T,T2]=>bif Nat.beq T T0&&Nat.beq T2 T0&&!ids.contains d2&&σ.clean [d2].contains then(match env.evo x with
       |none=>none
       |some ax=>match eB [] σ ax with
        |some (.lst f ys)=>(match env.evo s with
         |some (.lst true xs)=>some (.e [d2] [d2] (.own d2) ((d2,.slice E sz zs 0 false)::σ),([.lst false xs,.lst false ys],[]))
         |_=>none)
        |_=>none)else none
     |_=>none)
    |_=>none)
   |_=>none)
  |_=>none
 |_=>none
theorem an7{T0 E d2 sz bytes:Nat}{xs ys zs:List (List AV)}(hT:gL P T0 E sz bytes)(pf:Ap sz bytes xs ys zs)(hne:0<ys.length){o:Oper}{N:Nat}{ids:List Nat}{env:Env}{σ:Sto}{s:Stp}{ob:Obs}
  (h:anF T0 E d2 sz zs ids o.op env σ=some (s,ob)) (he:ob=([.lst false xs,.lst false ys],[])):cz ⟨P,N,ids⟩ o env σ s:=by
 obtain⟨p0,p1,p2,p3,p4,p5⟩:=pf;cases ho:o.op<;>rw[ho]at h
 case call c=>
  obtain⟨cl,args,tys⟩:=c;simp only[anF]at h;split at h
  ·split at h
   ·split at h
    ·rename_i s0 x0 hx0;have:args=#[s0,x0]:=Array.toList_inj.1 (by simpa using hx0);subst this;split at h
     ·rename_i T T2 hT0;have:tys=#[T,T2]:=Array.toList_inj.1 (by simpa using hT0);subst this;generalize hb:(Nat.beq T T0&&_&&_&&_)=bb at h;cases bb with
      |false=>cases h
      |true=>
       simp only[cond_true]at h;simp only[Bool.and_eq_true,Bool.not_eq_true']at hb;obtain⟨⟨⟨b1,b2⟩,b3⟩,b4⟩:=hb;have:=Nat.eq_of_beq_eq_true b1;subst this;have:=Nat.eq_of_beq_eq_true b2;subst this;split at h
       ·cases h
       ·rename_i ax hx;split at h
        ·rename_i f ys' hs;have hse:eT σ (env.ev x0) (.lst f ys'):=by rw[Env.aG hx];exact iC hs
         split at h
         ·rename_i xs' hs0;cases h;simp only[Prod.mk.injEq,List.cons.injEq,AV.lst.injEq,and_true,true_and]at he;obtain⟨rfl,rfl⟩:=he;refine⟨?_,by simpa using b3⟩;rw[←p0];exact D.aat (G:=⟨P,N,ids⟩) ho (.inr ⟨Env.aG hs0,hne⟩) hse hT p1 p2 p3 p4 p5 b3 b4
         ·cases h
        ·cases h
     ·cases h
    ·cases h
   ·cases h
  ·cases h
 all_goals (simp only[anF]at h;cases h)
def hapN{T0 E sz bytes:Nat}(d2:Nat){xs ys zs:List (List AV)}(hT:gL P T0 E sz bytes)(pf:Ap sz bytes xs ys zs)(hne:0<ys.length):Hint P:=
 .gs true ([.lst false xs,.lst false ys],[]) (λids=>anF T0 E d2 sz zs ids) λ_ _ _ _ _ _ _ h he=>an7 hT pf hne h he
end
section hdr
theorem aU.hdr{G:Gl}{env:Env}{σ:Sto}{d e T sz k:Nat}{fz:Bool}{xs:List (List AV)}(n:Nat)(hd:σ.get d=some (.slice T sz xs k fz))(hn:xs.length=n){dc Tc i t q:Nat}{cs:List AV}(c1:σ.get dc=some (.cells Tc cs))(c2:cs[i]?=some (AV.own d))(ht:env.get t=.ptr dc q)(he:σ.get e=none)(hi:G.ids.contains e=false)(hc:env.clean [e].contains=true)(hs:σ.clean [e].contains=true)
  (hde:(d==e)=false) :
  aU G env σ env ((e,.hdr d n)::σ):=λcx I β a w h h'=>by
 have hde':d≠e:=by simpa using hde
 refine⟨I,en β e (.pointer none),?_,ahT h' hc λy hy=>cc β _ hy⟩;have b2e:en β e (.pointer none) e=.pointer none:=bO _ _ _;have hb:∀y,[e].contains y=false→en β e (.pointer none) y=β y:=λy hy=>cc β _ (by simpa using hy);have hsl:fP (β d)=true:=by
  have r1:=h' t;rw[ht]at r1;simp only[Rep]at r1;obtain⟨b,r2,_⟩:=r1;have ho:=h.bB dc _ c1;simp only[aj]at ho;rcases ho with q0|⟨b',arr,q1,q2,q3,_⟩
  ·rw[q0]at r2;cases r2
  ·have:∀(cs:List AV) (vs:List Value) (i:Nat),aW I β cs vs→cs[i]?=some (.own d)→fP (β d)=true:=by
    intro cs;induction cs with
    |nil=>intro vs i _ h;simp at h
    |cons x r ih=>
     intro vs i hr hi2;simp only[aW]at hr;obtain⟨u,us,rfl,g1,g2⟩:=hr;cases i with
     |zero=>
      simp at hi2;subst hi2
      simp only[Rep]at g1;rw[←g1.1];exact g1.2
     |succ i=>exact ih us i g2 (by simpa using hi2)
   exact this cs _ i q3 c2
 refine{h with bB:=λy o hy=>?_,bQ:=λy y' h1 h2 hne b hb1 hb2=>?_,keep:=λy hy=>?_}
 ·rw[Sto.aK]at hy;split at hy
  ·rename_i ey;subst ey;cases hy
   refine⟨b2e,?_⟩;rw[cc β _ hde'];have ho:=h.bB d _ hd;simp only[aj]at ho;rcases ho with q|⟨q1,q2,_⟩|⟨b,cap,arr,q1,_⟩
   ·rw[q]at hsl;cases hsl
   ·subst q2;simp at hn;subst hn;exact⟨_,_,q1⟩
   ·rw[hn]at q1;exact⟨_,_,q1⟩
  ·obtain⟨c1,c2⟩:=Sto.cm hs y o hy;exact(h.bB y o hy).beta hb c1 c2
 ·by_cases e1:y=e
  ·subst e1;rw[b2e]at hb1;simp[bY,blk]at hb1
  ·by_cases e2:y'=e
   ·subst e2;rw[b2e]at hb2;simp[bY,blk]at hb2
   ·rw[cc β _ e1]at hb1;rw[cc β _ e2]at hb2
    rw[Sto.aK,if_neg (Ne.symm e1)]at h1;rw[Sto.aK,if_neg (Ne.symm e2)]at h2
    exact h.bQ y y' h1 h2 hne b hb1 hb2
 ·have:y≠e:=λe1=>by subst e1;rw[List.contains_iff_mem.2 hy]at hi;cases hi
  rw[cc β _ this];exact h.keep y hy
variable {P:Program}
end hdr
end
end Go.Proofs.YtmnbolcmepihlaaGreat
