/- Rows of a slice, read and Ag in Ij place; rows oi down for good. bM bN cu cg bz cv in ck. -/
import Derived.Test.YtmnbolcmepihlaaGreatAD
namespace Go.Proofs.YtmnbolcmepihlaaGreat
set_option linter.all false
open Go
theorem UJ{I:bw}:∀{xs:List U} {vs:List Value} {i:Nat} {a:U},b9 I xs vs→xs[i]?=some a→∃v,vs[i]?=some v∧aO I a v
 |[],_,_,_,_,h=>by simp at h
 |x::r,vs,i,a,h,hi=>by
  simp only[b9]at h;obtain⟨ay,bF,rfl,h1,D⟩:=h;cases i with
  |zero=>simp only[List.getElem?_cons_zero,Option.some.injEq]at hi ⊢;subst hi;exact⟨ay,rfl,h1⟩
  |succ i=>simp only[List.getElem?_cons_succ]at hi ⊢;exact UJ D hi
theorem UK{I:bw}{a:U}{v:Value}(aC:aO I a v):∀{xs:List U} {vs:List Value} (i:Nat),b9 I xs vs→b9 I (xs.set i a) (vs.set i v)
 |[],vs,i,h=>by simp only[b9]at h;subst h;simp[b9]
 |x::r,vs,i,h=>by
  simp only[b9]at h;obtain⟨ay,bF,rfl,h1,D⟩:=h;cases i with
  |zero=>simp only[List.set_cons_zero,b9];exact⟨v,bF,rfl,aC,D⟩
  |succ i=>simp only[List.set_cons_succ,b9];exact⟨ay,_,rfl,h1,UK aC i D⟩
theorem TC{α:Type}{a:α}:∀{l:List (List α)} (i:Nat),(∀e∈l,e.length=1)→(l.set i [a]).flatten=l.flatten.set i a
 |[],i,_=>by simp
 |x::r,i,h=>by
  have u:=h x (by simp);obtain⟨y,rfl⟩:∃y,x=[y]:=by
   match x,u with
   |[y],_=>exact⟨y,rfl⟩
  cases i with
  |zero=>simp
  |succ i=>simp only[List.set_cons_succ,List.flatten_cons,List.cons_append,List.nil_append];rw[TC i λe he=>h e (by simp[he])]
variable {I:bw}{cx:eO}{w:World}{β:Nat→Value}
theorem Oj{G:cq}{σ:Y}(aq:bS G cx I β σ w){e:Nat}{cR:List gP}(he:σ.get e=some (.cS cR)){W:Array Value}(V:β e=.tuple W):hp cx I w cR W.toList:=by
 have h:=aq.cB e _ he;simp only[aU,V,Value.tuple.injEq,reduceCtorEq,false_or]at h;obtain⟨h4,rfl,h⟩:=h;exact h
theorem hp.turn{cx:eO}{I:bw}{w w':World}{b:Nat}{x:gP}(hk:∀c,c≠b→c<w.heap.size→w'.heap[c]?=w.heap[c]?):∀{cR:List gP} {W:List Value},hp cx I w cR W→∀{p:Nat} {ay:Value},p<cR.length→W[p]?=some ay→bV ay=some b→jN cx I w' x ay→hp cx I w' (cR.set p x) W
 |[],_,_,p,_,aB,_,_,_=>by simp at aB
 |y::r,W,h,p,ay,aB,hu,kf,u=>by
  simp only[hp]at h;obtain⟨v,vs,rfl,h1,D,ak⟩:=h;cases p with
  |zero=>
   simp only[List.getElem?_cons_zero,Option.some.injEq]at hu;subst hu;simp only[List.set_cons_zero,hp];refine⟨v,vs,rfl,u,D,ak.go (b7.refl I) λc aa=>⟨λbQ=>hk c (λe=>?_) bQ,λ_=>rfl,id⟩⟩;subst e;exact D c kf aa
  |succ p=>
   simp only[List.getElem?_cons_succ]at hu;simp only[List.set_cons_succ,hp];have fA:b∈vs.filterMap bV:=List.mem_filterMap.2 ⟨ay,List.mem_of_getElem? hu,kf⟩;refine⟨v,vs,rfl,h1.go (b7.refl I) λc aa=>⟨λbQ=>hk c (λe=>?_) bQ,λ_=>rfl,id⟩,D,hp.turn hk ak (by simpa using aB) hu kf u⟩;subst e;exact D c aa fA
theorem alq{p:Nat→Bool}(h:∀d,p d=false)(o:cn):nw p o=false:=by
 cases o<;>simp only[nw,vU h,h,Bool.false_or]
 all_goals (split<;>simp[h])
section
variable {G:cq}{σ:Y}{o:Oper}{ev:Operand→U}
theorem YH{cx:eO}{I:bw}{β:Nat→Value}{w:World}(aq:bS G cx I β σ w){e p hC sz:Nat}{cR:List gP}{rows:List (List U)}(he:σ.get e=some (.cS cR))(ax:cR[p]?=some (.sl hC sz rows)){v:Value}(af:(mO.row p).rep (β e) v)(bJ:rows≠[]):
  ∃W b aF arr,β e=.tuple W∧W.toList[p]?=some v∧hp cx I w cR W.toList∧v=.slice (some ⟨b,0,none⟩) rows.length aF∧rows.length≤aF∧aF≤maxLen∧w.heap[b]?=some (.cells arr hC (0,0))∧arr.size=aF*sz∧
    b9 I rows.flatten (arr.toList.take (rows.length*sz))∧(∀e∈rows,e.length=sz)∧(∀o:Nat,I b o=none)∧Place cx b:=by
 obtain⟨W,an,au⟩:=af;have V:=Oj aq he an;obtain⟨dI,cF,cW⟩:=V.get ax;rw[au]at cF;cases cF;rcases cW with⟨_,g⟩|⟨b,aF,arr,cF,cW,ht,lQ,sY,g6,za,Ju,Jv⟩
 ·exact absurd g bJ
 ·exact⟨W,b,aF,arr,an,au,V,cF,cW,ht,lQ,sY,g6,za,Ju,Jv⟩
theorem bG.abp{T e p hC sz:Nat}{cR:List gP}{rows:List (List U)}{x:Operand}{hj}(h:o.op=.call ⟨.builtin .len,#[x],hj⟩)(hk:hj=#[T])(u:ev x=.fm (.row p) e)(he:σ.get e=some (.cS cR))(ax:cR[p]?=some (.sl hC sz rows)){E:Nat}(aH:G.P.underlying T=some (.slice E)):
  Yields G o ev σ [] [e] (.int .i64 (rows.length:Int)):=
 .pure λaz cx I β w aP b2 aq hop=>by
  subst hk;have h1:=hop x (by simp[h,Op.operands,Call.operands]);rw[u]at h1
  simp only[ar]at h1;have af:∃a c,aP x=.slice a rows.length c:=by
   obtain⟨W,an,au⟩:=h1;have V:=Oj aq (by rw[b2 e (by simp)];exact he) an;obtain⟨dI,cF,cW⟩:=V.get ax;rw[au]at cF;cases cF;rcases cW with⟨g,iY⟩|⟨b,aF,arr,cF,_⟩
   ·exact⟨none,0,by rw[g,iY];rfl⟩
   ·exact⟨_,_,cF⟩
  obtain⟨a,c,af⟩:=af;have aA:∀w,(underlying T).run G.P w=.ok (.slice E) w:=λw=>by simp[underlying,program,Sem.run,aH]
  exact⟨.int .i64 rows.length,by simp[execOp,h,resolve,invoke,builtin,Builtin.len_,af,aA,goInt],by simp[ar,aO]⟩
theorem Nl{cx:eO}{I:bw}{β:Nat→Value}{w:World}(aq:bS G cx I β σ w){e p off hC sz:Nat}{cR:List gP}{rows:List (List U)}(he:σ.get e=some (.cS cR))(ax:cR[p]?=some (.sl hC sz rows)){v:Value}(af:(mO.oI p off).rep (β e) v)(bJ:rows≠[]):
  ∃W ay b aF arr,β e=.tuple W∧W.toList[p]?=some ay∧bV ay=some b∧hp cx I w cR W.toList∧v=.pointer (some ⟨b,off,none⟩)∧ay=.slice (some ⟨b,0,none⟩) rows.length aF∧rows.length≤aF∧aF≤maxLen∧w.heap[b]?=some (.cells arr hC (0,0))∧arr.size=aF*sz∧
    b9 I rows.flatten (arr.toList.take (rows.length*sz))∧(∀e∈rows,e.length=sz)∧(∀o:Nat,I b o=none)∧Place cx b:=by
 obtain⟨W,ay,b,an,au,aK,aG⟩:=af;obtain⟨h4,aN,aF,arr,cF,cW,ht,lQ,sY⟩:=YH aq he ax (v:=ay) ⟨W,an,au⟩ bJ;have:aN=b:=by rw[lQ]at aK;simpa [bV]using aK
 subst this;rw[an]at cF;cases cF;exact⟨W,ay,aN,aF,arr,an,au,aK,ht,aG,lQ,sY⟩
theorem bG.VY{T e p off hC sz:Nat}{cR:List gP}{rows:List (List U)}{x:Operand}{a:U}(h:o.op=.load T x)(u:ev x=.fm (.oI p off) e)(he:σ.get e=some (.cS cR))(ax:cR[p]?=some (.sl hC sz rows))(aC:rows.flatten[off]?=some a)(aH:dM G.P T 1 false):
  Yields G o ev σ [] [e] a:=
 .pure λaz cx I β w aP b2 aq hop=>by
  have h1:=hop x (by simp[h,Op.operands]);rw[u]at h1
  simp only[ar]at h1;obtain⟨W,ay,b,aF,arr,an,au,aK,aG,bb,bC,bY,cK,di,ec,e3,oW,KV,KW⟩:=Nl aq (by rw[b2 e (by simp)];exact he) ax h1 (λe=>by rw[e]at aC;simp at aC);obtain⟨v,cF,cW⟩:=UJ e3 aC;have mo:arr[off]?=some v:=by
   rw[List.getElem?_take]at cF;split at cF
   ·simpa using cF
   ·cases cF
  have mg:∀j,j<1→∃dI,[v][j]?=some dI∧w.cell? ⟨b,off+j,none⟩=some dI:=λj aM=>by
   have:j=0:=by omega
   subst this;exact⟨v,rfl,by simp[World.cell?,di,mo]⟩
  have aJ:=vq aH (vs:=[v]) mg (λ_=>by omega);exact⟨v,by simp[execOp,h,bb,Instr.loadAt,Instr.sureAddr,aJ],aO.rep _ _ _ cW⟩
theorem en.VQ{T e p off hC:Nat}{cR:List gP}{rows:List (List U)}{x y:Operand}{a:U}(h:o.op=.store T x y)(u:ev x=.fm (.oI p off) e)(ah:ev y=a)(aa:a.closed=true)(afX:a.one=true)(he:σ.get e=some (.cS cR))(ax:cR[p]?=some (.sl hC 1 rows))(aj:off<rows.length)(aH:dM G.P T 1 false):
  g8 G o ev σ [e] [] (λr az=>r=.undef∧az=(e,.cS (cR.set p (.sl hC 1 (rows.set off [a]))))::σ.minus [e]):=by
 intro cx I β w aP aq hop;have h1:=hop x (by simp[h,Op.operands]);rw[u]at h1
 have ak:=hop y (by simp[h,Op.operands]);rw[ah]at ak
 simp only[ar]at h1;obtain⟨W,ay,b,aF,arr,an,au,aK,aG,bb,bC,bY,cK,di,ec,e3,oW,KV,KW⟩:=Nl aq he ax h1 (λe=>by rw[e]at aj;simp at aj);have pa:=U.L5 afX ak;have agw:=ar.closed _ _ aa ak;have ki:=Fb (P:=G.P) di [aP y] (off:=off) (by simp;omega) (λv af=>by rw[List.mem_singleton.1 af];exact pa.1);have eX:(execOp aP o).run G.P w=.ok .skip (w.setRow b (iw arr.toList off [aP y]).toArray):=by
  have aA:((#[aP y]:Array Value).size≠1)=False:=by simp
  simp[execOp,h,bb,Instr.storeAt,Instr.sureAddr,storeVar,aH.size,pa.2,ki]
 rw[eX];have i5:(σ.get e).isSome:=by rw[he];rfl
 have hk:gn w (w.setRow b (iw arr.toList off [aP y]).toArray) b:=gn.setRow w b _;have agr:b∈dA (β e):=by rw[an,nT];exact List.mem_filterMap.2 ⟨ay,List.mem_of_getElem? au,aK⟩
 have r7:iw arr.toList off [aP y]=arr.toList.set off (aP y):=by
  apply List.ext_getElem?;intro i;simp only[iw,List.length_singleton];rw[List.getElem?_set];by_cases xQ:off=i
  ·subst xQ;rw[if_pos rfl,if_pos (by simp;omega),List.append_assoc,List.getElem?_append_right (by simp;omega),List.length_take,Nat.min_eq_left (by simp;omega)];simp
  ·rw[if_neg xQ];by_cases bQ:i<off
   ·rw[List.append_assoc,List.getElem?_append_left (by simp;omega),List.getElem?_take,if_pos bQ]
   ·rw[List.getElem?_append_right (by simp;omega),List.getElem?_drop];congr 1;simp only[List.length_append,List.length_take,List.length_singleton,Array.length_toList];omega
 have h0:jN cx I (w.setRow b (iw arr.toList off [aP y]).toArray) (.sl hC 1 (rows.set off [a])) ay:=by
  refine .inr ⟨b,aF,_,by rw[bC,List.length_set],by rw[List.length_set];exact bY,cK,setRow_heap w b arr _ hC _ di,?_,?_,?_,KV,KW⟩
  ·rw[r7];simp[ec]
  ·rw[TC off oW,List.length_set,r7];have:=UK agw off e3;rw[←List.take_set]at this;simpa using this
  ·intro cw JN;rcases List.mem_or_eq_of_mem_set JN with q|q
   ·exact oW cw q
   ·rw[q];rfl
 have ml:p<cR.length:=(List.getElem?_eq_some_iff.1 ax).1;have I5:=hp.turn (λc aa bQ=>hk.block c aa bQ) aG ml au aK h0
 have lZ:∀y,y≠e→Y.get ((e,cn.cS (cR.set p (.sl hC 1 (rows.set off [a]))))::σ.minus [e]) y=σ.get y:=λy ah=>by
  rw[Y.c4,if_neg (Ne.symm ah),Y.jW,if_neg (by simpa using ah)]
 refine⟨.undef,_,I,β,⟨rfl,rfl⟩,by simp[ar,aO],?_,b7.refl I,λ_ _=>rfl,λy ah=>lZ y (by simpa using ah)⟩;refine aq.redo (M:=[e]) (news:=[]) (b:=b) (eZ:=β) hk (λo=>?_) (λy ah W cw=>?_) KW (λy ah=>lZ y (by simpa using ah)) (λ_ _=>rfl) (λy ah=>by cases ah) (λy o _ _=>?_) (λy ah o iQ=>?_) (λy ah eA c aa=>?_) (λy ah z hz n9 eP eA c aa hZ=>?_)
 ·cases o with
  |none=>exact aq.rV di
  |some o=>exact KV o
 ·exact aq.dn e y i5 W (λe=>ah (by simp[e])) b agr cw
 ·exact alq (λ_=>rfl) o
 ·simp only[List.mem_singleton]at ah;subst ah;rw[Y.c4,if_pos rfl]at iQ;cases iQ;simp only[aU];exact .inr ⟨W,an,I5⟩
 ·simp only[List.mem_singleton]at ah;subst ah;exact⟨y,by simp,i5,aa⟩
 ·simp only[List.mem_singleton]at ah hz;exact n9 (ah.trans hz.symm)
end
theorem Nn{cx:eO}{I aS:bw}{w:World}{α:Type}{T sz:Nat}{enc:α→List U}(hle:b7 I aS):∀(l:List (List α)) (vs:List Value),hp cx I w (encS T sz enc l) vs→(∀b∈vs.filterMap bV,∀o,aS b o=iq w b o)→b9 aS (l.map λr=>[U.aX false (r.map enc)]).flatten vs
 |[],vs,h,_=>by simp only[encS,List.map_nil,hp]at h;subst h;simp[b9]
 |r::l,vs,h,gR=>by
  simp only[encS,List.map_cons,hp]at h;obtain⟨ay,bF,rfl,h1,_,ak⟩:=h;simp only[List.map_cons,List.flatten_cons,List.cons_append,List.nil_append,b9];refine⟨ay,bF,rfl,jN.aX h1 hle λb V=>gR b (by simp[V]),Nn hle l bF ak λb V=>gR b ?_⟩;rw[List.filterMap_cons];split
  ·exact V
  ·exact List.mem_cons_of_mem _ V
variable {T d:Nat}
theorem b8.afL{G:cq}{env:ai}{σ:Y}{α:Type}{aW sz e n:Nat}(l:List (List α))(enc:α→List U)(Z:σ.get d=some (.fV T e n none))(he:σ.get e=some (.cS (encS aW sz enc l))):
  b8 G env σ env ((d,.slice T 1 (l.map λr=>[.aX false (r.map enc)]) 0 false)::σ.minus [d,e]):=λcx I β a w h dc=>by
 have j2:d≠e:=λcw=>by subst cw;rw[Z]at he;cases he
 have nY:(σ.get d).isSome:=by rw[Z];rfl
 have i5:(σ.get e).isSome:=by rw[he];rfl
 let aS:bw:=λb o=>if b∈dA (β e)then iq w b o else I b o
 have fA:∀b,b∈dA (β e)→∀o,aS b o=iq w b o:=λb V o=>if_pos V;have s6:∀b,¬(b∈dA (β e))→∀o,aS b o=I b o:=λb V o=>if_neg V
 have hle:b7 I aS:=λb o v af=>by
  by_cases V:b∈dA (β e)
  ·rw[fA b V];exact h.OI b o v af
  ·rw[s6 b V];exact af
 have ml:∀b,b∈dA (β e)→Place cx b:=λb V=>(h.MQ he V).2
 have sub:∀x o,Y.get ((d,.slice T 1 (l.map λr=>[.aX false (r.map enc)]) 0 false)::σ.minus [d,e]) x=some o→(x=d∧o=.slice T 1 (l.map λr=>[.aX false (r.map enc)]) 0 false)∨(x≠d∧x≠e∧σ.get x=some o):=λx o u=>by
  rw[Y.c4,Y.jW]at u;split at u
  ·rename_i cw;exact .inl ⟨cw.symm,(Option.some.inj u).symm⟩
  ·rename_i hG;split at u
   ·cases u
   ·rename_i iC;simp only[List.mem_cons,List.not_mem_nil,or_false,not_or]at iC;exact .inr ⟨iC.1,iC.2,u⟩
 have QK:∀x,(Y.get ((d,cn.slice T 1 (l.map λr=>[.aX false (r.map enc)]) 0 false)::σ.minus [d,e]) x).isSome→(σ.get x).isSome:=λx u=>by
  obtain⟨o,u⟩:=Option.isSome_iff_exists.1 u;rcases sub x o u with⟨rfl,_⟩|⟨_,_,u⟩
  ·exact nY
  ·rw[u];rfl
 refine⟨aS,β,{h with good:=λb o v af=>?_,h9:=λb v af=>?_,ja:=h.ja.trans hle,iL:=λb V aT o=>?_,cB:=λx o u=>?_,dn:=λx y u ah=>h.dn x y (QK x u) (QK y ah)},dc.mono hle (g0.refl β)⟩
 ·by_cases V:b∈dA (β e)
  ·rw[fA b V]at af;exact CY b o v af
  ·rw[s6 b V]at af;exact h.good b o v af
 ·by_cases V:b∈dA (β e)
  ·rw[fA b V]at af;exact CQ b v af
  ·rw[s6 b V]at af;exact h.h9 b v af
 ·have:¬(b∈dA (β e)):=λhf=>by
   rcases ml b hf with q|q
   ·omega
   ·exact aT q
  rw[s6 b this];exact h.iL b V aT o
 ·rcases sub x o u with⟨rfl,rfl⟩|⟨hG,iC,u⟩
  ·by_cases h3:β x=.nilFunc
   ·simp only[aU];exact .inl h3
   obtain⟨b,aF,arr,W,an,au,aK,aG,bb,bC,bY,cK,di,ec,e3,oW⟩:=Dc h Z he h3;have vI:l.length=n:=by simpa [encS]using oW
   have ET:¬b∈dA (β e):=h.dn x e nY i5 j2 b (je (by rw[an];rfl));simp only[aU];refine .inr (.inr ⟨b,aF,arr,by rw[an];simp[vI],by simp[vI];exact au,aK,aG,by simpa using bb,?_,λe JN=>?_,Nat.zero_le _,(λh=>by cases h),(λo _=>by rw[s6 b ET];exact di o),ec⟩)
   ·have:=Nn hle l W.toList e3 λb V=>fA b (by rw[bC,nT];exact V);rw[←show arr.toList.take n=W.toList from cK]at this;simpa [vI]using this
   ·obtain⟨r,_,rfl⟩:=List.mem_map.1 JN;rfl
  ·exact(h.cB x o u).ah6 hle λb V=>s6 b λq=>h.dn x e (by rw[u];rfl) i5 iC b V q
section
variable {P:Program}
theorem MI{α:Type}{l:List α}{i:Int}{r:α}(h:dj l i=some r):0≤i∧i.toNat<l.length∧l[i.toNat]?=some r:=by
 unfold dj at h;split at h
 ·exact⟨‹_›,(List.getElem?_eq_some_iff.1 h).1,h⟩
 ·cases h
theorem MJ{α:Type}{aW sz:Nat}{enc:α→List U}{l:List (List α)}{i:Int}{r:List α}(h:dj l i=some r):(encS aW sz enc l)[i.toNat]?=some (.sl aW sz (r.map enc)):=by
 simp[encS,(MI h).2.2]
def Gi(aV:Nat)(a:U)(op:Op)(env:ai)(σ:Y):Option (cA×cf):=match op with
 |.load T x=>(match env.cz x with
  |some (.fm (.oI p off) e)=>(match σ.get e with
   |some (.cS cR)=>bif Nat.beq T aV then some (.y [e] a,([.fm (.oI p off) 0],[(0,.cS cR)]))else none
   |_=>none)
  |_=>none)
 |_=>none
theorem abq{aV p off hC sz:Nat}{cR:List gP}{rows:List (List U)}{a:U}(ax:cR[p]?=some (.sl hC sz rows))(aC:rows.flatten[off]?=some a)(aH:dM P aV 1 false){o:Oper}{N:Nat}{ids:List Nat}{env:ai}{σ:Y}{s:cA}{aI:cf}
  (h:Gi aV a o.op env σ=some (s,aI)) (he:aI=([.fm (.oI p off) 0],[(0,.cS cR)])):e1 ⟨P,N,ids⟩ o env σ s:=by
 cases aj:o.op<;>rw[aj]at h
 case load T x=>
  simp only[Gi]at h;split at h
  ·rename_i tD aiG e u;split at h
   ·rename_i qM V;cases aa:Nat.beq T aV with
    |false=>rw[aa]at h;cases h
    |true=>
     rw[aa]at h;have:=Nat.eq_of_beq_eq_true aa;subst this;cases h;simp only[Prod.mk.injEq,List.cons.injEq,U.fm.injEq,mO.oI.injEq,cn.cS.injEq,and_true,true_and]at he;obtain⟨⟨rfl,rfl⟩,rfl⟩:=he;exact bG.VY aj (ai.b5 u) V ax aC aH
   ·cases h
  ·cases h
 all_goals (simp only[Gi]at h;cases h)
theorem W7{α:Type}{enc:α→List U}{f:α→U}(be:∀x,enc x=[f x]){r:List α}{j:Nat}{c:α}(h:r[j]?=some c):(r.map enc).flatten[j]?=some (f c):=by
 have:(r.map enc).flatten=r.map f:=by
  clear h;induction r with
  |nil=>rfl
  |cons x r bD=>simp[be,bD]
 rw[this,List.getElem?_map,h];rfl
def Cf{α:Type}{aV aW:Nat}{enc:α→List U}{f:α→U}{l:List (List α)}{i j:Int}{r:List α}{c:α}(h:dj l i=some r)(D:dj r j=some c)(be:∀x,enc x=[f x])(aH:dM P aV 1 false):Hint P:=
 .gs false ([.fm (.oI i.toNat j.toNat) 0],[(0,.cS (encS aW 1 enc l))]) (λ_=>Gi aV (f c)) λ_ _ _ _ _ _ _ dc he=>abq (MJ h) (W7 be (MI D).2.2) aH dc he
def Gl(aV:Nat)(D2:List gP)(op:Op)(env:ai)(σ:Y):Option (cA×cf):=match op with
 |.store T x y=>(match env.cz x with
  |some (.fm (.oI p off) e)=>(match env.cz y with
   |some a=>(match σ.get e with
    |some (.cS cR)=>bif Nat.beq T aV then some (.e [e] [] .undef ((e,.cS D2)::σ.minus [e]),([.fm (.oI p off) 0,a],[(0,.cS cR)]))else none
    |_=>none)
   |_=>none)
  |_=>none)
 |_=>none
theorem abr{aV p off hC:Nat}{cR D2:List gP}{rows:List (List U)}{a:U}(aa:a.closed=true)(h1:a.one=true)(ax:cR[p]?=some (.sl hC 1 rows))(D:off<rows.length)(ak:D2=cR.set p (.sl hC 1 (rows.set off [a])))(aH:dM P aV 1 false){o:Oper}{N:Nat}{ids:List Nat}{env:ai}{σ:Y}{s:cA}{aI:cf}
  (h:Gl aV D2 o.op env σ=some (s,aI)) (he:aI=([.fm (.oI p off) 0,a],[(0,.cS cR)])):e1 ⟨P,N,ids⟩ o env σ s:=by
 cases aj:o.op<;>rw[aj]at h
 case store T x y=>
  simp only[Gl]at h;split at h
  ·rename_i tD aiG e u;split at h
   ·rename_i e8 ah;split at h
    ·rename_i qM V;cases fG:Nat.beq T aV with
     |false=>rw[fG]at h;cases h
     |true=>
      rw[fG]at h;have:=Nat.eq_of_beq_eq_true fG;subst this;cases h;simp only[Prod.mk.injEq,List.cons.injEq,U.fm.injEq,mO.oI.injEq,cn.cS.injEq,and_true,true_and]at he;obtain⟨⟨⟨rfl,rfl⟩,rfl⟩,rfl⟩:=he;subst ak;exact⟨en.VQ aj (ai.b5 u) (ai.b5 ah) aa h1 V ax D aH,rfl⟩
    ·cases h
   ·cases h
  ·cases h
 all_goals (simp only[Gl]at h;cases h)
def qT{α:Type}{aV aW:Nat}{enc:α→List U}{f:α→U}{l:List (List α)}{i j:Int}{r:List α}{c:α}(x:α)(h:dj l i=some r)(D:dj r j=some c)(be:∀x,enc x=[f x])(aa:(f x).closed=true)(h1:(f x).one=true)(aH:dM P aV 1 false):Hint P:=
 .gs true ([.fm (.oI i.toNat j.toNat) 0,f x],[(0,.cS (encS aW 1 enc l))]) (λ_=>Gl aV (encS aW 1 enc (l.set i.toNat (r.set j.toNat x)))) λ_ _ _ _ _ _ _ dc he=>
  abr aa h1 (MJ h) (by rw[List.length_map];exact(MI D).2.1) (by rw[Gp,List.map_set,be]) aH dc he
def Al(aV:Nat)(n:Nat)(op:Op)(env:ai)(σ:Y):Option (cA×cf):=match op with
 |.call ⟨.builtin .len,args,ks⟩=>(match args.toList,ks.toList with
  |[x],[T]=>(match env.cz x with
   |some (.fm (.row p) e)=>(match σ.get e with
    |some (.cS cR)=>bif Nat.beq T aV then some (.y [e] (.int .i64 (n:Int)),([.fm (.row p) 0],[(0,.cS cR)]))else none
    |_=>none)
   |_=>none)
  |_,_=>none)
 |_=>none
theorem abt{aV E n p hC sz:Nat}{cR:List gP}{rows:List (List U)}(ax:cR[p]?=some (.sl hC sz rows))(aT:rows.length=n)(aH:P.underlying aV=some (.slice E)){o:Oper}{N:Nat}{ids:List Nat}{env:ai}{σ:Y}{s:cA}{aI:cf}
  (h:Al aV n o.op env σ=some (s,aI)) (he:aI=([.fm (.row p) 0],[(0,.cS cR)])):e1 ⟨P,N,ids⟩ o env σ s:=by
 cases aj:o.op with
 |call c=>
  rw[aj]at h;obtain⟨f,args,ks⟩:=c;cases f with
  |builtin b=>
   cases b<;>first|(simp only[Al]at h;cases h;done)|skip
   simp only[Al]at h;split at h
   ·rename_i x T be hk;split at h
    ·rename_i tD e u;split at h
     ·rename_i qM V;cases aa:Nat.beq T aV with
      |false=>rw[aa]at h;cases h
      |true=>
       rw[aa]at h;have:=Nat.eq_of_beq_eq_true aa;subst this;cases h;simp only[Prod.mk.injEq,List.cons.injEq,U.fm.injEq,mO.row.injEq,cn.cS.injEq,and_true,true_and]at he;obtain⟨rfl,rfl⟩:=he;have aA:args=#[x]:=by simpa using congrArg List.toArray be
       have e2:ks=#[T]:=by simpa using congrArg List.toArray hk
       subst aA e2;subst aT;exact bG.abp aj rfl (ai.b5 u) V ax aH
     ·cases h
    ·cases h
   ·cases h
  |_=>simp only[Al]at h;cases h
 |_=>rw[aj]at h;simp only[Al]at h;cases h
def p5{α:Type}{aV E aW sz:Nat}{enc:α→List U}{l:List (List α)}{i:Int}{r:List α}(h:dj l i=some r)(aH:P.underlying aV=some (.slice E)):Hint P:=
 .gs false ([.fm (.row i.toNat) 0],[(0,.cS (encS aW sz enc l))]) (λ_=>Al aV r.length) λ_ _ _ _ _ _ _ dc he=>abt (MJ h) (by simp) aH dc he
end
structure Bb(n:Nat) where
 l:List Int
 h:l.length=n
def Bb.zero(n:Nat):Bb n:=⟨List.replicate n 0,List.length_replicate⟩
def Bb.put{n:Nat}(v:Bb n)(i:Nat)(x:Int):Bb n:=⟨v.l.set i x,by rw[List.length_set];exact v.h⟩
theorem we{σ:Y}{o eG:cn}(h:σ.get d=some eG):(σ.set d o).get d=some o:=by rw[Y.hU,if_pos rfl,h];rfl
theorem uB{σ:Y}{x:Nat}{o:cn}(h:x≠d):(σ.set d o).get x=σ.get x:=by rw[Y.hU,if_neg h]
theorem Gb{xs:List Int}:aU cx I β w d (.vec T xs)↔aU cx I β w d (.cells T (xs.map (U.int .i64))):=by
 simp only[aU];constructor
 ·rintro(h|⟨b,arr,h1,D,ak,bc⟩)
  ·exact .inl h
  ·exact .inr ⟨b,arr,h1,D,by rw[ak];exact GS xs,bc⟩
 ·rintro(h|⟨b,arr,h1,D,ak,bc⟩)
  ·exact .inl h
  ·exact .inr ⟨b,arr,h1,D,Mm xs _ ak,bc⟩
theorem bS.swap{G:cq}{σ σ2:Y}(h:bS G cx I β σ w){o ey:cn}(Z:σ.get d=some o)(xM:σ2.get d=some ey)(bl:∀x,x≠d→σ2.get x=σ.get x)(aj:aU cx I β w d o→aU cx I β w d ey):bS G cx I β σ2 w:=by
 have fc:∀x,(σ2.get x).isSome→(σ.get x).isSome:=λx u=>by
  by_cases e:x=d
  ·subst e;rw[Z];rfl
  ·rw[←bl x e];exact u
 refine{h with cB:=λx g4 u=>?_,dn:=λx y u ah=>h.dn x y (fc x u) (fc y ah)};by_cases e:x=d
 ·subst e;rw[xM]at u;cases u;exact aj (h.cB x o Z)
 ·rw[bl x e]at u;exact h.cB x g4 u
section
variable {G:cq}{σ:Y}{o:Oper}{ev:Operand→U}
theorem Yields.vec{dD R:List Nat}{bE:U}{d T:Nat}{xs:List Int}(Z:σ.get d=some (.vec T xs))(agz:d∈R)(h:Yields G o ev (σ.set d (.cells T (xs.map (U.int .i64)))) dD R bE):Yields G o ev σ dD R bE:=λaz cx I β w aP b2 aq hm hop=>by
 have dw:az.get d=some (.vec T xs):=by rw[b2 d agz];exact Z
 have lE:bS G cx I β (az.set d (.cells T (xs.map (U.int .i64)))) w:=aq.swap dw (we dw) (λx u=>uB u) Gb.1
 have:=h (az.set d (.cells T (xs.map (U.int .i64)))) cx I β w aP (λx u=>by
  by_cases e:x=d
  ·subst e;rw[we dw,we Z]
  ·rw[uB e,uB e];exact b2 x u) lE hm hop
 generalize (execOp aP o).run G.P w=r at this;have key:∀v w',(∃aS β',ar aS β' bE v∧bS G cx aS β' (az.set d (.cells T (xs.map (U.int .i64)))) w'∧b7 I aS∧(∀d,d∉dD→β' d=β d))→∃aS β',ar aS β' bE v∧bS G cx aS β' az w'∧b7 I aS∧(∀d,d∉dD→β' d=β d):=λv w' ⟨aS,β',h1,D,ak⟩=>⟨aS,β',h1,D.swap (we dw) dw (λx u=>(uB u).symm) Gb.2,ak⟩;cases r with
 |halt x w'=>exact this.elim
 |ok n w'=>cases n with
  |value v=>exact key _ _ this
  |skip=>exact key _ _ this
  |enter f args=>exact Calls.mono this λe sL ⟨v,h1,D⟩=>⟨v,h1,key _ _ D⟩
  |_=>exact this.elim
theorem Yields.arr{dD R:List Nat}{xs:List Int}(h:Yields G o ev σ dD R (.agg (xs.map (U.int .i64)))):Yields G o ev σ dD R (.arr xs):=λaz cx I β w aP b2 aq hm hop=>by
 have:=h az cx I β w aP b2 aq hm hop;generalize (execOp aP o).run G.P w=r at this;have key:∀v w',(∃aS β',ar aS β' (.agg (xs.map (U.int .i64))) v∧bS G cx aS β' az w'∧b7 I aS∧(∀d,d∉dD→β' d=β d))→∃aS β',ar aS β' (.arr xs) v∧bS G cx aS β' az w'∧b7 I aS∧(∀d,d∉dD→β' d=β d):=λv w' ⟨aS,β',h1,D⟩=>⟨aS,β',NP.1 h1,D⟩;cases r with
 |halt x w'=>exact this.elim
 |ok n w'=>cases n with
  |value v=>exact key _ _ this
  |skip=>exact key _ _ this
  |enter f args=>exact Calls.mono this λe sL ⟨v,h1,D⟩=>⟨v,h1,key _ _ D⟩
  |_=>exact this.elim
theorem g8.vec{d T ko:Nat}{xs bu:List Int}{uR:U}{M:List Nat}(mU:M=[d])(Z:σ.get d=some (.vec T xs))
  (h:g8 G o ev (σ.set d (.cells T (xs.map (U.int .i64)))) M [] (λr az=>r=uR∧az=(σ.set d (.cells T (xs.map (U.int .i64)))).set d (.cells ko (bu.map (U.int .i64))))) :
  g8 G o ev σ M [] (λr az=>r=uR∧az=σ.set d (.vec ko bu)):=λcx I β w aP aq hop=>by
 subst mU;have lE:bS G cx I β (σ.set d (.cells T (xs.map (U.int .i64)))) w:=aq.swap Z (we Z) (λx u=>uB u) Gb.1;have:=h cx I β w aP lE hop
 have conv:∀{aS β' w'},bS G cx aS β' ((σ.set d (.cells T (xs.map (U.int .i64)))).set d (.cells ko (bu.map (U.int .i64)))) w'→bS G cx aS β' (σ.set d (.vec ko bu)) w':=λD=>
  D.swap (d:=d) (we (we Z)) (we Z) (λx u=>by rw[uB u,uB u,uB u]) Gb.2
 have lZ:∀x,x∉[d]→(σ.set d (.vec ko bu)).get x=σ.get x:=λx u=>uB (by simpa using u);generalize (execOp aP o).run G.P w=r at this
 have key:∀v w',(∃bE az aS β',(bE=uR∧az=(σ.set d (.cells T (xs.map (U.int .i64)))).set d (.cells ko (bu.map (U.int .i64))))∧ar aS β' bE v∧bS G cx aS β' az w'∧b7 I aS∧(∀x,x∉([]:List Nat)→β' x=β x)∧(∀x,x∉[d]→az.get x=(σ.set d (.cells T (xs.map (U.int .i64)))).get x))→∃bE az aS β',(bE=uR∧az=σ.set d (.vec ko bu))∧ar aS β' bE v∧bS G cx aS β' az w'∧b7 I aS∧(∀x,x∉([]:List Nat)→β' x=β x)∧(∀x,x∉[d]→az.get x=σ.get x):=λv w' ⟨a,az,aS,β',⟨bJ,h1⟩,D,ak,bc,bX,_⟩=>by
  subst bJ h1;exact⟨a,_,aS,β',⟨rfl,rfl⟩,D,conv ak,bc,bX,lZ⟩
 cases r with
 |halt x w'=>exact this.elim
 |ok n w'=>cases n with
  |value v=>exact key _ _ this
  |skip=>exact key _ _ this
  |enter f args=>exact Calls.mono this λe sL ⟨v,h1,D⟩=>⟨v,h1,key _ _ D⟩
  |_=>exact this.elim
end
section
variable {P:Program}
end
end Go.Proofs.YtmnbolcmepihlaaGreat
