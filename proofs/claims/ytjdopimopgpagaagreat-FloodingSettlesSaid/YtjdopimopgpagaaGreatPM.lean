/- Several texts in one. No condition but those that stand in each. -/
import Derived.Test.YtjdopimopgpagaaGreatDA
namespace Go.Proofs.YtjdopimopgpagaaGreat
set_option linter.all false
open Go
variable {α β:Type}
theorem aK(a:α)(k:α→Option β):bnd (some a) k=k a:=rfl
variable {c:Bool}
theorem nk{k:Option β}(h:c=true):chk c k=k:=by subst h;rfl
theorem oH{p:Prop}[Decidable p]{x y:α}:(bif decide p then x else y)=if p then x else y:=by
 by_cases h:p<;>simp[h]
theorem zS{α σ β:Type}{B:Int→α→(σ→Option β)→σ→Option β}{K:σ→Option β}(f:List α→σ→Option β)(hn:∀s,K s=f [] s)
  (hc:∀(j:Int) x r s Z,(∀s',Z s'=f r s')→B j x Z s=f (x::r) s):∀(l:List α) (j:Nat) (s:σ),bJ l j B K s=f l s
 |[],_,s=>hn s
 |x::r,j,s=>hc j x r s _ λs'=>zS f hn hc r (j+1) s'
theorem aa3{α σ β:Type}{B:Int→α→(σ→Option β)→σ→Option β}{K:σ→Option β}{L:List α}(f:List α→List α→σ→Option β)(hn:∀s,K s=f L [] s)
  (hc:∀p x r s Z,p++x::r=L→(∀s',Z s'=f (p++[x]) r s')→B (p.length:Int) x Z s=f p (x::r) s):∀(l p:List α) (s:σ),p++l=L→bJ l p.length B K s=f p l s
 |[],p,s,h=>by rw[List.append_nil]at h;subst h;exact hn s
 |x::r,p,s,h=>hc p x r s _ h λs'=>by
   have:=aa3 (B:=B) (K:=K) f hn hc r (p++[x]) s' (by simpa using h)
   rw[List.length_append]at this
   exact this
def Ok{β:Type}(o:Option β)(Q:β→Prop):Prop:=∃r,o=some r∧Q r
variable {Q:β→Prop}
theorem Ok.s{r:β}(h:Q r):Ok (some r) Q:=⟨r,rfl,h⟩
theorem Ok.bnd{α β:Type}{o:Option α}{k:α→Option β}{P:α→Prop}{Q:β→Prop}(h:Ok o P)(hk:∀a,P a→Ok (k a) Q):Ok (bnd o k) Q:=by
 obtain⟨a,rfl,ha⟩:=h;exact hk a ha
theorem Ok.cs{x y:Option β}(h1:c=true→Ok x Q)(h2:c=false→Ok y Q):Ok (bif c then x else y) Q:=by
 cases c
 ·exact h2 rfl
 ·exact h1 rfl
theorem Ok.chk{β:Type}{c:Bool}{k:Option β}{Q:β→Prop}(h:c=true)(hk:Ok k Q):Ok (chk c k) Q:=by subst h;exact hk
theorem Ok.jn{σ β:Type}{k:σ→Option β}{t:(σ→Option β)→Option β}{Q:β→Prop}(R:σ→Prop)(h1:∀s,R s→Ok (k s) Q)(h2:∀J,(∀s,R s→Ok (J s) Q)→Ok (t J) Q):Ok (jn k t) Q:=h2 k h1
variable {o:Option β}
theorem Ok.mono{Q':β→Prop}(h:Ok o Q)(hq:∀r,Q r→Q' r):Ok o Q':=by
 obtain⟨r,h1,h2⟩:=h;exact⟨r,h1,hq r h2⟩
theorem Ok.bJ{α σ β:Type}{B:Int→α→(σ→Option β)→σ→Option β}{K:σ→Option β}{Q:β→Prop}(I:Nat→σ→Prop)
  (hc:∀(j:Nat) x s Z,I j s→(∀s',I (j+1) s'→Ok (Z s') Q)→Ok (B (j:Int) x Z s) Q):∀(l:List α) (j:Nat) (s:σ),I j s→(∀s,I (j+l.length) s→Ok (K s) Q)→Ok (bJ l j B K s) Q
 |[],j,s,h,hn=>hn s (by simpa using h)
 |x::r,j,s,h,hn=>hc j x s _ h λs' h'=>Ok.bJ I hc r (j+1) s' h' λs hs=>hn s (by rwa [List.length_cons,←Nat.add_assoc,Nat.add_right_comm])
variable {σ:Type}{B:Int→α→(σ→Option β)→σ→Option β}{K:σ→Option β}
theorem Ok.forM(I:Nat→σ→Prop){L:List α}
  (hc:∀(j:Nat) x s Z,j<L.length→x∈L→I j s→(∀s',I (j+1) s'→Ok (Z s') Q)→Ok (B (j:Int) x Z s) Q) (s:σ) (h:I 0 s) (hn:∀s,I L.length s→Ok (K s) Q):Ok (Go.Proofs.YtjdopimopgpagaaGreat.bJ L 0 B K s) Q:=by
 have key:∀(l:List α) (j:Nat) (s:σ),(∀x∈l,x∈L)→j+l.length=L.length→I j s→Ok (Go.Proofs.YtjdopimopgpagaaGreat.bJ l j B K s) Q:=by
  intro l
  induction l with
  |nil=>intro j s _ hj h;exact hn s (by simpa [←hj]using h)
  |cons x r ih=>
   intro j s hm hj h
   simp only[List.length_cons]at hj
   exact hc j x s _ (by omega) (hm x (by simp)) h λs' h'=>ih (j+1) s' (λy hy=>hm y (by simp[hy])) (by omega) h'
 exact key L 0 s (λ_ h=>h) (by simp) h
theorem Ok.gz{σ β:Type}{B:Int→(σ→Option β)→σ→Option β}{K:Int→σ→Option β}{Q:β→Prop}(I:Int→σ→Prop)(lo hi:Int)
  (hc:∀(i:Int) s Z,lo≤i→i<hi→I i s→(∀s',I (i+1) s'→Ok (Z s') Q)→Ok (B i Z s) Q) (hn:∀i s,lo≤i→(lo≤hi→i=hi)→I i s→Ok (K i s) Q):∀(n:Nat) (i:Int) (s:σ),n=(hi-i).toNat→lo≤i→(lo≤hi→i≤hi)→I i s→Ok (gz n i B K s) Q
 |0,i,s,hn0,h1,h2,h=>hn i s h1 (λhh=>by have:=h2 hh;omega) h
 |n+1,i,s,hn0,h1,h2,h=>hc i s _ h1 (by omega) h λs' h'=>Ok.gz I lo hi hc hn n (i+1) s' (by omega) (by omega) (λ_=>by omega) h'
theorem Ok.iter{σ β:Type}{F:(σ→Option β)→σ→Option β}{Q:β→Prop}(I:σ→Prop)(μ:σ→Nat)
  (hc:∀s Z,I s→(∀s',I s'→μ s'<μ s→Ok (Z s') Q)→Ok (F Z s) Q):∀(n:Nat) (s:σ),I s→μ s<n→Ok (iter F n s) Q
 |0,s,_,h=>by omega
 |n+1,s,h,hm=>hc s _ h λs' h' hm'=>Ok.iter I μ hc n s' h' (by omega)
theorem Ok.whl{σ β:Type}{F:(σ→Option β)→σ→Option β}{Q:β→Prop}(I:σ→Prop)(μ:σ→Nat){s:σ}(h:I s)(hm:μ s<1099511627776)
  (hc:∀s Z,I s→(∀s',I s'→μ s'<μ s→Ok (Z s') Q)→Ok (F Z s) Q):Ok (whl F s) Q:=Ok.iter I μ hc fuel s h hm
theorem Ok.get(h:Ok o Q):∃r,o=some r∧Q r:=h
theorem Ok.eq{r:β}(h:Ok o (λx=>x=r)):o=some r:=by obtain⟨x,h1,rfl⟩:=h;exact h1
theorem kr(p:List α)(x:α)(r:List α):elO (p++x::r) (p.length:Int)=some x:=by
 unfold elO;rw[if_pos (by omega)];simp
variable {i:Int}{l:List α}
theorem pK(h0:0≤i)(h:i<l.length):Ok (elO l i) (λx=>x∈l∧l[i.toNat]?=some x):=by
 unfold elO;rw[if_pos h0]
 have:i.toNat<l.length:=by omega
 exact⟨l[i.toNat],List.getElem?_eq_getElem this,List.getElem_mem this,List.getElem?_eq_getElem this⟩
variable {r:List α}
theorem dP(h:l.length+r.length≤549755813888):cV l r=some (l++r):=by unfold cV;rw[if_pos (by unfold cap;exact h)]
theorem jv(h:l.length+r.length≤549755813888):Ok (cV l r) (λm=>m=l++r∧m.length=l.length+r.length):=⟨_,dP h,rfl,by simp⟩
theorem ahf{x:α}(h0:0≤i)(h:i<l.length):Ok (iT l i x) (λm=>m=l.set i.toNat x∧m.length=l.length):=by
 unfold iT;rw[if_pos ⟨h0,h⟩];exact⟨_,rfl,rfl,by simp⟩
theorem y2{a b:Int}(h:0≤a∧a≤b∧b≤l.length):Ok (sE l a b) (λm=>m=(l.take b.toNat).drop a.toNat∧(m.length:Int)=b-a):=by
 unfold sE;rw[if_pos h];exact⟨_,rfl,rfl,by simp;omega⟩
theorem pL(p:α→Bool)(a:Option β)(hB:∀j x Z s,B j x Z s=bif p x then a else Z s)(l:List α)(j:Nat)(s:σ):bJ l j B K s=bif l.any p then a else K s:=
 zS (f:=λl s=>bif l.any p then a else K s) (λs=>rfl) (λj x r s Z hZ=>by
  rw[hB,hZ,List.any_cons];cases p x<;>rfl) l j s
end Go.Proofs.YtjdopimopgpagaaGreat
namespace Go.Proofs.YtjdopimopgpagaaGreat
set_option linter.all false
open Go
def sV(n:Int):Bool:=decide (1≤n)&&decide (n≤1000)
def hasB(t:az)(r:Int):Bool:=t.aG.any λx=>decide (x.ID=r)
def y3(r:aU):Bool:=decide (r.ID<1)||decide (99<r.ID)
def wQ(l:aS):Bool:=!sV l.jR||!sV l.jl||decide (l.bQ<0)||decide (1000<l.bQ)
def ltL(a b:aS):Bool:=decide (a.A<b.A)||(decide (a.A=b.A)&&decide (a.B<b.B))
def fQ{α:Type}(p:α→α→Bool):List α→Bool
 |a::b::r=>p a b&&fQ p (b::r)
 |_=>true
def kA(t:az):Bool:=t.aG.any y3
def kB(t:az):Bool:=fQ (λa b=>decide (a.ID<b.ID)) t.aG
def kC(t:az):Bool:=t.Links.any wQ
def kD(t:az):Bool:=t.Links.any λl=>!hasB t l.A||!hasB t l.B
def kE(t:az):Bool:=t.Links.any λl=>decide (l.B≤l.A)
def kF(t:az):Bool:=fQ ltL t.Links
def kU(t:az):Int:=
 bif decide (24<(t.aG.length:Int))||decide (60<(t.Links.length:Int))then 3
 else bif kA t then 2 else bif kB t then(bif kC t then 2 else bif kD t then 4 else bif kE t then 8 else bif kF t then 0 else 25)else 25
theorem aa5{α σ β:Type}{B:Int→α→(σ→Option β)→σ→Option β}{K:σ→Option β}{L:List α}(p:α→α→Bool)(a:Option β)
  (hB:∀(j:Nat) x y r q s Z,L=q++y::x::r→j=q.length+1→B (j:Int) x Z s=bif p y x then Z s else a):∀(r q:List α) (y:α) (s:σ),L=q++y::r→bJ r (q.length+1) B K s=bif fQ p (y::r)then K s else a
 |[],q,y,s,h=>rfl
 |x::r,q,y,s,h=>by
  simp only[bJ]
  rw[hB (q.length+1) x y r q s _ h rfl]
  have:=aa5 (B:=B) (K:=K) p a hB r (q++[y]) x s (by simpa using h)
  simp only[List.length_append,List.length_cons,List.length_nil]at this
  rw[this]
  simp only[fQ]
  cases p y x<;>rfl
variable {α β σ:Type}{L:List α}{B:Int→α→(σ→Option β)→σ→Option β}{K:σ→Option β}
theorem y4(p:α→α→Bool)(a:Option β)
  (hB:∀(j:Nat) x y r q s Z,L=q++y::x::r→j=q.length+1→B (j:Int) x Z s=bif p y x then Z s else a) (s:σ):bJ (L.drop 1) 1 B K s=bif fQ p L then K s else a:=by
 cases L with
 |nil=>rfl
 |cons y r=>exact aa5 (B:=B) (K:=K) p a hB r [] y s rfl
theorem y5(p:α→α→Bool)(a:Option β)(h0:∀x Z s,B ((0:Nat):Int) x Z s=Z s)
  (hB:∀(j:Nat) x y r q s Z,L=q++y::x::r→j=q.length+1→B (j:Int) x Z s=bif p y x then Z s else a) (s:σ):bJ L 0 B K s=bif fQ p L then K s else a:=by
 cases L with
 |nil=>rfl
 |cons y r=>
  simp only[bJ]
  rw[h0]
  exact aa5 (B:=B) (K:=K) p a hB r [] y s rfl
variable {j:Nat}
theorem mW{y x:α}{r q:List α}(h:L=q++y::x::r)(hj:j=q.length+1)(hL:(L.length:Int)≤9223372036854775807):elO L (w64 ((j:Int)-1))=some y:=by
 have hl:q.length+2≤L.length:=by rw[h];simp
 rw[cr (by omega) (by omega),show(j:Int)-1=(q.length:Int)by omega,h,kr]
theorem aiW(n:Int):pE n=some (sV n):=rfl
theorem afr(t:az)(r:Int):mP t r=some (hasB t r):=by
 unfold mP
 refine(pL (λx:aU=>decide (x.ID=r)) (some true) ?_ _ _ _).trans ?_
 ·intros;rfl
 ·unfold hasB;cases t.aG.any _<;>rfl
theorem pM(t:az):gK t=some (kU t):=by
 unfold gK kU
 by_cases hlen:(decide (24<(t.aG.length:Int))||decide (60<(t.Links.length:Int)))=true
 ·rw[hlen];rfl
 rw[Bool.not_eq_true]at hlen
 rw[hlen]
 simp only[cond_false]
 simp only[Bool.or_eq_false_iff,decide_eq_false_iff_not]at hlen
 refine(pL y3 (some 2) ?_ _ _ _).trans ?_
 ·intros;rfl
 unfold kA
 cases t.aG.any y3
 case true=>rfl
 simp only[cond_false]
 refine(y4 (λa b:aU=>decide (a.ID<b.ID)) (some 25) ?_ _).trans ?_
 ·intro j x y r q s Z h hj
  simp only[mW h hj (by omega),aK,oH]
  split<;>split<;>first|rfl|omega
 unfold kB
 cases fQ _ t.aG
 case false=>rfl
 simp only[cond_true]
 refine(pL wQ (some 2) ?_ _ _ _).trans ?_
 ·intro j x Z s
  simp only[jn,aiW,aK,wQ]
  cases sV x.jR<;>cases sV x.jl<;>simp[oH]<;>(try split)<;>(try split)<;>simp_all<;>omega
 unfold kC
 cases t.Links.any wQ
 case true=>rfl
 simp only[cond_false]
 refine(pL (λl=>!hasB t l.A||!hasB t l.B) (some 4) ?_ _ _ _).trans ?_
 ·intro j x Z s
  simp only[jn,afr,aK]
  cases hasB t x.A<;>cases hasB t x.B<;>rfl
 unfold kD
 cases t.Links.any _
 case true=>rfl
 simp only[cond_false]
 refine(pL (λl=>decide (l.B≤l.A)) (some 8) ?_ _ _ _).trans ?_
 ·intros;rfl
 unfold kE
 cases t.Links.any _
 case true=>rfl
 simp only[cond_false]
 refine(y4 ltL (some 25) ?_ _).trans ?_
 ·intro j x y r q s Z h hj
  have e:(decide (x.A<y.A)||(decide (y.A=x.A)&&decide (x.B≤y.B)))=!ltL y x:=by
   rw[Bool.eq_iff_iff];simp[ltL];omega
  simp only[mW h hj (by omega),aK]
  rw[e]
  cases ltL y x<;>rfl
 unfold kF
 cases fQ ltL t.Links<;>rfl
theorem vI{α σ:Type}{B:Int→α→(σ→Option Int)→σ→Option Int}{K:σ→Option Int}(p:α→Bool)(hB:∀j x Z s,B j x Z s=bif p x then some j else Z s)(hK:∀s,K s=some (-1)):∀(l:List α) (j:Nat) (s:σ),∃r,bJ l j B K s=some r∧decide (0≤r)=l.any p
 |[],j,s=>⟨-1,hK s,rfl⟩
 |x::r,j,s=>by
  simp only[bJ,hB,List.any_cons]
  cases p x
  ·simpa using vI p hB hK r (j+1) s
  ·exact⟨j,rfl,by simp⟩
theorem cfR(l:List aU)(f:aU→Option Bool)(p:aU→Bool)(hf:∀x,f x=some (p x)):dw l f=some (l.any p):=by
 unfold dw dX
 obtain⟨r,h1,h2⟩:=vI (B:=λ(j1:Int) (e1:aU) (Z1:Unit→Option Int) (sg:Unit)=>match sg with|()=>bnd (f e1) λ(ah:Bool)=>bif ah then some (j1:Int)else Z1 ()) (K:=λ(sg:Unit)=>match sg with|()=>some (-1:Int)) p (λj x Z s=>by simp only[hf,aK]) (λ_=>rfl) l 0 ()
 simp only[h1,aK,h2]
theorem cfL(l:List aS)(f:aS→Option Bool)(p:aS→Bool)(hf:∀x,f x=some (p x)):cE l f=some (l.any p):=by
 unfold cE eF
 obtain⟨r,h1,h2⟩:=vI (B:=λ(j1:Int) (e1:aS) (Z1:Unit→Option Int) (sg:Unit)=>match sg with|()=>bnd (f e1) λ(ah:Bool)=>bif ah then some (j1:Int)else Z1 ()) (K:=λ(sg:Unit)=>match sg with|()=>some (-1:Int)) p (λj x Z s=>by simp only[hf,aK]) (λ_=>rfl) l 0 ()
 simp only[h1,aK,h2]
def ei(x y:Int):Int:=if x<y then -1 else if y<x then 1 else 0
theorem aco(x y:Int):ez x y=some (ei x y):=by
 unfold ez mA ei
 simp only[aK,decide_true,Bool.not_true,cond_false,oH]
 split<;>(try split)<;>rfl
variable {x:Int}
theorem afs{y:Int}:ei x y<0↔x<y:=by unfold ei;split<;>(try split)<;>omega
theorem qe{y:Int}:ei x y=0↔x=y:=by unfold ei;split<;>(try split)<;>omega
def orI:List Int→Int
 |[]=>0
 |x::r=>if x=0 then orI r else x
theorem apn(l:List Int):nE l=some (orI l):=by
 unfold nE
 refine(zS (f:=λl _=>some (orI l)) ?_ ?_ _ _ _)
 ·intros;rfl
 ·intro j x r s Z hZ
  simp only[orI,hZ]
  by_cases h:x=0<;>simp[h]
def cmpL(a b:aS):Int:=orI [ei a.A b.A,ei a.B b.B]
theorem aao(a b:aS):iH a b=some (cmpL a b):=by
 unfold iH;simp only[aco,aK,apn];rfl
theorem aec(r:aU)(id:Int):kI r id=some (ei r.ID id):=by
 unfold kI;simp only[aco,aK]
variable {a b:aS}
theorem zT:cmpL a b<0↔ltL a b=true:=by
 have:cmpL a b<0↔a.A<b.A∨(a.A=b.A∧a.B<b.B):=by
  simp only[cmpL,orI]
  split
  ·rename_i h
   rw[qe]at h
   split
   ·rename_i h2;rw[qe]at h2;omega
   ·rw[afs];omega
  ·rename_i h
   rw[qe]at h
   rw[afs];omega
 rw[this];simp[ltL]
theorem cmpL_eq:cmpL a b=0↔a.A=b.A∧a.B=b.B:=by
 simp only[cmpL,orI]
 split
 ·rename_i h
  rw[qe]at h
  split
  ·rename_i h2;rw[qe]at h2;omega
  ·rename_i h2;rw[qe]at h2 ⊢;omega
 ·rename_i h
  rw[qe]at h ⊢;omega
def bsG{α:Type}[Inhabited α](f:α→Int)(l:List α)(i j:Nat):Nat:=
 if h:i<j then if f (el l ((i+j) / 2:Nat))<0 then bsG f l ((i+j) / 2+1) j else bsG f l i ((i+j) / 2)else i
 termination_by j-i
 decreasing_by all_goals omega
def bsR{α:Type}[Inhabited α](f:α→Int)(l:List α):Nat:=bsG f l 0 l.length
def bsT{α:Type}[Inhabited α](f:α→Int)(l:List α):Bool:=decide (bsR f l<l.length)&&decide (f (el l (bsR f l))=0)
variable {f:α→Int}{i:Nat}{l:List α}
theorem ahg[Inhabited α](h:i<j)(hf:f (el l ((i+j) / 2:Nat))<0):bsG f l i j=bsG f l ((i+j) / 2+1) j:=by
 rw[bsG,dif_pos h,if_pos hf]
theorem ahh[Inhabited α](h:i<j)(hf:¬f (el l ((i+j) / 2:Nat))<0):bsG f l i j=bsG f l i ((i+j) / 2):=by
 rw[bsG,dif_pos h,if_neg hf]
theorem acp[Inhabited α](h:j≤i):bsG f l i j=i:=by
 rw[bsG,dif_neg (by omega)]
theorem vJ[Inhabited α](h:i<l.length):el l i=l[i]:=by
 simp[el,List.getD_eq_getElem?_getD,h]
theorem aed[Inhabited α](h:i<l.length):el l i∈l:=by
 rw[vJ h];exact List.getElem_mem h
theorem uk[Inhabited α](h:i<l.length):elO l (i:Int)=some (el l i):=by
 unfold elO;rw[if_pos (by omega),vJ h];simp[h]
theorem acq(h:i+j≤4611686018427387904):w64 (Int.fdiv (IntKind.wrap .u64 (w64 ((i:Int)+(j:Int)))) (2 ^ min (1:Int).toNat 64))=(((i+j) / 2:Nat):Int):=by
 have e1:w64 ((i:Int)+(j:Int))=((i+j:Nat):Int):=by rw[cr (by omega) (by omega)];simp
 have e2:IntKind.wrap .u64 ((i+j:Nat):Int)=((i+j:Nat):Int):=akH (by omega) (by omega)
 rw[e1,e2]
 have e3:(2:Int) ^ min (1:Int).toNat 64=2:=rfl
 rw[e3,Int.fdiv_eq_ediv_of_nonneg _ (by omega)]
 rw[cr (by omega) (by omega)];simp
theorem acr[Inhabited α]{F:((Int×Int)→Option (Int×Bool))→(Int×Int)→Option (Int×Bool)}(l:List α)(f:α→Int)(hl:l.length≤1000000)
  (hF:∀(i j:Nat) Z,j≤l.length→F Z ((i:Int),(j:Int))=if h:i<j then(if f (el l ((i+j) / 2:Nat))<0 then Z ((((i+j) / 2+1:Nat):Int),(j:Int))else Z ((i:Int),(((i+j) / 2:Nat):Int)))else some ((i:Int),decide (i<l.length)&&decide (f (el l i)=0))) :
  whl F ((0:Int),(l.length:Int))=some ((bsR f l:Int),bsT f l):=by
 refine Ok.eq (Ok.whl (I:=λs=>∃i j:Nat,s=((i:Int),(j:Int))∧i≤j∧j≤l.length∧bsG f l i j=bsR f l) (μ:=λs=>(s.2-s.1).toNat) ⟨0,l.length,rfl,by omega,by omega,rfl⟩ ?_ ?_)
 ·show((l.length:Int)-0).toNat<_;omega
 ·rintro s Z ⟨i,j,rfl,h1,h2,h3⟩ hz
  rw[hF i j Z h2]
  split
  ·rename_i hij
   split
   ·rename_i hf
    exact hz _ ⟨_,_,rfl,by omega,h2,by rw[←h3,ahg hij hf]⟩ (by show((j:Int)-_).toNat<((j:Int)-i).toNat;omega)
   ·rename_i hf
    exact hz _ ⟨_,_,rfl,by omega,by omega,by rw[←h3,ahh hij hf]⟩ (by show((((i+j) / 2:Nat):Int)-i).toNat<((j:Int)-i).toNat;omega)
  ·rename_i hij
   have:bsR f l=i:=by rw[←h3,acp (by omega)]
   exact⟨_,rfl,by simp only[bsT,this]⟩
theorem apo(l:List aU)(x:Int)(c:aU→Int→Option Int)(f:aU→Int)(hl:l.length≤1000000)(hc:∀r,c r x=some (f r)):cu l x c=some ((bsR f l:Int),bsT f l):=by
 unfold cu
 refine acr l f hl λi j Z hj=>?_
 by_cases hij:i<j
 ·rw[dif_pos hij]
  simp only[acq (i:=i) (j:=j) (by omega),uk (show(i+j) / 2<l.length by omega),aK,hc,oH]
  rw[if_pos (by omega),cr (by omega) (by omega)]
  rfl
 ·rw[dif_neg hij]
  simp only[oH]
  rw[if_neg (by omega)]
  by_cases hi:i<l.length
  ·rw[if_pos (by omega),uk hi];simp only[aK,hc];simp[hi]
  ·rw[if_neg (by omega)];simp[hi]
theorem bsLk(l:List aS)(x:aS)(c:aS→aS→Option Int)(f:aS→Int)(hl:l.length≤1000000)(hc:∀r,c r x=some (f r)):cH l x c=some ((bsR f l:Int),bsT f l):=by
 unfold cH
 refine acr l f hl λi j Z hj=>?_
 by_cases hij:i<j
 ·rw[dif_pos hij]
  simp only[acq (i:=i) (j:=j) (by omega),uk (show(i+j) / 2<l.length by omega),aK,hc,oH]
  rw[if_pos (by omega),cr (by omega) (by omega)]
  rfl
 ·rw[dif_neg hij]
  simp only[oH]
  rw[if_neg (by omega)]
  by_cases hi:i<l.length
  ·rw[if_pos (by omega),uk hi];simp only[aK,hc];simp[hi]
  ·rw[if_neg (by omega)];simp[hi]
theorem aiX[Inhabited α](hm:∀a b:Nat,a≤b→b<l.length→f (el l a)≤f (el l b)):∀(n i j:Nat),j-i≤n→i≤j→j≤l.length→(∀m:Nat,m<i→f (el l m)<0)→(∀m:Nat,j≤m→m<l.length→0≤f (el l m))→
  bsG f l i j≤l.length∧(∀m:Nat,m<bsG f l i j→f (el l m)<0)∧(∀m:Nat,bsG f l i j≤m→m<l.length→0≤f (el l m)):=by
 intro n
 induction n with
 |zero=>
  intro i j hn hij hj h1 h2
  rw[acp (by omega)]
  exact⟨by omega,h1,λm hm'=>h2 m (by omega)⟩
 |succ n ih=>
  intro i j hn hij hj h1 h2
  by_cases h:i<j
  ·by_cases hf:f (el l ((i+j) / 2:Nat))<0
   ·rw[ahg h hf]
    refine ih _ _ (by omega) (by omega) hj (λm hm'=>?_) h2
    have:=hm m ((i+j) / 2) (by omega) (by omega)
    omega
   ·rw[ahh h hf]
    refine ih _ _ (by omega) (by omega) (by omega) h1 (λm hm' hml=>?_)
    have:=hm ((i+j) / 2) m hm' hml
    omega
  ·rw[acp (by omega)]
   exact⟨by omega,h1,λm hm'=>h2 m (by omega)⟩
theorem aee[Inhabited α](hm:∀a b:Nat,a≤b→b<l.length→f (el l a)≤f (el l b)):
  bsR f l≤l.length∧(∀m:Nat,m<bsR f l→f (el l m)<0)∧(∀m:Nat,bsR f l≤m→m<l.length→0≤f (el l m)):=
 aiX hm l.length 0 l.length (by omega) (by omega) (by omega) (λm h=>by omega) (λm h1 h2=>by omega)
theorem acs[Inhabited α](hm:∀a b:Nat,a≤b→b<l.length→f (el l a)≤f (el l b)):bsT f l=true↔∃x∈l,f x=0:=by
 obtain⟨h1,h2,h3⟩:=aee hm
 simp only[bsT,Bool.and_eq_true,decide_eq_true_eq]
 constructor
 ·rintro⟨q1,q2⟩
  exact⟨_,aed q1,q2⟩
 ·rintro⟨x,hx,hf⟩
  obtain⟨m,hm1,rfl⟩:=List.getElem_of_mem hx
  rw[←vJ hm1]at hf
  have hle:bsR f l≤m:=by
   by_cases q:m<bsR f l
   ·have:=h2 m q;omega
   ·omega
  have hlt:bsR f l<l.length:=by omega
  have:=h3 _ (Nat.le_refl _) hlt
  have:=hm _ _ hle hm1
  exact⟨hlt,by omega⟩
theorem rJ[Inhabited α](h:l.Pairwise (λa b=>f a≤f b)):∀a b:Nat,a≤b→b<l.length→f (el l a)≤f (el l b):=by
 intro a b hab hb
 rcases Nat.lt_or_eq_of_le hab with hab|rfl
 ·have:=List.pairwise_iff_getElem.1 h a b (by omega) hb hab
  rwa [vJ (by omega),vJ hb]
 ·exact Int.le_refl _
theorem pN{α:Type}{p:α→α→Bool}(ht:∀a b c,p a b=true→p b c=true→p a c=true):∀{l:List α},fQ p l=true→l.Pairwise (λa b=>p a b=true)
 |[],_=>List.Pairwise.nil
 |[x],_=>by simp
 |a::b::r,h=>by
  simp only[fQ,Bool.and_eq_true]at h
  have ih:=pN ht h.2
  rw[List.pairwise_cons]
  refine⟨λz hz=>?_,ih⟩
  rcases List.mem_cons.1 hz with rfl|hz
  ·exact h.1
  ·exact ht _ _ _ h.1 ((List.pairwise_cons.1 ih).1 z hz)
theorem nL{α:Type}{p:α→α→Bool}:∀{l:List α},l.Pairwise (λa b=>p a b=true)→fQ p l=true
 |[],_=>rfl
 |[x],_=>rfl
 |a::b::r,h=>by
  rw[List.pairwise_cons]at h
  simp only[fQ,Bool.and_eq_true]
  exact⟨h.1 b (by simp),nL h.2⟩
variable {t:az}
theorem ahi(h:kB t=true):t.aG.Pairwise (λa b=>a.ID<b.ID):=by
 have:=pN (p:=λa b:aU=>decide (a.ID<b.ID)) (λa b c h1 h2=>by simp at h1 h2 ⊢;omega) h
 exact this.imp (λh=>by simpa using h)
theorem amu(h:kB t=true)(id:Int):∀a b:Nat,a≤b→b<t.aG.length→ei (el t.aG a).ID id≤ei (el t.aG b).ID id:=
 rJ (f:=λr:aU=>ei r.ID id) ((ahi h).imp (λ{a b} h=>by unfold ei;split<;>(try split)<;>(try split)<;>(try split)<;>omega))
def aiY(t:az)(id:Int):Bool:=!bsT (λr=>ei r.ID id) t.aG
theorem aft(h:kB t=true)(id:Int):aiY t id=!hasB t id:=by
 simp only[aiY,hasB]
 congr 1
 rw[Bool.eq_iff_iff,acs (amu h id)]
 simp[qe]
theorem y6(t:az):gD t=some (kU t):=by
 unfold gD kU
 by_cases hlen:(decide (24<(t.aG.length:Int))||decide (60<(t.Links.length:Int)))=true
 ·rw[hlen];rfl
 rw[Bool.not_eq_true]at hlen
 rw[hlen]
 simp only[cond_false]
 simp only[Bool.or_eq_false_iff,decide_eq_false_iff_not]at hlen
 rw[cfR t.aG _ y3 (λx=>by simp only[mB,je,aK,y3];congr 1;rw[Bool.eq_iff_iff];simp)]
 simp only[aK]
 unfold kA
 cases t.aG.any y3
 case true=>rfl
 simp only[cond_false]
 refine(y5 (λa b:aU=>decide (a.ID<b.ID)) (some 25) ?_ ?_ _).trans ?_
 ·intros;rfl
 ·intro j x y r q s Z h hj
  simp only[jn,mW h hj (by omega),aK,oH]
  rw[if_pos (by omega)]
  split<;>split<;>first|rfl|omega
 cases hB:kB t
 case false=>unfold kB at hB;rw[hB];rfl
 have hB':=hB
 unfold kB at hB'
 rw[hB']
 simp only[cond_true]
 rw[cfL t.Links j9 wQ (λx=>by
  simp only[j9,je,aK,wQ,sV]
  simp only[oH,Bool.not_and,Bool.cond_eq_ite,Bool.or_eq_true,Bool.not_eq_true',decide_eq_false_iff_not]
  split
  ·congr 1;symm;rw[Bool.eq_iff_iff];simp;omega
  ·split
   ·congr 1;symm;rw[Bool.eq_iff_iff];simp;omega
   ·congr 1;rw[Bool.eq_iff_iff];simp;omega)]
 simp only[aK]
 unfold kC
 cases t.Links.any wQ
 case true=>rfl
 simp only[cond_false]
 have hu:∀id,iI id t=some (!hasB t id):=λid=>by
  unfold iI
  rw[apo t.aG id _ (λr=>ei r.ID id) (by omega) (λr=>aec r id)]
  simp only[aK]
  rw[←aft hB];rfl
 rw[cfL t.Links _ (λl=>!hasB t l.A||!hasB t l.B) (λx=>by
  simp only[mC,hu,aK]
  cases hasB t x.A<;>rfl)]
 simp only[aK]
 unfold kD
 cases t.Links.any _
 case true=>rfl
 simp only[cond_false]
 rw[cfL t.Links mD (λl=>decide (l.B≤l.A)) (λx=>rfl)]
 simp only[aK]
 unfold kE
 cases t.Links.any _
 case true=>rfl
 simp only[cond_false]
 refine(y5 ltL (some 25) ?_ ?_ _).trans ?_
 ·intros;rfl
 ·intro j x y r q s Z h hj
  simp only[jn,mW h hj (by omega),aK,aao,oH]
  rw[if_pos (by omega)]
  cases hlt:ltL y x
  ·have:¬cmpL y x<0:=by rw[zT,hlt];simp
   rw[if_pos (by omega)];rfl
  ·have:=zT.2 hlt
   rw[if_neg (by omega)];rfl
 unfold kF
 cases fQ ltL t.Links<;>rfl
end Go.Proofs.YtjdopimopgpagaaGreat
namespace Go.Proofs.YtjdopimopgpagaaGreat
set_option linter.all false
open Go
def cR(t:aX):Prop:=0≤t.At∧t.At≤t.L.length∧t.L.length≤600
theorem apr(n:Int):w64 n≤9223372036854775807∧-9223372036854775808≤w64 n:=by
 unfold w64
 rw[IntKind.wrap_i64];omega
theorem aps{x n:Int}(hn:n≤9223372036854775807):Ok (pF x n) (λr=>0≤r∧(1≤n→r<n)∧(n<1→r=0)):=by
 unfold pF
 refine Ok.cs (λh=>Ok.s ?_) λh=>?_
 ·simp at h;omega
 have h:1≤n:=by simpa using h
 have h1:Int.tmod x n<n:=Int.tmod_lt_of_pos _ (by omega)
 have h2 : -n<Int.tmod x n:=Int.lt_tmod_of_pos _ (by omega)
 refine Ok.chk (by simp;omega) ?_
 refine Ok.jn (λr=>0≤r∧r<n) (λs hs=>Ok.s ⟨hs.1,λ_=>hs.2,by omega⟩) λJ hJ=>?_
 refine Ok.cs (λhc=>hJ _ ?_) λhc=>hJ _ ?_
 ·simp at hc;rw[cr (by omega) (by omega)];omega
 ·simp at hc;omega
variable {t:aX}
theorem apt(h:cR t):Ok (oy t) (λp=>cR p.2):=by
 obtain⟨h0,h1,h2⟩:=h
 unfold oy
 refine Ok.cs (λ_=>Ok.s ⟨h0,h1,h2⟩) λhc=>?_
 simp at hc
 have e:w64 (t.At+1)=t.At+1:=cr (by omega) (by omega)
 rw[e,cr (by omega) (by omega)]
 refine Ok.bnd (pK (by omega) (by omega)) λa _=>Ok.s ⟨?_,?_,h2⟩<;>show _<;>simp<;>omega
theorem jM{n:Int}(h:cR t)(hn:n≤9223372036854775807):Ok (cq t n) (λp=>(0≤p.1∧(1≤n→p.1<n)∧(n<1→p.1=0))∧cR p.2):=by
 unfold cq
 exact Ok.bnd (apt h) λp hp=>Ok.bnd (aps hn) λr hr=>Ok.s ⟨hr,hp⟩
theorem pO{low high:Int}(h:cR t):Ok (ee t low high) (λp=>(-2305843009213693952≤low→low≤high→high<2305843009213693952→low≤p.1∧p.1≤high)∧cR p.2):=by
 unfold ee
 refine Ok.bnd (jM h (apr _).1) λp hp=>Ok.s ⟨λh1 h2 h3=>?_,hp.2⟩
 obtain⟨⟨q1,q2,_⟩,_⟩:=hp
 rw[cr (n:=high-low) (by omega) (by omega),cr (n:=high-low+1) (by omega) (by omega)]at q2
 show low≤w64 (low+p.1)∧w64 (low+p.1)≤high
 rw[cr (by omega) (by omega)];omega
theorem mh{l:List Int}(h:cR t)(h0:1≤l.length)(h1:l.length≤1000000):Ok (dA t l) (λp=>p.1∈l∧cR p.2):=by
 unfold dA
 refine Ok.bnd (jM h (by omega)) λp hp=>?_
 exact Ok.bnd (pK hp.1.1 (hp.1.2.1 (by omega))) λa ha=>Ok.s ⟨ha.1,hp.2⟩
theorem y7{n:Int}(h:cR t)(hn:n≤9223372036854775807):Ok (gL t n) (λp=>cR p.2):=by
 unfold gL
 exact Ok.bnd (jM h hn) λp hp=>Ok.s hp.2
theorem acu(h:cR t):Ok (fV t) (λp=>cR p.2):=by
 unfold fV
 exact Ok.bnd (mh h (by decide) (by decide)) λp hp=>Ok.s hp.2
theorem apu(l:List Int):Ok (vt l) cR:=by
 unfold vt
 refine Ok.jn (λm:List Int=>m.length≤600) (λs hs=>Ok.s ⟨by simp,by simp,hs⟩) λJ hJ=>?_
 refine Ok.cs (λhc=>?_) λhc=>hJ _ ?_
 ·simp at hc
  exact Ok.bnd (y2 ⟨by omega,by omega,by omega⟩) λm hm=>hJ _ (by omega)
 ·simp at hc;omega
end Go.Proofs.YtjdopimopgpagaaGreat
namespace Go.Proofs.YtjdopimopgpagaaGreat
set_option linter.all false
open Go
variable {α:Type}
theorem amw[DecidableEq α]{l:List α}{v:α}:l.any (λx=>decide (x=v))=decide (v∈l):=by
 rw[Bool.eq_iff_iff];simp
theorem uV(l:List Int)(n:Int):iz l n=some (decide (n∈l)):=by
 unfold iz
 refine(pL (λx:Int=>decide (x=n)) (some true) ?_ _ _ _).trans ?_
 ·intros;rfl
 ·rw[amw];cases decide (n∈l)<;>rfl
theorem afu(l:List Int)(n:Int):dV l n=some (decide (n∈l)):=by
 unfold dV jm
 obtain⟨r,h1,h2⟩:=vI (B:=λ(j1:Int) (e1:Int) (Z1:Unit→Option Int) (sg:Unit)=>match sg with|()=>bif decide (n=e1)then some (j1:Int)else Z1 ()) (K:=λ(sg:Unit)=>match sg with|()=>some (-1:Int)) (λx=>decide (n=x)) (λj x Z s=>rfl) (λ_=>rfl) l 0 ()
 simp only[h1,aK,h2]
 congr 1
 rw[Bool.eq_iff_iff];simp
theorem acv(a:aU):ua a a=true:=by simp[ua]
theorem aef(a:aS):wV a a=true:=by simp[wV]
def uG(l:List pz)(a b:Int):Bool:=l.any λh=>wW (pz.mk a b) h
theorem ahj(l:List pz)(a b:Int):oz l a b=some (uG l a b||uG l b a):=by
 unfold oz
 refine(pL (λh:pz=>wW (pz.mk a b) h||wW (pz.mk b a) h) (some true) ?_ _ _ _).trans ?_
 ·intro j x Z s
  congr 1
  rw[Bool.eq_iff_iff]
  obtain⟨f,t⟩:=x
  simp[wW]
  constructor
  ·split
   ·rintro(h|h)<;>omega
   ·intro h;omega
  ·rintro(h|h)
   ·rw[if_pos (by omega)];omega
   ·split<;>omega
 ·have:(l.any λh:pz=>wW (pz.mk a b) h||wW (pz.mk b a) h)=(uG l a b||uG l b a):=by
   rw[Bool.eq_iff_iff];simp[uG,List.any_eq_true]
   constructor
   ·rintro⟨x,hx,h|h⟩
    ·exact .inl ⟨x,hx,h⟩
    ·exact .inr ⟨x,hx,h⟩
   ·rintro(⟨x,hx,h⟩|⟨x,hx,h⟩)
    ·exact⟨x,hx,.inl h⟩
    ·exact⟨x,hx,.inr h⟩
  rw[this];cases(uG l a b||uG l b a)<;>rfl
theorem rU{α γ β:Type}{B:Int→α→(List γ→Option β)→List γ→Option β}{K:List γ→Option β}(p:α→Bool)(f:α→γ):
  ∀(l:List α) (j:Nat) (s:List γ),(∀(j:Nat) x Z s,x∈l→s.length<1000000→B j x Z s=bif p x then Z (s++[f x])else Z s)→l.length+s.length≤1000000→bJ l j B K s=K (s++(l.filter p).map f)
 |[],j,s,_,_=>by simp[bJ]
 |x::r,j,s,hB,h=>by
  simp only[List.length_cons]at h
  simp only[bJ]
  rw[hB j x _ s (by simp) (by omega)]
  have hB':∀(j:Nat) y Z s,y∈r→s.length<1000000→B j y Z s=bif p y then Z (s++[f y])else Z s:=λj y Z s hy=>hB j y Z s (by simp[hy])
  cases hp:p x
  ·rw[cond_false,rU p f r (j+1) s hB' (by omega),List.filter_cons_of_neg (by simp[hp])]
  ·rw[cond_true,rU p f r (j+1) (s++[f x]) hB' (by simp;omega),List.filter_cons_of_pos hp]
   simp
theorem aeg{s:List α}{x:α}(h:s.length<1000000):cV s [x]=some (s++[x]):=dP (by simp;omega)
theorem y8{a b:List Int}(ha:a.Pairwise (·<·))(hb:b.Pairwise (·<·))(h:∀x,x∈a↔x∈b):a=b:=by
 induction a generalizing b with
 |nil=>
  cases b with
  |nil=>rfl
  |cons y b=>exact absurd ((h y).2 (by simp)) (by simp)
 |cons x a ih=>
  cases b with
  |nil=>exact absurd ((h x).1 (by simp)) (by simp)
  |cons y b=>
   rw[List.pairwise_cons]at ha hb
   have hxy:x=y:=by
    have h1:=(h x).1 (by simp)
    have h2:=(h y).2 (by simp)
    rw[List.mem_cons]at h1 h2
    rcases h1 with h1|h1
    ·exact h1
    ·rcases h2 with h2|h2
     ·exact h2.symm
     ·have:=hb.1 _ h1;have:=ha.1 _ h2;omega
   subst hxy
   congr 1
   refine ih ha.2 hb.2 λz=>?_
   have:=h z
   simp only[List.mem_cons]at this
   constructor
   ·intro hz
    rcases this.1 (.inr hz)with q|q
    ·subst q;have:=ha.1 _ hz;omega
    ·exact q
   ·intro hz
    rcases this.2 (.inr hz)with q|q
    ·subst q;have:=hb.1 _ hz;omega
    ·exact q
variable {l:List Int}
theorem aeh(h:l.Nodup):(jk l).Pairwise (·<·):=by
 have h1:=vm l
 have h2:(jk l).Nodup:=(sC l).nodup_iff.2 h
 have:=h1.and h2
 exact this.imp (λ⟨a,b⟩=>by omega)
variable {x:Int}
theorem ac4:x∈jk l↔x∈l:=(sC l).mem_iff
structure Vt(t:az):Prop where
 nr:t.aG.length≤24
 nl:t.Links.length≤60
 idr:∀r∈t.aG,1≤r.ID∧r.ID≤99
 asc:t.aG.Pairwise (λa b=>a.ID<b.ID)
 okl:∀l∈t.Links,wQ l=false
 ends:∀l∈t.Links,hasB t l.A=true∧hasB t l.B=true
 lt:∀l∈t.Links,l.A<l.B
 y9:t.Links.Pairwise (λa b=>ltL a b=true)
theorem wq(a b c:aS)(h1:ltL a b=true)(h2:ltL b c=true):ltL a c=true:=by
 simp[ltL]at *;omega
theorem any_false{l:List α}{p:α→Bool}:l.any p=false↔∀x∈l,p x=false:=by
 rw[List.any_eq_false];simp
variable {t:az}
theorem jx:kU t=0↔Vt t:=by
 unfold kU
 constructor
 ·intro h
  by_cases h1:(decide (24<(t.aG.length:Int))||decide (60<(t.Links.length:Int)))=true
  ·rw[h1]at h;cases h
  simp only[Bool.not_eq_true]at h1
  rw[h1,cond_false]at h
  cases h2:kA t<;>rw[h2]at h<;>first|cases h;done|skip
  cases h3:kB t<;>rw[h3]at h<;>first|cases h;done|skip
  cases h4:kC t<;>rw[h4]at h<;>first|cases h;done|skip
  cases h5:kD t<;>rw[h5]at h<;>first|cases h;done|skip
  cases h6:kE t<;>rw[h6]at h<;>first|cases h;done|skip
  cases h7:kF t<;>rw[h7]at h<;>first|cases h;done|skip
  simp only[Bool.or_eq_false_iff,decide_eq_false_iff_not]at h1
  refine⟨by omega,by omega,λr hr=>?_,ahi h3,any_false.1 h4,λl hl=>?_,λl hl=>?_,pN wq h7⟩
  ·have:=any_false.1 h2 r hr;simp[y3]at this;omega
  ·have:=any_false.1 h5 l hl;simpa using this
  ·have:=any_false.1 h6 l hl;simpa using this
 ·intro h
  have h1:(decide (24<(t.aG.length:Int))||decide (60<(t.Links.length:Int)))=false:=by
   have:=h.nr;have:=h.nl;simp;omega
  have h2:kA t=false:=any_false.2 λr hr=>by have:=h.idr r hr;simp[y3];omega
  have h3:kB t=true:=nL (h.asc.imp λh=>by simpa using h)
  have h4:kC t=false:=any_false.2 h.okl
  have h5:kD t=false:=any_false.2 λl hl=>by have:=h.ends l hl;simp[this]
  have h6:kE t=false:=any_false.2 λl hl=>by have:=h.lt l hl;simp;omega
  have h7:kF t=true:=nL h.y9
  rw[h1,h2,h3,h4,h5,h6,h7];rfl
theorem wu(t:az):gE t=some (decide (kU t=0)):=by
 unfold gE;rw[y6];rfl
variable {r:Int}
theorem tH:hasB t r=true↔∃x∈t.aG,x.ID=r:=by simp[hasB]
def zU(f:fk)(l:aS):Bool:=decide (l.A∈f.aG)||decide (l.B∈f.aG)||uG f.Links l.A l.B||uG f.Links l.B l.A
def woT(t:az)(f:fk):az:=az.mk (t.aG.filter λr=>!decide (r.ID∈f.aG)) (t.Links.filter λl=>!zU f l)
theorem Vt.wo(h:Vt t)(f:fk):Vt (woT t f):=by
 have sr:(woT t f).aG.Sublist t.aG:=List.filter_sublist
 have sl:(woT t f).Links.Sublist t.Links:=List.filter_sublist
 refine⟨Nat.le_trans sr.length_le h.nr,Nat.le_trans sl.length_le h.nl,λr hr=>h.idr r (sr.subset hr),h.asc.sublist sr,λl hl=>h.okl l (sl.subset hl),λl hl=>?_,λl hl=>h.lt l (sl.subset hl),h.y9.sublist sl⟩
 have hm:=List.mem_filter.1 hl
 have he:=h.ends l hm.1
 have hg:=hm.2
 simp[zU]at hg
 rw[tH,tH]at he ⊢
 obtain⟨⟨x,hx,ex⟩,⟨y,hy,ey⟩⟩:=he
 refine⟨⟨x,List.mem_filter.2 ⟨hx,?_⟩,ex⟩,⟨y,List.mem_filter.2 ⟨hy,?_⟩,ey⟩⟩
 ·rw[ex];simp[hg]
 ·rw[ey];simp[hg]
def xX(t:az)(f:fk):az:=if kU t=0 then woT t f else az.mk [] []
theorem ae0(t:az)(f:fk):kH t f=some (xX t f):=by
 unfold kH xX
 simp only[pM,aK]
 by_cases h:kU t=0
 ·have hv:=jx.1 h
  have:=hv.nr;have:=hv.nl
  simp only[h,decide_true,Bool.not_true,cond_false,if_true]
  refine(rU (λr:aU=>!decide (r.ID∈f.aG)) id _ _ _ ?_ (by simp;omega)).trans ?_
  ·intro j x Z s _ hs
   simp only[jn,uV,aK,aeg hs];rfl
  refine(rU (λl:aS=>!zU f l) id _ _ _ ?_ (by simp;omega)).trans ?_
  ·intro j x Z s _ hs
   simp only[jn,uV,ahj,aK,aeg hs,zU,id]
   cases decide (x.A∈f.aG)<;>cases decide (x.B∈f.aG)<;>cases uG f.Links x.A x.B<;>cases uG f.Links x.B x.A<;>rfl
  ·simp[woT]
 ·simp[h]
theorem ahk(t:az):nD t t=some true:=by
 unfold nD
 simp only[decide_true,Bool.not_true,Bool.or_false,cond_false]
 refine aa3 (L:=t.aG) (f:=λ_ _ _=>some true) ?_ ?_ t.aG [] () rfl
 ·intro s
  refine aa3 (L:=t.Links) (f:=λ_ _ _=>some true) ?_ ?_ t.Links [] () rfl
  ·intros;rfl
  ·intro p x r s Z h hZ
   simp only[←h,kr,aK,aef,Bool.not_true,cond_false,hZ]
 ·intro p x r s Z h hZ
  simp only[←h,kr,aK,acv,Bool.not_true,cond_false,hZ]
theorem afv(t:az)(r:Int):mQ t r=some (decide (kU t=0)&&hasB t r):=by
 unfold mQ
 simp only[pM,afr,aK]
 cases decide (kU t=0)<;>rfl
def xY(t:az)(r:Int):aU×Bool:=if bsT (λx:aU=>ei x.ID r) t.aG then(el t.aG (bsR (λx:aU=>ei x.ID r) t.aG),true)else(aU.mk 0 false,false)
theorem aei(t:az)(r:Int)(hl:t.aG.length≤1000000):kJ t r=some (xY t r):=by
 unfold kJ xY
 rw[apo t.aG r _ (λx=>ei x.ID r) hl (λx=>aec x r)]
 simp only[aK]
 cases h:bsT (λx:aU=>ei x.ID r) t.aG
 ·rfl
 ·have h2:bsR (λx:aU=>ei x.ID r) t.aG<t.aG.length:=by
   simp only[bsT,Bool.and_eq_true,decide_eq_true_eq]at h;exact h.1
  simp only[Bool.not_true,cond_false,uk h2,aK,if_true]
theorem acw(h:Vt t)(r:Int):bsT (λx:aU=>ei x.ID r) t.aG=hasB t r:=by
 have:=aft (t:=t) (nL (h.asc.imp λh=>by simpa using h)) r
 simpa [aiY]using this
theorem afw(t:az)(r:Int)(hl:t.aG.length≤1000000):iJ t r=some (decide (kU t=0)&&hasB t r):=by
 unfold iJ
 simp only[aei t r hl,wu,aK]
 by_cases h:kU t=0
 ·simp only[h,decide_true,cond_true,Bool.true_and,xY,acw (jx.1 h)]
  cases hasB t r<;>rfl
 ·simp[h]
theorem find_eq(h:Vt t){x:aU}(hx:x∈t.aG):xY t x.ID=(x,true):=by
 unfold xY
 have h1:hasB t x.ID=true:=tH.2 ⟨x,hx,rfl⟩
 have h2:=acw h x.ID
 rw[h1]at h2
 rw[if_pos h2]
 simp only[bsT,Bool.and_eq_true,decide_eq_true_eq]at h2
 obtain⟨q1,q2⟩:=h2
 rw[qe]at q2
 have hm:=aed q1
 have hu:∀a∈t.aG,∀b∈t.aG,a.ID=b.ID→a=b:=by
  intro a ha b hb hab
  obtain⟨i,hi,rfl⟩:=List.getElem_of_mem ha
  obtain⟨j,hj,rfl⟩:=List.getElem_of_mem hb
  have:=List.pairwise_iff_getElem.1 h.asc
  rcases Nat.lt_trichotomy i j with q|q|q
  ·have:=this i j hi hj q;omega
  ·subst q;rfl
  ·have:=this j i hj hi q;omega
 rw[hu _ hm _ hx q2]
theorem rV{σ β:Type}{B:Int→α→(σ→Option β)→σ→Option β}{K:σ→Option β}(p:α→Bool)(g:α→Option β)(hB:∀j x Z s,B j x Z s=bif p x then g x else Z s)(l:List α)(j:Nat)(s:σ):
  bJ l j B K s=match l.find? p with|some x=>g x|none=>K s:=
 zS (f:=λl s=>match l.find? p with|some x=>g x|none=>K s) (λs=>rfl) (λj x r s Z hZ=>by
  rw[hB,hZ,List.find?_cons];cases p x<;>rfl) l j s
theorem ahl(h:Vt t){a b:aU}(ha:a∈t.aG)(hb:b∈t.aG)(hab:a.ID=b.ID):a=b:=by
 obtain⟨i,hi,rfl⟩:=List.getElem_of_mem ha
 obtain⟨j,hj,rfl⟩:=List.getElem_of_mem hb
 have:=List.pairwise_iff_getElem.1 h.asc
 rcases Nat.lt_trichotomy i j with q|q|q
 ·have:=this i j hi hj q;omega
 ·subst q;rfl
 ·have:=this j i hj hi q;omega
theorem aej(h:Vt t){a b:aS}(ha:a∈t.Links)(hb:b∈t.Links)(hA:a.A=b.A)(hB:a.B=b.B):a=b:=by
 obtain⟨i,hi,rfl⟩:=List.getElem_of_mem ha
 obtain⟨j,hj,rfl⟩:=List.getElem_of_mem hb
 have:=List.pairwise_iff_getElem.1 h.y9
 rcases Nat.lt_trichotomy i j with q|q|q
 ·have:=this i j hi hj q;simp[ltL]at this;omega
 ·subst q;rfl
 ·have:=this j i hj hi q;simp[ltL]at this;omega
theorem amx(h:Vt t)(hh:hasB t r=false):xY t r=(aU.mk 0 false,false):=by
 unfold xY
 rw[acw h,hh];rfl
theorem agp(t:az)(r:Int)(hl:t.aG.length≤1000000):∃b,kf t r=some b∧iV t r=some b:=by
 unfold kf iV
 simp only[aei t r hl,wu,pM,aK]
 by_cases h:kU t=0
 ·have hv:=jx.1 h
  simp only[h,decide_true,cond_true,Bool.not_true,cond_false]
  refine⟨_,rfl,?_⟩
  refine(rV (λx:aU=>decide (x.ID=r)) (λx=>some x.aW) (λ_ _ _ _=>rfl) _ _ _).trans ?_
  cases hf:t.aG.find? (λx=>decide (x.ID=r))with
  |none=>
   have:hasB t r=false:=any_false.2 λx hx=>by simpa using List.find?_eq_none.1 hf x hx
   rw[amx hv this]
  |some x=>
   have hm:=List.mem_of_find?_eq_some hf
   have hp:=List.find?_some hf
   have hp:x.ID=r:=by simpa using hp
   subst hp
   rw[find_eq hv hm]
 ·simp only[h,decide_false,cond_false,Bool.not_false,cond_true]
  exact⟨_,rfl,rfl⟩
def fH(l:aS)(a b:Int):Bool:=(decide (l.A=a)&&decide (l.B=b))||(decide (l.B=a)&&decide (l.A=b))
def mj(a b:Int)(l:aS):Int×Bool:=(bif decide (l.A=a)&&decide (l.B=b)then l.jR else l.jl,true)
def pP(t:az)(a b:Int):Int×Bool:=match t.Links.find? (λl=>fH l a b)with|some l=>mj a b l|none=>(0,false)
def eT(t:az)(a b:Int):Bool:=t.Links.any λl=>fH l a b
theorem wz(t:az)(a b:Int):kR t a b=some (pP t a b):=by
 unfold kR pP
 refine(rV (λl:aS=>fH l a b) (λl=>some (mj a b l)) (λj x Z s=>?_) _ _ _).trans ?_
 ·unfold fH mj
  cases decide (x.A=a)&&decide (x.B=b)<;>cases decide (x.B=a)&&decide (x.A=b)<;>rfl
 ·cases t.Links.find? _<;>rfl
theorem ac5(t:az)(a b:Int):(pP t a b).2=eT t a b:=by
 unfold pP eT
 cases hf:t.Links.find? (λl=>fH l a b)with
 |none=>symm;exact any_false.2 λx hx=>by simpa using List.find?_eq_none.1 hf x hx
 |some x=>
  symm
  exact List.any_eq_true.2 ⟨x,List.mem_of_find?_eq_some hf,by simpa using List.find?_some hf⟩
variable {a b:Int}
theorem aek(h:Vt t){l:aS}(hm:l∈t.Links)(he:fH l a b=true):pP t a b=mj a b l:=by
 unfold pP
 cases hf:t.Links.find? (λl=>fH l a b)with
 |none=>exact absurd he (List.find?_eq_none.1 hf l hm)
 |some x=>
  have hx:=List.mem_of_find?_eq_some hf
  have hp:=List.find?_some hf
  have h1:=h.lt _ hm
  have h2:=h.lt _ hx
  simp[fH]at he hp
  rw[aej h hx hm (by omega) (by omega)]
theorem amy(h:Vt t)(v:aS):∀a b:Nat,a≤b→b<t.Links.length→cmpL (el t.Links a) v≤cmpL (el t.Links b) v:=by
 refine rJ (f:=λl:aS=>cmpL l v) (h.y9.imp λ{a b} hab=>?_)
 have c3:∀x y:Int,ei x y = -1∨ei x y=0∨ei x y=1:=λx y=>by
  unfold ei;split
  ·exact .inl rfl
  ·split
   ·exact .inr (.inr rfl)
   ·exact .inr (.inl rfl)
 have:∀x y:aS,cmpL x y = -1∨cmpL x y=0∨cmpL x y=1:=λx y=>by
  have q1:=c3 x.A y.A
  have q2:=c3 x.B y.B
  simp only[cmpL,orI]
  generalize ei x.A y.A=p at *
  generalize ei x.B y.B=q at *
  by_cases h1:p=0
  ·by_cases h2:q=0<;>simp[h1,h2];omega
  ·simp[h1];omega
 have h1:=@zT a v
 have h2:=@zT b v
 have h3:=@cmpL_eq a v
 have h4:=@cmpL_eq b v
 have q1:=this a v
 have q2:=this b v
 simp[ltL]at hab h1 h2
 omega
theorem aiZ(t:az)(a b:Int)(hl:t.Links.length≤1000000):kK t a b=some (if kU t=0 then pP t a b else(0,false)):=by
 unfold kK
 simp only[wu,aK]
 by_cases h:kU t=0
 ·have hv:=jx.1 h
  simp only[h,decide_true,Bool.not_true,cond_false,if_true]
  generalize hv2:aS.mk (if b<a then b else a) (if b>a then b else a) 0 0 0=v
  rw[bsLk t.Links v _ (λx=>cmpL x v) hl (λx=>aao x v)]
  simp only[aK]
  have hA:v.A=if b<a then b else a:=by rw[←hv2]
  have hB:v.B=if b>a then b else a:=by rw[←hv2]
  cases hT:bsT (λx:aS=>cmpL x v) t.Links
  ·simp only[Bool.not_false,cond_true]
   congr 1
   unfold pP
   cases hf:t.Links.find? (λl=>fH l a b)with
   |none=>rfl
   |some x=>
    exfalso
    have hx:=List.mem_of_find?_eq_some hf
    have hp:=List.find?_some hf
    have h2:=h
    have:=(acs (f:=λx:aS=>cmpL x v) (amy hv v)).2 ⟨x,hx,by
     rw[cmpL_eq,hA,hB]
     have:=hv.lt _ hx
     simp[fH]at hp
     split<;>split<;>omega⟩
    rw[hT]at this;cases this
  ·simp only[bsT,Bool.and_eq_true,decide_eq_true_eq]at hT
   obtain⟨q1,q2⟩:=hT
   rw[cmpL_eq,hA,hB]at q2
   have hm:=aed q1
   simp only[Bool.not_true,cond_false,uk q1,aK]
   have hlt:=hv.lt _ hm
   have e:fH (el t.Links (bsR (λx:aS=>cmpL x v) t.Links)) a b=true:=by
    simp[fH];by_cases q3:b<a<;>by_cases q4:b>a<;>simp only[q3,q4,if_true,if_false]at q2<;>omega
   rw[aek hv hm e]
   unfold mj
   by_cases hab:a<b
   ·have:decide (a<b)=true:=by simpa using hab
    rw[this,cond_true]
    have:(decide ((el t.Links (bsR (λx:aS=>cmpL x v) t.Links)).A=a)&&decide ((el t.Links (bsR (λx:aS=>cmpL x v) t.Links)).B=b))=true:=by
     simp;by_cases q3:b<a<;>by_cases q4:b>a<;>simp only[q3,q4,if_true,if_false]at q2<;>omega
    rw[this];rfl
   ·have:decide (a<b)=false:=by simpa using hab
    rw[this,cond_false]
    have:(decide ((el t.Links (bsR (λx:aS=>cmpL x v) t.Links)).A=a)&&decide ((el t.Links (bsR (λx:aS=>cmpL x v) t.Links)).B=b))=false:=by
     simp;by_cases q3:b<a<;>by_cases q4:b>a<;>simp only[q3,q4,if_true,if_false]at q2<;>omega
    rw[this];rfl
 ·simp[h]
def ids(t:az):List Int:=t.aG.map (·.ID)
theorem ael(h:Vt t):(ids t).Pairwise (·<·):=List.pairwise_map.2 h.asc
theorem nM:r∈ids t↔hasB t r=true:=by rw[tH];simp[ids]
theorem lH:eT t a b=true↔∃l∈t.Links,(l.A=a∧l.B=b)∨(l.B=a∧l.A=b):=by
 simp[eT,fH]
theorem rK(h:eT t a b=true):eT t b a=true:=by
 rw[lH]at h ⊢
 obtain⟨l,hl,h⟩:=h
 exact⟨l,hl,by omega⟩
theorem aem(hv:Vt t)(h:eT t a b=true):a≠b:=by
 rw[lH]at h
 obtain⟨l,hl,h⟩:=h
 have:=hv.lt l hl
 omega
theorem qf(hv:Vt t)(h:eT t a b=true):b∈ids t:=by
 rw[lH]at h
 obtain⟨l,hl,h⟩:=h
 have:=hv.ends l hl
 rcases h with⟨h1,h2⟩|⟨h1,h2⟩<;>rw[nM,←h2]
 ·exact this.2
 ·exact this.1
def iB(t:az)(r:Int):List Int:=(ids t).filter λx=>eT t r x
theorem vK(hv:Vt t)(r:Int):(iB t r).Pairwise (·<·):=(ael hv).sublist List.filter_sublist
theorem fe(hv:Vt t):x∈iB t r↔eT t r x=true:=by
 unfold iB;rw[List.mem_filter]
 exact⟨λh=>h.2,λh=>⟨qf hv h,h⟩⟩
theorem aen(hv:Vt t)(r:Int):nC t r=some (iB t r):=by
 unfold nC
 have:=hv.nr
 refine(rU (λx:aU=>eT t r x.ID) (·.ID) _ _ _ ?_ (by simp;omega)).trans ?_
 ·intro j x Z s _ hs
  simp only[jn,wz,ac5,aK,aeg hs]
 ·simp only[List.nil_append,iB,ids]
  rw[List.filter_map];rfl
def qJ(r:Int)(l:aS):Option Int:=if r=l.A then some l.B else if r=l.B then some l.A else none
theorem za{α γ β:Type}{B:Int→α→(List γ→Option β)→List γ→Option β}{K:List γ→Option β}(f:α→Option γ):
  ∀(l:List α) (j:Nat) (s:List γ),(∀(j:Nat) x Z s,x∈l→s.length<1000000→B j x Z s=match f x with|some y=>Z (s++[y])|none=>Z s)→l.length+s.length≤1000000→bJ l j B K s=K (s++l.filterMap f)
 |[],j,s,_,_=>by simp[bJ]
 |x::r,j,s,hB,h=>by
  simp only[List.length_cons]at h
  simp only[bJ]
  rw[hB j x _ s (by simp) (by omega)]
  have hB':∀(j:Nat) y Z s,y∈r→s.length<1000000→B j y Z s=match f y with|some y=>Z (s++[y])|none=>Z s:=λj y Z s hy=>hB j y Z s (by simp[hy])
  cases hp:f x with
  |none=>simp only;rw[za f r (j+1) s hB' (by omega),List.filterMap_cons_none hp]
  |some y=>simp only;rw[za f r (j+1) (s++[y]) hB' (by simp;omega),List.filterMap_cons_some hp];simp
theorem ae1(hv:Vt t)(r:Int):(t.Links.filterMap (qJ r)).Nodup:=by
 have key:∀l:List aS,(∀x∈l,x.A<x.B)→l.Pairwise (λa b=>ltL a b=true)→(l.filterMap (qJ r)).Nodup:=by
  intro l
  induction l with
  |nil=>intros;simp
  |cons x l ih=>
   intro h1 h2
   rw[List.pairwise_cons]at h2
   have ih:=ih (λy hy=>h1 y (by simp[hy])) h2.2
   cases hx:qJ r x with
   |none=>rw[List.filterMap_cons_none hx];exact ih
   |some y=>
    rw[List.filterMap_cons_some hx,List.nodup_cons]
    refine⟨λhm=>?_,ih⟩
    obtain⟨z,hz,hzy⟩:=List.mem_filterMap.1 hm
    have h3:=h2.1 z hz
    have h4:=h1 x (by simp)
    have h5:=h1 z (by simp[hz])
    unfold qJ at hx hzy
    simp[ltL]at h3
    split at hx<;>split at hzy<;>(try split at hx)<;>(try split at hzy)<;>simp at hx hzy<;>omega
 exact key _ hv.lt hv.y9
theorem ahm(hv:Vt t):x∈t.Links.filterMap (qJ r)↔eT t r x=true:=by
 rw[List.mem_filterMap,lH]
 constructor
 ·rintro⟨l,hl,h⟩
  unfold qJ at h
  refine⟨l,hl,?_⟩
  split at h
  ·simp at h;omega
  ·split at h
   ·simp at h;omega
   ·cases h
 ·rintro⟨l,hl,h⟩
  refine⟨l,hl,?_⟩
  have:=hv.lt l hl
  unfold qJ
  rcases h with h|h
  ·rw[if_pos (by omega),h.2]
  ·rw[if_neg (by omega),if_pos (by omega),h.2]
theorem aeo(hv:Vt t)(r:Int):gv t r=some (iB t r):=by
 unfold gv
 have:=hv.nl
 refine(za (qJ r) _ _ _ ?_ (by simp;omega)).trans ?_
 ·intro j x Z s _ hs
  simp only[jn,aeg hs,aK,qJ]
  by_cases h1:r=x.A
  ·simp[h1]
  ·by_cases h2:r=x.B<;>simp[h1,h2]
   simp[←h2,h1]
 ·have hlen:(t.Links.filterMap (qJ r)).length≤60:=Nat.le_trans (List.length_filterMap_le _ _) (by omega)
  simp only[List.nil_append]
  rw[nk (by simp;omega)]
  congr 1
  refine y8 (aeh (ae1 hv r)) (vK hv r) λx=>?_
  rw[ac4,ahm hv,fe hv]
theorem acy(t:az)(r:Int):iK t r=some (if kU t=0 then iB t r else[]):=by
 unfold iK
 simp only[wu,aK]
 by_cases h:kU t=0
 ·simp[h,aeo (jx.1 h),aK]
 ·simp[h]
end Go.Proofs.YtjdopimopgpagaaGreat
namespace Go.Proofs.YtjdopimopgpagaaGreat
set_option linter.all false
open Go
variable {α β σ:Type}{L:List α}{G:Option β→Prop}{B:Int→α→(σ→Option β)→σ→Option β}{K:σ→Option β}
theorem as4(I:List α→σ→Prop)
  (hc:∀(p:List α) x r s Z,L=p++x::r→I p s→(∀s',I (p++[x]) s'→G (Z s'))→G (B (p.length:Int) x Z s)) (s:σ) (h:I [] s) (hn:∀s,I L s→G (K s)):G (bJ L 0 B K s):=by
 have key:∀(l p:List α) (s:σ),L=p++l→I p s→G (bJ l p.length B K s):=by
  intro l
  induction l with
  |nil=>intro p s hj h;exact hn s (by rw[hj,List.append_nil];exact h)
  |cons x r ih=>
   intro p s hj h
   refine hc p x r s _ hj h λs' h'=>?_
   have:=ih (p++[x]) s' (by simp[hj]) h'
   rwa [List.length_append]at this
 exact key L [] s rfl h
theorem gwhl{F:(σ→Option β)→σ→Option β}(I:σ→Prop)(μ:σ→Nat){s:σ}(h:I s)(hm:μ s<1099511627776)
  (hc:∀s Z,I s→(∀s',I s'→μ s'<μ s→G (Z s'))→G (F Z s)):G (whl F s):=by
 have key:∀(n:Nat) (s:σ),I s→μ s<n→G (iter F n s):=by
  intro n
  induction n with
  |zero=>intro s _ h;omega
  |succ n ih=>intro s h hm;exact hc s _ h λs' h' hm'=>ih s' h' (by omega)
 exact key fuel s h hm
theorem Ok.pQ{Q:β→Prop}(I:List α→σ→Prop)
  (hc:∀(p:List α) x r s Z,L=p++x::r→I p s→(∀s',I (p++[x]) s'→Ok (Z s') Q)→Ok (B (p.length:Int) x Z s) Q) (s:σ) (h:I [] s) (hn:∀s,I L s→Ok (K s) Q):Ok (Go.Proofs.YtjdopimopgpagaaGreat.bJ L 0 B K s) Q:=by
 have key:∀(l p:List α) (s:σ),L=p++l→I p s→Ok (Go.Proofs.YtjdopimopgpagaaGreat.bJ l p.length B K s) Q:=by
  intro l
  induction l with
  |nil=>intro p s hj h;exact hn s (by rw[hj,List.append_nil];exact h)
  |cons x r ih=>
   intro p s hj h
   refine hc p x r s _ hj h λs' h'=>?_
   have:=ih (p++[x]) s' (by simp[hj]) h'
   rwa [List.length_append]at this
 exact key L [] s rfl h
theorem pR{a b:List Int}(h:a.Nodup)(hs:∀x∈a,x∈b):a.length≤b.length:=by
 induction a generalizing b with
 |nil=>simp
 |cons x a ih=>
  rw[List.nodup_cons]at h
  have hx:=hs x (by simp)
  have:=ih (b:=b.erase x) h.2 λy hy=>(List.mem_erase_of_ne (λe=>h.1 (by rw[←e];exact hy))).2 (hs y (by simp[hy]))
  rw[List.length_erase_of_mem hx]at this
  have:=List.length_pos_of_mem hx
  simp only[List.length_cons];omega
inductive Cn(t:az)(c:List Int):Int→Int→Prop
 |refl {a:Int} (h:a∉c):Cn t c a a
 |step {a b d:Int} (h:Cn t c a b) (ha:eT t b d=true) (hd:d∉c):Cn t c a d
variable {a b:Int}{c:List Int}{t:az}
theorem Cn.trans{d:Int}(h1:Cn t c a b)(h2:Cn t c b d):Cn t c a d:=by
 induction h2 with
 |refl _=>exact h1
 |step _ ha hd ih=>exact .step ih ha hd
theorem Cn.left(h:Cn t c a b):a∉c:=by
 induction h with
 |refl h=>exact h
 |step _ _ _ ih=>exact ih
theorem Cn.right(h:Cn t c a b):b∉c:=by
 cases h with
 |refl h=>exact h
 |step _ _ hd=>exact hd
theorem Cn.symm(h:Cn t c a b):Cn t c b a:=by
 induction h with
 |refl h=>exact .refl h
 |step h ha hd ih=>exact(Cn.step (.refl hd) (rK ha) h.right).trans ih
theorem Cn.ids{t:az}(hv:Vt t){c:List Int}{a b:Int}(h:Cn t c a b)(ha:a∈ids t):b∈ids t:=by
 cases h with
 |refl h=>exact ha
 |step _ hd _=>exact qf hv hd
theorem Cn.stays{S:Int→Prop}(h:Cn t c a b)(ha:S a)(hs:∀x,S x→∀y,eT t x y=true→S y∨y∈c):S b:=by
 induction h with
 |refl _=>exact ha
 |step _ hd hc ih=>exact(hs _ ih _ hd).resolve_right hc
open Classical in
noncomputable def wA(t:az)(c:List Int)(r:Int):List Int:=(ids t).filter λx=>decide (Cn t c r x)
variable {r:Int}
theorem zb(hv:Vt t){x:Int}(hr:r∈ids t):x∈wA t c r↔Cn t c r x:=by
 unfold wA
 rw[List.mem_filter]
 simp only[decide_eq_true_eq]
 exact⟨λh=>h.2,λh=>⟨h.ids hv hr,h⟩⟩
theorem aep(hv:Vt t)(c:List Int)(r:Int):(wA t c r).Pairwise (·<·):=(ael hv).sublist List.filter_sublist
theorem zV(hv:Vt t):(ids t).length≤24:=by have:=hv.nr;simpa [ids]using this
theorem apv(hv:Vt t)(c:List Int):∀(n:Nat) (r:Int) (out:List Int),out.Nodup→(∀x∈out,x∈ids t)→r∈ids t→(ids t).length+1≤n+out.length→
  Ok (gT n r out c t.aG t.Links) (λo=>∃new,o=out++new∧o.Nodup∧(∀x∈new,Cn t c r x)∧(r∈o∨r∈c)∧(∀x∈new,∀y,eT t x y=true→y∈o∨y∈c)):=by
 intro n
 induction n with
 |zero=>intro r out h1 h2 _ h3;have:=pR h1 h2;omega
 |succ n ih=>
  intro r out h1 h2 hr h3
  unfold gT
  simp only[afu,aK,jn]
  by_cases q1:r∈out
  ·simp only[q1,decide_true,cond_true]
   exact Ok.s ⟨[],by simp,h1,by simp,.inl q1,by simp⟩
  ·simp only[q1,decide_false,cond_false]
   by_cases q2:r∈c
   ·simp only[q2,decide_true,cond_true]
    exact Ok.s ⟨[],by simp,h1,by simp,by simp[q2],by simp⟩
   ·simp only[q2,decide_false,cond_false]
    have hol:=pR h1 h2
    have:=zV hv
    rw[dP (by simp;omega),aK,show(az.mk t.aG t.Links)=t from rfl,aeo hv,aK]
    refine Ok.pQ (λp m=>∃new,m=(out++[r])++new∧m.Nodup∧(∀x∈new,Cn t c r x)∧(∀x∈p,x∈m∨x∈c)∧(∀x∈new,∀y,eT t x y=true→y∈m∨y∈c)) ?_ _ ?_ ?_
    ·rintro p e rest m Z hL ⟨new,hm,hnd,hcn,hp,had⟩ hZ
     have oq:eT t r e=true:=(fe hv).1 (by rw[hL];simp)
     have hsub:∀x∈m,x∈ids t:=by
      intro x hx
      rw[hm]at hx
      simp only[List.mem_append,List.mem_cons,List.not_mem_nil,or_false]at hx
      rcases hx with(hx|rfl)|hx
      ·exact h2 x hx
      ·exact hr
      ·exact(hcn x hx).ids hv hr
     refine Ok.bnd (ih e m hnd hsub (qf hv oq) (by rw[hm];simp;omega)) ?_
     rintro o ⟨new2,ho,qw,qx,hoe,hoad⟩
     refine hZ _ ⟨new++new2,by rw[ho,hm];simp,qw,?_,?_,?_⟩
     ·intro x hx
      rcases List.mem_append.1 hx with hx|hx
      ·exact hcn x hx
      ·have:=qx x hx
       exact(Cn.step (.refl q2) oq this.left).trans this
     ·intro x hx
      rcases List.mem_append.1 hx with hx|hx
      ·rcases hp x hx with h|h
       ·exact .inl (by rw[ho];simp[h])
       ·exact .inr h
      ·simp only[List.mem_cons,List.not_mem_nil,or_false]at hx;subst hx;exact hoe
     ·intro x hx y hy
      rcases List.mem_append.1 hx with hx|hx
      ·rcases had x hx y hy with h|h
       ·exact .inl (by rw[ho];simp[h])
       ·exact .inr h
      ·exact hoad x hx y hy
    ·refine⟨[],by simp,?_,by simp,by simp,by simp⟩
     rw[List.nodup_append]
     refine⟨h1,by simp,?_⟩
     intro a ha b hb
     simp only[List.mem_cons,List.not_mem_nil,or_false]at hb
     subst hb
     exact λe=>q1 (e▸ha)
    ·rintro m ⟨new,hm,hnd,hcn,hp,had⟩
     refine Ok.s ⟨r::new,by rw[hm];simp,hnd,?_,.inl (by rw[hm];simp),?_⟩
     ·intro x hx
      rcases List.mem_cons.1 hx with rfl|hx
      ·exact .refl q2
      ·exact hcn x hx
     ·intro x hx y hy
      rcases List.mem_cons.1 hx with rfl|hx
      ·exact hp y ((fe hv).2 hy)
      ·exact had x hx y hy
theorem ae2(hv:Vt t)(hr:r∈ids t)(c:List Int):kg t r c=some (wA t c r):=by
 have:=zV hv
 obtain⟨o,h1,new,ho,hnd,hcn,hro,had⟩:=apv hv c fuel r [] List.nodup_nil (by simp) hr (by unfold fuel;simp;omega)
 unfold kg
 rw[h1,aK]
 rw[List.nil_append]at ho
 subst ho
 have hlen:=pR hnd λx hx=>(hcn x hx).ids hv hr
 rw[nk (by simp;omega)]
 congr 1
 refine y8 (aeh hnd) (aep hv c r) λx=>?_
 rw[ac4,zb hv hr]
 refine⟨hcn x,λh=>?_⟩
 have hro:=hro.resolve_right h.left
 exact h.stays (S:=λx=>x∈o) hro had
theorem apw{l:List Int}{n:Int}(hl:l.Pairwise (·<·))(hlen:l.length≤1000000):Ok (nB l n) (λm=>m.Pairwise (·<·)∧∀x,x∈m↔x=n∨x∈l):=by
 unfold nB
 refine Ok.whl (λa:Int=>(0≤a∧a≤l.length)∧∀x∈l.take a.toNat,x<n) (λa=>((l.length:Int)-a).toNat) ⟨⟨by omega,by omega⟩,by simp⟩ (by omega) ?_
 rintro a Z ⟨⟨h0,h1⟩,hlt⟩ hZ
 have split:l.take a.toNat++l.drop a.toNat=l:=List.take_append_drop _ _
 refine Ok.jn (λv:Bool=>(v=true→a<l.length∧∀x∈l.take (a+1).toNat,x<n)∧(v=false→∀x∈l.drop a.toNat,n≤x)) (λv hv=>?_) λJ hJ=>?_
 ·refine Ok.cs (λh=>?_) λh=>?_
  ·obtain⟨q1,q2⟩:=hv.1 h
   rw[cr (by omega) (by omega)]
   exact hZ _ ⟨⟨by omega,by omega⟩,q2⟩ (by omega)
  ·have hge:=hv.2 h
   refine Ok.jn (λv:Bool=>(v=true→n∈l)∧(v=false→∀x∈l.drop a.toNat,n<x)) (λv hv=>?_) λJ2 hJ2=>?_
   ·refine Ok.cs (λh=>Ok.s ⟨hl,λx=>⟨.inr,?_⟩⟩) λh=>?_
    ·rintro(rfl|hx)
     ·exact hv.1 h
     ·exact hx
    ·have hgt:=hv.2 h
     refine Ok.bnd (y2 ⟨by omega,by omega,by omega⟩) λl1 e1=>?_
     refine Ok.bnd (jv (by simp;omega)) λl2 e2=>?_
     refine Ok.bnd (jv (by simp at e2 ⊢;omega)) λl3 e3=>?_
     refine Ok.bnd (y2 ⟨by omega,by omega,by omega⟩) λl4 e4=>?_
     refine Ok.bnd (jv (by simp at e2 e3 ⊢;omega)) λl5 e5=>?_
     have f:l5=l.take a.toNat++n::l.drop a.toNat:=by
      rw[e5.1,e4.1,e3.1,e2.1,e1.1];simp
     refine Ok.s ?_
     rw[f]
     have hl':=hl
     rw[←split,List.pairwise_append]at hl'
     obtain⟨p1,p2,p3⟩:=hl'
     refine⟨?_,λx=>?_⟩
     ·rw[List.pairwise_append,List.pairwise_cons]
      refine⟨p1,⟨λy hy=>hgt y hy,p2⟩,λx hx y hy=>?_⟩
      rcases List.mem_cons.1 hy with rfl|hy
      ·exact hlt x hx
      ·exact p3 x hx y hy
     ·have:x∈l↔x∈l.take a.toNat∨x∈l.drop a.toNat:=by rw[←List.mem_append,split]
      rw[this];simp only[List.mem_append,List.mem_cons]
      constructor
      ·rintro(h|h|h)<;>simp[h]
      ·rintro(h|h|h)<;>simp[h]
   ·refine Ok.cs (λhc=>?_) λhc=>hJ2 _ ⟨by simp,λ_ x hx=>?_⟩
    ·have hc:a<l.length:=by simpa using hc
     refine Ok.bnd (pK h0 hc) λe he=>hJ2 _ ⟨λh=>?_,λh x hx=>?_⟩
     ·have:e=n:=by simpa using h
      rw[←this];exact he.1
     ·have hne:e≠n:=by simpa using h
      have hd:l.drop a.toNat=e::l.drop (a.toNat+1):=by
       have hi:a.toNat<l.length:=by omega
       rw[List.drop_eq_getElem_cons hi]
       have:=he.2
       rw[List.getElem?_eq_getElem hi]at this
       injection this with this
       rw[this]
      have hen:=hge e (by rw[hd];simp)
      rw[hd]at hx
      rcases List.mem_cons.1 hx with rfl|hx
      ·omega
      ·have hp:(l.drop a.toNat).Pairwise (·<·):=hl.sublist (List.drop_sublist _ _)
       rw[hd,List.pairwise_cons]at hp
       have:=hp.1 x hx;omega
    ·have hc:(l.length:Int)≤a:=by simpa using hc
     rw[List.drop_eq_nil_of_le (by omega)]at hx
     simp at hx
 ·refine Ok.cs (λhc=>?_) λhc=>hJ _ ⟨by simp,λ_ x hx=>?_⟩
  ·have hc:a<l.length:=by simpa using hc
   have hi:a.toNat<l.length:=by omega
   refine Ok.bnd (pK h0 hc) λe he=>?_
   have hev:=he.2
   rw[List.getElem?_eq_getElem hi]at hev
   injection hev with hev
   have hd:l.drop a.toNat=e::l.drop (a.toNat+1):=by rw[List.drop_eq_getElem_cons hi,hev]
   refine hJ _ ⟨λh=>⟨hc,λx hx=>?_⟩,λh x hx=>?_⟩
   ·have hen:e<n:=by simpa using h
    rw[show(a+1).toNat=a.toNat+1 by omega,List.take_succ_eq_append_getElem hi,hev]at hx
    rcases List.mem_append.1 hx with hx|hx
    ·exact hlt x hx
    ·simp at hx;omega
   ·have hen:n≤e:=by simpa using h
    rw[hd]at hx
    rcases List.mem_cons.1 hx with rfl|hx
    ·exact hen
    ·have hp:(l.drop a.toNat).Pairwise (·<·):=hl.sublist (List.drop_sublist _ _)
     rw[hd,List.pairwise_cons]at hp
     have:=hp.1 x hx;omega
  ·have hc:(l.length:Int)≤a:=by simpa using hc
   rw[List.drop_eq_nil_of_le (by omega)]at hx
   simp at hx
theorem abE(hv:Vt t)(hr:r∈ids t):jF t r=some (wA t [] r):=by
 refine Ok.eq ?_
 have hil:=zV hv
 unfold jF
 refine Ok.whl (λs:List Int×Int=>(0≤s.2∧s.2≤s.1.length)∧s.1.Nodup∧(∀x∈s.1,Cn t [] r x)∧r∈s.1∧(∀x∈s.1.take s.2.toNat,∀y,eT t x y=true→y∈s.1))
  (λs=>((25:Int)-s.2).toNat) ⟨⟨by simp,by simp⟩,by simp,by intro x hx;simp at hx;subst hx;exact .refl (by simp),by simp,by simp⟩ (by simp only;omega) ?_
 rintro⟨out,i⟩ Z ⟨⟨h0,h1⟩,hnd,hcn,hro,had⟩ hZ
 simp only at h0 h1 hnd hcn hro had
 have hsub:∀{l:List Int},(∀x∈l,Cn t [] r x)→l.Nodup→l.length≤24:=λ{l} h hn=>Nat.le_trans (pR hn λx hx=>(h x hx).ids hv hr) hil
 have hol:=hsub hcn hnd
 refine Ok.cs (λhc=>?_) λhc=>?_
 ·have hc:i<out.length:=by simpa using hc
  have hi:i.toNat<out.length:=by omega
  refine Ok.bnd (pK h0 hc) λe he=>?_
  have hev:=he.2
  rw[List.getElem?_eq_getElem hi]at hev
  injection hev with hev
  rw[aen hv,aK]
  refine Ok.pQ (λp o=>(∃new,o=out++new)∧o.Nodup∧(∀x∈o,Cn t [] r x)∧∀y∈p,y∈o) ?_ _ ⟨⟨[],by simp⟩,hnd,hcn,by simp⟩ ?_
  ·rintro p x rest o Z2 hL ⟨⟨new,ho⟩,qw,qx,hp⟩ hZ2
   have oq:eT t e x=true:=(fe hv).1 (by rw[hL];simp)
   have hcx:Cn t [] r x:=.step (hcn e he.1) oq (by simp)
   have hlo:=hsub qx qw
   simp only[jn,uV,aK]
   by_cases hx:x∈o
   ·simp only[hx,decide_true,Bool.not_true,cond_false]
    refine hZ2 _ ⟨⟨new,ho⟩,qw,qx,λy hy=>?_⟩
    rcases List.mem_append.1 hy with hy|hy
    ·exact hp y hy
    ·simp at hy;subst hy;exact hx
   ·simp only[hx,decide_false,Bool.not_false,cond_true]
    rw[dP (by simp;omega),aK]
    refine hZ2 _ ⟨⟨new++[x],by rw[ho];simp⟩,?_,λy hy=>?_,λy hy=>?_⟩
    ·rw[List.nodup_append]
     refine⟨qw,by simp,λa ha b hb=>?_⟩
     simp at hb;subst hb;exact λe=>hx (e▸ha)
    ·rcases List.mem_append.1 hy with hy|hy
     ·exact qx y hy
     ·simp at hy;subst hy;exact hcx
    ·rcases List.mem_append.1 hy with hy|hy
     ·exact List.mem_append_left _ (hp y hy)
     ·exact List.mem_append_right _ hy
  ·rintro o ⟨⟨new,ho⟩,qw,qx,hp⟩
   have hlo:=hsub qx qw
   rw[cr (by omega) (by omega)]
   refine hZ _ ⟨⟨by simp only;omega,by simp only[ho,List.length_append];omega⟩,qw,qx,by rw[ho];simp[hro],?_⟩ (by simp only;omega)
   intro x hx y hy
   simp only at hx ⊢
   rw[show(i+1).toNat=i.toNat+1 by omega,ho,List.take_append_of_le_length (by omega),List.take_succ_eq_append_getElem hi,hev]at hx
   rcases List.mem_append.1 hx with hx|hx
   ·rw[ho];exact List.mem_append_left _ (had x hx y hy)
   ·simp at hx;subst hx
    exact hp y ((fe hv).2 hy)
 ·have hc:(out.length:Int)≤i:=by simpa using hc
  rw[List.take_of_length_le (by omega)]at had
  refine Ok.pQ (λp m=>m.Pairwise (·<·)∧∀x,x∈m↔x∈p) ?_ _ ⟨by simp,by simp⟩ ?_
  ·rintro p x rest m Z2 hL ⟨hm1,hm2⟩ hZ2
   have hnm:m.Nodup:=hm1.imp (λh=>by omega)
   have:m.length≤24:=hsub (λy hy=>hcn y (by rw[hL];exact List.mem_append_left _ ((hm2 y).1 hy))) hnm
   refine Ok.bnd (apw hm1 (by omega)) λm2 ⟨q1,q2⟩=>hZ2 _ ⟨q1,λy=>?_⟩
   rw[q2,hm2];simp[or_comm]
  ·rintro m ⟨hm1,hm2⟩
   refine Ok.s (y8 hm1 (aep hv [] r) λx=>?_)
   rw[hm2,zb hv hr]
   exact⟨hcn x,λh=>h.stays (S:=λx=>x∈out) hro λx hx y hy=>.inl (had x hx y hy)⟩
end Go.Proofs.YtjdopimopgpagaaGreat
namespace Go.Proofs.YtjdopimopgpagaaGreat
set_option linter.all false
open Go
open Classical in
noncomputable def pS(t:az)(a b:Int):Bool:=decide (kU t=0)&&hasB t a&&hasB t b&&decide (Cn t [] a b)
theorem aeq{t:az}(hv:Vt t){c:List Int}{a b:Int}(ha:a∈ids t):decide (b∈wA t c a)=@decide (Cn t c a b) (Classical.propDecidable _):=by
 rw[Bool.eq_iff_iff];simp[zb hv ha]
theorem adp(t:az)(a b:Int):ja t a b=some (pS t a b):=by
 unfold ja pS
 simp only[afv,aK]
 by_cases h:kU t=0
 ·have hv:=jx.1 h
  simp only[h,decide_true,Bool.true_and]
  cases ha:hasB t a
  ·rfl
  ·cases hb:hasB t b
   ·rfl
   ·simp only[cond_true,abE hv (nM.2 ha),aK,uV,aeq hv (nM.2 ha),Bool.true_and]
 ·simp[h]
theorem adq(t:az)(a b:Int)(hl:t.aG.length≤1000000):gU t a b=some (pS t a b):=by
 unfold gU pS
 simp only[afw _ _ hl,aK]
 by_cases h:kU t=0
 ·have hv:=jx.1 h
  simp only[h,decide_true,Bool.true_and]
  cases ha:hasB t a
  ·rfl
  ·cases hb:hasB t b
   ·rfl
   ·simp only[cond_true,ae2 hv (nM.2 ha),aK,afu,aeq hv (nM.2 ha),Bool.true_and]
 ·simp[h]
end Go.Proofs.YtjdopimopgpagaaGreat
