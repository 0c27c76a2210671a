/- Several texts in one. No condition but those that stand in each. -/
import Derived.Test.YtdjeacigeegklaaGreatDA
namespace Go.Proofs.YtdjeacigeegklaaGreat
set_option linter.all false
open Go
variable {α β:Type}
theorem aN(a:α)(k:α→Option β):bnd (some a) k=k a:=rfl
variable {c:Bool}
theorem amy{k:Option β}(h:c=true):chk c k=k:=by subst h;rfl
theorem rA{p:Prop}[Decidable p]{x y:α}:(bif decide p then x else y)=if p then x else y:=by
 by_cases h:p<;>simp[h]
theorem yg{α σ β:Type}{B:Int→α→(σ→Option β)→σ→Option β}{K:σ→Option β}(f:List α→σ→Option β)(hn:∀s,K s=f [] s)
  (hc:∀(j:Int) x r s Z,(∀s',Z s'=f r s')→B j x Z s=f (x::r) s):∀(l:List α) (j:Nat) (s:σ),bJ l j B K s=f l s
 |[],_,s=>hn s
 |x::r,j,s=>hc j x r s _ λs'=>yg f hn hc r (j+1) s'
def Ok{β:Type}(o:Option β)(Q:β→Prop):Prop:=∃r,o=some r∧Q r
variable {Q:β→Prop}
theorem Ok.s{r:β}(h:Q r):Ok (some r) Q:=⟨r,rfl,h⟩
theorem Ok.bnd{α β:Type}{o:Option α}{k:α→Option β}{P:α→Prop}{Q:β→Prop}(h:Ok o P)(hk:∀a,P a→Ok (k a) Q):Ok (bnd o k) Q:=by
 obtain⟨a,rfl,ha⟩:=h;exact hk a ha
theorem Ok.cs{x y:Option β}(h1:c=true→Ok x Q)(h2:c=false→Ok y Q):Ok (bif c then x else y) Q:=by
 cases c
 ·exact h2 rfl
 ·exact h1 rfl
theorem Ok.chk{β:Type}{c:Bool}{k:Option β}{Q:β→Prop}(h:c=true)(hk:Ok k Q):Ok (chk c k) Q:=by subst h;exact hk
theorem Ok.jn{σ β:Type}{k:σ→Option β}{t:(σ→Option β)→Option β}{Q:β→Prop}(R:σ→Prop)(h1:∀s,R s→Ok (k s) Q)(h2:∀J,(∀s,R s→Ok (J s) Q)→Ok (t J) Q):Ok (jn k t) Q:=h2 k h1
variable {o:Option β}
theorem Ok.mono{Q':β→Prop}(h:Ok o Q)(hq:∀r,Q r→Q' r):Ok o Q':=by
 obtain⟨r,h1,h2⟩:=h;exact⟨r,h1,hq r h2⟩
theorem Ok.bJ{α σ β:Type}{B:Int→α→(σ→Option β)→σ→Option β}{K:σ→Option β}{Q:β→Prop}(I:Nat→σ→Prop)
  (hc:∀(j:Nat) x s Z,I j s→(∀s',I (j+1) s'→Ok (Z s') Q)→Ok (B (j:Int) x Z s) Q):∀(l:List α) (j:Nat) (s:σ),I j s→(∀s,I (j+l.length) s→Ok (K s) Q)→Ok (bJ l j B K s) Q
 |[],j,s,h,hn=>hn s (by simpa using h)
 |x::r,j,s,h,hn=>hc j x s _ h λs' h'=>Ok.bJ I hc r (j+1) s' h' λs hs=>hn s (by rwa [List.length_cons,←Nat.add_assoc,Nat.add_right_comm])
variable {σ:Type}{B:Int→α→(σ→Option β)→σ→Option β}{K:σ→Option β}
theorem Ok.forM(I:Nat→σ→Prop){L:List α}
  (hc:∀(j:Nat) x s Z,j<L.length→x∈L→I j s→(∀s',I (j+1) s'→Ok (Z s') Q)→Ok (B (j:Int) x Z s) Q) (s:σ) (h:I 0 s) (hn:∀s,I L.length s→Ok (K s) Q):Ok (Go.Proofs.YtdjeacigeegklaaGreat.bJ L 0 B K s) Q:=by
 have key:∀(l:List α) (j:Nat) (s:σ),(∀x∈l,x∈L)→j+l.length=L.length→I j s→Ok (Go.Proofs.YtdjeacigeegklaaGreat.bJ l j B K s) Q:=by
  intro l
  induction l with
  |nil=>intro j s _ hj h;exact hn s (by simpa [←hj]using h)
  |cons x r ih=>
   intro j s hm hj h
   simp only[List.length_cons]at hj
   exact hc j x s _ (by omega) (hm x (by simp)) h λs' h'=>ih (j+1) s' (λy hy=>hm y (by simp[hy])) (by omega) h'
 exact key L 0 s (λ_ h=>h) (by simp) h
theorem Ok.mI{σ β:Type}{B:Int→(σ→Option β)→σ→Option β}{K:Int→σ→Option β}{Q:β→Prop}(I:Int→σ→Prop)(lo hi:Int)
  (hc:∀(i:Int) s Z,lo≤i→i<hi→I i s→(∀s',I (i+1) s'→Ok (Z s') Q)→Ok (B i Z s) Q) (hn:∀i s,lo≤i→(lo≤hi→i=hi)→I i s→Ok (K i s) Q):∀(n:Nat) (i:Int) (s:σ),n=(hi-i).toNat→lo≤i→(lo≤hi→i≤hi)→I i s→Ok (mI n i B K s) Q
 |0,i,s,hn0,h1,h2,h=>hn i s h1 (λhh=>by have:=h2 hh;omega) h
 |n+1,i,s,hn0,h1,h2,h=>hc i s _ h1 (by omega) h λs' h'=>Ok.mI I lo hi hc hn n (i+1) s' (by omega) (by omega) (λ_=>by omega) h'
theorem Ok.iter{σ β:Type}{F:(σ→Option β)→σ→Option β}{Q:β→Prop}(I:σ→Prop)(μ:σ→Nat)
  (hc:∀s Z,I s→(∀s',I s'→μ s'<μ s→Ok (Z s') Q)→Ok (F Z s) Q):∀(n:Nat) (s:σ),I s→μ s<n→Ok (iter F n s) Q
 |0,s,_,h=>by omega
 |n+1,s,h,hm=>hc s _ h λs' h' hm'=>Ok.iter I μ hc n s' h' (by omega)
theorem Ok.whl{σ β:Type}{F:(σ→Option β)→σ→Option β}{Q:β→Prop}(I:σ→Prop)(μ:σ→Nat){s:σ}(h:I s)(hm:μ s<1099511627776)
  (hc:∀s Z,I s→(∀s',I s'→μ s'<μ s→Ok (Z s') Q)→Ok (F Z s) Q):Ok (whl F s) Q:=Ok.iter I μ hc fuel s h hm
theorem Ok.get(h:Ok o Q):∃r,o=some r∧Q r:=h
theorem Ok.eq{r:β}(h:Ok o (λx=>x=r)):o=some r:=by obtain⟨x,h1,rfl⟩:=h;exact h1
theorem acE(p:List α)(x:α)(r:List α):elO (p++x::r) (p.length:Int)=some x:=by
 unfold elO;rw[if_pos (by omega)];simp
variable {i:Int}{l:List α}
theorem jJ(h0:0≤i)(h:i<l.length):Ok (elO l i) (λx=>x∈l∧l[i.toNat]?=some x):=by
 unfold elO;rw[if_pos h0]
 have:i.toNat<l.length:=by omega
 exact⟨l[i.toNat],List.getElem?_eq_getElem this,List.getElem_mem this,List.getElem?_eq_getElem this⟩
variable {r:List α}
theorem jS(h:l.length+r.length≤549755813888):dx l r=some (l++r):=by unfold dx;rw[if_pos (by unfold cap;exact h)]
theorem th(h:l.length+r.length≤549755813888):Ok (dx l r) (λm=>m=l++r∧m.length=l.length+r.length):=⟨_,jS h,rfl,by simp⟩
theorem acF{x:α}(h0:0≤i)(h:i<l.length):Ok (rI l i x) (λm=>m=l.set i.toNat x∧m.length=l.length):=by
 unfold rI;rw[if_pos ⟨h0,h⟩];exact⟨_,rfl,rfl,by simp⟩
theorem acG{a b:Int}(h:0≤a∧a≤b∧b≤l.length):Ok (nP l a b) (λm=>m=(l.take b.toNat).drop a.toNat∧(m.length:Int)=b-a):=by
 unfold nP;rw[if_pos h];exact⟨_,rfl,rfl,by simp;omega⟩
theorem iU(p:α→Bool)(a:Option β)(hB:∀j x Z s,B j x Z s=bif p x then a else Z s)(l:List α)(j:Nat)(s:σ):bJ l j B K s=bif l.any p then a else K s:=
 yg (f:=λl s=>bif l.any p then a else K s) (λs=>rfl) (λj x r s Z hZ=>by
  rw[hB,hZ,List.any_cons];cases p x<;>rfl) l j s
end Go.Proofs.YtdjeacigeegklaaGreat
namespace Go.Proofs.YtdjeacigeegklaaGreat
set_option linter.all false
open Go
def xq(n:Int):Bool:=decide (1≤n)&&decide (n≤1000)
def hasB(t:aa)(r:Int):Bool:=t.ah.any λx=>decide (x.ID=r)
def aaf(r:aQ):Bool:=decide (r.ID<1)||decide (99<r.ID)
def uO(l:bn):Bool:=!xq l.iE||!xq l.iF||decide (l.oW<0)||decide (1000<l.oW)
def ltL(a b:bn):Bool:=decide (a.A<b.A)||(decide (a.A=b.A)&&decide (a.B<b.B))
def o6{α:Type}(p:α→α→Bool):List α→Bool
 |a::b::r=>p a b&&o6 p (b::r)
 |_=>true
def kA(t:aa):Bool:=t.ah.any aaf
def kB(t:aa):Bool:=o6 (λa b=>decide (a.ID<b.ID)) t.ah
def kC(t:aa):Bool:=t.Links.any uO
def kD(t:aa):Bool:=t.Links.any λl=>!hasB t l.A||!hasB t l.B
def kE(t:aa):Bool:=t.Links.any λl=>decide (l.B≤l.A)
def kF(t:aa):Bool:=o6 ltL t.Links
def fC(t:aa):Int:=
 bif decide (24<(t.ah.length:Int))||decide (60<(t.Links.length:Int))then 3
 else bif kA t then 2 else bif kB t then(bif kC t then 2 else bif kD t then 4 else bif kE t then 8 else bif kF t then 0 else 25)else 25
theorem abM{α σ β:Type}{B:Int→α→(σ→Option β)→σ→Option β}{K:σ→Option β}{L:List α}(p:α→α→Bool)(a:Option β)
  (hB:∀(j:Nat) x y r q s Z,L=q++y::x::r→j=q.length+1→B (j:Int) x Z s=bif p y x then Z s else a):∀(r q:List α) (y:α) (s:σ),L=q++y::r→bJ r (q.length+1) B K s=bif o6 p (y::r)then K s else a
 |[],q,y,s,h=>rfl
 |x::r,q,y,s,h=>by
  simp only[bJ]
  rw[hB (q.length+1) x y r q s _ h rfl]
  have:=abM (B:=B) (K:=K) p a hB r (q++[y]) x s (by simpa using h)
  simp only[List.length_append,List.length_cons,List.length_nil]at this
  rw[this]
  simp only[o6]
  cases p y x<;>rfl
variable {α β σ:Type}{L:List α}{B:Int→α→(σ→Option β)→σ→Option β}{K:σ→Option β}
theorem xu(p:α→α→Bool)(a:Option β)
  (hB:∀(j:Nat) x y r q s Z,L=q++y::x::r→j=q.length+1→B (j:Int) x Z s=bif p y x then Z s else a) (s:σ):bJ (L.drop 1) 1 B K s=bif o6 p L then K s else a:=by
 cases L with
 |nil=>rfl
 |cons y r=>exact abM (B:=B) (K:=K) p a hB r [] y s rfl
theorem ad2(p:α→α→Bool)(a:Option β)(h0:∀x Z s,B ((0:Nat):Int) x Z s=Z s)
  (hB:∀(j:Nat) x y r q s Z,L=q++y::x::r→j=q.length+1→B (j:Int) x Z s=bif p y x then Z s else a) (s:σ):bJ L 0 B K s=bif o6 p L then K s else a:=by
 cases L with
 |nil=>rfl
 |cons y r=>
  simp only[bJ]
  rw[h0]
  exact abM (B:=B) (K:=K) p a hB r [] y s rfl
variable {j:Nat}
theorem tX{y x:α}{r q:List α}(h:L=q++y::x::r)(hj:j=q.length+1)(hL:(L.length:Int)≤9223372036854775807):elO L (w64 ((j:Int)-1))=some y:=by
 have hl:q.length+2≤L.length:=by rw[h];simp
 rw[iM (by omega) (by omega),show(j:Int)-1=(q.length:Int)by omega,h,acE]
theorem akS(n:Int):qe n=some (xq n):=rfl
theorem agp(t:aa)(r:Int):nS t r=some (hasB t r):=by
 unfold nS
 refine(iU (λx:aQ=>decide (x.ID=r)) (some true) ?_ _ _ _).trans ?_
 ·intros;rfl
 ·unfold hasB;cases t.ah.any _<;>rfl
theorem lF(t:aa):gB t=some (fC t):=by
 unfold gB fC
 by_cases hlen:(decide (24<(t.ah.length:Int))||decide (60<(t.Links.length:Int)))=true
 ·rw[hlen];rfl
 rw[Bool.not_eq_true]at hlen
 rw[hlen]
 simp only[cond_false]
 simp only[Bool.or_eq_false_iff,decide_eq_false_iff_not]at hlen
 refine(iU aaf (some 2) ?_ _ _ _).trans ?_
 ·intros;rfl
 unfold kA
 cases t.ah.any aaf
 case true=>rfl
 simp only[cond_false]
 refine(xu (λa b:aQ=>decide (a.ID<b.ID)) (some 25) ?_ _).trans ?_
 ·intro j x y r q s Z h hj
  simp only[tX h hj (by omega),aN,rA]
  split<;>split<;>first|rfl|omega
 unfold kB
 cases o6 _ t.ah
 case false=>rfl
 simp only[cond_true]
 refine(iU uO (some 2) ?_ _ _ _).trans ?_
 ·intro j x Z s
  simp only[jn,akS,aN,uO]
  cases xq x.iE<;>cases xq x.iF<;>simp[rA]<;>(try split)<;>(try split)<;>simp_all<;>omega
 unfold kC
 cases t.Links.any uO
 case true=>rfl
 simp only[cond_false]
 refine(iU (λl=>!hasB t l.A||!hasB t l.B) (some 4) ?_ _ _ _).trans ?_
 ·intro j x Z s
  simp only[jn,agp,aN]
  cases hasB t x.A<;>cases hasB t x.B<;>rfl
 unfold kD
 cases t.Links.any _
 case true=>rfl
 simp only[cond_false]
 refine(iU (λl=>decide (l.B≤l.A)) (some 8) ?_ _ _ _).trans ?_
 ·intros;rfl
 unfold kE
 cases t.Links.any _
 case true=>rfl
 simp only[cond_false]
 refine(xu ltL (some 25) ?_ _).trans ?_
 ·intro j x y r q s Z h hj
  have e:(decide (x.A<y.A)||(decide (y.A=x.A)&&decide (x.B≤y.B)))=!ltL y x:=by
   rw[Bool.eq_iff_iff];simp[ltL];omega
  simp only[tX h hj (by omega),aN]
  rw[e]
  cases ltL y x<;>rfl
 unfold kF
 cases o6 ltL t.Links<;>rfl
theorem tY{α σ:Type}{B:Int→α→(σ→Option Int)→σ→Option Int}{K:σ→Option Int}(p:α→Bool)(hB:∀j x Z s,B j x Z s=bif p x then some j else Z s)(hK:∀s,K s=some (-1)):∀(l:List α) (j:Nat) (s:σ),∃r,bJ l j B K s=some r∧decide (0≤r)=l.any p
 |[],j,s=>⟨-1,hK s,rfl⟩
 |x::r,j,s=>by
  simp only[bJ,hB,List.any_cons]
  cases p x
  ·simpa using tY p hB hK r (j+1) s
  ·exact⟨j,rfl,by simp⟩
theorem cfR(l:List aQ)(f:aQ→Option Bool)(p:aQ→Bool)(hf:∀x,f x=some (p x)):ec l f=some (l.any p):=by
 unfold ec fk
 obtain⟨r,h1,h2⟩:=tY (B:=λ(j1:Int) (e1:aQ) (Z1:Unit→Option Int) (sg:Unit)=>match sg with|()=>bnd (f e1) λ(ai:Bool)=>bif ai then some (j1:Int)else Z1 ()) (K:=λ(sg:Unit)=>match sg with|()=>some (-1:Int)) p (λj x Z s=>by simp only[hf,aN]) (λ_=>rfl) l 0 ()
 simp only[h1,aN,h2]
theorem cfL(l:List bn)(f:bn→Option Bool)(p:bn→Bool)(hf:∀x,f x=some (p x)):dB l f=some (l.any p):=by
 unfold dB fM
 obtain⟨r,h1,h2⟩:=tY (B:=λ(j1:Int) (e1:bn) (Z1:Unit→Option Int) (sg:Unit)=>match sg with|()=>bnd (f e1) λ(ai:Bool)=>bif ai then some (j1:Int)else Z1 ()) (K:=λ(sg:Unit)=>match sg with|()=>some (-1:Int)) p (λj x Z s=>by simp only[hf,aN]) (λ_=>rfl) l 0 ()
 simp only[h1,aN,h2]
def kO(x y:Int):Int:=if x<y then -1 else if y<x then 1 else 0
theorem agq(x y:Int):fL x y=some (kO x y):=by
 unfold fL lH kO
 simp only[aN,decide_true,Bool.not_true,cond_false,rA]
 split<;>(try split)<;>rfl
variable {x:Int}
theorem agr{y:Int}:kO x y<0↔x<y:=by unfold kO;split<;>(try split)<;>omega
theorem sk{y:Int}:kO x y=0↔x=y:=by unfold kO;split<;>(try split)<;>omega
def orI:List Int→Int
 |[]=>0
 |x::r=>if x=0 then orI r else x
theorem atz(l:List Int):qg l=some (orI l):=by
 unfold qg
 refine(yg (f:=λl _=>some (orI l)) ?_ ?_ _ _ _)
 ·intros;rfl
 ·intro j x r s Z hZ
  simp only[orI,hZ]
  by_cases h:x=0<;>simp[h]
def nh(a b:bn):Int:=orI [kO a.A b.A,kO a.B b.B]
theorem abe(a b:bn):ja a b=some (nh a b):=by
 unfold ja;simp only[agq,aN,atz];rfl
theorem afk(r:aQ)(id:Int):lI r id=some (kO r.ID id):=by
 unfold lI;simp only[agq,aN]
variable {a b:bn}
theorem aaS:nh a b<0↔ltL a b=true:=by
 have:nh a b<0↔a.A<b.A∨(a.A=b.A∧a.B<b.B):=by
  simp only[nh,orI]
  split
  ·rename_i h
   rw[sk]at h
   split
   ·rename_i h2;rw[sk]at h2;omega
   ·rw[agr];omega
  ·rename_i h
   rw[sk]at h
   rw[agr];omega
 rw[this];simp[ltL]
theorem aaT:nh a b=0↔a.A=b.A∧a.B=b.B:=by
 simp only[nh,orI]
 split
 ·rename_i h
  rw[sk]at h
  split
  ·rename_i h2;rw[sk]at h2;omega
  ·rename_i h2;rw[sk]at h2 ⊢;omega
 ·rename_i h
  rw[sk]at h ⊢;omega
def bsG{α:Type}[Inhabited α](f:α→Int)(l:List α)(i j:Nat):Nat:=
 if h:i<j then if f (el l ((i+j) / 2:Nat))<0 then bsG f l ((i+j) / 2+1) j else bsG f l i ((i+j) / 2)else i
 termination_by j-i
 decreasing_by all_goals omega
def bsR{α:Type}[Inhabited α](f:α→Int)(l:List α):Nat:=bsG f l 0 l.length
def bsT{α:Type}[Inhabited α](f:α→Int)(l:List α):Bool:=decide (bsR f l<l.length)&&decide (f (el l (bsR f l))=0)
variable {f:α→Int}{i:Nat}{l:List α}
theorem aiE[Inhabited α](h:i<j)(hf:f (el l ((i+j) / 2:Nat))<0):bsG f l i j=bsG f l ((i+j) / 2+1) j:=by
 rw[bsG,dif_pos h,if_pos hf]
theorem aiF[Inhabited α](h:i<j)(hf:¬f (el l ((i+j) / 2:Nat))<0):bsG f l i j=bsG f l i ((i+j) / 2):=by
 rw[bsG,dif_pos h,if_neg hf]
theorem adq[Inhabited α](h:j≤i):bsG f l i j=i:=by
 rw[bsG,dif_neg (by omega)]
theorem aag[Inhabited α](h:i<l.length):el l i=l[i]:=by
 simp[el,List.getD_eq_getElem?_getD,h]
theorem aiG[Inhabited α](h:i<l.length):el l i∈l:=by
 rw[aag h];exact List.getElem_mem h
theorem yh[Inhabited α](h:i<l.length):elO l (i:Int)=some (el l i):=by
 unfold elO;rw[if_pos (by omega),aag h];simp[h]
theorem agt(h:i+j≤4611686018427387904):w64 (Int.fdiv (IntKind.wrap .u64 (w64 ((i:Int)+(j:Int)))) (2 ^ min (1:Int).toNat 64))=(((i+j) / 2:Nat):Int):=by
 have e1:w64 ((i:Int)+(j:Int))=((i+j:Nat):Int):=by rw[iM (by omega) (by omega)];simp
 have e2:IntKind.wrap .u64 ((i+j:Nat):Int)=((i+j:Nat):Int):=amN (by omega) (by omega)
 rw[e1,e2]
 have e3:(2:Int) ^ min (1:Int).toNat 64=2:=rfl
 rw[e3,Int.fdiv_eq_ediv_of_nonneg _ (by omega)]
 rw[iM (by omega) (by omega)];simp
theorem agu[Inhabited α]{F:((Int×Int)→Option (Int×Bool))→(Int×Int)→Option (Int×Bool)}(l:List α)(f:α→Int)(hl:l.length≤1000000)
  (hF:∀(i j:Nat) Z,j≤l.length→F Z ((i:Int),(j:Int))=if h:i<j then(if f (el l ((i+j) / 2:Nat))<0 then Z ((((i+j) / 2+1:Nat):Int),(j:Int))else Z ((i:Int),(((i+j) / 2:Nat):Int)))else some ((i:Int),decide (i<l.length)&&decide (f (el l i)=0))) :
  whl F ((0:Int),(l.length:Int))=some ((bsR f l:Int),bsT f l):=by
 refine Ok.eq (Ok.whl (I:=λs=>∃i j:Nat,s=((i:Int),(j:Int))∧i≤j∧j≤l.length∧bsG f l i j=bsR f l) (μ:=λs=>(s.2-s.1).toNat) ⟨0,l.length,rfl,by omega,by omega,rfl⟩ ?_ ?_)
 ·show((l.length:Int)-0).toNat<_;omega
 ·rintro s Z ⟨i,j,rfl,h1,h2,h3⟩ hz
  rw[hF i j Z h2]
  split
  ·rename_i hij
   split
   ·rename_i hf
    exact hz _ ⟨_,_,rfl,by omega,h2,by rw[←h3,aiE hij hf]⟩ (by show((j:Int)-_).toNat<((j:Int)-i).toNat;omega)
   ·rename_i hf
    exact hz _ ⟨_,_,rfl,by omega,by omega,by rw[←h3,aiF hij hf]⟩ (by show((((i+j) / 2:Nat):Int)-i).toNat<((j:Int)-i).toNat;omega)
  ·rename_i hij
   have:bsR f l=i:=by rw[←h3,adq (by omega)]
   exact⟨_,rfl,by simp only[bsT,this]⟩
theorem atA(l:List aQ)(x:Int)(c:aQ→Int→Option Int)(f:aQ→Int)(hl:l.length≤1000000)(hc:∀r,c r x=some (f r)):cU l x c=some ((bsR f l:Int),bsT f l):=by
 unfold cU
 refine agu l f hl λi j Z hj=>?_
 by_cases hij:i<j
 ·rw[dif_pos hij]
  simp only[agt (i:=i) (j:=j) (by omega),yh (show(i+j) / 2<l.length by omega),aN,hc,rA]
  rw[if_pos (by omega),iM (by omega) (by omega)]
  rfl
 ·rw[dif_neg hij]
  simp only[rA]
  rw[if_neg (by omega)]
  by_cases hi:i<l.length
  ·rw[if_pos (by omega),yh hi];simp only[aN,hc];simp[hi]
  ·rw[if_neg (by omega)];simp[hi]
theorem bsLk(l:List bn)(x:bn)(c:bn→bn→Option Int)(f:bn→Int)(hl:l.length≤1000000)(hc:∀r,c r x=some (f r)):dD l x c=some ((bsR f l:Int),bsT f l):=by
 unfold dD
 refine agu l f hl λi j Z hj=>?_
 by_cases hij:i<j
 ·rw[dif_pos hij]
  simp only[agt (i:=i) (j:=j) (by omega),yh (show(i+j) / 2<l.length by omega),aN,hc,rA]
  rw[if_pos (by omega),iM (by omega) (by omega)]
  rfl
 ·rw[dif_neg hij]
  simp only[rA]
  rw[if_neg (by omega)]
  by_cases hi:i<l.length
  ·rw[if_pos (by omega),yh hi];simp only[aN,hc];simp[hi]
  ·rw[if_neg (by omega)];simp[hi]
theorem akT[Inhabited α](hm:∀a b:Nat,a≤b→b<l.length→f (el l a)≤f (el l b)):∀(n i j:Nat),j-i≤n→i≤j→j≤l.length→(∀m:Nat,m<i→f (el l m)<0)→(∀m:Nat,j≤m→m<l.length→0≤f (el l m))→
  bsG f l i j≤l.length∧(∀m:Nat,m<bsG f l i j→f (el l m)<0)∧(∀m:Nat,bsG f l i j≤m→m<l.length→0≤f (el l m)):=by
 intro n
 induction n with
 |zero=>
  intro i j hn hij hj h1 h2
  rw[adq (by omega)]
  exact⟨by omega,h1,λm hm'=>h2 m (by omega)⟩
 |succ n ih=>
  intro i j hn hij hj h1 h2
  by_cases h:i<j
  ·by_cases hf:f (el l ((i+j) / 2:Nat))<0
   ·rw[aiE h hf]
    refine ih _ _ (by omega) (by omega) hj (λm hm'=>?_) h2
    have:=hm m ((i+j) / 2) (by omega) (by omega)
    omega
   ·rw[aiF h hf]
    refine ih _ _ (by omega) (by omega) (by omega) h1 (λm hm' hml=>?_)
    have:=hm ((i+j) / 2) m hm' hml
    omega
  ·rw[adq (by omega)]
   exact⟨by omega,h1,λm hm'=>h2 m (by omega)⟩
theorem akU[Inhabited α](hm:∀a b:Nat,a≤b→b<l.length→f (el l a)≤f (el l b)):
  bsR f l≤l.length∧(∀m:Nat,m<bsR f l→f (el l m)<0)∧(∀m:Nat,bsR f l≤m→m<l.length→0≤f (el l m)):=
 akT hm l.length 0 l.length (by omega) (by omega) (by omega) (λm h=>by omega) (λm h1 h2=>by omega)
theorem agv[Inhabited α](hm:∀a b:Nat,a≤b→b<l.length→f (el l a)≤f (el l b)):bsT f l=true↔∃x∈l,f x=0:=by
 obtain⟨h1,h2,h3⟩:=akU hm
 simp only[bsT,Bool.and_eq_true,decide_eq_true_eq]
 constructor
 ·rintro⟨q1,q2⟩
  exact⟨_,aiG q1,q2⟩
 ·rintro⟨x,hx,hf⟩
  obtain⟨m,hm1,rfl⟩:=List.getElem_of_mem hx
  rw[←aag hm1]at hf
  have hle:bsR f l≤m:=by
   by_cases q:m<bsR f l
   ·have:=h2 m q;omega
   ·omega
  have hlt:bsR f l<l.length:=by omega
  have:=h3 _ (Nat.le_refl _) hlt
  have:=hm _ _ hle hm1
  exact⟨hlt,by omega⟩
theorem wH[Inhabited α](h:l.Pairwise (λa b=>f a≤f b)):∀a b:Nat,a≤b→b<l.length→f (el l a)≤f (el l b):=by
 intro a b hab hb
 rcases Nat.lt_or_eq_of_le hab with hab|rfl
 ·have:=List.pairwise_iff_getElem.1 h a b (by omega) hb hab
  rwa [aag (by omega),aag hb]
 ·exact Int.le_refl _
theorem tj{α:Type}{p:α→α→Bool}(ht:∀a b c,p a b=true→p b c=true→p a c=true):∀{l:List α},o6 p l=true→l.Pairwise (λa b=>p a b=true)
 |[],_=>List.Pairwise.nil
 |[x],_=>by simp
 |a::b::r,h=>by
  simp only[o6,Bool.and_eq_true]at h
  have ih:=tj ht h.2
  rw[List.pairwise_cons]
  refine⟨λz hz=>?_,ih⟩
  rcases List.mem_cons.1 hz with rfl|hz
  ·exact h.1
  ·exact ht _ _ _ h.1 ((List.pairwise_cons.1 ih).1 z hz)
theorem qo{α:Type}{p:α→α→Bool}:∀{l:List α},l.Pairwise (λa b=>p a b=true)→o6 p l=true
 |[],_=>rfl
 |[x],_=>rfl
 |a::b::r,h=>by
  rw[List.pairwise_cons]at h
  simp only[o6,Bool.and_eq_true]
  exact⟨h.1 b (by simp),qo h.2⟩
variable {t:aa}
theorem aiH(h:kB t=true):t.ah.Pairwise (λa b=>a.ID<b.ID):=by
 have:=tj (p:=λa b:aQ=>decide (a.ID<b.ID)) (λa b c h1 h2=>by simp at h1 h2 ⊢;omega) h
 exact this.imp (λh=>by simpa using h)
theorem apz(h:kB t=true)(id:Int):∀a b:Nat,a≤b→b<t.ah.length→kO (el t.ah a).ID id≤kO (el t.ah b).ID id:=
 wH (f:=λr:aQ=>kO r.ID id) ((aiH h).imp (λ{a b} h=>by unfold kO;split<;>(try split)<;>(try split)<;>(try split)<;>omega))
def akV(t:aa)(id:Int):Bool:=!bsT (λr=>kO r.ID id) t.ah
theorem agw(h:kB t=true)(id:Int):akV t id=!hasB t id:=by
 simp only[akV,hasB]
 congr 1
 rw[Bool.eq_iff_iff,agv (apz h id)]
 simp[sk]
theorem oQ(t:aa):gW t=some (fC t):=by
 unfold gW fC
 by_cases hlen:(decide (24<(t.ah.length:Int))||decide (60<(t.Links.length:Int)))=true
 ·rw[hlen];rfl
 rw[Bool.not_eq_true]at hlen
 rw[hlen]
 simp only[cond_false]
 simp only[Bool.or_eq_false_iff,decide_eq_false_iff_not]at hlen
 rw[cfR t.ah _ aaf (λx=>by simp only[nC,jU,aN,aaf];congr 1;rw[Bool.eq_iff_iff];simp)]
 simp only[aN]
 unfold kA
 cases t.ah.any aaf
 case true=>rfl
 simp only[cond_false]
 refine(ad2 (λa b:aQ=>decide (a.ID<b.ID)) (some 25) ?_ ?_ _).trans ?_
 ·intros;rfl
 ·intro j x y r q s Z h hj
  simp only[jn,tX h hj (by omega),aN,rA]
  rw[if_pos (by omega)]
  split<;>split<;>first|rfl|omega
 cases hB:kB t
 case false=>unfold kB at hB;rw[hB];rfl
 have hB':=hB
 unfold kB at hB'
 rw[hB']
 simp only[cond_true]
 rw[cfL t.Links lu uO (λx=>by
  simp only[lu,jU,aN,uO,xq]
  simp only[rA,Bool.not_and,Bool.cond_eq_ite,Bool.or_eq_true,Bool.not_eq_true',decide_eq_false_iff_not]
  split
  ·congr 1;symm;rw[Bool.eq_iff_iff];simp;omega
  ·split
   ·congr 1;symm;rw[Bool.eq_iff_iff];simp;omega
   ·congr 1;rw[Bool.eq_iff_iff];simp;omega)]
 simp only[aN]
 unfold kC
 cases t.Links.any uO
 case true=>rfl
 simp only[cond_false]
 have hu:∀id,jb id t=some (!hasB t id):=λid=>by
  unfold jb
  rw[atA t.ah id _ (λr=>kO r.ID id) (by omega) (λr=>afk r id)]
  simp only[aN]
  rw[←agw hB];rfl
 rw[cfL t.Links _ (λl=>!hasB t l.A||!hasB t l.B) (λx=>by
  simp only[nD,hu,aN]
  cases hasB t x.A<;>rfl)]
 simp only[aN]
 unfold kD
 cases t.Links.any _
 case true=>rfl
 simp only[cond_false]
 rw[cfL t.Links nE (λl=>decide (l.B≤l.A)) (λx=>rfl)]
 simp only[aN]
 unfold kE
 cases t.Links.any _
 case true=>rfl
 simp only[cond_false]
 refine(ad2 ltL (some 25) ?_ ?_ _).trans ?_
 ·intros;rfl
 ·intro j x y r q s Z h hj
  simp only[jn,tX h hj (by omega),aN,abe,rA]
  rw[if_pos (by omega)]
  cases hlt:ltL y x
  ·have:¬nh y x<0:=by rw[aaS,hlt];simp
   rw[if_pos (by omega)];rfl
  ·have:=aaS.2 hlt
   rw[if_neg (by omega)];rfl
 unfold kF
 cases o6 ltL t.Links<;>rfl
end Go.Proofs.YtdjeacigeegklaaGreat
namespace Go.Proofs.YtdjeacigeegklaaGreat
set_option linter.all false
open Go
variable {α:Type}
theorem agx[DecidableEq α]{l:List α}{v:α}:l.any (λx=>decide (x=v))=decide (v∈l):=by
 rw[Bool.eq_iff_iff];simp
theorem agy(l:List Int)(n:Int):nR l n=some (decide (n∈l)):=by
 unfold nR
 refine(iU (λx:Int=>decide (x=n)) (some true) ?_ _ _ _).trans ?_
 ·intros;rfl
 ·rw[agx];cases decide (n∈l)<;>rfl
theorem su(l:List Int)(n:Int):cV l n=some (decide (n∈l)):=by
 unfold cV jZ
 obtain⟨r,h1,h2⟩:=tY (B:=λ(j1:Int) (e1:Int) (Z1:Unit→Option Int) (sg:Unit)=>match sg with|()=>bif decide (n=e1)then some (j1:Int)else Z1 ()) (K:=λ(sg:Unit)=>match sg with|()=>some (-1:Int)) (λx=>decide (n=x)) (λj x Z s=>rfl) (λ_=>rfl) l 0 ()
 simp only[h1,aN,h2]
 congr 1
 rw[Bool.eq_iff_iff];simp
theorem acI(a b:bU):gM a b=true↔a=b:=by
 cases a;cases b;simp[gM]
def nV(l:List bU)(a b:Int):Bool:=l.any λh=>gM (bU.mk a b) h
theorem adr(l:List bU)(v:bU):dJ l v=some (l.any (gM v)):=by
 unfold dJ gF
 obtain⟨r,h1,h2⟩:=tY (B:=λ(j1:Int) (e1:bU) (Z1:Unit→Option Int) (sg:Unit)=>match sg with|()=>bif gM v e1 then some (j1:Int)else Z1 ()) (K:=λ(sg:Unit)=>match sg with|()=>some (-1:Int)) (λx=>gM v x) (λj x Z s=>rfl) (λ_=>rfl) l 0 ()
 simp only[h1,aN,h2]
theorem aiI(l:List bU)(a b:Int):o9 l a b=some (nV l a b||nV l b a):=by
 unfold o9
 refine(iU (λh:bU=>gM (bU.mk a b) h||gM (bU.mk b a) h) (some true) ?_ _ _ _).trans ?_
 ·intro j x Z s
  congr 1
  rw[Bool.eq_iff_iff]
  obtain⟨f,t⟩:=x
  simp[gM]
  constructor
  ·split
   ·rintro(h|h)<;>omega
   ·intro h;omega
  ·rintro(h|h)
   ·rw[if_pos (by omega)];omega
   ·split<;>omega
 ·have:(l.any λh:bU=>gM (bU.mk a b) h||gM (bU.mk b a) h)=(nV l a b||nV l b a):=by
   rw[Bool.eq_iff_iff];simp[nV,List.any_eq_true]
   constructor
   ·rintro⟨x,hx,h|h⟩
    ·exact .inl ⟨x,hx,h⟩
    ·exact .inr ⟨x,hx,h⟩
   ·rintro(⟨x,hx,h⟩|⟨x,hx,h⟩)
    ·exact⟨x,hx,.inl h⟩
    ·exact⟨x,hx,.inr h⟩
  rw[this];cases(nV l a b||nV l b a)<;>rfl
theorem jW{α γ β:Type}{B:Int→α→(List γ→Option β)→List γ→Option β}{K:List γ→Option β}(p:α→Bool)(f:α→γ):
  ∀(l:List α) (j:Nat) (s:List γ),(∀(j:Nat) x Z s,x∈l→s.length<1000000→B j x Z s=bif p x then Z (s++[f x])else Z s)→l.length+s.length≤1000000→bJ l j B K s=K (s++(l.filter p).map f)
 |[],j,s,_,_=>by simp[bJ]
 |x::r,j,s,hB,h=>by
  simp only[List.length_cons]at h
  simp only[bJ]
  rw[hB j x _ s (by simp) (by omega)]
  have hB':∀(j:Nat) y Z s,y∈r→s.length<1000000→B j y Z s=bif p y then Z (s++[f y])else Z s:=λj y Z s hy=>hB j y Z s (by simp[hy])
  cases hp:p x
  ·rw[cond_false,jW p f r (j+1) s hB' (by omega),List.filter_cons_of_neg (by simp[hp])]
  ·rw[cond_true,jW p f r (j+1) (s++[f x]) hB' (by simp;omega),List.filter_cons_of_pos hp]
   simp
theorem lW{s:List α}{x:α}(h:s.length<1000000):dx s [x]=some (s++[x]):=jS (by simp;omega)
theorem ad3{a b:List Int}(ha:a.Pairwise (·<·))(hb:b.Pairwise (·<·))(h:∀x,x∈a↔x∈b):a=b:=by
 induction a generalizing b with
 |nil=>
  cases b with
  |nil=>rfl
  |cons y b=>exact absurd ((h y).2 (by simp)) (by simp)
 |cons x a ih=>
  cases b with
  |nil=>exact absurd ((h x).1 (by simp)) (by simp)
  |cons y b=>
   rw[List.pairwise_cons]at ha hb
   have hxy:x=y:=by
    have h1:=(h x).1 (by simp)
    have h2:=(h y).2 (by simp)
    rw[List.mem_cons]at h1 h2
    rcases h1 with h1|h1
    ·exact h1
    ·rcases h2 with h2|h2
     ·exact h2.symm
     ·have:=hb.1 _ h1;have:=ha.1 _ h2;omega
   subst hxy
   congr 1
   refine ih ha.2 hb.2 λz=>?_
   have:=h z
   simp only[List.mem_cons]at this
   constructor
   ·intro hz
    rcases this.1 (.inr hz)with q|q
    ·subst q;have:=ha.1 _ hz;omega
    ·exact q
   ·intro hz
    rcases this.2 (.inr hz)with q|q
    ·subst q;have:=hb.1 _ hz;omega
    ·exact q
variable {l:List Int}
theorem afl(h:l.Nodup):(jY l).Pairwise (·<·):=by
 have h1:=vZ l
 have h2:(jY l).Nodup:=(sP l).nodup_iff.2 h
 have:=h1.and h2
 exact this.imp (λ⟨a,b⟩=>by omega)
variable {x:Int}
theorem ad4:x∈jY l↔x∈l:=(sP l).mem_iff
structure Vt(t:aa):Prop where
 nr:t.ah.length≤24
 nl:t.Links.length≤60
 idr:∀r∈t.ah,1≤r.ID∧r.ID≤99
 asc:t.ah.Pairwise (λa b=>a.ID<b.ID)
 okl:∀l∈t.Links,uO l=false
 ends:∀l∈t.Links,hasB t l.A=true∧hasB t l.B=true
 lt:∀l∈t.Links,l.A<l.B
 afm:t.Links.Pairwise (λa b=>ltL a b=true)
theorem aiJ(a b c:bn)(h1:ltL a b=true)(h2:ltL b c=true):ltL a c=true:=by
 simp[ltL]at *;omega
theorem any_false{l:List α}{p:α→Bool}:l.any p=false↔∀x∈l,p x=false:=by
 rw[List.any_eq_false];simp
variable {t:aa}
theorem gE:fC t=0↔Vt t:=by
 unfold fC
 constructor
 ·intro h
  by_cases h1:(decide (24<(t.ah.length:Int))||decide (60<(t.Links.length:Int)))=true
  ·rw[h1]at h;cases h
  simp only[Bool.not_eq_true]at h1
  rw[h1,cond_false]at h
  cases h2:kA t<;>rw[h2]at h<;>first|cases h;done|skip
  cases h3:kB t<;>rw[h3]at h<;>first|cases h;done|skip
  cases h4:kC t<;>rw[h4]at h<;>first|cases h;done|skip
  cases h5:kD t<;>rw[h5]at h<;>first|cases h;done|skip
  cases h6:kE t<;>rw[h6]at h<;>first|cases h;done|skip
  cases h7:kF t<;>rw[h7]at h<;>first|cases h;done|skip
  simp only[Bool.or_eq_false_iff,decide_eq_false_iff_not]at h1
  refine⟨by omega,by omega,λr hr=>?_,aiH h3,any_false.1 h4,λl hl=>?_,λl hl=>?_,tj aiJ h7⟩
  ·have:=any_false.1 h2 r hr;simp[aaf]at this;omega
  ·have:=any_false.1 h5 l hl;simpa using this
  ·have:=any_false.1 h6 l hl;simpa using this
 ·intro h
  have h1:(decide (24<(t.ah.length:Int))||decide (60<(t.Links.length:Int)))=false:=by
   have:=h.nr;have:=h.nl;simp;omega
  have h2:kA t=false:=any_false.2 λr hr=>by have:=h.idr r hr;simp[aaf];omega
  have h3:kB t=true:=qo (h.asc.imp λh=>by simpa using h)
  have h4:kC t=false:=any_false.2 h.okl
  have h5:kD t=false:=any_false.2 λl hl=>by have:=h.ends l hl;simp[this]
  have h6:kE t=false:=any_false.2 λl hl=>by have:=h.lt l hl;simp;omega
  have h7:kF t=true:=qo h.afm
  rw[h1,h2,h3,h4,h5,h6,h7];rfl
theorem xw(t:aa):gX t=some (decide (fC t=0)):=by
 unfold gX;rw[oQ];rfl
variable {r:Int}
theorem wI:hasB t r=true↔∃x∈t.ah,x.ID=r:=by simp[hasB]
theorem aiK:fC (aa.mk [] [])=0:=rfl
def aaU(f:aO)(l:bn):Bool:=decide (l.A∈f.ah)||decide (l.B∈f.ah)||nV f.Links l.A l.B||nV f.Links l.B l.A
def woT(t:aa)(f:aO):aa:=aa.mk (t.ah.filter λr=>!decide (r.ID∈f.ah)) (t.Links.filter λl=>!aaU f l)
theorem Vt.wo(h:Vt t)(f:aO):Vt (woT t f):=by
 have sr:(woT t f).ah.Sublist t.ah:=List.filter_sublist
 have sl:(woT t f).Links.Sublist t.Links:=List.filter_sublist
 refine⟨Nat.le_trans sr.length_le h.nr,Nat.le_trans sl.length_le h.nl,λr hr=>h.idr r (sr.subset hr),h.asc.sublist sr,λl hl=>h.okl l (sl.subset hl),λl hl=>?_,λl hl=>h.lt l (sl.subset hl),h.afm.sublist sl⟩
 have hm:=List.mem_filter.1 hl
 have he:=h.ends l hm.1
 have hg:=hm.2
 simp[aaU]at hg
 rw[wI,wI]at he ⊢
 obtain⟨⟨x,hx,ex⟩,⟨y,hy,ey⟩⟩:=he
 refine⟨⟨x,List.mem_filter.2 ⟨hx,?_⟩,ex⟩,⟨y,List.mem_filter.2 ⟨hy,?_⟩,ey⟩⟩
 ·rw[ex];simp[hg]
 ·rw[ey];simp[hg]
def iV(t:aa)(f:aO):aa:=if fC t=0 then woT t f else aa.mk [] []
theorem tZ(t:aa)(f:aO):Vt (iV t f):=by
 unfold iV
 split
 ·rename_i h;exact(gE.1 h).wo f
 ·exact gE.1 aiK
theorem xO(t:aa)(f:aO):jD t f=some (iV t f):=by
 unfold jD iV
 simp only[lF,aN]
 by_cases h:fC t=0
 ·have hv:=gE.1 h
  have:=hv.nr;have:=hv.nl
  simp only[h,decide_true,Bool.not_true,cond_false,if_true]
  refine(jW (λr:aQ=>!decide (r.ID∈f.ah)) id _ _ _ ?_ (by simp;omega)).trans ?_
  ·intro j x Z s _ hs
   simp only[jn,agy,aN,lW hs];rfl
  refine(jW (λl:bn=>!aaU f l) id _ _ _ ?_ (by simp;omega)).trans ?_
  ·intro j x Z s _ hs
   simp only[jn,agy,aiI,aN,lW hs,aaU,id]
   cases decide (x.A∈f.ah)<;>cases decide (x.B∈f.ah)<;>cases nV f.Links x.A x.B<;>cases nV f.Links x.B x.A<;>rfl
  ·simp[woT]
 ·simp[h]
theorem xP(t:aa)(f:aO):gY t f=some (iV t f):=by
 unfold gY iV
 simp only[xw,aN]
 by_cases h:fC t=0
 ·have hv:=gE.1 h
  have:=hv.nr;have:=hv.nl
  simp only[h,decide_true,Bool.not_true,cond_false,if_true]
  refine(jW (λr:aQ=>!decide (r.ID∈f.ah)) id _ _ _ ?_ (by simp;omega)).trans ?_
  ·intro j x Z s _ hs
   simp only[jn,su,aN,lW hs];rfl
  refine(jW (λl:bn=>!aaU f l) id _ _ _ ?_ (by simp;omega)).trans ?_
  ·intro j x Z s _ hs
   have e1:f.Links.any (gM (bU.mk x.A x.B))=nV f.Links x.A x.B:=rfl
   have e2:f.Links.any (gM (bU.mk x.B x.A))=nV f.Links x.B x.A:=rfl
   simp only[jn,su,adr,aN,lW hs,aaU,id,e1,e2]
   cases decide (x.A∈f.ah)<;>cases decide (x.B∈f.ah)<;>cases nV f.Links x.A x.B<;>cases nV f.Links x.B x.A<;>rfl
  ·simp[woT]
 ·simp[h]
theorem vD(t:aa)(r:Int):kR t r=some (decide (fC t=0)&&hasB t r):=by
 unfold kR
 simp only[lF,agp,aN]
 cases decide (fC t=0)<;>rfl
def ahG(t:aa)(r:Int):aQ×Bool:=if bsT (λx:aQ=>kO x.ID r) t.ah then(el t.ah (bsR (λx:aQ=>kO x.ID r) t.ah),true)else(aQ.mk 0 false,false)
theorem akW(t:aa)(r:Int)(hl:t.ah.length≤1000000):nF t r=some (ahG t r):=by
 unfold nF ahG
 rw[atA t.ah r _ (λx=>kO x.ID r) hl (λx=>afk x r)]
 simp only[aN]
 cases h:bsT (λx:aQ=>kO x.ID r) t.ah
 ·rfl
 ·have h2:bsR (λx:aQ=>kO x.ID r) t.ah<t.ah.length:=by
   simp only[bsT,Bool.and_eq_true,decide_eq_true_eq]at h;exact h.1
  simp only[Bool.not_true,cond_false,yh h2,aN,if_true]
theorem apA(h:Vt t)(r:Int):bsT (λx:aQ=>kO x.ID r) t.ah=hasB t r:=by
 have:=agw (t:=t) (qo (h.asc.imp λh=>by simpa using h)) r
 simpa [akV]using this
theorem yj(t:aa)(r:Int)(hl:t.ah.length≤1000000):kG t r=some (decide (fC t=0)&&hasB t r):=by
 unfold kG
 simp only[akW t r hl,xw,aN]
 by_cases h:fC t=0
 ·simp only[h,decide_true,cond_true,Bool.true_and,ahG,apA (gE.1 h)]
  cases hasB t r<;>rfl
 ·simp[h]
theorem aiL{σ β:Type}{B:Int→α→(σ→Option β)→σ→Option β}{K:σ→Option β}(p:α→Bool)(g:α→Option β)(hB:∀j x Z s,B j x Z s=bif p x then g x else Z s)(l:List α)(j:Nat)(s:σ):
  bJ l j B K s=match l.find? p with|some x=>g x|none=>K s:=
 yg (f:=λl s=>match l.find? p with|some x=>g x|none=>K s) (λs=>rfl) (λj x r s Z hZ=>by
  rw[hB,hZ,List.find?_cons];cases p x<;>rfl) l j s
theorem atB(h:Vt t){a b:bn}(ha:a∈t.Links)(hb:b∈t.Links)(hA:a.A=b.A)(hB:a.B=b.B):a=b:=by
 obtain⟨i,hi,rfl⟩:=List.getElem_of_mem ha
 obtain⟨j,hj,rfl⟩:=List.getElem_of_mem hb
 have:=List.pairwise_iff_getElem.1 h.afm
 rcases Nat.lt_trichotomy i j with q|q|q
 ·have:=this i j hi hj q;simp[ltL]at this;omega
 ·subst q;rfl
 ·have:=this j i hj hi q;simp[ltL]at this;omega
def eR(l:bn)(a b:Int):Bool:=(decide (l.A=a)&&decide (l.B=b))||(decide (l.B=a)&&decide (l.A=b))
def iK(a b:Int)(l:bn):Int×Bool:=(bif decide (l.A=a)&&decide (l.B=b)then l.iE else l.iF,true)
def jK(t:aa)(a b:Int):Int×Bool:=match t.Links.find? (λl=>eR l a b)with|some l=>iK a b l|none=>(0,false)
def mm(t:aa)(a b:Int):Bool:=t.Links.any λl=>eR l a b
theorem aah(t:aa)(a b:Int):lS t a b=some (jK t a b):=by
 unfold lS jK
 refine(aiL (λl:bn=>eR l a b) (λl=>some (iK a b l)) (λj x Z s=>?_) _ _ _).trans ?_
 ·unfold eR iK
  cases decide (x.A=a)&&decide (x.B=b)<;>cases decide (x.B=a)&&decide (x.A=b)<;>rfl
 ·cases t.Links.find? _<;>rfl
theorem aai(t:aa)(a b:Int):(jK t a b).2=mm t a b:=by
 unfold jK mm
 cases hf:t.Links.find? (λl=>eR l a b)with
 |none=>symm;exact any_false.2 λx hx=>by simpa using List.find?_eq_none.1 hf x hx
 |some x=>
  symm
  exact List.any_eq_true.2 ⟨x,List.mem_of_find?_eq_some hf,by simpa using List.find?_some hf⟩
theorem akX(t:aa)(a b:Int):mL t a b=some (if fC t=0 then jK t a b else(0,false)):=by
 unfold mL
 simp only[lF,aah,aN]
 by_cases h:fC t=0<;>simp[h]
variable {a b:Int}
theorem jL(h:Vt t){l:bn}(hm:l∈t.Links)(he:eR l a b=true):jK t a b=iK a b l:=by
 unfold jK
 cases hf:t.Links.find? (λl=>eR l a b)with
 |none=>exact absurd he (List.find?_eq_none.1 hf l hm)
 |some x=>
  have hx:=List.mem_of_find?_eq_some hf
  have hp:=List.find?_some hf
  have h1:=h.lt _ hm
  have h2:=h.lt _ hx
  simp[eR]at he hp
  rw[atB h hx hm (by omega) (by omega)]
theorem apB(h:Vt t)(v:bn):∀a b:Nat,a≤b→b<t.Links.length→nh (el t.Links a) v≤nh (el t.Links b) v:=by
 refine wH (f:=λl:bn=>nh l v) (h.afm.imp λ{a b} hab=>?_)
 have c3:∀x y:Int,kO x y = -1∨kO x y=0∨kO x y=1:=λx y=>by
  unfold kO;split
  ·exact .inl rfl
  ·split
   ·exact .inr (.inr rfl)
   ·exact .inr (.inl rfl)
 have:∀x y:bn,nh x y = -1∨nh x y=0∨nh x y=1:=λx y=>by
  have q1:=c3 x.A y.A
  have q2:=c3 x.B y.B
  simp only[nh,orI]
  generalize kO x.A y.A=p at *
  generalize kO x.B y.B=q at *
  by_cases h1:p=0
  ·by_cases h2:q=0<;>simp[h1,h2];omega
  ·simp[h1];omega
 have h1:=@aaS a v
 have h2:=@aaS b v
 have h3:=@aaT a v
 have h4:=@aaT b v
 have q1:=this a v
 have q2:=this b v
 simp[ltL]at hab h1 h2
 omega
theorem akY(t:aa)(a b:Int)(hl:t.Links.length≤1000000):nG t a b=some (if fC t=0 then jK t a b else(0,false)):=by
 unfold nG
 simp only[xw,aN]
 by_cases h:fC t=0
 ·have hv:=gE.1 h
  simp only[h,decide_true,Bool.not_true,cond_false,if_true]
  generalize hv2:bn.mk (if b<a then b else a) (if b>a then b else a) 0 0 0=v
  rw[bsLk t.Links v _ (λx=>nh x v) hl (λx=>abe x v)]
  simp only[aN]
  have hA:v.A=if b<a then b else a:=by rw[←hv2]
  have hB:v.B=if b>a then b else a:=by rw[←hv2]
  cases hT:bsT (λx:bn=>nh x v) t.Links
  ·simp only[Bool.not_false,cond_true]
   congr 1
   unfold jK
   cases hf:t.Links.find? (λl=>eR l a b)with
   |none=>rfl
   |some x=>
    exfalso
    have hx:=List.mem_of_find?_eq_some hf
    have hp:=List.find?_some hf
    have h2:=h
    have:=(agv (f:=λx:bn=>nh x v) (apB hv v)).2 ⟨x,hx,by
     rw[aaT,hA,hB]
     have:=hv.lt _ hx
     simp[eR]at hp
     split<;>split<;>omega⟩
    rw[hT]at this;cases this
  ·simp only[bsT,Bool.and_eq_true,decide_eq_true_eq]at hT
   obtain⟨q1,q2⟩:=hT
   rw[aaT,hA,hB]at q2
   have hm:=aiG q1
   simp only[Bool.not_true,cond_false,yh q1,aN]
   have hlt:=hv.lt _ hm
   have e:eR (el t.Links (bsR (λx:bn=>nh x v) t.Links)) a b=true:=by
    simp[eR];by_cases q3:b<a<;>by_cases q4:b>a<;>simp only[q3,q4,if_true,if_false]at q2<;>omega
   rw[jL hv hm e]
   unfold iK
   by_cases hab:a<b
   ·have:decide (a<b)=true:=by simpa using hab
    rw[this,cond_true]
    have:(decide ((el t.Links (bsR (λx:bn=>nh x v) t.Links)).A=a)&&decide ((el t.Links (bsR (λx:bn=>nh x v) t.Links)).B=b))=true:=by
     simp;by_cases q3:b<a<;>by_cases q4:b>a<;>simp only[q3,q4,if_true,if_false]at q2<;>omega
    rw[this];rfl
   ·have:decide (a<b)=false:=by simpa using hab
    rw[this,cond_false]
    have:(decide ((el t.Links (bsR (λx:bn=>nh x v) t.Links)).A=a)&&decide ((el t.Links (bsR (λx:bn=>nh x v) t.Links)).B=b))=false:=by
     simp;by_cases q3:b<a<;>by_cases q4:b>a<;>simp only[q3,q4,if_true,if_false]at q2<;>omega
    rw[this];rfl
 ·simp[h]
def ids(t:aa):List Int:=t.ah.map (·.ID)
theorem yl(h:Vt t):(ids t).Pairwise (·<·):=List.pairwise_map.2 h.asc
theorem gH:r∈ids t↔hasB t r=true:=by rw[wI];simp[ids]
theorem kP:mm t a b=true↔∃l∈t.Links,(l.A=a∧l.B=b)∨(l.B=a∧l.A=b):=by
 simp[mm,eR]
theorem afn(h:mm t a b=true):mm t b a=true:=by
 rw[kP]at h ⊢
 obtain⟨l,hl,h⟩:=h
 exact⟨l,hl,by omega⟩
theorem atC(hv:Vt t)(h:mm t a b=true):a≠b:=by
 rw[kP]at h
 obtain⟨l,hl,h⟩:=h
 have:=hv.lt l hl
 omega
theorem ua(hv:Vt t)(h:mm t a b=true):b∈ids t:=by
 rw[kP]at h
 obtain⟨l,hl,h⟩:=h
 have:=hv.ends l hl
 rcases h with⟨h1,h2⟩|⟨h1,h2⟩<;>rw[gH,←h2]
 ·exact this.2
 ·exact this.1
def lM(t:aa)(r:Int):List Int:=(ids t).filter λx=>mm t r x
theorem y4(hv:Vt t)(r:Int):(lM t r).Pairwise (·<·):=(yl hv).sublist List.filter_sublist
theorem nJ(hv:Vt t):x∈lM t r↔mm t r x=true:=by
 unfold lM;rw[List.mem_filter]
 exact⟨λh=>h.2,λh=>⟨ua hv h,h⟩⟩
theorem afo(hv:Vt t)(r:Int):oy t r=some (lM t r):=by
 unfold oy
 have:=hv.nr
 refine(jW (λx:aQ=>mm t r x.ID) (·.ID) _ _ _ ?_ (by simp;omega)).trans ?_
 ·intro j x Z s _ hs
  simp only[jn,aah,aai,aN,lW hs]
 ·simp only[List.nil_append,lM,ids]
  rw[List.filter_map];rfl
def fT(r:Int)(l:bn):Option Int:=if r=l.A then some l.B else if r=l.B then some l.A else none
theorem aaj{α γ β:Type}{B:Int→α→(List γ→Option β)→List γ→Option β}{K:List γ→Option β}(f:α→Option γ):
  ∀(l:List α) (j:Nat) (s:List γ),(∀(j:Nat) x Z s,x∈l→s.length<1000000→B j x Z s=match f x with|some y=>Z (s++[y])|none=>Z s)→l.length+s.length≤1000000→bJ l j B K s=K (s++l.filterMap f)
 |[],j,s,_,_=>by simp[bJ]
 |x::r,j,s,hB,h=>by
  simp only[List.length_cons]at h
  simp only[bJ]
  rw[hB j x _ s (by simp) (by omega)]
  have hB':∀(j:Nat) y Z s,y∈r→s.length<1000000→B j y Z s=match f y with|some y=>Z (s++[y])|none=>Z s:=λj y Z s hy=>hB j y Z s (by simp[hy])
  cases hp:f x with
  |none=>simp only;rw[aaj f r (j+1) s hB' (by omega),List.filterMap_cons_none hp]
  |some y=>simp only;rw[aaj f r (j+1) (s++[y]) hB' (by simp;omega),List.filterMap_cons_some hp];simp
theorem uq(hv:Vt t)(r:Int):(t.Links.filterMap (fT r)).Nodup:=by
 have key:∀l:List bn,(∀x∈l,x.A<x.B)→l.Pairwise (λa b=>ltL a b=true)→(l.filterMap (fT r)).Nodup:=by
  intro l
  induction l with
  |nil=>intros;simp
  |cons x l ih=>
   intro h1 h2
   rw[List.pairwise_cons]at h2
   have ih:=ih (λy hy=>h1 y (by simp[hy])) h2.2
   cases hx:fT r x with
   |none=>rw[List.filterMap_cons_none hx];exact ih
   |some y=>
    rw[List.filterMap_cons_some hx,List.nodup_cons]
    refine⟨λhm=>?_,ih⟩
    obtain⟨z,hz,hzy⟩:=List.mem_filterMap.1 hm
    have h3:=h2.1 z hz
    have h4:=h1 x (by simp)
    have h5:=h1 z (by simp[hz])
    unfold fT at hx hzy
    simp[ltL]at h3
    split at hx<;>split at hzy<;>(try split at hx)<;>(try split at hzy)<;>simp at hx hzy<;>omega
 exact key _ hv.lt hv.afm
theorem ad5(hv:Vt t):x∈t.Links.filterMap (fT r)↔mm t r x=true:=by
 rw[List.mem_filterMap,kP]
 constructor
 ·rintro⟨l,hl,h⟩
  unfold fT at h
  refine⟨l,hl,?_⟩
  split at h
  ·simp at h;omega
  ·split at h
   ·simp at h;omega
   ·cases h
 ·rintro⟨l,hl,h⟩
  refine⟨l,hl,?_⟩
  have:=hv.lt l hl
  unfold fT
  rcases h with h|h
  ·rw[if_pos (by omega),h.2]
  ·rw[if_neg (by omega),if_pos (by omega),h.2]
theorem afp(hv:Vt t)(r:Int):gR t r=some (lM t r):=by
 unfold gR
 have:=hv.nl
 refine(aaj (fT r) _ _ _ ?_ (by simp;omega)).trans ?_
 ·intro j x Z s _ hs
  simp only[jn,lW hs,aN,fT]
  by_cases h1:r=x.A
  ·simp[h1]
  ·by_cases h2:r=x.B<;>simp[h1,h2]
   simp[←h2,h1]
 ·have hlen:(t.Links.filterMap (fT r)).length≤60:=Nat.le_trans (List.length_filterMap_le _ _) (by omega)
  simp only[List.nil_append]
  rw[amy (by simp;omega)]
  congr 1
  refine ad3 (afl (uq hv r)) (y4 hv r) λx=>?_
  rw[ad4,ad5 hv,nJ hv]
theorem uc(t:aa)(r:Int):gV t r=some (if fC t=0 then lM t r else[]):=by
 unfold gV
 simp only[lF,aN]
 by_cases h:fC t=0
 ·simp[h,afo (gE.1 h),aN]
 ·simp[h]
theorem ads(t:aa)(r:Int):jc t r=some (if fC t=0 then lM t r else[]):=by
 unfold jc
 simp only[xw,aN]
 by_cases h:fC t=0
 ·simp[h,afp (gE.1 h),aN]
 ·simp[h]
end Go.Proofs.YtdjeacigeegklaaGreat
namespace Go.Proofs.YtdjeacigeegklaaGreat
set_option linter.all false
open Go
theorem Ok.y5{α σ β:Type}{B:Int→α→(σ→Option β)→σ→Option β}{K:σ→Option β}{Q:β→Prop}(I:List α→σ→Prop){L:List α}
  (hc:∀(p:List α) x r s Z,L=p++x::r→I p s→(∀s',I (p++[x]) s'→Ok (Z s') Q)→Ok (B (p.length:Int) x Z s) Q) (s:σ) (h:I [] s) (hn:∀s,I L s→Ok (K s) Q):Ok (Go.Proofs.YtdjeacigeegklaaGreat.bJ L 0 B K s) Q:=by
 have key:∀(l p:List α) (s:σ),L=p++l→I p s→Ok (Go.Proofs.YtdjeacigeegklaaGreat.bJ l p.length B K s) Q:=by
  intro l
  induction l with
  |nil=>intro p s hj h;exact hn s (by rw[hj,List.append_nil];exact h)
  |cons x r ih=>
   intro p s hj h
   refine hc p x r s _ hj h λs' h'=>?_
   have:=ih (p++[x]) s' (by simp[hj]) h'
   rwa [List.length_append]at this
 exact key L [] s rfl h
theorem sv{a b:List Int}(h:a.Nodup)(hs:∀x∈a,x∈b):a.length≤b.length:=by
 induction a generalizing b with
 |nil=>simp
 |cons x a ih=>
  rw[List.nodup_cons]at h
  have hx:=hs x (by simp)
  have:=ih (b:=b.erase x) h.2 λy hy=>(List.mem_erase_of_ne (λe=>h.1 (by rw[←e];exact hy))).2 (hs y (by simp[hy]))
  rw[List.length_erase_of_mem hx]at this
  have:=List.length_pos_of_mem hx
  simp only[List.length_cons];omega
inductive Cn(t:aa)(c:List Int):Int→Int→Prop
 |refl {a:Int} (h:a∉c):Cn t c a a
 |step {a b d:Int} (h:Cn t c a b) (ha:mm t b d=true) (hd:d∉c):Cn t c a d
variable {a b:Int}{c:List Int}{t:aa}
theorem Cn.trans{d:Int}(h1:Cn t c a b)(h2:Cn t c b d):Cn t c a d:=by
 induction h2 with
 |refl _=>exact h1
 |step _ ha hd ih=>exact .step ih ha hd
theorem Cn.left(h:Cn t c a b):a∉c:=by
 induction h with
 |refl h=>exact h
 |step _ _ _ ih=>exact ih
theorem Cn.right(h:Cn t c a b):b∉c:=by
 cases h with
 |refl h=>exact h
 |step _ _ hd=>exact hd
theorem Cn.symm(h:Cn t c a b):Cn t c b a:=by
 induction h with
 |refl h=>exact .refl h
 |step h ha hd ih=>exact(Cn.step (.refl hd) (afn ha) h.right).trans ih
theorem Cn.ids{t:aa}(hv:Vt t){c:List Int}{a b:Int}(h:Cn t c a b)(ha:a∈ids t):b∈ids t:=by
 cases h with
 |refl h=>exact ha
 |step _ hd _=>exact ua hv hd
theorem Cn.stays{S:Int→Prop}(h:Cn t c a b)(ha:S a)(hs:∀x,S x→∀y,mm t x y=true→S y∨y∈c):S b:=by
 induction h with
 |refl _=>exact ha
 |step _ hd hc ih=>exact(hs _ ih _ hd).resolve_right hc
open Classical in
noncomputable def acJ(t:aa)(c:List Int)(r:Int):List Int:=(ids t).filter λx=>decide (Cn t c r x)
variable {r:Int}
theorem ad6(hv:Vt t){x:Int}(hr:r∈ids t):x∈acJ t c r↔Cn t c r x:=by
 unfold acJ
 rw[List.mem_filter]
 simp only[decide_eq_true_eq]
 exact⟨λh=>h.2,λh=>⟨h.ids hv hr,h⟩⟩
theorem akZ(hv:Vt t)(c:List Int)(r:Int):(acJ t c r).Pairwise (·<·):=(yl hv).sublist List.filter_sublist
theorem ud(hv:Vt t):(ids t).length≤24:=by have:=hv.nr;simpa [ids]using this
theorem atE(hv:Vt t)(c:List Int):∀(n:Nat) (r:Int) (out:List Int),out.Nodup→(∀x∈out,x∈ids t)→r∈ids t→(ids t).length+1≤n+out.length→
  Ok (ic n r out c t.ah t.Links) (λo=>∃new,o=out++new∧o.Nodup∧(∀x∈new,Cn t c r x)∧(r∈o∨r∈c)∧(∀x∈new,∀y,mm t x y=true→y∈o∨y∈c)):=by
 intro n
 induction n with
 |zero=>intro r out h1 h2 _ h3;have:=sv h1 h2;omega
 |succ n ih=>
  intro r out h1 h2 hr h3
  unfold ic
  simp only[su,aN,jn]
  by_cases q1:r∈out
  ·simp only[q1,decide_true,cond_true]
   exact Ok.s ⟨[],by simp,h1,by simp,.inl q1,by simp⟩
  ·simp only[q1,decide_false,cond_false]
   by_cases q2:r∈c
   ·simp only[q2,decide_true,cond_true]
    exact Ok.s ⟨[],by simp,h1,by simp,by simp[q2],by simp⟩
   ·simp only[q2,decide_false,cond_false]
    have hol:=sv h1 h2
    have:=ud hv
    rw[jS (by simp;omega),aN,show(aa.mk t.ah t.Links)=t from rfl,afp hv,aN]
    refine Ok.y5 (λp m=>∃new,m=(out++[r])++new∧m.Nodup∧(∀x∈new,Cn t c r x)∧(∀x∈p,x∈m∨x∈c)∧(∀x∈new,∀y,mm t x y=true→y∈m∨y∈c)) ?_ _ ?_ ?_
    ·rintro p e rest m Z hL ⟨new,hm,hnd,hcn,hp,had⟩ hZ
     have afq:mm t r e=true:=(nJ hv).1 (by rw[hL];simp)
     have hsub:∀x∈m,x∈ids t:=by
      intro x hx
      rw[hm]at hx
      simp only[List.mem_append,List.mem_cons,List.not_mem_nil,or_false]at hx
      rcases hx with(hx|rfl)|hx
      ·exact h2 x hx
      ·exact hr
      ·exact(hcn x hx).ids hv hr
     refine Ok.bnd (ih e m hnd hsub (ua hv afq) (by rw[hm];simp;omega)) ?_
     rintro o ⟨new2,ho,hond,hocn,hoe,hoad⟩
     refine hZ _ ⟨new++new2,by rw[ho,hm];simp,hond,?_,?_,?_⟩
     ·intro x hx
      rcases List.mem_append.1 hx with hx|hx
      ·exact hcn x hx
      ·have:=hocn x hx
       exact(Cn.step (.refl q2) afq this.left).trans this
     ·intro x hx
      rcases List.mem_append.1 hx with hx|hx
      ·rcases hp x hx with h|h
       ·exact .inl (by rw[ho];simp[h])
       ·exact .inr h
      ·simp only[List.mem_cons,List.not_mem_nil,or_false]at hx;subst hx;exact hoe
     ·intro x hx y hy
      rcases List.mem_append.1 hx with hx|hx
      ·rcases had x hx y hy with h|h
       ·exact .inl (by rw[ho];simp[h])
       ·exact .inr h
      ·exact hoad x hx y hy
    ·refine⟨[],by simp,?_,by simp,by simp,by simp⟩
     rw[List.nodup_append]
     refine⟨h1,by simp,?_⟩
     intro a ha b hb
     simp only[List.mem_cons,List.not_mem_nil,or_false]at hb
     subst hb
     exact λe=>q1 (e▸ha)
    ·rintro m ⟨new,hm,hnd,hcn,hp,had⟩
     refine Ok.s ⟨r::new,by rw[hm];simp,hnd,?_,.inl (by rw[hm];simp),?_⟩
     ·intro x hx
      rcases List.mem_cons.1 hx with rfl|hx
      ·exact .refl q2
      ·exact hcn x hx
     ·intro x hx y hy
      rcases List.mem_cons.1 hx with rfl|hx
      ·exact hp y ((nJ hv).2 hy)
      ·exact had x hx y hy
theorem af4(hv:Vt t)(hr:r∈ids t)(c:List Int):lz t r c=some (acJ t c r):=by
 have:=ud hv
 obtain⟨o,h1,new,ho,hnd,hcn,hro,had⟩:=atE hv c fuel r [] List.nodup_nil (by simp) hr (by unfold fuel;simp;omega)
 unfold lz
 rw[h1,aN]
 rw[List.nil_append]at ho
 subst ho
 have hlen:=sv hnd λx hx=>(hcn x hx).ids hv hr
 rw[amy (by simp;omega)]
 congr 1
 refine ad3 (afl hnd) (akZ hv c r) λx=>?_
 rw[ad4,ad6 hv hr]
 refine⟨hcn x,λh=>?_⟩
 have hro:=hro.resolve_right h.left
 exact h.stays (S:=λx=>x∈o) hro had
end Go.Proofs.YtdjeacigeegklaaGreat
namespace Go.Proofs.YtdjeacigeegklaaGreat
set_option linter.all false
open Go
open Classical in
noncomputable def aak(t:aa)(a b:Int):Bool:=decide (fC t=0)&&hasB t a&&hasB t b&&decide (Cn t [] a b)
theorem ak0{t:aa}(hv:Vt t){c:List Int}{a b:Int}(ha:a∈ids t):decide (b∈acJ t c a)=@decide (Cn t c a b) (Classical.propDecidable _):=by
 rw[Bool.eq_iff_iff];simp[ad6 hv ha]
theorem aeo(t:aa)(a b:Int)(hl:t.ah.length≤1000000):jE t a b=some (aak t a b):=by
 unfold jE aak
 simp only[yj _ _ hl,aN]
 by_cases h:fC t=0
 ·have hv:=gE.1 h
  simp only[h,decide_true,Bool.true_and]
  cases ha:hasB t a
  ·rfl
  ·cases hb:hasB t b
   ·rfl
   ·simp only[cond_true,af4 hv (gH.2 ha),aN,su,ak0 hv (gH.2 ha),Bool.true_and]
 ·simp[h]
theorem fP{α:Type}(l:List (Int×α))(n m:Int)(b:α):aJ (bZ l n b) m=if m=n then some b else aJ l m:=by
 induction l with
 |nil=>
  simp only[bZ,aJ,List.find?]
  by_cases h:n=m
  ·simp[h]
  ·simp[h,Ne.symm h]
 |cons p r ih=>
  simp only[bZ]
  by_cases h1:p.1=n
  ·rw[if_pos h1]
   simp only[aJ,List.find?]at ih ⊢
   by_cases h2:n=m
   ·simp[h2]
   ·have:p.1≠m:=by omega
    simp[h2,this,Ne.symm h2]
  ·rw[if_neg h1]
   simp only[aJ,List.find?]at ih ⊢
   by_cases h2:p.1=m
   ·have:m≠n:=by omega
    simp[h2,this]
   ·simp[h2];exact ih
theorem ak1{α:Type}{l:List (Int×α)}{n:Int}{b:α}(h:aJ l n=none):(bZ l n b).length=l.length+1:=by
 induction l with
 |nil=>rfl
 |cons p r ih=>
  simp only[aJ,List.find?]at h
  by_cases h1:p.1=n
  ·simp[h1]at h
  ·simp only[bZ,if_neg h1,List.length_cons]
   rw[ih (by simpa [aJ,h1]using h)]
end Go.Proofs.YtdjeacigeegklaaGreat
