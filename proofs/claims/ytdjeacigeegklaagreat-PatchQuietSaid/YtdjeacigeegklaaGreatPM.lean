/- Several texts in one. No condition but those that stand in each. -/
import Derived.Test.YtdjeacigeegklaaGreatDA
namespace Go.Proofs.YtdjeacigeegklaaGreat
set_option linter.all false
open Go
variable {α β:Type}
theorem aM(a:α)(k:α→Option β):bnd (some a) k=k a:=rfl
variable {c:Bool}
theorem anu{k:Option β}(h:c=true):chk c k=k:=by subst h;rfl
theorem ru{p:Prop}[Decidable p]{x y:α}:(bif decide p then x else y)=if p then x else y:=by
 by_cases h:p<;>simp[h]
theorem yg{α σ β:Type}{B:Int→α→(σ→Option β)→σ→Option β}{K:σ→Option β}(f:List α→σ→Option β)(hn:∀s,K s=f [] s)
  (hc:∀(j:Int) x r s Z,(∀s',Z s'=f r s')→B j x Z s=f (x::r) s):∀(l:List α) (j:Nat) (s:σ),bD l j B K s=f l s
 |[],_,s=>hn s
 |x::r,j,s=>hc j x r s _ λs'=>yg f hn hc r (j+1) s'
def Ok{β:Type}(o:Option β)(Q:β→Prop):Prop:=∃r,o=some r∧Q r
variable {Q:β→Prop}
theorem Ok.s{r:β}(h:Q r):Ok (some r) Q:=⟨r,rfl,h⟩
theorem Ok.bnd{α β:Type}{o:Option α}{k:α→Option β}{P:α→Prop}{Q:β→Prop}(h:Ok o P)(hk:∀a,P a→Ok (k a) Q):Ok (bnd o k) Q:=by
 obtain⟨a,rfl,ha⟩:=h;exact hk a ha
theorem Ok.cs{x y:Option β}(h1:c=true→Ok x Q)(h2:c=false→Ok y Q):Ok (bif c then x else y) Q:=by
 cases c
 ·exact h2 rfl
 ·exact h1 rfl
theorem Ok.chk{β:Type}{c:Bool}{k:Option β}{Q:β→Prop}(h:c=true)(hk:Ok k Q):Ok (chk c k) Q:=by subst h;exact hk
theorem Ok.jn{σ β:Type}{k:σ→Option β}{t:(σ→Option β)→Option β}{Q:β→Prop}(R:σ→Prop)(h1:∀s,R s→Ok (k s) Q)(h2:∀J,(∀s,R s→Ok (J s) Q)→Ok (t J) Q):Ok (jn k t) Q:=h2 k h1
variable {o:Option β}
theorem Ok.mono{Q':β→Prop}(h:Ok o Q)(hq:∀r,Q r→Q' r):Ok o Q':=by
 obtain⟨r,h1,h2⟩:=h;exact⟨r,h1,hq r h2⟩
theorem Ok.bD{α σ β:Type}{B:Int→α→(σ→Option β)→σ→Option β}{K:σ→Option β}{Q:β→Prop}(I:Nat→σ→Prop)
  (hc:∀(j:Nat) x s Z,I j s→(∀s',I (j+1) s'→Ok (Z s') Q)→Ok (B (j:Int) x Z s) Q):∀(l:List α) (j:Nat) (s:σ),I j s→(∀s,I (j+l.length) s→Ok (K s) Q)→Ok (bD l j B K s) Q
 |[],j,s,h,hn=>hn s (by simpa using h)
 |x::r,j,s,h,hn=>hc j x s _ h λs' h'=>Ok.bD I hc r (j+1) s' h' λs hs=>hn s (by rwa [List.length_cons,←Nat.add_assoc,Nat.add_right_comm])
theorem Ok.mM{σ β:Type}{B:Int→(σ→Option β)→σ→Option β}{K:Int→σ→Option β}{Q:β→Prop}(I:Int→σ→Prop)(lo hi:Int)
  (hc:∀(i:Int) s Z,lo≤i→i<hi→I i s→(∀s',I (i+1) s'→Ok (Z s') Q)→Ok (B i Z s) Q) (hn:∀i s,lo≤i→(lo≤hi→i=hi)→I i s→Ok (K i s) Q):∀(n:Nat) (i:Int) (s:σ),n=(hi-i).toNat→lo≤i→(lo≤hi→i≤hi)→I i s→Ok (mM n i B K s) Q
 |0,i,s,hn0,h1,h2,h=>hn i s h1 (λhh=>by have:=h2 hh;omega) h
 |n+1,i,s,hn0,h1,h2,h=>hc i s _ h1 (by omega) h λs' h'=>Ok.mM I lo hi hc hn n (i+1) s' (by omega) (by omega) (λ_=>by omega) h'
theorem Ok.iter{σ β:Type}{F:(σ→Option β)→σ→Option β}{Q:β→Prop}(I:σ→Prop)(μ:σ→Nat)
  (hc:∀s Z,I s→(∀s',I s'→μ s'<μ s→Ok (Z s') Q)→Ok (F Z s) Q):∀(n:Nat) (s:σ),I s→μ s<n→Ok (iter F n s) Q
 |0,s,_,h=>by omega
 |n+1,s,h,hm=>hc s _ h λs' h' hm'=>Ok.iter I μ hc n s' h' (by omega)
theorem Ok.whl{σ β:Type}{F:(σ→Option β)→σ→Option β}{Q:β→Prop}(I:σ→Prop)(μ:σ→Nat){s:σ}(h:I s)(hm:μ s<1099511627776)
  (hc:∀s Z,I s→(∀s',I s'→μ s'<μ s→Ok (Z s') Q)→Ok (F Z s) Q):Ok (whl F s) Q:=Ok.iter I μ hc fuel s h hm
theorem Ok.get(h:Ok o Q):∃r,o=some r∧Q r:=h
theorem Ok.eq{r:β}(h:Ok o (λx=>x=r)):o=some r:=by obtain⟨x,h1,rfl⟩:=h;exact h1
theorem ajo(p:List α)(x:α)(r:List α):elO (p++x::r) (p.length:Int)=some x:=by
 unfold elO;rw[if_pos (by omega)];simp
variable {i:Int}{l:List α}
theorem jM(h0:0≤i)(h:i<l.length):Ok (elO l i) (λx=>x∈l∧l[i.toNat]?=some x):=by
 unfold elO;rw[if_pos h0]
 have:i.toNat<l.length:=by omega
 exact⟨l[i.toNat],List.getElem?_eq_getElem this,List.getElem_mem this,List.getElem?_eq_getElem this⟩
variable {r:List α}
theorem ni(h:l.length+r.length≤549755813888):dB l r=some (l++r):=by unfold dB;rw[if_pos (by unfold cap;exact h)]
theorem tv(h:l.length+r.length≤549755813888):Ok (dB l r) (λm=>m=l++r∧m.length=l.length+r.length):=⟨_,ni h,rfl,by simp⟩
theorem af1{x:α}(h0:0≤i)(h:i<l.length):Ok (sY l i x) (λm=>m=l.set i.toNat x∧m.length=l.length):=by
 unfold sY;rw[if_pos ⟨h0,h⟩];exact⟨_,rfl,rfl,by simp⟩
theorem aar{a b:Int}(h:0≤a∧a≤b∧b≤l.length):Ok (nO l a b) (λm=>m=(l.take b.toNat).drop a.toNat∧(m.length:Int)=b-a):=by
 unfold nO;rw[if_pos h];exact⟨_,rfl,rfl,by simp;omega⟩
theorem gO{σ:Type}{B:Int→α→(σ→Option β)→σ→Option β}{K:σ→Option β}(p:α→Bool)(a:Option β)(hB:∀j x Z s,B j x Z s=bif p x then a else Z s)(l:List α)(j:Nat)(s:σ):bD l j B K s=bif l.any p then a else K s:=
 yg (f:=λl s=>bif l.any p then a else K s) (λs=>rfl) (λj x r s Z hZ=>by
  rw[hB,hZ,List.any_cons];cases p x<;>rfl) l j s
end Go.Proofs.YtdjeacigeegklaaGreat
namespace Go.Proofs.YtdjeacigeegklaaGreat
set_option linter.all false
open Go
def w9(n:Int):Bool:=decide (1≤n)&&decide (n≤1000)
def hasB(t:aa)(r:Int):Bool:=t.aj.any λx=>decide (x.ID=r)
def aas(r:aQ):Bool:=decide (r.ID<1)||decide (99<r.ID)
def uL(l:aW):Bool:=!w9 l.iK||!w9 l.iL||decide (l.oQ<0)||decide (1000<l.oQ)
def ltL(a b:aW):Bool:=decide (a.A<b.A)||(decide (a.A=b.A)&&decide (a.B<b.B))
def kg{α:Type}(p:α→α→Bool):List α→Bool
 |a::b::r=>p a b&&kg p (b::r)
 |_=>true
def kA(t:aa):Bool:=t.aj.any aas
def kB(t:aa):Bool:=kg (λa b=>decide (a.ID<b.ID)) t.aj
def kC(t:aa):Bool:=t.Links.any uL
def kD(t:aa):Bool:=t.Links.any λl=>!hasB t l.A||!hasB t l.B
def kE(t:aa):Bool:=t.Links.any λl=>decide (l.B≤l.A)
def kF(t:aa):Bool:=kg ltL t.Links
def eU(t:aa):Int:=
 bif decide (24<(t.aj.length:Int))||decide (60<(t.Links.length:Int))then 3
 else bif kA t then 2 else bif kB t then(bif kC t then 2 else bif kD t then 4 else bif kE t then 8 else bif kF t then 0 else 25)else 25
theorem acf{α σ β:Type}{B:Int→α→(σ→Option β)→σ→Option β}{K:σ→Option β}{L:List α}(p:α→α→Bool)(a:Option β)
  (hB:∀(j:Nat) x y r q s Z,L=q++y::x::r→j=q.length+1→B (j:Int) x Z s=bif p y x then Z s else a):∀(r q:List α) (y:α) (s:σ),L=q++y::r→bD r (q.length+1) B K s=bif kg p (y::r)then K s else a
 |[],q,y,s,h=>rfl
 |x::r,q,y,s,h=>by
  simp only[bD]
  rw[hB (q.length+1) x y r q s _ h rfl]
  have:=acf (B:=B) (K:=K) p a hB r (q++[y]) x s (by simpa using h)
  simp only[List.length_append,List.length_cons,List.length_nil]at this
  rw[this]
  simp only[kg]
  cases p y x<;>rfl
variable {α β σ:Type}{L:List α}{B:Int→α→(σ→Option β)→σ→Option β}{K:σ→Option β}
theorem sx(p:α→α→Bool)(a:Option β)
  (hB:∀(j:Nat) x y r q s Z,L=q++y::x::r→j=q.length+1→B (j:Int) x Z s=bif p y x then Z s else a) (s:σ):bD (L.drop 1) 1 B K s=bif kg p L then K s else a:=by
 cases L with
 |nil=>rfl
 |cons y r=>exact acf (B:=B) (K:=K) p a hB r [] y s rfl
theorem aeH(p:α→α→Bool)(a:Option β)(h0:∀x Z s,B ((0:Nat):Int) x Z s=Z s)
  (hB:∀(j:Nat) x y r q s Z,L=q++y::x::r→j=q.length+1→B (j:Int) x Z s=bif p y x then Z s else a) (s:σ):bD L 0 B K s=bif kg p L then K s else a:=by
 cases L with
 |nil=>rfl
 |cons y r=>
  simp only[bD]
  rw[h0]
  exact acf (B:=B) (K:=K) p a hB r [] y s rfl
variable {j:Nat}
theorem qi{y x:α}{r q:List α}(h:L=q++y::x::r)(hj:j=q.length+1)(hL:(L.length:Int)≤9223372036854775807):elO L (w64 ((j:Int)-1))=some y:=by
 have hl:q.length+2≤L.length:=by rw[h];simp
 rw[iA (by omega) (by omega),show(j:Int)-1=(q.length:Int)by omega,h,ajo]
theorem alK(n:Int):qb n=some (w9 n):=rfl
theorem ag8(t:aa)(r:Int):nR t r=some (hasB t r):=by
 unfold nR
 refine(gO (λx:aQ=>decide (x.ID=r)) (some true) ?_ _ _ _).trans ?_
 ·intros;rfl
 ·unfold hasB;cases t.aj.any _<;>rfl
theorem mD(t:aa):gH t=some (eU t):=by
 unfold gH eU
 by_cases hlen:(decide (24<(t.aj.length:Int))||decide (60<(t.Links.length:Int)))=true
 ·rw[hlen];rfl
 rw[Bool.not_eq_true]at hlen
 rw[hlen]
 simp only[cond_false]
 simp only[Bool.or_eq_false_iff,decide_eq_false_iff_not]at hlen
 refine(gO aas (some 2) ?_ _ _ _).trans ?_
 ·intros;rfl
 unfold kA
 cases t.aj.any aas
 case true=>rfl
 simp only[cond_false]
 refine(sx (λa b:aQ=>decide (a.ID<b.ID)) (some 25) ?_ _).trans ?_
 ·intro j x y r q s Z h hj
  simp only[qi h hj (by omega),aM,ru]
  split<;>split<;>first|rfl|omega
 unfold kB
 cases kg _ t.aj
 case false=>rfl
 simp only[cond_true]
 refine(gO uL (some 2) ?_ _ _ _).trans ?_
 ·intro j x Z s
  simp only[jn,alK,aM,uL]
  cases w9 x.iK<;>cases w9 x.iL<;>simp[ru]<;>(try split)<;>(try split)<;>simp_all<;>omega
 unfold kC
 cases t.Links.any uL
 case true=>rfl
 simp only[cond_false]
 refine(gO (λl=>!hasB t l.A||!hasB t l.B) (some 4) ?_ _ _ _).trans ?_
 ·intro j x Z s
  simp only[jn,ag8,aM]
  cases hasB t x.A<;>cases hasB t x.B<;>rfl
 unfold kD
 cases t.Links.any _
 case true=>rfl
 simp only[cond_false]
 refine(gO (λl=>decide (l.B≤l.A)) (some 8) ?_ _ _ _).trans ?_
 ·intros;rfl
 unfold kE
 cases t.Links.any _
 case true=>rfl
 simp only[cond_false]
 refine(sx ltL (some 25) ?_ _).trans ?_
 ·intro j x y r q s Z h hj
  have e:(decide (x.A<y.A)||(decide (y.A=x.A)&&decide (x.B≤y.B)))=!ltL y x:=by
   rw[Bool.eq_iff_iff];simp[ltL];omega
  simp only[qi h hj (by omega),aM]
  rw[e]
  cases ltL y x<;>rfl
 unfold kF
 cases kg ltL t.Links<;>rfl
theorem ud{α σ:Type}{B:Int→α→(σ→Option Int)→σ→Option Int}{K:σ→Option Int}(p:α→Bool)(hB:∀j x Z s,B j x Z s=bif p x then some j else Z s)(hK:∀s,K s=some (-1)):∀(l:List α) (j:Nat) (s:σ),∃r,bD l j B K s=some r∧decide (0≤r)=l.any p
 |[],j,s=>⟨-1,hK s,rfl⟩
 |x::r,j,s=>by
  simp only[bD,hB,List.any_cons]
  cases p x
  ·simpa using ud p hB hK r (j+1) s
  ·exact⟨j,rfl,by simp⟩
theorem cfR(l:List aQ)(f:aQ→Option Bool)(p:aQ→Bool)(hf:∀x,f x=some (p x)):dZ l f=some (l.any p):=by
 unfold dZ fC
 obtain⟨r,h1,h2⟩:=ud (B:=λ(j1:Int) (e1:aQ) (Z1:Unit→Option Int) (sg:Unit)=>match sg with|()=>bnd (f e1) λ(ai:Bool)=>bif ai then some (j1:Int)else Z1 ()) (K:=λ(sg:Unit)=>match sg with|()=>some (-1:Int)) p (λj x Z s=>by simp only[hf,aM]) (λ_=>rfl) l 0 ()
 simp only[h1,aM,h2]
theorem cfL(l:List aW)(f:aW→Option Bool)(p:aW→Bool)(hf:∀x,f x=some (p x)):dG l f=some (l.any p):=by
 unfold dG fP
 obtain⟨r,h1,h2⟩:=ud (B:=λ(j1:Int) (e1:aW) (Z1:Unit→Option Int) (sg:Unit)=>match sg with|()=>bnd (f e1) λ(ai:Bool)=>bif ai then some (j1:Int)else Z1 ()) (K:=λ(sg:Unit)=>match sg with|()=>some (-1:Int)) p (λj x Z s=>by simp only[hf,aM]) (λ_=>rfl) l 0 ()
 simp only[h1,aM,h2]
def kT(x y:Int):Int:=if x<y then -1 else if y<x then 1 else 0
theorem ag9(x y:Int):fO x y=some (kT x y):=by
 unfold fO lQ kT
 simp only[aM,decide_true,Bool.not_true,cond_false,ru]
 split<;>(try split)<;>rfl
variable {x:Int}
theorem aha{y:Int}:kT x y<0↔x<y:=by unfold kT;split<;>(try split)<;>omega
theorem sy{y:Int}:kT x y=0↔x=y:=by unfold kT;split<;>(try split)<;>omega
def orI:List Int→Int
 |[]=>0
 |x::r=>if x=0 then orI r else x
theorem aup(l:List Int):qd l=some (orI l):=by
 unfold qd
 refine(yg (f:=λl _=>some (orI l)) ?_ ?_ _ _ _)
 ·intros;rfl
 ·intro j x r s Z hZ
  simp only[orI,hZ]
  by_cases h:x=0<;>simp[h]
def mZ(a b:aW):Int:=orI [kT a.A b.A,kT a.B b.B]
theorem abA(a b:aW):jf a b=some (mZ a b):=by
 unfold jf;simp only[ag9,aM,aup];rfl
theorem af2(r:aQ)(id:Int):lR r id=some (kT r.ID id):=by
 unfold lR;simp only[ag9,aM]
variable {a b:aW}
theorem aa9:mZ a b<0↔ltL a b=true:=by
 have:mZ a b<0↔a.A<b.A∨(a.A=b.A∧a.B<b.B):=by
  simp only[mZ,orI]
  split
  ·rename_i h
   rw[sy]at h
   split
   ·rename_i h2;rw[sy]at h2;omega
   ·rw[aha];omega
  ·rename_i h
   rw[sy]at h
   rw[aha];omega
 rw[this];simp[ltL]
theorem aba:mZ a b=0↔a.A=b.A∧a.B=b.B:=by
 simp only[mZ,orI]
 split
 ·rename_i h
  rw[sy]at h
  split
  ·rename_i h2;rw[sy]at h2;omega
  ·rename_i h2;rw[sy]at h2 ⊢;omega
 ·rename_i h
  rw[sy]at h ⊢;omega
def bsG{α:Type}[Inhabited α](f:α→Int)(l:List α)(i j:Nat):Nat:=
 if h:i<j then if f (el l ((i+j) / 2:Nat))<0 then bsG f l ((i+j) / 2+1) j else bsG f l i ((i+j) / 2)else i
 termination_by j-i
 decreasing_by all_goals omega
def bsR{α:Type}[Inhabited α](f:α→Int)(l:List α):Nat:=bsG f l 0 l.length
def bsT{α:Type}[Inhabited α](f:α→Int)(l:List α):Bool:=decide (bsR f l<l.length)&&decide (f (el l (bsR f l))=0)
variable {f:α→Int}{i:Nat}{l:List α}
theorem ajp[Inhabited α](h:i<j)(hf:f (el l ((i+j) / 2:Nat))<0):bsG f l i j=bsG f l ((i+j) / 2+1) j:=by
 rw[bsG,dif_pos h,if_pos hf]
theorem ajq[Inhabited α](h:i<j)(hf:¬f (el l ((i+j) / 2:Nat))<0):bsG f l i j=bsG f l i ((i+j) / 2):=by
 rw[bsG,dif_pos h,if_neg hf]
theorem adW[Inhabited α](h:j≤i):bsG f l i j=i:=by
 rw[bsG,dif_neg (by omega)]
theorem aat[Inhabited α](h:i<l.length):el l i=l[i]:=by
 simp[el,List.getD_eq_getElem?_getD,h]
theorem ajr[Inhabited α](h:i<l.length):el l i∈l:=by
 rw[aat h];exact List.getElem_mem h
theorem yh[Inhabited α](h:i<l.length):elO l (i:Int)=some (el l i):=by
 unfold elO;rw[if_pos (by omega),aat h];simp[h]
theorem ahb(h:i+j≤4611686018427387904):w64 (Int.fdiv (IntKind.wrap .u64 (w64 ((i:Int)+(j:Int)))) (2 ^ min (1:Int).toNat 64))=(((i+j) / 2:Nat):Int):=by
 have e1:w64 ((i:Int)+(j:Int))=((i+j:Nat):Int):=by rw[iA (by omega) (by omega)];simp
 have e2:IntKind.wrap .u64 ((i+j:Nat):Int)=((i+j:Nat):Int):=anM (by omega) (by omega)
 rw[e1,e2]
 have e3:(2:Int) ^ min (1:Int).toNat 64=2:=rfl
 rw[e3,Int.fdiv_eq_ediv_of_nonneg _ (by omega)]
 rw[iA (by omega) (by omega)];simp
theorem ahc[Inhabited α]{F:((Int×Int)→Option (Int×Bool))→(Int×Int)→Option (Int×Bool)}(l:List α)(f:α→Int)(hl:l.length≤1000000)
  (hF:∀(i j:Nat) Z,j≤l.length→F Z ((i:Int),(j:Int))=if h:i<j then(if f (el l ((i+j) / 2:Nat))<0 then Z ((((i+j) / 2+1:Nat):Int),(j:Int))else Z ((i:Int),(((i+j) / 2:Nat):Int)))else some ((i:Int),decide (i<l.length)&&decide (f (el l i)=0))) :
  whl F ((0:Int),(l.length:Int))=some ((bsR f l:Int),bsT f l):=by
 refine Ok.eq (Ok.whl (I:=λs=>∃i j:Nat,s=((i:Int),(j:Int))∧i≤j∧j≤l.length∧bsG f l i j=bsR f l) (μ:=λs=>(s.2-s.1).toNat) ⟨0,l.length,rfl,by omega,by omega,rfl⟩ ?_ ?_)
 ·show((l.length:Int)-0).toNat<_;omega
 ·rintro s Z ⟨i,j,rfl,h1,h2,h3⟩ hz
  rw[hF i j Z h2]
  split
  ·rename_i hij
   split
   ·rename_i hf
    exact hz _ ⟨_,_,rfl,by omega,h2,by rw[←h3,ajp hij hf]⟩ (by show((j:Int)-_).toNat<((j:Int)-i).toNat;omega)
   ·rename_i hf
    exact hz _ ⟨_,_,rfl,by omega,by omega,by rw[←h3,ajq hij hf]⟩ (by show((((i+j) / 2:Nat):Int)-i).toNat<((j:Int)-i).toNat;omega)
  ·rename_i hij
   have:bsR f l=i:=by rw[←h3,adW (by omega)]
   exact⟨_,rfl,by simp only[bsT,this]⟩
theorem auq(l:List aQ)(x:Int)(c:aQ→Int→Option Int)(f:aQ→Int)(hl:l.length≤1000000)(hc:∀r,c r x=some (f r)):cW l x c=some ((bsR f l:Int),bsT f l):=by
 unfold cW
 refine ahc l f hl λi j Z hj=>?_
 by_cases hij:i<j
 ·rw[dif_pos hij]
  simp only[ahb (i:=i) (j:=j) (by omega),yh (show(i+j) / 2<l.length by omega),aM,hc,ru]
  rw[if_pos (by omega),iA (by omega) (by omega)]
  rfl
 ·rw[dif_neg hij]
  simp only[ru]
  rw[if_neg (by omega)]
  by_cases hi:i<l.length
  ·rw[if_pos (by omega),yh hi];simp only[aM,hc];simp[hi]
  ·rw[if_neg (by omega)];simp[hi]
theorem bsLk(l:List aW)(x:aW)(c:aW→aW→Option Int)(f:aW→Int)(hl:l.length≤1000000)(hc:∀r,c r x=some (f r)):dH l x c=some ((bsR f l:Int),bsT f l):=by
 unfold dH
 refine ahc l f hl λi j Z hj=>?_
 by_cases hij:i<j
 ·rw[dif_pos hij]
  simp only[ahb (i:=i) (j:=j) (by omega),yh (show(i+j) / 2<l.length by omega),aM,hc,ru]
  rw[if_pos (by omega),iA (by omega) (by omega)]
  rfl
 ·rw[dif_neg hij]
  simp only[ru]
  rw[if_neg (by omega)]
  by_cases hi:i<l.length
  ·rw[if_pos (by omega),yh hi];simp only[aM,hc];simp[hi]
  ·rw[if_neg (by omega)];simp[hi]
theorem alL[Inhabited α](hm:∀a b:Nat,a≤b→b<l.length→f (el l a)≤f (el l b)):∀(n i j:Nat),j-i≤n→i≤j→j≤l.length→(∀m:Nat,m<i→f (el l m)<0)→(∀m:Nat,j≤m→m<l.length→0≤f (el l m))→
  bsG f l i j≤l.length∧(∀m:Nat,m<bsG f l i j→f (el l m)<0)∧(∀m:Nat,bsG f l i j≤m→m<l.length→0≤f (el l m)):=by
 intro n
 induction n with
 |zero=>
  intro i j hn hij hj h1 h2
  rw[adW (by omega)]
  exact⟨by omega,h1,λm hm'=>h2 m (by omega)⟩
 |succ n ih=>
  intro i j hn hij hj h1 h2
  by_cases h:i<j
  ·by_cases hf:f (el l ((i+j) / 2:Nat))<0
   ·rw[ajp h hf]
    refine ih _ _ (by omega) (by omega) hj (λm hm'=>?_) h2
    have:=hm m ((i+j) / 2) (by omega) (by omega)
    omega
   ·rw[ajq h hf]
    refine ih _ _ (by omega) (by omega) (by omega) h1 (λm hm' hml=>?_)
    have:=hm ((i+j) / 2) m hm' hml
    omega
  ·rw[adW (by omega)]
   exact⟨by omega,h1,λm hm'=>h2 m (by omega)⟩
theorem alM[Inhabited α](hm:∀a b:Nat,a≤b→b<l.length→f (el l a)≤f (el l b)):
  bsR f l≤l.length∧(∀m:Nat,m<bsR f l→f (el l m)<0)∧(∀m:Nat,bsR f l≤m→m<l.length→0≤f (el l m)):=
 alL hm l.length 0 l.length (by omega) (by omega) (by omega) (λm h=>by omega) (λm h1 h2=>by omega)
theorem ahd[Inhabited α](hm:∀a b:Nat,a≤b→b<l.length→f (el l a)≤f (el l b)):bsT f l=true↔∃x∈l,f x=0:=by
 obtain⟨h1,h2,h3⟩:=alM hm
 simp only[bsT,Bool.and_eq_true,decide_eq_true_eq]
 constructor
 ·rintro⟨q1,q2⟩
  exact⟨_,ajr q1,q2⟩
 ·rintro⟨x,hx,hf⟩
  obtain⟨m,hm1,rfl⟩:=List.getElem_of_mem hx
  rw[←aat hm1]at hf
  have hle:bsR f l≤m:=by
   by_cases q:m<bsR f l
   ·have:=h2 m q;omega
   ·omega
  have hlt:bsR f l<l.length:=by omega
  have:=h3 _ (Nat.le_refl _) hlt
  have:=hm _ _ hle hm1
  exact⟨hlt,by omega⟩
theorem wu[Inhabited α](h:l.Pairwise (λa b=>f a≤f b)):∀a b:Nat,a≤b→b<l.length→f (el l a)≤f (el l b):=by
 intro a b hab hb
 rcases Nat.lt_or_eq_of_le hab with hab|rfl
 ·have:=List.pairwise_iff_getElem.1 h a b (by omega) hb hab
  rwa [aat (by omega),aat hb]
 ·exact Int.le_refl _
theorem qj{α:Type}{p:α→α→Bool}(ht:∀a b c,p a b=true→p b c=true→p a c=true):∀{l:List α},kg p l=true→l.Pairwise (λa b=>p a b=true)
 |[],_=>List.Pairwise.nil
 |[x],_=>by simp
 |a::b::r,h=>by
  simp only[kg,Bool.and_eq_true]at h
  have ih:=qj ht h.2
  rw[List.pairwise_cons]
  refine⟨λz hz=>?_,ih⟩
  rcases List.mem_cons.1 hz with rfl|hz
  ·exact h.1
  ·exact ht _ _ _ h.1 ((List.pairwise_cons.1 ih).1 z hz)
theorem mS{α:Type}{p:α→α→Bool}:∀{l:List α},l.Pairwise (λa b=>p a b=true)→kg p l=true
 |[],_=>rfl
 |[x],_=>rfl
 |a::b::r,h=>by
  rw[List.pairwise_cons]at h
  simp only[kg,Bool.and_eq_true]
  exact⟨h.1 b (by simp),mS h.2⟩
variable {t:aa}
theorem ajs(h:kB t=true):t.aj.Pairwise (λa b=>a.ID<b.ID):=by
 have:=qj (p:=λa b:aQ=>decide (a.ID<b.ID)) (λa b c h1 h2=>by simp at h1 h2 ⊢;omega) h
 exact this.imp (λh=>by simpa using h)
theorem aqw(h:kB t=true)(id:Int):∀a b:Nat,a≤b→b<t.aj.length→kT (el t.aj a).ID id≤kT (el t.aj b).ID id:=
 wu (f:=λr:aQ=>kT r.ID id) ((ajs h).imp (λ{a b} h=>by unfold kT;split<;>(try split)<;>(try split)<;>(try split)<;>omega))
def alN(t:aa)(id:Int):Bool:=!bsT (λr=>kT r.ID id) t.aj
theorem ahe(h:kB t=true)(id:Int):alN t id=!hasB t id:=by
 simp only[alN,hasB]
 congr 1
 rw[Bool.eq_iff_iff,ahd (aqw h id)]
 simp[sy]
theorem oK(t:aa):hU t=some (eU t):=by
 unfold hU eU
 by_cases hlen:(decide (24<(t.aj.length:Int))||decide (60<(t.Links.length:Int)))=true
 ·rw[hlen];rfl
 rw[Bool.not_eq_true]at hlen
 rw[hlen]
 simp only[cond_false]
 simp only[Bool.or_eq_false_iff,decide_eq_false_iff_not]at hlen
 rw[cfR t.aj _ aas (λx=>by simp only[nx,jY,aM,aas];congr 1;rw[Bool.eq_iff_iff];simp)]
 simp only[aM]
 unfold kA
 cases t.aj.any aas
 case true=>rfl
 simp only[cond_false]
 refine(aeH (λa b:aQ=>decide (a.ID<b.ID)) (some 25) ?_ ?_ _).trans ?_
 ·intros;rfl
 ·intro j x y r q s Z h hj
  simp only[jn,qi h hj (by omega),aM,ru]
  rw[if_pos (by omega)]
  split<;>split<;>first|rfl|omega
 cases hB:kB t
 case false=>unfold kB at hB;rw[hB];rfl
 have hB':=hB
 unfold kB at hB'
 rw[hB']
 simp only[cond_true]
 rw[cfL t.Links lD uL (λx=>by
  simp only[lD,jY,aM,uL,w9]
  simp only[ru,Bool.not_and,Bool.cond_eq_ite,Bool.or_eq_true,Bool.not_eq_true',decide_eq_false_iff_not]
  split
  ·congr 1;symm;rw[Bool.eq_iff_iff];simp;omega
  ·split
   ·congr 1;symm;rw[Bool.eq_iff_iff];simp;omega
   ·congr 1;rw[Bool.eq_iff_iff];simp;omega)]
 simp only[aM]
 unfold kC
 cases t.Links.any uL
 case true=>rfl
 simp only[cond_false]
 have hu:∀id,jg id t=some (!hasB t id):=λid=>by
  unfold jg
  rw[auq t.aj id _ (λr=>kT r.ID id) (by omega) (λr=>af2 r id)]
  simp only[aM]
  rw[←ahe hB];rfl
 rw[cfL t.Links _ (λl=>!hasB t l.A||!hasB t l.B) (λx=>by
  simp only[ny,hu,aM]
  cases hasB t x.A<;>rfl)]
 simp only[aM]
 unfold kD
 cases t.Links.any _
 case true=>rfl
 simp only[cond_false]
 rw[cfL t.Links nA (λl=>decide (l.B≤l.A)) (λx=>rfl)]
 simp only[aM]
 unfold kE
 cases t.Links.any _
 case true=>rfl
 simp only[cond_false]
 refine(aeH ltL (some 25) ?_ ?_ _).trans ?_
 ·intros;rfl
 ·intro j x y r q s Z h hj
  simp only[jn,qi h hj (by omega),aM,abA,ru]
  rw[if_pos (by omega)]
  cases hlt:ltL y x
  ·have:¬mZ y x<0:=by rw[aa9,hlt];simp
   rw[if_pos (by omega)];rfl
  ·have:=aa9.2 hlt
   rw[if_neg (by omega)];rfl
 unfold kF
 cases kg ltL t.Links<;>rfl
end Go.Proofs.YtdjeacigeegklaaGreat
namespace Go.Proofs.YtdjeacigeegklaaGreat
set_option linter.all false
open Go
variable {α:Type}
theorem ahf[DecidableEq α]{l:List α}{v:α}:l.any (λx=>decide (x=v))=decide (v∈l):=by
 rw[Bool.eq_iff_iff];simp
theorem ahg(l:List Int)(n:Int):rj l n=some (decide (n∈l)):=by
 unfold rj
 refine(gO (λx:Int=>decide (x=n)) (some true) ?_ _ _ _).trans ?_
 ·intros;rfl
 ·rw[ahf];cases decide (n∈l)<;>rfl
theorem sA(l:List Int)(n:Int):cZ l n=some (decide (n∈l)):=by
 unfold cZ kr
 obtain⟨r,h1,h2⟩:=ud (B:=λ(j1:Int) (e1:Int) (Z1:Unit→Option Int) (sg:Unit)=>match sg with|()=>bif decide (n=e1)then some (j1:Int)else Z1 ()) (K:=λ(sg:Unit)=>match sg with|()=>some (-1:Int)) (λx=>decide (n=x)) (λj x Z s=>rfl) (λ_=>rfl) l 0 ()
 simp only[h1,aM,h2]
 congr 1
 rw[Bool.eq_iff_iff];simp
theorem ac6(a b:aV):kH a b=true↔a=b:=by
 cases a;cases b;simp[kH]
def oD(l:List aV)(a b:Int):Bool:=l.any λh=>kH (aV.mk a b) h
theorem adX(l:List aV)(v:aV):dK l v=some (l.any (kH v)):=by
 unfold dK gI
 obtain⟨r,h1,h2⟩:=ud (B:=λ(j1:Int) (e1:aV) (Z1:Unit→Option Int) (sg:Unit)=>match sg with|()=>bif kH v e1 then some (j1:Int)else Z1 ()) (K:=λ(sg:Unit)=>match sg with|()=>some (-1:Int)) (λx=>kH v x) (λj x Z s=>rfl) (λ_=>rfl) l 0 ()
 simp only[h1,aM,h2]
theorem ajt(l:List aV)(a b:Int):uH l a b=some (oD l a b||oD l b a):=by
 unfold uH
 refine(gO (λh:aV=>kH (aV.mk a b) h||kH (aV.mk b a) h) (some true) ?_ _ _ _).trans ?_
 ·intro j x Z s
  congr 1
  rw[Bool.eq_iff_iff]
  obtain⟨f,t⟩:=x
  simp[kH]
  constructor
  ·split
   ·rintro(h|h)<;>omega
   ·intro h;omega
  ·rintro(h|h)
   ·rw[if_pos (by omega)];omega
   ·split<;>omega
 ·have:(l.any λh:aV=>kH (aV.mk a b) h||kH (aV.mk b a) h)=(oD l a b||oD l b a):=by
   rw[Bool.eq_iff_iff];simp[oD,List.any_eq_true]
   constructor
   ·rintro⟨x,hx,h|h⟩
    ·exact .inl ⟨x,hx,h⟩
    ·exact .inr ⟨x,hx,h⟩
   ·rintro(⟨x,hx,h⟩|⟨x,hx,h⟩)
    ·exact⟨x,hx,.inl h⟩
    ·exact⟨x,hx,.inr h⟩
  rw[this];cases(oD l a b||oD l b a)<;>rfl
theorem mE{α γ β:Type}{B:Int→α→(List γ→Option β)→List γ→Option β}{K:List γ→Option β}(p:α→Bool)(f:α→γ):
  ∀(l:List α) (j:Nat) (s:List γ),(∀(j:Nat) x Z s,x∈l→s.length<1000000→B j x Z s=bif p x then Z (s++[f x])else Z s)→l.length+s.length≤1000000→bD l j B K s=K (s++(l.filter p).map f)
 |[],j,s,_,_=>by simp[bD]
 |x::r,j,s,hB,h=>by
  simp only[List.length_cons]at h
  simp only[bD]
  rw[hB j x _ s (by simp) (by omega)]
  have hB':∀(j:Nat) y Z s,y∈r→s.length<1000000→B j y Z s=bif p y then Z (s++[f y])else Z s:=λj y Z s hy=>hB j y Z s (by simp[hy])
  cases hp:p x
  ·rw[cond_false,mE p f r (j+1) s hB' (by omega),List.filter_cons_of_neg (by simp[hp])]
  ·rw[cond_true,mE p f r (j+1) (s++[f x]) hB' (by simp;omega),List.filter_cons_of_pos hp]
   simp
theorem ki{s:List α}{x:α}(h:s.length<1000000):dB s [x]=some (s++[x]):=ni (by simp;omega)
theorem aau{a b:List Int}(ha:a.Pairwise (·<·))(hb:b.Pairwise (·<·))(h:∀x,x∈a↔x∈b):a=b:=by
 induction a generalizing b with
 |nil=>
  cases b with
  |nil=>rfl
  |cons y b=>exact absurd ((h y).2 (by simp)) (by simp)
 |cons x a ih=>
  cases b with
  |nil=>exact absurd ((h x).1 (by simp)) (by simp)
  |cons y b=>
   rw[List.pairwise_cons]at ha hb
   have hxy:x=y:=by
    have h1:=(h x).1 (by simp)
    have h2:=(h y).2 (by simp)
    rw[List.mem_cons]at h1 h2
    rcases h1 with h1|h1
    ·exact h1
    ·rcases h2 with h2|h2
     ·exact h2.symm
     ·have:=hb.1 _ h1;have:=ha.1 _ h2;omega
   subst hxy
   congr 1
   refine ih ha.2 hb.2 λz=>?_
   have:=h z
   simp only[List.mem_cons]at this
   constructor
   ·intro hz
    rcases this.1 (.inr hz)with q|q
    ·subst q;have:=ha.1 _ hz;omega
    ·exact q
   ·intro hz
    rcases this.2 (.inr hz)with q|q
    ·subst q;have:=hb.1 _ hz;omega
    ·exact q
variable {l:List Int}
theorem y4(h:l.Nodup):(jC l).Pairwise (·<·):=by
 have h1:=vR l
 have h2:(jC l).Nodup:=(sU l).nodup_iff.2 h
 have:=h1.and h2
 exact this.imp (λ⟨a,b⟩=>by omega)
variable {x:Int}
theorem xb:x∈jC l↔x∈l:=(sU l).mem_iff
structure Vt(t:aa):Prop where
 nr:t.aj.length≤24
 nl:t.Links.length≤60
 idr:∀r∈t.aj,1≤r.ID∧r.ID≤99
 asc:t.aj.Pairwise (λa b=>a.ID<b.ID)
 okl:∀l∈t.Links,uL l=false
 ends:∀l∈t.Links,hasB t l.A=true∧hasB t l.B=true
 lt:∀l∈t.Links,l.A<l.B
 af3:t.Links.Pairwise (λa b=>ltL a b=true)
theorem aju(a b c:aW)(h1:ltL a b=true)(h2:ltL b c=true):ltL a c=true:=by
 simp[ltL]at *;omega
theorem any_false{l:List α}{p:α→Bool}:l.any p=false↔∀x∈l,p x=false:=by
 rw[List.any_eq_false];simp
variable {t:aa}
theorem fK:eU t=0↔Vt t:=by
 unfold eU
 constructor
 ·intro h
  by_cases h1:(decide (24<(t.aj.length:Int))||decide (60<(t.Links.length:Int)))=true
  ·rw[h1]at h;cases h
  simp only[Bool.not_eq_true]at h1
  rw[h1,cond_false]at h
  cases h2:kA t<;>rw[h2]at h<;>first|cases h;done|skip
  cases h3:kB t<;>rw[h3]at h<;>first|cases h;done|skip
  cases h4:kC t<;>rw[h4]at h<;>first|cases h;done|skip
  cases h5:kD t<;>rw[h5]at h<;>first|cases h;done|skip
  cases h6:kE t<;>rw[h6]at h<;>first|cases h;done|skip
  cases h7:kF t<;>rw[h7]at h<;>first|cases h;done|skip
  simp only[Bool.or_eq_false_iff,decide_eq_false_iff_not]at h1
  refine⟨by omega,by omega,λr hr=>?_,ajs h3,any_false.1 h4,λl hl=>?_,λl hl=>?_,qj aju h7⟩
  ·have:=any_false.1 h2 r hr;simp[aas]at this;omega
  ·have:=any_false.1 h5 l hl;simpa using this
  ·have:=any_false.1 h6 l hl;simpa using this
 ·intro h
  have h1:(decide (24<(t.aj.length:Int))||decide (60<(t.Links.length:Int)))=false:=by
   have:=h.nr;have:=h.nl;simp;omega
  have h2:kA t=false:=any_false.2 λr hr=>by have:=h.idr r hr;simp[aas];omega
  have h3:kB t=true:=mS (h.asc.imp λh=>by simpa using h)
  have h4:kC t=false:=any_false.2 h.okl
  have h5:kD t=false:=any_false.2 λl hl=>by have:=h.ends l hl;simp[this]
  have h6:kE t=false:=any_false.2 λl hl=>by have:=h.lt l hl;simp;omega
  have h7:kF t=true:=mS h.af3
  rw[h1,h2,h3,h4,h5,h6,h7];rfl
theorem xd(t:aa):ia t=some (decide (eU t=0)):=by
 unfold ia;rw[oK];rfl
variable {r:Int}
theorem wz:hasB t r=true↔∃x∈t.aj,x.ID=r:=by simp[hasB]
theorem ajv:eU (aa.mk [] [])=0:=rfl
def vh(f:bF)(l:aW):Bool:=decide (l.A∈f.aj)||decide (l.B∈f.aj)||oD f.Links l.A l.B||oD f.Links l.B l.A
def woT(t:aa)(f:bF):aa:=aa.mk (t.aj.filter λr=>!decide (r.ID∈f.aj)) (t.Links.filter λl=>!vh f l)
theorem Vt.wo(h:Vt t)(f:bF):Vt (woT t f):=by
 have sr:(woT t f).aj.Sublist t.aj:=List.filter_sublist
 have sl:(woT t f).Links.Sublist t.Links:=List.filter_sublist
 refine⟨Nat.le_trans sr.length_le h.nr,Nat.le_trans sl.length_le h.nl,λr hr=>h.idr r (sr.subset hr),h.asc.sublist sr,λl hl=>h.okl l (sl.subset hl),λl hl=>?_,λl hl=>h.lt l (sl.subset hl),h.af3.sublist sl⟩
 have hm:=List.mem_filter.1 hl
 have he:=h.ends l hm.1
 have hg:=hm.2
 simp[vh]at hg
 rw[wz,wz]at he ⊢
 obtain⟨⟨x,hx,ex⟩,⟨y,hy,ey⟩⟩:=he
 refine⟨⟨x,List.mem_filter.2 ⟨hx,?_⟩,ex⟩,⟨y,List.mem_filter.2 ⟨hy,?_⟩,ey⟩⟩
 ·rw[ex];simp[hg]
 ·rw[ey];simp[hg]
def ig(t:aa)(f:bF):aa:=if eU t=0 then woT t f else aa.mk [] []
theorem yj(t:aa)(f:bF):Vt (ig t f):=by
 unfold ig
 split
 ·rename_i h;exact(fK.1 h).wo f
 ·exact fK.1 ajv
theorem abB(t:aa)(f:bF):pO t f=some (ig t f):=by
 unfold pO ig
 simp only[mD,aM]
 by_cases h:eU t=0
 ·have hv:=fK.1 h
  have:=hv.nr;have:=hv.nl
  simp only[h,decide_true,Bool.not_true,cond_false,if_true]
  refine(mE (λr:aQ=>!decide (r.ID∈f.aj)) id _ _ _ ?_ (by simp;omega)).trans ?_
  ·intro j x Z s _ hs
   simp only[jn,ahg,aM,ki hs];rfl
  refine(mE (λl:aW=>!vh f l) id _ _ _ ?_ (by simp;omega)).trans ?_
  ·intro j x Z s _ hs
   simp only[jn,ahg,ajt,aM,ki hs,vh,id]
   cases decide (x.A∈f.aj)<;>cases decide (x.B∈f.aj)<;>cases oD f.Links x.A x.B<;>cases oD f.Links x.B x.A<;>rfl
  ·simp[woT]
 ·simp[h]
theorem xH(t:aa)(f:bF):ic t f=some (ig t f):=by
 unfold ic ig
 simp only[xd,aM]
 by_cases h:eU t=0
 ·have hv:=fK.1 h
  have:=hv.nr;have:=hv.nl
  simp only[h,decide_true,Bool.not_true,cond_false,if_true]
  refine(mE (λr:aQ=>!decide (r.ID∈f.aj)) id _ _ _ ?_ (by simp;omega)).trans ?_
  ·intro j x Z s _ hs
   simp only[jn,sA,aM,ki hs];rfl
  refine(mE (λl:aW=>!vh f l) id _ _ _ ?_ (by simp;omega)).trans ?_
  ·intro j x Z s _ hs
   have e1:f.Links.any (kH (aV.mk x.A x.B))=oD f.Links x.A x.B:=rfl
   have e2:f.Links.any (kH (aV.mk x.B x.A))=oD f.Links x.B x.A:=rfl
   simp only[jn,sA,adX,aM,ki hs,vh,id,e1,e2]
   cases decide (x.A∈f.aj)<;>cases decide (x.B∈f.aj)<;>cases oD f.Links x.A x.B<;>cases oD f.Links x.B x.A<;>rfl
  ·simp[woT]
 ·simp[h]
theorem yl(t:aa)(r:Int):kV t r=some (decide (eU t=0)&&hasB t r):=by
 unfold kV
 simp only[mD,ag8,aM]
 cases decide (eU t=0)<;>rfl
def ain(t:aa)(r:Int):aQ×Bool:=if bsT (λx:aQ=>kT x.ID r) t.aj then(el t.aj (bsR (λx:aQ=>kT x.ID r) t.aj),true)else(aQ.mk 0 false,false)
theorem alO(t:aa)(r:Int)(hl:t.aj.length≤1000000):nB t r=some (ain t r):=by
 unfold nB ain
 rw[auq t.aj r _ (λx=>kT x.ID r) hl (λx=>af2 x r)]
 simp only[aM]
 cases h:bsT (λx:aQ=>kT x.ID r) t.aj
 ·rfl
 ·have h2:bsR (λx:aQ=>kT x.ID r) t.aj<t.aj.length:=by
   simp only[bsT,Bool.and_eq_true,decide_eq_true_eq]at h;exact h.1
  simp only[Bool.not_true,cond_false,yh h2,aM,if_true]
theorem aqx(h:Vt t)(r:Int):bsT (λx:aQ=>kT x.ID r) t.aj=hasB t r:=by
 have:=ahe (t:=t) (mS (h.asc.imp λh=>by simpa using h)) r
 simpa [alN]using this
theorem ym(t:aa)(r:Int)(hl:t.aj.length≤1000000):kM t r=some (decide (eU t=0)&&hasB t r):=by
 unfold kM
 simp only[alO t r hl,xd,aM]
 by_cases h:eU t=0
 ·simp only[h,decide_true,cond_true,Bool.true_and,ain,aqx (fK.1 h)]
  cases hasB t r<;>rfl
 ·simp[h]
theorem aeI{σ β:Type}{B:Int→α→(σ→Option β)→σ→Option β}{K:σ→Option β}(p:α→Bool)(g:α→Option β)(hB:∀j x Z s,B j x Z s=bif p x then g x else Z s)(l:List α)(j:Nat)(s:σ):
  bD l j B K s=match l.find? p with|some x=>g x|none=>K s:=
 yg (f:=λl s=>match l.find? p with|some x=>g x|none=>K s) (λs=>rfl) (λj x r s Z hZ=>by
  rw[hB,hZ,List.find?_cons];cases p x<;>rfl) l j s
theorem aur(h:Vt t){a b:aW}(ha:a∈t.Links)(hb:b∈t.Links)(hA:a.A=b.A)(hB:a.B=b.B):a=b:=by
 obtain⟨i,hi,rfl⟩:=List.getElem_of_mem ha
 obtain⟨j,hj,rfl⟩:=List.getElem_of_mem hb
 have:=List.pairwise_iff_getElem.1 h.af3
 rcases Nat.lt_trichotomy i j with q|q|q
 ·have:=this i j hi hj q;simp[ltL]at this;omega
 ·subst q;rfl
 ·have:=this j i hj hi q;simp[ltL]at this;omega
def eT(l:aW)(a b:Int):Bool:=(decide (l.A=a)&&decide (l.B=b))||(decide (l.B=a)&&decide (l.A=b))
def iP(a b:Int)(l:aW):Int×Bool:=(bif decide (l.A=a)&&decide (l.B=b)then l.iK else l.iL,true)
def jN(t:aa)(a b:Int):Int×Bool:=match t.Links.find? (λl=>eT l a b)with|some l=>iP a b l|none=>(0,false)
def gP(t:aa)(a b:Int):Bool:=t.Links.any λl=>eT l a b
theorem aav(t:aa)(a b:Int):l5 t a b=some (jN t a b):=by
 unfold l5 jN
 refine(aeI (λl:aW=>eT l a b) (λl=>some (iP a b l)) (λj x Z s=>?_) _ _ _).trans ?_
 ·unfold eT iP
  cases decide (x.A=a)&&decide (x.B=b)<;>cases decide (x.B=a)&&decide (x.A=b)<;>rfl
 ·cases t.Links.find? _<;>rfl
theorem aaw(t:aa)(a b:Int):(jN t a b).2=gP t a b:=by
 unfold jN gP
 cases hf:t.Links.find? (λl=>eT l a b)with
 |none=>symm;exact any_false.2 λx hx=>by simpa using List.find?_eq_none.1 hf x hx
 |some x=>
  symm
  exact List.any_eq_true.2 ⟨x,List.mem_of_find?_eq_some hf,by simpa using List.find?_some hf⟩
theorem alP(t:aa)(a b:Int):qc t a b=some (if eU t=0 then jN t a b else(0,false)):=by
 unfold qc
 simp only[mD,aav,aM]
 by_cases h:eU t=0<;>simp[h]
variable {a b:Int}
theorem jO(h:Vt t){l:aW}(hm:l∈t.Links)(he:eT l a b=true):jN t a b=iP a b l:=by
 unfold jN
 cases hf:t.Links.find? (λl=>eT l a b)with
 |none=>exact absurd he (List.find?_eq_none.1 hf l hm)
 |some x=>
  have hx:=List.mem_of_find?_eq_some hf
  have hp:=List.find?_some hf
  have h1:=h.lt _ hm
  have h2:=h.lt _ hx
  simp[eT]at he hp
  rw[aur h hx hm (by omega) (by omega)]
theorem aqy(h:Vt t)(v:aW):∀a b:Nat,a≤b→b<t.Links.length→mZ (el t.Links a) v≤mZ (el t.Links b) v:=by
 refine wu (f:=λl:aW=>mZ l v) (h.af3.imp λ{a b} hab=>?_)
 have c3:∀x y:Int,kT x y = -1∨kT x y=0∨kT x y=1:=λx y=>by
  unfold kT;split
  ·exact .inl rfl
  ·split
   ·exact .inr (.inr rfl)
   ·exact .inr (.inl rfl)
 have:∀x y:aW,mZ x y = -1∨mZ x y=0∨mZ x y=1:=λx y=>by
  have q1:=c3 x.A y.A
  have q2:=c3 x.B y.B
  simp only[mZ,orI]
  generalize kT x.A y.A=p at *
  generalize kT x.B y.B=q at *
  by_cases h1:p=0
  ·by_cases h2:q=0<;>simp[h1,h2];omega
  ·simp[h1];omega
 have h1:=@aa9 a v
 have h2:=@aa9 b v
 have h3:=@aba a v
 have h4:=@aba b v
 have q1:=this a v
 have q2:=this b v
 simp[ltL]at hab h1 h2
 omega
theorem alQ(t:aa)(a b:Int)(hl:t.Links.length≤1000000):nC t a b=some (if eU t=0 then jN t a b else(0,false)):=by
 unfold nC
 simp only[xd,aM]
 by_cases h:eU t=0
 ·have hv:=fK.1 h
  simp only[h,decide_true,Bool.not_true,cond_false,if_true]
  generalize hv2:aW.mk (if b<a then b else a) (if b>a then b else a) 0 0 0=v
  rw[bsLk t.Links v _ (λx=>mZ x v) hl (λx=>abA x v)]
  simp only[aM]
  have hA:v.A=if b<a then b else a:=by rw[←hv2]
  have hB:v.B=if b>a then b else a:=by rw[←hv2]
  cases hT:bsT (λx:aW=>mZ x v) t.Links
  ·simp only[Bool.not_false,cond_true]
   congr 1
   unfold jN
   cases hf:t.Links.find? (λl=>eT l a b)with
   |none=>rfl
   |some x=>
    exfalso
    have hx:=List.mem_of_find?_eq_some hf
    have hp:=List.find?_some hf
    have h2:=h
    have:=(ahd (f:=λx:aW=>mZ x v) (aqy hv v)).2 ⟨x,hx,by
     rw[aba,hA,hB]
     have:=hv.lt _ hx
     simp[eT]at hp
     split<;>split<;>omega⟩
    rw[hT]at this;cases this
  ·simp only[bsT,Bool.and_eq_true,decide_eq_true_eq]at hT
   obtain⟨q1,q2⟩:=hT
   rw[aba,hA,hB]at q2
   have hm:=ajr q1
   simp only[Bool.not_true,cond_false,yh q1,aM]
   have hlt:=hv.lt _ hm
   have e:eT (el t.Links (bsR (λx:aW=>mZ x v) t.Links)) a b=true:=by
    simp[eT];by_cases q3:b<a<;>by_cases q4:b>a<;>simp only[q3,q4,if_true,if_false]at q2<;>omega
   rw[jO hv hm e]
   unfold iP
   by_cases hab:a<b
   ·have:decide (a<b)=true:=by simpa using hab
    rw[this,cond_true]
    have:(decide ((el t.Links (bsR (λx:aW=>mZ x v) t.Links)).A=a)&&decide ((el t.Links (bsR (λx:aW=>mZ x v) t.Links)).B=b))=true:=by
     simp;by_cases q3:b<a<;>by_cases q4:b>a<;>simp only[q3,q4,if_true,if_false]at q2<;>omega
    rw[this];rfl
   ·have:decide (a<b)=false:=by simpa using hab
    rw[this,cond_false]
    have:(decide ((el t.Links (bsR (λx:aW=>mZ x v) t.Links)).A=a)&&decide ((el t.Links (bsR (λx:aW=>mZ x v) t.Links)).B=b))=false:=by
     simp;by_cases q3:b<a<;>by_cases q4:b>a<;>simp only[q3,q4,if_true,if_false]at q2<;>omega
    rw[this];rfl
 ·simp[h]
def ids(t:aa):List Int:=t.aj.map (·.ID)
theorem yo(h:Vt t):(ids t).Pairwise (·<·):=List.pairwise_map.2 h.asc
theorem iQ:r∈ids t↔hasB t r=true:=by rw[wz];simp[ids]
theorem jm:gP t a b=true↔∃l∈t.Links,(l.A=a∧l.B=b)∨(l.B=a∧l.A=b):=by
 simp[gP,eT]
theorem ue(h:gP t a b=true):gP t b a=true:=by
 rw[jm]at h ⊢
 obtain⟨l,hl,h⟩:=h
 exact⟨l,hl,by omega⟩
theorem aus(hv:Vt t)(h:gP t a b=true):a≠b:=by
 rw[jm]at h
 obtain⟨l,hl,h⟩:=h
 have:=hv.lt l hl
 omega
theorem nj(hv:Vt t)(h:gP t a b=true):b∈ids t:=by
 rw[jm]at h
 obtain⟨l,hl,h⟩:=h
 have:=hv.ends l hl
 rcases h with⟨h1,h2⟩|⟨h1,h2⟩<;>rw[iQ,←h2]
 ·exact this.2
 ·exact this.1
def lV(t:aa)(r:Int):List Int:=(ids t).filter λx=>gP t r x
theorem y5(hv:Vt t)(r:Int):(lV t r).Pairwise (·<·):=(yo hv).sublist List.filter_sublist
theorem mF(hv:Vt t):x∈lV t r↔gP t r x=true:=by
 unfold lV;rw[List.mem_filter]
 exact⟨λh=>h.2,λh=>⟨nj hv h,h⟩⟩
theorem af4(hv:Vt t)(r:Int):ot t r=some (lV t r):=by
 unfold ot
 have:=hv.nr
 refine(mE (λx:aQ=>gP t r x.ID) (·.ID) _ _ _ ?_ (by simp;omega)).trans ?_
 ·intro j x Z s _ hs
  simp only[jn,aav,aaw,aM,ki hs]
 ·simp only[List.nil_append,lV,ids]
  rw[List.filter_map];rfl
def jP(r:Int)(l:aW):Option Int:=if r=l.A then some l.B else if r=l.B then some l.A else none
theorem aax{α γ β:Type}{B:Int→α→(List γ→Option β)→List γ→Option β}{K:List γ→Option β}(f:α→Option γ):
  ∀(l:List α) (j:Nat) (s:List γ),(∀(j:Nat) x Z s,x∈l→s.length<1000000→B j x Z s=match f x with|some y=>Z (s++[y])|none=>Z s)→l.length+s.length≤1000000→bD l j B K s=K (s++l.filterMap f)
 |[],j,s,_,_=>by simp[bD]
 |x::r,j,s,hB,h=>by
  simp only[List.length_cons]at h
  simp only[bD]
  rw[hB j x _ s (by simp) (by omega)]
  have hB':∀(j:Nat) y Z s,y∈r→s.length<1000000→B j y Z s=match f y with|some y=>Z (s++[y])|none=>Z s:=λj y Z s hy=>hB j y Z s (by simp[hy])
  cases hp:f x with
  |none=>simp only;rw[aax f r (j+1) s hB' (by omega),List.filterMap_cons_none hp]
  |some y=>simp only;rw[aax f r (j+1) (s++[y]) hB' (by simp;omega),List.filterMap_cons_some hp];simp
theorem xI(hv:Vt t)(r:Int):(t.Links.filterMap (jP r)).Nodup:=by
 have key:∀l:List aW,(∀x∈l,x.A<x.B)→l.Pairwise (λa b=>ltL a b=true)→(l.filterMap (jP r)).Nodup:=by
  intro l
  induction l with
  |nil=>intros;simp
  |cons x l ih=>
   intro h1 h2
   rw[List.pairwise_cons]at h2
   have ih:=ih (λy hy=>h1 y (by simp[hy])) h2.2
   cases hx:jP r x with
   |none=>rw[List.filterMap_cons_none hx];exact ih
   |some y=>
    rw[List.filterMap_cons_some hx,List.nodup_cons]
    refine⟨λhm=>?_,ih⟩
    obtain⟨z,hz,hzy⟩:=List.mem_filterMap.1 hm
    have h3:=h2.1 z hz
    have h4:=h1 x (by simp)
    have h5:=h1 z (by simp[hz])
    unfold jP at hx hzy
    simp[ltL]at h3
    split at hx<;>split at hzy<;>(try split at hx)<;>(try split at hzy)<;>simp at hx hzy<;>omega
 exact key _ hv.lt hv.af3
theorem aeJ(hv:Vt t):x∈t.Links.filterMap (jP r)↔gP t r x=true:=by
 rw[List.mem_filterMap,jm]
 constructor
 ·rintro⟨l,hl,h⟩
  unfold jP at h
  refine⟨l,hl,?_⟩
  split at h
  ·simp at h;omega
  ·split at h
   ·simp at h;omega
   ·cases h
 ·rintro⟨l,hl,h⟩
  refine⟨l,hl,?_⟩
  have:=hv.lt l hl
  unfold jP
  rcases h with h|h
  ·rw[if_pos (by omega),h.2]
  ·rw[if_neg (by omega),if_pos (by omega),h.2]
theorem af5(hv:Vt t)(r:Int):gY t r=some (lV t r):=by
 unfold gY
 have:=hv.nl
 refine(aax (jP r) _ _ _ ?_ (by simp;omega)).trans ?_
 ·intro j x Z s _ hs
  simp only[jn,ki hs,aM,jP]
  by_cases h1:r=x.A
  ·simp[h1]
  ·by_cases h2:r=x.B<;>simp[h1,h2]
   simp[←h2,h1]
 ·have hlen:(t.Links.filterMap (jP r)).length≤60:=Nat.le_trans (List.length_filterMap_le _ _) (by omega)
  simp only[List.nil_append]
  rw[anu (by simp;omega)]
  congr 1
  refine aau (y4 (xI hv r)) (y5 hv r) λx=>?_
  rw[xb,aeJ hv,mF hv]
theorem adY(t:aa)(r:Int):lC t r=some (if eU t=0 then lV t r else[]):=by
 unfold lC
 simp only[mD,aM]
 by_cases h:eU t=0
 ·simp[h,af4 (fK.1 h),aM]
 ·simp[h]
theorem adZ(t:aa)(r:Int):jh t r=some (if eU t=0 then lV t r else[]):=by
 unfold jh
 simp only[xd,aM]
 by_cases h:eU t=0
 ·simp[h,af5 (fK.1 h),aM]
 ·simp[h]
end Go.Proofs.YtdjeacigeegklaaGreat
namespace Go.Proofs.YtdjeacigeegklaaGreat
set_option linter.all false
open Go
theorem Ok.acg{α σ β:Type}{B:Int→α→(σ→Option β)→σ→Option β}{K:σ→Option β}{Q:β→Prop}(I:List α→σ→Prop){L:List α}
  (hc:∀(p:List α) x r s Z,L=p++x::r→I p s→(∀s',I (p++[x]) s'→Ok (Z s') Q)→Ok (B (p.length:Int) x Z s) Q) (s:σ) (h:I [] s) (hn:∀s,I L s→Ok (K s) Q):Ok (Go.Proofs.YtdjeacigeegklaaGreat.bD L 0 B K s) Q:=by
 have key:∀(l p:List α) (s:σ),L=p++l→I p s→Ok (Go.Proofs.YtdjeacigeegklaaGreat.bD l p.length B K s) Q:=by
  intro l
  induction l with
  |nil=>intro p s hj h;exact hn s (by rw[hj,List.append_nil];exact h)
  |cons x r ih=>
   intro p s hj h
   refine hc p x r s _ hj h λs' h'=>?_
   have:=ih (p++[x]) s' (by simp[hj]) h'
   rwa [List.length_append]at this
 exact key L [] s rfl h
theorem oL{a b:List Int}(h:a.Nodup)(hs:∀x∈a,x∈b):a.length≤b.length:=by
 induction a generalizing b with
 |nil=>simp
 |cons x a ih=>
  rw[List.nodup_cons]at h
  have hx:=hs x (by simp)
  have:=ih (b:=b.erase x) h.2 λy hy=>(List.mem_erase_of_ne (λe=>h.1 (by rw[←e];exact hy))).2 (hs y (by simp[hy]))
  rw[List.length_erase_of_mem hx]at this
  have:=List.length_pos_of_mem hx
  simp only[List.length_cons];omega
inductive Cn(t:aa)(c:List Int):Int→Int→Prop
 |refl {a:Int} (h:a∉c):Cn t c a a
 |step {a b d:Int} (h:Cn t c a b) (ha:gP t b d=true) (hd:d∉c):Cn t c a d
variable {a b:Int}{c:List Int}{t:aa}
theorem Cn.trans{d:Int}(h1:Cn t c a b)(h2:Cn t c b d):Cn t c a d:=by
 induction h2 with
 |refl _=>exact h1
 |step _ ha hd ih=>exact .step ih ha hd
theorem Cn.left(h:Cn t c a b):a∉c:=by
 induction h with
 |refl h=>exact h
 |step _ _ _ ih=>exact ih
theorem Cn.right(h:Cn t c a b):b∉c:=by
 cases h with
 |refl h=>exact h
 |step _ _ hd=>exact hd
theorem Cn.symm(h:Cn t c a b):Cn t c b a:=by
 induction h with
 |refl h=>exact .refl h
 |step h ha hd ih=>exact(Cn.step (.refl hd) (ue ha) h.right).trans ih
theorem Cn.ids{t:aa}(hv:Vt t){c:List Int}{a b:Int}(h:Cn t c a b)(ha:a∈ids t):b∈ids t:=by
 cases h with
 |refl h=>exact ha
 |step _ hd _=>exact nj hv hd
theorem Cn.stays{S:Int→Prop}(h:Cn t c a b)(ha:S a)(hs:∀x,S x→∀y,gP t x y=true→S y∨y∈c):S b:=by
 induction h with
 |refl _=>exact ha
 |step _ hd hc ih=>exact(hs _ ih _ hd).resolve_right hc
open Classical in
noncomputable def ac7(t:aa)(c:List Int)(r:Int):List Int:=(ids t).filter λx=>decide (Cn t c r x)
variable {r:Int}
theorem aeK(hv:Vt t){x:Int}(hr:r∈ids t):x∈ac7 t c r↔Cn t c r x:=by
 unfold ac7
 rw[List.mem_filter]
 simp only[decide_eq_true_eq]
 exact⟨λh=>h.2,λh=>⟨h.ids hv hr,h⟩⟩
theorem alR(hv:Vt t)(c:List Int)(r:Int):(ac7 t c r).Pairwise (·<·):=(yo hv).sublist List.filter_sublist
theorem qv(hv:Vt t):(ids t).length≤24:=by have:=hv.nr;simpa [ids]using this
theorem auu(hv:Vt t)(c:List Int):∀(n:Nat) (r:Int) (out:List Int),out.Nodup→(∀x∈out,x∈ids t)→r∈ids t→(ids t).length+1≤n+out.length→
  Ok (iq n r out c t.aj t.Links) (λo=>∃new,o=out++new∧o.Nodup∧(∀x∈new,Cn t c r x)∧(r∈o∨r∈c)∧(∀x∈new,∀y,gP t x y=true→y∈o∨y∈c)):=by
 intro n
 induction n with
 |zero=>intro r out h1 h2 _ h3;have:=oL h1 h2;omega
 |succ n ih=>
  intro r out h1 h2 hr h3
  unfold iq
  simp only[sA,aM,jn]
  by_cases q1:r∈out
  ·simp only[q1,decide_true,cond_true]
   exact Ok.s ⟨[],by simp,h1,by simp,.inl q1,by simp⟩
  ·simp only[q1,decide_false,cond_false]
   by_cases q2:r∈c
   ·simp only[q2,decide_true,cond_true]
    exact Ok.s ⟨[],by simp,h1,by simp,by simp[q2],by simp⟩
   ·simp only[q2,decide_false,cond_false]
    have hol:=oL h1 h2
    have:=qv hv
    rw[ni (by simp;omega),aM,show(aa.mk t.aj t.Links)=t from rfl,af5 hv,aM]
    refine Ok.acg (λp m=>∃new,m=(out++[r])++new∧m.Nodup∧(∀x∈new,Cn t c r x)∧(∀x∈p,x∈m∨x∈c)∧(∀x∈new,∀y,gP t x y=true→y∈m∨y∈c)) ?_ _ ?_ ?_
    ·rintro p e rest m Z hL ⟨new,hm,hnd,hcn,hp,had⟩ hZ
     have xJ:gP t r e=true:=(mF hv).1 (by rw[hL];simp)
     have hsub:∀x∈m,x∈ids t:=by
      intro x hx
      rw[hm]at hx
      simp only[List.mem_append,List.mem_cons,List.not_mem_nil,or_false]at hx
      rcases hx with(hx|rfl)|hx
      ·exact h2 x hx
      ·exact hr
      ·exact(hcn x hx).ids hv hr
     refine Ok.bnd (ih e m hnd hsub (nj hv xJ) (by rw[hm];simp;omega)) ?_
     rintro o ⟨new2,ho,hond,hocn,hoe,hoad⟩
     refine hZ _ ⟨new++new2,by rw[ho,hm];simp,hond,?_,?_,?_⟩
     ·intro x hx
      rcases List.mem_append.1 hx with hx|hx
      ·exact hcn x hx
      ·have:=hocn x hx
       exact(Cn.step (.refl q2) xJ this.left).trans this
     ·intro x hx
      rcases List.mem_append.1 hx with hx|hx
      ·rcases hp x hx with h|h
       ·exact .inl (by rw[ho];simp[h])
       ·exact .inr h
      ·simp only[List.mem_cons,List.not_mem_nil,or_false]at hx;subst hx;exact hoe
     ·intro x hx y hy
      rcases List.mem_append.1 hx with hx|hx
      ·rcases had x hx y hy with h|h
       ·exact .inl (by rw[ho];simp[h])
       ·exact .inr h
      ·exact hoad x hx y hy
    ·refine⟨[],by simp,?_,by simp,by simp,by simp⟩
     rw[List.nodup_append]
     refine⟨h1,by simp,?_⟩
     intro a ha b hb
     simp only[List.mem_cons,List.not_mem_nil,or_false]at hb
     subst hb
     exact λe=>q1 (e▸ha)
    ·rintro m ⟨new,hm,hnd,hcn,hp,had⟩
     refine Ok.s ⟨r::new,by rw[hm];simp,hnd,?_,.inl (by rw[hm];simp),?_⟩
     ·intro x hx
      rcases List.mem_cons.1 hx with rfl|hx
      ·exact .refl q2
      ·exact hcn x hx
     ·intro x hx y hy
      rcases List.mem_cons.1 hx with rfl|hx
      ·exact hp y ((mF hv).2 hy)
      ·exact had x hx y hy
theorem agQ(hv:Vt t)(hr:r∈ids t)(c:List Int):lE t r c=some (ac7 t c r):=by
 have:=qv hv
 obtain⟨o,h1,new,ho,hnd,hcn,hro,had⟩:=auu hv c fuel r [] List.nodup_nil (by simp) hr (by unfold fuel;simp;omega)
 unfold lE
 rw[h1,aM]
 rw[List.nil_append]at ho
 subst ho
 have hlen:=oL hnd λx hx=>(hcn x hx).ids hv hr
 rw[anu (by simp;omega)]
 congr 1
 refine aau (y4 hnd) (alR hv c r) λx=>?_
 rw[xb,aeK hv hr]
 refine⟨hcn x,λh=>?_⟩
 have hro:=hro.resolve_right h.left
 exact h.stays (S:=λx=>x∈o) hro had
end Go.Proofs.YtdjeacigeegklaaGreat
namespace Go.Proofs.YtdjeacigeegklaaGreat
set_option linter.all false
open Go
open Classical in
noncomputable def aay(t:aa)(a b:Int):Bool:=decide (eU t=0)&&hasB t a&&hasB t b&&decide (Cn t [] a b)
theorem alS{t:aa}(hv:Vt t){c:List Int}{a b:Int}(ha:a∈ids t):decide (b∈ac7 t c a)=@decide (Cn t c a b) (Classical.propDecidable _):=by
 rw[Bool.eq_iff_iff];simp[aeK hv ha]
theorem ae6(t:aa)(a b:Int)(hl:t.aj.length≤1000000):jJ t a b=some (aay t a b):=by
 unfold jJ aay
 simp only[ym _ _ hl,aM]
 by_cases h:eU t=0
 ·have hv:=fK.1 h
  simp only[h,decide_true,Bool.true_and]
  cases ha:hasB t a
  ·rfl
  ·cases hb:hasB t b
   ·rfl
   ·simp only[cond_true,agQ hv (iQ.2 ha),aM,sA,alS hv (iQ.2 ha),Bool.true_and]
 ·simp[h]
theorem fS{α:Type}(l:List (Int×α))(n m:Int)(b:α):aJ (bT l n b) m=if m=n then some b else aJ l m:=by
 induction l with
 |nil=>
  simp only[bT,aJ,List.find?]
  by_cases h:n=m
  ·simp[h]
  ·simp[h,Ne.symm h]
 |cons p r ih=>
  simp only[bT]
  by_cases h1:p.1=n
  ·rw[if_pos h1]
   simp only[aJ,List.find?]at ih ⊢
   by_cases h2:n=m
   ·simp[h2]
   ·have:p.1≠m:=by omega
    simp[h2,this,Ne.symm h2]
  ·rw[if_neg h1]
   simp only[aJ,List.find?]at ih ⊢
   by_cases h2:p.1=m
   ·have:m≠n:=by omega
    simp[h2,this]
   ·simp[h2];exact ih
theorem alT{α:Type}{l:List (Int×α)}{n:Int}{b:α}(h:aJ l n=none):(bT l n b).length=l.length+1:=by
 induction l with
 |nil=>rfl
 |cons p r ih=>
  simp only[aJ,List.find?]at h
  by_cases h1:p.1=n
  ·simp[h1]at h
  ·simp only[bT,if_neg h1,List.length_cons]
   rw[ih (by simpa [aJ,h1]using h)]
end Go.Proofs.YtdjeacigeegklaaGreat
