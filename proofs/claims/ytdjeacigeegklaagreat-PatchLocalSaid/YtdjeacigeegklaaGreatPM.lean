/- Several texts in one. No condition but those that stand in each. -/
import Derived.Test.YtdjeacigeegklaaGreatBA
import Derived.Test.YtdjeacigeegklaaGreatDA
namespace Go.Proofs.YtdjeacigeegklaaGreat
set_option linter.all false
open Go
variable {α β:Type}
theorem aR(a:α)(k:α→Option β):bnd (some a) k=k a:=rfl
variable {c:Bool}
theorem alY{k:Option β}(h:c=true):chk c k=k:=by subst h;rfl
theorem qZ{p:Prop}[Decidable p]{x y:α}:(bif decide p then x else y)=if p then x else y:=by
 by_cases h:p<;>simp[h]
theorem u0{α σ β:Type}{B:Int→α→(σ→Option β)→σ→Option β}{K:σ→Option β}(f:List α→σ→Option β)(hn:∀s,K s=f [] s)
  (hc:∀(j:Int) x r s Z,(∀s',Z s'=f r s')→B j x Z s=f (x::r) s):∀(l:List α) (j:Nat) (s:σ),bJ l j B K s=f l s
 |[],_,s=>hn s
 |x::r,j,s=>hc j x r s _ λs'=>u0 f hn hc r (j+1) s'
def Ok{β:Type}(o:Option β)(Q:β→Prop):Prop:=∃r,o=some r∧Q r
variable {Q:β→Prop}
theorem Ok.s{r:β}(h:Q r):Ok (some r) Q:=⟨r,rfl,h⟩
theorem Ok.bnd{α β:Type}{o:Option α}{k:α→Option β}{P:α→Prop}{Q:β→Prop}(h:Ok o P)(hk:∀a,P a→Ok (k a) Q):Ok (bnd o k) Q:=by
 obtain⟨a,rfl,ha⟩:=h;exact hk a ha
theorem Ok.cs{x y:Option β}(h1:c=true→Ok x Q)(h2:c=false→Ok y Q):Ok (bif c then x else y) Q:=by
 cases c
 ·exact h2 rfl
 ·exact h1 rfl
theorem Ok.chk{β:Type}{c:Bool}{k:Option β}{Q:β→Prop}(h:c=true)(hk:Ok k Q):Ok (chk c k) Q:=by subst h;exact hk
theorem Ok.jn{σ β:Type}{k:σ→Option β}{t:(σ→Option β)→Option β}{Q:β→Prop}(R:σ→Prop)(h1:∀s,R s→Ok (k s) Q)(h2:∀J,(∀s,R s→Ok (J s) Q)→Ok (t J) Q):Ok (jn k t) Q:=h2 k h1
variable {o:Option β}
theorem Ok.mono{Q':β→Prop}(h:Ok o Q)(hq:∀r,Q r→Q' r):Ok o Q':=by
 obtain⟨r,h1,h2⟩:=h;exact⟨r,h1,hq r h2⟩
theorem Ok.bJ{α σ β:Type}{B:Int→α→(σ→Option β)→σ→Option β}{K:σ→Option β}{Q:β→Prop}(I:Nat→σ→Prop)
  (hc:∀(j:Nat) x s Z,I j s→(∀s',I (j+1) s'→Ok (Z s') Q)→Ok (B (j:Int) x Z s) Q):∀(l:List α) (j:Nat) (s:σ),I j s→(∀s,I (j+l.length) s→Ok (K s) Q)→Ok (bJ l j B K s) Q
 |[],j,s,h,hn=>hn s (by simpa using h)
 |x::r,j,s,h,hn=>hc j x s _ h λs' h'=>Ok.bJ I hc r (j+1) s' h' λs hs=>hn s (by rwa [List.length_cons,←Nat.add_assoc,Nat.add_right_comm])
variable {σ:Type}{B:Int→α→(σ→Option β)→σ→Option β}{K:σ→Option β}
theorem Ok.forM(I:Nat→σ→Prop){L:List α}
  (hc:∀(j:Nat) x s Z,j<L.length→x∈L→I j s→(∀s',I (j+1) s'→Ok (Z s') Q)→Ok (B (j:Int) x Z s) Q) (s:σ) (h:I 0 s) (hn:∀s,I L.length s→Ok (K s) Q):Ok (Go.Proofs.YtdjeacigeegklaaGreat.bJ L 0 B K s) Q:=by
 have key:∀(l:List α) (j:Nat) (s:σ),(∀x∈l,x∈L)→j+l.length=L.length→I j s→Ok (Go.Proofs.YtdjeacigeegklaaGreat.bJ l j B K s) Q:=by
  intro l
  induction l with
  |nil=>intro j s _ hj h;exact hn s (by simpa [←hj]using h)
  |cons x r ih=>
   intro j s hm hj h
   simp only[List.length_cons]at hj
   exact hc j x s _ (by omega) (hm x (by simp)) h λs' h'=>ih (j+1) s' (λy hy=>hm y (by simp[hy])) (by omega) h'
 exact key L 0 s (λ_ h=>h) (by simp) h
theorem Ok.lp{σ β:Type}{B:Int→(σ→Option β)→σ→Option β}{K:Int→σ→Option β}{Q:β→Prop}(I:Int→σ→Prop)(lo hi:Int)
  (hc:∀(i:Int) s Z,lo≤i→i<hi→I i s→(∀s',I (i+1) s'→Ok (Z s') Q)→Ok (B i Z s) Q) (hn:∀i s,lo≤i→(lo≤hi→i=hi)→I i s→Ok (K i s) Q):∀(n:Nat) (i:Int) (s:σ),n=(hi-i).toNat→lo≤i→(lo≤hi→i≤hi)→I i s→Ok (lp n i B K s) Q
 |0,i,s,hn0,h1,h2,h=>hn i s h1 (λhh=>by have:=h2 hh;omega) h
 |n+1,i,s,hn0,h1,h2,h=>hc i s _ h1 (by omega) h λs' h'=>Ok.lp I lo hi hc hn n (i+1) s' (by omega) (by omega) (λ_=>by omega) h'
theorem Ok.iter{σ β:Type}{F:(σ→Option β)→σ→Option β}{Q:β→Prop}(I:σ→Prop)(μ:σ→Nat)
  (hc:∀s Z,I s→(∀s',I s'→μ s'<μ s→Ok (Z s') Q)→Ok (F Z s) Q):∀(n:Nat) (s:σ),I s→μ s<n→Ok (iter F n s) Q
 |0,s,_,h=>by omega
 |n+1,s,h,hm=>hc s _ h λs' h' hm'=>Ok.iter I μ hc n s' h' (by omega)
theorem Ok.whl{σ β:Type}{F:(σ→Option β)→σ→Option β}{Q:β→Prop}(I:σ→Prop)(μ:σ→Nat){s:σ}(h:I s)(hm:μ s<1099511627776)
  (hc:∀s Z,I s→(∀s',I s'→μ s'<μ s→Ok (Z s') Q)→Ok (F Z s) Q):Ok (whl F s) Q:=Ok.iter I μ hc fuel s h hm
theorem Ok.get(h:Ok o Q):∃r,o=some r∧Q r:=h
theorem Ok.eq{r:β}(h:Ok o (λx=>x=r)):o=some r:=by obtain⟨x,h1,rfl⟩:=h;exact h1
theorem aad(p:List α)(x:α)(r:List α):elO (p++x::r) (p.length:Int)=some x:=by
 unfold elO;rw[if_pos (by omega)];simp
variable {i:Int}{l:List α}
theorem iJ(h0:0≤i)(h:i<l.length):Ok (elO l i) (λx=>x∈l∧l[i.toNat]?=some x):=by
 unfold elO;rw[if_pos h0]
 have:i.toNat<l.length:=by omega
 exact⟨l[i.toNat],List.getElem?_eq_getElem this,List.getElem_mem this,List.getElem?_eq_getElem this⟩
variable {r:List α}
theorem qv(h:l.length+r.length≤549755813888):dy l r=some (l++r):=by unfold dy;rw[if_pos (by unfold cap;exact h)]
theorem tF(h:l.length+r.length≤549755813888):Ok (dy l r) (λm=>m=l++r∧m.length=l.length+r.length):=⟨_,qv h,rfl,by simp⟩
theorem aae{x:α}(h0:0≤i)(h:i<l.length):Ok (ot l i x) (λm=>m=l.set i.toNat x∧m.length=l.length):=by
 unfold ot;rw[if_pos ⟨h0,h⟩];exact⟨_,rfl,rfl,by simp⟩
theorem aaf{a b:Int}(h:0≤a∧a≤b∧b≤l.length):Ok (lq l a b) (λm=>m=(l.take b.toNat).drop a.toNat∧(m.length:Int)=b-a):=by
 unfold lq;rw[if_pos h];exact⟨_,rfl,rfl,by simp;omega⟩
theorem gA(p:α→Bool)(a:Option β)(hB:∀j x Z s,B j x Z s=bif p x then a else Z s)(l:List α)(j:Nat)(s:σ):bJ l j B K s=bif l.any p then a else K s:=
 u0 (f:=λl s=>bif l.any p then a else K s) (λs=>rfl) (λj x r s Z hZ=>by
  rw[hB,hZ,List.any_cons];cases p x<;>rfl) l j s
end Go.Proofs.YtdjeacigeegklaaGreat
namespace Go.Proofs.YtdjeacigeegklaaGreat
set_option linter.all false
open Go
def uf(n:Int):Bool:=decide (1≤n)&&decide (n≤1000)
def hasB(t:aa)(r:Int):Bool:=t.aq.any λx=>decide (x.ID=r)
def xw(r:aM):Bool:=decide (r.ID<1)||decide (99<r.ID)
def rN(l:bA):Bool:=!uf l.iC||!uf l.iD||decide (l.mj<0)||decide (1000<l.mj)
def ltL(a b:bA):Bool:=decide (a.A<b.A)||(decide (a.A=b.A)&&decide (a.B<b.B))
def mB{α:Type}(p:α→α→Bool):List α→Bool
 |a::b::r=>p a b&&mB p (b::r)
 |_=>true
def kA(t:aa):Bool:=t.aq.any xw
def kB(t:aa):Bool:=mB (λa b=>decide (a.ID<b.ID)) t.aq
def kC(t:aa):Bool:=t.Links.any rN
def kD(t:aa):Bool:=t.Links.any λl=>!hasB t l.A||!hasB t l.B
def kE(t:aa):Bool:=t.Links.any λl=>decide (l.B≤l.A)
def kF(t:aa):Bool:=mB ltL t.Links
def fS(t:aa):Int:=
 bif decide (24<(t.aq.length:Int))||decide (60<(t.Links.length:Int))then 3
 else bif kA t then 2 else bif kB t then(bif kC t then 2 else bif kD t then 4 else bif kE t then 8 else bif kF t then 0 else 25)else 25
theorem zi{α σ β:Type}{B:Int→α→(σ→Option β)→σ→Option β}{K:σ→Option β}{L:List α}(p:α→α→Bool)(a:Option β)
  (hB:∀(j:Nat) x y r q s Z,L=q++y::x::r→j=q.length+1→B (j:Int) x Z s=bif p y x then Z s else a):∀(r q:List α) (y:α) (s:σ),L=q++y::r→bJ r (q.length+1) B K s=bif mB p (y::r)then K s else a
 |[],q,y,s,h=>rfl
 |x::r,q,y,s,h=>by
  simp only[bJ]
  rw[hB (q.length+1) x y r q s _ h rfl]
  have:=zi (B:=B) (K:=K) p a hB r (q++[y]) x s (by simpa using h)
  simp only[List.length_append,List.length_cons,List.length_nil]at this
  rw[this]
  simp only[mB]
  cases p y x<;>rfl
variable {α β σ:Type}{L:List α}{B:Int→α→(σ→Option β)→σ→Option β}{K:σ→Option β}
theorem ug(p:α→α→Bool)(a:Option β)
  (hB:∀(j:Nat) x y r q s Z,L=q++y::x::r→j=q.length+1→B (j:Int) x Z s=bif p y x then Z s else a) (s:σ):bJ (L.drop 1) 1 B K s=bif mB p L then K s else a:=by
 cases L with
 |nil=>rfl
 |cons y r=>exact zi (B:=B) (K:=K) p a hB r [] y s rfl
theorem abn(p:α→α→Bool)(a:Option β)(h0:∀x Z s,B ((0:Nat):Int) x Z s=Z s)
  (hB:∀(j:Nat) x y r q s Z,L=q++y::x::r→j=q.length+1→B (j:Int) x Z s=bif p y x then Z s else a) (s:σ):bJ L 0 B K s=bif mB p L then K s else a:=by
 cases L with
 |nil=>rfl
 |cons y r=>
  simp only[bJ]
  rw[h0]
  exact zi (B:=B) (K:=K) p a hB r [] y s rfl
variable {j:Nat}
theorem qw{y x:α}{r q:List α}(h:L=q++y::x::r)(hj:j=q.length+1)(hL:(L.length:Int)≤9223372036854775807):elO L (w64 ((j:Int)-1))=some y:=by
 have hl:q.length+2≤L.length:=by rw[h];simp
 rw[gF (by omega) (by omega),show(j:Int)-1=(q.length:Int)by omega,h,aad]
theorem ajT(n:Int):nt n=some (uf n):=rfl
theorem adJ(t:aa)(r:Int):lC t r=some (hasB t r):=by
 unfold lC
 refine(gA (λx:aM=>decide (x.ID=r)) (some true) ?_ _ _ _).trans ?_
 ·intros;rfl
 ·unfold hasB;cases t.aq.any _<;>rfl
theorem rj(t:aa):gx t=some (fS t):=by
 unfold gx fS
 by_cases hlen:(decide (24<(t.aq.length:Int))||decide (60<(t.Links.length:Int)))=true
 ·rw[hlen];rfl
 rw[Bool.not_eq_true]at hlen
 rw[hlen]
 simp only[cond_false]
 simp only[Bool.or_eq_false_iff,decide_eq_false_iff_not]at hlen
 refine(gA xw (some 2) ?_ _ _ _).trans ?_
 ·intros;rfl
 unfold kA
 cases t.aq.any xw
 case true=>rfl
 simp only[cond_false]
 refine(ug (λa b:aM=>decide (a.ID<b.ID)) (some 25) ?_ _).trans ?_
 ·intro j x y r q s Z h hj
  simp only[qw h hj (by omega),aR,qZ]
  split<;>split<;>first|rfl|omega
 unfold kB
 cases mB _ t.aq
 case false=>rfl
 simp only[cond_true]
 refine(gA rN (some 2) ?_ _ _ _).trans ?_
 ·intro j x Z s
  simp only[jn,ajT,aR,rN]
  cases uf x.iC<;>cases uf x.iD<;>simp[qZ]<;>(try split)<;>(try split)<;>simp_all<;>omega
 unfold kC
 cases t.Links.any rN
 case true=>rfl
 simp only[cond_false]
 refine(gA (λl=>!hasB t l.A||!hasB t l.B) (some 4) ?_ _ _ _).trans ?_
 ·intro j x Z s
  simp only[jn,adJ,aR]
  cases hasB t x.A<;>cases hasB t x.B<;>rfl
 unfold kD
 cases t.Links.any _
 case true=>rfl
 simp only[cond_false]
 refine(gA (λl=>decide (l.B≤l.A)) (some 8) ?_ _ _ _).trans ?_
 ·intros;rfl
 unfold kE
 cases t.Links.any _
 case true=>rfl
 simp only[cond_false]
 refine(ug ltL (some 25) ?_ _).trans ?_
 ·intro j x y r q s Z h hj
  have e:(decide (x.A<y.A)||(decide (y.A=x.A)&&decide (x.B≤y.B)))=!ltL y x:=by
   rw[Bool.eq_iff_iff];simp[ltL];omega
  simp only[qw h hj (by omega),aR]
  rw[e]
  cases ltL y x<;>rfl
 unfold kF
 cases mB ltL t.Links<;>rfl
theorem qx{α σ:Type}{B:Int→α→(σ→Option Int)→σ→Option Int}{K:σ→Option Int}(p:α→Bool)(hB:∀j x Z s,B j x Z s=bif p x then some j else Z s)(hK:∀s,K s=some (-1)):∀(l:List α) (j:Nat) (s:σ),∃r,bJ l j B K s=some r∧decide (0≤r)=l.any p
 |[],j,s=>⟨-1,hK s,rfl⟩
 |x::r,j,s=>by
  simp only[bJ,hB,List.any_cons]
  cases p x
  ·simpa using qx p hB hK r (j+1) s
  ·exact⟨j,rfl,by simp⟩
theorem cfR(l:List aM)(f:aM→Option Bool)(p:aM→Bool)(hf:∀x,f x=some (p x)):cU l f=some (l.any p):=by
 unfold cU dY
 obtain⟨r,h1,h2⟩:=qx (B:=λ(j1:Int) (e1:aM) (Z1:Unit→Option Int) (sg:Unit)=>match sg with|()=>bnd (f e1) λ(ai:Bool)=>bif ai then some (j1:Int)else Z1 ()) (K:=λ(sg:Unit)=>match sg with|()=>some (-1:Int)) p (λj x Z s=>by simp only[hf,aR]) (λ_=>rfl) l 0 ()
 simp only[h1,aR,h2]
theorem cfL(l:List bA)(f:bA→Option Bool)(p:bA→Bool)(hf:∀x,f x=some (p x)):cD l f=some (l.any p):=by
 unfold cD eG
 obtain⟨r,h1,h2⟩:=qx (B:=λ(j1:Int) (e1:bA) (Z1:Unit→Option Int) (sg:Unit)=>match sg with|()=>bnd (f e1) λ(ai:Bool)=>bif ai then some (j1:Int)else Z1 ()) (K:=λ(sg:Unit)=>match sg with|()=>some (-1:Int)) p (λj x Z s=>by simp only[hf,aR]) (λ_=>rfl) l 0 ()
 simp only[h1,aR,h2]
def lF(x y:Int):Int:=if x<y then -1 else if y<x then 1 else 0
theorem adK(x y:Int):eD x y=some (lF x y):=by
 unfold eD jm lF
 simp only[aR,decide_true,Bool.not_true,cond_false,qZ]
 split<;>(try split)<;>rfl
variable {x:Int}
theorem adL{y:Int}:lF x y<0↔x<y:=by unfold lF;split<;>(try split)<;>omega
theorem x9{y:Int}:lF x y=0↔x=y:=by unfold lF;split<;>(try split)<;>omega
def orI:List Int→Int
 |[]=>0
 |x::r=>if x=0 then orI r else x
theorem at8(l:List Int):nu l=some (orI l):=by
 unfold nu
 refine(u0 (f:=λl _=>some (orI l)) ?_ ?_ _ _ _)
 ·intros;rfl
 ·intro j x r s Z hZ
  simp only[orI,hZ]
  by_cases h:x=0<;>simp[h]
def acI(a b:bA):Int:=orI [lF a.A b.A,lF a.B b.B]
theorem adm(a b:bA):jc a b=some (acI a b):=by
 unfold jc;simp only[adK,aR,at8];rfl
theorem acJ(r:aM)(id:Int):jo r id=some (lF r.ID id):=by
 unfold jo;simp only[adK,aR]
theorem adM{a b:bA}:acI a b<0↔ltL a b=true:=by
 have:acI a b<0↔a.A<b.A∨(a.A=b.A∧a.B<b.B):=by
  simp only[acI,orI]
  split
  ·rename_i h
   rw[x9]at h
   split
   ·rename_i h2;rw[x9]at h2;omega
   ·rw[adL];omega
  ·rename_i h
   rw[x9]at h
   rw[adL];omega
 rw[this];simp[ltL]
def bsG{α:Type}[Inhabited α](f:α→Int)(l:List α)(i j:Nat):Nat:=
 if h:i<j then if f (el l ((i+j) / 2:Nat))<0 then bsG f l ((i+j) / 2+1) j else bsG f l i ((i+j) / 2)else i
 termination_by j-i
 decreasing_by all_goals omega
def bsR{α:Type}[Inhabited α](f:α→Int)(l:List α):Nat:=bsG f l 0 l.length
def bsT{α:Type}[Inhabited α](f:α→Int)(l:List α):Bool:=decide (bsR f l<l.length)&&decide (f (el l (bsR f l))=0)
variable {f:α→Int}{i:Nat}{l:List α}
theorem afW[Inhabited α](h:i<j)(hf:f (el l ((i+j) / 2:Nat))<0):bsG f l i j=bsG f l ((i+j) / 2+1) j:=by
 rw[bsG,dif_pos h,if_pos hf]
theorem afX[Inhabited α](h:i<j)(hf:¬f (el l ((i+j) / 2:Nat))<0):bsG f l i j=bsG f l i ((i+j) / 2):=by
 rw[bsG,dif_pos h,if_neg hf]
theorem aaM[Inhabited α](h:j≤i):bsG f l i j=i:=by
 rw[bsG,dif_neg (by omega)]
theorem xx[Inhabited α](h:i<l.length):el l i=l[i]:=by
 simp[el,List.getD_eq_getElem?_getD,h]
theorem at9[Inhabited α](h:i<l.length):el l i∈l:=by
 rw[xx h];exact List.getElem_mem h
theorem acK[Inhabited α](h:i<l.length):elO l (i:Int)=some (el l i):=by
 unfold elO;rw[if_pos (by omega),xx h];simp[h]
theorem apI(h:i+j≤4611686018427387904):w64 (Int.fdiv (IntKind.wrap .u64 (w64 ((i:Int)+(j:Int)))) (2 ^ min (1:Int).toNat 64))=(((i+j) / 2:Nat):Int):=by
 have e1:w64 ((i:Int)+(j:Int))=((i+j:Nat):Int):=by rw[gF (by omega) (by omega)];simp
 have e2:IntKind.wrap .u64 ((i+j:Nat):Int)=((i+j:Nat):Int):=ama (by omega) (by omega)
 rw[e1,e2]
 have e3:(2:Int) ^ min (1:Int).toNat 64=2:=rfl
 rw[e3,Int.fdiv_eq_ediv_of_nonneg _ (by omega)]
 rw[gF (by omega) (by omega)];simp
theorem apJ[Inhabited α]{F:((Int×Int)→Option (Int×Bool))→(Int×Int)→Option (Int×Bool)}(l:List α)(f:α→Int)(hl:l.length≤1000000)
  (hF:∀(i j:Nat) Z,j≤l.length→F Z ((i:Int),(j:Int))=if h:i<j then(if f (el l ((i+j) / 2:Nat))<0 then Z ((((i+j) / 2+1:Nat):Int),(j:Int))else Z ((i:Int),(((i+j) / 2:Nat):Int)))else some ((i:Int),decide (i<l.length)&&decide (f (el l i)=0))) :
  whl F ((0:Int),(l.length:Int))=some ((bsR f l:Int),bsT f l):=by
 refine Ok.eq (Ok.whl (I:=λs=>∃i j:Nat,s=((i:Int),(j:Int))∧i≤j∧j≤l.length∧bsG f l i j=bsR f l) (μ:=λs=>(s.2-s.1).toNat) ⟨0,l.length,rfl,by omega,by omega,rfl⟩ ?_ ?_)
 ·show((l.length:Int)-0).toNat<_;omega
 ·rintro s Z ⟨i,j,rfl,h1,h2,h3⟩ hz
  rw[hF i j Z h2]
  split
  ·rename_i hij
   split
   ·rename_i hf
    exact hz _ ⟨_,_,rfl,by omega,h2,by rw[←h3,afW hij hf]⟩ (by show((j:Int)-_).toNat<((j:Int)-i).toNat;omega)
   ·rename_i hf
    exact hz _ ⟨_,_,rfl,by omega,by omega,by rw[←h3,afX hij hf]⟩ (by show((((i+j) / 2:Nat):Int)-i).toNat<((j:Int)-i).toNat;omega)
  ·rename_i hij
   have:bsR f l=i:=by rw[←h3,aaM (by omega)]
   exact⟨_,rfl,by simp only[bsT,this]⟩
theorem aua(l:List aM)(x:Int)(c:aM→Int→Option Int)(f:aM→Int)(hl:l.length≤1000000)(hc:∀r,c r x=some (f r)):ct l x c=some ((bsR f l:Int),bsT f l):=by
 unfold ct
 refine apJ l f hl λi j Z hj=>?_
 by_cases hij:i<j
 ·rw[dif_pos hij]
  simp only[apI (i:=i) (j:=j) (by omega),acK (show(i+j) / 2<l.length by omega),aR,hc,qZ]
  rw[if_pos (by omega),gF (by omega) (by omega)]
  rfl
 ·rw[dif_neg hij]
  simp only[qZ]
  rw[if_neg (by omega)]
  by_cases hi:i<l.length
  ·rw[if_pos (by omega),acK hi];simp only[aR,hc];simp[hi]
  ·rw[if_neg (by omega)];simp[hi]
theorem ajU[Inhabited α](hm:∀a b:Nat,a≤b→b<l.length→f (el l a)≤f (el l b)):∀(n i j:Nat),j-i≤n→i≤j→j≤l.length→(∀m:Nat,m<i→f (el l m)<0)→(∀m:Nat,j≤m→m<l.length→0≤f (el l m))→
  bsG f l i j≤l.length∧(∀m:Nat,m<bsG f l i j→f (el l m)<0)∧(∀m:Nat,bsG f l i j≤m→m<l.length→0≤f (el l m)):=by
 intro n
 induction n with
 |zero=>
  intro i j hn hij hj h1 h2
  rw[aaM (by omega)]
  exact⟨by omega,h1,λm hm'=>h2 m (by omega)⟩
 |succ n ih=>
  intro i j hn hij hj h1 h2
  by_cases h:i<j
  ·by_cases hf:f (el l ((i+j) / 2:Nat))<0
   ·rw[afW h hf]
    refine ih _ _ (by omega) (by omega) hj (λm hm'=>?_) h2
    have:=hm m ((i+j) / 2) (by omega) (by omega)
    omega
   ·rw[afX h hf]
    refine ih _ _ (by omega) (by omega) (by omega) h1 (λm hm' hml=>?_)
    have:=hm ((i+j) / 2) m hm' hml
    omega
  ·rw[aaM (by omega)]
   exact⟨by omega,h1,λm hm'=>h2 m (by omega)⟩
theorem ajV[Inhabited α](hm:∀a b:Nat,a≤b→b<l.length→f (el l a)≤f (el l b)):
  bsR f l≤l.length∧(∀m:Nat,m<bsR f l→f (el l m)<0)∧(∀m:Nat,bsR f l≤m→m<l.length→0≤f (el l m)):=
 ajU hm l.length 0 l.length (by omega) (by omega) (by omega) (λm h=>by omega) (λm h1 h2=>by omega)
theorem apK[Inhabited α](hm:∀a b:Nat,a≤b→b<l.length→f (el l a)≤f (el l b)):bsT f l=true↔∃x∈l,f x=0:=by
 obtain⟨h1,h2,h3⟩:=ajV hm
 simp only[bsT,Bool.and_eq_true,decide_eq_true_eq]
 constructor
 ·rintro⟨q1,q2⟩
  exact⟨_,at9 q1,q2⟩
 ·rintro⟨x,hx,hf⟩
  obtain⟨m,hm1,rfl⟩:=List.getElem_of_mem hx
  rw[←xx hm1]at hf
  have hle:bsR f l≤m:=by
   by_cases q:m<bsR f l
   ·have:=h2 m q;omega
   ·omega
  have hlt:bsR f l<l.length:=by omega
  have:=h3 _ (Nat.le_refl _) hlt
  have:=hm _ _ hle hm1
  exact⟨hlt,by omega⟩
theorem zj[Inhabited α](h:l.Pairwise (λa b=>f a≤f b)):∀a b:Nat,a≤b→b<l.length→f (el l a)≤f (el l b):=by
 intro a b hab hb
 rcases Nat.lt_or_eq_of_le hab with hab|rfl
 ·have:=List.pairwise_iff_getElem.1 h a b (by omega) hb hab
  rwa [xx (by omega),xx hb]
 ·exact Int.le_refl _
theorem pX{α:Type}{p:α→α→Bool}(ht:∀a b c,p a b=true→p b c=true→p a c=true):∀{l:List α},mB p l=true→l.Pairwise (λa b=>p a b=true)
 |[],_=>List.Pairwise.nil
 |[x],_=>by simp
 |a::b::r,h=>by
  simp only[mB,Bool.and_eq_true]at h
  have ih:=pX ht h.2
  rw[List.pairwise_cons]
  refine⟨λz hz=>?_,ih⟩
  rcases List.mem_cons.1 hz with rfl|hz
  ·exact h.1
  ·exact ht _ _ _ h.1 ((List.pairwise_cons.1 ih).1 z hz)
theorem ny{α:Type}{p:α→α→Bool}:∀{l:List α},l.Pairwise (λa b=>p a b=true)→mB p l=true
 |[],_=>rfl
 |[x],_=>rfl
 |a::b::r,h=>by
  rw[List.pairwise_cons]at h
  simp only[mB,Bool.and_eq_true]
  exact⟨h.1 b (by simp),ny h.2⟩
variable {t:aa}
theorem afY(h:kB t=true):t.aq.Pairwise (λa b=>a.ID<b.ID):=by
 have:=pX (p:=λa b:aM=>decide (a.ID<b.ID)) (λa b c h1 h2=>by simp at h1 h2 ⊢;omega) h
 exact this.imp (λh=>by simpa using h)
theorem apL(h:kB t=true)(id:Int):∀a b:Nat,a≤b→b<t.aq.length→lF (el t.aq a).ID id≤lF (el t.aq b).ID id:=
 zj (f:=λr:aM=>lF r.ID id) ((afY h).imp (λ{a b} h=>by unfold lF;split<;>(try split)<;>(try split)<;>(try split)<;>omega))
def ajW(t:aa)(id:Int):Bool:=!bsT (λr=>lF r.ID id) t.aq
theorem adN(h:kB t=true)(id:Int):ajW t id=!hasB t id:=by
 simp only[ajW,hasB]
 congr 1
 rw[Bool.eq_iff_iff,apK (apL h id)]
 simp[x9]
theorem xy(t:aa):gy t=some (fS t):=by
 unfold gy fS
 by_cases hlen:(decide (24<(t.aq.length:Int))||decide (60<(t.Links.length:Int)))=true
 ·rw[hlen];rfl
 rw[Bool.not_eq_true]at hlen
 rw[hlen]
 simp only[cond_false]
 simp only[Bool.or_eq_false_iff,decide_eq_false_iff_not]at hlen
 rw[cfR t.aq _ xw (λx=>by simp only[kP,iy,aR,xw];congr 1;rw[Bool.eq_iff_iff];simp)]
 simp only[aR]
 unfold kA
 cases t.aq.any xw
 case true=>rfl
 simp only[cond_false]
 refine(abn (λa b:aM=>decide (a.ID<b.ID)) (some 25) ?_ ?_ _).trans ?_
 ·intros;rfl
 ·intro j x y r q s Z h hj
  simp only[jn,qw h hj (by omega),aR,qZ]
  rw[if_pos (by omega)]
  split<;>split<;>first|rfl|omega
 cases hB:kB t
 case false=>unfold kB at hB;rw[hB];rfl
 have hB':=hB
 unfold kB at hB'
 rw[hB']
 simp only[cond_true]
 rw[cfL t.Links jd rN (λx=>by
  simp only[jd,iy,aR,rN,uf]
  simp only[qZ,Bool.not_and,Bool.cond_eq_ite,Bool.or_eq_true,Bool.not_eq_true',decide_eq_false_iff_not]
  split
  ·congr 1;symm;rw[Bool.eq_iff_iff];simp;omega
  ·split
   ·congr 1;symm;rw[Bool.eq_iff_iff];simp;omega
   ·congr 1;rw[Bool.eq_iff_iff];simp;omega)]
 simp only[aR]
 unfold kC
 cases t.Links.any rN
 case true=>rfl
 simp only[cond_false]
 have hu:∀id,gH id t=some (!hasB t id):=λid=>by
  unfold gH
  rw[aua t.aq id _ (λr=>lF r.ID id) (by omega) (λr=>acJ r id)]
  simp only[aR]
  rw[←adN hB];rfl
 rw[cfL t.Links _ (λl=>!hasB t l.A||!hasB t l.B) (λx=>by
  simp only[kQ,hu,aR]
  cases hasB t x.A<;>rfl)]
 simp only[aR]
 unfold kD
 cases t.Links.any _
 case true=>rfl
 simp only[cond_false]
 rw[cfL t.Links kR (λl=>decide (l.B≤l.A)) (λx=>rfl)]
 simp only[aR]
 unfold kE
 cases t.Links.any _
 case true=>rfl
 simp only[cond_false]
 refine(abn ltL (some 25) ?_ ?_ _).trans ?_
 ·intros;rfl
 ·intro j x y r q s Z h hj
  simp only[jn,qw h hj (by omega),aR,adm,qZ]
  rw[if_pos (by omega)]
  cases hlt:ltL y x
  ·have:¬acI y x<0:=by rw[adM,hlt];simp
   rw[if_pos (by omega)];rfl
  ·have:=adM.2 hlt
   rw[if_neg (by omega)];rfl
 unfold kF
 cases mB ltL t.Links<;>rfl
end Go.Proofs.YtdjeacigeegklaaGreat
namespace Go.Proofs.YtdjeacigeegklaaGreat
set_option linter.all false
open Go
variable {α:Type}
theorem adO[DecidableEq α]{l:List α}{v:α}:l.any (λx=>decide (x=v))=decide (v∈l):=by
 rw[Bool.eq_iff_iff];simp
theorem adP(l:List Int)(n:Int):n9 l n=some (decide (n∈l)):=by
 unfold n9
 refine(gA (λx:Int=>decide (x=n)) (some true) ?_ _ _ _).trans ?_
 ·intros;rfl
 ·rw[adO];cases decide (n∈l)<;>rfl
theorem u9(l:List Int)(n:Int):cE l n=some (decide (n∈l)):=by
 unfold cE iE
 obtain⟨r,h1,h2⟩:=qx (B:=λ(j1:Int) (e1:Int) (Z1:Unit→Option Int) (sg:Unit)=>match sg with|()=>bif decide (n=e1)then some (j1:Int)else Z1 ()) (K:=λ(sg:Unit)=>match sg with|()=>some (-1:Int)) (λx=>decide (n=x)) (λj x Z s=>rfl) (λ_=>rfl) l 0 ()
 simp only[h1,aR,h2]
 congr 1
 rw[Bool.eq_iff_iff];simp
def oA(l:List cw)(a b:Int):Bool:=l.any λh=>kO (cw.mk a b) h
theorem apM(l:List cw)(v:cw):dB l v=some (l.any (kO v)):=by
 unfold dB fJ
 obtain⟨r,h1,h2⟩:=qx (B:=λ(j1:Int) (e1:cw) (Z1:Unit→Option Int) (sg:Unit)=>match sg with|()=>bif kO v e1 then some (j1:Int)else Z1 ()) (K:=λ(sg:Unit)=>match sg with|()=>some (-1:Int)) (λx=>kO v x) (λj x Z s=>rfl) (λ_=>rfl) l 0 ()
 simp only[h1,aR,h2]
theorem afZ(l:List cw)(a b:Int):rD l a b=some (oA l a b||oA l b a):=by
 unfold rD
 refine(gA (λh:cw=>kO (cw.mk a b) h||kO (cw.mk b a) h) (some true) ?_ _ _ _).trans ?_
 ·intro j x Z s
  congr 1
  rw[Bool.eq_iff_iff]
  obtain⟨f,t⟩:=x
  simp[kO]
  constructor
  ·split
   ·rintro(h|h)<;>omega
   ·intro h;omega
  ·rintro(h|h)
   ·rw[if_pos (by omega)];omega
   ·split<;>omega
 ·have:(l.any λh:cw=>kO (cw.mk a b) h||kO (cw.mk b a) h)=(oA l a b||oA l b a):=by
   rw[Bool.eq_iff_iff];simp[oA,List.any_eq_true]
   constructor
   ·rintro⟨x,hx,h|h⟩
    ·exact .inl ⟨x,hx,h⟩
    ·exact .inr ⟨x,hx,h⟩
   ·rintro(⟨x,hx,h⟩|⟨x,hx,h⟩)
    ·exact⟨x,hx,.inl h⟩
    ·exact⟨x,hx,.inr h⟩
  rw[this];cases(oA l a b||oA l b a)<;>rfl
theorem jP{α γ β:Type}{B:Int→α→(List γ→Option β)→List γ→Option β}{K:List γ→Option β}(p:α→Bool)(f:α→γ):
  ∀(l:List α) (j:Nat) (s:List γ),(∀(j:Nat) x Z s,x∈l→s.length<1000000→B j x Z s=bif p x then Z (s++[f x])else Z s)→l.length+s.length≤1000000→bJ l j B K s=K (s++(l.filter p).map f)
 |[],j,s,_,_=>by simp[bJ]
 |x::r,j,s,hB,h=>by
  simp only[List.length_cons]at h
  simp only[bJ]
  rw[hB j x _ s (by simp) (by omega)]
  have hB':∀(j:Nat) y Z s,y∈r→s.length<1000000→B j y Z s=bif p y then Z (s++[f y])else Z s:=λj y Z s hy=>hB j y Z s (by simp[hy])
  cases hp:p x
  ·rw[cond_false,jP p f r (j+1) s hB' (by omega),List.filter_cons_of_neg (by simp[hp])]
  ·rw[cond_true,jP p f r (j+1) (s++[f x]) hB' (by simp;omega),List.filter_cons_of_pos hp]
   simp
theorem kH{s:List α}{x:α}(h:s.length<1000000):dy s [x]=some (s++[x]):=qv (by simp;omega)
theorem abo{a b:List Int}(ha:a.Pairwise (·<·))(hb:b.Pairwise (·<·))(h:∀x,x∈a↔x∈b):a=b:=by
 induction a generalizing b with
 |nil=>
  cases b with
  |nil=>rfl
  |cons y b=>exact absurd ((h y).2 (by simp)) (by simp)
 |cons x a ih=>
  cases b with
  |nil=>exact absurd ((h x).1 (by simp)) (by simp)
  |cons y b=>
   rw[List.pairwise_cons]at ha hb
   have hxy:x=y:=by
    have h1:=(h x).1 (by simp)
    have h2:=(h y).2 (by simp)
    rw[List.mem_cons]at h1 h2
    rcases h1 with h1|h1
    ·exact h1
    ·rcases h2 with h2|h2
     ·exact h2.symm
     ·have:=hb.1 _ h1;have:=ha.1 _ h2;omega
   subst hxy
   congr 1
   refine ih ha.2 hb.2 λz=>?_
   have:=h z
   simp only[List.mem_cons]at this
   constructor
   ·intro hz
    rcases this.1 (.inr hz)with q|q
    ·subst q;have:=ha.1 _ hz;omega
    ·exact q
   ·intro hz
    rcases this.2 (.inr hz)with q|q
    ·subst q;have:=hb.1 _ hz;omega
    ·exact q
variable {l:List Int}
theorem acL(h:l.Nodup):(iB l).Pairwise (·<·):=by
 have h1:=s7 l
 have h2:(iB l).Nodup:=(pF l).nodup_iff.2 h
 have:=h1.and h2
 exact this.imp (λ⟨a,b⟩=>by omega)
variable {x:Int}
theorem abp:x∈iB l↔x∈l:=(pF l).mem_iff
structure Vt(t:aa):Prop where
 nr:t.aq.length≤24
 nl:t.Links.length≤60
 idr:∀r∈t.aq,1≤r.ID∧r.ID≤99
 asc:t.aq.Pairwise (λa b=>a.ID<b.ID)
 okl:∀l∈t.Links,rN l=false
 ends:∀l∈t.Links,hasB t l.A=true∧hasB t l.B=true
 lt:∀l∈t.Links,l.A<l.B
 ae0:t.Links.Pairwise (λa b=>ltL a b=true)
theorem af0(a b c:bA)(h1:ltL a b=true)(h2:ltL b c=true):ltL a c=true:=by
 simp[ltL]at *;omega
theorem any_false{l:List α}{p:α→Bool}:l.any p=false↔∀x∈l,p x=false:=by
 rw[List.any_eq_false];simp
variable {t:aa}
theorem jE:fS t=0↔Vt t:=by
 unfold fS
 constructor
 ·intro h
  by_cases h1:(decide (24<(t.aq.length:Int))||decide (60<(t.Links.length:Int)))=true
  ·rw[h1]at h;cases h
  simp only[Bool.not_eq_true]at h1
  rw[h1,cond_false]at h
  cases h2:kA t<;>rw[h2]at h<;>first|cases h;done|skip
  cases h3:kB t<;>rw[h3]at h<;>first|cases h;done|skip
  cases h4:kC t<;>rw[h4]at h<;>first|cases h;done|skip
  cases h5:kD t<;>rw[h5]at h<;>first|cases h;done|skip
  cases h6:kE t<;>rw[h6]at h<;>first|cases h;done|skip
  cases h7:kF t<;>rw[h7]at h<;>first|cases h;done|skip
  simp only[Bool.or_eq_false_iff,decide_eq_false_iff_not]at h1
  refine⟨by omega,by omega,λr hr=>?_,afY h3,any_false.1 h4,λl hl=>?_,λl hl=>?_,pX af0 h7⟩
  ·have:=any_false.1 h2 r hr;simp[xw]at this;omega
  ·have:=any_false.1 h5 l hl;simpa using this
  ·have:=any_false.1 h6 l hl;simpa using this
 ·intro h
  have h1:(decide (24<(t.aq.length:Int))||decide (60<(t.Links.length:Int)))=false:=by
   have:=h.nr;have:=h.nl;simp;omega
  have h2:kA t=false:=any_false.2 λr hr=>by have:=h.idr r hr;simp[xw];omega
  have h3:kB t=true:=ny (h.asc.imp λh=>by simpa using h)
  have h4:kC t=false:=any_false.2 h.okl
  have h5:kD t=false:=any_false.2 λl hl=>by have:=h.ends l hl;simp[this]
  have h6:kE t=false:=any_false.2 λl hl=>by have:=h.lt l hl;simp;omega
  have h7:kF t=true:=ny h.ae0
  rw[h1,h2,h3,h4,h5,h6,h7];rfl
theorem abq(t:aa):iL t=some (decide (fS t=0)):=by
 unfold iL;rw[xy];rfl
variable {r:Int}
theorem tG:hasB t r=true↔∃x∈t.aq,x.ID=r:=by simp[hasB]
theorem af1:fS (aa.mk [] [])=0:=rfl
def ya(f:dO)(l:bA):Bool:=decide (l.A∈f.aq)||decide (l.B∈f.aq)||oA f.Links l.A l.B||oA f.Links l.B l.A
def woT(t:aa)(f:dO):aa:=aa.mk (t.aq.filter λr=>!decide (r.ID∈f.aq)) (t.Links.filter λl=>!ya f l)
theorem Vt.wo(h:Vt t)(f:dO):Vt (woT t f):=by
 have sr:(woT t f).aq.Sublist t.aq:=List.filter_sublist
 have sl:(woT t f).Links.Sublist t.Links:=List.filter_sublist
 refine⟨Nat.le_trans sr.length_le h.nr,Nat.le_trans sl.length_le h.nl,λr hr=>h.idr r (sr.subset hr),h.asc.sublist sr,λl hl=>h.okl l (sl.subset hl),λl hl=>?_,λl hl=>h.lt l (sl.subset hl),h.ae0.sublist sl⟩
 have hm:=List.mem_filter.1 hl
 have he:=h.ends l hm.1
 have hg:=hm.2
 simp[ya]at hg
 rw[tG,tG]at he ⊢
 obtain⟨⟨x,hx,ex⟩,⟨y,hy,ey⟩⟩:=he
 refine⟨⟨x,List.mem_filter.2 ⟨hx,?_⟩,ex⟩,⟨y,List.mem_filter.2 ⟨hy,?_⟩,ey⟩⟩
 ·rw[ex];simp[hg]
 ·rw[ey];simp[hg]
def lG(t:aa)(f:dO):aa:=if fS t=0 then woT t f else aa.mk [] []
theorem aaN(t:aa)(f:dO):Vt (lG t f):=by
 unfold lG
 split
 ·rename_i h;exact(jE.1 h).wo f
 ·exact jE.1 af1
theorem yA(t:aa)(f:dO):mT t f=some (lG t f):=by
 unfold mT lG
 simp only[rj,aR]
 by_cases h:fS t=0
 ·have hv:=jE.1 h
  have:=hv.nr;have:=hv.nl
  simp only[h,decide_true,Bool.not_true,cond_false,if_true]
  refine(jP (λr:aM=>!decide (r.ID∈f.aq)) id _ _ _ ?_ (by simp;omega)).trans ?_
  ·intro j x Z s _ hs
   simp only[jn,adP,aR,kH hs];rfl
  refine(jP (λl:bA=>!ya f l) id _ _ _ ?_ (by simp;omega)).trans ?_
  ·intro j x Z s _ hs
   simp only[jn,adP,afZ,aR,kH hs,ya,id]
   cases decide (x.A∈f.aq)<;>cases decide (x.B∈f.aq)<;>cases oA f.Links x.A x.B<;>cases oA f.Links x.B x.A<;>rfl
  ·simp[woT]
 ·simp[h]
theorem yB(t:aa)(f:dO):gI t f=some (lG t f):=by
 unfold gI lG
 simp only[abq,aR]
 by_cases h:fS t=0
 ·have hv:=jE.1 h
  have:=hv.nr;have:=hv.nl
  simp only[h,decide_true,Bool.not_true,cond_false,if_true]
  refine(jP (λr:aM=>!decide (r.ID∈f.aq)) id _ _ _ ?_ (by simp;omega)).trans ?_
  ·intro j x Z s _ hs
   simp only[jn,u9,aR,kH hs];rfl
  refine(jP (λl:bA=>!ya f l) id _ _ _ ?_ (by simp;omega)).trans ?_
  ·intro j x Z s _ hs
   have e1:f.Links.any (kO (cw.mk x.A x.B))=oA f.Links x.A x.B:=rfl
   have e2:f.Links.any (kO (cw.mk x.B x.A))=oA f.Links x.B x.A:=rfl
   simp only[jn,u9,apM,aR,kH hs,ya,id,e1,e2]
   cases decide (x.A∈f.aq)<;>cases decide (x.B∈f.aq)<;>cases oA f.Links x.A x.B<;>cases oA f.Links x.B x.A<;>rfl
  ·simp[woT]
 ·simp[h]
theorem adQ(t:aa)(r:Int):mJ t r=some (decide (fS t=0)&&hasB t r):=by
 unfold mJ
 simp only[rj,adJ,aR]
 cases decide (fS t=0)<;>rfl
def ae1(t:aa)(r:Int):aM×Bool:=if bsT (λx:aM=>lF x.ID r) t.aq then(el t.aq (bsR (λx:aM=>lF x.ID r) t.aq),true)else(aM.mk 0 false,false)
theorem ajX(t:aa)(r:Int)(hl:t.aq.length≤1000000):kS t r=some (ae1 t r):=by
 unfold kS ae1
 rw[aua t.aq r _ (λx=>lF x.ID r) hl (λx=>acJ x r)]
 simp only[aR]
 cases h:bsT (λx:aM=>lF x.ID r) t.aq
 ·rfl
 ·have h2:bsR (λx:aM=>lF x.ID r) t.aq<t.aq.length:=by
   simp only[bsT,Bool.and_eq_true,decide_eq_true_eq]at h;exact h.1
  simp only[Bool.not_true,cond_false,acK h2,aR,if_true]
theorem apN(h:Vt t)(r:Int):bsT (λx:aM=>lF x.ID r) t.aq=hasB t r:=by
 have:=adN (t:=t) (ny (h.asc.imp λh=>by simpa using h)) r
 simpa [ajW]using this
theorem apO(t:aa)(r:Int)(hl:t.aq.length≤1000000):jQ t r=some (decide (fS t=0)&&hasB t r):=by
 unfold jQ
 simp only[ajX t r hl,abq,aR]
 by_cases h:fS t=0
 ·simp only[h,decide_true,cond_true,Bool.true_and,ae1,apN (jE.1 h)]
  cases hasB t r<;>rfl
 ·simp[h]
theorem af2{σ β:Type}{B:Int→α→(σ→Option β)→σ→Option β}{K:σ→Option β}(p:α→Bool)(g:α→Option β)(hB:∀j x Z s,B j x Z s=bif p x then g x else Z s)(l:List α)(j:Nat)(s:σ):
  bJ l j B K s=match l.find? p with|some x=>g x|none=>K s:=
 u0 (f:=λl s=>match l.find? p with|some x=>g x|none=>K s) (λs=>rfl) (λj x r s Z hZ=>by
  rw[hB,hZ,List.find?_cons];cases p x<;>rfl) l j s
theorem aub(h:Vt t){a b:bA}(ha:a∈t.Links)(hb:b∈t.Links)(hA:a.A=b.A)(hB:a.B=b.B):a=b:=by
 obtain⟨i,hi,rfl⟩:=List.getElem_of_mem ha
 obtain⟨j,hj,rfl⟩:=List.getElem_of_mem hb
 have:=List.pairwise_iff_getElem.1 h.ae0
 rcases Nat.lt_trichotomy i j with q|q|q
 ·have:=this i j hi hj q;simp[ltL]at this;omega
 ·subst q;rfl
 ·have:=this j i hj hi q;simp[ltL]at this;omega
def eo(l:bA)(a b:Int):Bool:=(decide (l.A=a)&&decide (l.B=b))||(decide (l.B=a)&&decide (l.A=b))
def gO(a b:Int)(l:bA):Int×Bool:=(bif decide (l.A=a)&&decide (l.B=b)then l.iC else l.iD,true)
def jF(t:aa)(a b:Int):Int×Bool:=match t.Links.find? (λl=>eo l a b)with|some l=>gO a b l|none=>(0,false)
def j9(t:aa)(a b:Int):Bool:=t.Links.any λl=>eo l a b
theorem abr(t:aa)(a b:Int):kJ t a b=some (jF t a b):=by
 unfold kJ jF
 refine(af2 (λl:bA=>eo l a b) (λl=>some (gO a b l)) (λj x Z s=>?_) _ _ _).trans ?_
 ·unfold eo gO
  cases decide (x.A=a)&&decide (x.B=b)<;>cases decide (x.B=a)&&decide (x.A=b)<;>rfl
 ·cases t.Links.find? _<;>rfl
theorem af3(t:aa)(a b:Int):(jF t a b).2=j9 t a b:=by
 unfold jF j9
 cases hf:t.Links.find? (λl=>eo l a b)with
 |none=>symm;exact any_false.2 λx hx=>by simpa using List.find?_eq_none.1 hf x hx
 |some x=>
  symm
  exact List.any_eq_true.2 ⟨x,List.mem_of_find?_eq_some hf,by simpa using List.find?_some hf⟩
variable {a b:Int}
theorem iQ(h:Vt t){l:bA}(hm:l∈t.Links)(he:eo l a b=true):jF t a b=gO a b l:=by
 unfold jF
 cases hf:t.Links.find? (λl=>eo l a b)with
 |none=>exact absurd he (List.find?_eq_none.1 hf l hm)
 |some x=>
  have hx:=List.mem_of_find?_eq_some hf
  have hp:=List.find?_some hf
  have h1:=h.lt _ hm
  have h2:=h.lt _ hx
  simp[eo]at he hp
  rw[aub h hx hm (by omega) (by omega)]
def ids(t:aa):List Int:=t.aq.map (·.ID)
theorem va(h:Vt t):(ids t).Pairwise (·<·):=List.pairwise_map.2 h.asc
theorem jU:r∈ids t↔hasB t r=true:=by rw[tG];simp[ids]
theorem iR:j9 t a b=true↔∃l∈t.Links,(l.A=a∧l.B=b)∨(l.B=a∧l.A=b):=by
 simp[j9,eo]
theorem acM(h:j9 t a b=true):j9 t b a=true:=by
 rw[iR]at h ⊢
 obtain⟨l,hl,h⟩:=h
 exact⟨l,hl,by omega⟩
theorem auc(hv:Vt t)(h:j9 t a b=true):a≠b:=by
 rw[iR]at h
 obtain⟨l,hl,h⟩:=h
 have:=hv.lt l hl
 omega
theorem qy(hv:Vt t)(h:j9 t a b=true):b∈ids t:=by
 rw[iR]at h
 obtain⟨l,hl,h⟩:=h
 have:=hv.ends l hl
 rcases h with⟨h1,h2⟩|⟨h1,h2⟩<;>rw[jU,←h2]
 ·exact this.2
 ·exact this.1
def kV(t:aa)(r:Int):List Int:=(ids t).filter λx=>j9 t r x
theorem vT(hv:Vt t)(r:Int):(kV t r).Pairwise (·<·):=(va hv).sublist List.filter_sublist
theorem kW(hv:Vt t):x∈kV t r↔j9 t r x=true:=by
 unfold kV;rw[List.mem_filter]
 exact⟨λh=>h.2,λh=>⟨qy hv h,h⟩⟩
theorem acN(hv:Vt t)(r:Int):lS t r=some (kV t r):=by
 unfold lS
 have:=hv.nr
 refine(jP (λx:aM=>j9 t r x.ID) (·.ID) _ _ _ ?_ (by simp;omega)).trans ?_
 ·intro j x Z s _ hs
  simp only[jn,abr,af3,aR,kH hs]
 ·simp only[List.nil_append,kV,ids]
  rw[List.filter_map];rfl
def eU(r:Int)(l:bA):Option Int:=if r=l.A then some l.B else if r=l.B then some l.A else none
theorem xz{α γ β:Type}{B:Int→α→(List γ→Option β)→List γ→Option β}{K:List γ→Option β}(f:α→Option γ):
  ∀(l:List α) (j:Nat) (s:List γ),(∀(j:Nat) x Z s,x∈l→s.length<1000000→B j x Z s=match f x with|some y=>Z (s++[y])|none=>Z s)→l.length+s.length≤1000000→bJ l j B K s=K (s++l.filterMap f)
 |[],j,s,_,_=>by simp[bJ]
 |x::r,j,s,hB,h=>by
  simp only[List.length_cons]at h
  simp only[bJ]
  rw[hB j x _ s (by simp) (by omega)]
  have hB':∀(j:Nat) y Z s,y∈r→s.length<1000000→B j y Z s=match f y with|some y=>Z (s++[y])|none=>Z s:=λj y Z s hy=>hB j y Z s (by simp[hy])
  cases hp:f x with
  |none=>simp only;rw[xz f r (j+1) s hB' (by omega),List.filterMap_cons_none hp]
  |some y=>simp only;rw[xz f r (j+1) (s++[y]) hB' (by simp;omega),List.filterMap_cons_some hp];simp
theorem qL(hv:Vt t)(r:Int):(t.Links.filterMap (eU r)).Nodup:=by
 have key:∀l:List bA,(∀x∈l,x.A<x.B)→l.Pairwise (λa b=>ltL a b=true)→(l.filterMap (eU r)).Nodup:=by
  intro l
  induction l with
  |nil=>intros;simp
  |cons x l ih=>
   intro h1 h2
   rw[List.pairwise_cons]at h2
   have ih:=ih (λy hy=>h1 y (by simp[hy])) h2.2
   cases hx:eU r x with
   |none=>rw[List.filterMap_cons_none hx];exact ih
   |some y=>
    rw[List.filterMap_cons_some hx,List.nodup_cons]
    refine⟨λhm=>?_,ih⟩
    obtain⟨z,hz,hzy⟩:=List.mem_filterMap.1 hm
    have h3:=h2.1 z hz
    have h4:=h1 x (by simp)
    have h5:=h1 z (by simp[hz])
    unfold eU at hx hzy
    simp[ltL]at h3
    split at hx<;>split at hzy<;>(try split at hx)<;>(try split at hzy)<;>simp at hx hzy<;>omega
 exact key _ hv.lt hv.ae0
theorem abt(hv:Vt t):x∈t.Links.filterMap (eU r)↔j9 t r x=true:=by
 rw[List.mem_filterMap,iR]
 constructor
 ·rintro⟨l,hl,h⟩
  unfold eU at h
  refine⟨l,hl,?_⟩
  split at h
  ·simp at h;omega
  ·split at h
   ·simp at h;omega
   ·cases h
 ·rintro⟨l,hl,h⟩
  refine⟨l,hl,?_⟩
  have:=hv.lt l hl
  unfold eU
  rcases h with h|h
  ·rw[if_pos (by omega),h.2]
  ·rw[if_neg (by omega),if_pos (by omega),h.2]
theorem ajY(hv:Vt t)(r:Int):gJ t r=some (kV t r):=by
 unfold gJ
 have:=hv.nl
 refine(xz (eU r) _ _ _ ?_ (by simp;omega)).trans ?_
 ·intro j x Z s _ hs
  simp only[jn,kH hs,aR,eU]
  by_cases h1:r=x.A
  ·simp[h1]
  ·by_cases h2:r=x.B<;>simp[h1,h2]
   simp[←h2,h1]
 ·have hlen:(t.Links.filterMap (eU r)).length≤60:=Nat.le_trans (List.length_filterMap_le _ _) (by omega)
  simp only[List.nil_append]
  rw[alY (by simp;omega)]
  congr 1
  refine abo (acL (qL hv r)) (vT hv r) λx=>?_
  rw[abp,abt hv,kW hv]
theorem aaO(t:aa)(r:Int):jb t r=some (if fS t=0 then kV t r else[]):=by
 unfold jb
 simp only[rj,aR]
 by_cases h:fS t=0
 ·simp[h,acN (jE.1 h),aR]
 ·simp[h]
end Go.Proofs.YtdjeacigeegklaaGreat
namespace Go.Proofs.YtdjeacigeegklaaGreat
set_option linter.all false
open Go
theorem Ok.uE{α σ β:Type}{B:Int→α→(σ→Option β)→σ→Option β}{K:σ→Option β}{Q:β→Prop}(I:List α→σ→Prop){L:List α}
  (hc:∀(p:List α) x r s Z,L=p++x::r→I p s→(∀s',I (p++[x]) s'→Ok (Z s') Q)→Ok (B (p.length:Int) x Z s) Q) (s:σ) (h:I [] s) (hn:∀s,I L s→Ok (K s) Q):Ok (Go.Proofs.YtdjeacigeegklaaGreat.bJ L 0 B K s) Q:=by
 have key:∀(l p:List α) (s:σ),L=p++l→I p s→Ok (Go.Proofs.YtdjeacigeegklaaGreat.bJ l p.length B K s) Q:=by
  intro l
  induction l with
  |nil=>intro p s hj h;exact hn s (by rw[hj,List.append_nil];exact h)
  |cons x r ih=>
   intro p s hj h
   refine hc p x r s _ hj h λs' h'=>?_
   have:=ih (p++[x]) s' (by simp[hj]) h'
   rwa [List.length_append]at this
 exact key L [] s rfl h
theorem oR{a b:List Int}(h:a.Nodup)(hs:∀x∈a,x∈b):a.length≤b.length:=by
 induction a generalizing b with
 |nil=>simp
 |cons x a ih=>
  rw[List.nodup_cons]at h
  have hx:=hs x (by simp)
  have:=ih (b:=b.erase x) h.2 λy hy=>(List.mem_erase_of_ne (λe=>h.1 (by rw[←e];exact hy))).2 (hs y (by simp[hy]))
  rw[List.length_erase_of_mem hx]at this
  have:=List.length_pos_of_mem hx
  simp only[List.length_cons];omega
inductive Cn(t:aa)(c:List Int):Int→Int→Prop
 |refl {a:Int} (h:a∉c):Cn t c a a
 |step {a b d:Int} (h:Cn t c a b) (ha:j9 t b d=true) (hd:d∉c):Cn t c a d
variable {a b:Int}{c:List Int}{t:aa}
theorem Cn.trans{d:Int}(h1:Cn t c a b)(h2:Cn t c b d):Cn t c a d:=by
 induction h2 with
 |refl _=>exact h1
 |step _ ha hd ih=>exact .step ih ha hd
theorem Cn.left(h:Cn t c a b):a∉c:=by
 induction h with
 |refl h=>exact h
 |step _ _ _ ih=>exact ih
theorem Cn.right(h:Cn t c a b):b∉c:=by
 cases h with
 |refl h=>exact h
 |step _ _ hd=>exact hd
theorem Cn.symm(h:Cn t c a b):Cn t c b a:=by
 induction h with
 |refl h=>exact .refl h
 |step h ha hd ih=>exact(Cn.step (.refl hd) (acM ha) h.right).trans ih
theorem Cn.ids{t:aa}(hv:Vt t){c:List Int}{a b:Int}(h:Cn t c a b)(ha:a∈ids t):b∈ids t:=by
 cases h with
 |refl h=>exact ha
 |step _ hd _=>exact qy hv hd
theorem Cn.stays{S:Int→Prop}(h:Cn t c a b)(ha:S a)(hs:∀x,S x→∀y,j9 t x y=true→S y∨y∈c):S b:=by
 induction h with
 |refl _=>exact ha
 |step _ hd hc ih=>exact(hs _ ih _ hd).resolve_right hc
open Classical in
noncomputable def aah(t:aa)(c:List Int)(r:Int):List Int:=(ids t).filter λx=>decide (Cn t c r x)
variable {r:Int}
theorem abu(hv:Vt t){x:Int}(hr:r∈ids t):x∈aah t c r↔Cn t c r x:=by
 unfold aah
 rw[List.mem_filter]
 simp only[decide_eq_true_eq]
 exact⟨λh=>h.2,λh=>⟨h.ids hv hr,h⟩⟩
theorem ajZ(hv:Vt t)(c:List Int)(r:Int):(aah t c r).Pairwise (·<·):=(va hv).sublist List.filter_sublist
theorem qz(hv:Vt t):(ids t).length≤24:=by have:=hv.nr;simpa [ids]using this
theorem aue(hv:Vt t)(c:List Int):∀(n:Nat) (r:Int) (out:List Int),out.Nodup→(∀x∈out,x∈ids t)→r∈ids t→(ids t).length+1≤n+out.length→
  Ok (fZ n r out c t.aq t.Links) (λo=>∃new,o=out++new∧o.Nodup∧(∀x∈new,Cn t c r x)∧(r∈o∨r∈c)∧(∀x∈new,∀y,j9 t x y=true→y∈o∨y∈c)):=by
 intro n
 induction n with
 |zero=>intro r out h1 h2 _ h3;have:=oR h1 h2;omega
 |succ n ih=>
  intro r out h1 h2 hr h3
  unfold fZ
  simp only[u9,aR,jn]
  by_cases q1:r∈out
  ·simp only[q1,decide_true,cond_true]
   exact Ok.s ⟨[],by simp,h1,by simp,.inl q1,by simp⟩
  ·simp only[q1,decide_false,cond_false]
   by_cases q2:r∈c
   ·simp only[q2,decide_true,cond_true]
    exact Ok.s ⟨[],by simp,h1,by simp,by simp[q2],by simp⟩
   ·simp only[q2,decide_false,cond_false]
    have hol:=oR h1 h2
    have:=qz hv
    rw[qv (by simp;omega),aR,show(aa.mk t.aq t.Links)=t from rfl,ajY hv,aR]
    refine Ok.uE (λp m=>∃new,m=(out++[r])++new∧m.Nodup∧(∀x∈new,Cn t c r x)∧(∀x∈p,x∈m∨x∈c)∧(∀x∈new,∀y,j9 t x y=true→y∈m∨y∈c)) ?_ _ ?_ ?_
    ·rintro p e rest m Z hL ⟨new,hm,hnd,hcn,hp,had⟩ hZ
     have acO:j9 t r e=true:=(kW hv).1 (by rw[hL];simp)
     have hsub:∀x∈m,x∈ids t:=by
      intro x hx
      rw[hm]at hx
      simp only[List.mem_append,List.mem_cons,List.not_mem_nil,or_false]at hx
      rcases hx with(hx|rfl)|hx
      ·exact h2 x hx
      ·exact hr
      ·exact(hcn x hx).ids hv hr
     refine Ok.bnd (ih e m hnd hsub (qy hv acO) (by rw[hm];simp;omega)) ?_
     rintro o ⟨new2,ho,hond,hocn,hoe,hoad⟩
     refine hZ _ ⟨new++new2,by rw[ho,hm];simp,hond,?_,?_,?_⟩
     ·intro x hx
      rcases List.mem_append.1 hx with hx|hx
      ·exact hcn x hx
      ·have:=hocn x hx
       exact(Cn.step (.refl q2) acO this.left).trans this
     ·intro x hx
      rcases List.mem_append.1 hx with hx|hx
      ·rcases hp x hx with h|h
       ·exact .inl (by rw[ho];simp[h])
       ·exact .inr h
      ·simp only[List.mem_cons,List.not_mem_nil,or_false]at hx;subst hx;exact hoe
     ·intro x hx y hy
      rcases List.mem_append.1 hx with hx|hx
      ·rcases had x hx y hy with h|h
       ·exact .inl (by rw[ho];simp[h])
       ·exact .inr h
      ·exact hoad x hx y hy
    ·refine⟨[],by simp,?_,by simp,by simp,by simp⟩
     rw[List.nodup_append]
     refine⟨h1,by simp,?_⟩
     intro a ha b hb
     simp only[List.mem_cons,List.not_mem_nil,or_false]at hb
     subst hb
     exact λe=>q1 (e▸ha)
    ·rintro m ⟨new,hm,hnd,hcn,hp,had⟩
     refine Ok.s ⟨r::new,by rw[hm];simp,hnd,?_,.inl (by rw[hm];simp),?_⟩
     ·intro x hx
      rcases List.mem_cons.1 hx with rfl|hx
      ·exact .refl q2
      ·exact hcn x hx
     ·intro x hx y hy
      rcases List.mem_cons.1 hx with rfl|hx
      ·exact hp y ((kW hv).2 hy)
      ·exact had x hx y hy
theorem adn(hv:Vt t)(hr:r∈ids t)(c:List Int):je t r c=some (aah t c r):=by
 have:=qz hv
 obtain⟨o,h1,new,ho,hnd,hcn,hro,had⟩:=aue hv c fuel r [] List.nodup_nil (by simp) hr (by unfold fuel;simp;omega)
 unfold je
 rw[h1,aR]
 rw[List.nil_append]at ho
 subst ho
 have hlen:=oR hnd λx hx=>(hcn x hx).ids hv hr
 rw[alY (by simp;omega)]
 congr 1
 refine abo (acL hnd) (ajZ hv c r) λx=>?_
 rw[abp,abu hv hr]
 refine⟨hcn x,λh=>?_⟩
 have hro:=hro.resolve_right h.left
 exact h.stays (S:=λx=>x∈o) hro had
end Go.Proofs.YtdjeacigeegklaaGreat
namespace Go.Proofs.YtdjeacigeegklaaGreat
set_option linter.all false
open Go
open Classical in
noncomputable def xA(t:aa)(a b:Int):Bool:=decide (fS t=0)&&hasB t a&&hasB t b&&decide (Cn t [] a b)
theorem aj0{t:aa}(hv:Vt t){c:List Int}{a b:Int}(ha:a∈ids t):decide (b∈aah t c a)=@decide (Cn t c a b) (Classical.propDecidable _):=by
 rw[Bool.eq_iff_iff];simp[abu hv ha]
theorem abH(t:aa)(a b:Int)(hl:t.aq.length≤1000000):ig t a b=some (xA t a b):=by
 unfold ig xA
 simp only[apO _ _ hl,aR]
 by_cases h:fS t=0
 ·have hv:=jE.1 h
  simp only[h,decide_true,Bool.true_and]
  cases ha:hasB t a
  ·rfl
  ·cases hb:hasB t b
   ·rfl
   ·simp only[cond_true,adn hv (jU.2 ha),aR,u9,aj0 hv (jU.2 ha),Bool.true_and]
 ·simp[h]
theorem eN{α:Type}(l:List (Int×α))(n m:Int)(b:α):aC (bM l n b) m=if m=n then some b else aC l m:=by
 induction l with
 |nil=>
  simp only[bM,aC,List.find?]
  by_cases h:n=m
  ·simp[h]
  ·simp[h,Ne.symm h]
 |cons p r ih=>
  simp only[bM]
  by_cases h1:p.1=n
  ·rw[if_pos h1]
   simp only[aC,List.find?]at ih ⊢
   by_cases h2:n=m
   ·simp[h2]
   ·have:p.1≠m:=by omega
    simp[h2,this,Ne.symm h2]
  ·rw[if_neg h1]
   simp only[aC,List.find?]at ih ⊢
   by_cases h2:p.1=m
   ·have:m≠n:=by omega
    simp[h2,this]
   ·simp[h2];exact ih
theorem aj1{α:Type}{l:List (Int×α)}{n:Int}{b:α}(h:aC l n=none):(bM l n b).length=l.length+1:=by
 induction l with
 |nil=>rfl
 |cons p r ih=>
  simp only[aC,List.find?]at h
  by_cases h1:p.1=n
  ·simp[h1]at h
  ·simp only[bM,if_neg h1,List.length_cons]
   rw[ih (by simpa [aC,h1]using h)]
end Go.Proofs.YtdjeacigeegklaaGreat
