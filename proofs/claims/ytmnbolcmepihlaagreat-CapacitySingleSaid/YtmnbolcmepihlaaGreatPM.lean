/- Several texts in one. No condition but those that stand in each. -/
import Derived.Test.YtmnbolcmepihlaaGreatDA
namespace Go.Proofs.YtmnbolcmepihlaaGreat
set_option linter.all false
open Go
section
variable {α β:Type}
theorem aM(a:α)(k:α→Option β):bnd (some a) k=k a:=rfl
theorem mH{p:Prop}[Decidable p]{x y:α}:(bif decide p then x else y)=if p then x else y:=by
 by_cases h:p<;>simp[h]
theorem ud{α σ β:Type}{B:Int→α→(σ→Option β)→σ→Option β}{K:σ→Option β}(f:List α→σ→Option β)(hn:∀s,K s=f [] s)
  (hc:∀(j:Int) x r s Z,(∀s',Z s'=f r s')→B j x Z s=f (x::r) s):∀(l:List α) (j:Nat) (s:σ),bz l j B K s=f l s
 |[],_,s=>hn s
 |x::r,j,s=>hc j x r s _ λs'=>ud f hn hc r (j+1) s'
theorem ac4{α σ β:Type}{B:Int→α→(σ→Option β)→σ→Option β}{K:σ→Option β}{L:List α}(f:List α→List α→σ→Option β)(hn:∀s,K s=f L [] s)
  (hc:∀p x r s Z,p++x::r=L→(∀s',Z s'=f (p++[x]) r s')→B (p.length:Int) x Z s=f p (x::r) s):∀(l p:List α) (s:σ),p++l=L→bz l p.length B K s=f p l s
 |[],p,s,h=>by rw[List.append_nil]at h;subst h;exact hn s
 |x::r,p,s,h=>hc p x r s _ h λs'=>by
   have:=ac4 (B:=B) (K:=K) f hn hc r (p++[x]) s' (by simpa using h);rw[List.length_append]at this;exact this
def Ok{β:Type}(o:Option β)(Q:β→Prop):Prop:=∃r,o=some r∧Q r
variable {Q:β→Prop}
theorem Ok.s{r:β}(h:Q r):Ok (some r) Q:=⟨r,rfl,h⟩
theorem Ok.bnd{α β:Type}{o:Option α}{k:α→Option β}{P:α→Prop}{Q:β→Prop}(h:Ok o P)(hk:∀a,P a→Ok (k a) Q):Ok (bnd o k) Q:=by
 obtain⟨a,rfl,ha⟩:=h;exact hk a ha
theorem Ok.cs{c:Bool}{x y:Option β}(h1:c=true→Ok x Q)(h2:c=false→Ok y Q):Ok (bif c then x else y) Q:=by
 cases c
 ·exact h2 rfl
 ·exact h1 rfl
theorem Ok.chk{β:Type}{c:Bool}{k:Option β}{Q:β→Prop}(h:c=true)(hk:Ok k Q):Ok (chk c k) Q:=by subst h;exact hk
theorem Ok.jn{σ β:Type}{k:σ→Option β}{t:(σ→Option β)→Option β}{Q:β→Prop}(R:σ→Prop)(h1:∀s,R s→Ok (k s) Q)(h2:∀J,(∀s,R s→Ok (J s) Q)→Ok (t J) Q):Ok (jn k t) Q:=h2 k h1
variable {o:Option β}
theorem Ok.mono{Q':β→Prop}(h:Ok o Q)(hq:∀r,Q r→Q' r):Ok o Q':=by
 obtain⟨r,h1,h2⟩:=h;exact⟨r,h1,hq r h2⟩
theorem Ok.bz{α σ β:Type}{B:Int→α→(σ→Option β)→σ→Option β}{K:σ→Option β}{Q:β→Prop}(I:Nat→σ→Prop)
  (hc:∀(j:Nat) x s Z,I j s→(∀s',I (j+1) s'→Ok (Z s') Q)→Ok (B (j:Int) x Z s) Q):∀(l:List α) (j:Nat) (s:σ),I j s→(∀s,I (j+l.length) s→Ok (K s) Q)→Ok (bz l j B K s) Q
 |[],j,s,h,hn=>hn s (by simpa using h)
 |x::r,j,s,h,hn=>hc j x s _ h λs' h'=>Ok.bz I hc r (j+1) s' h' λs hs=>hn s (by rwa [List.length_cons,←Nat.add_assoc,Nat.add_right_comm])
variable {σ:Type}{B:Int→α→(σ→Option β)→σ→Option β}{K:σ→Option β}
theorem Ok.forM(I:Nat→σ→Prop){L:List α}
  (hc:∀(j:Nat) x s Z,j<L.length→x∈L→I j s→(∀s',I (j+1) s'→Ok (Z s') Q)→Ok (B (j:Int) x Z s) Q) (s:σ) (h:I 0 s) (hn:∀s,I L.length s→Ok (K s) Q):Ok (Go.Proofs.YtmnbolcmepihlaaGreat.bz L 0 B K s) Q:=by
 have key:∀(l:List α) (j:Nat) (s:σ),(∀x∈l,x∈L)→j+l.length=L.length→I j s→Ok (Go.Proofs.YtmnbolcmepihlaaGreat.bz l j B K s) Q:=by
  intro l;induction l with
  |nil=>intro j s _ hj h;exact hn s (by simpa [←hj]using h)
  |cons x r ih=>
   intro j s hm hj h;simp only[List.length_cons]at hj;exact hc j x s _ (by omega) (hm x (by simp)) h λs' h'=>ih (j+1) s' (λy hy=>hm y (by simp[hy])) (by omega) h'
 exact key L 0 s (λ_ h=>h) (by simp) h
theorem Ok.jf{σ β:Type}{B:Int→(σ→Option β)→σ→Option β}{K:Int→σ→Option β}{Q:β→Prop}(I:Int→σ→Prop)(lo hi:Int)
  (hc:∀(i:Int) s Z,lo≤i→i<hi→I i s→(∀s',I (i+1) s'→Ok (Z s') Q)→Ok (B i Z s) Q) (hn:∀i s,lo≤i→(lo≤hi→i=hi)→I i s→Ok (K i s) Q):∀(n:Nat) (i:Int) (s:σ),n=(hi-i).toNat→lo≤i→(lo≤hi→i≤hi)→I i s→Ok (jf n i B K s) Q
 |0,i,s,hn0,h1,h2,h=>hn i s h1 (λhh=>by have:=h2 hh;omega) h
 |n+1,i,s,hn0,h1,h2,h=>hc i s _ h1 (by omega) h λs' h'=>Ok.jf I lo hi hc hn n (i+1) s' (by omega) (by omega) (λ_=>by omega) h'
theorem Ok.iter{σ β:Type}{F:(σ→Option β)→σ→Option β}{Q:β→Prop}(I:σ→Prop)(μ:σ→Nat)
  (hc:∀s Z,I s→(∀s',I s'→μ s'<μ s→Ok (Z s') Q)→Ok (F Z s) Q):∀(n:Nat) (s:σ),I s→μ s<n→Ok (iter F n s) Q
 |0,s,_,h=>by omega
 |n+1,s,h,hm=>hc s _ h λs' h' hm'=>Ok.iter I μ hc n s' h' (by omega)
theorem Ok.whl{σ β:Type}{F:(σ→Option β)→σ→Option β}{Q:β→Prop}(I:σ→Prop)(μ:σ→Nat){s:σ}(h:I s)(hm:μ s<1099511627776)
  (hc:∀s Z,I s→(∀s',I s'→μ s'<μ s→Ok (Z s') Q)→Ok (F Z s) Q):Ok (whl F s) Q:=Ok.iter I μ hc fuel s h hm
theorem Ok.get(h:Ok o Q):∃r,o=some r∧Q r:=h
theorem Ok.eq{r:β}(h:Ok o (λx=>x=r)):o=some r:=by obtain⟨x,h1,rfl⟩:=h;exact h1
theorem xe(p:List α)(x:α)(r:List α):elO (p++x::r) (p.length:Int)=some x:=by
 unfold elO;rw[if_pos (by omega)];simp
variable {i:Int}{l:List α}
theorem jN(h0:0≤i)(h:i<l.length):Ok (elO l i) (λx=>x∈l∧l[i.toNat]?=some x):=by
 unfold elO;rw[if_pos h0]
 have:i.toNat<l.length:=by omega
 exact⟨l[i.toNat],List.getElem?_eq_getElem this,List.getElem_mem this,List.getElem?_eq_getElem this⟩
variable {r:List α}
theorem oO(h:l.length+r.length≤549755813888):iD l r=some (l++r):=by unfold iD;rw[if_pos (by unfold cap;exact h)]
theorem xg(h:l.length+r.length≤549755813888):Ok (iD l r) (λm=>m=l++r∧m.length=l.length+r.length):=⟨_,oO h,rfl,by simp⟩
theorem ue{x:α}(h0:0≤i)(h:i<l.length):Ok (jU l i x) (λm=>m=l.set i.toNat x∧m.length=l.length):=by
 unfold jU;rw[if_pos ⟨h0,h⟩];exact⟨_,rfl,rfl,by simp⟩
theorem zX{a b:Int}(h:0≤a∧a≤b∧b≤l.length):Ok (nM l a b) (λm=>m=(l.take b.toNat).drop a.toNat∧(m.length:Int)=b-a):=by
 unfold nM;rw[if_pos h];exact⟨_,rfl,rfl,by simp;omega⟩
theorem eY(p:α→Bool)(a:Option β)(hB:∀j x Z s,B j x Z s=bif p x then a else Z s)(l:List α)(j:Nat)(s:σ):bz l j B K s=bif l.any p then a else K s:=
 ud (f:=λl s=>bif l.any p then a else K s) (λs=>rfl) (λj x r s Z hZ=>by
  rw[hB,hZ,List.any_cons];cases p x<;>rfl) l j s
end
section
def rM(n:Int):Bool:=decide (1≤n)&&decide (n≤1000)
def hasB(t:af)(r:Int):Bool:=t.ay.any λx=>decide (x.ID=r)
def xh(r:aW):Bool:=decide (r.ID<1)||decide (99<r.ID)
def nQ(l:aU):Bool:=!rM l.ec||!rM l.eB||decide (l.eE<0)||decide (1000<l.eE)
def ltL(a b:aU):Bool:=decide (a.A<b.A)||(decide (a.A=b.A)&&decide (a.B<b.B))
def gy{α:Type}(p:α→α→Bool):List α→Bool
 |a::b::r=>p a b&&gy p (b::r)
 |_=>true
def kA(t:af):Bool:=t.ay.any xh
def kB(t:af):Bool:=gy (λa b=>decide (a.ID<b.ID)) t.ay
def kC(t:af):Bool:=t.Links.any nQ
def kD(t:af):Bool:=t.Links.any λl=>!hasB t l.A||!hasB t l.B
def kE(t:af):Bool:=t.Links.any λl=>decide (l.B≤l.A)
def kF(t:af):Bool:=gy ltL t.Links
def iL(t:af):Int:=
 bif decide (24<(t.ay.length:Int))||decide (60<(t.Links.length:Int))then 3
 else bif kA t then 2 else bif kB t then(bif kC t then 2 else bif kD t then 4 else bif kE t then 8 else bif kF t then 0 else 25)else 25
theorem yY{α σ β:Type}{B:Int→α→(σ→Option β)→σ→Option β}{K:σ→Option β}{L:List α}(p:α→α→Bool)(a:Option β)
  (hB:∀(j:Nat) x y r q s Z,L=q++y::x::r→j=q.length+1→B (j:Int) x Z s=bif p y x then Z s else a):∀(r q:List α) (y:α) (s:σ),L=q++y::r→bz r (q.length+1) B K s=bif gy p (y::r)then K s else a
 |[],q,y,s,h=>rfl
 |x::r,q,y,s,h=>by
  simp only[bz];rw[hB (q.length+1) x y r q s _ h rfl];have:=yY (B:=B) (K:=K) p a hB r (q++[y]) x s (by simpa using h);simp only[List.length_append,List.length_cons,List.length_nil]at this;rw[this];simp only[gy];cases p y x<;>rfl
variable {α β σ:Type}{L:List α}{B:Int→α→(σ→Option β)→σ→Option β}{K:σ→Option β}
theorem nv(p:α→α→Bool)(a:Option β)
  (hB:∀(j:Nat) x y r q s Z,L=q++y::x::r→j=q.length+1→B (j:Int) x Z s=bif p y x then Z s else a) (s:σ):bz (L.drop 1) 1 B K s=bif gy p L then K s else a:=by
 cases L with
 |nil=>rfl
 |cons y r=>exact yY (B:=B) (K:=K) p a hB r [] y s rfl
theorem abv(p:α→α→Bool)(a:Option β)(h0:∀x Z s,B ((0:Nat):Int) x Z s=Z s)
  (hB:∀(j:Nat) x y r q s Z,L=q++y::x::r→j=q.length+1→B (j:Int) x Z s=bif p y x then Z s else a) (s:σ):bz L 0 B K s=bif gy p L then K s else a:=by
 cases L with
 |nil=>rfl
 |cons y r=>
  simp only[bz];rw[h0];exact yY (B:=B) (K:=K) p a hB r [] y s rfl
variable {j:Nat}
theorem mj{y x:α}{r q:List α}(h:L=q++y::x::r)(hj:j=q.length+1)(hL:(L.length:Int)≤9223372036854775807):elO L (w64 ((j:Int)-1))=some y:=by
 have hl:q.length+2≤L.length:=by rw[h];simp
 rw[cM (by omega) (by omega),show(j:Int)-1=(q.length:Int)by omega,h,xe]
theorem ait(n:Int):ng n=some (rM n):=rfl
theorem adZ(t:af)(r:Int):kY t r=some (hasB t r):=by
 unfold kY;refine(eY (λx:aW=>decide (x.ID=r)) (some true) ?_ _ _ _).trans ?_
 ·intros;rfl
 ·unfold hasB;cases t.ay.any _<;>rfl
theorem ta(t:af):gX t=some (iL t):=by
 unfold gX iL;by_cases hlen:(decide (24<(t.ay.length:Int))||decide (60<(t.Links.length:Int)))=true
 ·rw[hlen];rfl
 rw[Bool.not_eq_true]at hlen;rw[hlen];simp only[cond_false];simp only[Bool.or_eq_false_iff,decide_eq_false_iff_not]at hlen;refine(eY xh (some 2) ?_ _ _ _).trans ?_
 ·intros;rfl
 unfold kA;cases t.ay.any xh
 case true=>rfl
 simp only[cond_false];refine(nv (λa b:aW=>decide (a.ID<b.ID)) (some 25) ?_ _).trans ?_
 ·intro j x y r q s Z h hj;simp only[mj h hj (by omega),aM,mH];split<;>split<;>first|rfl|omega
 unfold kB;cases gy _ t.ay
 case false=>rfl
 simp only[cond_true];refine(eY nQ (some 2) ?_ _ _ _).trans ?_
 ·intro j x Z s;simp only[jn,ait,aM,nQ];cases rM x.ec<;>cases rM x.eB<;>simp[mH]<;>(try split)<;>(try split)<;>simp_all<;>omega
 unfold kC;cases t.Links.any nQ
 case true=>rfl
 simp only[cond_false];refine(eY (λl=>!hasB t l.A||!hasB t l.B) (some 4) ?_ _ _ _).trans ?_
 ·intro j x Z s;simp only[jn,adZ,aM];cases hasB t x.A<;>cases hasB t x.B<;>rfl
 unfold kD;cases t.Links.any _
 case true=>rfl
 simp only[cond_false];refine(eY (λl=>decide (l.B≤l.A)) (some 8) ?_ _ _ _).trans ?_
 ·intros;rfl
 unfold kE;cases t.Links.any _
 case true=>rfl
 simp only[cond_false];refine(nv ltL (some 25) ?_ _).trans ?_
 ·intro j x y r q s Z h hj;have e:(decide (x.A<y.A)||(decide (y.A=x.A)&&decide (x.B≤y.B)))=!ltL y x:=by
   rw[Bool.eq_iff_iff];simp[ltL];omega
  simp only[mj h hj (by omega),aM];rw[e];cases ltL y x<;>rfl
 unfold kF;cases gy ltL t.Links<;>rfl
theorem vz{α σ:Type}{B:Int→α→(σ→Option Int)→σ→Option Int}{K:σ→Option Int}(p:α→Bool)(hB:∀j x Z s,B j x Z s=bif p x then some j else Z s)(hK:∀s,K s=some (-1)):∀(l:List α) (j:Nat) (s:σ),∃r,bz l j B K s=some r∧decide (0≤r)=l.any p
 |[],j,s=>⟨-1,hK s,rfl⟩
 |x::r,j,s=>by
  simp only[bz,hB,List.any_cons];cases p x
  ·simpa using vz p hB hK r (j+1) s
  ·exact⟨j,rfl,by simp⟩
theorem cfR(l:List aW)(f:aW→Option Bool)(p:aW→Bool)(hf:∀x,f x=some (p x)):cN l f=some (l.any p):=by
 unfold cN dW;obtain⟨r,h1,h2⟩:=vz (B:=λ(j1:Int) (e1:aW) (Z1:Unit→Option Int) (sg:Unit)=>match sg with|()=>bnd (f e1) λ(az:Bool)=>bif az then some (j1:Int)else Z1 ()) (K:=λ(sg:Unit)=>match sg with|()=>some (-1:Int)) p (λj x Z s=>by simp only[hf,aM]) (λ_=>rfl) l 0 ();simp only[h1,aM,h2]
theorem cfL(l:List aU)(f:aU→Option Bool)(p:aU→Bool)(hf:∀x,f x=some (p x)):cq l f=some (l.any p):=by
 unfold cq er;obtain⟨r,h1,h2⟩:=vz (B:=λ(j1:Int) (e1:aU) (Z1:Unit→Option Int) (sg:Unit)=>match sg with|()=>bnd (f e1) λ(az:Bool)=>bif az then some (j1:Int)else Z1 ()) (K:=λ(sg:Unit)=>match sg with|()=>some (-1:Int)) p (λj x Z s=>by simp only[hf,aM]) (λ_=>rfl) l 0 ();simp only[h1,aM,h2]
def eD(x y:Int):Int:=if x<y then -1 else if y<x then 1 else 0
theorem aaL(x y:Int):cv x y=some (eD x y):=by
 unfold cv fD eD;simp only[aM,decide_true,Bool.not_true,cond_false,mH];split<;>(try split)<;>rfl
variable {x:Int}
theorem xS{y:Int}:eD x y<0↔x<y:=by unfold eD;split<;>(try split)<;>omega
theorem jA{y:Int}:eD x y=0↔x=y:=by unfold eD;split<;>(try split)<;>omega
def orI:List Int→Int
 |[]=>0
 |x::r=>if x=0 then orI r else x
theorem agj(l:List Int):fm l=some (orI l):=by
 unfold fm;refine(ud (f:=λl _=>some (orI l)) ?_ ?_ _ _ _)
 ·intros;rfl
 ·intro j x r s Z hZ;simp only[orI,hZ];by_cases h:x=0<;>simp[h]
def jW(a b:aU):Int:=orI [eD a.A b.A,eD a.B b.B]
theorem yx(a b:aU):gA a b=some (jW a b):=by
 unfold gA;simp only[aaL,aM,agj];rfl
theorem ac5(r:aW)(id:Int):jb r id=some (eD r.ID id):=by
 unfold jb;simp only[aaL,aM]
variable {a b:aU}
theorem xT:jW a b<0↔ltL a b=true:=by
 have:jW a b<0↔a.A<b.A∨(a.A=b.A∧a.B<b.B):=by
  simp only[jW,orI];split
  ·rename_i h;rw[jA]at h;split
   ·rename_i h2;rw[jA]at h2;omega
   ·rw[xS];omega
  ·rename_i h;rw[jA]at h;rw[xS];omega
 rw[this];simp[ltL]
theorem xU:jW a b=0↔a.A=b.A∧a.B=b.B:=by
 simp only[jW,orI];split
 ·rename_i h;rw[jA]at h;split
  ·rename_i h2;rw[jA]at h2;omega
  ·rename_i h2;rw[jA]at h2 ⊢;omega
 ·rename_i h;rw[jA]at h ⊢;omega
def bsG{α:Type}[Inhabited α](f:α→Int)(l:List α)(i j:Nat):Nat:=
 if h:i<j then if f (el l ((i+j) / 2:Nat))<0 then bsG f l ((i+j) / 2+1) j else bsG f l i ((i+j) / 2)else i
 termination_by j-i
 decreasing_by all_goals omega
def bsR{α:Type}[Inhabited α](f:α→Int)(l:List α):Nat:=bsG f l 0 l.length
def bsT{α:Type}[Inhabited α](f:α→Int)(l:List α):Bool:=decide (bsR f l<l.length)&&decide (f (el l (bsR f l))=0)
variable {f:α→Int}{i:Nat}{l:List α}
theorem agk[Inhabited α](h:i<j)(hf:f (el l ((i+j) / 2:Nat))<0):bsG f l i j=bsG f l ((i+j) / 2+1) j:=by
 rw[bsG,dif_pos h,if_pos hf]
theorem agl[Inhabited α](h:i<j)(hf:¬f (el l ((i+j) / 2:Nat))<0):bsG f l i j=bsG f l i ((i+j) / 2):=by
 rw[bsG,dif_pos h,if_neg hf]
theorem aaM[Inhabited α](h:j≤i):bsG f l i j=i:=by
 rw[bsG,dif_neg (by omega)]
theorem xk[Inhabited α](h:i<l.length):el l i=l[i]:=by
 simp[el,List.getD_eq_getElem?_getD,h]
theorem agm[Inhabited α](h:i<l.length):el l i∈l:=by
 rw[xk h];exact List.getElem_mem h
theorem qJ[Inhabited α](h:i<l.length):elO l (i:Int)=some (el l i):=by
 unfold elO;rw[if_pos (by omega),xk h];simp[h]
theorem aaN(h:i+j≤4611686018427387904):w64 (Int.fdiv (IntKind.wrap .u64 (w64 ((i:Int)+(j:Int)))) (2 ^ min (1:Int).toNat 64))=(((i+j) / 2:Nat):Int):=by
 have e1:w64 ((i:Int)+(j:Int))=((i+j:Nat):Int):=by rw[cM (by omega) (by omega)];simp
 have e2:IntKind.wrap .u64 ((i+j:Nat):Int)=((i+j:Nat):Int):=akc (by omega) (by omega);rw[e1,e2];have e3:(2:Int) ^ min (1:Int).toNat 64=2:=rfl;rw[e3,Int.fdiv_eq_ediv_of_nonneg _ (by omega)];rw[cM (by omega) (by omega)];simp
theorem aaO[Inhabited α]{F:((Int×Int)→Option (Int×Bool))→(Int×Int)→Option (Int×Bool)}(l:List α)(f:α→Int)(hl:l.length≤1000000)
  (hF:∀(i j:Nat) Z,j≤l.length→F Z ((i:Int),(j:Int))=if h:i<j then(if f (el l ((i+j) / 2:Nat))<0 then Z ((((i+j) / 2+1:Nat):Int),(j:Int))else Z ((i:Int),(((i+j) / 2:Nat):Int)))else some ((i:Int),decide (i<l.length)&&decide (f (el l i)=0))) :
  whl F ((0:Int),(l.length:Int))=some ((bsR f l:Int),bsT f l):=by
 refine Ok.eq (Ok.whl (I:=λs=>∃i j:Nat,s=((i:Int),(j:Int))∧i≤j∧j≤l.length∧bsG f l i j=bsR f l) (μ:=λs=>(s.2-s.1).toNat) ⟨0,l.length,rfl,by omega,by omega,rfl⟩ ?_ ?_)
 ·show((l.length:Int)-0).toNat<_;omega
 ·rintro s Z ⟨i,j,rfl,h1,h2,h3⟩ hz;rw[hF i j Z h2];split
  ·rename_i hij;split
   ·rename_i hf;exact hz _ ⟨_,_,rfl,by omega,h2,by rw[←h3,agk hij hf]⟩ (by show((j:Int)-_).toNat<((j:Int)-i).toNat;omega)
   ·rename_i hf;exact hz _ ⟨_,_,rfl,by omega,by omega,by rw[←h3,agl hij hf]⟩ (by show((((i+j) / 2:Nat):Int)-i).toNat<((j:Int)-i).toNat;omega)
  ·rename_i hij;have:bsR f l=i:=by rw[←h3,aaM (by omega)]
   exact⟨_,rfl,by simp only[bsT,this]⟩
theorem apF(l:List aW)(x:Int)(c:aW→Int→Option Int)(f:aW→Int)(hl:l.length≤1000000)(hc:∀r,c r x=some (f r)):bV l x c=some ((bsR f l:Int),bsT f l):=by
 unfold bV;refine aaO l f hl λi j Z hj=>?_;by_cases hij:i<j
 ·rw[dif_pos hij];simp only[aaN (i:=i) (j:=j) (by omega),qJ (show(i+j) / 2<l.length by omega),aM,hc,mH];rw[if_pos (by omega),cM (by omega) (by omega)];rfl
 ·rw[dif_neg hij];simp only[mH];rw[if_neg (by omega)];by_cases hi:i<l.length
  ·rw[if_pos (by omega),qJ hi];simp only[aM,hc];simp[hi]
  ·rw[if_neg (by omega)];simp[hi]
theorem bsLk(l:List aU)(x:aU)(c:aU→aU→Option Int)(f:aU→Int)(hl:l.length≤1000000)(hc:∀r,c r x=some (f r)):cr l x c=some ((bsR f l:Int),bsT f l):=by
 unfold cr;refine aaO l f hl λi j Z hj=>?_;by_cases hij:i<j
 ·rw[dif_pos hij];simp only[aaN (i:=i) (j:=j) (by omega),qJ (show(i+j) / 2<l.length by omega),aM,hc,mH];rw[if_pos (by omega),cM (by omega) (by omega)];rfl
 ·rw[dif_neg hij];simp only[mH];rw[if_neg (by omega)];by_cases hi:i<l.length
  ·rw[if_pos (by omega),qJ hi];simp only[aM,hc];simp[hi]
  ·rw[if_neg (by omega)];simp[hi]
theorem aiu[Inhabited α](hm:∀a b:Nat,a≤b→b<l.length→f (el l a)≤f (el l b)):∀(n i j:Nat),j-i≤n→i≤j→j≤l.length→(∀m:Nat,m<i→f (el l m)<0)→(∀m:Nat,j≤m→m<l.length→0≤f (el l m))→
  bsG f l i j≤l.length∧(∀m:Nat,m<bsG f l i j→f (el l m)<0)∧(∀m:Nat,bsG f l i j≤m→m<l.length→0≤f (el l m)):=by
 intro n;induction n with
 |zero=>
  intro i j hn hij hj h1 h2;rw[aaM (by omega)];exact⟨by omega,h1,λm hm'=>h2 m (by omega)⟩
 |succ n ih=>
  intro i j hn hij hj h1 h2;by_cases h:i<j
  ·by_cases hf:f (el l ((i+j) / 2:Nat))<0
   ·rw[agk h hf];refine ih _ _ (by omega) (by omega) hj (λm hm'=>?_) h2;have:=hm m ((i+j) / 2) (by omega) (by omega);omega
   ·rw[agl h hf];refine ih _ _ (by omega) (by omega) (by omega) h1 (λm hm' hml=>?_);have:=hm ((i+j) / 2) m hm' hml;omega
  ·rw[aaM (by omega)];exact⟨by omega,h1,λm hm'=>h2 m (by omega)⟩
theorem aiv[Inhabited α](hm:∀a b:Nat,a≤b→b<l.length→f (el l a)≤f (el l b)):
  bsR f l≤l.length∧(∀m:Nat,m<bsR f l→f (el l m)<0)∧(∀m:Nat,bsR f l≤m→m<l.length→0≤f (el l m)):=
 aiu hm l.length 0 l.length (by omega) (by omega) (by omega) (λm h=>by omega) (λm h1 h2=>by omega)
theorem aaP[Inhabited α](hm:∀a b:Nat,a≤b→b<l.length→f (el l a)≤f (el l b)):bsT f l=true↔∃x∈l,f x=0:=by
 obtain⟨h1,h2,h3⟩:=aiv hm;simp only[bsT,Bool.and_eq_true,decide_eq_true_eq];constructor
 ·rintro⟨q1,q2⟩;exact⟨_,agm q1,q2⟩
 ·rintro⟨x,hx,hf⟩;obtain⟨m,hm1,rfl⟩:=List.getElem_of_mem hx;rw[←xk hm1]at hf;have hle:bsR f l≤m:=by
   by_cases q:m<bsR f l
   ·have:=h2 m q;omega
   ·omega
  have hlt:bsR f l<l.length:=by omega
  have:=h3 _ (Nat.le_refl _) hlt;have:=hm _ _ hle hm1;exact⟨hlt,by omega⟩
theorem oA[Inhabited α](h:l.Pairwise (λa b=>f a≤f b)):∀a b:Nat,a≤b→b<l.length→f (el l a)≤f (el l b):=by
 intro a b hab hb;rcases Nat.lt_or_eq_of_le hab with hab|rfl
 ·have:=List.pairwise_iff_getElem.1 h a b (by omega) hb hab
  rwa [xk (by omega),xk hb]
 ·exact Int.le_refl _
theorem pP{α:Type}{p:α→α→Bool}(ht:∀a b c,p a b=true→p b c=true→p a c=true):∀{l:List α},gy p l=true→l.Pairwise (λa b=>p a b=true)
 |[],_=>List.Pairwise.nil
 |[x],_=>by simp
 |a::b::r,h=>by
  simp only[gy,Bool.and_eq_true]at h;have ih:=pP ht h.2;rw[List.pairwise_cons];refine⟨λz hz=>?_,ih⟩;rcases List.mem_cons.1 hz with rfl|hz
  ·exact h.1
  ·exact ht _ _ _ h.1 ((List.pairwise_cons.1 ih).1 z hz)
theorem jO{α:Type}{p:α→α→Bool}:∀{l:List α},l.Pairwise (λa b=>p a b=true)→gy p l=true
 |[],_=>rfl
 |[x],_=>rfl
 |a::b::r,h=>by
  rw[List.pairwise_cons]at h;simp only[gy,Bool.and_eq_true];exact⟨h.1 b (by simp),jO h.2⟩
variable {t:af}
theorem agn(h:kB t=true):t.ay.Pairwise (λa b=>a.ID<b.ID):=by
 have:=pP (p:=λa b:aW=>decide (a.ID<b.ID)) (λa b c h1 h2=>by simp at h1 h2 ⊢;omega) h;exact this.imp (λh=>by simpa using h)
theorem alO(h:kB t=true)(id:Int):∀a b:Nat,a≤b→b<t.ay.length→eD (el t.ay a).ID id≤eD (el t.ay b).ID id:=
 oA (f:=λr:aW=>eD r.ID id) ((agn h).imp (λ{a b} h=>by unfold eD;split<;>(try split)<;>(try split)<;>(try split)<;>omega))
def aiw(t:af)(id:Int):Bool:=!bsT (λr=>eD r.ID id) t.ay
theorem ad0(h:kB t=true)(id:Int):aiw t id=!hasB t id:=by
 simp only[aiw,hasB];congr 1;rw[Bool.eq_iff_iff,aaP (alO h id)];simp[jA]
theorem xm(t:af):gu t=some (iL t):=by
 unfold gu iL;by_cases hlen:(decide (24<(t.ay.length:Int))||decide (60<(t.Links.length:Int)))=true
 ·rw[hlen];rfl
 rw[Bool.not_eq_true]at hlen;rw[hlen];simp only[cond_false];simp only[Bool.or_eq_false_iff,decide_eq_false_iff_not]at hlen;rw[cfR t.ay _ xh (λx=>by simp only[kG,gY,aM,xh];congr 1;rw[Bool.eq_iff_iff];simp)];simp only[aM];unfold kA;cases t.ay.any xh
 case true=>rfl
 simp only[cond_false];refine(abv (λa b:aW=>decide (a.ID<b.ID)) (some 25) ?_ ?_ _).trans ?_
 ·intros;rfl
 ·intro j x y r q s Z h hj;simp only[jn,mj h hj (by omega),aM,mH];rw[if_pos (by omega)];split<;>split<;>first|rfl|omega
 cases hB:kB t
 case false=>unfold kB at hB;rw[hB];rfl
 have hB':=hB;unfold kB at hB';rw[hB'];simp only[cond_true]
 rw[cfL t.Links iV nQ (λx=>by
  simp only[iV,gY,aM,nQ,rM];simp only[mH,Bool.not_and,Bool.cond_eq_ite,Bool.or_eq_true,Bool.not_eq_true',decide_eq_false_iff_not];split
  ·congr 1;symm;rw[Bool.eq_iff_iff];simp;omega
  ·split
   ·congr 1;symm;rw[Bool.eq_iff_iff];simp;omega
   ·congr 1;rw[Bool.eq_iff_iff];simp;omega)]
 simp only[aM];unfold kC;cases t.Links.any nQ
 case true=>rfl
 simp only[cond_false]
 have hu:∀id,gB id t=some (!hasB t id):=λid=>by
  unfold gB;rw[apF t.ay id _ (λr=>eD r.ID id) (by omega) (λr=>ac5 r id)];simp only[aM];rw[←ad0 hB];rfl
 rw[cfL t.Links _ (λl=>!hasB t l.A||!hasB t l.B) (λx=>by
  simp only[kH,hu,aM];cases hasB t x.A<;>rfl)]
 simp only[aM];unfold kD;cases t.Links.any _
 case true=>rfl
 simp only[cond_false];rw[cfL t.Links kI (λl=>decide (l.B≤l.A)) (λx=>rfl)];simp only[aM];unfold kE;cases t.Links.any _
 case true=>rfl
 simp only[cond_false];refine(abv ltL (some 25) ?_ ?_ _).trans ?_
 ·intros;rfl
 ·intro j x y r q s Z h hj;simp only[jn,mj h hj (by omega),aM,yx,mH];rw[if_pos (by omega)];cases hlt:ltL y x
  ·have:¬jW y x<0:=by rw[xT,hlt];simp
   rw[if_pos (by omega)];rfl
  ·have:=xT.2 hlt;rw[if_neg (by omega)];rfl
 unfold kF;cases gy ltL t.Links<;>rfl
end
section
variable {α:Type}
theorem alP[DecidableEq α]{l:List α}{v:α}:l.any (λx=>decide (x=v))=decide (v∈l):=by
 rw[Bool.eq_iff_iff];simp
theorem alQ(l:List Int)(n:Int):fq l n=some (decide (n∈l)):=by
 unfold fq ig;obtain⟨r,h1,h2⟩:=vz (B:=λ(j1:Int) (e1:Int) (Z1:Unit→Option Int) (sg:Unit)=>match sg with|()=>bif decide (n=e1)then some (j1:Int)else Z1 ()) (K:=λ(sg:Unit)=>match sg with|()=>some (-1:Int)) (λx=>decide (n=x)) (λj x Z s=>rfl) (λ_=>rfl) l 0 ();simp only[h1,aM,h2];congr 1;rw[Bool.eq_iff_iff];simp
theorem fE(a b:aC):bt a b=true↔a=b:=by
 cases a;cases b;simp[bt]
theorem xo{α γ β:Type}{B:Int→α→(List γ→Option β)→List γ→Option β}{K:List γ→Option β}(p:α→Bool)(f:α→γ):
  ∀(l:List α) (j:Nat) (s:List γ),(∀(j:Nat) x Z s,x∈l→s.length<1000000→B j x Z s=bif p x then Z (s++[f x])else Z s)→l.length+s.length≤1000000→bz l j B K s=K (s++(l.filter p).map f)
 |[],j,s,_,_=>by simp[bz]
 |x::r,j,s,hB,h=>by
  simp only[List.length_cons]at h;simp only[bz];rw[hB j x _ s (by simp) (by omega)];have hB':∀(j:Nat) y Z s,y∈r→s.length<1000000→B j y Z s=bif p y then Z (s++[f y])else Z s:=λj y Z s hy=>hB j y Z s (by simp[hy])
  cases hp:p x
  ·rw[cond_false,xo p f r (j+1) s hB' (by omega),List.filter_cons_of_neg (by simp[hp])]
  ·rw[cond_true,xo p f r (j+1) (s++[f x]) hB' (by simp;omega),List.filter_cons_of_pos hp];simp
theorem app1{s:List α}{x:α}(h:s.length<1000000):iD s [x]=some (s++[x]):=oO (by simp;omega)
theorem abw{a b:List Int}(ha:a.Pairwise (·<·))(hb:b.Pairwise (·<·))(h:∀x,x∈a↔x∈b):a=b:=by
 induction a generalizing b with
 |nil=>
  cases b with
  |nil=>rfl
  |cons y b=>exact absurd ((h y).2 (by simp)) (by simp)
 |cons x a ih=>
  cases b with
  |nil=>exact absurd ((h x).1 (by simp)) (by simp)
  |cons y b=>
   rw[List.pairwise_cons]at ha hb;have hxy:x=y:=by
    have h1:=(h x).1 (by simp);have h2:=(h y).2 (by simp);rw[List.mem_cons]at h1 h2;rcases h1 with h1|h1
    ·exact h1
    ·rcases h2 with h2|h2
     ·exact h2.symm
     ·have:=hb.1 _ h1;have:=ha.1 _ h2;omega
   subst hxy;congr 1;refine ih ha.2 hb.2 λz=>?_;have:=h z;simp only[List.mem_cons]at this;constructor
   ·intro hz;rcases this.1 (.inr hz)with q|q
    ·subst q;have:=ha.1 _ hz;omega
    ·exact q
   ·intro hz;rcases this.2 (.inr hz)with q|q
    ·subst q;have:=hb.1 _ hz;omega
    ·exact q
variable {l:List Int}
theorem ac6(h:l.Nodup):(gL l).Pairwise (·<·):=by
 have h1:=sy l;have h2:(gL l).Nodup:=(o4 l).nodup_iff.2 h;have:=h1.and h2;exact this.imp (λ⟨a,b⟩=>by omega)
theorem xq{x:Int}:x∈gL l↔x∈l:=(o4 l).mem_iff
structure Vt(t:af):Prop where
 nr:t.ay.length≤24
 nl:t.Links.length≤60
 idr:∀r∈t.ay,1≤r.ID∧r.ID≤99
 asc:t.ay.Pairwise (λa b=>a.ID<b.ID)
 okl:∀l∈t.Links,nQ l=false
 ends:∀l∈t.Links,hasB t l.A=true∧hasB t l.B=true
 lt:∀l∈t.Links,l.A<l.B
 ac7:t.Links.Pairwise (λa b=>ltL a b=true)
theorem ago(a b c:aU)(h1:ltL a b=true)(h2:ltL b c=true):ltL a c=true:=by
 simp[ltL]at *;omega
theorem any_false{l:List α}{p:α→Bool}:l.any p=false↔∀x∈l,p x=false:=by
 rw[List.any_eq_false];simp
variable {t:af}
theorem nw:iL t=0↔Vt t:=by
 unfold iL;constructor
 ·intro h;by_cases h1:(decide (24<(t.ay.length:Int))||decide (60<(t.Links.length:Int)))=true
  ·rw[h1]at h;cases h
  simp only[Bool.not_eq_true]at h1;rw[h1,cond_false]at h;cases h2:kA t<;>rw[h2]at h<;>first|cases h;done|skip
  cases h3:kB t<;>rw[h3]at h<;>first|cases h;done|skip
  cases h4:kC t<;>rw[h4]at h<;>first|cases h;done|skip
  cases h5:kD t<;>rw[h5]at h<;>first|cases h;done|skip
  cases h6:kE t<;>rw[h6]at h<;>first|cases h;done|skip
  cases h7:kF t<;>rw[h7]at h<;>first|cases h;done|skip
  simp only[Bool.or_eq_false_iff,decide_eq_false_iff_not]at h1;refine⟨by omega,by omega,λr hr=>?_,agn h3,any_false.1 h4,λl hl=>?_,λl hl=>?_,pP ago h7⟩
  ·have:=any_false.1 h2 r hr;simp[xh]at this;omega
  ·have:=any_false.1 h5 l hl;simpa using this
  ·have:=any_false.1 h6 l hl;simpa using this
 ·intro h;have h1:(decide (24<(t.ay.length:Int))||decide (60<(t.Links.length:Int)))=false:=by
   have:=h.nr;have:=h.nl;simp;omega
  have h2:kA t=false:=any_false.2 λr hr=>by have:=h.idr r hr;simp[xh];omega
  have h3:kB t=true:=jO (h.asc.imp λh=>by simpa using h);have h4:kC t=false:=any_false.2 h.okl;have h5:kD t=false:=any_false.2 λl hl=>by have:=h.ends l hl;simp[this]
  have h6:kE t=false:=any_false.2 λl hl=>by have:=h.lt l hl;simp;omega
  have h7:kF t=true:=jO h.ac7;rw[h1,h2,h3,h4,h5,h6,h7];rfl
theorem abx(t:af):iG t=some (decide (iL t=0)):=by
 unfold iG;rw[xm];rfl
variable {r:Int}
theorem sK:hasB t r=true↔∃x∈t.ay,x.ID=r:=by simp[hasB]
theorem uf(t:af)(r:Int):gn t r=some (decide (iL t=0)&&hasB t r):=by
 unfold gn;simp only[ta,adZ,aM];cases decide (iL t=0)<;>rfl
def afg(t:af)(r:Int):aW×Bool:=if bsT (λx:aW=>eD x.ID r) t.ay then(el t.ay (bsR (λx:aW=>eD x.ID r) t.ay),true)else(aW.mk 0 false,false)
theorem aix(t:af)(r:Int)(hl:t.ay.length≤1000000):kJ t r=some (afg t r):=by
 unfold kJ afg;rw[apF t.ay r _ (λx=>eD x.ID r) hl (λx=>ac5 x r)];simp only[aM];cases h:bsT (λx:aW=>eD x.ID r) t.ay
 ·rfl
 ·have h2:bsR (λx:aW=>eD x.ID r) t.ay<t.ay.length:=by
   simp only[bsT,Bool.and_eq_true,decide_eq_true_eq]at h;exact h.1
  simp only[Bool.not_true,cond_false,qJ h2,aM,if_true]
theorem alR(h:Vt t)(r:Int):bsT (λx:aW=>eD x.ID r) t.ay=hasB t r:=by
 have:=ad0 (t:=t) (jO (h.asc.imp λh=>by simpa using h)) r;simpa [aiw]using this
theorem ad1(t:af)(r:Int)(hl:t.ay.length≤1000000):jx t r=some (decide (iL t=0)&&hasB t r):=by
 unfold jx;simp only[aix t r hl,abx,aM];by_cases h:iL t=0
 ·simp only[h,decide_true,cond_true,Bool.true_and,afg,alR (nw.1 h)];cases hasB t r<;>rfl
 ·simp[h]
theorem agp{σ β:Type}{B:Int→α→(σ→Option β)→σ→Option β}{K:σ→Option β}(p:α→Bool)(g:α→Option β)(hB:∀j x Z s,B j x Z s=bif p x then g x else Z s)(l:List α)(j:Nat)(s:σ):
  bz l j B K s=match l.find? p with|some x=>g x|none=>K s:=
 ud (f:=λl s=>match l.find? p with|some x=>g x|none=>K s) (λs=>rfl) (λj x r s Z hZ=>by
  rw[hB,hZ,List.find?_cons];cases p x<;>rfl) l j s
theorem apG(h:Vt t){a b:aU}(ha:a∈t.Links)(hb:b∈t.Links)(hA:a.A=b.A)(hB:a.B=b.B):a=b:=by
 obtain⟨i,hi,rfl⟩:=List.getElem_of_mem ha;obtain⟨j,hj,rfl⟩:=List.getElem_of_mem hb;have:=List.pairwise_iff_getElem.1 h.ac7;rcases Nat.lt_trichotomy i j with q|q|q
 ·have:=this i j hi hj q;simp[ltL]at this;omega
 ·subst q;rfl
 ·have:=this j i hj hi q;simp[ltL]at this;omega
def fK(l:aU)(a b:Int):Bool:=(decide (l.A=a)&&decide (l.B=b))||(decide (l.B=a)&&decide (l.A=b))
def j9(a b:Int)(l:aU):Int×Bool:=(bif decide (l.A=a)&&decide (l.B=b)then l.ec else l.eB,true)
def fU(t:af)(a b:Int):Int×Bool:=match t.Links.find? (λl=>fK l a b)with|some l=>j9 a b l|none=>(0,false)
def vC(t:af)(a b:Int):Bool:=t.Links.any λl=>fK l a b
theorem agq(t:af)(a b:Int):mA t a b=some (fU t a b):=by
 unfold mA fU;refine(agp (λl:aU=>fK l a b) (λl=>some (j9 a b l)) (λj x Z s=>?_) _ _ _).trans ?_
 ·unfold fK j9;cases decide (x.A=a)&&decide (x.B=b)<;>cases decide (x.B=a)&&decide (x.A=b)<;>rfl
 ·cases t.Links.find? _<;>rfl
theorem ac8(t:af)(a b:Int):lK t a b=some (if iL t=0 then fU t a b else(0,false)):=by
 unfold lK;simp only[ta,agq,aM];by_cases h:iL t=0<;>simp[h]
variable {a b:Int}
theorem ny(h:Vt t){l:aU}(hm:l∈t.Links)(he:fK l a b=true):fU t a b=j9 a b l:=by
 unfold fU;cases hf:t.Links.find? (λl=>fK l a b)with
 |none=>exact absurd he (List.find?_eq_none.1 hf l hm)
 |some x=>
  have hx:=List.mem_of_find?_eq_some hf;have hp:=List.find?_some hf;have h1:=h.lt _ hm;have h2:=h.lt _ hx;simp[fK]at he hp;rw[apG h hx hm (by omega) (by omega)]
theorem alS(h:Vt t)(v:aU):∀a b:Nat,a≤b→b<t.Links.length→jW (el t.Links a) v≤jW (el t.Links b) v:=by
 refine oA (f:=λl:aU=>jW l v) (h.ac7.imp λ{a b} hab=>?_)
 have c3:∀x y:Int,eD x y = -1∨eD x y=0∨eD x y=1:=λx y=>by
  unfold eD;split
  ·exact .inl rfl
  ·split
   ·exact .inr (.inr rfl)
   ·exact .inr (.inl rfl)
 have:∀x y:aU,jW x y = -1∨jW x y=0∨jW x y=1:=λx y=>by
  have q1:=c3 x.A y.A;have q2:=c3 x.B y.B;simp only[jW,orI];generalize eD x.A y.A=p at *;generalize eD x.B y.B=q at *;by_cases h1:p=0
  ·by_cases h2:q=0<;>simp[h1,h2];omega
  ·simp[h1];omega
 have h1:=@xT a v;have h2:=@xT b v;have h3:=@xU a v;have h4:=@xU b v;have q1:=this a v;have q2:=this b v;simp[ltL]at hab h1 h2;omega
theorem aiy(t:af)(a b:Int)(hl:t.Links.length≤1000000):kK t a b=some (if iL t=0 then fU t a b else(0,false)):=by
 unfold kK;simp only[abx,aM];by_cases h:iL t=0
 ·have hv:=nw.1 h;simp only[h,decide_true,Bool.not_true,cond_false,if_true];generalize hv2:aU.mk (if b<a then b else a) (if b>a then b else a) 0 0 0=v;rw[bsLk t.Links v _ (λx=>jW x v) hl (λx=>yx x v)];simp only[aM];have hA:v.A=if b<a then b else a:=by rw[←hv2]
  have hB:v.B=if b>a then b else a:=by rw[←hv2]
  cases hT:bsT (λx:aU=>jW x v) t.Links
  ·simp only[Bool.not_false,cond_true];congr 1;unfold fU;cases hf:t.Links.find? (λl=>fK l a b)with
   |none=>rfl
   |some x=>
    exfalso;have hx:=List.mem_of_find?_eq_some hf;have hp:=List.find?_some hf;have h2:=h
    have:=(aaP (f:=λx:aU=>jW x v) (alS hv v)).2 ⟨x,hx,by
     rw[xU,hA,hB];have:=hv.lt _ hx;simp[fK]at hp;split<;>split<;>omega⟩
    rw[hT]at this;cases this
  ·simp only[bsT,Bool.and_eq_true,decide_eq_true_eq]at hT;obtain⟨q1,q2⟩:=hT;rw[xU,hA,hB]at q2;have hm:=agm q1;simp only[Bool.not_true,cond_false,qJ q1,aM];have hlt:=hv.lt _ hm
   have e:fK (el t.Links (bsR (λx:aU=>jW x v) t.Links)) a b=true:=by
    simp[fK];by_cases q3:b<a<;>by_cases q4:b>a<;>simp only[q3,q4,if_true,if_false]at q2<;>omega
   rw[ny hv hm e];unfold j9;by_cases hab:a<b
   ·have:decide (a<b)=true:=by simpa using hab
    rw[this,cond_true]
    have:(decide ((el t.Links (bsR (λx:aU=>jW x v) t.Links)).A=a)&&decide ((el t.Links (bsR (λx:aU=>jW x v) t.Links)).B=b))=true:=by
     simp;by_cases q3:b<a<;>by_cases q4:b>a<;>simp only[q3,q4,if_true,if_false]at q2<;>omega
    rw[this];rfl
   ·have:decide (a<b)=false:=by simpa using hab
    rw[this,cond_false]
    have:(decide ((el t.Links (bsR (λx:aU=>jW x v) t.Links)).A=a)&&decide ((el t.Links (bsR (λx:aU=>jW x v) t.Links)).B=b))=false:=by
     simp;by_cases q3:b<a<;>by_cases q4:b>a<;>simp only[q3,q4,if_true,if_false]at q2<;>omega
    rw[this];rfl
 ·simp[h]
def ids(t:af):List Int:=t.ay.map (·.ID)
theorem apH(h:Vt t):(ids t).Pairwise (·<·):=List.pairwise_map.2 h.asc
theorem iM:r∈ids t↔hasB t r=true:=by rw[sK];simp[ids]
theorem ql:vC t a b=true↔∃l∈t.Links,(l.A=a∧l.B=b)∨(l.B=a∧l.A=b):=by
 simp[vC,fK]
theorem ac9(h:vC t a b=true):vC t b a=true:=by
 rw[ql]at h ⊢;obtain⟨l,hl,h⟩:=h;exact⟨l,hl,by omega⟩
theorem aaQ(hv:Vt t)(h:vC t a b=true):b∈ids t:=by
 rw[ql]at h;obtain⟨l,hl,h⟩:=h;have:=hv.ends l hl;rcases h with⟨h1,h2⟩|⟨h1,h2⟩<;>rw[iM,←h2]
 ·exact this.2
 ·exact this.1
end
section
theorem Ok.qm{α σ β:Type}{B:Int→α→(σ→Option β)→σ→Option β}{K:σ→Option β}{Q:β→Prop}(I:List α→σ→Prop){L:List α}
  (hc:∀(p:List α) x r s Z,L=p++x::r→I p s→(∀s',I (p++[x]) s'→Ok (Z s') Q)→Ok (B (p.length:Int) x Z s) Q) (s:σ) (h:I [] s) (hn:∀s,I L s→Ok (K s) Q):Ok (Go.Proofs.YtmnbolcmepihlaaGreat.bz L 0 B K s) Q:=by
 have key:∀(l p:List α) (s:σ),L=p++l→I p s→Ok (Go.Proofs.YtmnbolcmepihlaaGreat.bz l p.length B K s) Q:=by
  intro l;induction l with
  |nil=>intro p s hj h;exact hn s (by rw[hj,List.append_nil];exact h)
  |cons x r ih=>
   intro p s hj h;refine hc p x r s _ hj h λs' h'=>?_;have:=ih (p++[x]) s' (by simp[hj]) h'
   rwa [List.length_append]at this
 exact key L [] s rfl h
inductive Cn(t:af)(c:List Int):Int→Int→Prop
 |refl {a:Int} (h:a∉c):Cn t c a a
 |step {a b d:Int} (h:Cn t c a b) (ha:vC t b d=true) (hd:d∉c):Cn t c a d
variable {a b:Int}{c:List Int}{t:af}
theorem Cn.trans{d:Int}(h1:Cn t c a b)(h2:Cn t c b d):Cn t c a d:=by
 induction h2 with
 |refl _=>exact h1
 |step _ ha hd ih=>exact .step ih ha hd
theorem Cn.left(h:Cn t c a b):a∉c:=by
 induction h with
 |refl h=>exact h
 |step _ _ _ ih=>exact ih
theorem Cn.right(h:Cn t c a b):b∉c:=by
 cases h with
 |refl h=>exact h
 |step _ _ hd=>exact hd
theorem Cn.symm(h:Cn t c a b):Cn t c b a:=by
 induction h with
 |refl h=>exact .refl h
 |step h ha hd ih=>exact(Cn.step (.refl hd) (ac9 ha) h.right).trans ih
theorem Cn.ids{t:af}(hv:Vt t){c:List Int}{a b:Int}(h:Cn t c a b)(ha:a∈ids t):b∈ids t:=by
 cases h with
 |refl h=>exact ha
 |step _ hd _=>exact aaQ hv hd
end
section
theorem ada{α:Type}(l:List (Int×α))(n m:Int)(b:α):aT (bG l n b) m=if m=n then some b else aT l m:=by
 induction l with
 |nil=>
  simp only[bG,aT,List.find?];by_cases h:n=m
  ·simp[h]
  ·simp[h,Ne.symm h]
 |cons p r ih=>
  simp only[bG];by_cases h1:p.1=n
  ·rw[if_pos h1];simp only[aT,List.find?]at ih ⊢;by_cases h2:n=m
   ·simp[h2]
   ·have:p.1≠m:=by omega
    simp[h2,this,Ne.symm h2]
  ·rw[if_neg h1];simp only[aT,List.find?]at ih ⊢;by_cases h2:p.1=m
   ·have:m≠n:=by omega
    simp[h2,this]
   ·simp[h2];exact ih
end
end Go.Proofs.YtmnbolcmepihlaaGreat
