/- Several texts in one. No condition but those that stand in each. -/
import Derived.Test.YtmnbolcmepihlaaGreatDA
namespace Go.Proofs.YtmnbolcmepihlaaGreat
set_option linter.all false
open Go
section
variable {α β:Type}
theorem aI(a:α)(k:α→Option β):bnd (some a) k=k a:=rfl
theorem mQ{p:Prop}[Decidable p]{x y:α}:(bif decide p then x else y)=if p then x else y:=by
 by_cases h:p<;>simp[h]
theorem uy{α σ β:Type}{B:Int→α→(σ→Option β)→σ→Option β}{K:σ→Option β}(f:List α→σ→Option β)(hn:∀s,K s=f [] s)
  (hc:∀(j:Int) x r s Z,(∀s',Z s'=f r s')→B j x Z s=f (x::r) s):∀(l:List α) (j:Nat) (s:σ),bJ l j B K s=f l s
 |[],_,s=>hn s
 |x::r,j,s=>hc j x r s _ λs'=>uy f hn hc r (j+1) s'
theorem ac7{α σ β:Type}{B:Int→α→(σ→Option β)→σ→Option β}{K:σ→Option β}{L:List α}(f:List α→List α→σ→Option β)(hn:∀s,K s=f L [] s)
  (hc:∀p x r s Z,p++x::r=L→(∀s',Z s'=f (p++[x]) r s')→B (p.length:Int) x Z s=f p (x::r) s):∀(l p:List α) (s:σ),p++l=L→bJ l p.length B K s=f p l s
 |[],p,s,h=>by rw[List.append_nil]at h;subst h;exact hn s
 |x::r,p,s,h=>hc p x r s _ h λs'=>by
   have:=ac7 (B:=B) (K:=K) f hn hc r (p++[x]) s' (by simpa using h);rw[List.length_append]at this;exact this
def Ok{β:Type}(o:Option β)(Q:β→Prop):Prop:=∃r,o=some r∧Q r
variable {Q:β→Prop}
theorem Ok.s{r:β}(h:Q r):Ok (some r) Q:=⟨r,rfl,h⟩
theorem Ok.bnd{α β:Type}{o:Option α}{k:α→Option β}{P:α→Prop}{Q:β→Prop}(h:Ok o P)(hk:∀a,P a→Ok (k a) Q):Ok (bnd o k) Q:=by
 obtain⟨a,rfl,ha⟩:=h;exact hk a ha
theorem Ok.cs{c:Bool}{x y:Option β}(h1:c=true→Ok x Q)(h2:c=false→Ok y Q):Ok (bif c then x else y) Q:=by
 cases c
 ·exact h2 rfl
 ·exact h1 rfl
theorem Ok.chk{β:Type}{c:Bool}{k:Option β}{Q:β→Prop}(h:c=true)(hk:Ok k Q):Ok (chk c k) Q:=by subst h;exact hk
theorem Ok.jn{σ β:Type}{k:σ→Option β}{t:(σ→Option β)→Option β}{Q:β→Prop}(R:σ→Prop)(h1:∀s,R s→Ok (k s) Q)(h2:∀J,(∀s,R s→Ok (J s) Q)→Ok (t J) Q):Ok (jn k t) Q:=h2 k h1
variable {o:Option β}
theorem Ok.mono{Q':β→Prop}(h:Ok o Q)(hq:∀r,Q r→Q' r):Ok o Q':=by
 obtain⟨r,h1,h2⟩:=h;exact⟨r,h1,hq r h2⟩
theorem Ok.bJ{α σ β:Type}{B:Int→α→(σ→Option β)→σ→Option β}{K:σ→Option β}{Q:β→Prop}(I:Nat→σ→Prop)
  (hc:∀(j:Nat) x s Z,I j s→(∀s',I (j+1) s'→Ok (Z s') Q)→Ok (B (j:Int) x Z s) Q):∀(l:List α) (j:Nat) (s:σ),I j s→(∀s,I (j+l.length) s→Ok (K s) Q)→Ok (bJ l j B K s) Q
 |[],j,s,h,hn=>hn s (by simpa using h)
 |x::r,j,s,h,hn=>hc j x s _ h λs' h'=>Ok.bJ I hc r (j+1) s' h' λs hs=>hn s (by rwa [List.length_cons,←Nat.add_assoc,Nat.add_right_comm])
variable {σ:Type}{B:Int→α→(σ→Option β)→σ→Option β}{K:σ→Option β}
theorem Ok.forM(I:Nat→σ→Prop){L:List α}
  (hc:∀(j:Nat) x s Z,j<L.length→x∈L→I j s→(∀s',I (j+1) s'→Ok (Z s') Q)→Ok (B (j:Int) x Z s) Q) (s:σ) (h:I 0 s) (hn:∀s,I L.length s→Ok (K s) Q):Ok (Go.Proofs.YtmnbolcmepihlaaGreat.bJ L 0 B K s) Q:=by
 have key:∀(l:List α) (j:Nat) (s:σ),(∀x∈l,x∈L)→j+l.length=L.length→I j s→Ok (Go.Proofs.YtmnbolcmepihlaaGreat.bJ l j B K s) Q:=by
  intro l;induction l with
  |nil=>intro j s _ hj h;exact hn s (by simpa [←hj]using h)
  |cons x r ih=>
   intro j s hm hj h;simp only[List.length_cons]at hj;exact hc j x s _ (by omega) (hm x (by simp)) h λs' h'=>ih (j+1) s' (λy hy=>hm y (by simp[hy])) (by omega) h'
 exact key L 0 s (λ_ h=>h) (by simp) h
theorem Ok.jd{σ β:Type}{B:Int→(σ→Option β)→σ→Option β}{K:Int→σ→Option β}{Q:β→Prop}(I:Int→σ→Prop)(lo hi:Int)
  (hc:∀(i:Int) s Z,lo≤i→i<hi→I i s→(∀s',I (i+1) s'→Ok (Z s') Q)→Ok (B i Z s) Q) (hn:∀i s,lo≤i→(lo≤hi→i=hi)→I i s→Ok (K i s) Q):∀(n:Nat) (i:Int) (s:σ),n=(hi-i).toNat→lo≤i→(lo≤hi→i≤hi)→I i s→Ok (jd n i B K s) Q
 |0,i,s,hn0,h1,h2,h=>hn i s h1 (λhh=>by have:=h2 hh;omega) h
 |n+1,i,s,hn0,h1,h2,h=>hc i s _ h1 (by omega) h λs' h'=>Ok.jd I lo hi hc hn n (i+1) s' (by omega) (by omega) (λ_=>by omega) h'
theorem Ok.iter{σ β:Type}{F:(σ→Option β)→σ→Option β}{Q:β→Prop}(I:σ→Prop)(μ:σ→Nat)
  (hc:∀s Z,I s→(∀s',I s'→μ s'<μ s→Ok (Z s') Q)→Ok (F Z s) Q):∀(n:Nat) (s:σ),I s→μ s<n→Ok (iter F n s) Q
 |0,s,_,h=>by omega
 |n+1,s,h,hm=>hc s _ h λs' h' hm'=>Ok.iter I μ hc n s' h' (by omega)
theorem Ok.whl{σ β:Type}{F:(σ→Option β)→σ→Option β}{Q:β→Prop}(I:σ→Prop)(μ:σ→Nat){s:σ}(h:I s)(hm:μ s<1099511627776)
  (hc:∀s Z,I s→(∀s',I s'→μ s'<μ s→Ok (Z s') Q)→Ok (F Z s) Q):Ok (whl F s) Q:=Ok.iter I μ hc fuel s h hm
theorem Ok.get(h:Ok o Q):∃r,o=some r∧Q r:=h
theorem Ok.eq{r:β}(h:Ok o (λx=>x=r)):o=some r:=by obtain⟨x,h1,rfl⟩:=h;exact h1
theorem agA(p:List α)(x:α)(r:List α):elO (p++x::r) (p.length:Int)=some x:=by
 unfold elO;rw[if_pos (by omega)];simp
variable {i:Int}{l:List α}
theorem mR(h0:0≤i)(h:i<l.length):Ok (elO l i) (λx=>x∈l∧l[i.toNat]?=some x):=by
 unfold elO;rw[if_pos h0]
 have:i.toNat<l.length:=by omega
 exact⟨l[i.toNat],List.getElem?_eq_getElem this,List.getElem_mem this,List.getElem?_eq_getElem this⟩
variable {r:List α}
theorem jv(h:l.length+r.length≤549755813888):gn l r=some (l++r):=by unfold gn;rw[if_pos (by unfold cap;exact h)]
theorem xq(h:l.length+r.length≤549755813888):Ok (gn l r) (λm=>m=l++r∧m.length=l.length+r.length):=⟨_,jv h,rfl,by simp⟩
theorem xu{x:α}(h0:0≤i)(h:i<l.length):Ok (nu l i x) (λm=>m=l.set i.toNat x∧m.length=l.length):=by
 unfold nu;rw[if_pos ⟨h0,h⟩];exact⟨_,rfl,rfl,by simp⟩
theorem uz{a b:Int}(h:0≤a∧a≤b∧b≤l.length):Ok (lH l a b) (λm=>m=(l.take b.toNat).drop a.toNat∧(m.length:Int)=b-a):=by
 unfold lH;rw[if_pos h];exact⟨_,rfl,rfl,by simp;omega⟩
theorem fh(p:α→Bool)(a:Option β)(hB:∀j x Z s,B j x Z s=bif p x then a else Z s)(l:List α)(j:Nat)(s:σ):bJ l j B K s=bif l.any p then a else K s:=
 uy (f:=λl s=>bif l.any p then a else K s) (λs=>rfl) (λj x r s Z hZ=>by
  rw[hB,hZ,List.any_cons];cases p x<;>rfl) l j s
end
section
def tC(n:Int):Bool:=decide (1≤n)&&decide (n≤1000)
def hasB(t:ai)(r:Int):Bool:=t.aC.any λx=>decide (x.ID=r)
def xw(r:bg):Bool:=decide (r.ID<1)||decide (99<r.ID)
def oJ(l:bk):Bool:=!tC l.eZ||!tC l.gj||decide (l.dZ<0)||decide (1000<l.dZ)
def ltL(a b:bk):Bool:=decide (a.A<b.A)||(decide (a.A=b.A)&&decide (a.B<b.B))
def gW{α:Type}(p:α→α→Bool):List α→Bool
 |a::b::r=>p a b&&gW p (b::r)
 |_=>true
def kA(t:ai):Bool:=t.aC.any xw
def kB(t:ai):Bool:=gW (λa b=>decide (a.ID<b.ID)) t.aC
def kC(t:ai):Bool:=t.Links.any oJ
def kD(t:ai):Bool:=t.Links.any λl=>!hasB t l.A||!hasB t l.B
def kE(t:ai):Bool:=t.Links.any λl=>decide (l.B≤l.A)
def kF(t:ai):Bool:=gW ltL t.Links
def lZ(t:ai):Int:=
 bif decide (24<(t.aC.length:Int))||decide (60<(t.Links.length:Int))then 3
 else bif kA t then 2 else bif kB t then(bif kC t then 2 else bif kD t then 4 else bif kE t then 8 else bif kF t then 0 else 25)else 25
theorem zb{α σ β:Type}{B:Int→α→(σ→Option β)→σ→Option β}{K:σ→Option β}{L:List α}(p:α→α→Bool)(a:Option β)
  (hB:∀(j:Nat) x y r q s Z,L=q++y::x::r→j=q.length+1→B (j:Int) x Z s=bif p y x then Z s else a):∀(r q:List α) (y:α) (s:σ),L=q++y::r→bJ r (q.length+1) B K s=bif gW p (y::r)then K s else a
 |[],q,y,s,h=>rfl
 |x::r,q,y,s,h=>by
  simp only[bJ];rw[hB (q.length+1) x y r q s _ h rfl];have:=zb (B:=B) (K:=K) p a hB r (q++[y]) x s (by simpa using h);simp only[List.length_append,List.length_cons,List.length_nil]at this;rw[this];simp only[gW];cases p y x<;>rfl
variable {α β σ:Type}{L:List α}{B:Int→α→(σ→Option β)→σ→Option β}{K:σ→Option β}
theorem nF(p:α→α→Bool)(a:Option β)
  (hB:∀(j:Nat) x y r q s Z,L=q++y::x::r→j=q.length+1→B (j:Int) x Z s=bif p y x then Z s else a) (s:σ):bJ (L.drop 1) 1 B K s=bif gW p L then K s else a:=by
 cases L with
 |nil=>rfl
 |cons y r=>exact zb (B:=B) (K:=K) p a hB r [] y s rfl
theorem abE(p:α→α→Bool)(a:Option β)(h0:∀x Z s,B ((0:Nat):Int) x Z s=Z s)
  (hB:∀(j:Nat) x y r q s Z,L=q++y::x::r→j=q.length+1→B (j:Int) x Z s=bif p y x then Z s else a) (s:σ):bJ L 0 B K s=bif gW p L then K s else a:=by
 cases L with
 |nil=>rfl
 |cons y r=>
  simp only[bJ];rw[h0];exact zb (B:=B) (K:=K) p a hB r [] y s rfl
variable {j:Nat}
theorem mz{y x:α}{r q:List α}(h:L=q++y::x::r)(hj:j=q.length+1)(hL:(L.length:Int)≤9223372036854775807):elO L (w64 ((j:Int)-1))=some y:=by
 have hl:q.length+2≤L.length:=by rw[h];simp
 rw[cH (by omega) (by omega),show(j:Int)-1=(q.length:Int)by omega,h,agA]
theorem aiI(n:Int):nw n=some (tC n):=rfl
theorem aeb(t:ai)(r:Int):kW t r=some (hasB t r):=by
 unfold kW;refine(fh (λx:bg=>decide (x.ID=r)) (some true) ?_ _ _ _).trans ?_
 ·intros;rfl
 ·unfold hasB;cases t.aC.any _<;>rfl
theorem tD(t:ai):gZ t=some (lZ t):=by
 unfold gZ lZ;by_cases hlen:(decide (24<(t.aC.length:Int))||decide (60<(t.Links.length:Int)))=true
 ·rw[hlen];rfl
 rw[Bool.not_eq_true]at hlen;rw[hlen];simp only[cond_false];simp only[Bool.or_eq_false_iff,decide_eq_false_iff_not]at hlen;refine(fh xw (some 2) ?_ _ _ _).trans ?_
 ·intros;rfl
 unfold kA;cases t.aC.any xw
 case true=>rfl
 simp only[cond_false];refine(nF (λa b:bg=>decide (a.ID<b.ID)) (some 25) ?_ _).trans ?_
 ·intro j x y r q s Z h hj;simp only[mz h hj (by omega),aI,mQ];split<;>split<;>first|rfl|omega
 unfold kB;cases gW _ t.aC
 case false=>rfl
 simp only[cond_true];refine(fh oJ (some 2) ?_ _ _ _).trans ?_
 ·intro j x Z s;simp only[jn,aiI,aI,oJ];cases tC x.eZ<;>cases tC x.gj<;>simp[mQ]<;>(try split)<;>(try split)<;>simp_all<;>omega
 unfold kC;cases t.Links.any oJ
 case true=>rfl
 simp only[cond_false];refine(fh (λl=>!hasB t l.A||!hasB t l.B) (some 4) ?_ _ _ _).trans ?_
 ·intro j x Z s;simp only[jn,aeb,aI];cases hasB t x.A<;>cases hasB t x.B<;>rfl
 unfold kD;cases t.Links.any _
 case true=>rfl
 simp only[cond_false];refine(fh (λl=>decide (l.B≤l.A)) (some 8) ?_ _ _ _).trans ?_
 ·intros;rfl
 unfold kE;cases t.Links.any _
 case true=>rfl
 simp only[cond_false];refine(nF ltL (some 25) ?_ _).trans ?_
 ·intro j x y r q s Z h hj;have e:(decide (x.A<y.A)||(decide (y.A=x.A)&&decide (x.B≤y.B)))=!ltL y x:=by
   rw[Bool.eq_iff_iff];simp[ltL];omega
  simp only[mz h hj (by omega),aI];rw[e];cases ltL y x<;>rfl
 unfold kF;cases gW ltL t.Links<;>rfl
theorem vO{α σ:Type}{B:Int→α→(σ→Option Int)→σ→Option Int}{K:σ→Option Int}(p:α→Bool)(hB:∀j x Z s,B j x Z s=bif p x then some j else Z s)(hK:∀s,K s=some (-1)):∀(l:List α) (j:Nat) (s:σ),∃r,bJ l j B K s=some r∧decide (0≤r)=l.any p
 |[],j,s=>⟨-1,hK s,rfl⟩
 |x::r,j,s=>by
  simp only[bJ,hB,List.any_cons];cases p x
  ·simpa using vO p hB hK r (j+1) s
  ·exact⟨j,rfl,by simp⟩
theorem cfR(l:List bg)(f:bg→Option Bool)(p:bg→Bool)(hf:∀x,f x=some (p x)):cU l f=some (l.any p):=by
 unfold cU ec;obtain⟨r,h1,h2⟩:=vO (B:=λ(j1:Int) (e1:bg) (Z1:Unit→Option Int) (sg:Unit)=>match sg with|()=>bnd (f e1) λ(aq:Bool)=>bif aq then some (j1:Int)else Z1 ()) (K:=λ(sg:Unit)=>match sg with|()=>some (-1:Int)) p (λj x Z s=>by simp only[hf,aI]) (λ_=>rfl) l 0 ();simp only[h1,aI,h2]
theorem cfL(l:List bk)(f:bk→Option Bool)(p:bk→Bool)(hf:∀x,f x=some (p x)):cu l f=some (l.any p):=by
 unfold cu eC;obtain⟨r,h1,h2⟩:=vO (B:=λ(j1:Int) (e1:bk) (Z1:Unit→Option Int) (sg:Unit)=>match sg with|()=>bnd (f e1) λ(aq:Bool)=>bif aq then some (j1:Int)else Z1 ()) (K:=λ(sg:Unit)=>match sg with|()=>some (-1:Int)) p (λj x Z s=>by simp only[hf,aI]) (λ_=>rfl) l 0 ();simp only[h1,aI,h2]
def eM(x y:Int):Int:=if x<y then -1 else if y<x then 1 else 0
theorem aaT(x y:Int):cA x y=some (eM x y):=by
 unfold cA fN eM;simp only[aI,decide_true,Bool.not_true,cond_false,mQ];split<;>(try split)<;>rfl
variable {x:Int}
theorem xW{y:Int}:eM x y<0↔x<y:=by unfold eM;split<;>(try split)<;>omega
theorem jx{y:Int}:eM x y=0↔x=y:=by unfold eM;split<;>(try split)<;>omega
def orI:List Int→Int
 |[]=>0
 |x::r=>if x=0 then orI r else x
theorem agB(l:List Int):fE l=some (orI l):=by
 unfold fE;refine(uy (f:=λl _=>some (orI l)) ?_ ?_ _ _ _)
 ·intros;rfl
 ·intro j x r s Z hZ;simp only[orI,hZ];by_cases h:x=0<;>simp[h]
def jU(a b:bk):Int:=orI [eM a.A b.A,eM a.B b.B]
theorem yC(a b:bk):gE a b=some (jU a b):=by
 unfold gE;simp only[aaT,aI,agB];rfl
theorem ac8(r:bg)(id:Int):iX r id=some (eM r.ID id):=by
 unfold iX;simp only[aaT,aI]
variable {a b:bk}
theorem xX:jU a b<0↔ltL a b=true:=by
 have:jU a b<0↔a.A<b.A∨(a.A=b.A∧a.B<b.B):=by
  simp only[jU,orI];split
  ·rename_i h;rw[jx]at h;split
   ·rename_i h2;rw[jx]at h2;omega
   ·rw[xW];omega
  ·rename_i h;rw[jx]at h;rw[xW];omega
 rw[this];simp[ltL]
theorem xY:jU a b=0↔a.A=b.A∧a.B=b.B:=by
 simp only[jU,orI];split
 ·rename_i h;rw[jx]at h;split
  ·rename_i h2;rw[jx]at h2;omega
  ·rename_i h2;rw[jx]at h2 ⊢;omega
 ·rename_i h;rw[jx]at h ⊢;omega
def bsG{α:Type}[Inhabited α](f:α→Int)(l:List α)(i j:Nat):Nat:=
 if h:i<j then if f (el l ((i+j) / 2:Nat))<0 then bsG f l ((i+j) / 2+1) j else bsG f l i ((i+j) / 2)else i
 termination_by j-i
 decreasing_by all_goals omega
def bsR{α:Type}[Inhabited α](f:α→Int)(l:List α):Nat:=bsG f l 0 l.length
def bsT{α:Type}[Inhabited α](f:α→Int)(l:List α):Bool:=decide (bsR f l<l.length)&&decide (f (el l (bsR f l))=0)
variable {f:α→Int}{i:Nat}{l:List α}
theorem agC[Inhabited α](h:i<j)(hf:f (el l ((i+j) / 2:Nat))<0):bsG f l i j=bsG f l ((i+j) / 2+1) j:=by
 rw[bsG,dif_pos h,if_pos hf]
theorem agD[Inhabited α](h:i<j)(hf:¬f (el l ((i+j) / 2:Nat))<0):bsG f l i j=bsG f l i ((i+j) / 2):=by
 rw[bsG,dif_pos h,if_neg hf]
theorem aaU[Inhabited α](h:j≤i):bsG f l i j=i:=by
 rw[bsG,dif_neg (by omega)]
theorem xx[Inhabited α](h:i<l.length):el l i=l[i]:=by
 simp[el,List.getD_eq_getElem?_getD,h]
theorem agE[Inhabited α](h:i<l.length):el l i∈l:=by
 rw[xx h];exact List.getElem_mem h
theorem qU[Inhabited α](h:i<l.length):elO l (i:Int)=some (el l i):=by
 unfold elO;rw[if_pos (by omega),xx h];simp[h]
theorem aaV(h:i+j≤4611686018427387904):w64 (Int.fdiv (IntKind.wrap .u64 (w64 ((i:Int)+(j:Int)))) (2 ^ min (1:Int).toNat 64))=(((i+j) / 2:Nat):Int):=by
 have e1:w64 ((i:Int)+(j:Int))=((i+j:Nat):Int):=by rw[cH (by omega) (by omega)];simp
 have e2:IntKind.wrap .u64 ((i+j:Nat):Int)=((i+j:Nat):Int):=akg (by omega) (by omega);rw[e1,e2];have e3:(2:Int) ^ min (1:Int).toNat 64=2:=rfl;rw[e3,Int.fdiv_eq_ediv_of_nonneg _ (by omega)];rw[cH (by omega) (by omega)];simp
theorem aaW[Inhabited α]{F:((Int×Int)→Option (Int×Bool))→(Int×Int)→Option (Int×Bool)}(l:List α)(f:α→Int)(hl:l.length≤1000000)
  (hF:∀(i j:Nat) Z,j≤l.length→F Z ((i:Int),(j:Int))=if h:i<j then(if f (el l ((i+j) / 2:Nat))<0 then Z ((((i+j) / 2+1:Nat):Int),(j:Int))else Z ((i:Int),(((i+j) / 2:Nat):Int)))else some ((i:Int),decide (i<l.length)&&decide (f (el l i)=0))) :
  whl F ((0:Int),(l.length:Int))=some ((bsR f l:Int),bsT f l):=by
 refine Ok.eq (Ok.whl (I:=λs=>∃i j:Nat,s=((i:Int),(j:Int))∧i≤j∧j≤l.length∧bsG f l i j=bsR f l) (μ:=λs=>(s.2-s.1).toNat) ⟨0,l.length,rfl,by omega,by omega,rfl⟩ ?_ ?_)
 ·show((l.length:Int)-0).toNat<_;omega
 ·rintro s Z ⟨i,j,rfl,h1,h2,h3⟩ hz;rw[hF i j Z h2];split
  ·rename_i hij;split
   ·rename_i hf;exact hz _ ⟨_,_,rfl,by omega,h2,by rw[←h3,agC hij hf]⟩ (by show((j:Int)-_).toNat<((j:Int)-i).toNat;omega)
   ·rename_i hf;exact hz _ ⟨_,_,rfl,by omega,by omega,by rw[←h3,agD hij hf]⟩ (by show((((i+j) / 2:Nat):Int)-i).toNat<((j:Int)-i).toNat;omega)
  ·rename_i hij;have:bsR f l=i:=by rw[←h3,aaU (by omega)]
   exact⟨_,rfl,by simp only[bsT,this]⟩
theorem apI(l:List bg)(x:Int)(c:bg→Int→Option Int)(f:bg→Int)(hl:l.length≤1000000)(hc:∀r,c r x=some (f r)):cg l x c=some ((bsR f l:Int),bsT f l):=by
 unfold cg;refine aaW l f hl λi j Z hj=>?_;by_cases hij:i<j
 ·rw[dif_pos hij];simp only[aaV (i:=i) (j:=j) (by omega),qU (show(i+j) / 2<l.length by omega),aI,hc,mQ];rw[if_pos (by omega),cH (by omega) (by omega)];rfl
 ·rw[dif_neg hij];simp only[mQ];rw[if_neg (by omega)];by_cases hi:i<l.length
  ·rw[if_pos (by omega),qU hi];simp only[aI,hc];simp[hi]
  ·rw[if_neg (by omega)];simp[hi]
theorem bsLk(l:List bk)(x:bk)(c:bk→bk→Option Int)(f:bk→Int)(hl:l.length≤1000000)(hc:∀r,c r x=some (f r)):cw l x c=some ((bsR f l:Int),bsT f l):=by
 unfold cw;refine aaW l f hl λi j Z hj=>?_;by_cases hij:i<j
 ·rw[dif_pos hij];simp only[aaV (i:=i) (j:=j) (by omega),qU (show(i+j) / 2<l.length by omega),aI,hc,mQ];rw[if_pos (by omega),cH (by omega) (by omega)];rfl
 ·rw[dif_neg hij];simp only[mQ];rw[if_neg (by omega)];by_cases hi:i<l.length
  ·rw[if_pos (by omega),qU hi];simp only[aI,hc];simp[hi]
  ·rw[if_neg (by omega)];simp[hi]
theorem aiJ[Inhabited α](hm:∀a b:Nat,a≤b→b<l.length→f (el l a)≤f (el l b)):∀(n i j:Nat),j-i≤n→i≤j→j≤l.length→(∀m:Nat,m<i→f (el l m)<0)→(∀m:Nat,j≤m→m<l.length→0≤f (el l m))→
  bsG f l i j≤l.length∧(∀m:Nat,m<bsG f l i j→f (el l m)<0)∧(∀m:Nat,bsG f l i j≤m→m<l.length→0≤f (el l m)):=by
 intro n;induction n with
 |zero=>
  intro i j hn hij hj h1 h2;rw[aaU (by omega)];exact⟨by omega,h1,λm hm'=>h2 m (by omega)⟩
 |succ n ih=>
  intro i j hn hij hj h1 h2;by_cases h:i<j
  ·by_cases hf:f (el l ((i+j) / 2:Nat))<0
   ·rw[agC h hf];refine ih _ _ (by omega) (by omega) hj (λm hm'=>?_) h2;have:=hm m ((i+j) / 2) (by omega) (by omega);omega
   ·rw[agD h hf];refine ih _ _ (by omega) (by omega) (by omega) h1 (λm hm' hml=>?_);have:=hm ((i+j) / 2) m hm' hml;omega
  ·rw[aaU (by omega)];exact⟨by omega,h1,λm hm'=>h2 m (by omega)⟩
theorem aiK[Inhabited α](hm:∀a b:Nat,a≤b→b<l.length→f (el l a)≤f (el l b)):
  bsR f l≤l.length∧(∀m:Nat,m<bsR f l→f (el l m)<0)∧(∀m:Nat,bsR f l≤m→m<l.length→0≤f (el l m)):=
 aiJ hm l.length 0 l.length (by omega) (by omega) (by omega) (λm h=>by omega) (λm h1 h2=>by omega)
theorem aaX[Inhabited α](hm:∀a b:Nat,a≤b→b<l.length→f (el l a)≤f (el l b)):bsT f l=true↔∃x∈l,f x=0:=by
 obtain⟨h1,h2,h3⟩:=aiK hm;simp only[bsT,Bool.and_eq_true,decide_eq_true_eq];constructor
 ·rintro⟨q1,q2⟩;exact⟨_,agE q1,q2⟩
 ·rintro⟨x,hx,hf⟩;obtain⟨m,hm1,rfl⟩:=List.getElem_of_mem hx;rw[←xx hm1]at hf;have hle:bsR f l≤m:=by
   by_cases q:m<bsR f l
   ·have:=h2 m q;omega
   ·omega
  have hlt:bsR f l<l.length:=by omega
  have:=h3 _ (Nat.le_refl _) hlt;have:=hm _ _ hle hm1;exact⟨hlt,by omega⟩
theorem oK[Inhabited α](h:l.Pairwise (λa b=>f a≤f b)):∀a b:Nat,a≤b→b<l.length→f (el l a)≤f (el l b):=by
 intro a b hab hb;rcases Nat.lt_or_eq_of_le hab with hab|rfl
 ·have:=List.pairwise_iff_getElem.1 h a b (by omega) hb hab
  rwa [xx (by omega),xx hb]
 ·exact Int.le_refl _
theorem pY{α:Type}{p:α→α→Bool}(ht:∀a b c,p a b=true→p b c=true→p a c=true):∀{l:List α},gW p l=true→l.Pairwise (λa b=>p a b=true)
 |[],_=>List.Pairwise.nil
 |[x],_=>by simp
 |a::b::r,h=>by
  simp only[gW,Bool.and_eq_true]at h;have ih:=pY ht h.2;rw[List.pairwise_cons];refine⟨λz hz=>?_,ih⟩;rcases List.mem_cons.1 hz with rfl|hz
  ·exact h.1
  ·exact ht _ _ _ h.1 ((List.pairwise_cons.1 ih).1 z hz)
theorem l5{α:Type}{p:α→α→Bool}:∀{l:List α},l.Pairwise (λa b=>p a b=true)→gW p l=true
 |[],_=>rfl
 |[x],_=>rfl
 |a::b::r,h=>by
  rw[List.pairwise_cons]at h;simp only[gW,Bool.and_eq_true];exact⟨h.1 b (by simp),l5 h.2⟩
variable {t:ai}
theorem agF(h:kB t=true):t.aC.Pairwise (λa b=>a.ID<b.ID):=by
 have:=pY (p:=λa b:bg=>decide (a.ID<b.ID)) (λa b c h1 h2=>by simp at h1 h2 ⊢;omega) h;exact this.imp (λh=>by simpa using h)
theorem alR(h:kB t=true)(id:Int):∀a b:Nat,a≤b→b<t.aC.length→eM (el t.aC a).ID id≤eM (el t.aC b).ID id:=
 oK (f:=λr:bg=>eM r.ID id) ((agF h).imp (λ{a b} h=>by unfold eM;split<;>(try split)<;>(try split)<;>(try split)<;>omega))
def aiL(t:ai)(id:Int):Bool:=!bsT (λr=>eM r.ID id) t.aC
theorem aec(h:kB t=true)(id:Int):aiL t id=!hasB t id:=by
 simp only[aiL,hasB];congr 1;rw[Bool.eq_iff_iff,aaX (alR h id)];simp[jx]
theorem xy(t:ai):gy t=some (lZ t):=by
 unfold gy lZ;by_cases hlen:(decide (24<(t.aC.length:Int))||decide (60<(t.Links.length:Int)))=true
 ·rw[hlen];rfl
 rw[Bool.not_eq_true]at hlen;rw[hlen];simp only[cond_false];simp only[Bool.or_eq_false_iff,decide_eq_false_iff_not]at hlen;rw[cfR t.aC _ xw (λx=>by simp only[ki,hU,aI,xw];congr 1;rw[Bool.eq_iff_iff];simp)];simp only[aI];unfold kA;cases t.aC.any xw
 case true=>rfl
 simp only[cond_false];refine(abE (λa b:bg=>decide (a.ID<b.ID)) (some 25) ?_ ?_ _).trans ?_
 ·intros;rfl
 ·intro j x y r q s Z h hj;simp only[jn,mz h hj (by omega),aI,mQ];rw[if_pos (by omega)];split<;>split<;>first|rfl|omega
 cases hB:kB t
 case false=>unfold kB at hB;rw[hB];rfl
 have hB':=hB;unfold kB at hB';rw[hB'];simp only[cond_true]
 rw[cfL t.Links iS oJ (λx=>by
  simp only[iS,hU,aI,oJ,tC];simp only[mQ,Bool.not_and,Bool.cond_eq_ite,Bool.or_eq_true,Bool.not_eq_true',decide_eq_false_iff_not];split
  ·congr 1;symm;rw[Bool.eq_iff_iff];simp;omega
  ·split
   ·congr 1;symm;rw[Bool.eq_iff_iff];simp;omega
   ·congr 1;rw[Bool.eq_iff_iff];simp;omega)]
 simp only[aI];unfold kC;cases t.Links.any oJ
 case true=>rfl
 simp only[cond_false]
 have hu:∀id,gF id t=some (!hasB t id):=λid=>by
  unfold gF;rw[apI t.aC id _ (λr=>eM r.ID id) (by omega) (λr=>ac8 r id)];simp only[aI];rw[←aec hB];rfl
 rw[cfL t.Links _ (λl=>!hasB t l.A||!hasB t l.B) (λx=>by
  simp only[kj,hu,aI];cases hasB t x.A<;>rfl)]
 simp only[aI];unfold kD;cases t.Links.any _
 case true=>rfl
 simp only[cond_false];rw[cfL t.Links ko (λl=>decide (l.B≤l.A)) (λx=>rfl)];simp only[aI];unfold kE;cases t.Links.any _
 case true=>rfl
 simp only[cond_false];refine(abE ltL (some 25) ?_ ?_ _).trans ?_
 ·intros;rfl
 ·intro j x y r q s Z h hj;simp only[jn,mz h hj (by omega),aI,yC,mQ];rw[if_pos (by omega)];cases hlt:ltL y x
  ·have:¬jU y x<0:=by rw[xX,hlt];simp
   rw[if_pos (by omega)];rfl
  ·have:=xX.2 hlt;rw[if_neg (by omega)];rfl
 unfold kF;cases gW ltL t.Links<;>rfl
end
section
variable {α:Type}
theorem alS[DecidableEq α]{l:List α}{v:α}:l.any (λx=>decide (x=v))=decide (v∈l):=by
 rw[Bool.eq_iff_iff];simp
theorem alT(l:List Int)(n:Int):fF l n=some (decide (n∈l)):=by
 unfold fF ij;obtain⟨r,h1,h2⟩:=vO (B:=λ(j1:Int) (e1:Int) (Z1:Unit→Option Int) (sg:Unit)=>match sg with|()=>bif decide (n=e1)then some (j1:Int)else Z1 ()) (K:=λ(sg:Unit)=>match sg with|()=>some (-1:Int)) (λx=>decide (n=x)) (λj x Z s=>rfl) (λ_=>rfl) l 0 ();simp only[h1,aI,h2];congr 1;rw[Bool.eq_iff_iff];simp
theorem fO(a b:az):bA a b=true↔a=b:=by
 cases a;cases b;simp[bA]
theorem xz{α γ β:Type}{B:Int→α→(List γ→Option β)→List γ→Option β}{K:List γ→Option β}(p:α→Bool)(f:α→γ):
  ∀(l:List α) (j:Nat) (s:List γ),(∀(j:Nat) x Z s,x∈l→s.length<1000000→B j x Z s=bif p x then Z (s++[f x])else Z s)→l.length+s.length≤1000000→bJ l j B K s=K (s++(l.filter p).map f)
 |[],j,s,_,_=>by simp[bJ]
 |x::r,j,s,hB,h=>by
  simp only[List.length_cons]at h;simp only[bJ];rw[hB j x _ s (by simp) (by omega)];have hB':∀(j:Nat) y Z s,y∈r→s.length<1000000→B j y Z s=bif p y then Z (s++[f y])else Z s:=λj y Z s hy=>hB j y Z s (by simp[hy])
  cases hp:p x
  ·rw[cond_false,xz p f r (j+1) s hB' (by omega),List.filter_cons_of_neg (by simp[hp])]
  ·rw[cond_true,xz p f r (j+1) (s++[f x]) hB' (by simp;omega),List.filter_cons_of_pos hp];simp
theorem app1{s:List α}{x:α}(h:s.length<1000000):gn s [x]=some (s++[x]):=jv (by simp;omega)
theorem xA{a b:List Int}(ha:a.Pairwise (·<·))(hb:b.Pairwise (·<·))(h:∀x,x∈a↔x∈b):a=b:=by
 induction a generalizing b with
 |nil=>
  cases b with
  |nil=>rfl
  |cons y b=>exact absurd ((h y).2 (by simp)) (by simp)
 |cons x a ih=>
  cases b with
  |nil=>exact absurd ((h x).1 (by simp)) (by simp)
  |cons y b=>
   rw[List.pairwise_cons]at ha hb;have hxy:x=y:=by
    have h1:=(h x).1 (by simp);have h2:=(h y).2 (by simp);rw[List.mem_cons]at h1 h2;rcases h1 with h1|h1
    ·exact h1
    ·rcases h2 with h2|h2
     ·exact h2.symm
     ·have:=hb.1 _ h1;have:=ha.1 _ h2;omega
   subst hxy;congr 1;refine ih ha.2 hb.2 λz=>?_;have:=h z;simp only[List.mem_cons]at this;constructor
   ·intro hz;rcases this.1 (.inr hz)with q|q
    ·subst q;have:=ha.1 _ hz;omega
    ·exact q
   ·intro hz;rcases this.2 (.inr hz)with q|q
    ·subst q;have:=hb.1 _ hz;omega
    ·exact q
variable {l:List Int}
theorem ac9(h:l.Nodup):(gP l).Pairwise (·<·):=by
 have h1:=sG l;have h2:(gP l).Nodup:=(pH l).nodup_iff.2 h;have:=h1.and h2;exact this.imp (λ⟨a,b⟩=>by omega)
theorem xB{x:Int}:x∈gP l↔x∈l:=(pH l).mem_iff
structure Vt(t:ai):Prop where
 nr:t.aC.length≤24
 nl:t.Links.length≤60
 idr:∀r∈t.aC,1≤r.ID∧r.ID≤99
 asc:t.aC.Pairwise (λa b=>a.ID<b.ID)
 okl:∀l∈t.Links,oJ l=false
 ends:∀l∈t.Links,hasB t l.A=true∧hasB t l.B=true
 lt:∀l∈t.Links,l.A<l.B
 ada:t.Links.Pairwise (λa b=>ltL a b=true)
theorem agG(a b c:bk)(h1:ltL a b=true)(h2:ltL b c=true):ltL a c=true:=by
 simp[ltL]at *;omega
theorem any_false{l:List α}{p:α→Bool}:l.any p=false↔∀x∈l,p x=false:=by
 rw[List.any_eq_false];simp
variable {t:ai}
theorem oo:lZ t=0↔Vt t:=by
 unfold lZ;constructor
 ·intro h;by_cases h1:(decide (24<(t.aC.length:Int))||decide (60<(t.Links.length:Int)))=true
  ·rw[h1]at h;cases h
  simp only[Bool.not_eq_true]at h1;rw[h1,cond_false]at h;cases h2:kA t<;>rw[h2]at h<;>first|cases h;done|skip
  cases h3:kB t<;>rw[h3]at h<;>first|cases h;done|skip
  cases h4:kC t<;>rw[h4]at h<;>first|cases h;done|skip
  cases h5:kD t<;>rw[h5]at h<;>first|cases h;done|skip
  cases h6:kE t<;>rw[h6]at h<;>first|cases h;done|skip
  cases h7:kF t<;>rw[h7]at h<;>first|cases h;done|skip
  simp only[Bool.or_eq_false_iff,decide_eq_false_iff_not]at h1;refine⟨by omega,by omega,λr hr=>?_,agF h3,any_false.1 h4,λl hl=>?_,λl hl=>?_,pY agG h7⟩
  ·have:=any_false.1 h2 r hr;simp[xw]at this;omega
  ·have:=any_false.1 h5 l hl;simpa using this
  ·have:=any_false.1 h6 l hl;simpa using this
 ·intro h;have h1:(decide (24<(t.aC.length:Int))||decide (60<(t.Links.length:Int)))=false:=by
   have:=h.nr;have:=h.nl;simp;omega
  have h2:kA t=false:=any_false.2 λr hr=>by have:=h.idr r hr;simp[xw];omega
  have h3:kB t=true:=l5 (h.asc.imp λh=>by simpa using h);have h4:kC t=false:=any_false.2 h.okl;have h5:kD t=false:=any_false.2 λl hl=>by have:=h.ends l hl;simp[this]
  have h6:kE t=false:=any_false.2 λl hl=>by have:=h.lt l hl;simp;omega
  have h7:kF t=true:=l5 h.ada;rw[h1,h2,h3,h4,h5,h6,h7];rfl
theorem abF(t:ai):iE t=some (decide (lZ t=0)):=by
 unfold iE;rw[xy];rfl
variable {r:Int}
theorem sQ:hasB t r=true↔∃x∈t.aC,x.ID=r:=by simp[hasB]
theorem aaY(t:ai)(r:Int):kX t r=some (decide (lZ t=0)&&hasB t r):=by
 unfold kX;simp only[tD,aeb,aI];cases decide (lZ t=0)<;>rfl
def afv(t:ai)(r:Int):bg×Bool:=if bsT (λx:bg=>eM x.ID r) t.aC then(el t.aC (bsR (λx:bg=>eM x.ID r) t.aC),true)else(bg.mk 0 false,false)
theorem aiM(t:ai)(r:Int)(hl:t.aC.length≤1000000):kr t r=some (afv t r):=by
 unfold kr afv;rw[apI t.aC r _ (λx=>eM x.ID r) hl (λx=>ac8 x r)];simp only[aI];cases h:bsT (λx:bg=>eM x.ID r) t.aC
 ·rfl
 ·have h2:bsR (λx:bg=>eM x.ID r) t.aC<t.aC.length:=by
   simp only[bsT,Bool.and_eq_true,decide_eq_true_eq]at h;exact h.1
  simp only[Bool.not_true,cond_false,qU h2,aI,if_true]
theorem alU(h:Vt t)(r:Int):bsT (λx:bg=>eM x.ID r) t.aC=hasB t r:=by
 have:=aec (t:=t) (l5 (h.asc.imp λh=>by simpa using h)) r;simpa [aiL]using this
theorem aed(t:ai)(r:Int)(hl:t.aC.length≤1000000):jr t r=some (decide (lZ t=0)&&hasB t r):=by
 unfold jr;simp only[aiM t r hl,abF,aI];by_cases h:lZ t=0
 ·simp only[h,decide_true,cond_true,Bool.true_and,afv,alU (oo.1 h)];cases hasB t r<;>rfl
 ·simp[h]
theorem agH{σ β:Type}{B:Int→α→(σ→Option β)→σ→Option β}{K:σ→Option β}(p:α→Bool)(g:α→Option β)(hB:∀j x Z s,B j x Z s=bif p x then g x else Z s)(l:List α)(j:Nat)(s:σ):
  bJ l j B K s=match l.find? p with|some x=>g x|none=>K s:=
 uy (f:=λl s=>match l.find? p with|some x=>g x|none=>K s) (λs=>rfl) (λj x r s Z hZ=>by
  rw[hB,hZ,List.find?_cons];cases p x<;>rfl) l j s
theorem apJ(h:Vt t){a b:bk}(ha:a∈t.Links)(hb:b∈t.Links)(hA:a.A=b.A)(hB:a.B=b.B):a=b:=by
 obtain⟨i,hi,rfl⟩:=List.getElem_of_mem ha;obtain⟨j,hj,rfl⟩:=List.getElem_of_mem hb;have:=List.pairwise_iff_getElem.1 h.ada;rcases Nat.lt_trichotomy i j with q|q|q
 ·have:=this i j hi hj q;simp[ltL]at this;omega
 ·subst q;rfl
 ·have:=this j i hj hi q;simp[ltL]at this;omega
def jb(l:bk)(a b:Int):Bool:=(decide (l.A=a)&&decide (l.B=b))||(decide (l.B=a)&&decide (l.A=b))
def qv(a b:Int)(l:bk):Int×Bool:=(bif decide (l.A=a)&&decide (l.B=b)then l.eZ else l.gj,true)
def gl(t:ai)(a b:Int):Int×Bool:=match t.Links.find? (λl=>jb l a b)with|some l=>qv a b l|none=>(0,false)
def xC(t:ai)(a b:Int):Bool:=t.Links.any λl=>jb l a b
theorem agI(t:ai)(a b:Int):mG t a b=some (gl t a b):=by
 unfold mG gl;refine(agH (λl:bk=>jb l a b) (λl=>some (qv a b l)) (λj x Z s=>?_) _ _ _).trans ?_
 ·unfold jb qv;cases decide (x.A=a)&&decide (x.B=b)<;>cases decide (x.B=a)&&decide (x.A=b)<;>rfl
 ·cases t.Links.find? _<;>rfl
theorem adb(t:ai)(a b:Int):lM t a b=some (if lZ t=0 then gl t a b else(0,false)):=by
 unfold lM;simp only[tD,agI,aI];by_cases h:lZ t=0<;>simp[h]
variable {a b:Int}
theorem zf(h:Vt t){l:bk}(hm:l∈t.Links)(he:jb l a b=true):gl t a b=qv a b l:=by
 unfold gl;cases hf:t.Links.find? (λl=>jb l a b)with
 |none=>exact absurd he (List.find?_eq_none.1 hf l hm)
 |some x=>
  have hx:=List.mem_of_find?_eq_some hf;have hp:=List.find?_some hf;have h1:=h.lt _ hm;have h2:=h.lt _ hx;simp[jb]at he hp;rw[apJ h hx hm (by omega) (by omega)]
theorem alV(h:Vt t)(v:bk):∀a b:Nat,a≤b→b<t.Links.length→jU (el t.Links a) v≤jU (el t.Links b) v:=by
 refine oK (f:=λl:bk=>jU l v) (h.ada.imp λ{a b} hab=>?_)
 have c3:∀x y:Int,eM x y = -1∨eM x y=0∨eM x y=1:=λx y=>by
  unfold eM;split
  ·exact .inl rfl
  ·split
   ·exact .inr (.inr rfl)
   ·exact .inr (.inl rfl)
 have:∀x y:bk,jU x y = -1∨jU x y=0∨jU x y=1:=λx y=>by
  have q1:=c3 x.A y.A;have q2:=c3 x.B y.B;simp only[jU,orI];generalize eM x.A y.A=p at *;generalize eM x.B y.B=q at *;by_cases h1:p=0
  ·by_cases h2:q=0<;>simp[h1,h2];omega
  ·simp[h1];omega
 have h1:=@xX a v;have h2:=@xX b v;have h3:=@xY a v;have h4:=@xY b v;have q1:=this a v;have q2:=this b v;simp[ltL]at hab h1 h2;omega
theorem ade(t:ai)(a b:Int)(hl:t.Links.length≤1000000):iY t a b=some (if lZ t=0 then gl t a b else(0,false)):=by
 unfold iY;simp only[abF,aI];by_cases h:lZ t=0
 ·have hv:=oo.1 h;simp only[h,decide_true,Bool.not_true,cond_false,if_true];generalize hv2:bk.mk (if b<a then b else a) (if b>a then b else a) 0 0 0=v;rw[bsLk t.Links v _ (λx=>jU x v) hl (λx=>yC x v)];simp only[aI];have hA:v.A=if b<a then b else a:=by rw[←hv2]
  have hB:v.B=if b>a then b else a:=by rw[←hv2]
  cases hT:bsT (λx:bk=>jU x v) t.Links
  ·simp only[Bool.not_false,cond_true];congr 1;unfold gl;cases hf:t.Links.find? (λl=>jb l a b)with
   |none=>rfl
   |some x=>
    exfalso;have hx:=List.mem_of_find?_eq_some hf;have hp:=List.find?_some hf;have h2:=h
    have:=(aaX (f:=λx:bk=>jU x v) (alV hv v)).2 ⟨x,hx,by
     rw[xY,hA,hB];have:=hv.lt _ hx;simp[jb]at hp;split<;>split<;>omega⟩
    rw[hT]at this;cases this
  ·simp only[bsT,Bool.and_eq_true,decide_eq_true_eq]at hT;obtain⟨q1,q2⟩:=hT;rw[xY,hA,hB]at q2;have hm:=agE q1;simp only[Bool.not_true,cond_false,qU q1,aI];have hlt:=hv.lt _ hm
   have e:jb (el t.Links (bsR (λx:bk=>jU x v) t.Links)) a b=true:=by
    simp[jb];by_cases q3:b<a<;>by_cases q4:b>a<;>simp only[q3,q4,if_true,if_false]at q2<;>omega
   rw[zf hv hm e];unfold qv;by_cases hab:a<b
   ·have:decide (a<b)=true:=by simpa using hab
    rw[this,cond_true]
    have:(decide ((el t.Links (bsR (λx:bk=>jU x v) t.Links)).A=a)&&decide ((el t.Links (bsR (λx:bk=>jU x v) t.Links)).B=b))=true:=by
     simp;by_cases q3:b<a<;>by_cases q4:b>a<;>simp only[q3,q4,if_true,if_false]at q2<;>omega
    rw[this];rfl
   ·have:decide (a<b)=false:=by simpa using hab
    rw[this,cond_false]
    have:(decide ((el t.Links (bsR (λx:bk=>jU x v) t.Links)).A=a)&&decide ((el t.Links (bsR (λx:bk=>jU x v) t.Links)).B=b))=false:=by
     simp;by_cases q3:b<a<;>by_cases q4:b>a<;>simp only[q3,q4,if_true,if_false]at q2<;>omega
    rw[this];rfl
 ·simp[h]
def ids(t:ai):List Int:=t.aC.map (·.ID)
theorem apK(h:Vt t):(ids t).Pairwise (·<·):=List.pairwise_map.2 h.asc
theorem iI:r∈ids t↔hasB t r=true:=by rw[sQ];simp[ids]
theorem aee:xC t a b=true↔∃l∈t.Links,(l.A=a∧l.B=b)∨(l.B=a∧l.A=b):=by
 simp[xC,jb]
theorem adf(h:xC t a b=true):xC t b a=true:=by
 rw[aee]at h ⊢;obtain⟨l,hl,h⟩:=h;exact⟨l,hl,by omega⟩
theorem aaZ(hv:Vt t)(h:xC t a b=true):b∈ids t:=by
 rw[aee]at h;obtain⟨l,hl,h⟩:=h;have:=hv.ends l hl;rcases h with⟨h1,h2⟩|⟨h1,h2⟩<;>rw[iI,←h2]
 ·exact this.2
 ·exact this.1
end
section
theorem Ok.nX{α σ β:Type}{B:Int→α→(σ→Option β)→σ→Option β}{K:σ→Option β}{Q:β→Prop}(I:List α→σ→Prop){L:List α}
  (hc:∀(p:List α) x r s Z,L=p++x::r→I p s→(∀s',I (p++[x]) s'→Ok (Z s') Q)→Ok (B (p.length:Int) x Z s) Q) (s:σ) (h:I [] s) (hn:∀s,I L s→Ok (K s) Q):Ok (Go.Proofs.YtmnbolcmepihlaaGreat.bJ L 0 B K s) Q:=by
 have key:∀(l p:List α) (s:σ),L=p++l→I p s→Ok (Go.Proofs.YtmnbolcmepihlaaGreat.bJ l p.length B K s) Q:=by
  intro l;induction l with
  |nil=>intro p s hj h;exact hn s (by rw[hj,List.append_nil];exact h)
  |cons x r ih=>
   intro p s hj h;refine hc p x r s _ hj h λs' h'=>?_;have:=ih (p++[x]) s' (by simp[hj]) h'
   rwa [List.length_append]at this
 exact key L [] s rfl h
theorem abG{a b:List Int}(h:a.Nodup)(hs:∀x∈a,x∈b):a.length≤b.length:=by
 induction a generalizing b with
 |nil=>simp
 |cons x a ih=>
  rw[List.nodup_cons]at h;have hx:=hs x (by simp);have:=ih (b:=b.erase x) h.2 λy hy=>(List.mem_erase_of_ne (λe=>h.1 (by rw[←e];exact hy))).2 (hs y (by simp[hy]));rw[List.length_erase_of_mem hx]at this;have:=List.length_pos_of_mem hx;simp only[List.length_cons];omega
inductive Cn(t:ai)(c:List Int):Int→Int→Prop
 |refl {a:Int} (h:a∉c):Cn t c a a
 |step {a b d:Int} (h:Cn t c a b) (ha:xC t b d=true) (hd:d∉c):Cn t c a d
variable {a b:Int}{c:List Int}{t:ai}
theorem Cn.trans{d:Int}(h1:Cn t c a b)(h2:Cn t c b d):Cn t c a d:=by
 induction h2 with
 |refl _=>exact h1
 |step _ ha hd ih=>exact .step ih ha hd
theorem Cn.left(h:Cn t c a b):a∉c:=by
 induction h with
 |refl h=>exact h
 |step _ _ _ ih=>exact ih
theorem Cn.right(h:Cn t c a b):b∉c:=by
 cases h with
 |refl h=>exact h
 |step _ _ hd=>exact hd
theorem Cn.symm(h:Cn t c a b):Cn t c b a:=by
 induction h with
 |refl h=>exact .refl h
 |step h ha hd ih=>exact(Cn.step (.refl hd) (adf ha) h.right).trans ih
theorem Cn.ids{t:ai}(hv:Vt t){c:List Int}{a b:Int}(h:Cn t c a b)(ha:a∈ids t):b∈ids t:=by
 cases h with
 |refl h=>exact ha
 |step _ hd _=>exact aaZ hv hd
end
section
theorem adg{α:Type}(l:List (Int×α))(n m:Int)(b:α):aY (bN l n b) m=if m=n then some b else aY l m:=by
 induction l with
 |nil=>
  simp only[bN,aY,List.find?];by_cases h:n=m
  ·simp[h]
  ·simp[h,Ne.symm h]
 |cons p r ih=>
  simp only[bN];by_cases h1:p.1=n
  ·rw[if_pos h1];simp only[aY,List.find?]at ih ⊢;by_cases h2:n=m
   ·simp[h2]
   ·have:p.1≠m:=by omega
    simp[h2,this,Ne.symm h2]
  ·rw[if_neg h1];simp only[aY,List.find?]at ih ⊢;by_cases h2:p.1=m
   ·have:m≠n:=by omega
    simp[h2,this]
   ·simp[h2];exact ih
end
end Go.Proofs.YtmnbolcmepihlaaGreat
