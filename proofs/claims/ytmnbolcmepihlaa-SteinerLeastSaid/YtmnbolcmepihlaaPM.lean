/- Several texts in one. No condition but those that stand in each. -/
import Derived.Test.YtmnbolcmepihlaaDA
namespace Go.Proofs.Ytmnbolcmepihlaa
set_option linter.all false
open Go
variable {α β:Type}
theorem cO(a:α)(k:α→Option β):bnd (some a) k=k a:=rfl
theorem nW{p:Prop}[Decidable p]{x y:α}:(bif decide p then x else y)=if p then x else y:=by
 by_cases h:p<;>simp[h]
theorem tY{α σ β:Type}{B:Int→α→(σ→Option β)→σ→Option β}{K:σ→Option β}(f:List α→σ→Option β)(hn:∀s,K s=f [] s)
  (hc:∀(j:Int) x r s Z,(∀s',Z s'=f r s')→B j x Z s=f (x::r) s):∀(l:List α) (j:Nat) (s:σ),cc l j B K s=f l s
 |[],_,s=>hn s
 |x::r,j,s=>hc j x r s _ λs'=>tY f hn hc r (j+1) s'
def Ok{β:Type}(o:Option β)(Q:β→Prop):Prop:=∃r,o=some r∧Q r
variable {Q:β→Prop}
theorem Ok.s{r:β}(h:Q r):Ok (some r) Q:=⟨r,rfl,h⟩
theorem Ok.bnd{α β:Type}{o:Option α}{k:α→Option β}{P:α→Prop}{Q:β→Prop}(h:Ok o P)(hk:∀a,P a→Ok (k a) Q):Ok (bnd o k) Q:=by
 obtain⟨a,rfl,ha⟩:=h;exact hk a ha
theorem Ok.cs{c:Bool}{x y:Option β}(h1:c=true→Ok x Q)(h2:c=false→Ok y Q):Ok (bif c then x else y) Q:=by
 cases c
 ·exact h2 rfl
 ·exact h1 rfl
theorem Ok.chk{β:Type}{c:Bool}{k:Option β}{Q:β→Prop}(h:c=true)(hk:Ok k Q):Ok (chk c k) Q:=by subst h;exact hk
theorem Ok.jn{σ β:Type}{k:σ→Option β}{t:(σ→Option β)→Option β}{Q:β→Prop}(R:σ→Prop)(h1:∀s,R s→Ok (k s) Q)(h2:∀J,(∀s,R s→Ok (J s) Q)→Ok (t J) Q):Ok (jn k t) Q:=h2 k h1
variable {o:Option β}
theorem Ok.mono{Q':β→Prop}(h:Ok o Q)(hq:∀r,Q r→Q' r):Ok o Q':=by
 obtain⟨r,h1,h2⟩:=h;exact⟨r,h1,hq r h2⟩
theorem Ok.cc{α σ β:Type}{B:Int→α→(σ→Option β)→σ→Option β}{K:σ→Option β}{Q:β→Prop}(I:Nat→σ→Prop)
  (hc:∀(j:Nat) x s Z,I j s→(∀s',I (j+1) s'→Ok (Z s') Q)→Ok (B (j:Int) x Z s) Q):∀(l:List α) (j:Nat) (s:σ),I j s→(∀s,I (j+l.length) s→Ok (K s) Q)→Ok (cc l j B K s) Q
 |[],j,s,h,hn=>hn s (by simpa using h)
 |x::r,j,s,h,hn=>hc j x s _ h λs' h'=>Ok.cc I hc r (j+1) s' h' λs hs=>hn s (by rwa [List.length_cons,←Nat.add_assoc,Nat.add_right_comm])
theorem Ok.gY{σ β:Type}{B:Int→(σ→Option β)→σ→Option β}{K:Int→σ→Option β}{Q:β→Prop}(I:Int→σ→Prop)(lo hi:Int)
  (hc:∀(i:Int) s Z,lo≤i→i<hi→I i s→(∀s',I (i+1) s'→Ok (Z s') Q)→Ok (B i Z s) Q) (hn:∀i s,lo≤i→(lo≤hi→i=hi)→I i s→Ok (K i s) Q):∀(n:Nat) (i:Int) (s:σ),n=(hi-i).toNat→lo≤i→(lo≤hi→i≤hi)→I i s→Ok (gY n i B K s) Q
 |0,i,s,hn0,h1,h2,h=>hn i s h1 (λhh=>by have:=h2 hh;omega) h
 |n+1,i,s,hn0,h1,h2,h=>hc i s _ h1 (by omega) h λs' h'=>Ok.gY I lo hi hc hn n (i+1) s' (by omega) (by omega) (λ_=>by omega) h'
theorem Ok.iter{σ β:Type}{F:(σ→Option β)→σ→Option β}{Q:β→Prop}(I:σ→Prop)(μ:σ→Nat)
  (hc:∀s Z,I s→(∀s',I s'→μ s'<μ s→Ok (Z s') Q)→Ok (F Z s) Q):∀(n:Nat) (s:σ),I s→μ s<n→Ok (iter F n s) Q
 |0,s,_,h=>by omega
 |n+1,s,h,hm=>hc s _ h λs' h' hm'=>Ok.iter I μ hc n s' h' (by omega)
theorem Ok.whl{σ β:Type}{F:(σ→Option β)→σ→Option β}{Q:β→Prop}(I:σ→Prop)(μ:σ→Nat){s:σ}(h:I s)(hm:μ s<1099511627776)
  (hc:∀s Z,I s→(∀s',I s'→μ s'<μ s→Ok (Z s') Q)→Ok (F Z s) Q):Ok (whl F s) Q:=Ok.iter I μ hc fuel s h hm
theorem Ok.get(h:Ok o Q):∃r,o=some r∧Q r:=h
theorem Ok.eq{r:β}(h:Ok o (λx=>x=r)):o=some r:=by obtain⟨x,h1,rfl⟩:=h;exact h1
theorem agq(p:List α)(x:α)(r:List α):elO (p++x::r) (p.length:Int)=some x:=by
 unfold elO;rw[if_pos (by omega)];simp
variable {i:Int}{l:List α}
theorem je(h0:0≤i)(h:i<l.length):Ok (elO l i) (λx=>x∈l∧l[i.toNat]?=some x):=by
 unfold elO;rw[if_pos h0]
 have:i.toNat<l.length:=by omega
 exact⟨l[i.toNat],List.getElem?_eq_getElem this,List.getElem_mem this,List.getElem?_eq_getElem this⟩
variable {r:List α}
theorem tZ(h:l.length+r.length≤549755813888):iy l r=some (l++r):=by unfold iy;rw[if_pos (by unfold cap;exact h)]
theorem sX(h:l.length+r.length≤549755813888):Ok (iy l r) (λm=>m=l++r∧m.length=l.length+r.length):=⟨_,tZ h,rfl,by simp⟩
theorem agr{x:α}(h0:0≤i)(h:i<l.length):Ok (pL l i x) (λm=>m=l.set i.toNat x∧m.length=l.length):=by
 unfold pL;rw[if_pos ⟨h0,h⟩];exact⟨_,rfl,rfl,by simp⟩
theorem sY{a b:Int}(h:0≤a∧a≤b∧b≤l.length):Ok (nA l a b) (λm=>m=(l.take b.toNat).drop a.toNat∧(m.length:Int)=b-a):=by
 unfold nA;rw[if_pos h];exact⟨_,rfl,rfl,by simp;omega⟩
theorem vZ{σ:Type}{B:Int→α→(σ→Option β)→σ→Option β}{K:σ→Option β}(p:α→Bool)(a:Option β)(hB:∀j x Z s,B j x Z s=bif p x then a else Z s)(l:List α)(j:Nat)(s:σ):cc l j B K s=bif l.any p then a else K s:=
 tY (f:=λl s=>bif l.any p then a else K s) (λs=>rfl) (λj x r s Z hZ=>by
  rw[hB,hZ,List.any_cons];cases p x<;>rfl) l j s
end Go.Proofs.Ytmnbolcmepihlaa
namespace Go.Proofs.Ytmnbolcmepihlaa
set_option linter.all false
open Go
def sZ(n:Int):Bool:=decide (1≤n)&&decide (n≤1000)
def hasB(t:az)(r:Int):Bool:=t.ay.any λx=>decide (x.ID=r)
def ua(r:aK):Bool:=decide (r.ID<1)||decide (99<r.ID)
def mR(l:bh):Bool:=!sZ l.fc||!sZ l.fS||decide (l.mK<0)||decide (1000<l.mK)
def ltL(a b:bh):Bool:=decide (a.A<b.A)||(decide (a.A=b.A)&&decide (a.B<b.B))
def jf{α:Type}(p:α→α→Bool):List α→Bool
 |a::b::r=>p a b&&jf p (b::r)
 |_=>true
def kA(t:az):Bool:=t.ay.any ua
def kB(t:az):Bool:=jf (λa b=>decide (a.ID<b.ID)) t.ay
def kC(t:az):Bool:=t.Links.any mR
def kD(t:az):Bool:=t.Links.any λl=>!hasB t l.A||!hasB t l.B
def kE(t:az):Bool:=t.Links.any λl=>decide (l.B≤l.A)
def kF(t:az):Bool:=jf ltL t.Links
def oT(t:az):Int:=
 bif decide (24<(t.ay.length:Int))||decide (60<(t.Links.length:Int))then 3
 else bif kA t then 2 else bif kB t then(bif kC t then 2 else bif kD t then 4 else bif kE t then 8 else bif kF t then 0 else 25)else 25
theorem si{α σ β:Type}{B:Int→α→(σ→Option β)→σ→Option β}{K:σ→Option β}{L:List α}(p:α→α→Bool)(a:Option β)
  (hB:∀(j:Nat) x y r q s Z,L=q++y::x::r→j=q.length+1→B (j:Int) x Z s=bif p y x then Z s else a):∀(r q:List α) (y:α) (s:σ),L=q++y::r→cc r (q.length+1) B K s=bif jf p (y::r)then K s else a
 |[],q,y,s,h=>rfl
 |x::r,q,y,s,h=>by
  simp only[cc]
  rw[hB (q.length+1) x y r q s _ h rfl]
  have:=si (B:=B) (K:=K) p a hB r (q++[y]) x s (by simpa using h)
  simp only[List.length_append,List.length_cons,List.length_nil]at this
  rw[this]
  simp only[jf]
  cases p y x<;>rfl
variable {α β σ:Type}{L:List α}{B:Int→α→(σ→Option β)→σ→Option β}{K:σ→Option β}
theorem yT(p:α→α→Bool)(a:Option β)
  (hB:∀(j:Nat) x y r q s Z,L=q++y::x::r→j=q.length+1→B (j:Int) x Z s=bif p y x then Z s else a) (s:σ):cc (L.drop 1) 1 B K s=bif jf p L then K s else a:=by
 cases L with
 |nil=>rfl
 |cons y r=>exact si (B:=B) (K:=K) p a hB r [] y s rfl
theorem uK(p:α→α→Bool)(a:Option β)(h0:∀x Z s,B ((0:Nat):Int) x Z s=Z s)
  (hB:∀(j:Nat) x y r q s Z,L=q++y::x::r→j=q.length+1→B (j:Int) x Z s=bif p y x then Z s else a) (s:σ):cc L 0 B K s=bif jf p L then K s else a:=by
 cases L with
 |nil=>rfl
 |cons y r=>
  simp only[cc]
  rw[h0]
  exact si (B:=B) (K:=K) p a hB r [] y s rfl
variable {j:Nat}
theorem sj{y x:α}{r q:List α}(h:L=q++y::x::r)(hj:j=q.length+1)(hL:(L.length:Int)≤9223372036854775807):elO L (w64 ((j:Int)-1))=some y:=by
 have hl:q.length+2≤L.length:=by rw[h];simp
 rw[cn (by omega) (by omega),show(j:Int)-1=(q.length:Int)by omega,h,agq]
theorem sk{α σ:Type}{B:Int→α→(σ→Option Int)→σ→Option Int}{K:σ→Option Int}(p:α→Bool)(hB:∀j x Z s,B j x Z s=bif p x then some j else Z s)(hK:∀s,K s=some (-1)):∀(l:List α) (j:Nat) (s:σ),∃r,cc l j B K s=some r∧decide (0≤r)=l.any p
 |[],j,s=>⟨-1,hK s,rfl⟩
 |x::r,j,s=>by
  simp only[cc,hB,List.any_cons]
  cases p x
  ·simpa using sk p hB hK r (j+1) s
  ·exact⟨j,rfl,by simp⟩
theorem cfR(l:List aK)(f:aK→Option Bool)(p:aK→Bool)(hf:∀x,f x=some (p x)):bN l f=some (l.any p):=by
 unfold bN cG
 obtain⟨r,h1,h2⟩:=sk (B:=λ(j1:Int) (e1:aK) (Z1:Unit→Option Int) (sg:Unit)=>match sg with|()=>bnd (f e1) λ(aq:Bool)=>bif aq then some (j1:Int)else Z1 ()) (K:=λ(sg:Unit)=>match sg with|()=>some (-1:Int)) p (λj x Z s=>by simp only[hf,cO]) (λ_=>rfl) l 0 ()
 simp only[h1,cO,h2]
theorem cfL(l:List bh)(f:bh→Option Bool)(p:bh→Bool)(hf:∀x,f x=some (p x)):bA l f=some (l.any p):=by
 unfold bA cR
 obtain⟨r,h1,h2⟩:=sk (B:=λ(j1:Int) (e1:bh) (Z1:Unit→Option Int) (sg:Unit)=>match sg with|()=>bnd (f e1) λ(aq:Bool)=>bif aq then some (j1:Int)else Z1 ()) (K:=λ(sg:Unit)=>match sg with|()=>some (-1:Int)) p (λj x Z s=>by simp only[hf,cO]) (λ_=>rfl) l 0 ()
 simp only[h1,cO,h2]
def gL(x y:Int):Int:=if x<y then -1 else if y<x then 1 else 0
theorem wZ(x y:Int):b8 x y=some (gL x y):=by
 unfold b8 fH gL
 simp only[cO,decide_true,Bool.not_true,cond_false,nW]
 split<;>(try split)<;>rfl
variable {x:Int}
theorem w5{y:Int}:gL x y<0↔x<y:=by unfold gL;split<;>(try split)<;>omega
theorem qy{y:Int}:gL x y=0↔x=y:=by unfold gL;split<;>(try split)<;>omega
def orI:List Int→Int
 |[]=>0
 |x::r=>if x=0 then orI r else x
theorem agt(l:List Int):eU l=some (orI l):=by
 unfold eU
 refine(tY (f:=λl _=>some (orI l)) ?_ ?_ _ _ _)
 ·intros;rfl
 ·intro j x r s Z hZ
  simp only[orI,hZ]
  by_cases h:x=0<;>simp[h]
def v8(a b:bh):Int:=orI [gL a.A b.A,gL a.B b.B]
theorem wM(a b:bh):fD a b=some (v8 a b):=by
 unfold fD;simp only[wZ,cO,agt];rfl
theorem we(r:aK)(id:Int):fI r id=some (gL r.ID id):=by
 unfold fI;simp only[wZ,cO]
theorem w6{a b:bh}:v8 a b<0↔ltL a b=true:=by
 have:v8 a b<0↔a.A<b.A∨(a.A=b.A∧a.B<b.B):=by
  simp only[v8,orI]
  split
  ·rename_i h
   rw[qy]at h
   split
   ·rename_i h2;rw[qy]at h2;omega
   ·rw[w5];omega
  ·rename_i h
   rw[qy]at h
   rw[w5];omega
 rw[this];simp[ltL]
def bsG{α:Type}[Inhabited α](f:α→Int)(l:List α)(i j:Nat):Nat:=
 if h:i<j then if f (el l ((i+j) / 2:Nat))<0 then bsG f l ((i+j) / 2+1) j else bsG f l i ((i+j) / 2)else i
 termination_by j-i
 decreasing_by all_goals omega
def bsR{α:Type}[Inhabited α](f:α→Int)(l:List α):Nat:=bsG f l 0 l.length
def bsT{α:Type}[Inhabited α](f:α→Int)(l:List α):Bool:=decide (bsR f l<l.length)&&decide (f (el l (bsR f l))=0)
variable {f:α→Int}{i:Nat}{l:List α}
theorem yU[Inhabited α](h:i<j)(hf:f (el l ((i+j) / 2:Nat))<0):bsG f l i j=bsG f l ((i+j) / 2+1) j:=by
 rw[bsG,dif_pos h,if_pos hf]
theorem yV[Inhabited α](h:i<j)(hf:¬f (el l ((i+j) / 2:Nat))<0):bsG f l i j=bsG f l i ((i+j) / 2):=by
 rw[bsG,dif_pos h,if_neg hf]
theorem uc[Inhabited α](h:j≤i):bsG f l i j=i:=by
 rw[bsG,dif_neg (by omega)]
theorem qc[Inhabited α](h:i<l.length):el l i=l[i]:=by
 simp[el,List.getD_eq_getElem?_getD,h]
theorem agu[Inhabited α](h:i<l.length):el l i∈l:=by
 rw[qc h];exact List.getElem_mem h
theorem wg[Inhabited α](h:i<l.length):elO l (i:Int)=some (el l i):=by
 unfold elO;rw[if_pos (by omega),qc h];simp[h]
theorem acP(h:i+j≤4611686018427387904):w64 (Int.fdiv (IntKind.wrap .u64 (w64 ((i:Int)+(j:Int)))) (2 ^ min (1:Int).toNat 64))=(((i+j) / 2:Nat):Int):=by
 have e1:w64 ((i:Int)+(j:Int))=((i+j:Nat):Int):=by rw[cn (by omega) (by omega)];simp
 have e2:IntKind.wrap .u64 ((i+j:Nat):Int)=((i+j:Nat):Int):=aaY (by omega) (by omega)
 rw[e1,e2]
 have e3:(2:Int) ^ min (1:Int).toNat 64=2:=rfl
 rw[e3,Int.fdiv_eq_ediv_of_nonneg _ (by omega)]
 rw[cn (by omega) (by omega)];simp
theorem acQ[Inhabited α]{F:((Int×Int)→Option (Int×Bool))→(Int×Int)→Option (Int×Bool)}(l:List α)(f:α→Int)(hl:l.length≤1000000)
  (hF:∀(i j:Nat) Z,j≤l.length→F Z ((i:Int),(j:Int))=if h:i<j then(if f (el l ((i+j) / 2:Nat))<0 then Z ((((i+j) / 2+1:Nat):Int),(j:Int))else Z ((i:Int),(((i+j) / 2:Nat):Int)))else some ((i:Int),decide (i<l.length)&&decide (f (el l i)=0))) :
  whl F ((0:Int),(l.length:Int))=some ((bsR f l:Int),bsT f l):=by
 refine Ok.eq (Ok.whl (I:=λs=>∃i j:Nat,s=((i:Int),(j:Int))∧i≤j∧j≤l.length∧bsG f l i j=bsR f l) (μ:=λs=>(s.2-s.1).toNat) ⟨0,l.length,rfl,by omega,by omega,rfl⟩ ?_ ?_)
 ·show((l.length:Int)-0).toNat<_;omega
 ·rintro s Z ⟨i,j,rfl,h1,h2,h3⟩ hz
  rw[hF i j Z h2]
  split
  ·rename_i hij
   split
   ·rename_i hf
    exact hz _ ⟨_,_,rfl,by omega,h2,by rw[←h3,yU hij hf]⟩ (by show((j:Int)-_).toNat<((j:Int)-i).toNat;omega)
   ·rename_i hf
    exact hz _ ⟨_,_,rfl,by omega,by omega,by rw[←h3,yV hij hf]⟩ (by show((((i+j) / 2:Nat):Int)-i).toNat<((j:Int)-i).toNat;omega)
  ·rename_i hij
   have:bsR f l=i:=by rw[←h3,uc (by omega)]
   exact⟨_,rfl,by simp only[bsT,this]⟩
theorem agv(l:List aK)(x:Int)(c:aK→Int→Option Int)(f:aK→Int)(hl:l.length≤1000000)(hc:∀r,c r x=some (f r)):bq l x c=some ((bsR f l:Int),bsT f l):=by
 unfold bq
 refine acQ l f hl λi j Z hj=>?_
 by_cases hij:i<j
 ·rw[dif_pos hij]
  simp only[acP (i:=i) (j:=j) (by omega),wg (show(i+j) / 2<l.length by omega),cO,hc,nW]
  rw[if_pos (by omega),cn (by omega) (by omega)]
  rfl
 ·rw[dif_neg hij]
  simp only[nW]
  rw[if_neg (by omega)]
  by_cases hi:i<l.length
  ·rw[if_pos (by omega),wg hi];simp only[cO,hc];simp[hi]
  ·rw[if_neg (by omega)];simp[hi]
theorem aal[Inhabited α](hm:∀a b:Nat,a≤b→b<l.length→f (el l a)≤f (el l b)):∀(n i j:Nat),j-i≤n→i≤j→j≤l.length→(∀m:Nat,m<i→f (el l m)<0)→(∀m:Nat,j≤m→m<l.length→0≤f (el l m))→
  bsG f l i j≤l.length∧(∀m:Nat,m<bsG f l i j→f (el l m)<0)∧(∀m:Nat,bsG f l i j≤m→m<l.length→0≤f (el l m)):=by
 intro n
 induction n with
 |zero=>
  intro i j hn hij hj h1 h2
  rw[uc (by omega)]
  exact⟨by omega,h1,λm hm'=>h2 m (by omega)⟩
 |succ n ih=>
  intro i j hn hij hj h1 h2
  by_cases h:i<j
  ·by_cases hf:f (el l ((i+j) / 2:Nat))<0
   ·rw[yU h hf]
    refine ih _ _ (by omega) (by omega) hj (λm hm'=>?_) h2
    have:=hm m ((i+j) / 2) (by omega) (by omega)
    omega
   ·rw[yV h hf]
    refine ih _ _ (by omega) (by omega) (by omega) h1 (λm hm' hml=>?_)
    have:=hm ((i+j) / 2) m hm' hml
    omega
  ·rw[uc (by omega)]
   exact⟨by omega,h1,λm hm'=>h2 m (by omega)⟩
theorem aam[Inhabited α](hm:∀a b:Nat,a≤b→b<l.length→f (el l a)≤f (el l b)):
  bsR f l≤l.length∧(∀m:Nat,m<bsR f l→f (el l m)<0)∧(∀m:Nat,bsR f l≤m→m<l.length→0≤f (el l m)):=
 aal hm l.length 0 l.length (by omega) (by omega) (by omega) (λm h=>by omega) (λm h1 h2=>by omega)
theorem acR[Inhabited α](hm:∀a b:Nat,a≤b→b<l.length→f (el l a)≤f (el l b)):bsT f l=true↔∃x∈l,f x=0:=by
 obtain⟨h1,h2,h3⟩:=aam hm
 simp only[bsT,Bool.and_eq_true,decide_eq_true_eq]
 constructor
 ·rintro⟨q1,q2⟩
  exact⟨_,agu q1,q2⟩
 ·rintro⟨x,hx,hf⟩
  obtain⟨m,hm1,rfl⟩:=List.getElem_of_mem hx
  rw[←qc hm1]at hf
  have hle:bsR f l≤m:=by
   by_cases q:m<bsR f l
   ·have:=h2 m q;omega
   ·omega
  have hlt:bsR f l<l.length:=by omega
  have:=h3 _ (Nat.le_refl _) hlt
  have:=hm _ _ hle hm1
  exact⟨hlt,by omega⟩
theorem sr[Inhabited α](h:l.Pairwise (λa b=>f a≤f b)):∀a b:Nat,a≤b→b<l.length→f (el l a)≤f (el l b):=by
 intro a b hab hb
 rcases Nat.lt_or_eq_of_le hab with hab|rfl
 ·have:=List.pairwise_iff_getElem.1 h a b (by omega) hb hab
  rwa [qc (by omega),qc hb]
 ·exact Int.le_refl _
theorem mS{α:Type}{p:α→α→Bool}(ht:∀a b c,p a b=true→p b c=true→p a c=true):∀{l:List α},jf p l=true→l.Pairwise (λa b=>p a b=true)
 |[],_=>List.Pairwise.nil
 |[x],_=>by simp
 |a::b::r,h=>by
  simp only[jf,Bool.and_eq_true]at h
  have ih:=mS ht h.2
  rw[List.pairwise_cons]
  refine⟨λz hz=>?_,ih⟩
  rcases List.mem_cons.1 hz with rfl|hz
  ·exact h.1
  ·exact ht _ _ _ h.1 ((List.pairwise_cons.1 ih).1 z hz)
theorem jg{α:Type}{p:α→α→Bool}:∀{l:List α},l.Pairwise (λa b=>p a b=true)→jf p l=true
 |[],_=>rfl
 |[x],_=>rfl
 |a::b::r,h=>by
  rw[List.pairwise_cons]at h
  simp only[jf,Bool.and_eq_true]
  exact⟨h.1 b (by simp),jg h.2⟩
variable {t:az}
theorem yW(h:kB t=true):t.ay.Pairwise (λa b=>a.ID<b.ID):=by
 have:=mS (p:=λa b:aK=>decide (a.ID<b.ID)) (λa b c h1 h2=>by simp at h1 h2 ⊢;omega) h
 exact this.imp (λh=>by simpa using h)
theorem acS(h:kB t=true)(id:Int):∀a b:Nat,a≤b→b<t.ay.length→gL (el t.ay a).ID id≤gL (el t.ay b).ID id:=
 sr (f:=λr:aK=>gL r.ID id) ((yW h).imp (λ{a b} h=>by unfold gL;split<;>(try split)<;>(try split)<;>(try split)<;>omega))
def aan(t:az)(id:Int):Bool:=!bsT (λr=>gL r.ID id) t.ay
theorem w8(h:kB t=true)(id:Int):aan t id=!hasB t id:=by
 simp only[aan,hasB]
 congr 1
 rw[Bool.eq_iff_iff,acR (acS h id)]
 simp[qy]
theorem uL(t:az):fk t=some (oT t):=by
 unfold fk oT
 by_cases hlen:(decide (24<(t.ay.length:Int))||decide (60<(t.Links.length:Int)))=true
 ·rw[hlen];rfl
 rw[Bool.not_eq_true]at hlen
 rw[hlen]
 simp only[cond_false]
 simp only[Bool.or_eq_false_iff,decide_eq_false_iff_not]at hlen
 rw[cfR t.ay _ ua (λx=>by simp only[gv,eX,cO,ua];congr 1;rw[Bool.eq_iff_iff];simp)]
 simp only[cO]
 unfold kA
 cases t.ay.any ua
 case true=>rfl
 simp only[cond_false]
 refine(uK (λa b:aK=>decide (a.ID<b.ID)) (some 25) ?_ ?_ _).trans ?_
 ·intros;rfl
 ·intro j x y r q s Z h hj
  simp only[jn,sj h hj (by omega),cO,nW]
  rw[if_pos (by omega)]
  split<;>split<;>first|rfl|omega
 cases hB:kB t
 case false=>unfold kB at hB;rw[hB];rfl
 have hB':=hB
 unfold kB at hB'
 rw[hB']
 simp only[cond_true]
 rw[cfL t.Links fE mR (λx=>by
  simp only[fE,eX,cO,mR,sZ]
  simp only[nW,Bool.not_and,Bool.cond_eq_ite,Bool.or_eq_true,Bool.not_eq_true',decide_eq_false_iff_not]
  split
  ·congr 1;symm;rw[Bool.eq_iff_iff];simp;omega
  ·split
   ·congr 1;symm;rw[Bool.eq_iff_iff];simp;omega
   ·congr 1;rw[Bool.eq_iff_iff];simp;omega)]
 simp only[cO]
 unfold kC
 cases t.Links.any mR
 case true=>rfl
 simp only[cond_false]
 have hu:∀id,eM id t=some (!hasB t id):=λid=>by
  unfold eM
  rw[agv t.ay id _ (λr=>gL r.ID id) (by omega) (λr=>we r id)]
  simp only[cO]
  rw[←w8 hB];rfl
 rw[cfL t.Links _ (λl=>!hasB t l.A||!hasB t l.B) (λx=>by
  simp only[gw,hu,cO]
  cases hasB t x.A<;>rfl)]
 simp only[cO]
 unfold kD
 cases t.Links.any _
 case true=>rfl
 simp only[cond_false]
 rw[cfL t.Links gx (λl=>decide (l.B≤l.A)) (λx=>rfl)]
 simp only[cO]
 unfold kE
 cases t.Links.any _
 case true=>rfl
 simp only[cond_false]
 refine(uK ltL (some 25) ?_ ?_ _).trans ?_
 ·intros;rfl
 ·intro j x y r q s Z h hj
  simp only[jn,sj h hj (by omega),cO,wM,nW]
  rw[if_pos (by omega)]
  cases hlt:ltL y x
  ·have:¬v8 y x<0:=by rw[w6,hlt];simp
   rw[if_pos (by omega)];rfl
  ·have:=w6.2 hlt
   rw[if_neg (by omega)];rfl
 unfold kF
 cases jf ltL t.Links<;>rfl
end Go.Proofs.Ytmnbolcmepihlaa
namespace Go.Proofs.Ytmnbolcmepihlaa
set_option linter.all false
open Go
variable {α:Type}{l:List α}
theorem acT[DecidableEq α]{v:α}:l.any (λx=>decide (x=v))=decide (v∈l):=by
 rw[Bool.eq_iff_iff];simp
theorem yX{a b:List Int}(ha:a.Pairwise (·<·))(hb:b.Pairwise (·<·))(h:∀x,x∈a↔x∈b):a=b:=by
 induction a generalizing b with
 |nil=>
  cases b with
  |nil=>rfl
  |cons y b=>exact absurd ((h y).2 (by simp)) (by simp)
 |cons x a ih=>
  cases b with
  |nil=>exact absurd ((h x).1 (by simp)) (by simp)
  |cons y b=>
   rw[List.pairwise_cons]at ha hb
   have hxy:x=y:=by
    have h1:=(h x).1 (by simp)
    have h2:=(h y).2 (by simp)
    rw[List.mem_cons]at h1 h2
    rcases h1 with h1|h1
    ·exact h1
    ·rcases h2 with h2|h2
     ·exact h2.symm
     ·have:=hb.1 _ h1;have:=ha.1 _ h2;omega
   subst hxy
   congr 1
   refine ih ha.2 hb.2 λz=>?_
   have:=h z
   simp only[List.mem_cons]at this
   constructor
   ·intro hz
    rcases this.1 (.inr hz)with q|q
    ·subst q;have:=ha.1 _ hz;omega
    ·exact q
   ·intro hz
    rcases this.2 (.inr hz)with q|q
    ·subst q;have:=hb.1 _ hz;omega
    ·exact q
structure Vt(t:az):Prop where
 nr:t.ay.length≤24
 nl:t.Links.length≤60
 idr:∀r∈t.ay,1≤r.ID∧r.ID≤99
 asc:t.ay.Pairwise (λa b=>a.ID<b.ID)
 okl:∀l∈t.Links,mR l=false
 ends:∀l∈t.Links,hasB t l.A=true∧hasB t l.B=true
 lt:∀l∈t.Links,l.A<l.B
 aao:t.Links.Pairwise (λa b=>ltL a b=true)
theorem yY(a b c:bh)(h1:ltL a b=true)(h2:ltL b c=true):ltL a c=true:=by
 simp[ltL]at *;omega
theorem any_false{p:α→Bool}:l.any p=false↔∀x∈l,p x=false:=by
 rw[List.any_eq_false];simp
variable {t:az}
theorem s4:oT t=0↔Vt t:=by
 unfold oT
 constructor
 ·intro h
  by_cases h1:(decide (24<(t.ay.length:Int))||decide (60<(t.Links.length:Int)))=true
  ·rw[h1]at h;cases h
  simp only[Bool.not_eq_true]at h1
  rw[h1,cond_false]at h
  cases h2:kA t<;>rw[h2]at h<;>first|cases h;done|skip
  cases h3:kB t<;>rw[h3]at h<;>first|cases h;done|skip
  cases h4:kC t<;>rw[h4]at h<;>first|cases h;done|skip
  cases h5:kD t<;>rw[h5]at h<;>first|cases h;done|skip
  cases h6:kE t<;>rw[h6]at h<;>first|cases h;done|skip
  cases h7:kF t<;>rw[h7]at h<;>first|cases h;done|skip
  simp only[Bool.or_eq_false_iff,decide_eq_false_iff_not]at h1
  refine⟨by omega,by omega,λr hr=>?_,yW h3,any_false.1 h4,λl hl=>?_,λl hl=>?_,mS yY h7⟩
  ·have:=any_false.1 h2 r hr;simp[ua]at this;omega
  ·have:=any_false.1 h5 l hl;simpa using this
  ·have:=any_false.1 h6 l hl;simpa using this
 ·intro h
  have h1:(decide (24<(t.ay.length:Int))||decide (60<(t.Links.length:Int)))=false:=by
   have:=h.nr;have:=h.nl;simp;omega
  have h2:kA t=false:=any_false.2 λr hr=>by have:=h.idr r hr;simp[ua];omega
  have h3:kB t=true:=jg (h.asc.imp λh=>by simpa using h)
  have h4:kC t=false:=any_false.2 h.okl
  have h5:kD t=false:=any_false.2 λl hl=>by have:=h.ends l hl;simp[this]
  have h6:kE t=false:=any_false.2 λl hl=>by have:=h.lt l hl;simp;omega
  have h7:kF t=true:=jg h.aao
  rw[h1,h2,h3,h4,h5,h6,h7];rfl
theorem yZ(t:az):gd t=some (decide (oT t=0)):=by
 unfold gd;rw[uL];rfl
variable {r:Int}
theorem mT:hasB t r=true↔∃x∈t.ay,x.ID=r:=by simp[hasB]
def x4(t:az)(r:Int):aK×Bool:=if bsT (λx:aK=>gL x.ID r) t.ay then(el t.ay (bsR (λx:aK=>gL x.ID r) t.ay),true)else(aK.mk 0 false,false)
theorem aap(t:az)(r:Int)(hl:t.ay.length≤1000000):gy t r=some (x4 t r):=by
 unfold gy x4
 rw[agv t.ay r _ (λx=>gL x.ID r) hl (λx=>we x r)]
 simp only[cO]
 cases h:bsT (λx:aK=>gL x.ID r) t.ay
 ·rfl
 ·have h2:bsR (λx:aK=>gL x.ID r) t.ay<t.ay.length:=by
   simp only[bsT,Bool.and_eq_true,decide_eq_true_eq]at h;exact h.1
  simp only[Bool.not_true,cond_false,wg h2,cO,if_true]
theorem acU(h:Vt t)(r:Int):bsT (λx:aK=>gL x.ID r) t.ay=hasB t r:=by
 have:=w8 (t:=t) (jg (h.asc.imp λh=>by simpa using h)) r
 simpa [aan]using this
theorem acV(t:az)(r:Int)(hl:t.ay.length≤1000000):fZ t r=some (decide (oT t=0)&&hasB t r):=by
 unfold fZ
 simp only[aap t r hl,yZ,cO]
 by_cases h:oT t=0
 ·simp only[h,decide_true,cond_true,Bool.true_and,x4,acU (s4.1 h)]
  cases hasB t r<;>rfl
 ·simp[h]
def w9(l:bh)(a b:Int):Bool:=(decide (l.A=a)&&decide (l.B=b))||(decide (l.B=a)&&decide (l.A=b))
def ud(t:az)(a b:Int):Bool:=t.Links.any λl=>w9 l a b
def ids(t:az):List Int:=t.ay.map (·.ID)
theorem nX:r∈ids t↔hasB t r=true:=by rw[mT];simp[ids]
variable {a b:Int}
theorem xb:ud t a b=true↔∃l∈t.Links,(l.A=a∧l.B=b)∨(l.B=a∧l.A=b):=by
 simp[ud,w9]
theorem aaq(h:ud t a b=true):ud t b a=true:=by
 rw[xb]at h ⊢
 obtain⟨l,hl,h⟩:=h
 exact⟨l,hl,by omega⟩
theorem acW(hv:Vt t)(h:ud t a b=true):b∈ids t:=by
 rw[xb]at h
 obtain⟨l,hl,h⟩:=h
 have:=hv.ends l hl
 rcases h with⟨h1,h2⟩|⟨h1,h2⟩<;>rw[nX,←h2]
 ·exact this.2
 ·exact this.1
end Go.Proofs.Ytmnbolcmepihlaa
namespace Go.Proofs.Ytmnbolcmepihlaa
set_option linter.all false
open Go
theorem uM{a b:List Int}(h:a.Nodup)(hs:∀x∈a,x∈b):a.length≤b.length:=by
 induction a generalizing b with
 |nil=>simp
 |cons x a ih=>
  rw[List.nodup_cons]at h
  have hx:=hs x (by simp)
  have:=ih (b:=b.erase x) h.2 λy hy=>(List.mem_erase_of_ne (λe=>h.1 (by rw[←e];exact hy))).2 (hs y (by simp[hy]))
  rw[List.length_erase_of_mem hx]at this
  have:=List.length_pos_of_mem hx
  simp only[List.length_cons];omega
inductive Cn(t:az)(c:List Int):Int→Int→Prop
 |refl {a:Int} (h:a∉c):Cn t c a a
 |step {a b d:Int} (h:Cn t c a b) (ha:ud t b d=true) (hd:d∉c):Cn t c a d
variable {a b:Int}{c:List Int}{t:az}
theorem Cn.trans{d:Int}(h1:Cn t c a b)(h2:Cn t c b d):Cn t c a d:=by
 induction h2 with
 |refl _=>exact h1
 |step _ ha hd ih=>exact .step ih ha hd
theorem Cn.left(h:Cn t c a b):a∉c:=by
 induction h with
 |refl h=>exact h
 |step _ _ _ ih=>exact ih
theorem Cn.right(h:Cn t c a b):b∉c:=by
 cases h with
 |refl h=>exact h
 |step _ _ hd=>exact hd
theorem Cn.symm(h:Cn t c a b):Cn t c b a:=by
 induction h with
 |refl h=>exact .refl h
 |step h ha hd ih=>exact(Cn.step (.refl hd) (aaq ha) h.right).trans ih
theorem Cn.ids{t:az}(hv:Vt t){c:List Int}{a b:Int}(h:Cn t c a b)(ha:a∈ids t):b∈ids t:=by
 cases h with
 |refl h=>exact ha
 |step _ hd _=>exact acW hv hd
end Go.Proofs.Ytmnbolcmepihlaa
