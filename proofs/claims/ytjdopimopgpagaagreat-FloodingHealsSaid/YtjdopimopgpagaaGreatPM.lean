/- Several texts in one. No condition but those that stand in each. -/
import Derived.Test.YtjdopimopgpagaaGreatDA
namespace Go.Proofs.YtjdopimopgpagaaGreat
set_option linter.all false
open Go
variable {α β:Type}
theorem aL(a:α)(k:α→Option β):bnd (some a) k=k a:=rfl
variable {c:Bool}
theorem ng{k:Option β}(h:c=true):chk c k=k:=by subst h;rfl
theorem o8{p:Prop}[Decidable p]{x y:α}:(bif decide p then x else y)=if p then x else y:=by
 by_cases h:p<;>simp[h]
theorem aae{α σ β:Type}{B:Int→α→(σ→Option β)→σ→Option β}{K:σ→Option β}(f:List α→σ→Option β)(hn:∀s,K s=f [] s)
  (hc:∀(j:Int) x r s Z,(∀s',Z s'=f r s')→B j x Z s=f (x::r) s):∀(l:List α) (j:Nat) (s:σ),bN l j B K s=f l s
 |[],_,s=>hn s
 |x::r,j,s=>hc j x r s _ λs'=>aae f hn hc r (j+1) s'
def Ok{β:Type}(o:Option β)(Q:β→Prop):Prop:=∃r,o=some r∧Q r
variable {Q:β→Prop}
theorem Ok.s{r:β}(h:Q r):Ok (some r) Q:=⟨r,rfl,h⟩
theorem Ok.bnd{α β:Type}{o:Option α}{k:α→Option β}{P:α→Prop}{Q:β→Prop}(h:Ok o P)(hk:∀a,P a→Ok (k a) Q):Ok (bnd o k) Q:=by
 obtain⟨a,rfl,ha⟩:=h;exact hk a ha
theorem Ok.cs{x y:Option β}(h1:c=true→Ok x Q)(h2:c=false→Ok y Q):Ok (bif c then x else y) Q:=by
 cases c
 ·exact h2 rfl
 ·exact h1 rfl
theorem Ok.chk{β:Type}{c:Bool}{k:Option β}{Q:β→Prop}(h:c=true)(hk:Ok k Q):Ok (chk c k) Q:=by subst h;exact hk
theorem Ok.jn{σ β:Type}{k:σ→Option β}{t:(σ→Option β)→Option β}{Q:β→Prop}(R:σ→Prop)(h1:∀s,R s→Ok (k s) Q)(h2:∀J,(∀s,R s→Ok (J s) Q)→Ok (t J) Q):Ok (jn k t) Q:=h2 k h1
variable {o:Option β}
theorem Ok.mono{Q':β→Prop}(h:Ok o Q)(hq:∀r,Q r→Q' r):Ok o Q':=by
 obtain⟨r,h1,h2⟩:=h;exact⟨r,h1,hq r h2⟩
theorem Ok.bN{α σ β:Type}{B:Int→α→(σ→Option β)→σ→Option β}{K:σ→Option β}{Q:β→Prop}(I:Nat→σ→Prop)
  (hc:∀(j:Nat) x s Z,I j s→(∀s',I (j+1) s'→Ok (Z s') Q)→Ok (B (j:Int) x Z s) Q):∀(l:List α) (j:Nat) (s:σ),I j s→(∀s,I (j+l.length) s→Ok (K s) Q)→Ok (bN l j B K s) Q
 |[],j,s,h,hn=>hn s (by simpa using h)
 |x::r,j,s,h,hn=>hc j x s _ h λs' h'=>Ok.bN I hc r (j+1) s' h' λs hs=>hn s (by rwa [List.length_cons,←Nat.add_assoc,Nat.add_right_comm])
theorem Ok.gO{σ β:Type}{B:Int→(σ→Option β)→σ→Option β}{K:Int→σ→Option β}{Q:β→Prop}(I:Int→σ→Prop)(lo hi:Int)
  (hc:∀(i:Int) s Z,lo≤i→i<hi→I i s→(∀s',I (i+1) s'→Ok (Z s') Q)→Ok (B i Z s) Q) (hn:∀i s,lo≤i→(lo≤hi→i=hi)→I i s→Ok (K i s) Q):∀(n:Nat) (i:Int) (s:σ),n=(hi-i).toNat→lo≤i→(lo≤hi→i≤hi)→I i s→Ok (gO n i B K s) Q
 |0,i,s,hn0,h1,h2,h=>hn i s h1 (λhh=>by have:=h2 hh;omega) h
 |n+1,i,s,hn0,h1,h2,h=>hc i s _ h1 (by omega) h λs' h'=>Ok.gO I lo hi hc hn n (i+1) s' (by omega) (by omega) (λ_=>by omega) h'
theorem Ok.iter{σ β:Type}{F:(σ→Option β)→σ→Option β}{Q:β→Prop}(I:σ→Prop)(μ:σ→Nat)
  (hc:∀s Z,I s→(∀s',I s'→μ s'<μ s→Ok (Z s') Q)→Ok (F Z s) Q):∀(n:Nat) (s:σ),I s→μ s<n→Ok (iter F n s) Q
 |0,s,_,h=>by omega
 |n+1,s,h,hm=>hc s _ h λs' h' hm'=>Ok.iter I μ hc n s' h' (by omega)
theorem Ok.whl{σ β:Type}{F:(σ→Option β)→σ→Option β}{Q:β→Prop}(I:σ→Prop)(μ:σ→Nat){s:σ}(h:I s)(hm:μ s<1099511627776)
  (hc:∀s Z,I s→(∀s',I s'→μ s'<μ s→Ok (Z s') Q)→Ok (F Z s) Q):Ok (whl F s) Q:=Ok.iter I μ hc fuel s h hm
theorem Ok.get(h:Ok o Q):∃r,o=some r∧Q r:=h
theorem Ok.eq{r:β}(h:Ok o (λx=>x=r)):o=some r:=by obtain⟨x,h1,rfl⟩:=h;exact h1
theorem iy(p:List α)(x:α)(r:List α):elO (p++x::r) (p.length:Int)=some x:=by
 unfold elO;rw[if_pos (by omega)];simp
variable {i:Int}{l:List α}
theorem rj(h0:0≤i)(h:i<l.length):Ok (elO l i) (λx=>x∈l∧l[i.toNat]?=some x):=by
 unfold elO;rw[if_pos h0]
 have:i.toNat<l.length:=by omega
 exact⟨l[i.toNat],List.getElem?_eq_getElem this,List.getElem_mem this,List.getElem?_eq_getElem this⟩
variable {r:List α}
theorem eB(h:l.length+r.length≤549755813888):dy l r=some (l++r):=by unfold dy;rw[if_pos (by unfold cap;exact h)]
theorem mb(h:l.length+r.length≤549755813888):Ok (dy l r) (λm=>m=l++r∧m.length=l.length+r.length):=⟨_,eB h,rfl,by simp⟩
theorem ahG{x:α}(h0:0≤i)(h:i<l.length):Ok (gF l i x) (λm=>m=l.set i.toNat x∧m.length=l.length):=by
 unfold gF;rw[if_pos ⟨h0,h⟩];exact⟨_,rfl,rfl,by simp⟩
theorem aey{a b:Int}(h:0≤a∧a≤b∧b≤l.length):Ok (rL l a b) (λm=>m=(l.take b.toNat).drop a.toNat∧(m.length:Int)=b-a):=by
 unfold rL;rw[if_pos h];exact⟨_,rfl,rfl,by simp;omega⟩
theorem qi{σ:Type}{B:Int→α→(σ→Option β)→σ→Option β}{K:σ→Option β}(p:α→Bool)(a:Option β)(hB:∀j x Z s,B j x Z s=bif p x then a else Z s)(l:List α)(j:Nat)(s:σ):bN l j B K s=bif l.any p then a else K s:=
 aae (f:=λl s=>bif l.any p then a else K s) (λs=>rfl) (λj x r s Z hZ=>by
  rw[hB,hZ,List.any_cons];cases p x<;>rfl) l j s
end Go.Proofs.YtjdopimopgpagaaGreat
namespace Go.Proofs.YtjdopimopgpagaaGreat
set_option linter.all false
open Go
def s5(n:Int):Bool:=decide (1≤n)&&decide (n≤1000)
def hasB(t:aB)(r:Int):Bool:=t.aI.any λx=>decide (x.ID=r)
def zq(r:bf):Bool:=decide (r.ID<1)||decide (99<r.ID)
def wY(l:aV):Bool:=!s5 l.lK||!s5 l.kP||decide (l.cg<0)||decide (1000<l.cg)
def ltL(a b:aV):Bool:=decide (a.A<b.A)||(decide (a.A=b.A)&&decide (a.B<b.B))
def gd{α:Type}(p:α→α→Bool):List α→Bool
 |a::b::r=>p a b&&gd p (b::r)
 |_=>true
def kA(t:aB):Bool:=t.aI.any zq
def kB(t:aB):Bool:=gd (λa b=>decide (a.ID<b.ID)) t.aI
def kC(t:aB):Bool:=t.Links.any wY
def kD(t:aB):Bool:=t.Links.any λl=>!hasB t l.A||!hasB t l.B
def kE(t:aB):Bool:=t.Links.any λl=>decide (l.B≤l.A)
def kF(t:aB):Bool:=gd ltL t.Links
def lz(t:aB):Int:=
 bif decide (24<(t.aI.length:Int))||decide (60<(t.Links.length:Int))then 3
 else bif kA t then 2 else bif kB t then(bif kC t then 2 else bif kD t then 4 else bif kE t then 8 else bif kF t then 0 else 25)else 25
theorem abj{α σ β:Type}{B:Int→α→(σ→Option β)→σ→Option β}{K:σ→Option β}{L:List α}(p:α→α→Bool)(a:Option β)
  (hB:∀(j:Nat) x y r q s Z,L=q++y::x::r→j=q.length+1→B (j:Int) x Z s=bif p y x then Z s else a):∀(r q:List α) (y:α) (s:σ),L=q++y::r→bN r (q.length+1) B K s=bif gd p (y::r)then K s else a
 |[],q,y,s,h=>rfl
 |x::r,q,y,s,h=>by
  simp only[bN]
  rw[hB (q.length+1) x y r q s _ h rfl]
  have:=abj (B:=B) (K:=K) p a hB r (q++[y]) x s (by simpa using h)
  simp only[List.length_append,List.length_cons,List.length_nil]at this
  rw[this]
  simp only[gd]
  cases p y x<;>rfl
variable {α β σ:Type}{L:List α}{B:Int→α→(σ→Option β)→σ→Option β}{K:σ→Option β}
theorem zu(p:α→α→Bool)(a:Option β)
  (hB:∀(j:Nat) x y r q s Z,L=q++y::x::r→j=q.length+1→B (j:Int) x Z s=bif p y x then Z s else a) (s:σ):bN (L.drop 1) 1 B K s=bif gd p L then K s else a:=by
 cases L with
 |nil=>rfl
 |cons y r=>exact abj (B:=B) (K:=K) p a hB r [] y s rfl
theorem zv(p:α→α→Bool)(a:Option β)(h0:∀x Z s,B ((0:Nat):Int) x Z s=Z s)
  (hB:∀(j:Nat) x y r q s Z,L=q++y::x::r→j=q.length+1→B (j:Int) x Z s=bif p y x then Z s else a) (s:σ):bN L 0 B K s=bif gd p L then K s else a:=by
 cases L with
 |nil=>rfl
 |cons y r=>
  simp only[bN]
  rw[h0]
  exact abj (B:=B) (K:=K) p a hB r [] y s rfl
variable {j:Nat}
theorem nH{y x:α}{r q:List α}(h:L=q++y::x::r)(hj:j=q.length+1)(hL:(L.length:Int)≤9223372036854775807):elO L (w64 ((j:Int)-1))=some y:=by
 have hl:q.length+2≤L.length:=by rw[h];simp
 rw[cw (by omega) (by omega),show(j:Int)-1=(q.length:Int)by omega,h,iy]
theorem ajg(n:Int):qc n=some (s5 n):=rfl
theorem afJ(t:aB)(r:Int):nx t r=some (hasB t r):=by
 unfold nx
 refine(qi (λx:bf=>decide (x.ID=r)) (some true) ?_ _ _ _).trans ?_
 ·intros;rfl
 ·unfold hasB;cases t.aI.any _<;>rfl
theorem si(t:aB):iL t=some (lz t):=by
 unfold iL lz
 by_cases hlen:(decide (24<(t.aI.length:Int))||decide (60<(t.Links.length:Int)))=true
 ·rw[hlen];rfl
 rw[Bool.not_eq_true]at hlen
 rw[hlen]
 simp only[cond_false]
 simp only[Bool.or_eq_false_iff,decide_eq_false_iff_not]at hlen
 refine(qi zq (some 2) ?_ _ _ _).trans ?_
 ·intros;rfl
 unfold kA
 cases t.aI.any zq
 case true=>rfl
 simp only[cond_false]
 refine(zu (λa b:bf=>decide (a.ID<b.ID)) (some 25) ?_ _).trans ?_
 ·intro j x y r q s Z h hj
  simp only[nH h hj (by omega),aL,o8]
  split<;>split<;>first|rfl|omega
 unfold kB
 cases gd _ t.aI
 case false=>rfl
 simp only[cond_true]
 refine(qi wY (some 2) ?_ _ _ _).trans ?_
 ·intro j x Z s
  simp only[jn,ajg,aL,wY]
  cases s5 x.lK<;>cases s5 x.kP<;>simp[o8]<;>(try split)<;>(try split)<;>simp_all<;>omega
 unfold kC
 cases t.Links.any wY
 case true=>rfl
 simp only[cond_false]
 refine(qi (λl=>!hasB t l.A||!hasB t l.B) (some 4) ?_ _ _ _).trans ?_
 ·intro j x Z s
  simp only[jn,afJ,aL]
  cases hasB t x.A<;>cases hasB t x.B<;>rfl
 unfold kD
 cases t.Links.any _
 case true=>rfl
 simp only[cond_false]
 refine(qi (λl=>decide (l.B≤l.A)) (some 8) ?_ _ _ _).trans ?_
 ·intros;rfl
 unfold kE
 cases t.Links.any _
 case true=>rfl
 simp only[cond_false]
 refine(zu ltL (some 25) ?_ _).trans ?_
 ·intro j x y r q s Z h hj
  have e:(decide (x.A<y.A)||(decide (y.A=x.A)&&decide (x.B≤y.B)))=!ltL y x:=by
   rw[Bool.eq_iff_iff];simp[ltL];omega
  simp only[nH h hj (by omega),aL]
  rw[e]
  cases ltL y x<;>rfl
 unfold kF
 cases gd ltL t.Links<;>rfl
theorem vQ{α σ:Type}{B:Int→α→(σ→Option Int)→σ→Option Int}{K:σ→Option Int}(p:α→Bool)(hB:∀j x Z s,B j x Z s=bif p x then some j else Z s)(hK:∀s,K s=some (-1)):∀(l:List α) (j:Nat) (s:σ),∃r,bN l j B K s=some r∧decide (0≤r)=l.any p
 |[],j,s=>⟨-1,hK s,rfl⟩
 |x::r,j,s=>by
  simp only[bN,hB,List.any_cons]
  cases p x
  ·simpa using vQ p hB hK r (j+1) s
  ·exact⟨j,rfl,by simp⟩
theorem cfR(l:List bf)(f:bf→Option Bool)(p:bf→Bool)(hf:∀x,f x=some (p x)):dw l f=some (l.any p):=by
 unfold dw ew
 obtain⟨r,h1,h2⟩:=vQ (B:=λ(j1:Int) (e1:bf) (Z1:Unit→Option Int) (sg:Unit)=>match sg with|()=>bnd (f e1) λ(ah:Bool)=>bif ah then some (j1:Int)else Z1 ()) (K:=λ(sg:Unit)=>match sg with|()=>some (-1:Int)) p (λj x Z s=>by simp only[hf,aL]) (λ_=>rfl) l 0 ()
 simp only[h1,aL,h2]
theorem cfL(l:List aV)(f:aV→Option Bool)(p:aV→Bool)(hf:∀x,f x=some (p x)):cH l f=some (l.any p):=by
 unfold cH eW
 obtain⟨r,h1,h2⟩:=vQ (B:=λ(j1:Int) (e1:aV) (Z1:Unit→Option Int) (sg:Unit)=>match sg with|()=>bnd (f e1) λ(ah:Bool)=>bif ah then some (j1:Int)else Z1 ()) (K:=λ(sg:Unit)=>match sg with|()=>some (-1:Int)) p (λj x Z s=>by simp only[hf,aL]) (λ_=>rfl) l 0 ()
 simp only[h1,aL,h2]
def eF(x y:Int):Int:=if x<y then -1 else if y<x then 1 else 0
theorem acC(x y:Int):eT x y=some (eF x y):=by
 unfold eT mQ eF
 simp only[aL,decide_true,Bool.not_true,cond_false,o8]
 split<;>(try split)<;>rfl
variable {x:Int}
theorem afK{y:Int}:eF x y<0↔x<y:=by unfold eF;split<;>(try split)<;>omega
theorem qx{y:Int}:eF x y=0↔x=y:=by unfold eF;split<;>(try split)<;>omega
def orI:List Int→Int
 |[]=>0
 |x::r=>if x=0 then orI r else x
theorem apQ(l:List Int):nX l=some (orI l):=by
 unfold nX
 refine(aae (f:=λl _=>some (orI l)) ?_ ?_ _ _ _)
 ·intros;rfl
 ·intro j x r s Z hZ
  simp only[orI,hZ]
  by_cases h:x=0<;>simp[h]
def cmpL(a b:aV):Int:=orI [eF a.A b.A,eF a.B b.B]
theorem aaB(a b:aV):iS a b=some (cmpL a b):=by
 unfold iS;simp only[acC,aL,apQ];rfl
theorem aeA(r:bf)(id:Int):kR r id=some (eF r.ID id):=by
 unfold kR;simp only[acC,aL]
variable {a b:aV}
theorem aaf:cmpL a b<0↔ltL a b=true:=by
 have:cmpL a b<0↔a.A<b.A∨(a.A=b.A∧a.B<b.B):=by
  simp only[cmpL,orI]
  split
  ·rename_i h
   rw[qx]at h
   split
   ·rename_i h2;rw[qx]at h2;omega
   ·rw[afK];omega
  ·rename_i h
   rw[qx]at h
   rw[afK];omega
 rw[this];simp[ltL]
theorem cmpL_eq:cmpL a b=0↔a.A=b.A∧a.B=b.B:=by
 simp only[cmpL,orI]
 split
 ·rename_i h
  rw[qx]at h
  split
  ·rename_i h2;rw[qx]at h2;omega
  ·rename_i h2;rw[qx]at h2 ⊢;omega
 ·rename_i h
  rw[qx]at h ⊢;omega
def bsG{α:Type}[Inhabited α](f:α→Int)(l:List α)(i j:Nat):Nat:=
 if h:i<j then if f (el l ((i+j) / 2:Nat))<0 then bsG f l ((i+j) / 2+1) j else bsG f l i ((i+j) / 2)else i
 termination_by j-i
 decreasing_by all_goals omega
def bsR{α:Type}[Inhabited α](f:α→Int)(l:List α):Nat:=bsG f l 0 l.length
def bsT{α:Type}[Inhabited α](f:α→Int)(l:List α):Bool:=decide (bsR f l<l.length)&&decide (f (el l (bsR f l))=0)
variable {f:α→Int}{i:Nat}{l:List α}
theorem ahH[Inhabited α](h:i<j)(hf:f (el l ((i+j) / 2:Nat))<0):bsG f l i j=bsG f l ((i+j) / 2+1) j:=by
 rw[bsG,dif_pos h,if_pos hf]
theorem ahI[Inhabited α](h:i<j)(hf:¬f (el l ((i+j) / 2:Nat))<0):bsG f l i j=bsG f l i ((i+j) / 2):=by
 rw[bsG,dif_pos h,if_neg hf]
theorem acD[Inhabited α](h:j≤i):bsG f l i j=i:=by
 rw[bsG,dif_neg (by omega)]
theorem vR[Inhabited α](h:i<l.length):el l i=l[i]:=by
 simp[el,List.getD_eq_getElem?_getD,h]
theorem aeB[Inhabited α](h:i<l.length):el l i∈l:=by
 rw[vR h];exact List.getElem_mem h
theorem uz[Inhabited α](h:i<l.length):elO l (i:Int)=some (el l i):=by
 unfold elO;rw[if_pos (by omega),vR h];simp[h]
theorem acE(h:i+j≤4611686018427387904):w64 (Int.fdiv (IntKind.wrap .u64 (w64 ((i:Int)+(j:Int)))) (2 ^ min (1:Int).toNat 64))=(((i+j) / 2:Nat):Int):=by
 have e1:w64 ((i:Int)+(j:Int))=((i+j:Nat):Int):=by rw[cw (by omega) (by omega)];simp
 have e2:IntKind.wrap .u64 ((i+j:Nat):Int)=((i+j:Nat):Int):=ak4 (by omega) (by omega)
 rw[e1,e2]
 have e3:(2:Int) ^ min (1:Int).toNat 64=2:=rfl
 rw[e3,Int.fdiv_eq_ediv_of_nonneg _ (by omega)]
 rw[cw (by omega) (by omega)];simp
theorem acF[Inhabited α]{F:((Int×Int)→Option (Int×Bool))→(Int×Int)→Option (Int×Bool)}(l:List α)(f:α→Int)(hl:l.length≤1000000)
  (hF:∀(i j:Nat) Z,j≤l.length→F Z ((i:Int),(j:Int))=if h:i<j then(if f (el l ((i+j) / 2:Nat))<0 then Z ((((i+j) / 2+1:Nat):Int),(j:Int))else Z ((i:Int),(((i+j) / 2:Nat):Int)))else some ((i:Int),decide (i<l.length)&&decide (f (el l i)=0))) :
  whl F ((0:Int),(l.length:Int))=some ((bsR f l:Int),bsT f l):=by
 refine Ok.eq (Ok.whl (I:=λs=>∃i j:Nat,s=((i:Int),(j:Int))∧i≤j∧j≤l.length∧bsG f l i j=bsR f l) (μ:=λs=>(s.2-s.1).toNat) ⟨0,l.length,rfl,by omega,by omega,rfl⟩ ?_ ?_)
 ·show((l.length:Int)-0).toNat<_;omega
 ·rintro s Z ⟨i,j,rfl,h1,h2,h3⟩ hz
  rw[hF i j Z h2]
  split
  ·rename_i hij
   split
   ·rename_i hf
    exact hz _ ⟨_,_,rfl,by omega,h2,by rw[←h3,ahH hij hf]⟩ (by show((j:Int)-_).toNat<((j:Int)-i).toNat;omega)
   ·rename_i hf
    exact hz _ ⟨_,_,rfl,by omega,by omega,by rw[←h3,ahI hij hf]⟩ (by show((((i+j) / 2:Nat):Int)-i).toNat<((j:Int)-i).toNat;omega)
  ·rename_i hij
   have:bsR f l=i:=by rw[←h3,acD (by omega)]
   exact⟨_,rfl,by simp only[bsT,this]⟩
theorem apR(l:List bf)(x:Int)(c:bf→Int→Option Int)(f:bf→Int)(hl:l.length≤1000000)(hc:∀r,c r x=some (f r)):ct l x c=some ((bsR f l:Int),bsT f l):=by
 unfold ct
 refine acF l f hl λi j Z hj=>?_
 by_cases hij:i<j
 ·rw[dif_pos hij]
  simp only[acE (i:=i) (j:=j) (by omega),uz (show(i+j) / 2<l.length by omega),aL,hc,o8]
  rw[if_pos (by omega),cw (by omega) (by omega)]
  rfl
 ·rw[dif_neg hij]
  simp only[o8]
  rw[if_neg (by omega)]
  by_cases hi:i<l.length
  ·rw[if_pos (by omega),uz hi];simp only[aL,hc];simp[hi]
  ·rw[if_neg (by omega)];simp[hi]
theorem bsLk(l:List aV)(x:aV)(c:aV→aV→Option Int)(f:aV→Int)(hl:l.length≤1000000)(hc:∀r,c r x=some (f r)):cK l x c=some ((bsR f l:Int),bsT f l):=by
 unfold cK
 refine acF l f hl λi j Z hj=>?_
 by_cases hij:i<j
 ·rw[dif_pos hij]
  simp only[acE (i:=i) (j:=j) (by omega),uz (show(i+j) / 2<l.length by omega),aL,hc,o8]
  rw[if_pos (by omega),cw (by omega) (by omega)]
  rfl
 ·rw[dif_neg hij]
  simp only[o8]
  rw[if_neg (by omega)]
  by_cases hi:i<l.length
  ·rw[if_pos (by omega),uz hi];simp only[aL,hc];simp[hi]
  ·rw[if_neg (by omega)];simp[hi]
theorem ajh[Inhabited α](hm:∀a b:Nat,a≤b→b<l.length→f (el l a)≤f (el l b)):∀(n i j:Nat),j-i≤n→i≤j→j≤l.length→(∀m:Nat,m<i→f (el l m)<0)→(∀m:Nat,j≤m→m<l.length→0≤f (el l m))→
  bsG f l i j≤l.length∧(∀m:Nat,m<bsG f l i j→f (el l m)<0)∧(∀m:Nat,bsG f l i j≤m→m<l.length→0≤f (el l m)):=by
 intro n
 induction n with
 |zero=>
  intro i j hn hij hj h1 h2
  rw[acD (by omega)]
  exact⟨by omega,h1,λm hm'=>h2 m (by omega)⟩
 |succ n ih=>
  intro i j hn hij hj h1 h2
  by_cases h:i<j
  ·by_cases hf:f (el l ((i+j) / 2:Nat))<0
   ·rw[ahH h hf]
    refine ih _ _ (by omega) (by omega) hj (λm hm'=>?_) h2
    have:=hm m ((i+j) / 2) (by omega) (by omega)
    omega
   ·rw[ahI h hf]
    refine ih _ _ (by omega) (by omega) (by omega) h1 (λm hm' hml=>?_)
    have:=hm ((i+j) / 2) m hm' hml
    omega
  ·rw[acD (by omega)]
   exact⟨by omega,h1,λm hm'=>h2 m (by omega)⟩
theorem aeC[Inhabited α](hm:∀a b:Nat,a≤b→b<l.length→f (el l a)≤f (el l b)):
  bsR f l≤l.length∧(∀m:Nat,m<bsR f l→f (el l m)<0)∧(∀m:Nat,bsR f l≤m→m<l.length→0≤f (el l m)):=
 ajh hm l.length 0 l.length (by omega) (by omega) (by omega) (λm h=>by omega) (λm h1 h2=>by omega)
theorem acG[Inhabited α](hm:∀a b:Nat,a≤b→b<l.length→f (el l a)≤f (el l b)):bsT f l=true↔∃x∈l,f x=0:=by
 obtain⟨h1,h2,h3⟩:=aeC hm
 simp only[bsT,Bool.and_eq_true,decide_eq_true_eq]
 constructor
 ·rintro⟨q1,q2⟩
  exact⟨_,aeB q1,q2⟩
 ·rintro⟨x,hx,hf⟩
  obtain⟨m,hm1,rfl⟩:=List.getElem_of_mem hx
  rw[←vR hm1]at hf
  have hle:bsR f l≤m:=by
   by_cases q:m<bsR f l
   ·have:=h2 m q;omega
   ·omega
  have hlt:bsR f l<l.length:=by omega
  have:=h3 _ (Nat.le_refl _) hlt
  have:=hm _ _ hle hm1
  exact⟨hlt,by omega⟩
theorem rS[Inhabited α](h:l.Pairwise (λa b=>f a≤f b)):∀a b:Nat,a≤b→b<l.length→f (el l a)≤f (el l b):=by
 intro a b hab hb
 rcases Nat.lt_or_eq_of_le hab with hab|rfl
 ·have:=List.pairwise_iff_getElem.1 h a b (by omega) hb hab
  rwa [vR (by omega),vR hb]
 ·exact Int.le_refl _
theorem qj{α:Type}{p:α→α→Bool}(ht:∀a b c,p a b=true→p b c=true→p a c=true):∀{l:List α},gd p l=true→l.Pairwise (λa b=>p a b=true)
 |[],_=>List.Pairwise.nil
 |[x],_=>by simp
 |a::b::r,h=>by
  simp only[gd,Bool.and_eq_true]at h
  have ih:=qj ht h.2
  rw[List.pairwise_cons]
  refine⟨λz hz=>?_,ih⟩
  rcases List.mem_cons.1 hz with rfl|hz
  ·exact h.1
  ·exact ht _ _ _ h.1 ((List.pairwise_cons.1 ih).1 z hz)
theorem og{α:Type}{p:α→α→Bool}:∀{l:List α},l.Pairwise (λa b=>p a b=true)→gd p l=true
 |[],_=>rfl
 |[x],_=>rfl
 |a::b::r,h=>by
  rw[List.pairwise_cons]at h
  simp only[gd,Bool.and_eq_true]
  exact⟨h.1 b (by simp),og h.2⟩
variable {t:aB}
theorem ahJ(h:kB t=true):t.aI.Pairwise (λa b=>a.ID<b.ID):=by
 have:=qj (p:=λa b:bf=>decide (a.ID<b.ID)) (λa b c h1 h2=>by simp at h1 h2 ⊢;omega) h
 exact this.imp (λh=>by simpa using h)
theorem amR(h:kB t=true)(id:Int):∀a b:Nat,a≤b→b<t.aI.length→eF (el t.aI a).ID id≤eF (el t.aI b).ID id:=
 rS (f:=λr:bf=>eF r.ID id) ((ahJ h).imp (λ{a b} h=>by unfold eF;split<;>(try split)<;>(try split)<;>(try split)<;>omega))
def aji(t:aB)(id:Int):Bool:=!bsT (λr=>eF r.ID id) t.aI
theorem afL(h:kB t=true)(id:Int):aji t id=!hasB t id:=by
 simp only[aji,hasB]
 congr 1
 rw[Bool.eq_iff_iff,acG (amR h id)]
 simp[qx]
theorem zw(t:aB):gT t=some (lz t):=by
 unfold gT lz
 by_cases hlen:(decide (24<(t.aI.length:Int))||decide (60<(t.Links.length:Int)))=true
 ·rw[hlen];rfl
 rw[Bool.not_eq_true]at hlen
 rw[hlen]
 simp only[cond_false]
 simp only[Bool.or_eq_false_iff,decide_eq_false_iff_not]at hlen
 rw[cfR t.aI _ zq (λx=>by simp only[mR,jA,aL,zq];congr 1;rw[Bool.eq_iff_iff];simp)]
 simp only[aL]
 unfold kA
 cases t.aI.any zq
 case true=>rfl
 simp only[cond_false]
 refine(zv (λa b:bf=>decide (a.ID<b.ID)) (some 25) ?_ ?_ _).trans ?_
 ·intros;rfl
 ·intro j x y r q s Z h hj
  simp only[jn,nH h hj (by omega),aL,o8]
  rw[if_pos (by omega)]
  split<;>split<;>first|rfl|omega
 cases hB:kB t
 case false=>unfold kB at hB;rw[hB];rfl
 have hB':=hB
 unfold kB at hB'
 rw[hB']
 simp only[cond_true]
 rw[cfL t.Links ko wY (λx=>by
  simp only[ko,jA,aL,wY,s5]
  simp only[o8,Bool.not_and,Bool.cond_eq_ite,Bool.or_eq_true,Bool.not_eq_true',decide_eq_false_iff_not]
  split
  ·congr 1;symm;rw[Bool.eq_iff_iff];simp;omega
  ·split
   ·congr 1;symm;rw[Bool.eq_iff_iff];simp;omega
   ·congr 1;rw[Bool.eq_iff_iff];simp;omega)]
 simp only[aL]
 unfold kC
 cases t.Links.any wY
 case true=>rfl
 simp only[cond_false]
 have hu:∀id,iT id t=some (!hasB t id):=λid=>by
  unfold iT
  rw[apR t.aI id _ (λr=>eF r.ID id) (by omega) (λr=>aeA r id)]
  simp only[aL]
  rw[←afL hB];rfl
 rw[cfL t.Links _ (λl=>!hasB t l.A||!hasB t l.B) (λx=>by
  simp only[mS,hu,aL]
  cases hasB t x.A<;>rfl)]
 simp only[aL]
 unfold kD
 cases t.Links.any _
 case true=>rfl
 simp only[cond_false]
 rw[cfL t.Links mT (λl=>decide (l.B≤l.A)) (λx=>rfl)]
 simp only[aL]
 unfold kE
 cases t.Links.any _
 case true=>rfl
 simp only[cond_false]
 refine(zv ltL (some 25) ?_ ?_ _).trans ?_
 ·intros;rfl
 ·intro j x y r q s Z h hj
  simp only[jn,nH h hj (by omega),aL,aaB,o8]
  rw[if_pos (by omega)]
  cases hlt:ltL y x
  ·have:¬cmpL y x<0:=by rw[aaf,hlt];simp
   rw[if_pos (by omega)];rfl
  ·have:=aaf.2 hlt
   rw[if_neg (by omega)];rfl
 unfold kF
 cases gd ltL t.Links<;>rfl
end Go.Proofs.YtjdopimopgpagaaGreat
namespace Go.Proofs.YtjdopimopgpagaaGreat
set_option linter.all false
open Go
def cA(t:aU):Prop:=0≤t.At∧t.At≤t.L.length∧t.L.length≤600
theorem apT(n:Int):w64 n≤9223372036854775807∧-9223372036854775808≤w64 n:=by
 unfold w64
 rw[IntKind.wrap_i64];omega
theorem apU{x n:Int}(hn:n≤9223372036854775807):Ok (qd x n) (λr=>0≤r∧(1≤n→r<n)∧(n<1→r=0)):=by
 unfold qd
 refine Ok.cs (λh=>Ok.s ?_) λh=>?_
 ·simp at h;omega
 have h:1≤n:=by simpa using h
 have h1:Int.tmod x n<n:=Int.tmod_lt_of_pos _ (by omega)
 have h2 : -n<Int.tmod x n:=Int.lt_tmod_of_pos _ (by omega)
 refine Ok.chk (by simp;omega) ?_
 refine Ok.jn (λr=>0≤r∧r<n) (λs hs=>Ok.s ⟨hs.1,λ_=>hs.2,by omega⟩) λJ hJ=>?_
 refine Ok.cs (λhc=>hJ _ ?_) λhc=>hJ _ ?_
 ·simp at hc;rw[cw (by omega) (by omega)];omega
 ·simp at hc;omega
variable {t:aU}
theorem apV(h:cA t):Ok (oS t) (λp=>cA p.2):=by
 obtain⟨h0,h1,h2⟩:=h
 unfold oS
 refine Ok.cs (λ_=>Ok.s ⟨h0,h1,h2⟩) λhc=>?_
 simp at hc
 have e:w64 (t.At+1)=t.At+1:=cw (by omega) (by omega)
 rw[e,cw (by omega) (by omega)]
 refine Ok.bnd (rj (by omega) (by omega)) λa _=>Ok.s ⟨?_,?_,h2⟩<;>show _<;>simp<;>omega
theorem fJ{n:Int}(h:cA t)(hn:n≤9223372036854775807):Ok (bR t n) (λp=>(0≤p.1∧(1≤n→p.1<n)∧(n<1→p.1=0))∧cA p.2):=by
 unfold bR
 exact Ok.bnd (apV h) λp hp=>Ok.bnd (apU hn) λr hr=>Ok.s ⟨hr,hp⟩
theorem nI{low high:Int}(h:cA t):Ok (dS t low high) (λp=>(-2305843009213693952≤low→low≤high→high<2305843009213693952→low≤p.1∧p.1≤high)∧cA p.2):=by
 unfold dS
 refine Ok.bnd (fJ h (apT _).1) λp hp=>Ok.s ⟨λh1 h2 h3=>?_,hp.2⟩
 obtain⟨⟨q1,q2,_⟩,_⟩:=hp
 rw[cw (n:=high-low) (by omega) (by omega),cw (n:=high-low+1) (by omega) (by omega)]at q2
 show low≤w64 (low+p.1)∧w64 (low+p.1)≤high
 rw[cw (by omega) (by omega)];omega
theorem mK{l:List Int}(h:cA t)(h0:1≤l.length)(h1:l.length≤1000000):Ok (dD t l) (λp=>p.1∈l∧cA p.2):=by
 unfold dD
 refine Ok.bnd (fJ h (by omega)) λp hp=>?_
 exact Ok.bnd (rj hp.1.1 (hp.1.2.1 (by omega))) λa ha=>Ok.s ⟨ha.1,hp.2⟩
theorem zx{n:Int}(h:cA t)(hn:n≤9223372036854775807):Ok (ia t n) (λp=>cA p.2):=by
 unfold ia
 exact Ok.bnd (fJ h hn) λp hp=>Ok.s hp.2
theorem acH(h:cA t):Ok (gi t) (λp=>cA p.2):=by
 unfold gi
 exact Ok.bnd (mK h (by decide) (by decide)) λp hp=>Ok.s hp.2
theorem apW(l:List Int):Ok (vE l) cA:=by
 unfold vE
 refine Ok.jn (λm:List Int=>m.length≤600) (λs hs=>Ok.s ⟨by simp,by simp,hs⟩) λJ hJ=>?_
 refine Ok.cs (λhc=>?_) λhc=>hJ _ ?_
 ·simp at hc
  exact Ok.bnd (aey ⟨by omega,by omega,by omega⟩) λm hm=>hJ _ (by omega)
 ·simp at hc;omega
theorem agM{g:aB}(h:cA t)(hg:g.aI.length≤1000000∧g.Links.length≤1000000):Ok (lD t g) (λp=>(p.1.Links.length≤1∧p.1.aI.length≤1)∧cA p.2):=by
 unfold lD
 refine Ok.jn (λs:Bool×List Int×Int=>(s.1=true→0<g.Links.length)∧cA (aU.mk s.2.1 s.2.2)) (λs hs=>?_) λJ1 hJ1=>?_
 ·obtain⟨v,m1,m2⟩:=s
  refine Ok.cs (λhv=>?_) λhv=>Ok.cs (λ_=>Ok.s ⟨⟨by simp,by simp⟩,hs.2⟩) λhr=>?_
  ·have:=hs.1 hv
   refine Ok.bnd (fJ hs.2 (by omega)) λq hq=>?_
   refine Ok.bnd (rj hq.1.1 (hq.1.2.1 (by omega))) λe _=>?_
   refine Ok.bnd (fJ hq.2 (by omega)) λq2 hq2=>?_
   exact Ok.cs (λ_=>Ok.s ⟨⟨by simp,by simp⟩,hq2.2⟩) λ_=>Ok.s ⟨⟨by simp,by simp⟩,hq2.2⟩
  ·simp at hr
   have:0<g.aI.length:=by
    cases hh:g.aI with
    |nil=>exact absurd hh hr
    |cons a b=>simp
   refine Ok.bnd (fJ hs.2 (by omega)) λq hq=>?_
   exact Ok.bnd (rj hq.1.1 (hq.1.2.1 (by omega))) λe _=>Ok.s ⟨⟨by simp,by simp⟩,hq.2⟩
 ·refine Ok.cs (λhc=>?_) λ_=>hJ1 _ ⟨by simp,h⟩
  exact Ok.bnd (fJ h (by omega)) λq hq=>hJ1 _ ⟨λ_=>by simpa using hc,hq.2⟩
end Go.Proofs.YtjdopimopgpagaaGreat
namespace Go.Proofs.YtjdopimopgpagaaGreat
set_option linter.all false
open Go
variable {α:Type}
theorem amT[DecidableEq α]{l:List α}{v:α}:l.any (λx=>decide (x=v))=decide (v∈l):=by
 rw[Bool.eq_iff_iff];simp
theorem afM(l:List Int)(n:Int):nw l n=some (decide (n∈l)):=by
 unfold nw
 refine(qi (λx:Int=>decide (x=n)) (some true) ?_ _ _ _).trans ?_
 ·intros;rfl
 ·rw[amT];cases decide (n∈l)<;>rfl
theorem afN(l:List Int)(n:Int):ei l n=some (decide (n∈l)):=by
 unfold ei jH
 obtain⟨r,h1,h2⟩:=vQ (B:=λ(j1:Int) (e1:Int) (Z1:Unit→Option Int) (sg:Unit)=>match sg with|()=>bif decide (n=e1)then some (j1:Int)else Z1 ()) (K:=λ(sg:Unit)=>match sg with|()=>some (-1:Int)) (λx=>decide (n=x)) (λj x Z s=>rfl) (λ_=>rfl) l 0 ()
 simp only[h1,aL,h2]
 congr 1
 rw[Bool.eq_iff_iff];simp
def vS(l:List lg)(a b:Int):Bool:=l.any λh=>xe (lg.mk a b) h
theorem ahK(l:List lg)(a b:Int):oT l a b=some (vS l a b||vS l b a):=by
 unfold oT
 refine(qi (λh:lg=>xe (lg.mk a b) h||xe (lg.mk b a) h) (some true) ?_ _ _ _).trans ?_
 ·intro j x Z s
  congr 1
  rw[Bool.eq_iff_iff]
  obtain⟨f,t⟩:=x
  simp[xe]
  constructor
  ·split
   ·rintro(h|h)<;>omega
   ·intro h;omega
  ·rintro(h|h)
   ·rw[if_pos (by omega)];omega
   ·split<;>omega
 ·have:(l.any λh:lg=>xe (lg.mk a b) h||xe (lg.mk b a) h)=(vS l a b||vS l b a):=by
   rw[Bool.eq_iff_iff];simp[vS,List.any_eq_true]
   constructor
   ·rintro⟨x,hx,h|h⟩
    ·exact .inl ⟨x,hx,h⟩
    ·exact .inr ⟨x,hx,h⟩
   ·rintro(⟨x,hx,h⟩|⟨x,hx,h⟩)
    ·exact⟨x,hx,.inl h⟩
    ·exact⟨x,hx,.inr h⟩
  rw[this];cases(vS l a b||vS l b a)<;>rfl
theorem uA{α γ β:Type}{B:Int→α→(List γ→Option β)→List γ→Option β}{K:List γ→Option β}(p:α→Bool)(f:α→γ):
  ∀(l:List α) (j:Nat) (s:List γ),(∀(j:Nat) x Z s,x∈l→s.length<1000000→B j x Z s=bif p x then Z (s++[f x])else Z s)→l.length+s.length≤1000000→bN l j B K s=K (s++(l.filter p).map f)
 |[],j,s,_,_=>by simp[bN]
 |x::r,j,s,hB,h=>by
  simp only[List.length_cons]at h
  simp only[bN]
  rw[hB j x _ s (by simp) (by omega)]
  have hB':∀(j:Nat) y Z s,y∈r→s.length<1000000→B j y Z s=bif p y then Z (s++[f y])else Z s:=λj y Z s hy=>hB j y Z s (by simp[hy])
  cases hp:p x
  ·rw[cond_false,uA p f r (j+1) s hB' (by omega),List.filter_cons_of_neg (by simp[hp])]
  ·rw[cond_true,uA p f r (j+1) (s++[f x]) hB' (by simp;omega),List.filter_cons_of_pos hp]
   simp
theorem agN{s:List α}{x:α}(h:s.length<1000000):dy s [x]=some (s++[x]):=eB (by simp;omega)
theorem adh{a b:List Int}(ha:a.Pairwise (·<·))(hb:b.Pairwise (·<·))(h:∀x,x∈a↔x∈b):a=b:=by
 induction a generalizing b with
 |nil=>
  cases b with
  |nil=>rfl
  |cons y b=>exact absurd ((h y).2 (by simp)) (by simp)
 |cons x a ih=>
  cases b with
  |nil=>exact absurd ((h x).1 (by simp)) (by simp)
  |cons y b=>
   rw[List.pairwise_cons]at ha hb
   have hxy:x=y:=by
    have h1:=(h x).1 (by simp)
    have h2:=(h y).2 (by simp)
    rw[List.mem_cons]at h1 h2
    rcases h1 with h1|h1
    ·exact h1
    ·rcases h2 with h2|h2
     ·exact h2.symm
     ·have:=hb.1 _ h1;have:=ha.1 _ h2;omega
   subst hxy
   congr 1
   refine ih ha.2 hb.2 λz=>?_
   have:=h z
   simp only[List.mem_cons]at this
   constructor
   ·intro hz
    rcases this.1 (.inr hz)with q|q
    ·subst q;have:=ha.1 _ hz;omega
    ·exact q
   ·intro hz
    rcases this.2 (.inr hz)with q|q
    ·subst q;have:=hb.1 _ hz;omega
    ·exact q
variable {l:List Int}
theorem aeD(h:l.Nodup):(jG l).Pairwise (·<·):=by
 have h1:=vw l
 have h2:(jG l).Nodup:=(sH l).nodup_iff.2 h
 have:=h1.and h2
 exact this.imp (λ⟨a,b⟩=>by omega)
variable {x:Int}
theorem adi:x∈jG l↔x∈l:=(sH l).mem_iff
structure Vt(t:aB):Prop where
 nr:t.aI.length≤24
 nl:t.Links.length≤60
 idr:∀r∈t.aI,1≤r.ID∧r.ID≤99
 asc:t.aI.Pairwise (λa b=>a.ID<b.ID)
 okl:∀l∈t.Links,wY l=false
 ends:∀l∈t.Links,hasB t l.A=true∧hasB t l.B=true
 lt:∀l∈t.Links,l.A<l.B
 abk:t.Links.Pairwise (λa b=>ltL a b=true)
theorem wH(a b c:aV)(h1:ltL a b=true)(h2:ltL b c=true):ltL a c=true:=by
 simp[ltL]at *;omega
theorem any_false{l:List α}{p:α→Bool}:l.any p=false↔∀x∈l,p x=false:=by
 rw[List.any_eq_false];simp
variable {t:aB}
theorem kL:lz t=0↔Vt t:=by
 unfold lz
 constructor
 ·intro h
  by_cases h1:(decide (24<(t.aI.length:Int))||decide (60<(t.Links.length:Int)))=true
  ·rw[h1]at h;cases h
  simp only[Bool.not_eq_true]at h1
  rw[h1,cond_false]at h
  cases h2:kA t<;>rw[h2]at h<;>first|cases h;done|skip
  cases h3:kB t<;>rw[h3]at h<;>first|cases h;done|skip
  cases h4:kC t<;>rw[h4]at h<;>first|cases h;done|skip
  cases h5:kD t<;>rw[h5]at h<;>first|cases h;done|skip
  cases h6:kE t<;>rw[h6]at h<;>first|cases h;done|skip
  cases h7:kF t<;>rw[h7]at h<;>first|cases h;done|skip
  simp only[Bool.or_eq_false_iff,decide_eq_false_iff_not]at h1
  refine⟨by omega,by omega,λr hr=>?_,ahJ h3,any_false.1 h4,λl hl=>?_,λl hl=>?_,qj wH h7⟩
  ·have:=any_false.1 h2 r hr;simp[zq]at this;omega
  ·have:=any_false.1 h5 l hl;simpa using this
  ·have:=any_false.1 h6 l hl;simpa using this
 ·intro h
  have h1:(decide (24<(t.aI.length:Int))||decide (60<(t.Links.length:Int)))=false:=by
   have:=h.nr;have:=h.nl;simp;omega
  have h2:kA t=false:=any_false.2 λr hr=>by have:=h.idr r hr;simp[zq];omega
  have h3:kB t=true:=og (h.asc.imp λh=>by simpa using h)
  have h4:kC t=false:=any_false.2 h.okl
  have h5:kD t=false:=any_false.2 λl hl=>by have:=h.ends l hl;simp[this]
  have h6:kE t=false:=any_false.2 λl hl=>by have:=h.lt l hl;simp;omega
  have h7:kF t=true:=og h.abk
  rw[h1,h2,h3,h4,h5,h6,h7];rfl
theorem wI(t:aB):gU t=some (decide (lz t=0)):=by
 unfold gU;rw[zw];rfl
variable {r:Int}
theorem tO:hasB t r=true↔∃x∈t.aI,x.ID=r:=by simp[hasB]
theorem ahL:lz (aB.mk [] [])=0:=rfl
def adR(f:gu)(l:aV):Bool:=decide (l.A∈f.aI)||decide (l.B∈f.aI)||vS f.Links l.A l.B||vS f.Links l.B l.A
def woT(t:aB)(f:gu):aB:=aB.mk (t.aI.filter λr=>!decide (r.ID∈f.aI)) (t.Links.filter λl=>!adR f l)
theorem Vt.wo(h:Vt t)(f:gu):Vt (woT t f):=by
 have sr:(woT t f).aI.Sublist t.aI:=List.filter_sublist
 have sl:(woT t f).Links.Sublist t.Links:=List.filter_sublist
 refine⟨Nat.le_trans sr.length_le h.nr,Nat.le_trans sl.length_le h.nl,λr hr=>h.idr r (sr.subset hr),h.asc.sublist sr,λl hl=>h.okl l (sl.subset hl),λl hl=>?_,λl hl=>h.lt l (sl.subset hl),h.abk.sublist sl⟩
 have hm:=List.mem_filter.1 hl
 have he:=h.ends l hm.1
 have hg:=hm.2
 simp[adR]at hg
 rw[tO,tO]at he ⊢
 obtain⟨⟨x,hx,ex⟩,⟨y,hy,ey⟩⟩:=he
 refine⟨⟨x,List.mem_filter.2 ⟨hx,?_⟩,ex⟩,⟨y,List.mem_filter.2 ⟨hy,?_⟩,ey⟩⟩
 ·rw[ex];simp[hg]
 ·rw[ey];simp[hg]
def vT(t:aB)(f:gu):aB:=if lz t=0 then woT t f else aB.mk [] []
theorem acI(t:aB)(f:gu):Vt (vT t f):=by
 unfold vT
 split
 ·rename_i h;exact(kL.1 h).wo f
 ·exact kL.1 ahL
theorem afh(t:aB)(f:gu):mP t f=some (vT t f):=by
 unfold mP vT
 simp only[si,aL]
 by_cases h:lz t=0
 ·have hv:=kL.1 h
  have:=hv.nr;have:=hv.nl
  simp only[h,decide_true,Bool.not_true,cond_false,if_true]
  refine(uA (λr:bf=>!decide (r.ID∈f.aI)) id _ _ _ ?_ (by simp;omega)).trans ?_
  ·intro j x Z s _ hs
   simp only[jn,afM,aL,agN hs];rfl
  refine(uA (λl:aV=>!adR f l) id _ _ _ ?_ (by simp;omega)).trans ?_
  ·intro j x Z s _ hs
   simp only[jn,afM,ahK,aL,agN hs,adR,id]
   cases decide (x.A∈f.aI)<;>cases decide (x.B∈f.aI)<;>cases vS f.Links x.A x.B<;>cases vS f.Links x.B x.A<;>rfl
  ·simp[woT]
 ·simp[h]
theorem amU(t:aB)(r:Int):qY t r=some (decide (lz t=0)&&hasB t r):=by
 unfold qY
 simp only[si,afJ,aL]
 cases decide (lz t=0)<;>rfl
def yo(t:aB)(r:Int):bf×Bool:=if bsT (λx:bf=>eF x.ID r) t.aI then(el t.aI (bsR (λx:bf=>eF x.ID r) t.aI),true)else(bf.mk 0 false,false)
theorem aeE(t:aB)(r:Int)(hl:t.aI.length≤1000000):kS t r=some (yo t r):=by
 unfold kS yo
 rw[apR t.aI r _ (λx=>eF x.ID r) hl (λx=>aeA x r)]
 simp only[aL]
 cases h:bsT (λx:bf=>eF x.ID r) t.aI
 ·rfl
 ·have h2:bsR (λx:bf=>eF x.ID r) t.aI<t.aI.length:=by
   simp only[bsT,Bool.and_eq_true,decide_eq_true_eq]at h;exact h.1
  simp only[Bool.not_true,cond_false,uz h2,aL,if_true]
theorem acJ(h:Vt t)(r:Int):bsT (λx:bf=>eF x.ID r) t.aI=hasB t r:=by
 have:=afL (t:=t) (og (h.asc.imp λh=>by simpa using h)) r
 simpa [aji]using this
theorem afO(t:aB)(r:Int)(hl:t.aI.length≤1000000):iU t r=some (decide (lz t=0)&&hasB t r):=by
 unfold iU
 simp only[aeE t r hl,wI,aL]
 by_cases h:lz t=0
 ·simp only[h,decide_true,cond_true,Bool.true_and,yo,acJ (kL.1 h)]
  cases hasB t r<;>rfl
 ·simp[h]
theorem find_eq(h:Vt t){x:bf}(hx:x∈t.aI):yo t x.ID=(x,true):=by
 unfold yo
 have h1:hasB t x.ID=true:=tO.2 ⟨x,hx,rfl⟩
 have h2:=acJ h x.ID
 rw[h1]at h2
 rw[if_pos h2]
 simp only[bsT,Bool.and_eq_true,decide_eq_true_eq]at h2
 obtain⟨q1,q2⟩:=h2
 rw[qx]at q2
 have hm:=aeB q1
 have hu:∀a∈t.aI,∀b∈t.aI,a.ID=b.ID→a=b:=by
  intro a ha b hb hab
  obtain⟨i,hi,rfl⟩:=List.getElem_of_mem ha
  obtain⟨j,hj,rfl⟩:=List.getElem_of_mem hb
  have:=List.pairwise_iff_getElem.1 h.asc
  rcases Nat.lt_trichotomy i j with q|q|q
  ·have:=this i j hi hj q;omega
  ·subst q;rfl
  ·have:=this j i hj hi q;omega
 rw[hu _ hm _ hx q2]
theorem uB{σ β:Type}{B:Int→α→(σ→Option β)→σ→Option β}{K:σ→Option β}(p:α→Bool)(g:α→Option β)(hB:∀j x Z s,B j x Z s=bif p x then g x else Z s)(l:List α)(j:Nat)(s:σ):
  bN l j B K s=match l.find? p with|some x=>g x|none=>K s:=
 aae (f:=λl s=>match l.find? p with|some x=>g x|none=>K s) (λs=>rfl) (λj x r s Z hZ=>by
  rw[hB,hZ,List.find?_cons];cases p x<;>rfl) l j s
theorem apX(h:Vt t){a b:bf}(ha:a∈t.aI)(hb:b∈t.aI)(hab:a.ID=b.ID):a=b:=by
 obtain⟨i,hi,rfl⟩:=List.getElem_of_mem ha
 obtain⟨j,hj,rfl⟩:=List.getElem_of_mem hb
 have:=List.pairwise_iff_getElem.1 h.asc
 rcases Nat.lt_trichotomy i j with q|q|q
 ·have:=this i j hi hj q;omega
 ·subst q;rfl
 ·have:=this j i hj hi q;omega
theorem aeF(h:Vt t){a b:aV}(ha:a∈t.Links)(hb:b∈t.Links)(hA:a.A=b.A)(hB:a.B=b.B):a=b:=by
 obtain⟨i,hi,rfl⟩:=List.getElem_of_mem ha
 obtain⟨j,hj,rfl⟩:=List.getElem_of_mem hb
 have:=List.pairwise_iff_getElem.1 h.abk
 rcases Nat.lt_trichotomy i j with q|q|q
 ·have:=this i j hi hj q;simp[ltL]at this;omega
 ·subst q;rfl
 ·have:=this j i hj hi q;simp[ltL]at this;omega
theorem amV(h:Vt t)(hh:hasB t r=false):yo t r=(bf.mk 0 false,false):=by
 unfold yo
 rw[acJ h,hh];rfl
theorem agO(t:aB)(r:Int)(hl:t.aI.length≤1000000):∃b,kr t r=some b∧jk t r=some b:=by
 unfold kr jk
 simp only[aeE t r hl,wI,si,aL]
 by_cases h:lz t=0
 ·have hv:=kL.1 h
  simp only[h,decide_true,cond_true,Bool.not_true,cond_false]
  refine⟨_,rfl,?_⟩
  refine(uB (λx:bf=>decide (x.ID=r)) (λx=>some x.aY) (λ_ _ _ _=>rfl) _ _ _).trans ?_
  cases hf:t.aI.find? (λx=>decide (x.ID=r))with
  |none=>
   have:hasB t r=false:=any_false.2 λx hx=>by simpa using List.find?_eq_none.1 hf x hx
   rw[amV hv this]
  |some x=>
   have hm:=List.mem_of_find?_eq_some hf
   have hp:=List.find?_some hf
   have hp:x.ID=r:=by simpa using hp
   subst hp
   rw[find_eq hv hm]
 ·simp only[h,decide_false,cond_false,Bool.not_false,cond_true]
  exact⟨_,rfl,rfl⟩
def fS(l:aV)(a b:Int):Bool:=(decide (l.A=a)&&decide (l.B=b))||(decide (l.B=a)&&decide (l.A=b))
def mL(a b:Int)(l:aV):Int×Bool:=(bif decide (l.A=a)&&decide (l.B=b)then l.lK else l.kP,true)
def o9(t:aB)(a b:Int):Int×Bool:=match t.Links.find? (λl=>fS l a b)with|some l=>mL a b l|none=>(0,false)
def fV(t:aB)(a b:Int):Bool:=t.Links.any λl=>fS l a b
theorem wJ(t:aB)(a b:Int):lu t a b=some (o9 t a b):=by
 unfold lu o9
 refine(uB (λl:aV=>fS l a b) (λl=>some (mL a b l)) (λj x Z s=>?_) _ _ _).trans ?_
 ·unfold fS mL
  cases decide (x.A=a)&&decide (x.B=b)<;>cases decide (x.B=a)&&decide (x.A=b)<;>rfl
 ·cases t.Links.find? _<;>rfl
theorem adj(t:aB)(a b:Int):(o9 t a b).2=fV t a b:=by
 unfold o9 fV
 cases hf:t.Links.find? (λl=>fS l a b)with
 |none=>symm;exact any_false.2 λx hx=>by simpa using List.find?_eq_none.1 hf x hx
 |some x=>
  symm
  exact List.any_eq_true.2 ⟨x,List.mem_of_find?_eq_some hf,by simpa using List.find?_some hf⟩
variable {a b:Int}
theorem aeG(h:Vt t){l:aV}(hm:l∈t.Links)(he:fS l a b=true):o9 t a b=mL a b l:=by
 unfold o9
 cases hf:t.Links.find? (λl=>fS l a b)with
 |none=>exact absurd he (List.find?_eq_none.1 hf l hm)
 |some x=>
  have hx:=List.mem_of_find?_eq_some hf
  have hp:=List.find?_some hf
  have h1:=h.lt _ hm
  have h2:=h.lt _ hx
  simp[fS]at he hp
  rw[aeF h hx hm (by omega) (by omega)]
theorem amW(h:Vt t)(v:aV):∀a b:Nat,a≤b→b<t.Links.length→cmpL (el t.Links a) v≤cmpL (el t.Links b) v:=by
 refine rS (f:=λl:aV=>cmpL l v) (h.abk.imp λ{a b} hab=>?_)
 have c3:∀x y:Int,eF x y = -1∨eF x y=0∨eF x y=1:=λx y=>by
  unfold eF;split
  ·exact .inl rfl
  ·split
   ·exact .inr (.inr rfl)
   ·exact .inr (.inl rfl)
 have:∀x y:aV,cmpL x y = -1∨cmpL x y=0∨cmpL x y=1:=λx y=>by
  have q1:=c3 x.A y.A
  have q2:=c3 x.B y.B
  simp only[cmpL,orI]
  generalize eF x.A y.A=p at *
  generalize eF x.B y.B=q at *
  by_cases h1:p=0
  ·by_cases h2:q=0<;>simp[h1,h2];omega
  ·simp[h1];omega
 have h1:=@aaf a v
 have h2:=@aaf b v
 have h3:=@cmpL_eq a v
 have h4:=@cmpL_eq b v
 have q1:=this a v
 have q2:=this b v
 simp[ltL]at hab h1 h2
 omega
theorem aeH(t:aB)(a b:Int)(hl:t.Links.length≤1000000):jo t a b=some (if lz t=0 then o9 t a b else(0,false)):=by
 unfold jo
 simp only[wI,aL]
 by_cases h:lz t=0
 ·have hv:=kL.1 h
  simp only[h,decide_true,Bool.not_true,cond_false,if_true]
  generalize hv2:aV.mk (if b<a then b else a) (if b>a then b else a) 0 0 0=v
  rw[bsLk t.Links v _ (λx=>cmpL x v) hl (λx=>aaB x v)]
  simp only[aL]
  have hA:v.A=if b<a then b else a:=by rw[←hv2]
  have hB:v.B=if b>a then b else a:=by rw[←hv2]
  cases hT:bsT (λx:aV=>cmpL x v) t.Links
  ·simp only[Bool.not_false,cond_true]
   congr 1
   unfold o9
   cases hf:t.Links.find? (λl=>fS l a b)with
   |none=>rfl
   |some x=>
    exfalso
    have hx:=List.mem_of_find?_eq_some hf
    have hp:=List.find?_some hf
    have h2:=h
    have:=(acG (f:=λx:aV=>cmpL x v) (amW hv v)).2 ⟨x,hx,by
     rw[cmpL_eq,hA,hB]
     have:=hv.lt _ hx
     simp[fS]at hp
     split<;>split<;>omega⟩
    rw[hT]at this;cases this
  ·simp only[bsT,Bool.and_eq_true,decide_eq_true_eq]at hT
   obtain⟨q1,q2⟩:=hT
   rw[cmpL_eq,hA,hB]at q2
   have hm:=aeB q1
   simp only[Bool.not_true,cond_false,uz q1,aL]
   have hlt:=hv.lt _ hm
   have e:fS (el t.Links (bsR (λx:aV=>cmpL x v) t.Links)) a b=true:=by
    simp[fS];by_cases q3:b<a<;>by_cases q4:b>a<;>simp only[q3,q4,if_true,if_false]at q2<;>omega
   rw[aeG hv hm e]
   unfold mL
   by_cases hab:a<b
   ·have:decide (a<b)=true:=by simpa using hab
    rw[this,cond_true]
    have:(decide ((el t.Links (bsR (λx:aV=>cmpL x v) t.Links)).A=a)&&decide ((el t.Links (bsR (λx:aV=>cmpL x v) t.Links)).B=b))=true:=by
     simp;by_cases q3:b<a<;>by_cases q4:b>a<;>simp only[q3,q4,if_true,if_false]at q2<;>omega
    rw[this];rfl
   ·have:decide (a<b)=false:=by simpa using hab
    rw[this,cond_false]
    have:(decide ((el t.Links (bsR (λx:aV=>cmpL x v) t.Links)).A=a)&&decide ((el t.Links (bsR (λx:aV=>cmpL x v) t.Links)).B=b))=false:=by
     simp;by_cases q3:b<a<;>by_cases q4:b>a<;>simp only[q3,q4,if_true,if_false]at q2<;>omega
    rw[this];rfl
 ·simp[h]
def ids(t:aB):List Int:=t.aI.map (·.ID)
theorem aeI(h:Vt t):(ids t).Pairwise (·<·):=List.pairwise_map.2 h.asc
theorem tP:r∈ids t↔hasB t r=true:=by rw[tO];simp[ids]
theorem pE:fV t a b=true↔∃l∈t.Links,(l.A=a∧l.B=b)∨(l.B=a∧l.A=b):=by
 simp[fV,fS]
theorem vU(h:fV t a b=true):fV t b a=true:=by
 rw[pE]at h ⊢
 obtain⟨l,hl,h⟩:=h
 exact⟨l,hl,by omega⟩
theorem aeJ(hv:Vt t)(h:fV t a b=true):a≠b:=by
 rw[pE]at h
 obtain⟨l,hl,h⟩:=h
 have:=hv.lt l hl
 omega
theorem tQ(hv:Vt t)(h:fV t a b=true):b∈ids t:=by
 rw[pE]at h
 obtain⟨l,hl,h⟩:=h
 have:=hv.ends l hl
 rcases h with⟨h1,h2⟩|⟨h1,h2⟩<;>rw[tP,←h2]
 ·exact this.2
 ·exact this.1
def iN(t:aB)(r:Int):List Int:=(ids t).filter λx=>fV t r x
theorem vV(hv:Vt t)(r:Int):(iN t r).Pairwise (·<·):=(aeI hv).sublist List.filter_sublist
theorem iF(hv:Vt t):x∈iN t r↔fV t r x=true:=by
 unfold iN;rw[List.mem_filter]
 exact⟨λh=>h.2,λh=>⟨tQ hv h,h⟩⟩
theorem ajj(hv:Vt t)(r:Int):qe t r=some (iN t r):=by
 unfold qe
 have:=hv.nr
 refine(uA (λx:bf=>fV t r x.ID) (·.ID) _ _ _ ?_ (by simp;omega)).trans ?_
 ·intro j x Z s _ hs
  simp only[jn,wJ,adj,aL,agN hs]
 ·simp only[List.nil_append,iN,ids]
  rw[List.filter_map];rfl
def rq(r:Int)(l:aV):Option Int:=if r=l.A then some l.B else if r=l.B then some l.A else none
theorem zy{α γ β:Type}{B:Int→α→(List γ→Option β)→List γ→Option β}{K:List γ→Option β}(f:α→Option γ):
  ∀(l:List α) (j:Nat) (s:List γ),(∀(j:Nat) x Z s,x∈l→s.length<1000000→B j x Z s=match f x with|some y=>Z (s++[y])|none=>Z s)→l.length+s.length≤1000000→bN l j B K s=K (s++l.filterMap f)
 |[],j,s,_,_=>by simp[bN]
 |x::r,j,s,hB,h=>by
  simp only[List.length_cons]at h
  simp only[bN]
  rw[hB j x _ s (by simp) (by omega)]
  have hB':∀(j:Nat) y Z s,y∈r→s.length<1000000→B j y Z s=match f y with|some y=>Z (s++[y])|none=>Z s:=λj y Z s hy=>hB j y Z s (by simp[hy])
  cases hp:f x with
  |none=>simp only;rw[zy f r (j+1) s hB' (by omega),List.filterMap_cons_none hp]
  |some y=>simp only;rw[zy f r (j+1) (s++[y]) hB' (by simp;omega),List.filterMap_cons_some hp];simp
theorem afi(hv:Vt t)(r:Int):(t.Links.filterMap (rq r)).Nodup:=by
 have key:∀l:List aV,(∀x∈l,x.A<x.B)→l.Pairwise (λa b=>ltL a b=true)→(l.filterMap (rq r)).Nodup:=by
  intro l
  induction l with
  |nil=>intros;simp
  |cons x l ih=>
   intro h1 h2
   rw[List.pairwise_cons]at h2
   have ih:=ih (λy hy=>h1 y (by simp[hy])) h2.2
   cases hx:rq r x with
   |none=>rw[List.filterMap_cons_none hx];exact ih
   |some y=>
    rw[List.filterMap_cons_some hx,List.nodup_cons]
    refine⟨λhm=>?_,ih⟩
    obtain⟨z,hz,hzy⟩:=List.mem_filterMap.1 hm
    have h3:=h2.1 z hz
    have h4:=h1 x (by simp)
    have h5:=h1 z (by simp[hz])
    unfold rq at hx hzy
    simp[ltL]at h3
    split at hx<;>split at hzy<;>(try split at hx)<;>(try split at hzy)<;>simp at hx hzy<;>omega
 exact key _ hv.lt hv.abk
theorem ahM(hv:Vt t):x∈t.Links.filterMap (rq r)↔fV t r x=true:=by
 rw[List.mem_filterMap,pE]
 constructor
 ·rintro⟨l,hl,h⟩
  unfold rq at h
  refine⟨l,hl,?_⟩
  split at h
  ·simp at h;omega
  ·split at h
   ·simp at h;omega
   ·cases h
 ·rintro⟨l,hl,h⟩
  refine⟨l,hl,?_⟩
  have:=hv.lt l hl
  unfold rq
  rcases h with h|h
  ·rw[if_pos (by omega),h.2]
  ·rw[if_neg (by omega),if_pos (by omega),h.2]
theorem aeK(hv:Vt t)(r:Int):gJ t r=some (iN t r):=by
 unfold gJ
 have:=hv.nl
 refine(zy (rq r) _ _ _ ?_ (by simp;omega)).trans ?_
 ·intro j x Z s _ hs
  simp only[jn,agN hs,aL,rq]
  by_cases h1:r=x.A
  ·simp[h1]
  ·by_cases h2:r=x.B<;>simp[h1,h2]
   simp[←h2,h1]
 ·have hlen:(t.Links.filterMap (rq r)).length≤60:=Nat.le_trans (List.length_filterMap_le _ _) (by omega)
  simp only[List.nil_append]
  rw[ng (by simp;omega)]
  congr 1
  refine adh (aeD (afi hv r)) (vV hv r) λx=>?_
  rw[adi,ahM hv,iF hv]
theorem acK(t:aB)(r:Int):iV t r=some (if lz t=0 then iN t r else[]):=by
 unfold iV
 simp only[wI,aL]
 by_cases h:lz t=0
 ·simp[h,aeK (kL.1 h),aL]
 ·simp[h]
end Go.Proofs.YtjdopimopgpagaaGreat
namespace Go.Proofs.YtjdopimopgpagaaGreat
set_option linter.all false
open Go
variable {α β σ:Type}{L:List α}{G:Option β→Prop}{B:Int→α→(σ→Option β)→σ→Option β}{K:σ→Option β}
theorem atu(I:List α→σ→Prop)
  (hc:∀(p:List α) x r s Z,L=p++x::r→I p s→(∀s',I (p++[x]) s'→G (Z s'))→G (B (p.length:Int) x Z s)) (s:σ) (h:I [] s) (hn:∀s,I L s→G (K s)):G (bN L 0 B K s):=by
 have key:∀(l p:List α) (s:σ),L=p++l→I p s→G (bN l p.length B K s):=by
  intro l
  induction l with
  |nil=>intro p s hj h;exact hn s (by rw[hj,List.append_nil];exact h)
  |cons x r ih=>
   intro p s hj h
   refine hc p x r s _ hj h λs' h'=>?_
   have:=ih (p++[x]) s' (by simp[hj]) h'
   rwa [List.length_append]at this
 exact key L [] s rfl h
theorem gwhl{F:(σ→Option β)→σ→Option β}(I:σ→Prop)(μ:σ→Nat){s:σ}(h:I s)(hm:μ s<1099511627776)
  (hc:∀s Z,I s→(∀s',I s'→μ s'<μ s→G (Z s'))→G (F Z s)):G (whl F s):=by
 have key:∀(n:Nat) (s:σ),I s→μ s<n→G (iter F n s):=by
  intro n
  induction n with
  |zero=>intro s _ h;omega
  |succ n ih=>intro s h hm;exact hc s _ h λs' h' hm'=>ih s' h' (by omega)
 exact key fuel s h hm
theorem Ok.qN{Q:β→Prop}(I:List α→σ→Prop)
  (hc:∀(p:List α) x r s Z,L=p++x::r→I p s→(∀s',I (p++[x]) s'→Ok (Z s') Q)→Ok (B (p.length:Int) x Z s) Q) (s:σ) (h:I [] s) (hn:∀s,I L s→Ok (K s) Q):Ok (Go.Proofs.YtjdopimopgpagaaGreat.bN L 0 B K s) Q:=by
 have key:∀(l p:List α) (s:σ),L=p++l→I p s→Ok (Go.Proofs.YtjdopimopgpagaaGreat.bN l p.length B K s) Q:=by
  intro l
  induction l with
  |nil=>intro p s hj h;exact hn s (by rw[hj,List.append_nil];exact h)
  |cons x r ih=>
   intro p s hj h
   refine hc p x r s _ hj h λs' h'=>?_
   have:=ih (p++[x]) s' (by simp[hj]) h'
   rwa [List.length_append]at this
 exact key L [] s rfl h
theorem uC{a b:List Int}(h:a.Nodup)(hs:∀x∈a,x∈b):a.length≤b.length:=by
 induction a generalizing b with
 |nil=>simp
 |cons x a ih=>
  rw[List.nodup_cons]at h
  have hx:=hs x (by simp)
  have:=ih (b:=b.erase x) h.2 λy hy=>(List.mem_erase_of_ne (λe=>h.1 (by rw[←e];exact hy))).2 (hs y (by simp[hy]))
  rw[List.length_erase_of_mem hx]at this
  have:=List.length_pos_of_mem hx
  simp only[List.length_cons];omega
inductive Cn(t:aB)(c:List Int):Int→Int→Prop
 |refl {a:Int} (h:a∉c):Cn t c a a
 |step {a b d:Int} (h:Cn t c a b) (ha:fV t b d=true) (hd:d∉c):Cn t c a d
variable {a b:Int}{c:List Int}{t:aB}
theorem Cn.trans{d:Int}(h1:Cn t c a b)(h2:Cn t c b d):Cn t c a d:=by
 induction h2 with
 |refl _=>exact h1
 |step _ ha hd ih=>exact .step ih ha hd
theorem Cn.left(h:Cn t c a b):a∉c:=by
 induction h with
 |refl h=>exact h
 |step _ _ _ ih=>exact ih
theorem Cn.right(h:Cn t c a b):b∉c:=by
 cases h with
 |refl h=>exact h
 |step _ _ hd=>exact hd
theorem Cn.symm(h:Cn t c a b):Cn t c b a:=by
 induction h with
 |refl h=>exact .refl h
 |step h ha hd ih=>exact(Cn.step (.refl hd) (vU ha) h.right).trans ih
theorem Cn.ids{t:aB}(hv:Vt t){c:List Int}{a b:Int}(h:Cn t c a b)(ha:a∈ids t):b∈ids t:=by
 cases h with
 |refl h=>exact ha
 |step _ hd _=>exact tQ hv hd
theorem Cn.stays{S:Int→Prop}(h:Cn t c a b)(ha:S a)(hs:∀x,S x→∀y,fV t x y=true→S y∨y∈c):S b:=by
 induction h with
 |refl _=>exact ha
 |step _ hd hc ih=>exact(hs _ ih _ hd).resolve_right hc
open Classical in
noncomputable def abW(t:aB)(c:List Int)(r:Int):List Int:=(ids t).filter λx=>decide (Cn t c r x)
variable {r:Int}
theorem adk(hv:Vt t){x:Int}(hr:r∈ids t):x∈abW t c r↔Cn t c r x:=by
 unfold abW
 rw[List.mem_filter]
 simp only[decide_eq_true_eq]
 exact⟨λh=>h.2,λh=>⟨h.ids hv hr,h⟩⟩
theorem ajk(hv:Vt t)(c:List Int)(r:Int):(abW t c r).Pairwise (·<·):=(aeI hv).sublist List.filter_sublist
theorem acL(hv:Vt t):(ids t).length≤24:=by have:=hv.nr;simpa [ids]using this
theorem apZ(hv:Vt t)(c:List Int):∀(n:Nat) (r:Int) (out:List Int),out.Nodup→(∀x∈out,x∈ids t)→r∈ids t→(ids t).length+1≤n+out.length→
  Ok (iq n r out c t.aI t.Links) (λo=>∃new,o=out++new∧o.Nodup∧(∀x∈new,Cn t c r x)∧(r∈o∨r∈c)∧(∀x∈new,∀y,fV t x y=true→y∈o∨y∈c)):=by
 intro n
 induction n with
 |zero=>intro r out h1 h2 _ h3;have:=uC h1 h2;omega
 |succ n ih=>
  intro r out h1 h2 hr h3
  unfold iq
  simp only[afN,aL,jn]
  by_cases q1:r∈out
  ·simp only[q1,decide_true,cond_true]
   exact Ok.s ⟨[],by simp,h1,by simp,.inl q1,by simp⟩
  ·simp only[q1,decide_false,cond_false]
   by_cases q2:r∈c
   ·simp only[q2,decide_true,cond_true]
    exact Ok.s ⟨[],by simp,h1,by simp,by simp[q2],by simp⟩
   ·simp only[q2,decide_false,cond_false]
    have hol:=uC h1 h2
    have:=acL hv
    rw[eB (by simp;omega),aL,show(aB.mk t.aI t.Links)=t from rfl,aeK hv,aL]
    refine Ok.qN (λp m=>∃new,m=(out++[r])++new∧m.Nodup∧(∀x∈new,Cn t c r x)∧(∀x∈p,x∈m∨x∈c)∧(∀x∈new,∀y,fV t x y=true→y∈m∨y∈c)) ?_ _ ?_ ?_
    ·rintro p e rest m Z hL ⟨new,hm,hnd,hcn,hp,had⟩ hZ
     have zz:fV t r e=true:=(iF hv).1 (by rw[hL];simp)
     have hsub:∀x∈m,x∈ids t:=by
      intro x hx
      rw[hm]at hx
      simp only[List.mem_append,List.mem_cons,List.not_mem_nil,or_false]at hx
      rcases hx with(hx|rfl)|hx
      ·exact h2 x hx
      ·exact hr
      ·exact(hcn x hx).ids hv hr
     refine Ok.bnd (ih e m hnd hsub (tQ hv zz) (by rw[hm];simp;omega)) ?_
     rintro o ⟨new2,ho,hond,hocn,hoe,hoad⟩
     refine hZ _ ⟨new++new2,by rw[ho,hm];simp,hond,?_,?_,?_⟩
     ·intro x hx
      rcases List.mem_append.1 hx with hx|hx
      ·exact hcn x hx
      ·have:=hocn x hx
       exact(Cn.step (.refl q2) zz this.left).trans this
     ·intro x hx
      rcases List.mem_append.1 hx with hx|hx
      ·rcases hp x hx with h|h
       ·exact .inl (by rw[ho];simp[h])
       ·exact .inr h
      ·simp only[List.mem_cons,List.not_mem_nil,or_false]at hx;subst hx;exact hoe
     ·intro x hx y hy
      rcases List.mem_append.1 hx with hx|hx
      ·rcases had x hx y hy with h|h
       ·exact .inl (by rw[ho];simp[h])
       ·exact .inr h
      ·exact hoad x hx y hy
    ·refine⟨[],by simp,?_,by simp,by simp,by simp⟩
     rw[List.nodup_append]
     refine⟨h1,by simp,?_⟩
     intro a ha b hb
     simp only[List.mem_cons,List.not_mem_nil,or_false]at hb
     subst hb
     exact λe=>q1 (e▸ha)
    ·rintro m ⟨new,hm,hnd,hcn,hp,had⟩
     refine Ok.s ⟨r::new,by rw[hm];simp,hnd,?_,.inl (by rw[hm];simp),?_⟩
     ·intro x hx
      rcases List.mem_cons.1 hx with rfl|hx
      ·exact .refl q2
      ·exact hcn x hx
     ·intro x hx y hy
      rcases List.mem_cons.1 hx with rfl|hx
      ·exact hp y ((iF hv).2 hy)
      ·exact had x hx y hy
theorem afj(hv:Vt t)(hr:r∈ids t)(c:List Int):ku t r c=some (abW t c r):=by
 have:=acL hv
 obtain⟨o,h1,new,ho,hnd,hcn,hro,had⟩:=apZ hv c fuel r [] List.nodup_nil (by simp) hr (by unfold fuel;simp;omega)
 unfold ku
 rw[h1,aL]
 rw[List.nil_append]at ho
 subst ho
 have hlen:=uC hnd λx hx=>(hcn x hx).ids hv hr
 rw[ng (by simp;omega)]
 congr 1
 refine adh (aeD hnd) (ajk hv c r) λx=>?_
 rw[adi,adk hv hr]
 refine⟨hcn x,λh=>?_⟩
 have hro:=hro.resolve_right h.left
 exact h.stays (S:=λx=>x∈o) hro had
end Go.Proofs.YtjdopimopgpagaaGreat
namespace Go.Proofs.YtjdopimopgpagaaGreat
set_option linter.all false
open Go
open Classical in
noncomputable def abl(t:aB)(a b:Int):Bool:=decide (lz t=0)&&hasB t a&&hasB t b&&decide (Cn t [] a b)
theorem ajl{t:aB}(hv:Vt t){c:List Int}{a b:Int}(ha:a∈ids t):decide (b∈abW t c a)=@decide (Cn t c a b) (Classical.propDecidable _):=by
 rw[Bool.eq_iff_iff];simp[adk hv ha]
theorem adG(t:aB)(a b:Int)(hl:t.aI.length≤1000000):ir t a b=some (abl t a b):=by
 unfold ir abl
 simp only[afO _ _ hl,aL]
 by_cases h:lz t=0
 ·have hv:=kL.1 h
  simp only[h,decide_true,Bool.true_and]
  cases ha:hasB t a
  ·rfl
  ·cases hb:hasB t b
   ·rfl
   ·simp only[cond_true,afj hv (tP.2 ha),aL,afN,ajl hv (tP.2 ha),Bool.true_and]
 ·simp[h]
end Go.Proofs.YtjdopimopgpagaaGreat
