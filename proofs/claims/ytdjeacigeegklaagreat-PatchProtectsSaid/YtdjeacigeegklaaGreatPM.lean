/- Several texts in one. No condition but those that stand in each. -/
import Derived.Test.YtdjeacigeegklaaGreatDA
namespace Go.Proofs.YtdjeacigeegklaaGreat
set_option linter.all false
open Go
variable {α β:Type}
theorem aM(a:α)(k:α→Option β):bnd (some a) k=k a:=rfl
variable {c:Bool}
theorem anE{k:Option β}(h:c=true):chk c k=k:=by subst h;rfl
theorem qV{p:Prop}[Decidable p]{x y:α}:(bif decide p then x else y)=if p then x else y:=by
 by_cases h:p<;>simp[h]
theorem yb{α σ β:Type}{B:Int→α→(σ→Option β)→σ→Option β}{K:σ→Option β}(f:List α→σ→Option β)(hn:∀s,K s=f [] s)
  (hc:∀(j:Int) x r s Z,(∀s',Z s'=f r s')→B j x Z s=f (x::r) s):∀(l:List α) (j:Nat) (s:σ),bO l j B K s=f l s
 |[],_,s=>hn s
 |x::r,j,s=>hc j x r s _ λs'=>yb f hn hc r (j+1) s'
theorem agf{α σ β:Type}{B:Int→α→(σ→Option β)→σ→Option β}{K:σ→Option β}{L:List α}(f:List α→List α→σ→Option β)(hn:∀s,K s=f L [] s)
  (hc:∀p x r s Z,p++x::r=L→(∀s',Z s'=f (p++[x]) r s')→B (p.length:Int) x Z s=f p (x::r) s):∀(l p:List α) (s:σ),p++l=L→bO l p.length B K s=f p l s
 |[],p,s,h=>by rw[List.append_nil]at h;subst h;exact hn s
 |x::r,p,s,h=>hc p x r s _ h λs'=>by
   have:=agf (B:=B) (K:=K) f hn hc r (p++[x]) s' (by simpa using h)
   rw[List.length_append]at this
   exact this
def Ok{β:Type}(o:Option β)(Q:β→Prop):Prop:=∃r,o=some r∧Q r
variable {Q:β→Prop}
theorem Ok.s{r:β}(h:Q r):Ok (some r) Q:=⟨r,rfl,h⟩
theorem Ok.bnd{α β:Type}{o:Option α}{k:α→Option β}{P:α→Prop}{Q:β→Prop}(h:Ok o P)(hk:∀a,P a→Ok (k a) Q):Ok (bnd o k) Q:=by
 obtain⟨a,rfl,ha⟩:=h;exact hk a ha
theorem Ok.cs{x y:Option β}(h1:c=true→Ok x Q)(h2:c=false→Ok y Q):Ok (bif c then x else y) Q:=by
 cases c
 ·exact h2 rfl
 ·exact h1 rfl
theorem Ok.chk{β:Type}{c:Bool}{k:Option β}{Q:β→Prop}(h:c=true)(hk:Ok k Q):Ok (chk c k) Q:=by subst h;exact hk
theorem Ok.jn{σ β:Type}{k:σ→Option β}{t:(σ→Option β)→Option β}{Q:β→Prop}(R:σ→Prop)(h1:∀s,R s→Ok (k s) Q)(h2:∀J,(∀s,R s→Ok (J s) Q)→Ok (t J) Q):Ok (jn k t) Q:=h2 k h1
variable {o:Option β}
theorem Ok.mono{Q':β→Prop}(h:Ok o Q)(hq:∀r,Q r→Q' r):Ok o Q':=by
 obtain⟨r,h1,h2⟩:=h;exact⟨r,h1,hq r h2⟩
theorem Ok.bO{α σ β:Type}{B:Int→α→(σ→Option β)→σ→Option β}{K:σ→Option β}{Q:β→Prop}(I:Nat→σ→Prop)
  (hc:∀(j:Nat) x s Z,I j s→(∀s',I (j+1) s'→Ok (Z s') Q)→Ok (B (j:Int) x Z s) Q):∀(l:List α) (j:Nat) (s:σ),I j s→(∀s,I (j+l.length) s→Ok (K s) Q)→Ok (bO l j B K s) Q
 |[],j,s,h,hn=>hn s (by simpa using h)
 |x::r,j,s,h,hn=>hc j x s _ h λs' h'=>Ok.bO I hc r (j+1) s' h' λs hs=>hn s (by rwa [List.length_cons,←Nat.add_assoc,Nat.add_right_comm])
variable {σ:Type}{B:Int→α→(σ→Option β)→σ→Option β}{K:σ→Option β}
theorem Ok.forM(I:Nat→σ→Prop){L:List α}
  (hc:∀(j:Nat) x s Z,j<L.length→x∈L→I j s→(∀s',I (j+1) s'→Ok (Z s') Q)→Ok (B (j:Int) x Z s) Q) (s:σ) (h:I 0 s) (hn:∀s,I L.length s→Ok (K s) Q):Ok (Go.Proofs.YtdjeacigeegklaaGreat.bO L 0 B K s) Q:=by
 have key:∀(l:List α) (j:Nat) (s:σ),(∀x∈l,x∈L)→j+l.length=L.length→I j s→Ok (Go.Proofs.YtdjeacigeegklaaGreat.bO l j B K s) Q:=by
  intro l
  induction l with
  |nil=>intro j s _ hj h;exact hn s (by simpa [←hj]using h)
  |cons x r ih=>
   intro j s hm hj h
   simp only[List.length_cons]at hj
   exact hc j x s _ (by omega) (hm x (by simp)) h λs' h'=>ih (j+1) s' (λy hy=>hm y (by simp[hy])) (by omega) h'
 exact key L 0 s (λ_ h=>h) (by simp) h
theorem Ok.nM{σ β:Type}{B:Int→(σ→Option β)→σ→Option β}{K:Int→σ→Option β}{Q:β→Prop}(I:Int→σ→Prop)(lo hi:Int)
  (hc:∀(i:Int) s Z,lo≤i→i<hi→I i s→(∀s',I (i+1) s'→Ok (Z s') Q)→Ok (B i Z s) Q) (hn:∀i s,lo≤i→(lo≤hi→i=hi)→I i s→Ok (K i s) Q):∀(n:Nat) (i:Int) (s:σ),n=(hi-i).toNat→lo≤i→(lo≤hi→i≤hi)→I i s→Ok (nM n i B K s) Q
 |0,i,s,hn0,h1,h2,h=>hn i s h1 (λhh=>by have:=h2 hh;omega) h
 |n+1,i,s,hn0,h1,h2,h=>hc i s _ h1 (by omega) h λs' h'=>Ok.nM I lo hi hc hn n (i+1) s' (by omega) (by omega) (λ_=>by omega) h'
theorem Ok.iter{σ β:Type}{F:(σ→Option β)→σ→Option β}{Q:β→Prop}(I:σ→Prop)(μ:σ→Nat)
  (hc:∀s Z,I s→(∀s',I s'→μ s'<μ s→Ok (Z s') Q)→Ok (F Z s) Q):∀(n:Nat) (s:σ),I s→μ s<n→Ok (iter F n s) Q
 |0,s,_,h=>by omega
 |n+1,s,h,hm=>hc s _ h λs' h' hm'=>Ok.iter I μ hc n s' h' (by omega)
theorem Ok.whl{σ β:Type}{F:(σ→Option β)→σ→Option β}{Q:β→Prop}(I:σ→Prop)(μ:σ→Nat){s:σ}(h:I s)(hm:μ s<1099511627776)
  (hc:∀s Z,I s→(∀s',I s'→μ s'<μ s→Ok (Z s') Q)→Ok (F Z s) Q):Ok (whl F s) Q:=Ok.iter I μ hc fuel s h hm
theorem Ok.get(h:Ok o Q):∃r,o=some r∧Q r:=h
theorem Ok.eq{r:β}(h:Ok o (λx=>x=r)):o=some r:=by obtain⟨x,h1,rfl⟩:=h;exact h1
theorem auv(p:List α)(x:α)(r:List α):elO (p++x::r) (p.length:Int)=some x:=by
 unfold elO;rw[if_pos (by omega)];simp
variable {i:Int}{l:List α}
theorem iQ(h0:0≤i)(h:i<l.length):Ok (elO l i) (λx=>x∈l∧l[i.toNat]?=some x):=by
 unfold elO;rw[if_pos h0]
 have:i.toNat<l.length:=by omega
 exact⟨l[i.toNat],List.getElem?_eq_getElem this,List.getElem_mem this,List.getElem?_eq_getElem this⟩
variable {r:List α}
theorem nu(h:l.length+r.length≤549755813888):dL l r=some (l++r):=by unfold dL;rw[if_pos (by unfold cap;exact h)]
theorem p8(h:l.length+r.length≤549755813888):Ok (dL l r) (λm=>m=l++r∧m.length=l.length+r.length):=⟨_,nu h,rfl,by simp⟩
theorem agh{x:α}(h0:0≤i)(h:i<l.length):Ok (sO l i x) (λm=>m=l.set i.toNat x∧m.length=l.length):=by
 unfold sO;rw[if_pos ⟨h0,h⟩];exact⟨_,rfl,rfl,by simp⟩
theorem wg{a b:Int}(h:0≤a∧a≤b∧b≤l.length):Ok (mJ l a b) (λm=>m=(l.take b.toNat).drop a.toNat∧(m.length:Int)=b-a):=by
 unfold mJ;rw[if_pos h];exact⟨_,rfl,rfl,by simp;omega⟩
theorem gL(p:α→Bool)(a:Option β)(hB:∀j x Z s,B j x Z s=bif p x then a else Z s)(l:List α)(j:Nat)(s:σ):bO l j B K s=bif l.any p then a else K s:=
 yb (f:=λl s=>bif l.any p then a else K s) (λs=>rfl) (λj x r s Z hZ=>by
  rw[hB,hZ,List.any_cons];cases p x<;>rfl) l j s
end Go.Proofs.YtdjeacigeegklaaGreat
namespace Go.Proofs.YtdjeacigeegklaaGreat
set_option linter.all false
open Go
def xb(n:Int):Bool:=decide (1≤n)&&decide (n≤1000)
def hasB(t:aa)(r:Int):Bool:=t.ah.any λx=>decide (x.ID=r)
def aaq(r:aR):Bool:=decide (r.ID<1)||decide (99<r.ID)
def uI(l:aW):Bool:=!xb l.jh||!xb l.ji||decide (l.oL<0)||decide (1000<l.oL)
def ltL(a b:aW):Bool:=decide (a.A<b.A)||(decide (a.A=b.A)&&decide (a.B<b.B))
def jZ{α:Type}(p:α→α→Bool):List α→Bool
 |a::b::r=>p a b&&jZ p (b::r)
 |_=>true
def kA(t:aa):Bool:=t.ah.any aaq
def kB(t:aa):Bool:=jZ (λa b=>decide (a.ID<b.ID)) t.ah
def kC(t:aa):Bool:=t.Links.any uI
def kD(t:aa):Bool:=t.Links.any λl=>!hasB t l.A||!hasB t l.B
def kE(t:aa):Bool:=t.Links.any λl=>decide (l.B≤l.A)
def kF(t:aa):Bool:=jZ ltL t.Links
def eS(t:aa):Int:=
 bif decide (24<(t.ah.length:Int))||decide (60<(t.Links.length:Int))then 3
 else bif kA t then 2 else bif kB t then(bif kC t then 2 else bif kD t then 4 else bif kE t then 8 else bif kF t then 0 else 25)else 25
theorem acj{α σ β:Type}{B:Int→α→(σ→Option β)→σ→Option β}{K:σ→Option β}{L:List α}(p:α→α→Bool)(a:Option β)
  (hB:∀(j:Nat) x y r q s Z,L=q++y::x::r→j=q.length+1→B (j:Int) x Z s=bif p y x then Z s else a):∀(r q:List α) (y:α) (s:σ),L=q++y::r→bO r (q.length+1) B K s=bif jZ p (y::r)then K s else a
 |[],q,y,s,h=>rfl
 |x::r,q,y,s,h=>by
  simp only[bO]
  rw[hB (q.length+1) x y r q s _ h rfl]
  have:=acj (B:=B) (K:=K) p a hB r (q++[y]) x s (by simpa using h)
  simp only[List.length_append,List.length_cons,List.length_nil]at this
  rw[this]
  simp only[jZ]
  cases p y x<;>rfl
variable {α β σ:Type}{L:List α}{B:Int→α→(σ→Option β)→σ→Option β}{K:σ→Option β}
theorem rX(p:α→α→Bool)(a:Option β)
  (hB:∀(j:Nat) x y r q s Z,L=q++y::x::r→j=q.length+1→B (j:Int) x Z s=bif p y x then Z s else a) (s:σ):bO (L.drop 1) 1 B K s=bif jZ p L then K s else a:=by
 cases L with
 |nil=>rfl
 |cons y r=>exact acj (B:=B) (K:=K) p a hB r [] y s rfl
theorem aeR(p:α→α→Bool)(a:Option β)(h0:∀x Z s,B ((0:Nat):Int) x Z s=Z s)
  (hB:∀(j:Nat) x y r q s Z,L=q++y::x::r→j=q.length+1→B (j:Int) x Z s=bif p y x then Z s else a) (s:σ):bO L 0 B K s=bif jZ p L then K s else a:=by
 cases L with
 |nil=>rfl
 |cons y r=>
  simp only[bO]
  rw[h0]
  exact acj (B:=B) (K:=K) p a hB r [] y s rfl
variable {j:Nat}
theorem p9{y x:α}{r q:List α}(h:L=q++y::x::r)(hj:j=q.length+1)(hL:(L.length:Int)≤9223372036854775807):elO L (w64 ((j:Int)-1))=some y:=by
 have hl:q.length+2≤L.length:=by rw[h];simp
 rw[gO (by omega) (by omega),show(j:Int)-1=(q.length:Int)by omega,h,auv]
theorem alT(n:Int):pT n=some (xb n):=rfl
theorem ahu(t:aa)(r:Int):nQ t r=some (hasB t r):=by
 unfold nQ
 refine(gL (λx:aR=>decide (x.ID=r)) (some true) ?_ _ _ _).trans ?_
 ·intros;rfl
 ·unfold hasB;cases t.ah.any _<;>rfl
theorem rY(t:aa):ic t=some (eS t):=by
 unfold ic eS
 by_cases hlen:(decide (24<(t.ah.length:Int))||decide (60<(t.Links.length:Int)))=true
 ·rw[hlen];rfl
 rw[Bool.not_eq_true]at hlen
 rw[hlen]
 simp only[cond_false]
 simp only[Bool.or_eq_false_iff,decide_eq_false_iff_not]at hlen
 refine(gL aaq (some 2) ?_ _ _ _).trans ?_
 ·intros;rfl
 unfold kA
 cases t.ah.any aaq
 case true=>rfl
 simp only[cond_false]
 refine(rX (λa b:aR=>decide (a.ID<b.ID)) (some 25) ?_ _).trans ?_
 ·intro j x y r q s Z h hj
  simp only[p9 h hj (by omega),aM,qV]
  split<;>split<;>first|rfl|omega
 unfold kB
 cases jZ _ t.ah
 case false=>rfl
 simp only[cond_true]
 refine(gL uI (some 2) ?_ _ _ _).trans ?_
 ·intro j x Z s
  simp only[jn,alT,aM,uI]
  cases xb x.jh<;>cases xb x.ji<;>simp[qV]<;>(try split)<;>(try split)<;>simp_all<;>omega
 unfold kC
 cases t.Links.any uI
 case true=>rfl
 simp only[cond_false]
 refine(gL (λl=>!hasB t l.A||!hasB t l.B) (some 4) ?_ _ _ _).trans ?_
 ·intro j x Z s
  simp only[jn,ahu,aM]
  cases hasB t x.A<;>cases hasB t x.B<;>rfl
 unfold kD
 cases t.Links.any _
 case true=>rfl
 simp only[cond_false]
 refine(gL (λl=>decide (l.B≤l.A)) (some 8) ?_ _ _ _).trans ?_
 ·intros;rfl
 unfold kE
 cases t.Links.any _
 case true=>rfl
 simp only[cond_false]
 refine(rX ltL (some 25) ?_ _).trans ?_
 ·intro j x y r q s Z h hj
  have e:(decide (x.A<y.A)||(decide (y.A=x.A)&&decide (x.B≤y.B)))=!ltL y x:=by
   rw[Bool.eq_iff_iff];simp[ltL];omega
  simp only[p9 h hj (by omega),aM]
  rw[e]
  cases ltL y x<;>rfl
 unfold kF
 cases jZ ltL t.Links<;>rfl
theorem tT{α σ:Type}{B:Int→α→(σ→Option Int)→σ→Option Int}{K:σ→Option Int}(p:α→Bool)(hB:∀j x Z s,B j x Z s=bif p x then some j else Z s)(hK:∀s,K s=some (-1)):∀(l:List α) (j:Nat) (s:σ),∃r,bO l j B K s=some r∧decide (0≤r)=l.any p
 |[],j,s=>⟨-1,hK s,rfl⟩
 |x::r,j,s=>by
  simp only[bO,hB,List.any_cons]
  cases p x
  ·simpa using tT p hB hK r (j+1) s
  ·exact⟨j,rfl,by simp⟩
theorem cfR(l:List aR)(f:aR→Option Bool)(p:aR→Bool)(hf:∀x,f x=some (p x)):dV l f=some (l.any p):=by
 unfold dV fA
 obtain⟨r,h1,h2⟩:=tT (B:=λ(j1:Int) (e1:aR) (Z1:Unit→Option Int) (sg:Unit)=>match sg with|()=>bnd (f e1) λ(ai:Bool)=>bif ai then some (j1:Int)else Z1 ()) (K:=λ(sg:Unit)=>match sg with|()=>some (-1:Int)) p (λj x Z s=>by simp only[hf,aM]) (λ_=>rfl) l 0 ()
 simp only[h1,aM,h2]
theorem cfL(l:List aW)(f:aW→Option Bool)(p:aW→Bool)(hf:∀x,f x=some (p x)):dx l f=some (l.any p):=by
 unfold dx fO
 obtain⟨r,h1,h2⟩:=tT (B:=λ(j1:Int) (e1:aW) (Z1:Unit→Option Int) (sg:Unit)=>match sg with|()=>bnd (f e1) λ(ai:Bool)=>bif ai then some (j1:Int)else Z1 ()) (K:=λ(sg:Unit)=>match sg with|()=>some (-1:Int)) p (λj x Z s=>by simp only[hf,aM]) (λ_=>rfl) l 0 ()
 simp only[h1,aM,h2]
def kR(x y:Int):Int:=if x<y then -1 else if y<x then 1 else 0
theorem ahv(x y:Int):fN x y=some (kR x y):=by
 unfold fN lK kR
 simp only[aM,decide_true,Bool.not_true,cond_false,qV]
 split<;>(try split)<;>rfl
variable {x:Int}
theorem ahw{y:Int}:kR x y<0↔x<y:=by unfold kR;split<;>(try split)<;>omega
theorem rZ{y:Int}:kR x y=0↔x=y:=by unfold kR;split<;>(try split)<;>omega
def orI:List Int→Int
 |[]=>0
 |x::r=>if x=0 then orI r else x
theorem auw(l:List Int):pW l=some (orI l):=by
 unfold pW
 refine(yb (f:=λl _=>some (orI l)) ?_ ?_ _ _ _)
 ·intros;rfl
 ·intro j x r s Z hZ
  simp only[orI,hZ]
  by_cases h:x=0<;>simp[h]
def nh(a b:aW):Int:=orI [kR a.A b.A,kR a.B b.B]
theorem abG(a b:aW):ja a b=some (nh a b):=by
 unfold ja;simp only[ahv,aM,auw];rfl
theorem agi(r:aR)(id:Int):lM r id=some (kR r.ID id):=by
 unfold lM;simp only[ahv,aM]
variable {a b:aW}
theorem aa7:nh a b<0↔ltL a b=true:=by
 have:nh a b<0↔a.A<b.A∨(a.A=b.A∧a.B<b.B):=by
  simp only[nh,orI]
  split
  ·rename_i h
   rw[rZ]at h
   split
   ·rename_i h2;rw[rZ]at h2;omega
   ·rw[ahw];omega
  ·rename_i h
   rw[rZ]at h
   rw[ahw];omega
 rw[this];simp[ltL]
theorem aa8:nh a b=0↔a.A=b.A∧a.B=b.B:=by
 simp only[nh,orI]
 split
 ·rename_i h
  rw[rZ]at h
  split
  ·rename_i h2;rw[rZ]at h2;omega
  ·rename_i h2;rw[rZ]at h2 ⊢;omega
 ·rename_i h
  rw[rZ]at h ⊢;omega
def bsG{α:Type}[Inhabited α](f:α→Int)(l:List α)(i j:Nat):Nat:=
 if h:i<j then if f (el l ((i+j) / 2:Nat))<0 then bsG f l ((i+j) / 2+1) j else bsG f l i ((i+j) / 2)else i
 termination_by j-i
 decreasing_by all_goals omega
def bsR{α:Type}[Inhabited α](f:α→Int)(l:List α):Nat:=bsG f l 0 l.length
def bsT{α:Type}[Inhabited α](f:α→Int)(l:List α):Bool:=decide (bsR f l<l.length)&&decide (f (el l (bsR f l))=0)
variable {f:α→Int}{i:Nat}{l:List α}
theorem ajG[Inhabited α](h:i<j)(hf:f (el l ((i+j) / 2:Nat))<0):bsG f l i j=bsG f l ((i+j) / 2+1) j:=by
 rw[bsG,dif_pos h,if_pos hf]
theorem ajH[Inhabited α](h:i<j)(hf:¬f (el l ((i+j) / 2:Nat))<0):bsG f l i j=bsG f l i ((i+j) / 2):=by
 rw[bsG,dif_pos h,if_neg hf]
theorem ad1[Inhabited α](h:j≤i):bsG f l i j=i:=by
 rw[bsG,dif_neg (by omega)]
theorem aar[Inhabited α](h:i<l.length):el l i=l[i]:=by
 simp[el,List.getD_eq_getElem?_getD,h]
theorem ajI[Inhabited α](h:i<l.length):el l i∈l:=by
 rw[aar h];exact List.getElem_mem h
theorem yc[Inhabited α](h:i<l.length):elO l (i:Int)=some (el l i):=by
 unfold elO;rw[if_pos (by omega),aar h];simp[h]
theorem ahx(h:i+j≤4611686018427387904):w64 (Int.fdiv (IntKind.wrap .u64 (w64 ((i:Int)+(j:Int)))) (2 ^ min (1:Int).toNat 64))=(((i+j) / 2:Nat):Int):=by
 have e1:w64 ((i:Int)+(j:Int))=((i+j:Nat):Int):=by rw[gO (by omega) (by omega)];simp
 have e2:IntKind.wrap .u64 ((i+j:Nat):Int)=((i+j:Nat):Int):=anU (by omega) (by omega)
 rw[e1,e2]
 have e3:(2:Int) ^ min (1:Int).toNat 64=2:=rfl
 rw[e3,Int.fdiv_eq_ediv_of_nonneg _ (by omega)]
 rw[gO (by omega) (by omega)];simp
theorem ahy[Inhabited α]{F:((Int×Int)→Option (Int×Bool))→(Int×Int)→Option (Int×Bool)}(l:List α)(f:α→Int)(hl:l.length≤1000000)
  (hF:∀(i j:Nat) Z,j≤l.length→F Z ((i:Int),(j:Int))=if h:i<j then(if f (el l ((i+j) / 2:Nat))<0 then Z ((((i+j) / 2+1:Nat):Int),(j:Int))else Z ((i:Int),(((i+j) / 2:Nat):Int)))else some ((i:Int),decide (i<l.length)&&decide (f (el l i)=0))) :
  whl F ((0:Int),(l.length:Int))=some ((bsR f l:Int),bsT f l):=by
 refine Ok.eq (Ok.whl (I:=λs=>∃i j:Nat,s=((i:Int),(j:Int))∧i≤j∧j≤l.length∧bsG f l i j=bsR f l) (μ:=λs=>(s.2-s.1).toNat) ⟨0,l.length,rfl,by omega,by omega,rfl⟩ ?_ ?_)
 ·show((l.length:Int)-0).toNat<_;omega
 ·rintro s Z ⟨i,j,rfl,h1,h2,h3⟩ hz
  rw[hF i j Z h2]
  split
  ·rename_i hij
   split
   ·rename_i hf
    exact hz _ ⟨_,_,rfl,by omega,h2,by rw[←h3,ajG hij hf]⟩ (by show((j:Int)-_).toNat<((j:Int)-i).toNat;omega)
   ·rename_i hf
    exact hz _ ⟨_,_,rfl,by omega,by omega,by rw[←h3,ajH hij hf]⟩ (by show((((i+j) / 2:Nat):Int)-i).toNat<((j:Int)-i).toNat;omega)
  ·rename_i hij
   have:bsR f l=i:=by rw[←h3,ad1 (by omega)]
   exact⟨_,rfl,by simp only[bsT,this]⟩
theorem auy(l:List aR)(x:Int)(c:aR→Int→Option Int)(f:aR→Int)(hl:l.length≤1000000)(hc:∀r,c r x=some (f r)):cN l x c=some ((bsR f l:Int),bsT f l):=by
 unfold cN
 refine ahy l f hl λi j Z hj=>?_
 by_cases hij:i<j
 ·rw[dif_pos hij]
  simp only[ahx (i:=i) (j:=j) (by omega),yc (show(i+j) / 2<l.length by omega),aM,hc,qV]
  rw[if_pos (by omega),gO (by omega) (by omega)]
  rfl
 ·rw[dif_neg hij]
  simp only[qV]
  rw[if_neg (by omega)]
  by_cases hi:i<l.length
  ·rw[if_pos (by omega),yc hi];simp only[aM,hc];simp[hi]
  ·rw[if_neg (by omega)];simp[hi]
theorem bsLk(l:List aW)(x:aW)(c:aW→aW→Option Int)(f:aW→Int)(hl:l.length≤1000000)(hc:∀r,c r x=some (f r)):dy l x c=some ((bsR f l:Int),bsT f l):=by
 unfold dy
 refine ahy l f hl λi j Z hj=>?_
 by_cases hij:i<j
 ·rw[dif_pos hij]
  simp only[ahx (i:=i) (j:=j) (by omega),yc (show(i+j) / 2<l.length by omega),aM,hc,qV]
  rw[if_pos (by omega),gO (by omega) (by omega)]
  rfl
 ·rw[dif_neg hij]
  simp only[qV]
  rw[if_neg (by omega)]
  by_cases hi:i<l.length
  ·rw[if_pos (by omega),yc hi];simp only[aM,hc];simp[hi]
  ·rw[if_neg (by omega)];simp[hi]
theorem alU[Inhabited α](hm:∀a b:Nat,a≤b→b<l.length→f (el l a)≤f (el l b)):∀(n i j:Nat),j-i≤n→i≤j→j≤l.length→(∀m:Nat,m<i→f (el l m)<0)→(∀m:Nat,j≤m→m<l.length→0≤f (el l m))→
  bsG f l i j≤l.length∧(∀m:Nat,m<bsG f l i j→f (el l m)<0)∧(∀m:Nat,bsG f l i j≤m→m<l.length→0≤f (el l m)):=by
 intro n
 induction n with
 |zero=>
  intro i j hn hij hj h1 h2
  rw[ad1 (by omega)]
  exact⟨by omega,h1,λm hm'=>h2 m (by omega)⟩
 |succ n ih=>
  intro i j hn hij hj h1 h2
  by_cases h:i<j
  ·by_cases hf:f (el l ((i+j) / 2:Nat))<0
   ·rw[ajG h hf]
    refine ih _ _ (by omega) (by omega) hj (λm hm'=>?_) h2
    have:=hm m ((i+j) / 2) (by omega) (by omega)
    omega
   ·rw[ajH h hf]
    refine ih _ _ (by omega) (by omega) (by omega) h1 (λm hm' hml=>?_)
    have:=hm ((i+j) / 2) m hm' hml
    omega
  ·rw[ad1 (by omega)]
   exact⟨by omega,h1,λm hm'=>h2 m (by omega)⟩
theorem alV[Inhabited α](hm:∀a b:Nat,a≤b→b<l.length→f (el l a)≤f (el l b)):
  bsR f l≤l.length∧(∀m:Nat,m<bsR f l→f (el l m)<0)∧(∀m:Nat,bsR f l≤m→m<l.length→0≤f (el l m)):=
 alU hm l.length 0 l.length (by omega) (by omega) (by omega) (λm h=>by omega) (λm h1 h2=>by omega)
theorem ahz[Inhabited α](hm:∀a b:Nat,a≤b→b<l.length→f (el l a)≤f (el l b)):bsT f l=true↔∃x∈l,f x=0:=by
 obtain⟨h1,h2,h3⟩:=alV hm
 simp only[bsT,Bool.and_eq_true,decide_eq_true_eq]
 constructor
 ·rintro⟨q1,q2⟩
  exact⟨_,ajI q1,q2⟩
 ·rintro⟨x,hx,hf⟩
  obtain⟨m,hm1,rfl⟩:=List.getElem_of_mem hx
  rw[←aar hm1]at hf
  have hle:bsR f l≤m:=by
   by_cases q:m<bsR f l
   ·have:=h2 m q;omega
   ·omega
  have hlt:bsR f l<l.length:=by omega
  have:=h3 _ (Nat.le_refl _) hlt
  have:=hm _ _ hle hm1
  exact⟨hlt,by omega⟩
theorem wh[Inhabited α](h:l.Pairwise (λa b=>f a≤f b)):∀a b:Nat,a≤b→b<l.length→f (el l a)≤f (el l b):=by
 intro a b hab hb
 rcases Nat.lt_or_eq_of_le hab with hab|rfl
 ·have:=List.pairwise_iff_getElem.1 h a b (by omega) hb hab
  rwa [aar (by omega),aar hb]
 ·exact Int.le_refl _
theorem qa{α:Type}{p:α→α→Bool}(ht:∀a b c,p a b=true→p b c=true→p a c=true):∀{l:List α},jZ p l=true→l.Pairwise (λa b=>p a b=true)
 |[],_=>List.Pairwise.nil
 |[x],_=>by simp
 |a::b::r,h=>by
  simp only[jZ,Bool.and_eq_true]at h
  have ih:=qa ht h.2
  rw[List.pairwise_cons]
  refine⟨λz hz=>?_,ih⟩
  rcases List.mem_cons.1 hz with rfl|hz
  ·exact h.1
  ·exact ht _ _ _ h.1 ((List.pairwise_cons.1 ih).1 z hz)
theorem mR{α:Type}{p:α→α→Bool}:∀{l:List α},l.Pairwise (λa b=>p a b=true)→jZ p l=true
 |[],_=>rfl
 |[x],_=>rfl
 |a::b::r,h=>by
  rw[List.pairwise_cons]at h
  simp only[jZ,Bool.and_eq_true]
  exact⟨h.1 b (by simp),mR h.2⟩
variable {t:aa}
theorem ajJ(h:kB t=true):t.ah.Pairwise (λa b=>a.ID<b.ID):=by
 have:=qa (p:=λa b:aR=>decide (a.ID<b.ID)) (λa b c h1 h2=>by simp at h1 h2 ⊢;omega) h
 exact this.imp (λh=>by simpa using h)
theorem aqE(h:kB t=true)(id:Int):∀a b:Nat,a≤b→b<t.ah.length→kR (el t.ah a).ID id≤kR (el t.ah b).ID id:=
 wh (f:=λr:aR=>kR r.ID id) ((ajJ h).imp (λ{a b} h=>by unfold kR;split<;>(try split)<;>(try split)<;>(try split)<;>omega))
def alW(t:aa)(id:Int):Bool:=!bsT (λr=>kR r.ID id) t.ah
theorem ahA(h:kB t=true)(id:Int):alW t id=!hasB t id:=by
 simp only[alW,hasB]
 congr 1
 rw[Bool.eq_iff_iff,ahz (aqE h id)]
 simp[rZ]
theorem oG(t:aa):gY t=some (eS t):=by
 unfold gY eS
 by_cases hlen:(decide (24<(t.ah.length:Int))||decide (60<(t.Links.length:Int)))=true
 ·rw[hlen];rfl
 rw[Bool.not_eq_true]at hlen
 rw[hlen]
 simp only[cond_false]
 simp only[Bool.or_eq_false_iff,decide_eq_false_iff_not]at hlen
 rw[cfR t.ah _ aaq (λx=>by simp only[nB,jS,aM,aaq];congr 1;rw[Bool.eq_iff_iff];simp)]
 simp only[aM]
 unfold kA
 cases t.ah.any aaq
 case true=>rfl
 simp only[cond_false]
 refine(aeR (λa b:aR=>decide (a.ID<b.ID)) (some 25) ?_ ?_ _).trans ?_
 ·intros;rfl
 ·intro j x y r q s Z h hj
  simp only[jn,p9 h hj (by omega),aM,qV]
  rw[if_pos (by omega)]
  split<;>split<;>first|rfl|omega
 cases hB:kB t
 case false=>unfold kB at hB;rw[hB];rfl
 have hB':=hB
 unfold kB at hB'
 rw[hB']
 simp only[cond_true]
 rw[cfL t.Links lB uI (λx=>by
  simp only[lB,jS,aM,uI,xb]
  simp only[qV,Bool.not_and,Bool.cond_eq_ite,Bool.or_eq_true,Bool.not_eq_true',decide_eq_false_iff_not]
  split
  ·congr 1;symm;rw[Bool.eq_iff_iff];simp;omega
  ·split
   ·congr 1;symm;rw[Bool.eq_iff_iff];simp;omega
   ·congr 1;rw[Bool.eq_iff_iff];simp;omega)]
 simp only[aM]
 unfold kC
 cases t.Links.any uI
 case true=>rfl
 simp only[cond_false]
 have hu:∀id,jb id t=some (!hasB t id):=λid=>by
  unfold jb
  rw[auy t.ah id _ (λr=>kR r.ID id) (by omega) (λr=>agi r id)]
  simp only[aM]
  rw[←ahA hB];rfl
 rw[cfL t.Links _ (λl=>!hasB t l.A||!hasB t l.B) (λx=>by
  simp only[nC,hu,aM]
  cases hasB t x.A<;>rfl)]
 simp only[aM]
 unfold kD
 cases t.Links.any _
 case true=>rfl
 simp only[cond_false]
 rw[cfL t.Links nD (λl=>decide (l.B≤l.A)) (λx=>rfl)]
 simp only[aM]
 unfold kE
 cases t.Links.any _
 case true=>rfl
 simp only[cond_false]
 refine(aeR ltL (some 25) ?_ ?_ _).trans ?_
 ·intros;rfl
 ·intro j x y r q s Z h hj
  simp only[jn,p9 h hj (by omega),aM,abG,qV]
  rw[if_pos (by omega)]
  cases hlt:ltL y x
  ·have:¬nh y x<0:=by rw[aa7,hlt];simp
   rw[if_pos (by omega)];rfl
  ·have:=aa7.2 hlt
   rw[if_neg (by omega)];rfl
 unfold kF
 cases jZ ltL t.Links<;>rfl
end Go.Proofs.YtdjeacigeegklaaGreat
namespace Go.Proofs.YtdjeacigeegklaaGreat
set_option linter.all false
open Go
variable {α:Type}
theorem ahB[DecidableEq α]{l:List α}{v:α}:l.any (λx=>decide (x=v))=decide (v∈l):=by
 rw[Bool.eq_iff_iff];simp
theorem aa9(l:List Int)(n:Int):kU l n=some (decide (n∈l)):=by
 unfold kU
 refine(gL (λx:Int=>decide (x=n)) (some true) ?_ _ _ _).trans ?_
 ·intros;rfl
 ·rw[ahB];cases decide (n∈l)<;>rfl
theorem r9(l:List Int)(n:Int):cO l n=some (decide (n∈l)):=by
 unfold cO kf
 obtain⟨r,h1,h2⟩:=tT (B:=λ(j1:Int) (e1:Int) (Z1:Unit→Option Int) (sg:Unit)=>match sg with|()=>bif decide (n=e1)then some (j1:Int)else Z1 ()) (K:=λ(sg:Unit)=>match sg with|()=>some (-1:Int)) (λx=>decide (n=x)) (λj x Z s=>rfl) (λ_=>rfl) l 0 ()
 simp only[h1,aM,h2]
 congr 1
 rw[Bool.eq_iff_iff];simp
theorem adb(a b:aN):kj a b=true↔a=b:=by
 cases a;cases b;simp[kj]
def oD(l:List aN)(a b:Int):Bool:=l.any λh=>kj (aN.mk a b) h
theorem ad2(l:List aN)(v:aN):dJ l v=some (l.any (kj v)):=by
 unfold dJ gF
 obtain⟨r,h1,h2⟩:=tT (B:=λ(j1:Int) (e1:aN) (Z1:Unit→Option Int) (sg:Unit)=>match sg with|()=>bif kj v e1 then some (j1:Int)else Z1 ()) (K:=λ(sg:Unit)=>match sg with|()=>some (-1:Int)) (λx=>kj v x) (λj x Z s=>rfl) (λ_=>rfl) l 0 ()
 simp only[h1,aM,h2]
theorem ajK(l:List aN)(a b:Int):oZ l a b=some (oD l a b||oD l b a):=by
 unfold oZ
 refine(gL (λh:aN=>kj (aN.mk a b) h||kj (aN.mk b a) h) (some true) ?_ _ _ _).trans ?_
 ·intro j x Z s
  congr 1
  rw[Bool.eq_iff_iff]
  obtain⟨f,t⟩:=x
  simp[kj]
  constructor
  ·split
   ·rintro(h|h)<;>omega
   ·intro h;omega
  ·rintro(h|h)
   ·rw[if_pos (by omega)];omega
   ·split<;>omega
 ·have:(l.any λh:aN=>kj (aN.mk a b) h||kj (aN.mk b a) h)=(oD l a b||oD l b a):=by
   rw[Bool.eq_iff_iff];simp[oD,List.any_eq_true]
   constructor
   ·rintro⟨x,hx,h|h⟩
    ·exact .inl ⟨x,hx,h⟩
    ·exact .inr ⟨x,hx,h⟩
   ·rintro(⟨x,hx,h⟩|⟨x,hx,h⟩)
    ·exact⟨x,hx,.inl h⟩
    ·exact⟨x,hx,.inr h⟩
  rw[this];cases(oD l a b||oD l b a)<;>rfl
theorem lI{α γ β:Type}{B:Int→α→(List γ→Option β)→List γ→Option β}{K:List γ→Option β}(p:α→Bool)(f:α→γ):
  ∀(l:List α) (j:Nat) (s:List γ),(∀(j:Nat) x Z s,x∈l→s.length<1000000→B j x Z s=bif p x then Z (s++[f x])else Z s)→l.length+s.length≤1000000→bO l j B K s=K (s++(l.filter p).map f)
 |[],j,s,_,_=>by simp[bO]
 |x::r,j,s,hB,h=>by
  simp only[List.length_cons]at h
  simp only[bO]
  rw[hB j x _ s (by simp) (by omega)]
  have hB':∀(j:Nat) y Z s,y∈r→s.length<1000000→B j y Z s=bif p y then Z (s++[f y])else Z s:=λj y Z s hy=>hB j y Z s (by simp[hy])
  cases hp:p x
  ·rw[cond_false,lI p f r (j+1) s hB' (by omega),List.filter_cons_of_neg (by simp[hp])]
  ·rw[cond_true,lI p f r (j+1) (s++[f x]) hB' (by simp;omega),List.filter_cons_of_pos hp]
   simp
theorem lY{s:List α}{x:α}(h:s.length<1000000):dL s [x]=some (s++[x]):=nu (by simp;omega)
theorem ux{a b:List Int}(ha:a.Pairwise (·<·))(hb:b.Pairwise (·<·))(h:∀x,x∈a↔x∈b):a=b:=by
 induction a generalizing b with
 |nil=>
  cases b with
  |nil=>rfl
  |cons y b=>exact absurd ((h y).2 (by simp)) (by simp)
 |cons x a ih=>
  cases b with
  |nil=>exact absurd ((h x).1 (by simp)) (by simp)
  |cons y b=>
   rw[List.pairwise_cons]at ha hb
   have hxy:x=y:=by
    have h1:=(h x).1 (by simp)
    have h2:=(h y).2 (by simp)
    rw[List.mem_cons]at h1 h2
    rcases h1 with h1|h1
    ·exact h1
    ·rcases h2 with h2|h2
     ·exact h2.symm
     ·have:=hb.1 _ h1;have:=ha.1 _ h2;omega
   subst hxy
   congr 1
   refine ih ha.2 hb.2 λz=>?_
   have:=h z
   simp only[List.mem_cons]at this
   constructor
   ·intro hz
    rcases this.1 (.inr hz)with q|q
    ·subst q;have:=ha.1 _ hz;omega
    ·exact q
   ·intro hz
    rcases this.2 (.inr hz)with q|q
    ·subst q;have:=hb.1 _ hz;omega
    ·exact q
variable {l:List Int}
theorem yU(h:l.Nodup):(jy l).Pairwise (·<·):=by
 have h1:=vK l
 have h2:(jy l).Nodup:=(sK l).nodup_iff.2 h
 have:=h1.and h2
 exact this.imp (λ⟨a,b⟩=>by omega)
variable {x:Int}
theorem xd:x∈jy l↔x∈l:=(sK l).mem_iff
structure Vt(t:aa):Prop where
 nr:t.ah.length≤24
 nl:t.Links.length≤60
 idr:∀r∈t.ah,1≤r.ID∧r.ID≤99
 asc:t.ah.Pairwise (λa b=>a.ID<b.ID)
 okl:∀l∈t.Links,uI l=false
 ends:∀l∈t.Links,hasB t l.A=true∧hasB t l.B=true
 lt:∀l∈t.Links,l.A<l.B
 agj:t.Links.Pairwise (λa b=>ltL a b=true)
theorem ajL(a b c:aW)(h1:ltL a b=true)(h2:ltL b c=true):ltL a c=true:=by
 simp[ltL]at *;omega
theorem any_false{l:List α}{p:α→Bool}:l.any p=false↔∀x∈l,p x=false:=by
 rw[List.any_eq_false];simp
variable {t:aa}
theorem fC:eS t=0↔Vt t:=by
 unfold eS
 constructor
 ·intro h
  by_cases h1:(decide (24<(t.ah.length:Int))||decide (60<(t.Links.length:Int)))=true
  ·rw[h1]at h;cases h
  simp only[Bool.not_eq_true]at h1
  rw[h1,cond_false]at h
  cases h2:kA t<;>rw[h2]at h<;>first|cases h;done|skip
  cases h3:kB t<;>rw[h3]at h<;>first|cases h;done|skip
  cases h4:kC t<;>rw[h4]at h<;>first|cases h;done|skip
  cases h5:kD t<;>rw[h5]at h<;>first|cases h;done|skip
  cases h6:kE t<;>rw[h6]at h<;>first|cases h;done|skip
  cases h7:kF t<;>rw[h7]at h<;>first|cases h;done|skip
  simp only[Bool.or_eq_false_iff,decide_eq_false_iff_not]at h1
  refine⟨by omega,by omega,λr hr=>?_,ajJ h3,any_false.1 h4,λl hl=>?_,λl hl=>?_,qa ajL h7⟩
  ·have:=any_false.1 h2 r hr;simp[aaq]at this;omega
  ·have:=any_false.1 h5 l hl;simpa using this
  ·have:=any_false.1 h6 l hl;simpa using this
 ·intro h
  have h1:(decide (24<(t.ah.length:Int))||decide (60<(t.Links.length:Int)))=false:=by
   have:=h.nr;have:=h.nl;simp;omega
  have h2:kA t=false:=any_false.2 λr hr=>by have:=h.idr r hr;simp[aaq];omega
  have h3:kB t=true:=mR (h.asc.imp λh=>by simpa using h)
  have h4:kC t=false:=any_false.2 h.okl
  have h5:kD t=false:=any_false.2 λl hl=>by have:=h.ends l hl;simp[this]
  have h6:kE t=false:=any_false.2 λl hl=>by have:=h.lt l hl;simp;omega
  have h7:kF t=true:=mR h.agj
  rw[h1,h2,h3,h4,h5,h6,h7];rfl
theorem xe(t:aa):gZ t=some (decide (eS t=0)):=by
 unfold gZ;rw[oG];rfl
variable {r:Int}
theorem wj:hasB t r=true↔∃x∈t.ah,x.ID=r:=by simp[hasB]
theorem ajM:eS (aa.mk [] [])=0:=rfl
def u0(f:bg)(l:aW):Bool:=decide (l.A∈f.ah)||decide (l.B∈f.ah)||oD f.Links l.A l.B||oD f.Links l.B l.A
def woT(t:aa)(f:bg):aa:=aa.mk (t.ah.filter λr=>!decide (r.ID∈f.ah)) (t.Links.filter λl=>!u0 f l)
theorem Vt.wo(h:Vt t)(f:bg):Vt (woT t f):=by
 have sr:(woT t f).ah.Sublist t.ah:=List.filter_sublist
 have sl:(woT t f).Links.Sublist t.Links:=List.filter_sublist
 refine⟨Nat.le_trans sr.length_le h.nr,Nat.le_trans sl.length_le h.nl,λr hr=>h.idr r (sr.subset hr),h.asc.sublist sr,λl hl=>h.okl l (sl.subset hl),λl hl=>?_,λl hl=>h.lt l (sl.subset hl),h.agj.sublist sl⟩
 have hm:=List.mem_filter.1 hl
 have he:=h.ends l hm.1
 have hg:=hm.2
 simp[u0]at hg
 rw[wj,wj]at he ⊢
 obtain⟨⟨x,hx,ex⟩,⟨y,hy,ey⟩⟩:=he
 refine⟨⟨x,List.mem_filter.2 ⟨hx,?_⟩,ex⟩,⟨y,List.mem_filter.2 ⟨hy,?_⟩,ey⟩⟩
 ·rw[ex];simp[hg]
 ·rw[ey];simp[hg]
def aP(t:aa)(f:bg):aa:=if eS t=0 then woT t f else aa.mk [] []
theorem gI(t:aa)(f:bg):Vt (aP t f):=by
 unfold aP
 split
 ·rename_i h;exact(fC.1 h).wo f
 ·exact fC.1 ajM
theorem xH(t:aa)(f:bg):jG t f=some (aP t f):=by
 unfold jG aP
 simp only[rY,aM]
 by_cases h:eS t=0
 ·have hv:=fC.1 h
  have:=hv.nr;have:=hv.nl
  simp only[h,decide_true,Bool.not_true,cond_false,if_true]
  refine(lI (λr:aR=>!decide (r.ID∈f.ah)) id _ _ _ ?_ (by simp;omega)).trans ?_
  ·intro j x Z s _ hs
   simp only[jn,aa9,aM,lY hs];rfl
  refine(lI (λl:aW=>!u0 f l) id _ _ _ ?_ (by simp;omega)).trans ?_
  ·intro j x Z s _ hs
   simp only[jn,aa9,ajK,aM,lY hs,u0,id]
   cases decide (x.A∈f.ah)<;>cases decide (x.B∈f.ah)<;>cases oD f.Links x.A x.B<;>cases oD f.Links x.B x.A<;>rfl
  ·simp[woT]
 ·simp[h]
theorem xI(t:aa)(f:bg):hU t f=some (aP t f):=by
 unfold hU aP
 simp only[xe,aM]
 by_cases h:eS t=0
 ·have hv:=fC.1 h
  have:=hv.nr;have:=hv.nl
  simp only[h,decide_true,Bool.not_true,cond_false,if_true]
  refine(lI (λr:aR=>!decide (r.ID∈f.ah)) id _ _ _ ?_ (by simp;omega)).trans ?_
  ·intro j x Z s _ hs
   simp only[jn,r9,aM,lY hs];rfl
  refine(lI (λl:aW=>!u0 f l) id _ _ _ ?_ (by simp;omega)).trans ?_
  ·intro j x Z s _ hs
   have e1:f.Links.any (kj (aN.mk x.A x.B))=oD f.Links x.A x.B:=rfl
   have e2:f.Links.any (kj (aN.mk x.B x.A))=oD f.Links x.B x.A:=rfl
   simp only[jn,r9,ad2,aM,lY hs,u0,id,e1,e2]
   cases decide (x.A∈f.ah)<;>cases decide (x.B∈f.ah)<;>cases oD f.Links x.A x.B<;>cases oD f.Links x.B x.A<;>rfl
  ·simp[woT]
 ·simp[h]
theorem ad3(t:aa)(r:Int):jo t r=some (decide (eS t=0)&&hasB t r):=by
 unfold jo
 simp only[rY,ahu,aM]
 cases decide (eS t=0)<;>rfl
def aiG(t:aa)(r:Int):aR×Bool:=if bsT (λx:aR=>kR x.ID r) t.ah then(el t.ah (bsR (λx:aR=>kR x.ID r) t.ah),true)else(aR.mk 0 false,false)
theorem alX(t:aa)(r:Int)(hl:t.ah.length≤1000000):nE t r=some (aiG t r):=by
 unfold nE aiG
 rw[auy t.ah r _ (λx=>kR x.ID r) hl (λx=>agi x r)]
 simp only[aM]
 cases h:bsT (λx:aR=>kR x.ID r) t.ah
 ·rfl
 ·have h2:bsR (λx:aR=>kR x.ID r) t.ah<t.ah.length:=by
   simp only[bsT,Bool.and_eq_true,decide_eq_true_eq]at h;exact h.1
  simp only[Bool.not_true,cond_false,yc h2,aM,if_true]
theorem aqF(h:Vt t)(r:Int):bsT (λx:aR=>kR x.ID r) t.ah=hasB t r:=by
 have:=ahA (t:=t) (mR (h.asc.imp λh=>by simpa using h)) r
 simpa [alW]using this
theorem yd(t:aa)(r:Int)(hl:t.ah.length≤1000000):kL t r=some (decide (eS t=0)&&hasB t r):=by
 unfold kL
 simp only[alX t r hl,xe,aM]
 by_cases h:eS t=0
 ·simp only[h,decide_true,cond_true,Bool.true_and,aiG,aqF (fC.1 h)]
  cases hasB t r<;>rfl
 ·simp[h]
theorem aeS{σ β:Type}{B:Int→α→(σ→Option β)→σ→Option β}{K:σ→Option β}(p:α→Bool)(g:α→Option β)(hB:∀j x Z s,B j x Z s=bif p x then g x else Z s)(l:List α)(j:Nat)(s:σ):
  bO l j B K s=match l.find? p with|some x=>g x|none=>K s:=
 yb (f:=λl s=>match l.find? p with|some x=>g x|none=>K s) (λs=>rfl) (λj x r s Z hZ=>by
  rw[hB,hZ,List.find?_cons];cases p x<;>rfl) l j s
theorem auz(h:Vt t){a b:aW}(ha:a∈t.Links)(hb:b∈t.Links)(hA:a.A=b.A)(hB:a.B=b.B):a=b:=by
 obtain⟨i,hi,rfl⟩:=List.getElem_of_mem ha
 obtain⟨j,hj,rfl⟩:=List.getElem_of_mem hb
 have:=List.pairwise_iff_getElem.1 h.agj
 rcases Nat.lt_trichotomy i j with q|q|q
 ·have:=this i j hi hj q;simp[ltL]at this;omega
 ·subst q;rfl
 ·have:=this j i hj hi q;simp[ltL]at this;omega
def eM(l:aW)(a b:Int):Bool:=(decide (l.A=a)&&decide (l.B=b))||(decide (l.B=a)&&decide (l.A=b))
def iN(a b:Int)(l:aW):Int×Bool:=(bif decide (l.A=a)&&decide (l.B=b)then l.jh else l.ji,true)
def jJ(t:aa)(a b:Int):Int×Bool:=match t.Links.find? (λl=>eM l a b)with|some l=>iN a b l|none=>(0,false)
def dR(t:aa)(a b:Int):Bool:=t.Links.any λl=>eM l a b
theorem aas(t:aa)(a b:Int):lX t a b=some (jJ t a b):=by
 unfold lX jJ
 refine(aeS (λl:aW=>eM l a b) (λl=>some (iN a b l)) (λj x Z s=>?_) _ _ _).trans ?_
 ·unfold eM iN
  cases decide (x.A=a)&&decide (x.B=b)<;>cases decide (x.B=a)&&decide (x.A=b)<;>rfl
 ·cases t.Links.find? _<;>rfl
theorem aat(t:aa)(a b:Int):(jJ t a b).2=dR t a b:=by
 unfold jJ dR
 cases hf:t.Links.find? (λl=>eM l a b)with
 |none=>symm;exact any_false.2 λx hx=>by simpa using List.find?_eq_none.1 hf x hx
 |some x=>
  symm
  exact List.any_eq_true.2 ⟨x,List.mem_of_find?_eq_some hf,by simpa using List.find?_some hf⟩
theorem alY(t:aa)(a b:Int):pU t a b=some (if eS t=0 then jJ t a b else(0,false)):=by
 unfold pU
 simp only[rY,aas,aM]
 by_cases h:eS t=0<;>simp[h]
variable {a b:Int}
theorem jK(h:Vt t){l:aW}(hm:l∈t.Links)(he:eM l a b=true):jJ t a b=iN a b l:=by
 unfold jJ
 cases hf:t.Links.find? (λl=>eM l a b)with
 |none=>exact absurd he (List.find?_eq_none.1 hf l hm)
 |some x=>
  have hx:=List.mem_of_find?_eq_some hf
  have hp:=List.find?_some hf
  have h1:=h.lt _ hm
  have h2:=h.lt _ hx
  simp[eM]at he hp
  rw[auz h hx hm (by omega) (by omega)]
theorem aqG(h:Vt t)(v:aW):∀a b:Nat,a≤b→b<t.Links.length→nh (el t.Links a) v≤nh (el t.Links b) v:=by
 refine wh (f:=λl:aW=>nh l v) (h.agj.imp λ{a b} hab=>?_)
 have c3:∀x y:Int,kR x y = -1∨kR x y=0∨kR x y=1:=λx y=>by
  unfold kR;split
  ·exact .inl rfl
  ·split
   ·exact .inr (.inr rfl)
   ·exact .inr (.inl rfl)
 have:∀x y:aW,nh x y = -1∨nh x y=0∨nh x y=1:=λx y=>by
  have q1:=c3 x.A y.A
  have q2:=c3 x.B y.B
  simp only[nh,orI]
  generalize kR x.A y.A=p at *
  generalize kR x.B y.B=q at *
  by_cases h1:p=0
  ·by_cases h2:q=0<;>simp[h1,h2];omega
  ·simp[h1];omega
 have h1:=@aa7 a v
 have h2:=@aa7 b v
 have h3:=@aa8 a v
 have h4:=@aa8 b v
 have q1:=this a v
 have q2:=this b v
 simp[ltL]at hab h1 h2
 omega
theorem alZ(t:aa)(a b:Int)(hl:t.Links.length≤1000000):nF t a b=some (if eS t=0 then jJ t a b else(0,false)):=by
 unfold nF
 simp only[xe,aM]
 by_cases h:eS t=0
 ·have hv:=fC.1 h
  simp only[h,decide_true,Bool.not_true,cond_false,if_true]
  generalize hv2:aW.mk (if b<a then b else a) (if b>a then b else a) 0 0 0=v
  rw[bsLk t.Links v _ (λx=>nh x v) hl (λx=>abG x v)]
  simp only[aM]
  have hA:v.A=if b<a then b else a:=by rw[←hv2]
  have hB:v.B=if b>a then b else a:=by rw[←hv2]
  cases hT:bsT (λx:aW=>nh x v) t.Links
  ·simp only[Bool.not_false,cond_true]
   congr 1
   unfold jJ
   cases hf:t.Links.find? (λl=>eM l a b)with
   |none=>rfl
   |some x=>
    exfalso
    have hx:=List.mem_of_find?_eq_some hf
    have hp:=List.find?_some hf
    have h2:=h
    have:=(ahz (f:=λx:aW=>nh x v) (aqG hv v)).2 ⟨x,hx,by
     rw[aa8,hA,hB]
     have:=hv.lt _ hx
     simp[eM]at hp
     split<;>split<;>omega⟩
    rw[hT]at this;cases this
  ·simp only[bsT,Bool.and_eq_true,decide_eq_true_eq]at hT
   obtain⟨q1,q2⟩:=hT
   rw[aa8,hA,hB]at q2
   have hm:=ajI q1
   simp only[Bool.not_true,cond_false,yc q1,aM]
   have hlt:=hv.lt _ hm
   have e:eM (el t.Links (bsR (λx:aW=>nh x v) t.Links)) a b=true:=by
    simp[eM];by_cases q3:b<a<;>by_cases q4:b>a<;>simp only[q3,q4,if_true,if_false]at q2<;>omega
   rw[jK hv hm e]
   unfold iN
   by_cases hab:a<b
   ·have:decide (a<b)=true:=by simpa using hab
    rw[this,cond_true]
    have:(decide ((el t.Links (bsR (λx:aW=>nh x v) t.Links)).A=a)&&decide ((el t.Links (bsR (λx:aW=>nh x v) t.Links)).B=b))=true:=by
     simp;by_cases q3:b<a<;>by_cases q4:b>a<;>simp only[q3,q4,if_true,if_false]at q2<;>omega
    rw[this];rfl
   ·have:decide (a<b)=false:=by simpa using hab
    rw[this,cond_false]
    have:(decide ((el t.Links (bsR (λx:aW=>nh x v) t.Links)).A=a)&&decide ((el t.Links (bsR (λx:aW=>nh x v) t.Links)).B=b))=false:=by
     simp;by_cases q3:b<a<;>by_cases q4:b>a<;>simp only[q3,q4,if_true,if_false]at q2<;>omega
    rw[this];rfl
 ·simp[h]
def ids(t:aa):List Int:=t.ah.map (·.ID)
theorem ye(h:Vt t):(ids t).Pairwise (·<·):=List.pairwise_map.2 h.asc
theorem iy:r∈ids t↔hasB t r=true:=by rw[wj];simp[ids]
theorem jf:dR t a b=true↔∃l∈t.Links,(l.A=a∧l.B=b)∨(l.B=a∧l.A=b):=by
 simp[dR,eM]
theorem qb(h:dR t a b=true):dR t b a=true:=by
 rw[jf]at h ⊢
 obtain⟨l,hl,h⟩:=h
 exact⟨l,hl,by omega⟩
theorem agk(hv:Vt t)(h:dR t a b=true):a≠b:=by
 rw[jf]at h
 obtain⟨l,hl,h⟩:=h
 have:=hv.lt l hl
 omega
theorem nv(hv:Vt t)(h:dR t a b=true):b∈ids t:=by
 rw[jf]at h
 obtain⟨l,hl,h⟩:=h
 have:=hv.ends l hl
 rcases h with⟨h1,h2⟩|⟨h1,h2⟩<;>rw[iy,←h2]
 ·exact this.2
 ·exact this.1
def lS(t:aa)(r:Int):List Int:=(ids t).filter λx=>dR t r x
theorem yV(hv:Vt t)(r:Int):(lS t r).Pairwise (·<·):=(ye hv).sublist List.filter_sublist
theorem jV(hv:Vt t):x∈lS t r↔dR t r x=true:=by
 unfold lS;rw[List.mem_filter]
 exact⟨λh=>h.2,λh=>⟨nv hv h,h⟩⟩
theorem ack(hv:Vt t)(r:Int):mM t r=some (lS t r):=by
 unfold mM
 have:=hv.nr
 refine(lI (λx:aR=>dR t r x.ID) (·.ID) _ _ _ ?_ (by simp;omega)).trans ?_
 ·intro j x Z s _ hs
  simp only[jn,aas,aat,aM,lY hs]
 ·simp only[List.nil_append,lS,ids]
  rw[List.filter_map];rfl
def jL(r:Int)(l:aW):Option Int:=if r=l.A then some l.B else if r=l.B then some l.A else none
theorem aau{α γ β:Type}{B:Int→α→(List γ→Option β)→List γ→Option β}{K:List γ→Option β}(f:α→Option γ):
  ∀(l:List α) (j:Nat) (s:List γ),(∀(j:Nat) x Z s,x∈l→s.length<1000000→B j x Z s=match f x with|some y=>Z (s++[y])|none=>Z s)→l.length+s.length≤1000000→bO l j B K s=K (s++l.filterMap f)
 |[],j,s,_,_=>by simp[bO]
 |x::r,j,s,hB,h=>by
  simp only[List.length_cons]at h
  simp only[bO]
  rw[hB j x _ s (by simp) (by omega)]
  have hB':∀(j:Nat) y Z s,y∈r→s.length<1000000→B j y Z s=match f y with|some y=>Z (s++[y])|none=>Z s:=λj y Z s hy=>hB j y Z s (by simp[hy])
  cases hp:f x with
  |none=>simp only;rw[aau f r (j+1) s hB' (by omega),List.filterMap_cons_none hp]
  |some y=>simp only;rw[aau f r (j+1) (s++[y]) hB' (by simp;omega),List.filterMap_cons_some hp];simp
theorem xJ(hv:Vt t)(r:Int):(t.Links.filterMap (jL r)).Nodup:=by
 have key:∀l:List aW,(∀x∈l,x.A<x.B)→l.Pairwise (λa b=>ltL a b=true)→(l.filterMap (jL r)).Nodup:=by
  intro l
  induction l with
  |nil=>intros;simp
  |cons x l ih=>
   intro h1 h2
   rw[List.pairwise_cons]at h2
   have ih:=ih (λy hy=>h1 y (by simp[hy])) h2.2
   cases hx:jL r x with
   |none=>rw[List.filterMap_cons_none hx];exact ih
   |some y=>
    rw[List.filterMap_cons_some hx,List.nodup_cons]
    refine⟨λhm=>?_,ih⟩
    obtain⟨z,hz,hzy⟩:=List.mem_filterMap.1 hm
    have h3:=h2.1 z hz
    have h4:=h1 x (by simp)
    have h5:=h1 z (by simp[hz])
    unfold jL at hx hzy
    simp[ltL]at h3
    split at hx<;>split at hzy<;>(try split at hx)<;>(try split at hzy)<;>simp at hx hzy<;>omega
 exact key _ hv.lt hv.agj
theorem aeT(hv:Vt t):x∈t.Links.filterMap (jL r)↔dR t r x=true:=by
 rw[List.mem_filterMap,jf]
 constructor
 ·rintro⟨l,hl,h⟩
  unfold jL at h
  refine⟨l,hl,?_⟩
  split at h
  ·simp at h;omega
  ·split at h
   ·simp at h;omega
   ·cases h
 ·rintro⟨l,hl,h⟩
  refine⟨l,hl,?_⟩
  have:=hv.lt l hl
  unfold jL
  rcases h with h|h
  ·rw[if_pos (by omega),h.2]
  ·rw[if_neg (by omega),if_pos (by omega),h.2]
theorem agl(hv:Vt t)(r:Int):gX t r=some (lS t r):=by
 unfold gX
 have:=hv.nl
 refine(aau (jL r) _ _ _ ?_ (by simp;omega)).trans ?_
 ·intro j x Z s _ hs
  simp only[jn,lY hs,aM,jL]
  by_cases h1:r=x.A
  ·simp[h1]
  ·by_cases h2:r=x.B<;>simp[h1,h2]
   simp[←h2,h1]
 ·have hlen:(t.Links.filterMap (jL r)).length≤60:=Nat.le_trans (List.length_filterMap_le _ _) (by omega)
  simp only[List.nil_append]
  rw[anE (by simp;omega)]
  congr 1
  refine ux (yU (xJ hv r)) (yV hv r) λx=>?_
  rw[xd,aeT hv,jV hv]
theorem ad4(t:aa)(r:Int):lz t r=some (if eS t=0 then lS t r else[]):=by
 unfold lz
 simp only[rY,aM]
 by_cases h:eS t=0
 ·simp[h,ack (fC.1 h),aM]
 ·simp[h]
theorem ad5(t:aa)(r:Int):jc t r=some (if eS t=0 then lS t r else[]):=by
 unfold jc
 simp only[xe,aM]
 by_cases h:eS t=0
 ·simp[h,agl (fC.1 h),aM]
 ·simp[h]
end Go.Proofs.YtdjeacigeegklaaGreat
namespace Go.Proofs.YtdjeacigeegklaaGreat
set_option linter.all false
open Go
theorem Ok.yW{α σ β:Type}{B:Int→α→(σ→Option β)→σ→Option β}{K:σ→Option β}{Q:β→Prop}(I:List α→σ→Prop){L:List α}
  (hc:∀(p:List α) x r s Z,L=p++x::r→I p s→(∀s',I (p++[x]) s'→Ok (Z s') Q)→Ok (B (p.length:Int) x Z s) Q) (s:σ) (h:I [] s) (hn:∀s,I L s→Ok (K s) Q):Ok (Go.Proofs.YtdjeacigeegklaaGreat.bO L 0 B K s) Q:=by
 have key:∀(l p:List α) (s:σ),L=p++l→I p s→Ok (Go.Proofs.YtdjeacigeegklaaGreat.bO l p.length B K s) Q:=by
  intro l
  induction l with
  |nil=>intro p s hj h;exact hn s (by rw[hj,List.append_nil];exact h)
  |cons x r ih=>
   intro p s hj h
   refine hc p x r s _ hj h λs' h'=>?_
   have:=ih (p++[x]) s' (by simp[hj]) h'
   rwa [List.length_append]at this
 exact key L [] s rfl h
theorem jW{a b:List Int}(h:a.Nodup)(hs:∀x∈a,x∈b):a.length≤b.length:=by
 induction a generalizing b with
 |nil=>simp
 |cons x a ih=>
  rw[List.nodup_cons]at h
  have hx:=hs x (by simp)
  have:=ih (b:=b.erase x) h.2 λy hy=>(List.mem_erase_of_ne (λe=>h.1 (by rw[←e];exact hy))).2 (hs y (by simp[hy]))
  rw[List.length_erase_of_mem hx]at this
  have:=List.length_pos_of_mem hx
  simp only[List.length_cons];omega
inductive Cn(t:aa)(c:List Int):Int→Int→Prop
 |refl {a:Int} (h:a∉c):Cn t c a a
 |step {a b d:Int} (h:Cn t c a b) (ha:dR t b d=true) (hd:d∉c):Cn t c a d
variable {a b:Int}{c:List Int}{t:aa}
theorem Cn.trans{d:Int}(h1:Cn t c a b)(h2:Cn t c b d):Cn t c a d:=by
 induction h2 with
 |refl _=>exact h1
 |step _ ha hd ih=>exact .step ih ha hd
theorem Cn.left(h:Cn t c a b):a∉c:=by
 induction h with
 |refl h=>exact h
 |step _ _ _ ih=>exact ih
theorem Cn.right(h:Cn t c a b):b∉c:=by
 cases h with
 |refl h=>exact h
 |step _ _ hd=>exact hd
theorem Cn.symm(h:Cn t c a b):Cn t c b a:=by
 induction h with
 |refl h=>exact .refl h
 |step h ha hd ih=>exact(Cn.step (.refl hd) (qb ha) h.right).trans ih
theorem Cn.ids{t:aa}(hv:Vt t){c:List Int}{a b:Int}(h:Cn t c a b)(ha:a∈ids t):b∈ids t:=by
 cases h with
 |refl h=>exact ha
 |step _ hd _=>exact nv hv hd
theorem Cn.stays{S:Int→Prop}(h:Cn t c a b)(ha:S a)(hs:∀x,S x→∀y,dR t x y=true→S y∨y∈c):S b:=by
 induction h with
 |refl _=>exact ha
 |step _ hd hc ih=>exact(hs _ ih _ hd).resolve_right hc
open Classical in
noncomputable def aba(t:aa)(c:List Int)(r:Int):List Int:=(ids t).filter λx=>decide (Cn t c r x)
variable {r:Int}
theorem aav(hv:Vt t){x:Int}(hr:r∈ids t):x∈aba t c r↔Cn t c r x:=by
 unfold aba
 rw[List.mem_filter]
 simp only[decide_eq_true_eq]
 exact⟨λh=>h.2,λh=>⟨h.ids hv hr,h⟩⟩
theorem agm(hv:Vt t)(c:List Int)(r:Int):(aba t c r).Pairwise (·<·):=(ye hv).sublist List.filter_sublist
theorem mE(hv:Vt t):(ids t).length≤24:=by have:=hv.nr;simpa [ids]using this
theorem auA(hv:Vt t)(c:List Int):∀(n:Nat) (r:Int) (out:List Int),out.Nodup→(∀x∈out,x∈ids t)→r∈ids t→(ids t).length+1≤n+out.length→
  Ok (iq n r out c t.ah t.Links) (λo=>∃new,o=out++new∧o.Nodup∧(∀x∈new,Cn t c r x)∧(r∈o∨r∈c)∧(∀x∈new,∀y,dR t x y=true→y∈o∨y∈c)):=by
 intro n
 induction n with
 |zero=>intro r out h1 h2 _ h3;have:=jW h1 h2;omega
 |succ n ih=>
  intro r out h1 h2 hr h3
  unfold iq
  simp only[r9,aM,jn]
  by_cases q1:r∈out
  ·simp only[q1,decide_true,cond_true]
   exact Ok.s ⟨[],by simp,h1,by simp,.inl q1,by simp⟩
  ·simp only[q1,decide_false,cond_false]
   by_cases q2:r∈c
   ·simp only[q2,decide_true,cond_true]
    exact Ok.s ⟨[],by simp,h1,by simp,by simp[q2],by simp⟩
   ·simp only[q2,decide_false,cond_false]
    have hol:=jW h1 h2
    have:=mE hv
    rw[nu (by simp;omega),aM,show(aa.mk t.ah t.Links)=t from rfl,agl hv,aM]
    refine Ok.yW (λp m=>∃new,m=(out++[r])++new∧m.Nodup∧(∀x∈new,Cn t c r x)∧(∀x∈p,x∈m∨x∈c)∧(∀x∈new,∀y,dR t x y=true→y∈m∨y∈c)) ?_ _ ?_ ?_
    ·rintro p e rest m Z hL ⟨new,hm,hnd,hcn,hp,had⟩ hZ
     have lZ:dR t r e=true:=(jV hv).1 (by rw[hL];simp)
     have hsub:∀x∈m,x∈ids t:=by
      intro x hx
      rw[hm]at hx
      simp only[List.mem_append,List.mem_cons,List.not_mem_nil,or_false]at hx
      rcases hx with(hx|rfl)|hx
      ·exact h2 x hx
      ·exact hr
      ·exact(hcn x hx).ids hv hr
     refine Ok.bnd (ih e m hnd hsub (nv hv lZ) (by rw[hm];simp;omega)) ?_
     rintro o ⟨new2,ho,aaw,aax,hoe,hoad⟩
     refine hZ _ ⟨new++new2,by rw[ho,hm];simp,aaw,?_,?_,?_⟩
     ·intro x hx
      rcases List.mem_append.1 hx with hx|hx
      ·exact hcn x hx
      ·have:=aax x hx
       exact(Cn.step (.refl q2) lZ this.left).trans this
     ·intro x hx
      rcases List.mem_append.1 hx with hx|hx
      ·rcases hp x hx with h|h
       ·exact .inl (by rw[ho];simp[h])
       ·exact .inr h
      ·simp only[List.mem_cons,List.not_mem_nil,or_false]at hx;subst hx;exact hoe
     ·intro x hx y hy
      rcases List.mem_append.1 hx with hx|hx
      ·rcases had x hx y hy with h|h
       ·exact .inl (by rw[ho];simp[h])
       ·exact .inr h
      ·exact hoad x hx y hy
    ·refine⟨[],by simp,?_,by simp,by simp,by simp⟩
     rw[List.nodup_append]
     refine⟨h1,by simp,?_⟩
     intro a ha b hb
     simp only[List.mem_cons,List.not_mem_nil,or_false]at hb
     subst hb
     exact λe=>q1 (e▸ha)
    ·rintro m ⟨new,hm,hnd,hcn,hp,had⟩
     refine Ok.s ⟨r::new,by rw[hm];simp,hnd,?_,.inl (by rw[hm];simp),?_⟩
     ·intro x hx
      rcases List.mem_cons.1 hx with rfl|hx
      ·exact .refl q2
      ·exact hcn x hx
     ·intro x hx y hy
      rcases List.mem_cons.1 hx with rfl|hx
      ·exact hp y ((jV hv).2 hy)
      ·exact had x hx y hy
theorem ag7(hv:Vt t)(hr:r∈ids t)(c:List Int):lC t r c=some (aba t c r):=by
 have:=mE hv
 obtain⟨o,h1,new,ho,hnd,hcn,hro,had⟩:=auA hv c fuel r [] List.nodup_nil (by simp) hr (by unfold fuel;simp;omega)
 unfold lC
 rw[h1,aM]
 rw[List.nil_append]at ho
 subst ho
 have hlen:=jW hnd λx hx=>(hcn x hx).ids hv hr
 rw[anE (by simp;omega)]
 congr 1
 refine ux (yU hnd) (agm hv c r) λx=>?_
 rw[xd,aav hv hr]
 refine⟨hcn x,λh=>?_⟩
 have hro:=hro.resolve_right h.left
 exact h.stays (S:=λx=>x∈o) hro had
theorem auB{l:List Int}{n:Int}(hl:l.Pairwise (·<·))(hlen:l.length≤1000000):Ok (oh l n) (λm=>m.Pairwise (·<·)∧∀x,x∈m↔x=n∨x∈l):=by
 unfold oh
 refine Ok.whl (λa:Int=>(0≤a∧a≤l.length)∧∀x∈l.take a.toNat,x<n) (λa=>((l.length:Int)-a).toNat) ⟨⟨by omega,by omega⟩,by simp⟩ (by omega) ?_
 rintro a Z ⟨⟨h0,h1⟩,hlt⟩ hZ
 have split:l.take a.toNat++l.drop a.toNat=l:=List.take_append_drop _ _
 refine Ok.jn (λv:Bool=>(v=true→a<l.length∧∀x∈l.take (a+1).toNat,x<n)∧(v=false→∀x∈l.drop a.toNat,n≤x)) (λv hv=>?_) λJ hJ=>?_
 ·refine Ok.cs (λh=>?_) λh=>?_
  ·obtain⟨q1,q2⟩:=hv.1 h
   rw[gO (by omega) (by omega)]
   exact hZ _ ⟨⟨by omega,by omega⟩,q2⟩ (by omega)
  ·have hge:=hv.2 h
   refine Ok.jn (λv:Bool=>(v=true→n∈l)∧(v=false→∀x∈l.drop a.toNat,n<x)) (λv hv=>?_) λJ2 hJ2=>?_
   ·refine Ok.cs (λh=>Ok.s ⟨hl,λx=>⟨.inr,?_⟩⟩) λh=>?_
    ·rintro(rfl|hx)
     ·exact hv.1 h
     ·exact hx
    ·have hgt:=hv.2 h
     refine Ok.bnd (wg ⟨by omega,by omega,by omega⟩) λl1 e1=>?_
     refine Ok.bnd (p8 (by simp;omega)) λl2 e2=>?_
     refine Ok.bnd (p8 (by simp at e2 ⊢;omega)) λl3 e3=>?_
     refine Ok.bnd (wg ⟨by omega,by omega,by omega⟩) λl4 e4=>?_
     refine Ok.bnd (p8 (by simp at e2 e3 ⊢;omega)) λl5 e5=>?_
     have f:l5=l.take a.toNat++n::l.drop a.toNat:=by
      rw[e5.1,e4.1,e3.1,e2.1,e1.1];simp
     refine Ok.s ?_
     rw[f]
     have hl':=hl
     rw[←split,List.pairwise_append]at hl'
     obtain⟨p1,p2,p3⟩:=hl'
     refine⟨?_,λx=>?_⟩
     ·rw[List.pairwise_append,List.pairwise_cons]
      refine⟨p1,⟨λy hy=>hgt y hy,p2⟩,λx hx y hy=>?_⟩
      rcases List.mem_cons.1 hy with rfl|hy
      ·exact hlt x hx
      ·exact p3 x hx y hy
     ·have:x∈l↔x∈l.take a.toNat∨x∈l.drop a.toNat:=by rw[←List.mem_append,split]
      rw[this];simp only[List.mem_append,List.mem_cons]
      constructor
      ·rintro(h|h|h)<;>simp[h]
      ·rintro(h|h|h)<;>simp[h]
   ·refine Ok.cs (λhc=>?_) λhc=>hJ2 _ ⟨by simp,λ_ x hx=>?_⟩
    ·have hc:a<l.length:=by simpa using hc
     refine Ok.bnd (iQ h0 hc) λe he=>hJ2 _ ⟨λh=>?_,λh x hx=>?_⟩
     ·have:e=n:=by simpa using h
      rw[←this];exact he.1
     ·have hne:e≠n:=by simpa using h
      have hd:l.drop a.toNat=e::l.drop (a.toNat+1):=by
       have hi:a.toNat<l.length:=by omega
       rw[List.drop_eq_getElem_cons hi]
       have:=he.2
       rw[List.getElem?_eq_getElem hi]at this
       injection this with this
       rw[this]
      have hen:=hge e (by rw[hd];simp)
      rw[hd]at hx
      rcases List.mem_cons.1 hx with rfl|hx
      ·omega
      ·have hp:(l.drop a.toNat).Pairwise (·<·):=hl.sublist (List.drop_sublist _ _)
       rw[hd,List.pairwise_cons]at hp
       have:=hp.1 x hx;omega
    ·have hc:(l.length:Int)≤a:=by simpa using hc
     rw[List.drop_eq_nil_of_le (by omega)]at hx
     simp at hx
 ·refine Ok.cs (λhc=>?_) λhc=>hJ _ ⟨by simp,λ_ x hx=>?_⟩
  ·have hc:a<l.length:=by simpa using hc
   have hi:a.toNat<l.length:=by omega
   refine Ok.bnd (iQ h0 hc) λe he=>?_
   have hev:=he.2
   rw[List.getElem?_eq_getElem hi]at hev
   injection hev with hev
   have hd:l.drop a.toNat=e::l.drop (a.toNat+1):=by rw[List.drop_eq_getElem_cons hi,hev]
   refine hJ _ ⟨λh=>⟨hc,λx hx=>?_⟩,λh x hx=>?_⟩
   ·have hen:e<n:=by simpa using h
    rw[show(a+1).toNat=a.toNat+1 by omega,List.take_succ_eq_append_getElem hi,hev]at hx
    rcases List.mem_append.1 hx with hx|hx
    ·exact hlt x hx
    ·simp at hx;omega
   ·have hen:n≤e:=by simpa using h
    rw[hd]at hx
    rcases List.mem_cons.1 hx with rfl|hx
    ·exact hen
    ·have hp:(l.drop a.toNat).Pairwise (·<·):=hl.sublist (List.drop_sublist _ _)
     rw[hd,List.pairwise_cons]at hp
     have:=hp.1 x hx;omega
  ·have hc:(l.length:Int)≤a:=by simpa using hc
   rw[List.drop_eq_nil_of_le (by omega)]at hx
   simp at hx
theorem aiH(hv:Vt t)(hr:r∈ids t):oo t r=some (aba t [] r):=by
 refine Ok.eq ?_
 have hil:=mE hv
 unfold oo
 refine Ok.whl (λs:List Int×Int=>(0≤s.2∧s.2≤s.1.length)∧s.1.Nodup∧(∀x∈s.1,Cn t [] r x)∧r∈s.1∧(∀x∈s.1.take s.2.toNat,∀y,dR t x y=true→y∈s.1))
  (λs=>((25:Int)-s.2).toNat) ⟨⟨by simp,by simp⟩,by simp,by intro x hx;simp at hx;subst hx;exact .refl (by simp),by simp,by simp⟩ (by simp only;omega) ?_
 rintro⟨out,i⟩ Z ⟨⟨h0,h1⟩,hnd,hcn,hro,had⟩ hZ
 simp only at h0 h1 hnd hcn hro had
 have hsub:∀{l:List Int},(∀x∈l,Cn t [] r x)→l.Nodup→l.length≤24:=λ{l} h hn=>Nat.le_trans (jW hn λx hx=>(h x hx).ids hv hr) hil
 have hol:=hsub hcn hnd
 refine Ok.cs (λhc=>?_) λhc=>?_
 ·have hc:i<out.length:=by simpa using hc
  have hi:i.toNat<out.length:=by omega
  refine Ok.bnd (iQ h0 hc) λe he=>?_
  have hev:=he.2
  rw[List.getElem?_eq_getElem hi]at hev
  injection hev with hev
  rw[ack hv,aM]
  refine Ok.yW (λp o=>(∃new,o=out++new)∧o.Nodup∧(∀x∈o,Cn t [] r x)∧∀y∈p,y∈o) ?_ _ ⟨⟨[],by simp⟩,hnd,hcn,by simp⟩ ?_
  ·rintro p x rest o Z2 hL ⟨⟨new,ho⟩,aaw,aax,hp⟩ hZ2
   have lZ:dR t e x=true:=(jV hv).1 (by rw[hL];simp)
   have hcx:Cn t [] r x:=.step (hcn e he.1) lZ (by simp)
   have hlo:=hsub aax aaw
   simp only[jn,aa9,aM]
   by_cases hx:x∈o
   ·simp only[hx,decide_true,Bool.not_true,cond_false]
    refine hZ2 _ ⟨⟨new,ho⟩,aaw,aax,λy hy=>?_⟩
    rcases List.mem_append.1 hy with hy|hy
    ·exact hp y hy
    ·simp at hy;subst hy;exact hx
   ·simp only[hx,decide_false,Bool.not_false,cond_true]
    rw[nu (by simp;omega),aM]
    refine hZ2 _ ⟨⟨new++[x],by rw[ho];simp⟩,?_,λy hy=>?_,λy hy=>?_⟩
    ·rw[List.nodup_append]
     refine⟨aaw,by simp,λa ha b hb=>?_⟩
     simp at hb;subst hb;exact λe=>hx (e▸ha)
    ·rcases List.mem_append.1 hy with hy|hy
     ·exact aax y hy
     ·simp at hy;subst hy;exact hcx
    ·rcases List.mem_append.1 hy with hy|hy
     ·exact List.mem_append_left _ (hp y hy)
     ·exact List.mem_append_right _ hy
  ·rintro o ⟨⟨new,ho⟩,aaw,aax,hp⟩
   have hlo:=hsub aax aaw
   rw[gO (by omega) (by omega)]
   refine hZ _ ⟨⟨by simp only;omega,by simp only[ho,List.length_append];omega⟩,aaw,aax,by rw[ho];simp[hro],?_⟩ (by simp only;omega)
   intro x hx y hy
   simp only at hx ⊢
   rw[show(i+1).toNat=i.toNat+1 by omega,ho,List.take_append_of_le_length (by omega),List.take_succ_eq_append_getElem hi,hev]at hx
   rcases List.mem_append.1 hx with hx|hx
   ·rw[ho];exact List.mem_append_left _ (had x hx y hy)
   ·simp at hx;subst hx
    exact hp y ((jV hv).2 hy)
 ·have hc:(out.length:Int)≤i:=by simpa using hc
  rw[List.take_of_length_le (by omega)]at had
  refine Ok.yW (λp m=>m.Pairwise (·<·)∧∀x,x∈m↔x∈p) ?_ _ ⟨by simp,by simp⟩ ?_
  ·rintro p x rest m Z2 hL ⟨hm1,hm2⟩ hZ2
   have hnm:m.Nodup:=hm1.imp (λh=>by omega)
   have:m.length≤24:=hsub (λy hy=>hcn y (by rw[hL];exact List.mem_append_left _ ((hm2 y).1 hy))) hnm
   refine Ok.bnd (auB hm1 (by omega)) λm2 ⟨q1,q2⟩=>hZ2 _ ⟨q1,λy=>?_⟩
   rw[q2,hm2];simp[or_comm]
  ·rintro m ⟨hm1,hm2⟩
   refine Ok.s (ux hm1 (agm hv [] r) λx=>?_)
   rw[hm2,aav hv hr]
   exact⟨hcn x,λh=>h.stays (S:=λx=>x∈out) hro λx hx y hy=>.inl (had x hx y hy)⟩
end Go.Proofs.YtdjeacigeegklaaGreat
namespace Go.Proofs.YtdjeacigeegklaaGreat
set_option linter.all false
open Go
open Classical in
noncomputable def ta(t:aa)(a b:Int):Bool:=decide (eS t=0)&&hasB t a&&hasB t b&&decide (Cn t [] a b)
variable {a b:Int}{t:aa}
theorem agn(hv:Vt t){c:List Int}(ha:a∈ids t):decide (b∈aba t c a)=@decide (Cn t c a b) (Classical.propDecidable _):=by
 rw[Bool.eq_iff_iff];simp[aav hv ha]
theorem afg(t:aa)(a b:Int):l6 t a b=some (ta t a b):=by
 unfold l6 ta
 simp only[ad3,aM]
 by_cases h:eS t=0
 ·have hv:=fC.1 h
  simp only[h,decide_true,Bool.true_and]
  cases ha:hasB t a
  ·rfl
  ·cases hb:hasB t b
   ·rfl
   ·simp only[cond_true,aiH hv (iy.2 ha),aM,aa9,agn hv (iy.2 ha),Bool.true_and]
 ·simp[h]
theorem afh(t:aa)(a b:Int)(hl:t.ah.length≤1000000):jH t a b=some (ta t a b):=by
 unfold jH ta
 simp only[yd _ _ hl,aM]
 by_cases h:eS t=0
 ·have hv:=fC.1 h
  simp only[h,decide_true,Bool.true_and]
  cases ha:hasB t a
  ·rfl
  ·cases hb:hasB t b
   ·rfl
   ·simp only[cond_true,ag7 hv (iy.2 ha),aM,r9,agn hv (iy.2 ha),Bool.true_and]
 ·simp[h]
variable {α:Type}
theorem fQ(l:List (Int×α))(n m:Int)(b:α):aK (bU l n b) m=if m=n then some b else aK l m:=by
 induction l with
 |nil=>
  simp only[bU,aK,List.find?]
  by_cases h:n=m
  ·simp[h]
  ·simp[h,Ne.symm h]
 |cons p r ih=>
  simp only[bU]
  by_cases h1:p.1=n
  ·rw[if_pos h1]
   simp only[aK,List.find?]at ih ⊢
   by_cases h2:n=m
   ·simp[h2]
   ·have:p.1≠m:=by omega
    simp[h2,this,Ne.symm h2]
  ·rw[if_neg h1]
   simp only[aK,List.find?]at ih ⊢
   by_cases h2:p.1=m
   ·have:m≠n:=by omega
    simp[h2,this]
   ·simp[h2];exact ih
theorem al0{l:List (Int×α)}{n:Int}{b:α}(h:aK l n=none):(bU l n b).length=l.length+1:=by
 induction l with
 |nil=>rfl
 |cons p r ih=>
  simp only[aK,List.find?]at h
  by_cases h1:p.1=n
  ·simp[h1]at h
  ·simp only[bU,if_neg h1,List.length_cons]
   rw[ih (by simpa [aK,h1]using h)]
variable {r:Int}
theorem aiI(ha:a≠r)(h:Cn t [] a b):Cn t [r] a b∨Cn t [] a r:=by
 induction h with
 |refl _=>exact .inl (.refl (by simpa using ha))
 |@step e d h hd _ ih=>
  rcases ih with ih|ih
  ·by_cases hdr:d=r
   ·subst hdr;exact .inr (.step h hd (by simp))
   ·exact .inl (.step ih hd (by simpa using hdr))
  ·exact .inr ih
theorem ahC(ha:a≠r)(h:Cn t [] a r):∃n,dR t r n=true∧Cn t [r] a n:=by
 have key:∀{b},Cn t [] a b→(∃n,dR t r n=true∧Cn t [r] a n)∨(b≠r∧Cn t [r] a b):=by
  intro b h
  induction h with
  |refl _=>exact .inr ⟨ha,.refl (by simpa using ha)⟩
  |@step e d h hd _ ih=>
   rcases ih with h2|⟨_,h2⟩
   ·exact .inl h2
   ·by_cases hdr:d=r
    ·subst hdr;exact .inl ⟨e,qb hd,h2⟩
    ·exact .inr ⟨hdr,.step h2 hd (by simpa using hdr)⟩
 rcases key h with h2|h2
 ·exact h2
 ·exact absurd rfl h2.1
end Go.Proofs.YtdjeacigeegklaaGreat
