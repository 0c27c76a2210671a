/- Several texts in one. No condition but those that stand in each. -/
import Derived.Test.YtjdopimopgpagaaGreatDA
namespace Go.Proofs.YtjdopimopgpagaaGreat
set_option linter.all false
open Go
variable {α β:Type}
theorem aO(a:α)(k:α→Option β):bnd (some a) k=k a:=rfl
variable {c:Bool}
theorem oz{k:Option β}(h:c=true):chk c k=k:=by subst h;rfl
theorem oK{p:Prop}[Decidable p]{x y:α}:(bif decide p then x else y)=if p then x else y:=by
 by_cases h:p<;>simp[h]
theorem zO{α σ β:Type}{B:Int→α→(σ→Option β)→σ→Option β}{K:σ→Option β}(f:List α→σ→Option β)(hn:∀s,K s=f [] s)
  (hc:∀(j:Int) x r s Z,(∀s',Z s'=f r s')→B j x Z s=f (x::r) s):∀(l:List α) (j:Nat) (s:σ),bL l j B K s=f l s
 |[],_,s=>hn s
 |x::r,j,s=>hc j x r s _ λs'=>zO f hn hc r (j+1) s'
theorem aa9{α σ β:Type}{B:Int→α→(σ→Option β)→σ→Option β}{K:σ→Option β}{L:List α}(f:List α→List α→σ→Option β)(hn:∀s,K s=f L [] s)
  (hc:∀p x r s Z,p++x::r=L→(∀s',Z s'=f (p++[x]) r s')→B (p.length:Int) x Z s=f p (x::r) s):∀(l p:List α) (s:σ),p++l=L→bL l p.length B K s=f p l s
 |[],p,s,h=>by rw[List.append_nil]at h;subst h;exact hn s
 |x::r,p,s,h=>hc p x r s _ h λs'=>by
   have:=aa9 (B:=B) (K:=K) f hn hc r (p++[x]) s' (by simpa using h)
   rw[List.length_append]at this
   exact this
def Ok{β:Type}(o:Option β)(Q:β→Prop):Prop:=∃r,o=some r∧Q r
variable {Q:β→Prop}
theorem Ok.s{r:β}(h:Q r):Ok (some r) Q:=⟨r,rfl,h⟩
theorem Ok.bnd{α β:Type}{o:Option α}{k:α→Option β}{P:α→Prop}{Q:β→Prop}(h:Ok o P)(hk:∀a,P a→Ok (k a) Q):Ok (bnd o k) Q:=by
 obtain⟨a,rfl,ha⟩:=h;exact hk a ha
theorem Ok.cs{x y:Option β}(h1:c=true→Ok x Q)(h2:c=false→Ok y Q):Ok (bif c then x else y) Q:=by
 cases c
 ·exact h2 rfl
 ·exact h1 rfl
theorem Ok.chk{β:Type}{c:Bool}{k:Option β}{Q:β→Prop}(h:c=true)(hk:Ok k Q):Ok (chk c k) Q:=by subst h;exact hk
theorem Ok.jn{σ β:Type}{k:σ→Option β}{t:(σ→Option β)→Option β}{Q:β→Prop}(R:σ→Prop)(h1:∀s,R s→Ok (k s) Q)(h2:∀J,(∀s,R s→Ok (J s) Q)→Ok (t J) Q):Ok (jn k t) Q:=h2 k h1
variable {o:Option β}
theorem Ok.mono{Q':β→Prop}(h:Ok o Q)(hq:∀r,Q r→Q' r):Ok o Q':=by
 obtain⟨r,h1,h2⟩:=h;exact⟨r,h1,hq r h2⟩
theorem Ok.bL{α σ β:Type}{B:Int→α→(σ→Option β)→σ→Option β}{K:σ→Option β}{Q:β→Prop}(I:Nat→σ→Prop)
  (hc:∀(j:Nat) x s Z,I j s→(∀s',I (j+1) s'→Ok (Z s') Q)→Ok (B (j:Int) x Z s) Q):∀(l:List α) (j:Nat) (s:σ),I j s→(∀s,I (j+l.length) s→Ok (K s) Q)→Ok (bL l j B K s) Q
 |[],j,s,h,hn=>hn s (by simpa using h)
 |x::r,j,s,h,hn=>hc j x s _ h λs' h'=>Ok.bL I hc r (j+1) s' h' λs hs=>hn s (by rwa [List.length_cons,←Nat.add_assoc,Nat.add_right_comm])
variable {σ:Type}{B:Int→α→(σ→Option β)→σ→Option β}{K:σ→Option β}
theorem Ok.forM(I:Nat→σ→Prop){L:List α}
  (hc:∀(j:Nat) x s Z,j<L.length→x∈L→I j s→(∀s',I (j+1) s'→Ok (Z s') Q)→Ok (B (j:Int) x Z s) Q) (s:σ) (h:I 0 s) (hn:∀s,I L.length s→Ok (K s) Q):Ok (Go.Proofs.YtjdopimopgpagaaGreat.bL L 0 B K s) Q:=by
 have key:∀(l:List α) (j:Nat) (s:σ),(∀x∈l,x∈L)→j+l.length=L.length→I j s→Ok (Go.Proofs.YtjdopimopgpagaaGreat.bL l j B K s) Q:=by
  intro l
  induction l with
  |nil=>intro j s _ hj h;exact hn s (by simpa [←hj]using h)
  |cons x r ih=>
   intro j s hm hj h
   simp only[List.length_cons]at hj
   exact hc j x s _ (by omega) (hm x (by simp)) h λs' h'=>ih (j+1) s' (λy hy=>hm y (by simp[hy])) (by omega) h'
 exact key L 0 s (λ_ h=>h) (by simp) h
theorem Ok.fV{σ β:Type}{B:Int→(σ→Option β)→σ→Option β}{K:Int→σ→Option β}{Q:β→Prop}(I:Int→σ→Prop)(lo hi:Int)
  (hc:∀(i:Int) s Z,lo≤i→i<hi→I i s→(∀s',I (i+1) s'→Ok (Z s') Q)→Ok (B i Z s) Q) (hn:∀i s,lo≤i→(lo≤hi→i=hi)→I i s→Ok (K i s) Q):∀(n:Nat) (i:Int) (s:σ),n=(hi-i).toNat→lo≤i→(lo≤hi→i≤hi)→I i s→Ok (fV n i B K s) Q
 |0,i,s,hn0,h1,h2,h=>hn i s h1 (λhh=>by have:=h2 hh;omega) h
 |n+1,i,s,hn0,h1,h2,h=>hc i s _ h1 (by omega) h λs' h'=>Ok.fV I lo hi hc hn n (i+1) s' (by omega) (by omega) (λ_=>by omega) h'
theorem Ok.iter{σ β:Type}{F:(σ→Option β)→σ→Option β}{Q:β→Prop}(I:σ→Prop)(μ:σ→Nat)
  (hc:∀s Z,I s→(∀s',I s'→μ s'<μ s→Ok (Z s') Q)→Ok (F Z s) Q):∀(n:Nat) (s:σ),I s→μ s<n→Ok (iter F n s) Q
 |0,s,_,h=>by omega
 |n+1,s,h,hm=>hc s _ h λs' h' hm'=>Ok.iter I μ hc n s' h' (by omega)
theorem Ok.whl{σ β:Type}{F:(σ→Option β)→σ→Option β}{Q:β→Prop}(I:σ→Prop)(μ:σ→Nat){s:σ}(h:I s)(hm:μ s<1099511627776)
  (hc:∀s Z,I s→(∀s',I s'→μ s'<μ s→Ok (Z s') Q)→Ok (F Z s) Q):Ok (whl F s) Q:=Ok.iter I μ hc fuel s h hm
theorem Ok.get(h:Ok o Q):∃r,o=some r∧Q r:=h
theorem Ok.eq{r:β}(h:Ok o (λx=>x=r)):o=some r:=by obtain⟨x,h1,rfl⟩:=h;exact h1
theorem iK(p:List α)(x:α)(r:List α):elO (p++x::r) (p.length:Int)=some x:=by
 unfold elO;rw[if_pos (by omega)];simp
variable {i:Int}{l:List α}
theorem mK(h0:0≤i)(h:i<l.length):Ok (elO l i) (λx=>x∈l∧l[i.toNat]?=some x):=by
 unfold elO;rw[if_pos h0]
 have:i.toNat<l.length:=by omega
 exact⟨l[i.toNat],List.getElem?_eq_getElem this,List.getElem_mem this,List.getElem?_eq_getElem this⟩
variable {r:List α}
theorem dQ(h:l.length+r.length≤549755813888):dh l r=some (l++r):=by unfold dh;rw[if_pos (by unfold cap;exact h)]
theorem gm(h:l.length+r.length≤549755813888):Ok (dh l r) (λm=>m=l++r∧m.length=l.length+r.length):=⟨_,dQ h,rfl,by simp⟩
theorem aeb{x:α}(h0:0≤i)(h:i<l.length):Ok (ic l i x) (λm=>m=l.set i.toNat x∧m.length=l.length):=by
 unfold ic;rw[if_pos ⟨h0,h⟩];exact⟨_,rfl,rfl,by simp⟩
theorem y5{a b:Int}(h:0≤a∧a≤b∧b≤l.length):Ok (nw l a b) (λm=>m=(l.take b.toNat).drop a.toNat∧(m.length:Int)=b-a):=by
 unfold nw;rw[if_pos h];exact⟨_,rfl,rfl,by simp;omega⟩
theorem pR(p:α→Bool)(a:Option β)(hB:∀j x Z s,B j x Z s=bif p x then a else Z s)(l:List α)(j:Nat)(s:σ):bL l j B K s=bif l.any p then a else K s:=
 zO (f:=λl s=>bif l.any p then a else K s) (λs=>rfl) (λj x r s Z hZ=>by
  rw[hB,hZ,List.any_cons];cases p x<;>rfl) l j s
end Go.Proofs.YtjdopimopgpagaaGreat
namespace Go.Proofs.YtjdopimopgpagaaGreat
set_option linter.all false
open Go
def sH(n:Int):Bool:=decide (1≤n)&&decide (n≤1000)
def hasB(t:aA)(r:Int):Bool:=t.aH.any λx=>decide (x.ID=r)
def y6(r:bh):Bool:=decide (r.ID<1)||decide (99<r.ID)
def wE(l:aK):Bool:=!sH l.iX||!sH l.iL||decide (l.bX<0)||decide (1000<l.bX)
def ltL(a b:aK):Bool:=decide (a.A<b.A)||(decide (a.A=b.A)&&decide (a.B<b.B))
def fQ{α:Type}(p:α→α→Bool):List α→Bool
 |a::b::r=>p a b&&fQ p (b::r)
 |_=>true
def kA(t:aA):Bool:=t.aH.any y6
def kB(t:aA):Bool:=fQ (λa b=>decide (a.ID<b.ID)) t.aH
def kC(t:aA):Bool:=t.Links.any wE
def kD(t:aA):Bool:=t.Links.any λl=>!hasB t l.A||!hasB t l.B
def kE(t:aA):Bool:=t.Links.any λl=>decide (l.B≤l.A)
def kF(t:aA):Bool:=fQ ltL t.Links
def nN(t:aA):Int:=
 bif decide (24<(t.aH.length:Int))||decide (60<(t.Links.length:Int))then 3
 else bif kA t then 2 else bif kB t then(bif kC t then 2 else bif kD t then 4 else bif kE t then 8 else bif kF t then 0 else 25)else 25
theorem aba{α σ β:Type}{B:Int→α→(σ→Option β)→σ→Option β}{K:σ→Option β}{L:List α}(p:α→α→Bool)(a:Option β)
  (hB:∀(j:Nat) x y r q s Z,L=q++y::x::r→j=q.length+1→B (j:Int) x Z s=bif p y x then Z s else a):∀(r q:List α) (y:α) (s:σ),L=q++y::r→bL r (q.length+1) B K s=bif fQ p (y::r)then K s else a
 |[],q,y,s,h=>rfl
 |x::r,q,y,s,h=>by
  simp only[bL]
  rw[hB (q.length+1) x y r q s _ h rfl]
  have:=aba (B:=B) (K:=K) p a hB r (q++[y]) x s (by simpa using h)
  simp only[List.length_append,List.length_cons,List.length_nil]at this
  rw[this]
  simp only[fQ]
  cases p y x<;>rfl
variable {α β σ:Type}{L:List α}{B:Int→α→(σ→Option β)→σ→Option β}{K:σ→Option β}
theorem y7(p:α→α→Bool)(a:Option β)
  (hB:∀(j:Nat) x y r q s Z,L=q++y::x::r→j=q.length+1→B (j:Int) x Z s=bif p y x then Z s else a) (s:σ):bL (L.drop 1) 1 B K s=bif fQ p L then K s else a:=by
 cases L with
 |nil=>rfl
 |cons y r=>exact aba (B:=B) (K:=K) p a hB r [] y s rfl
theorem y8(p:α→α→Bool)(a:Option β)(h0:∀x Z s,B ((0:Nat):Int) x Z s=Z s)
  (hB:∀(j:Nat) x y r q s Z,L=q++y::x::r→j=q.length+1→B (j:Int) x Z s=bif p y x then Z s else a) (s:σ):bL L 0 B K s=bif fQ p L then K s else a:=by
 cases L with
 |nil=>rfl
 |cons y r=>
  simp only[bL]
  rw[h0]
  exact aba (B:=B) (K:=K) p a hB r [] y s rfl
variable {j:Nat}
theorem mX{y x:α}{r q:List α}(h:L=q++y::x::r)(hj:j=q.length+1)(hL:(L.length:Int)≤9223372036854775807):elO L (w64 ((j:Int)-1))=some y:=by
 have hl:q.length+2≤L.length:=by rw[h];simp
 rw[cB (by omega) (by omega),show(j:Int)-1=(q.length:Int)by omega,h,iK]
theorem aiO(n:Int):pF n=some (sH n):=rfl
theorem afj(t:aA)(r:Int):mS t r=some (hasB t r):=by
 unfold mS
 refine(pR (λx:bh=>decide (x.ID=r)) (some true) ?_ _ _ _).trans ?_
 ·intros;rfl
 ·unfold hasB;cases t.aH.any _<;>rfl
theorem rM(t:aA):ig t=some (nN t):=by
 unfold ig nN
 by_cases hlen:(decide (24<(t.aH.length:Int))||decide (60<(t.Links.length:Int)))=true
 ·rw[hlen];rfl
 rw[Bool.not_eq_true]at hlen
 rw[hlen]
 simp only[cond_false]
 simp only[Bool.or_eq_false_iff,decide_eq_false_iff_not]at hlen
 refine(pR y6 (some 2) ?_ _ _ _).trans ?_
 ·intros;rfl
 unfold kA
 cases t.aH.any y6
 case true=>rfl
 simp only[cond_false]
 refine(y7 (λa b:bh=>decide (a.ID<b.ID)) (some 25) ?_ _).trans ?_
 ·intro j x y r q s Z h hj
  simp only[mX h hj (by omega),aO,oK]
  split<;>split<;>first|rfl|omega
 unfold kB
 cases fQ _ t.aH
 case false=>rfl
 simp only[cond_true]
 refine(pR wE (some 2) ?_ _ _ _).trans ?_
 ·intro j x Z s
  simp only[jn,aiO,aO,wE]
  cases sH x.iX<;>cases sH x.iL<;>simp[oK]<;>(try split)<;>(try split)<;>simp_all<;>omega
 unfold kC
 cases t.Links.any wE
 case true=>rfl
 simp only[cond_false]
 refine(pR (λl=>!hasB t l.A||!hasB t l.B) (some 4) ?_ _ _ _).trans ?_
 ·intro j x Z s
  simp only[jn,afj,aO]
  cases hasB t x.A<;>cases hasB t x.B<;>rfl
 unfold kD
 cases t.Links.any _
 case true=>rfl
 simp only[cond_false]
 refine(pR (λl=>decide (l.B≤l.A)) (some 8) ?_ _ _ _).trans ?_
 ·intros;rfl
 unfold kE
 cases t.Links.any _
 case true=>rfl
 simp only[cond_false]
 refine(y7 ltL (some 25) ?_ _).trans ?_
 ·intro j x y r q s Z h hj
  have e:(decide (x.A<y.A)||(decide (y.A=x.A)&&decide (x.B≤y.B)))=!ltL y x:=by
   rw[Bool.eq_iff_iff];simp[ltL];omega
  simp only[mX h hj (by omega),aO]
  rw[e]
  cases ltL y x<;>rfl
 unfold kF
 cases fQ ltL t.Links<;>rfl
theorem xU{α σ:Type}{B:Int→α→(σ→Option Int)→σ→Option Int}{K:σ→Option Int}(p:α→Bool)(hB:∀j x Z s,B j x Z s=bif p x then some j else Z s)(hK:∀s,K s=some (-1)):∀(l:List α) (j:Nat) (s:σ),∃r,bL l j B K s=some r∧decide (0≤r)=l.any p
 |[],j,s=>⟨-1,hK s,rfl⟩
 |x::r,j,s=>by
  simp only[bL,hB,List.any_cons]
  cases p x
  ·simpa using xU p hB hK r (j+1) s
  ·exact⟨j,rfl,by simp⟩
theorem cfR(l:List bh)(f:bh→Option Bool)(p:bh→Bool)(hf:∀x,f x=some (p x)):dy l f=some (l.any p):=by
 unfold dy dZ
 obtain⟨r,h1,h2⟩:=xU (B:=λ(j1:Int) (e1:bh) (Z1:Unit→Option Int) (sg:Unit)=>match sg with|()=>bnd (f e1) λ(af:Bool)=>bif af then some (j1:Int)else Z1 ()) (K:=λ(sg:Unit)=>match sg with|()=>some (-1:Int)) p (λj x Z s=>by simp only[hf,aO]) (λ_=>rfl) l 0 ()
 simp only[h1,aO,h2]
theorem cfL(l:List aK)(f:aK→Option Bool)(p:aK→Bool)(hf:∀x,f x=some (p x)):cK l f=some (l.any p):=by
 unfold cK eN
 obtain⟨r,h1,h2⟩:=xU (B:=λ(j1:Int) (e1:aK) (Z1:Unit→Option Int) (sg:Unit)=>match sg with|()=>bnd (f e1) λ(af:Bool)=>bif af then some (j1:Int)else Z1 ()) (K:=λ(sg:Unit)=>match sg with|()=>some (-1:Int)) p (λj x Z s=>by simp only[hf,aO]) (λ_=>rfl) l 0 ()
 simp only[h1,aO,h2]
def eo(x y:Int):Int:=if x<y then -1 else if y<x then 1 else 0
theorem acq(x y:Int):eF x y=some (eo x y):=by
 unfold eF mC eo
 simp only[aO,decide_true,Bool.not_true,cond_false,oK]
 split<;>(try split)<;>rfl
variable {x:Int}
theorem afk{y:Int}:eo x y<0↔x<y:=by unfold eo;split<;>(try split)<;>omega
theorem qf{y:Int}:eo x y=0↔x=y:=by unfold eo;split<;>(try split)<;>omega
def orI:List Int→Int
 |[]=>0
 |x::r=>if x=0 then orI r else x
theorem apo(l:List Int):nB l=some (orI l):=by
 unfold nB
 refine(zO (f:=λl _=>some (orI l)) ?_ ?_ _ _ _)
 ·intros;rfl
 ·intro j x r s Z hZ
  simp only[orI,hZ]
  by_cases h:x=0<;>simp[h]
def cmpL(a b:aK):Int:=orI [eo a.A b.A,eo a.B b.B]
theorem aaj(a b:aK):iF a b=some (cmpL a b):=by
 unfold iF;simp only[acq,aO,apo];rfl
theorem aed(r:bh)(id:Int):ko r id=some (eo r.ID id):=by
 unfold ko;simp only[acq,aO]
variable {a b:aK}
theorem zP:cmpL a b<0↔ltL a b=true:=by
 have:cmpL a b<0↔a.A<b.A∨(a.A=b.A∧a.B<b.B):=by
  simp only[cmpL,orI]
  split
  ·rename_i h
   rw[qf]at h
   split
   ·rename_i h2;rw[qf]at h2;omega
   ·rw[afk];omega
  ·rename_i h
   rw[qf]at h
   rw[afk];omega
 rw[this];simp[ltL]
theorem cmpL_eq:cmpL a b=0↔a.A=b.A∧a.B=b.B:=by
 simp only[cmpL,orI]
 split
 ·rename_i h
  rw[qf]at h
  split
  ·rename_i h2;rw[qf]at h2;omega
  ·rename_i h2;rw[qf]at h2 ⊢;omega
 ·rename_i h
  rw[qf]at h ⊢;omega
def bsG{α:Type}[Inhabited α](f:α→Int)(l:List α)(i j:Nat):Nat:=
 if h:i<j then if f (el l ((i+j) / 2:Nat))<0 then bsG f l ((i+j) / 2+1) j else bsG f l i ((i+j) / 2)else i
 termination_by j-i
 decreasing_by all_goals omega
def bsR{α:Type}[Inhabited α](f:α→Int)(l:List α):Nat:=bsG f l 0 l.length
def bsT{α:Type}[Inhabited α](f:α→Int)(l:List α):Bool:=decide (bsR f l<l.length)&&decide (f (el l (bsR f l))=0)
variable {f:α→Int}{i:Nat}{l:List α}
theorem ahf[Inhabited α](h:i<j)(hf:f (el l ((i+j) / 2:Nat))<0):bsG f l i j=bsG f l ((i+j) / 2+1) j:=by
 rw[bsG,dif_pos h,if_pos hf]
theorem ahg[Inhabited α](h:i<j)(hf:¬f (el l ((i+j) / 2:Nat))<0):bsG f l i j=bsG f l i ((i+j) / 2):=by
 rw[bsG,dif_pos h,if_neg hf]
theorem acr[Inhabited α](h:j≤i):bsG f l i j=i:=by
 rw[bsG,dif_neg (by omega)]
theorem vC[Inhabited α](h:i<l.length):el l i=l[i]:=by
 simp[el,List.getD_eq_getElem?_getD,h]
theorem aee[Inhabited α](h:i<l.length):el l i∈l:=by
 rw[vC h];exact List.getElem_mem h
theorem tZ[Inhabited α](h:i<l.length):elO l (i:Int)=some (el l i):=by
 unfold elO;rw[if_pos (by omega),vC h];simp[h]
theorem acs(h:i+j≤4611686018427387904):w64 (Int.fdiv (IntKind.wrap .u64 (w64 ((i:Int)+(j:Int)))) (2 ^ min (1:Int).toNat 64))=(((i+j) / 2:Nat):Int):=by
 have e1:w64 ((i:Int)+(j:Int))=((i+j:Nat):Int):=by rw[cB (by omega) (by omega)];simp
 have e2:IntKind.wrap .u64 ((i+j:Nat):Int)=((i+j:Nat):Int):=akA (by omega) (by omega)
 rw[e1,e2]
 have e3:(2:Int) ^ min (1:Int).toNat 64=2:=rfl
 rw[e3,Int.fdiv_eq_ediv_of_nonneg _ (by omega)]
 rw[cB (by omega) (by omega)];simp
theorem acu[Inhabited α]{F:((Int×Int)→Option (Int×Bool))→(Int×Int)→Option (Int×Bool)}(l:List α)(f:α→Int)(hl:l.length≤1000000)
  (hF:∀(i j:Nat) Z,j≤l.length→F Z ((i:Int),(j:Int))=if h:i<j then(if f (el l ((i+j) / 2:Nat))<0 then Z ((((i+j) / 2+1:Nat):Int),(j:Int))else Z ((i:Int),(((i+j) / 2:Nat):Int)))else some ((i:Int),decide (i<l.length)&&decide (f (el l i)=0))) :
  whl F ((0:Int),(l.length:Int))=some ((bsR f l:Int),bsT f l):=by
 refine Ok.eq (Ok.whl (I:=λs=>∃i j:Nat,s=((i:Int),(j:Int))∧i≤j∧j≤l.length∧bsG f l i j=bsR f l) (μ:=λs=>(s.2-s.1).toNat) ⟨0,l.length,rfl,by omega,by omega,rfl⟩ ?_ ?_)
 ·show((l.length:Int)-0).toNat<_;omega
 ·rintro s Z ⟨i,j,rfl,h1,h2,h3⟩ hz
  rw[hF i j Z h2]
  split
  ·rename_i hij
   split
   ·rename_i hf
    exact hz _ ⟨_,_,rfl,by omega,h2,by rw[←h3,ahf hij hf]⟩ (by show((j:Int)-_).toNat<((j:Int)-i).toNat;omega)
   ·rename_i hf
    exact hz _ ⟨_,_,rfl,by omega,by omega,by rw[←h3,ahg hij hf]⟩ (by show((((i+j) / 2:Nat):Int)-i).toNat<((j:Int)-i).toNat;omega)
  ·rename_i hij
   have:bsR f l=i:=by rw[←h3,acr (by omega)]
   exact⟨_,rfl,by simp only[bsT,this]⟩
theorem apq(l:List bh)(x:Int)(c:bh→Int→Option Int)(f:bh→Int)(hl:l.length≤1000000)(hc:∀r,c r x=some (f r)):cz l x c=some ((bsR f l:Int),bsT f l):=by
 unfold cz
 refine acu l f hl λi j Z hj=>?_
 by_cases hij:i<j
 ·rw[dif_pos hij]
  simp only[acs (i:=i) (j:=j) (by omega),tZ (show(i+j) / 2<l.length by omega),aO,hc,oK]
  rw[if_pos (by omega),cB (by omega) (by omega)]
  rfl
 ·rw[dif_neg hij]
  simp only[oK]
  rw[if_neg (by omega)]
  by_cases hi:i<l.length
  ·rw[if_pos (by omega),tZ hi];simp only[aO,hc];simp[hi]
  ·rw[if_neg (by omega)];simp[hi]
theorem bsLk(l:List aK)(x:aK)(c:aK→aK→Option Int)(f:aK→Int)(hl:l.length≤1000000)(hc:∀r,c r x=some (f r)):cL l x c=some ((bsR f l:Int),bsT f l):=by
 unfold cL
 refine acu l f hl λi j Z hj=>?_
 by_cases hij:i<j
 ·rw[dif_pos hij]
  simp only[acs (i:=i) (j:=j) (by omega),tZ (show(i+j) / 2<l.length by omega),aO,hc,oK]
  rw[if_pos (by omega),cB (by omega) (by omega)]
  rfl
 ·rw[dif_neg hij]
  simp only[oK]
  rw[if_neg (by omega)]
  by_cases hi:i<l.length
  ·rw[if_pos (by omega),tZ hi];simp only[aO,hc];simp[hi]
  ·rw[if_neg (by omega)];simp[hi]
theorem aiP[Inhabited α](hm:∀a b:Nat,a≤b→b<l.length→f (el l a)≤f (el l b)):∀(n i j:Nat),j-i≤n→i≤j→j≤l.length→(∀m:Nat,m<i→f (el l m)<0)→(∀m:Nat,j≤m→m<l.length→0≤f (el l m))→
  bsG f l i j≤l.length∧(∀m:Nat,m<bsG f l i j→f (el l m)<0)∧(∀m:Nat,bsG f l i j≤m→m<l.length→0≤f (el l m)):=by
 intro n
 induction n with
 |zero=>
  intro i j hn hij hj h1 h2
  rw[acr (by omega)]
  exact⟨by omega,h1,λm hm'=>h2 m (by omega)⟩
 |succ n ih=>
  intro i j hn hij hj h1 h2
  by_cases h:i<j
  ·by_cases hf:f (el l ((i+j) / 2:Nat))<0
   ·rw[ahf h hf]
    refine ih _ _ (by omega) (by omega) hj (λm hm'=>?_) h2
    have:=hm m ((i+j) / 2) (by omega) (by omega)
    omega
   ·rw[ahg h hf]
    refine ih _ _ (by omega) (by omega) (by omega) h1 (λm hm' hml=>?_)
    have:=hm ((i+j) / 2) m hm' hml
    omega
  ·rw[acr (by omega)]
   exact⟨by omega,h1,λm hm'=>h2 m (by omega)⟩
theorem aef[Inhabited α](hm:∀a b:Nat,a≤b→b<l.length→f (el l a)≤f (el l b)):
  bsR f l≤l.length∧(∀m:Nat,m<bsR f l→f (el l m)<0)∧(∀m:Nat,bsR f l≤m→m<l.length→0≤f (el l m)):=
 aiP hm l.length 0 l.length (by omega) (by omega) (by omega) (λm h=>by omega) (λm h1 h2=>by omega)
theorem acv[Inhabited α](hm:∀a b:Nat,a≤b→b<l.length→f (el l a)≤f (el l b)):bsT f l=true↔∃x∈l,f x=0:=by
 obtain⟨h1,h2,h3⟩:=aef hm
 simp only[bsT,Bool.and_eq_true,decide_eq_true_eq]
 constructor
 ·rintro⟨q1,q2⟩
  exact⟨_,aee q1,q2⟩
 ·rintro⟨x,hx,hf⟩
  obtain⟨m,hm1,rfl⟩:=List.getElem_of_mem hx
  rw[←vC hm1]at hf
  have hle:bsR f l≤m:=by
   by_cases q:m<bsR f l
   ·have:=h2 m q;omega
   ·omega
  have hlt:bsR f l<l.length:=by omega
  have:=h3 _ (Nat.le_refl _) hlt
  have:=hm _ _ hle hm1
  exact⟨hlt,by omega⟩
theorem rC[Inhabited α](h:l.Pairwise (λa b=>f a≤f b)):∀a b:Nat,a≤b→b<l.length→f (el l a)≤f (el l b):=by
 intro a b hab hb
 rcases Nat.lt_or_eq_of_le hab with hab|rfl
 ·have:=List.pairwise_iff_getElem.1 h a b (by omega) hb hab
  rwa [vC (by omega),vC hb]
 ·exact Int.le_refl _
theorem pS{α:Type}{p:α→α→Bool}(ht:∀a b c,p a b=true→p b c=true→p a c=true):∀{l:List α},fQ p l=true→l.Pairwise (λa b=>p a b=true)
 |[],_=>List.Pairwise.nil
 |[x],_=>by simp
 |a::b::r,h=>by
  simp only[fQ,Bool.and_eq_true]at h
  have ih:=pS ht h.2
  rw[List.pairwise_cons]
  refine⟨λz hz=>?_,ih⟩
  rcases List.mem_cons.1 hz with rfl|hz
  ·exact h.1
  ·exact ht _ _ _ h.1 ((List.pairwise_cons.1 ih).1 z hz)
theorem nO{α:Type}{p:α→α→Bool}:∀{l:List α},l.Pairwise (λa b=>p a b=true)→fQ p l=true
 |[],_=>rfl
 |[x],_=>rfl
 |a::b::r,h=>by
  rw[List.pairwise_cons]at h
  simp only[fQ,Bool.and_eq_true]
  exact⟨h.1 b (by simp),nO h.2⟩
variable {t:aA}
theorem ahh(h:kB t=true):t.aH.Pairwise (λa b=>a.ID<b.ID):=by
 have:=pS (p:=λa b:bh=>decide (a.ID<b.ID)) (λa b c h1 h2=>by simp at h1 h2 ⊢;omega) h
 exact this.imp (λh=>by simpa using h)
theorem amm(h:kB t=true)(id:Int):∀a b:Nat,a≤b→b<t.aH.length→eo (el t.aH a).ID id≤eo (el t.aH b).ID id:=
 rC (f:=λr:bh=>eo r.ID id) ((ahh h).imp (λ{a b} h=>by unfold eo;split<;>(try split)<;>(try split)<;>(try split)<;>omega))
def aiQ(t:aA)(id:Int):Bool:=!bsT (λr=>eo r.ID id) t.aH
theorem afl(h:kB t=true)(id:Int):aiQ t id=!hasB t id:=by
 simp only[aiQ,hasB]
 congr 1
 rw[Bool.eq_iff_iff,acv (amm h id)]
 simp[qf]
theorem y9(t:aA):gz t=some (nN t):=by
 unfold gz nN
 by_cases hlen:(decide (24<(t.aH.length:Int))||decide (60<(t.Links.length:Int)))=true
 ·rw[hlen];rfl
 rw[Bool.not_eq_true]at hlen
 rw[hlen]
 simp only[cond_false]
 simp only[Bool.or_eq_false_iff,decide_eq_false_iff_not]at hlen
 rw[cfR t.aH _ y6 (λx=>by simp only[mD,jj,aO,y6];congr 1;rw[Bool.eq_iff_iff];simp)]
 simp only[aO]
 unfold kA
 cases t.aH.any y6
 case true=>rfl
 simp only[cond_false]
 refine(y8 (λa b:bh=>decide (a.ID<b.ID)) (some 25) ?_ ?_ _).trans ?_
 ·intros;rfl
 ·intro j x y r q s Z h hj
  simp only[jn,mX h hj (by omega),aO,oK]
  rw[if_pos (by omega)]
  split<;>split<;>first|rfl|omega
 cases hB:kB t
 case false=>unfold kB at hB;rw[hB];rfl
 have hB':=hB
 unfold kB at hB'
 rw[hB']
 simp only[cond_true]
 rw[cfL t.Links jZ wE (λx=>by
  simp only[jZ,jj,aO,wE,sH]
  simp only[oK,Bool.not_and,Bool.cond_eq_ite,Bool.or_eq_true,Bool.not_eq_true',decide_eq_false_iff_not]
  split
  ·congr 1;symm;rw[Bool.eq_iff_iff];simp;omega
  ·split
   ·congr 1;symm;rw[Bool.eq_iff_iff];simp;omega
   ·congr 1;rw[Bool.eq_iff_iff];simp;omega)]
 simp only[aO]
 unfold kC
 cases t.Links.any wE
 case true=>rfl
 simp only[cond_false]
 have hu:∀id,iG id t=some (!hasB t id):=λid=>by
  unfold iG
  rw[apq t.aH id _ (λr=>eo r.ID id) (by omega) (λr=>aed r id)]
  simp only[aO]
  rw[←afl hB];rfl
 rw[cfL t.Links _ (λl=>!hasB t l.A||!hasB t l.B) (λx=>by
  simp only[mE,hu,aO]
  cases hasB t x.A<;>rfl)]
 simp only[aO]
 unfold kD
 cases t.Links.any _
 case true=>rfl
 simp only[cond_false]
 rw[cfL t.Links mF (λl=>decide (l.B≤l.A)) (λx=>rfl)]
 simp only[aO]
 unfold kE
 cases t.Links.any _
 case true=>rfl
 simp only[cond_false]
 refine(y8 ltL (some 25) ?_ ?_ _).trans ?_
 ·intros;rfl
 ·intro j x y r q s Z h hj
  simp only[jn,mX h hj (by omega),aO,aaj,oK]
  rw[if_pos (by omega)]
  cases hlt:ltL y x
  ·have:¬cmpL y x<0:=by rw[zP,hlt];simp
   rw[if_pos (by omega)];rfl
  ·have:=zP.2 hlt
   rw[if_neg (by omega)];rfl
 unfold kF
 cases fQ ltL t.Links<;>rfl
end Go.Proofs.YtjdopimopgpagaaGreat
namespace Go.Proofs.YtjdopimopgpagaaGreat
set_option linter.all false
open Go
def ct(t:aS):Prop:=0≤t.At∧t.At≤t.L.length∧t.L.length≤600
theorem aps(n:Int):w64 n≤9223372036854775807∧-9223372036854775808≤w64 n:=by
 unfold w64
 rw[IntKind.wrap_i64];omega
theorem apt{x n:Int}(hn:n≤9223372036854775807):Ok (pG x n) (λr=>0≤r∧(1≤n→r<n)∧(n<1→r=0)):=by
 unfold pG
 refine Ok.cs (λh=>Ok.s ?_) λh=>?_
 ·simp at h;omega
 have h:1≤n:=by simpa using h
 have h1:Int.tmod x n<n:=Int.tmod_lt_of_pos _ (by omega)
 have h2 : -n<Int.tmod x n:=Int.lt_tmod_of_pos _ (by omega)
 refine Ok.chk (by simp;omega) ?_
 refine Ok.jn (λr=>0≤r∧r<n) (λs hs=>Ok.s ⟨hs.1,λ_=>hs.2,by omega⟩) λJ hJ=>?_
 refine Ok.cs (λhc=>hJ _ ?_) λhc=>hJ _ ?_
 ·simp at hc;rw[cB (by omega) (by omega)];omega
 ·simp at hc;omega
variable {t:aS}
theorem apu(h:ct t):Ok (oC t) (λp=>ct p.2):=by
 obtain⟨h0,h1,h2⟩:=h
 unfold oC
 refine Ok.cs (λ_=>Ok.s ⟨h0,h1,h2⟩) λhc=>?_
 simp at hc
 have e:w64 (t.At+1)=t.At+1:=cB (by omega) (by omega)
 rw[e,cB (by omega) (by omega)]
 refine Ok.bnd (mK (by omega) (by omega)) λa _=>Ok.s ⟨?_,?_,h2⟩<;>show _<;>simp<;>omega
theorem dR{n:Int}(h:ct t)(hn:n≤9223372036854775807):Ok (bR t n) (λp=>(0≤p.1∧(1≤n→p.1<n)∧(n<1→p.1=0))∧ct p.2):=by
 unfold bR
 exact Ok.bnd (apu h) λp hp=>Ok.bnd (apt hn) λr hr=>Ok.s ⟨hr,hp⟩
theorem kS{low high:Int}(h:ct t):Ok (ef t low high) (λp=>(-2305843009213693952≤low→low≤high→high<2305843009213693952→low≤p.1∧p.1≤high)∧ct p.2):=by
 unfold ef
 refine Ok.bnd (dR h (aps _).1) λp hp=>Ok.s ⟨λh1 h2 h3=>?_,hp.2⟩
 obtain⟨⟨q1,q2,_⟩,_⟩:=hp
 rw[cB (n:=high-low) (by omega) (by omega),cB (n:=high-low+1) (by omega) (by omega)]at q2
 show low≤w64 (low+p.1)∧w64 (low+p.1)≤high
 rw[cB (by omega) (by omega)];omega
theorem jM{l:List Int}(h:ct t)(h0:1≤l.length)(h1:l.length≤1000000):Ok (dw t l) (λp=>p.1∈l∧ct p.2):=by
 unfold dw
 refine Ok.bnd (dR h (by omega)) λp hp=>?_
 exact Ok.bnd (mK hp.1.1 (hp.1.2.1 (by omega))) λa ha=>Ok.s ⟨ha.1,hp.2⟩
theorem qA{n:Int}(h:ct t)(hn:n≤9223372036854775807):Ok (fN t n) (λp=>ct p.2):=by
 unfold fN
 exact Ok.bnd (dR h hn) λp hp=>Ok.s hp.2
theorem w6(h:ct t):Ok (eR t) (λp=>ct p.2):=by
 unfold eR
 exact Ok.bnd (jM h (by decide) (by decide)) λp hp=>Ok.s hp.2
theorem apv(l:List Int):Ok (vp l) ct:=by
 unfold vp
 refine Ok.jn (λm:List Int=>m.length≤600) (λs hs=>Ok.s ⟨by simp,by simp,hs⟩) λJ hJ=>?_
 refine Ok.cs (λhc=>?_) λhc=>hJ _ ?_
 ·simp at hc
  exact Ok.bnd (y5 ⟨by omega,by omega,by omega⟩) λm hm=>hJ _ (by omega)
 ·simp at hc;omega
theorem apw{l:List aK}(hl:l.length≤1000000):Ok (n4 l) (λm=>m.length=l.length):=by
 unfold n4
 refine Ok.forM (λj m=>m.length=j) ?_ _ rfl λs hs=>Ok.s hs
 intro j x s Z hj hx hI hZ
 refine Ok.whl (λat1:Int=>0≤at1∧at1≤s.length) (λat1=>((s.length:Int)-at1).toNat) ⟨by omega,by omega⟩ (by omega) ?_
 intro a Z2 ⟨ha0,ha1⟩ hZ2
 refine Ok.jn (λv:Bool=>v=true→a<s.length) ?_ ?_
 ·intro v hv
  refine Ok.cs (λh=>?_) λh=>?_
  ·have:=hv h
   rw[cB (by omega) (by omega)]
   exact hZ2 _ (by omega) (by omega)
  ·refine Ok.bnd (y5 ⟨by omega,by omega,by omega⟩) λl1 h1=>?_
   refine Ok.bnd (gm (by simp;omega)) λl2 h2=>?_
   refine Ok.bnd (gm (by simp at h2 ⊢;omega)) λl3 h3=>?_
   refine Ok.bnd (y5 ⟨by omega,by omega,by omega⟩) λl4 h4=>?_
   refine Ok.bnd (gm (by simp at h2 h3 ⊢;omega)) λl5 h5=>?_
   exact hZ _ (by simp at h2 h3;omega)
 ·intro J hJ
  refine Ok.cs (λh=>?_) λh=>hJ _ (by simp)
  simp at h
  refine Ok.bnd (mK ha0 h) λe he=>?_
  exact Ok.cs (λ_=>hJ _ λ_=>h) λ_=>Ok.cs (λ_=>hJ _ λ_=>h) λ_=>hJ _ (by simp)
def akh(g:aA):Prop:=1≤g.aH.length∧g.aH.length≤60∧g.Links.length≤700
theorem aiR{most n:Int}(h:ct t)(hm:1≤most∧most≤24)(hn:n≤9223372036854775807):Ok (fH t most n) (λp=>akh p.1∧ct p.2):=by
 unfold fH
 refine Ok.bnd (kS h) λp hp=>?_
 obtain⟨hk,hp⟩:=hp
 have hk:=hk (by omega) (by omega) (by omega)
 refine Ok.chk (by simp;omega) ?_
 refine Ok.fV (λj m=>(m.length:Int)=j-1) 1 (p.1+1) ?_ ?_ _ _ _ rfl (by omega) (by omega) (by simp)
 ·intro i s Z h1 h2 hI hZ
  refine Ok.bnd (gm (by simp;omega)) λl1 hl1=>hZ _ ?_
  simp at hl1;omega
 intro i rs hi1 hi2 hrs
 have hi2:=hi2 (by omega)
 subst hi2
 refine Ok.bnd (jM hp (by decide) (by decide)) λc hc=>?_
 have abI:1≤c.1∧c.1≤5:=by have:=hc.1;simp at this;omega
 refine Ok.chk (by simp;omega) ?_
 refine Ok.fV (λj (s:List aK×List Int×Int)=>(s.1.length:Int)≤24*(j-2)∧ct (aS.mk s.2.1 s.2.2)) 2 (if 2≤p.1+1 then p.1+1 else 2) ?_ ?_ _ _ _ ?_ (by omega) ?_ ⟨by simp,hc.2⟩
 ·intro b s Z hb1 hb2 hI hZ
  have hb3:b<p.1+1:=by split at hb2<;>omega
  obtain⟨ms,L,At⟩:=s
  obtain⟨hlen,ht⟩:=hI
  refine Ok.bnd (kS ht) λtr htr=>?_
  refine Ok.bnd (qA htr.2 (by omega)) λsk hsk=>?_
  refine Ok.chk (by simp;omega) ?_
  refine Ok.fV (λa (s:List aK×List Int×Int)=>(s.1.length:Int)≤24*(b-2)+(a-1)∧ct (aS.mk s.2.1 s.2.2)) 1 b ?_ ?_ _ _ _ rfl (by omega) (by omega) ⟨by simp at hlen ⊢;omega,hsk⟩
  ·intro a s Z3 ha1 ha2 hI3 hZ3
   obtain⟨m5,m6,m7⟩:=s
   obtain⟨hl5,ht5⟩:=hI3
   simp only at hl5
   refine Ok.jn (λs:List Int×Int×List aK=>(s.2.2.length:Int)≤24*(b-2)+a∧ct (aS.mk s.1 s.2.1)) (λs hs=>hZ3 _ ⟨by have h:=hs.1;obtain⟨_,_,_⟩:=s;simp only at h ⊢;omega,hs.2⟩) λJ1 hJ1=>?_
   refine Ok.jn (λs:Bool×List Int×Int=>ct (aS.mk s.2.1 s.2.2)) (λs hs=>?_) λJ2 hJ2=>?_
   ·obtain⟨v,m11,m12⟩:=s
    refine Ok.cs (λ_=>?_) λ_=>hJ1 _ ⟨by simp only;omega,hs⟩
    refine Ok.bnd (kS hs) λq7 h7=>?_
    refine Ok.bnd (kS h7.2) λq8 h8=>?_
    refine Ok.bnd (dR h8.2 (by omega)) λq9 h9=>?_
    refine Ok.bnd (gm (by simp;omega)) λl2 hl2=>hJ1 _ ⟨?_,h9.2⟩
    simp at hl2;simp only;omega
   ·refine Ok.cs (λ_=>?_) λ_=>Ok.bnd (qA ht5 (by omega)) λq h=>hJ2 _ h
    exact Ok.cs (λ_=>hJ2 _ ht5) λ_=>Ok.bnd (qA ht5 (by omega)) λq h=>hJ2 _ h
  ·intro a s ha1 ha2 hI3
   have ha2:=ha2 (by omega)
   exact hZ _ ⟨by have:=hI3.1;simp only;omega,hI3.2⟩
 ·intro b s hb1 hb2 hI
  have hb2:=hb2 (by split<;>omega)
  have hb3:b≤25:=by split at hb2<;>omega
  obtain⟨m2,m3,m4⟩:=s
  obtain⟨hlen,ht⟩:=hI
  simp only at hlen
  refine Ok.bnd (apw (by omega)) λl hl=>?_
  refine Ok.jn (λs:List Int×Int×List bh×List aK=>akh (aA.mk s.2.2.1 s.2.2.2)∧ct (aS.mk s.1 s.2.1)) (λs hs=>Ok.s hs) λJ3 hJ3=>?_
  refine Ok.jn (λs:Bool×List Int×Int=>ct (aS.mk s.2.1 s.2.2)) (λs hs=>?_) λJ4 hJ4=>?_
  ·obtain⟨v,m17,m18⟩:=s
   have base:∀(l':List aK) (t':aS),l'.length≤700→ct t'→Ok (J3 (t'.L,t'.At,rs,l')) _:=λl' t' h1 h2=>hJ3 _ ⟨⟨by simp only;omega,by simp only;omega,h1⟩,h2⟩
   refine Ok.cs (λ_=>?_) λ_=>base l (aS.mk m17 m18) (by omega) hs
   refine Ok.bnd (dR hs (by omega)) λq hq=>?_
   refine Ok.cs (λ_=>?_) λ_=>?_
   ·refine Ok.bnd (jM hq.2 (by decide) (by decide)) λq2 hq2=>?_
    refine Ok.bnd (gm (by simp;omega)) λl3 hl3=>hJ3 _ ⟨⟨?_,?_,?_⟩,hq2.2⟩<;>simp at hl3 ⊢<;>omega
   refine Ok.cs (λ_=>?_) λ_=>?_
   ·refine Ok.bnd (dR hq.2 (by omega)) λq2 hq2=>?_
    refine Ok.bnd (dR hq2.2 (by omega)) λq3 hq3=>?_
    refine Ok.bnd (gm (by simp;omega)) λl3 hl3=>base _ _ (by simp at hl3;omega) hq3.2
   have aiS:∀(f:aK→Int→aK),Ok (bif decide ((0:Int)<(l.length:Int))then bnd (bR q.2 (l.length:Int)) λ(lS:Int×aS)=>bnd (eR lS.2) λ(nj:Int×aS)=>bnd (elO l lS.1) λ(e_1:aK)=>bnd (ic l lS.1 (f e_1 nj.1)) λ(l_5:List aK)=>J3 (nj.2.L,nj.2.At,rs,l_5)else J3 (q.2.L,q.2.At,rs,l)) _:=λf=>by
    refine Ok.cs (λh=>?_) λ_=>base l _ (by omega) hq.2
    simp at h
    refine Ok.bnd (dR hq.2 (by omega)) λq2 hq2=>?_
    refine Ok.bnd (w6 hq2.2) λq3 hq3=>?_
    have hlt:=hq2.1.2.1 (by omega)
    refine Ok.bnd (mK hq2.1.1 hlt) λe _=>?_
    refine Ok.bnd (aeb hq2.1.1 hlt) λl5 h5=>base _ _ (by omega) hq3
   refine Ok.cs (λ_=>aiS (λe x=>aK.mk e.A e.B x e.iL e.bX)) λ_=>?_
   refine Ok.cs (λ_=>aiS (λe x=>aK.mk e.A e.B e.iX x e.bX)) λ_=>?_
   refine Ok.cs (λ_=>aiS (λe x=>aK.mk e.A e.B e.iX e.iL x)) λ_=>?_
   refine Ok.cs (λ_=>?_) λ_=>?_
   ·refine Ok.cs (λh=>?_) λ_=>base l _ (by omega) hq.2
    simp at h
    refine Ok.bnd (dR hq.2 (by omega)) λq2 hq2=>?_
    refine Ok.bnd (mK hq2.1.1 (hq2.1.2.1 (by omega))) λe _=>?_
    refine Ok.bnd (gm (by simp;omega)) λl3 hl3=>base _ _ (by simp at hl3;omega) hq2.2
   ·refine Ok.fV (λj m=>(m.length:Int)≤24+(j-50)∧1≤m.length) 50 75 ?_ ?_ _ _ _ rfl (by omega) (by omega) ⟨by omega,by omega⟩
    ·intro i s Z h1 h2 hI hZ
     refine Ok.bnd (gm (by simp;omega)) λl1 hl1=>hZ _ ?_
     simp at hl1;omega
    ·intro i s h1 h2 hI
     have h2:=h2 (by omega)
     exact hJ3 _ ⟨⟨by simp only;omega,by simp only;omega,by simp only;omega⟩,hq.2⟩
  ·refine Ok.cs (λ_=>Ok.bnd (qA ht hn) λq hq=>hJ4 _ hq) λ_=>hJ4 _ ht
 ·split<;>omega
 ·split<;>omega
theorem agp{g:aA}(h:ct t)(hg:g.aH.length≤1000000∧g.Links.length≤1000000):Ok (kU t g) (λp=>(p.1.Links.length≤1∧p.1.aH.length≤1)∧ct p.2):=by
 unfold kU
 refine Ok.jn (λs:Bool×List Int×Int=>(s.1=true→0<g.Links.length)∧ct (aS.mk s.2.1 s.2.2)) (λs hs=>?_) λJ1 hJ1=>?_
 ·obtain⟨v,m1,m2⟩:=s
  refine Ok.cs (λhv=>?_) λhv=>Ok.cs (λ_=>Ok.s ⟨⟨by simp,by simp⟩,hs.2⟩) λhr=>?_
  ·have:=hs.1 hv
   refine Ok.bnd (dR hs.2 (by omega)) λq hq=>?_
   refine Ok.bnd (mK hq.1.1 (hq.1.2.1 (by omega))) λe _=>?_
   refine Ok.bnd (dR hq.2 (by omega)) λq2 hq2=>?_
   exact Ok.cs (λ_=>Ok.s ⟨⟨by simp,by simp⟩,hq2.2⟩) λ_=>Ok.s ⟨⟨by simp,by simp⟩,hq2.2⟩
  ·simp at hr
   have:0<g.aH.length:=by
    cases hh:g.aH with
    |nil=>exact absurd hh hr
    |cons a b=>simp
   refine Ok.bnd (dR hs.2 (by omega)) λq hq=>?_
   exact Ok.bnd (mK hq.1.1 (hq.1.2.1 (by omega))) λe _=>Ok.s ⟨⟨by simp,by simp⟩,hq.2⟩
 ·refine Ok.cs (λhc=>?_) λ_=>hJ1 _ ⟨by simp,h⟩
  exact Ok.bnd (dR h (by omega)) λq hq=>hJ1 _ ⟨λ_=>by simpa using hc,hq.2⟩
end Go.Proofs.YtjdopimopgpagaaGreat
namespace Go.Proofs.YtjdopimopgpagaaGreat
set_option linter.all false
open Go
variable {α:Type}{l:List α}
theorem amo[DecidableEq α]{v:α}:l.any (λx=>decide (x=v))=decide (v∈l):=by
 rw[Bool.eq_iff_iff];simp
theorem afm(l:List Int)(n:Int):mR l n=some (decide (n∈l)):=by
 unfold mR
 refine(pR (λx:Int=>decide (x=n)) (some true) ?_ _ _ _).trans ?_
 ·intros;rfl
 ·rw[amo];cases decide (n∈l)<;>rfl
theorem acw(a:bh):tO a a=true:=by simp[tO]
theorem aeg(a:aK):wM a a=true:=by simp[wM]
def vD(l:List kM)(a b:Int):Bool:=l.any λh=>wN (kM.mk a b) h
theorem ahi(l:List kM)(a b:Int):oD l a b=some (vD l a b||vD l b a):=by
 unfold oD
 refine(pR (λh:kM=>wN (kM.mk a b) h||wN (kM.mk b a) h) (some true) ?_ _ _ _).trans ?_
 ·intro j x Z s
  congr 1
  rw[Bool.eq_iff_iff]
  obtain⟨f,t⟩:=x
  simp[wN]
  constructor
  ·split
   ·rintro(h|h)<;>omega
   ·intro h;omega
  ·rintro(h|h)
   ·rw[if_pos (by omega)];omega
   ·split<;>omega
 ·have:(l.any λh:kM=>wN (kM.mk a b) h||wN (kM.mk b a) h)=(vD l a b||vD l b a):=by
   rw[Bool.eq_iff_iff];simp[vD,List.any_eq_true]
   constructor
   ·rintro⟨x,hx,h|h⟩
    ·exact .inl ⟨x,hx,h⟩
    ·exact .inr ⟨x,hx,h⟩
   ·rintro(⟨x,hx,h⟩|⟨x,hx,h⟩)
    ·exact⟨x,hx,.inl h⟩
    ·exact⟨x,hx,.inr h⟩
  rw[this];cases(vD l a b||vD l b a)<;>rfl
theorem ua{α γ β:Type}{B:Int→α→(List γ→Option β)→List γ→Option β}{K:List γ→Option β}(p:α→Bool)(f:α→γ):
  ∀(l:List α) (j:Nat) (s:List γ),(∀(j:Nat) x Z s,x∈l→s.length<1000000→B j x Z s=bif p x then Z (s++[f x])else Z s)→l.length+s.length≤1000000→bL l j B K s=K (s++(l.filter p).map f)
 |[],j,s,_,_=>by simp[bL]
 |x::r,j,s,hB,h=>by
  simp only[List.length_cons]at h
  simp only[bL]
  rw[hB j x _ s (by simp) (by omega)]
  have hB':∀(j:Nat) y Z s,y∈r→s.length<1000000→B j y Z s=bif p y then Z (s++[f y])else Z s:=λj y Z s hy=>hB j y Z s (by simp[hy])
  cases hp:p x
  ·rw[cond_false,ua p f r (j+1) s hB' (by omega),List.filter_cons_of_neg (by simp[hp])]
  ·rw[cond_true,ua p f r (j+1) (s++[f x]) hB' (by simp;omega),List.filter_cons_of_pos hp]
   simp
theorem aiT{s:List α}{x:α}(h:s.length<1000000):dh s [x]=some (s++[x]):=dQ (by simp;omega)
structure Vt(t:aA):Prop where
 nr:t.aH.length≤24
 nl:t.Links.length≤60
 idr:∀r∈t.aH,1≤r.ID∧r.ID≤99
 asc:t.aH.Pairwise (λa b=>a.ID<b.ID)
 okl:∀l∈t.Links,wE l=false
 ends:∀l∈t.Links,hasB t l.A=true∧hasB t l.B=true
 lt:∀l∈t.Links,l.A<l.B
 aeh:t.Links.Pairwise (λa b=>ltL a b=true)
theorem wh(a b c:aK)(h1:ltL a b=true)(h2:ltL b c=true):ltL a c=true:=by
 simp[ltL]at *;omega
theorem any_false{p:α→Bool}:l.any p=false↔∀x∈l,p x=false:=by
 rw[List.any_eq_false];simp
variable {t:aA}
theorem oL:nN t=0↔Vt t:=by
 unfold nN
 constructor
 ·intro h
  by_cases h1:(decide (24<(t.aH.length:Int))||decide (60<(t.Links.length:Int)))=true
  ·rw[h1]at h;cases h
  simp only[Bool.not_eq_true]at h1
  rw[h1,cond_false]at h
  cases h2:kA t<;>rw[h2]at h<;>first|cases h;done|skip
  cases h3:kB t<;>rw[h3]at h<;>first|cases h;done|skip
  cases h4:kC t<;>rw[h4]at h<;>first|cases h;done|skip
  cases h5:kD t<;>rw[h5]at h<;>first|cases h;done|skip
  cases h6:kE t<;>rw[h6]at h<;>first|cases h;done|skip
  cases h7:kF t<;>rw[h7]at h<;>first|cases h;done|skip
  simp only[Bool.or_eq_false_iff,decide_eq_false_iff_not]at h1
  refine⟨by omega,by omega,λr hr=>?_,ahh h3,any_false.1 h4,λl hl=>?_,λl hl=>?_,pS wh h7⟩
  ·have:=any_false.1 h2 r hr;simp[y6]at this;omega
  ·have:=any_false.1 h5 l hl;simpa using this
  ·have:=any_false.1 h6 l hl;simpa using this
 ·intro h
  have h1:(decide (24<(t.aH.length:Int))||decide (60<(t.Links.length:Int)))=false:=by
   have:=h.nr;have:=h.nl;simp;omega
  have h2:kA t=false:=any_false.2 λr hr=>by have:=h.idr r hr;simp[y6];omega
  have h3:kB t=true:=nO (h.asc.imp λh=>by simpa using h)
  have h4:kC t=false:=any_false.2 h.okl
  have h5:kD t=false:=any_false.2 λl hl=>by have:=h.ends l hl;simp[this]
  have h6:kE t=false:=any_false.2 λl hl=>by have:=h.lt l hl;simp;omega
  have h7:kF t=true:=nO h.aeh
  rw[h1,h2,h3,h4,h5,h6,h7];rfl
theorem za(t:aA):gA t=some (decide (nN t=0)):=by
 unfold gA;rw[y9];rfl
variable {r:Int}
theorem xW:hasB t r=true↔∃x∈t.aH,x.ID=r:=by simp[hasB]
def agq(f:gR)(l:aK):Bool:=decide (l.A∈f.aH)||decide (l.B∈f.aH)||vD f.Links l.A l.B||vD f.Links l.B l.A
def woT(t:aA)(f:gR):aA:=aA.mk (t.aH.filter λr=>!decide (r.ID∈f.aH)) (t.Links.filter λl=>!agq f l)
def vE(t:aA)(f:gR):aA:=if nN t=0 then woT t f else aA.mk [] []
theorem aeW(t:aA)(f:gR):mz t f=some (vE t f):=by
 unfold mz vE
 simp only[rM,aO]
 by_cases h:nN t=0
 ·have hv:=oL.1 h
  have:=hv.nr;have:=hv.nl
  simp only[h,decide_true,Bool.not_true,cond_false,if_true]
  refine(ua (λr:bh=>!decide (r.ID∈f.aH)) id _ _ _ ?_ (by simp;omega)).trans ?_
  ·intro j x Z s _ hs
   simp only[jn,afm,aO,aiT hs];rfl
  refine(ua (λl:aK=>!agq f l) id _ _ _ ?_ (by simp;omega)).trans ?_
  ·intro j x Z s _ hs
   simp only[jn,afm,ahi,aO,aiT hs,agq,id]
   cases decide (x.A∈f.aH)<;>cases decide (x.B∈f.aH)<;>cases vD f.Links x.A x.B<;>cases vD f.Links x.B x.A<;>rfl
  ·simp[woT]
 ·simp[h]
theorem ahj(t:aA):pI t t=some true:=by
 unfold pI
 simp only[decide_true,Bool.not_true,Bool.or_false,cond_false]
 refine aa9 (L:=t.aH) (f:=λ_ _ _=>some true) ?_ ?_ t.aH [] () rfl
 ·intro s
  refine aa9 (L:=t.Links) (f:=λ_ _ _=>some true) ?_ ?_ t.Links [] () rfl
  ·intros;rfl
  ·intro p x r s Z h hZ
   simp only[←h,iK,aO,aeg,Bool.not_true,cond_false,hZ]
 ·intro p x r s Z h hZ
  simp only[←h,iK,aO,acw,Bool.not_true,cond_false,hZ]
theorem amp(t:aA)(r:Int):qx t r=some (decide (nN t=0)&&hasB t r):=by
 unfold qx
 simp only[rM,afj,aO]
 cases decide (nN t=0)<;>rfl
def xX(t:aA)(r:Int):bh×Bool:=if bsT (λx:bh=>eo x.ID r) t.aH then(el t.aH (bsR (λx:bh=>eo x.ID r) t.aH),true)else(bh.mk 0 false,false)
theorem aei(t:aA)(r:Int)(hl:t.aH.length≤1000000):kr t r=some (xX t r):=by
 unfold kr xX
 rw[apq t.aH r _ (λx=>eo x.ID r) hl (λx=>aed x r)]
 simp only[aO]
 cases h:bsT (λx:bh=>eo x.ID r) t.aH
 ·rfl
 ·have h2:bsR (λx:bh=>eo x.ID r) t.aH<t.aH.length:=by
   simp only[bsT,Bool.and_eq_true,decide_eq_true_eq]at h;exact h.1
  simp only[Bool.not_true,cond_false,tZ h2,aO,if_true]
theorem acy(h:Vt t)(r:Int):bsT (λx:bh=>eo x.ID r) t.aH=hasB t r:=by
 have:=afl (t:=t) (nO (h.asc.imp λh=>by simpa using h)) r
 simpa [aiQ]using this
theorem amq(t:aA)(r:Int)(hl:t.aH.length≤1000000):iH t r=some (decide (nN t=0)&&hasB t r):=by
 unfold iH
 simp only[aei t r hl,za,aO]
 by_cases h:nN t=0
 ·simp only[h,decide_true,cond_true,Bool.true_and,xX,acy (oL.1 h)]
  cases hasB t r<;>rfl
 ·simp[h]
theorem find_eq(h:Vt t){x:bh}(hx:x∈t.aH):xX t x.ID=(x,true):=by
 unfold xX
 have h1:hasB t x.ID=true:=xW.2 ⟨x,hx,rfl⟩
 have h2:=acy h x.ID
 rw[h1]at h2
 rw[if_pos h2]
 simp only[bsT,Bool.and_eq_true,decide_eq_true_eq]at h2
 obtain⟨q1,q2⟩:=h2
 rw[qf]at q2
 have hm:=aee q1
 have hu:∀a∈t.aH,∀b∈t.aH,a.ID=b.ID→a=b:=by
  intro a ha b hb hab
  obtain⟨i,hi,rfl⟩:=List.getElem_of_mem ha
  obtain⟨j,hj,rfl⟩:=List.getElem_of_mem hb
  have:=List.pairwise_iff_getElem.1 h.asc
  rcases Nat.lt_trichotomy i j with q|q|q
  ·have:=this i j hi hj q;omega
  ·subst q;rfl
  ·have:=this j i hj hi q;omega
 rw[hu _ hm _ hx q2]
theorem uc{σ β:Type}{B:Int→α→(σ→Option β)→σ→Option β}{K:σ→Option β}(p:α→Bool)(g:α→Option β)(hB:∀j x Z s,B j x Z s=bif p x then g x else Z s)(l:List α)(j:Nat)(s:σ):
  bL l j B K s=match l.find? p with|some x=>g x|none=>K s:=
 zO (f:=λl s=>match l.find? p with|some x=>g x|none=>K s) (λs=>rfl) (λj x r s Z hZ=>by
  rw[hB,hZ,List.find?_cons];cases p x<;>rfl) l j s
theorem apx(h:Vt t){a b:bh}(ha:a∈t.aH)(hb:b∈t.aH)(hab:a.ID=b.ID):a=b:=by
 obtain⟨i,hi,rfl⟩:=List.getElem_of_mem ha
 obtain⟨j,hj,rfl⟩:=List.getElem_of_mem hb
 have:=List.pairwise_iff_getElem.1 h.asc
 rcases Nat.lt_trichotomy i j with q|q|q
 ·have:=this i j hi hj q;omega
 ·subst q;rfl
 ·have:=this j i hj hi q;omega
theorem aej(h:Vt t){a b:aK}(ha:a∈t.Links)(hb:b∈t.Links)(hA:a.A=b.A)(hB:a.B=b.B):a=b:=by
 obtain⟨i,hi,rfl⟩:=List.getElem_of_mem ha
 obtain⟨j,hj,rfl⟩:=List.getElem_of_mem hb
 have:=List.pairwise_iff_getElem.1 h.aeh
 rcases Nat.lt_trichotomy i j with q|q|q
 ·have:=this i j hi hj q;simp[ltL]at this;omega
 ·subst q;rfl
 ·have:=this j i hj hi q;simp[ltL]at this;omega
theorem amr(h:Vt t)(hh:hasB t r=false):xX t r=(bh.mk 0 false,false):=by
 unfold xX
 rw[acy h,hh];rfl
theorem agr(t:aA)(r:Int)(hl:t.aH.length≤1000000):∃b,j7 t r=some b∧iZ t r=some b:=by
 unfold j7 iZ
 simp only[aei t r hl,za,rM,aO]
 by_cases h:nN t=0
 ·have hv:=oL.1 h
  simp only[h,decide_true,cond_true,Bool.not_true,cond_false]
  refine⟨_,rfl,?_⟩
  refine(uc (λx:bh=>decide (x.ID=r)) (λx=>some x.aX) (λ_ _ _ _=>rfl) _ _ _).trans ?_
  cases hf:t.aH.find? (λx=>decide (x.ID=r))with
  |none=>
   have:hasB t r=false:=any_false.2 λx hx=>by simpa using List.find?_eq_none.1 hf x hx
   rw[amr hv this]
  |some x=>
   have hm:=List.mem_of_find?_eq_some hf
   have hp:=List.find?_some hf
   have hp:x.ID=r:=by simpa using hp
   subst hp
   rw[find_eq hv hm]
 ·simp only[h,decide_false,cond_false,Bool.not_false,cond_true]
  exact⟨_,rfl,rfl⟩
def fI(l:aK)(a b:Int):Bool:=(decide (l.A=a)&&decide (l.B=b))||(decide (l.B=a)&&decide (l.A=b))
def mm(a b:Int)(l:aK):Int×Bool:=(bif decide (l.A=a)&&decide (l.B=b)then l.iX else l.iL,true)
def nP(t:aA)(a b:Int):Int×Bool:=match t.Links.find? (λl=>fI l a b)with|some l=>mm a b l|none=>(0,false)
def gL(t:aA)(a b:Int):Bool:=t.Links.any λl=>fI l a b
theorem ud(t:aA)(a b:Int):ji t a b=some (nP t a b):=by
 unfold ji nP
 refine(uc (λl:aK=>fI l a b) (λl=>some (mm a b l)) (λj x Z s=>?_) _ _ _).trans ?_
 ·unfold fI mm
  cases decide (x.A=a)&&decide (x.B=b)<;>cases decide (x.B=a)&&decide (x.A=b)<;>rfl
 ·cases t.Links.find? _<;>rfl
theorem ac0(t:aA)(a b:Int):(nP t a b).2=gL t a b:=by
 unfold nP gL
 cases hf:t.Links.find? (λl=>fI l a b)with
 |none=>symm;exact any_false.2 λx hx=>by simpa using List.find?_eq_none.1 hf x hx
 |some x=>
  symm
  exact List.any_eq_true.2 ⟨x,List.mem_of_find?_eq_some hf,by simpa using List.find?_some hf⟩
variable {a b:Int}
theorem aek(h:Vt t){l:aK}(hm:l∈t.Links)(he:fI l a b=true):nP t a b=mm a b l:=by
 unfold nP
 cases hf:t.Links.find? (λl=>fI l a b)with
 |none=>exact absurd he (List.find?_eq_none.1 hf l hm)
 |some x=>
  have hx:=List.mem_of_find?_eq_some hf
  have hp:=List.find?_some hf
  have h1:=h.lt _ hm
  have h2:=h.lt _ hx
  simp[fI]at he hp
  rw[aej h hx hm (by omega) (by omega)]
theorem ams(h:Vt t)(v:aK):∀a b:Nat,a≤b→b<t.Links.length→cmpL (el t.Links a) v≤cmpL (el t.Links b) v:=by
 refine rC (f:=λl:aK=>cmpL l v) (h.aeh.imp λ{a b} hab=>?_)
 have c3:∀x y:Int,eo x y = -1∨eo x y=0∨eo x y=1:=λx y=>by
  unfold eo;split
  ·exact .inl rfl
  ·split
   ·exact .inr (.inr rfl)
   ·exact .inr (.inl rfl)
 have:∀x y:aK,cmpL x y = -1∨cmpL x y=0∨cmpL x y=1:=λx y=>by
  have q1:=c3 x.A y.A
  have q2:=c3 x.B y.B
  simp only[cmpL,orI]
  generalize eo x.A y.A=p at *
  generalize eo x.B y.B=q at *
  by_cases h1:p=0
  ·by_cases h2:q=0<;>simp[h1,h2];omega
  ·simp[h1];omega
 have h1:=@zP a v
 have h2:=@zP b v
 have h3:=@cmpL_eq a v
 have h4:=@cmpL_eq b v
 have q1:=this a v
 have q2:=this b v
 simp[ltL]at hab h1 h2
 omega
theorem ael(t:aA)(a b:Int)(hl:t.Links.length≤1000000):ja t a b=some (if nN t=0 then nP t a b else(0,false)):=by
 unfold ja
 simp only[za,aO]
 by_cases h:nN t=0
 ·have hv:=oL.1 h
  simp only[h,decide_true,Bool.not_true,cond_false,if_true]
  generalize hv2:aK.mk (if b<a then b else a) (if b>a then b else a) 0 0 0=v
  rw[bsLk t.Links v _ (λx=>cmpL x v) hl (λx=>aaj x v)]
  simp only[aO]
  have hA:v.A=if b<a then b else a:=by rw[←hv2]
  have hB:v.B=if b>a then b else a:=by rw[←hv2]
  cases hT:bsT (λx:aK=>cmpL x v) t.Links
  ·simp only[Bool.not_false,cond_true]
   congr 1
   unfold nP
   cases hf:t.Links.find? (λl=>fI l a b)with
   |none=>rfl
   |some x=>
    exfalso
    have hx:=List.mem_of_find?_eq_some hf
    have hp:=List.find?_some hf
    have h2:=h
    have:=(acv (f:=λx:aK=>cmpL x v) (ams hv v)).2 ⟨x,hx,by
     rw[cmpL_eq,hA,hB]
     have:=hv.lt _ hx
     simp[fI]at hp
     split<;>split<;>omega⟩
    rw[hT]at this;cases this
  ·simp only[bsT,Bool.and_eq_true,decide_eq_true_eq]at hT
   obtain⟨q1,q2⟩:=hT
   rw[cmpL_eq,hA,hB]at q2
   have hm:=aee q1
   simp only[Bool.not_true,cond_false,tZ q1,aO]
   have hlt:=hv.lt _ hm
   have e:fI (el t.Links (bsR (λx:aK=>cmpL x v) t.Links)) a b=true:=by
    simp[fI];by_cases q3:b<a<;>by_cases q4:b>a<;>simp only[q3,q4,if_true,if_false]at q2<;>omega
   rw[aek hv hm e]
   unfold mm
   by_cases hab:a<b
   ·have:decide (a<b)=true:=by simpa using hab
    rw[this,cond_true]
    have:(decide ((el t.Links (bsR (λx:aK=>cmpL x v) t.Links)).A=a)&&decide ((el t.Links (bsR (λx:aK=>cmpL x v) t.Links)).B=b))=true:=by
     simp;by_cases q3:b<a<;>by_cases q4:b>a<;>simp only[q3,q4,if_true,if_false]at q2<;>omega
    rw[this];rfl
   ·have:decide (a<b)=false:=by simpa using hab
    rw[this,cond_false]
    have:(decide ((el t.Links (bsR (λx:aK=>cmpL x v) t.Links)).A=a)&&decide ((el t.Links (bsR (λx:aK=>cmpL x v) t.Links)).B=b))=false:=by
     simp;by_cases q3:b<a<;>by_cases q4:b>a<;>simp only[q3,q4,if_true,if_false]at q2<;>omega
    rw[this];rfl
 ·simp[h]
def ids(t:aA):List Int:=t.aH.map (·.ID)
theorem ahk(h:Vt t):(ids t).Pairwise (·<·):=List.pairwise_map.2 h.asc
theorem w8:r∈ids t↔hasB t r=true:=by rw[xW];simp[ids]
theorem qg:gL t a b=true↔∃l∈t.Links,(l.A=a∧l.B=b)∨(l.B=a∧l.A=b):=by
 simp[gL,fI]
theorem vF(h:gL t a b=true):gL t b a=true:=by
 rw[qg]at h ⊢
 obtain⟨l,hl,h⟩:=h
 exact⟨l,hl,by omega⟩
theorem aem(hv:Vt t)(h:gL t a b=true):a≠b:=by
 rw[qg]at h
 obtain⟨l,hl,h⟩:=h
 have:=hv.lt l hl
 omega
theorem uU(hv:Vt t)(h:gL t a b=true):b∈ids t:=by
 rw[qg]at h
 obtain⟨l,hl,h⟩:=h
 have:=hv.ends l hl
 rcases h with⟨h1,h2⟩|⟨h1,h2⟩<;>rw[w8,←h2]
 ·exact this.2
 ·exact this.1
def jd(t:aA)(r:Int):List Int:=(ids t).filter λx=>gL t r x
theorem xY(hv:Vt t)(r:Int):(jd t r).Pairwise (·<·):=(ahk hv).sublist List.filter_sublist
theorem kg(hv:Vt t){x:Int}:x∈jd t r↔gL t r x=true:=by
 unfold jd;rw[List.mem_filter]
 exact⟨λh=>h.2,λh=>⟨uU hv h,h⟩⟩
theorem aiU(hv:Vt t)(r:Int):pH t r=some (jd t r):=by
 unfold pH
 have:=hv.nr
 refine(ua (λx:bh=>gL t r x.ID) (·.ID) _ _ _ ?_ (by simp;omega)).trans ?_
 ·intro j x Z s _ hs
  simp only[jn,ud,ac0,aO,aiT hs]
 ·simp only[List.nil_append,jd,ids]
  rw[List.filter_map];rfl
end Go.Proofs.YtjdopimopgpagaaGreat
namespace Go.Proofs.YtjdopimopgpagaaGreat
set_option linter.all false
open Go
theorem Ok.pT{α σ β:Type}{B:Int→α→(σ→Option β)→σ→Option β}{K:σ→Option β}{Q:β→Prop}(I:List α→σ→Prop){L:List α}
  (hc:∀(p:List α) x r s Z,L=p++x::r→I p s→(∀s',I (p++[x]) s'→Ok (Z s') Q)→Ok (B (p.length:Int) x Z s) Q) (s:σ) (h:I [] s) (hn:∀s,I L s→Ok (K s) Q):Ok (Go.Proofs.YtjdopimopgpagaaGreat.bL L 0 B K s) Q:=by
 have key:∀(l p:List α) (s:σ),L=p++l→I p s→Ok (Go.Proofs.YtjdopimopgpagaaGreat.bL l p.length B K s) Q:=by
  intro l
  induction l with
  |nil=>intro p s hj h;exact hn s (by rw[hj,List.append_nil];exact h)
  |cons x r ih=>
   intro p s hj h
   refine hc p x r s _ hj h λs' h'=>?_
   have:=ih (p++[x]) s' (by simp[hj]) h'
   rwa [List.length_append]at this
 exact key L [] s rfl h
theorem ac1{a b:List Int}(h:a.Nodup)(hs:∀x∈a,x∈b):a.length≤b.length:=by
 induction a generalizing b with
 |nil=>simp
 |cons x a ih=>
  rw[List.nodup_cons]at h
  have hx:=hs x (by simp)
  have:=ih (b:=b.erase x) h.2 λy hy=>(List.mem_erase_of_ne (λe=>h.1 (by rw[←e];exact hy))).2 (hs y (by simp[hy]))
  rw[List.length_erase_of_mem hx]at this
  have:=List.length_pos_of_mem hx
  simp only[List.length_cons];omega
inductive Cn(t:aA)(c:List Int):Int→Int→Prop
 |refl {a:Int} (h:a∉c):Cn t c a a
 |step {a b d:Int} (h:Cn t c a b) (ha:gL t b d=true) (hd:d∉c):Cn t c a d
variable {a b:Int}{c:List Int}{t:aA}
theorem Cn.trans{d:Int}(h1:Cn t c a b)(h2:Cn t c b d):Cn t c a d:=by
 induction h2 with
 |refl _=>exact h1
 |step _ ha hd ih=>exact .step ih ha hd
theorem Cn.left(h:Cn t c a b):a∉c:=by
 induction h with
 |refl h=>exact h
 |step _ _ _ ih=>exact ih
theorem Cn.right(h:Cn t c a b):b∉c:=by
 cases h with
 |refl h=>exact h
 |step _ _ hd=>exact hd
theorem Cn.symm(h:Cn t c a b):Cn t c b a:=by
 induction h with
 |refl h=>exact .refl h
 |step h ha hd ih=>exact(Cn.step (.refl hd) (vF ha) h.right).trans ih
theorem Cn.ids{t:aA}(hv:Vt t){c:List Int}{a b:Int}(h:Cn t c a b)(ha:a∈ids t):b∈ids t:=by
 cases h with
 |refl h=>exact ha
 |step _ hd _=>exact uU hv hd
theorem amt(hv:Vt t):(ids t).length≤24:=by have:=hv.nr;simpa [ids]using this
end Go.Proofs.YtjdopimopgpagaaGreat
