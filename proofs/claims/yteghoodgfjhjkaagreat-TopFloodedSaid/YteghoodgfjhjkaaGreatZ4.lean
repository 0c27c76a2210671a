/- A part of the proof; the last text says of what. No condition but those that stand in each. -/
import Derived.Test.YteghoodgfjhjkaaGreatZ2
import GoSem.Extern.BytealgCompare
import Derived.Lib.Strings
namespace Go.Proofs.YteghoodgfjhjkaaGreat
section
set_option linter.all false
open Go
section
variable {α β:Type}
def aU(a:α)(k:α->Option β):aa (some a) k=k a:=rfl
variable {k:Option β}
def iQ{c:Bool}(h:c=true):eU c k=k:=by subst h;rfl
theorem lb{p:Prop}[Decidable p]{x y:α}:(bif decide p then x else y)=if p then x else y:=by grind
def vw{α σ β:Type}{B:Int->α->(σ->Option β)->σ->Option β}{K:σ->Option β}(f:List α->σ->Option β)(c:∀s,K s=f [] s)
  (b:∀(j:Int) x r s bb,(∀a,bb a=f r a)->B j x bb s=f (x::r) s):∀(l:List α) (j:Nat) (s:σ),bL l j B K s=f l s
 |[],_,s=>c s
 |x::r,j,s=>b j x r s _ λa=>vw f c b r (j+1) a
def Ok{β:Type}(o:Option β)(Q:β->Prop):Prop:=∃r,o=some r/\Q r
variable {Q:β->Prop}
def Ok.s{r:β}(h:Q r):Ok (some r) Q:=⟨r,rfl,h⟩
def Ok.aa{α β:Type}{o:Option α}{k:α->Option β}{P:α->Prop}{Q:β->Prop}(h:Ok o P)(u:∀a,P a->Ok (k a) Q):Ok (aa o k) Q:=by
 obtain⟨a,rfl,q⟩:=h;exact u a q
theorem Ok.cs{c:Bool}{x y:Option β}(u:c=true->Ok x Q)(q:c=false->Ok y Q):Ok (bif c then x else y) Q:=by grind
def atO{c:Bool}(h:c=true)(a:Ok k Q):Ok (eU c k) Q:=by subst h;exact a
variable {σ:Type}
def atD{k:σ->Option β}{t:(σ->Option β)->Option β}(R:σ->Prop)(b:∀s,R s->Ok (k s) Q)(a:∀J,(∀s,R s->Ok (J s) Q)->Ok (t J) Q):Ok (jn k t) Q:=a k b
def atY{σ β:Type}{B:Int->(σ->Option β)->σ->Option β}{K:Int->σ->Option β}{Q:β->Prop}(I:Int->σ->Prop)(a hi:Int)
  (d:∀(i:Int) s bb,a<=i->i<hi->I i s->(∀b,I (i+1) b->Ok (bb b) Q)->Ok (B i bb s) Q) (e:∀i s,a<=i->(a<=hi->i=hi)->I i s->Ok (K i s) Q):∀(n:Nat) (i:Int) (s:σ),n=(hi-i).toNat->a<=i->(a<=hi->i<=hi)->I i s->Ok (hM n i B K s) Q
 |0,i,s,j,h1,c,h=>e i s h1 (λg=>by have:=c g;omega) h
 |n+1,i,s,j,h1,c,h=>d i s _ h1 (by omega) h λb f=>atY I a hi d e n (i+1) b (by omega) (by omega) (λ_=>by omega) f
def Ok.iter{σ β:Type}{F:(σ->Option β)->σ->Option β}{Q:β->Prop}(I:σ->Prop)(μ:σ->Nat)
  (u:∀s bb,I s->(∀q,I q->μ q<μ s->Ok (bb q) Q)->Ok (F bb s) Q):∀(n:Nat) (s:σ),I s->μ s<n->Ok (iter F n s) Q
 |0,s,_,h=>by omega
 |n+1,s,h,hm=>u s _ h λq C O=>Ok.iter I μ u n q C (by omega)
def atT{F:(σ->Option β)->σ->Option β}(I:σ->Prop)(μ:σ->Nat){s:σ}(h:I s)(c:μ s<1099511627776)
  (b:∀s bb,I s->(∀a,I a->μ a<μ s->Ok (bb a) Q)->Ok (F bb s) Q):Ok (fI F s) Q:=Ok.iter I μ b fuel s h c
variable {o:Option β}
def Ok.get(h:Ok o Q):∃r,o=some r/\Q r:=h
def atJ{r:β}(h:Ok o (λx=>x=r)):o=some r:=by obtain⟨x,a,rfl⟩:=h;exact a
def g9(p:List α)(x:α)(r:List α):b4 (p++x::r) (p.length:Int)=some x:=by
 unfold b4;rw[if_pos (by omega)];simp
variable {l:List α}
def lf{i:Int}(a:0<=i)(h:i<l.length):Ok (b4 l i) (λx=>x∈l/\l[i.toNat]?=some x):=by
 unfold b4;rw[if_pos a]
 have:i.toNat<l.length:=by omega
 exact⟨l[i.toNat],List.getElem?_eq_getElem this,List.getElem_mem this,List.getElem?_eq_getElem this⟩
variable {r:List α}
def ga(h:l.length+r.length<=549755813888):dr l r=some (l++r):=by unfold dr;rw[if_pos (by unfold aM;exact h)]
def nu(h:l.length+r.length<=549755813888):Ok (dr l r) (λm=>m=l++r/\m.length=l.length+r.length):=⟨_,ga h,rfl,by simp⟩
def sJ{a b:Int}(h:0<=a/\a<=b/\b<=l.length):Ok (gT l a b) (λm=>m=(l.take b.toNat).drop a.toNat/\(m.length:Int)=b-a):=by
 unfold gT;rw[if_pos h];exact⟨_,rfl,rfl,by simp;omega⟩
def p1{B:Int->α->(σ->Option β)->σ->Option β}{K:σ->Option β}(p:α->Bool)(a:Option β)(c:∀j x bb s,B j x bb s=bif p x then a else bb s)(l:List α)(j:Nat)(s:σ):bL l j B K s=bif l.any p then a else K s:=
 vw (f:=λl s=>bif l.any p then a else K s) (λs=>rfl) (λj x r s bb b=>by
  rw[c,b,List.any_cons];cases p x<;>rfl) l j s
end
section
def mj(n:Int):Bool:=decide (1<=n)&&decide (n<=1000)
def fT(t:aK)(r:Int):Bool:=t.aL.any λx=>decide (x.aP=r)
def nC(r:bk):Bool:=decide (r.aP<1)||decide (99<r.aP)
def lH(l:aR):Bool:=!mj l.gn||!mj l.gd||decide (l.dW<0)||decide (1000<l.dW)
def eG(a b:aR):Bool:=decide (a.A<b.A)||(decide (a.A=b.A)&&decide (a.B<b.B))
def gZ{α:Type}(p:α->α->Bool):List α->Bool
 |a::b::r=>p a b&&gZ p (b::r)
 |_=>true
def tH(t:aK):Bool:=t.aL.any nC
def lZ(t:aK):Bool:=gZ (λa b=>decide (a.aP<b.aP)) t.aL
def tI(t:aK):Bool:=t.Links.any lH
def tJ(t:aK):Bool:=t.Links.any λl=>!fT t l.A||!fT t l.B
def tK(t:aK):Bool:=t.Links.any λl=>decide (l.B<=l.A)
def tL(t:aK):Bool:=gZ eG t.Links
def gp(t:aK):Int:=
 bif decide (24<(t.aL.length:Int))||decide (60<(t.Links.length:Int))then 3
 else bif tH t then 2 else bif lZ t then(bif tI t then 2 else bif tJ t then 4 else bif tK t then 8 else bif tL t then 0 else 25)else 25
def zw{α σ β:Type}{B:Int->α->(σ->Option β)->σ->Option β}{K:σ->Option β}{L:List α}(p:α->α->Bool)(a:Option β)
  (b:∀(j:Nat) x y r q s bb,L=q++y::x::r->j=q.length+1->B (j:Int) x bb s=bif p y x then bb s else a):∀(r q:List α) (y:α) (s:σ),L=q++y::r->bL r (q.length+1) B K s=bif gZ p (y::r)then K s else a
 |[],q,y,s,h=>rfl
 |x::r,q,y,s,h=>by
  simp only[bL];rw[b (q.length+1) x y r q s _ h rfl];have:=zw (B:=B) (K:=K) p a b r (q++[y]) x s (by simpa using h);simp only[List.length_append,List.length_cons,List.length_nil]at this;rw[this];simp only[gZ];cases p y x<;>rfl
variable {α β σ:Type}{L:List α}{B:Int->α->(σ->Option β)->σ->Option β}{K:σ->Option β}
def D4(p:α->α->Bool)(a:Option β)
  (b:∀(j:Nat) x y r q s bb,L=q++y::x::r->j=q.length+1->B (j:Int) x bb s=bif p y x then bb s else a) (s:σ):bL (L.drop 1) 1 B K s=bif gZ p L then K s else a:=by
 cases L with
 |nil=>rfl
 |cons y r=>exact zw (B:=B) (K:=K) p a b r [] y s rfl
def ze(p:α->α->Bool)(a:Option β)(c:∀x bb s,B ((0:Nat):Int) x bb s=bb s)
  (b:∀(j:Nat) x y r q s bb,L=q++y::x::r->j=q.length+1->B (j:Int) x bb s=bif p y x then bb s else a) (s:σ):bL L 0 B K s=bif gZ p L then K s else a:=by
 cases L with
 |nil=>rfl
 |cons y r=>
  simp only[bL];rw[c];exact zw (B:=B) (K:=K) p a b r [] y s rfl
variable {j:Nat}
def p2{y x:α}{r q:List α}(h:L=q++y::x::r)(a:j=q.length+1)(b:(L.length:Int)<=9223372036854775807):b4 L (a1 ((j:Int)-1))=some y:=by
 have c:q.length+2<=L.length:=by rw[h];simp
 rw[et (by omega) (by omega),show(j:Int)-1=(q.length:Int)by omega,h,g9]
def L1(n:Int):uL n=some (mj n):=rfl
def Fv(t:aK)(r:Int):pN t r=some (fT t r):=by
 unfold pN;refine(p1 (λx:bk=>decide (x.aP=r)) (some true) ?_ _ _ _).trans ?_
 .intros;rfl
 .unfold fT;cases t.aL.any _<;>rfl
theorem yY(t:aK):pL t=some (gp t):=by
 unfold pL gp;by_cases d:(decide (24<(t.aL.length:Int))||decide (60<(t.Links.length:Int)))=true
 .rw[d];rfl
 rw[Bool.not_eq_true]at d;rw[d];simp only[cond_false];simp only[Bool.or_eq_false_iff,decide_eq_false_iff_not]at d;refine(p1 nC (some 2) ?_ _ _ _).trans ?_
 .intros;rfl
 unfold tH;cases t.aL.any nC
 case true=>rfl
 simp only[cond_false];refine(D4 (λa b:bk=>decide (a.aP<b.aP)) (some 25) ?_ _).trans ?_
 .intro j x c h g s bb f e;simp only[p2 f e (by omega),aU,lb]
  grind
 unfold lZ;cases gZ _ t.aL
 case false=>rfl
 simp only[cond_true];refine(p1 lH (some 2) ?_ _ _ _).trans ?_
 .intro j x bb s;simp only[jn,L1,aU,lH]
  grind
 unfold tI;cases t.Links.any lH
 case true=>rfl
 simp only[cond_false];refine(p1 (λl=>!fT t l.A||!fT t l.B) (some 4) ?_ _ _ _).trans ?_
 .intro j x bb s;simp only[jn,Fv,aU]
  grind
 unfold tJ;cases t.Links.any _
 case true=>rfl
 simp only[cond_false];refine(p1 (λl=>decide (l.B<=l.A)) (some 8) ?_ _ _ _).trans ?_
 .intros;rfl
 unfold tK;cases t.Links.any _
 case true=>rfl
 simp only[cond_false];refine(D4 eG (some 25) ?_ _).trans ?_
 .intro j x c h g s bb f e;have i:(decide (x.A<c.A)||(decide (c.A=x.A)&&decide (x.B<=c.B)))=!eG c x:=by
   rw[Bool.eq_iff_iff];simp[eG];omega
  simp only[p2 f e (by omega),aU]
  grind
 unfold tL
 grind
theorem vo{α σ:Type}{B:Int->α->(σ->gA)->σ->gA}{K:σ->gA}(p:α->Bool)(a:∀j x bb s,B j x bb s=bif p x then some j else bb s)(b:∀s,K s=some (-1)):∀(l:List α) (j:Nat) (s:σ),∃r,bL l j B K s=some r/\decide (0<=r)=l.any p
 |[],j,s=>⟨-1,b s,rfl⟩
 |x::r,j,s=>by
  simp only[bL,a,List.any_cons];cases p x
  .simpa using vo p a b r (j+1) s
  .grind
def Q6(l:pK)(f:bk->dK)(p:bk->Bool)(b:∀x,f x=some (p x)):tg l f=some (l.any p):=by
 unfold tg xe;obtain⟨k,i,d⟩:=vo (B:=λ(g:Int) (h:bk) (c:Unit->gA) (a:Unit)=>match a with|()=>aa (f h) λ(e:Bool)=>bif e then some (g:Int)else c ()) (K:=λ(a:Unit)=>match a with|()=>some (-1:Int)) p (λj x bb m=>by simp only[b,aU]) (λ_=>rfl) l 0 ();simp only[i,aU,d]
def Bt(l:jC)(f:aR->dK)(p:aR->Bool)(b:∀x,f x=some (p x)):pa l f=some (l.any p):=by
 unfold pa xn;obtain⟨k,i,d⟩:=vo (B:=λ(g:Int) (h:aR) (c:Unit->gA) (a:Unit)=>match a with|()=>aa (f h) λ(e:Bool)=>bif e then some (g:Int)else c ()) (K:=λ(a:Unit)=>match a with|()=>some (-1:Int)) p (λj x bb m=>by simp only[b,aU]) (λ_=>rfl) l 0 ();simp only[i,aU,d]
def dM(x y:Int):Int:=if x<y then -1 else if y<x then 1 else 0
theorem vp(x y:Int):hI x y=some (dM x y):=by
 unfold hI rA dM;simp only[aU,decide_true,Bool.not_true,cond_false,lb]
 grind
variable {x:Int}
def sq{y:Int}:dM x y<0↔x<y:=by unfold dM;split<;>(try split)<;>omega
def k7{y:Int}:dM x y=0↔x=y:=by unfold dM;split<;>(try split)<;>omega
def jv:bR->Int
 |[]=>0
 |x::r=>if x=0 then jv r else x
theorem Ay(l:bR):m4 l=some (jv l):=by
 unfold m4;refine(vw (f:=λl _=>some (jv l)) ?_ ?_ _ _ _)
 .intros;rfl
 .intro j x b c bb a;simp only[jv,a]
  grind
def cmpL(a b:aR):Int:=jv [dM a.A b.A,dM a.B b.B]
def CR(a b:aR):ri a b=some (cmpL a b):=by
 unfold ri;simp only[vp,aU,Ay];rfl
def Ea(r:bk)(id:Int):rB r id=some (dM r.aP id):=by
 unfold rB;simp only[vp,aU]
variable {a b:aR}
def vS:cmpL a b<0↔eG a b=true:=by
 have:cmpL a b<0↔a.A<b.A\/(a.A=b.A/\a.B<b.B):=by
  simp only[cmpL,jv];split
  .rename_i c;rw[k7]at c;split
   .rename_i d;rw[k7]at d;omega
   .rw[sq];omega
  .rename_i c;rw[k7]at c;rw[sq];omega
 rw[this];simp[eG]
def cmpL_eq:cmpL a b=0↔a.A=b.A/\a.B=b.B:=by
 simp only[cmpL,jv];split
 .rename_i d;rw[k7]at d;split
  .rename_i c;rw[k7]at c;omega
  .rename_i c;rw[k7]at c ⊢;omega
 .rename_i d;rw[k7]at d ⊢;omega
def iV{α:Type}[Inhabited α](f:α->Int)(l:List α)(i j:Nat):Nat:=
 if a:i<j then if f (el l ((i+j) / 2:Nat))<0 then iV f l ((i+j) / 2+1) j else iV f l i ((i+j) / 2)else i
 termination_by j-i
 decreasing_by all_goals omega
def hw{α:Type}[Inhabited α](f:α->Int)(l:List α):Nat:=iV f l 0 l.length
def h8{α:Type}[Inhabited α](f:α->Int)(l:List α):Bool:=decide (hw f l<l.length)&&decide (f (el l (hw f l))=0)
variable {f:α->Int}{i:Nat}{l:List α}
def FK[Inhabited α](h:i<j)(a:f (el l ((i+j) / 2:Nat))<0):iV f l i j=iV f l ((i+j) / 2+1) j:=by
 rw[iV,dif_pos h,if_pos a]
def FL[Inhabited α](h:i<j)(a:¬f (el l ((i+j) / 2:Nat))<0):iV f l i j=iV f l i ((i+j) / 2):=by
 rw[iV,dif_pos h,if_neg a]
def z8[Inhabited α](h:j<=i):iV f l i j=i:=by
 rw[iV,dif_neg (by omega)]
def qc[Inhabited α](h:i<l.length):el l i=l[i]:=by
 simp[el,List.getD_eq_getElem?_getD,h]
def Az[Inhabited α](h:i<l.length):el l i∈l:=by
 rw[qc h];exact List.getElem_mem h
def ov[Inhabited α](h:i<l.length):b4 l (i:Int)=some (el l i):=by
 unfold b4;rw[if_pos (by omega),qc h];simp[h]
def Aa(h:i+j<=4611686018427387904):a1 (Int.fdiv (IntKind.wrap .u64 (a1 ((i:Int)+(j:Int)))) (2 ^ min (1:Int).toNat 64))=(((i+j) / 2:Nat):Int):=by
 have b:a1 ((i:Int)+(j:Int))=((i+j:Nat):Int):=by rw[et (by omega) (by omega)];simp
 have c:IntKind.wrap .u64 ((i+j:Nat):Int)=((i+j:Nat):Int):=Mo (by omega) (by omega);rw[b,c];have a:(2:Int) ^ min (1:Int).toNat 64=2:=rfl;rw[a,Int.fdiv_eq_ediv_of_nonneg _ (by omega)];rw[et (by omega) (by omega)];simp
def Ab[Inhabited α]{F:((Int×Int)->Option (Int×Bool))->(Int×Int)->Option (Int×Bool)}(l:List α)(f:α->Int)(m:l.length<=1000000)
  (k:∀(i j:Nat) bb,j<=l.length->F bb ((i:Int),(j:Int))=if h:i<j then(if f (el l ((i+j) / 2:Nat))<0 then bb ((((i+j) / 2+1:Nat):Int),(j:Int))else bb ((i:Int),(((i+j) / 2:Nat):Int)))else some ((i:Int),decide (i<l.length)&&decide (f (el l i)=0))) :
  fI F ((0:Int),(l.length:Int))=some ((hw f l:Int),h8 f l):=by
 refine atJ (atT (I:=λa=>∃i j:Nat,a=((i:Int),(j:Int))/\i<=j/\j<=l.length/\iV f l i j=hw f l) (μ:=λa=>(a.2-a.1).toNat) ⟨0,l.length,rfl,by omega,by omega,rfl⟩ ?_ ?_)
 .omega
 .rintro a bb ⟨i,j,rfl,n,e,c⟩ g;rw[k i j bb e];split
  .rename_i d;split
   .rename_i b;exact g _ ⟨_,_,rfl,by omega,e,by rw[<-c,FK d b]⟩ (by show((j:Int)-_).toNat<((j:Int)-i).toNat;omega)
   .rename_i b;exact g _ ⟨_,_,rfl,by omega,by omega,by rw[<-c,FL d b]⟩ (by show((((i+j) / 2:Nat):Int)-i).toNat<((j:Int)-i).toNat;omega)
  .rename_i d;have:hw f l=i:=by rw[<-c,z8 (by omega)]
   exact⟨_,rfl,by simp only[h8,this]⟩
theorem Hf(l:pK)(x:Int)(c:bk->Int->gA)(f:bk->Int)(e:l.length<=1000000)(b:∀r,c r x=some (f r)):qP l x c=some ((hw f l:Int),h8 f l):=by
 unfold qP;refine Ab l f e λi j bb g=>?_;by_cases a:i<j
 .rw[dif_pos a];simp only[Aa (i:=i) (j:=j) (by omega),ov (show(i+j) / 2<l.length by omega),aU,b,lb];rw[if_pos (by omega),et (by omega) (by omega)];rfl
 .rw[dif_neg a];simp only[lb];rw[if_neg (by omega)];by_cases d:i<l.length
  .rw[if_pos (by omega),ov d];simp only[aU,b];simp[d]
  .grind
theorem Q2(l:jC)(x:aR)(c:aR->aR->gA)(f:aR->Int)(e:l.length<=1000000)(b:∀r,c r x=some (f r)):ti l x c=some ((hw f l:Int),h8 f l):=by
 unfold ti;refine Ab l f e λi j bb g=>?_;by_cases a:i<j
 .rw[dif_pos a];simp only[Aa (i:=i) (j:=j) (by omega),ov (show(i+j) / 2<l.length by omega),aU,b,lb];rw[if_pos (by omega),et (by omega) (by omega)];rfl
 .rw[dif_neg a];simp only[lb];rw[if_neg (by omega)];by_cases d:i<l.length
  .rw[if_pos (by omega),ov d];simp only[aU,b];simp[d]
  .grind
def L2[Inhabited α](p:∀a b:Nat,a<=b->b<l.length->f (el l a)<=f (el l b)):∀(n i j:Nat),j-i<=n->i<=j->j<=l.length->(∀m:Nat,m<i->f (el l m)<0)->(∀m:Nat,j<=m->m<l.length->0<=f (el l m))->
  iV f l i j<=l.length/\(∀m:Nat,m<iV f l i j->f (el l m)<0)/\(∀m:Nat,iV f l i j<=m->m<l.length->0<=f (el l m)):=by
 intro n;induction n with
 |zero=>
  intro i j s q h e c;rw[z8 (by omega)];exact⟨by omega,e,λm d=>c m (by omega)⟩
 |succ n k=>
  intro i j s q h e c;by_cases o:i<j
  .by_cases g:f (el l ((i+j) / 2:Nat))<0
   .rw[FK o g];refine k _ _ (by omega) (by omega) h (λm d=>?_) c;have:=p m ((i+j) / 2) (by omega) (by omega);omega
   .rw[FL o g];refine k _ _ (by omega) (by omega) (by omega) e (λm d r=>?_);have:=p ((i+j) / 2) m d r;omega
  .rw[z8 (by omega)];exact⟨by omega,e,λm d=>c m (by omega)⟩
def EI[Inhabited α](c:∀a b:Nat,a<=b->b<l.length->f (el l a)<=f (el l b)):
  hw f l<=l.length/\(∀m:Nat,m<hw f l->f (el l m)<0)/\(∀m:Nat,hw f l<=m->m<l.length->0<=f (el l m)):=
 L2 c l.length 0 l.length (by omega) (by omega) (by omega) (λm e=>by omega) (λm g d=>by omega)
theorem Ac[Inhabited α](i:∀a b:Nat,a<=b->b<l.length->f (el l a)<=f (el l b)):h8 f l=true↔∃x∈l,f x=0:=by
 obtain⟨m,j,k⟩:=EI i;simp only[h8,Bool.and_eq_true,decide_eq_true_eq];constructor
 .rintro⟨c,d⟩;exact⟨_,Az c,d⟩
 .rintro⟨x,g,e⟩;obtain⟨n,h,rfl⟩:=List.getElem_of_mem g;rw[<-qc h]at e
  grind
def B7[Inhabited α](h:l.Pairwise (λa b=>f a<=f b)):∀a b:Nat,a<=b->b<l.length->f (el l a)<=f (el l b):=by
 intro a b c d;rcases Nat.lt_or_eq_of_le c with c|rfl
 .have:=List.pairwise_iff_getElem.1 h a b (by omega) d c
  rwa [qc (by omega),qc d]
 .exact Int.le_refl _
def rO{α:Type}{p:α->α->Bool}(e:∀a b c,p a b=true->p b c=true->p a c=true):∀{l:List α},gZ p l=true->l.Pairwise (λa b=>p a b=true)
 |[],_=>List.Pairwise.nil
 |[x],_=>by simp
 |a::b::r,h=>by
  simp only[gZ,Bool.and_eq_true]at h;have f:=rO e h.2;rw[List.pairwise_cons];refine⟨λg d=>?_,f⟩;rcases List.mem_cons.1 d with rfl|d
  .exact h.1
  .exact e _ _ _ h.1 ((List.pairwise_cons.1 f).1 g d)
def pM{α:Type}{p:α->α->Bool}:∀{l:List α},l.Pairwise (λa b=>p a b=true)->gZ p l=true
 |[],_=>rfl
 |[x],_=>rfl
 |a::b::r,h=>by
  rw[List.pairwise_cons]at h;simp only[gZ,Bool.and_eq_true];exact⟨h.1 b (by simp),pM h.2⟩
variable {t:aK}
theorem FM(h:lZ t=true):t.aL.Pairwise (λa b=>a.aP<b.aP):=by
 have:=rO (p:=λa b:bk=>decide (a.aP<b.aP)) (λa b e d c=>by simp at d c ⊢;omega) h
 grind
def Nd(h:lZ t=true)(id:Int):∀a b:Nat,a<=b->b<t.aL.length->dM (el t.aL a).aP id<=dM (el t.aL b).aP id:=
 B7 (f:=λc:bk=>dM c.aP id) ((FM h).imp (λ{a b} h=>by unfold dM;split<;>(try split)<;>(try split)<;>(try split)<;>omega))
def Bj(t:aK)(id:Int):Bool:=!h8 (λa=>dM a.aP id) t.aL
def Fw(h:lZ t=true)(id:Int):Bj t id=!fT t id:=by
 simp only[Bj,fT];congr 1;rw[Bool.eq_iff_iff,Ac (Nd h id)];simp[k7]
theorem pU(t:aK):iW t=some (gp t):=by
 unfold iW gp;by_cases d:(decide (24<(t.aL.length:Int))||decide (60<(t.Links.length:Int)))=true
 .rw[d];rfl
 rw[Bool.not_eq_true]at d;rw[d];simp only[cond_false];simp only[Bool.or_eq_false_iff,decide_eq_false_iff_not]at d;rw[Q6 t.aL _ nC (λx=>by simp only[xO,n0,aU,nC];congr 1;rw[Bool.eq_iff_iff];simp)];simp only[aU];unfold tH;cases t.aL.any nC
 case true=>rfl
 simp only[cond_false];refine(ze (λa b:bk=>decide (a.aP<b.aP)) (some 25) ?_ ?_ _).trans ?_
 .intros;rfl
 .intro j x h c n s bb g f;simp only[jn,p2 g f (by omega),aU,lb]
  grind
 cases e:lZ t
 case false=>unfold lZ at e;rw[e];rfl
 have k:=e;unfold lZ at k;rw[k];simp only[cond_true]
 rw[Bt t.Links tW lH (λx=>by
  simp only[tW,n0,aU,lH,mj];simp only[lb,Bool.not_and,Bool.cond_eq_ite,Bool.or_eq_true,Bool.not_eq_true',decide_eq_false_iff_not];split
  .grind
  .split
   .grind
   .congr 1;rw[Bool.eq_iff_iff];simp;omega)]
 simp only[aU];unfold tI;cases t.Links.any lH
 case true=>rfl
 simp only[cond_false]
 have m:∀id,rj id t=some (!fT t id):=λid=>by
  unfold rj;rw[Hf t.aL id _ (λc=>dM c.aP id) (by omega) (λc=>Ea c id)];simp only[aU];rw[<-Fw e];rfl
 rw[Bt t.Links _ (λl=>!fT t l.A||!fT t l.B) (λx=>by
  simp only[xP,m,aU];cases fT t x.A<;>rfl)]
 simp only[aU];unfold tJ;cases t.Links.any _
 case true=>rfl
 simp only[cond_false];rw[Bt t.Links xQ (λl=>decide (l.B<=l.A)) (λx=>rfl)];simp only[aU];unfold tK;cases t.Links.any _
 case true=>rfl
 simp only[cond_false];refine(ze eG (some 25) ?_ ?_ _).trans ?_
 .intros;rfl
 .intro j x h c n s bb g f;simp only[jn,p2 g f (by omega),aU,CR,lb];rw[if_pos (by omega)];cases i:eG h x
  .have:¬cmpL h x<0:=by rw[vS,i];simp
   grind
  .have:=vS.2 i
   grind
 unfold tL
 grind
end
section
def e7(t:bH):Prop:=0<=t.At/\t.At<=t.L.length/\t.L.length<=600
def O9(n:Int):a1 n<=9223372036854775807/\-9223372036854775808<=a1 n:=by
 unfold a1;rw[IntKind.wrap_i64];omega
def Pb{x n:Int}(g:n<=9223372036854775807):Ok (vm x n) (λr=>0<=r/\(1<=n->r<n)/\(n<1->r=0)):=by
 unfold vm;refine Ok.cs (λa=>Ok.s ?_) λa=>?_
 .simp at a;omega
 have a:1<=n:=by simpa using a
 have h:Int.tmod x n<n:=Int.tmod_lt_of_pos _ (by omega);have f : -n<Int.tmod x n:=Int.lt_tmod_of_pos _ (by omega);refine atO (by simp;omega) ?_;refine atD (λr=>0<=r/\r<n) (λi c=>Ok.s ⟨c.1,λ_=>c.2,by omega⟩) λe d=>?_;refine Ok.cs (λb=>d _ ?_) λb=>d _ ?_
 .simp at b;rw[et (by omega) (by omega)];omega
 .simp at b;omega
variable {t:bH}
def Pc(h:e7 t):Ok (uC t) (λp=>e7 p.2):=by
 obtain⟨c,e,a⟩:=h;unfold uC;refine Ok.cs (λ_=>Ok.s ⟨c,e,a⟩) λb=>?_;simp at b;have d:a1 (t.At+1)=t.At+1:=et (by omega) (by omega);rw[d,et (by omega) (by omega)];refine Ok.aa (lf (by omega) (by omega)) λf _=>Ok.s ⟨?_,?_,a⟩<;>show _<;>simp<;>omega
def i3{n:Int}(h:e7 t)(c:n<=9223372036854775807):Ok (gr t n) (λp=>(0<=p.1/\(1<=n->p.1<n)/\(n<1->p.1=0))/\e7 p.2):=by
 unfold gr;exact Ok.aa (Pc h) λp b=>Ok.aa (Pb c) λd a=>Ok.s ⟨a,b⟩
def vH{low high:Int}(h:e7 t):Ok (nV t low high) (λp=>(-2305843009213693952<=low->low<=high->high<2305843009213693952->low<=p.1/\p.1<=high)/\e7 p.2):=by
 unfold nV;refine Ok.aa (i3 h (O9 _).1) λp a=>Ok.s ⟨λf d e=>?_,a.2⟩;obtain⟨⟨c,b,_⟩,_⟩:=a;rw[et (n:=high-low) (by omega) (by omega),et (n:=high-low+1) (by omega) (by omega)]at b;show low<=a1 (low+p.1)/\a1 (low+p.1)<=high;rw[et (by omega) (by omega)];omega
def vT{l:bR}(h:e7 t)(d:1<=l.length)(e:l.length<=1000000):Ok (jj t l) (λp=>p.1∈l/\e7 p.2):=by
 unfold jj;refine Ok.aa (i3 h (by omega)) λp a=>?_;exact Ok.aa (lf a.1.1 (a.1.2.1 (by omega))) λc b=>Ok.s ⟨b.1,a.2⟩
def wj{n:Int}(h:e7 t)(b:n<=9223372036854775807):Ok (lW t n) (λp=>e7 p.2):=by
 unfold lW;exact Ok.aa (i3 h b) λp a=>Ok.s a.2
def Pd(l:bR):Ok (vn l) e7:=by
 unfold vn;refine atD (λc:bR=>c.length<=600) (λg d=>Ok.s ⟨by simp,by simp,d⟩) λe b=>?_;refine Ok.cs (λa=>?_) λa=>b _ ?_
 .simp at a;exact Ok.aa (sJ ⟨by omega,by omega,by omega⟩) λc f=>b _ (by omega)
 .simp at a;omega
def D5{g:aK}{n:Int}(h:e7 t)(k:g.aL.length<=1000000)(i:n<=9223372036854775807):Ok (rq t g n) (λp=>e7 p.2):=by
 unfold rq;refine atD (λb:Bool×bR×Int=>(b.1=false->g.aL.length≠0)/\e7 (bH.mk b.2.1 b.2.2)) (λb c=>?_) λj d=>?_
 .obtain⟨q,m,l⟩:=b;refine Ok.cs (λ_=>?_) λf=>?_
  .exact Ok.aa (vT c.2 (by decide) (by decide)) λe a=>Ok.s a.2
  .have:=c.1 f;refine Ok.aa (i3 c.2 (by omega)) λe a=>?_;exact Ok.aa (lf a.1.1 (a.1.2.1 (by omega))) λo _=>Ok.s a.2
 .refine Ok.cs (λ_=>?_) λ_=>d _ ⟨λh=>by simp at h;simp;exact h,h⟩;refine Ok.aa (wj h i) λe a=>?_;exact Ok.cs (λ_=>d _ ⟨by simp,a⟩) λ_=>d _ ⟨λh=>by simp at h;simp;exact h,a⟩
def J3{g:aK}(h:e7 t)(r:g.aL.length<=1000000/\g.Links.length<=1000000):Ok (tP t g) (λp=>(p.1.Links.length<=1/\p.1.aL.length<=1)/\e7 p.2):=by
 unfold tP;refine atD (λs:Bool×bR×Int=>(s.1=true->0<g.Links.length)/\e7 (bH.mk s.2.1 s.2.2)) (λs d=>?_) λq i=>?_
 .obtain⟨w,v,u⟩:=s;refine Ok.cs (λe=>?_) λe=>Ok.cs (λ_=>Ok.s ⟨⟨by simp,by simp⟩,d.2⟩) λf=>?_
  .have:=d.1 e;refine Ok.aa (i3 d.2 (by omega)) λk c=>?_;refine Ok.aa (lf c.1.1 (c.1.2.1 (by omega))) λn _=>?_;refine Ok.aa (i3 c.2 (by omega)) λo j=>?_;exact Ok.cs (λ_=>Ok.s ⟨⟨by simp,by simp⟩,j.2⟩) λ_=>Ok.s ⟨⟨by simp,by simp⟩,j.2⟩
  .simp at f;have:0<g.aL.length:=by
    cases l:g.aL with
    |nil=>exact absurd l f
    |cons a b=>simp
   refine Ok.aa (i3 d.2 (by omega)) λk c=>?_;exact Ok.aa (lf c.1.1 (c.1.2.1 (by omega))) λn _=>Ok.s ⟨⟨by simp,by simp⟩,c.2⟩
 .refine Ok.cs (λm=>?_) λ_=>i _ ⟨by simp,h⟩;exact Ok.aa (i3 h (by omega)) λk c=>i _ ⟨λ_=>by simpa using m,c.2⟩
end
section
variable {α:Type}{l:List α}
theorem Nf[DecidableEq α]{v:α}:l.any (λx=>decide (x=v))=decide (v∈l):=by grind
def vU(l:bR)(n:Int):m5 l n=some (decide (n∈l)):=by
 unfold m5;refine(p1 (λx:Int=>decide (x=n)) (some true) ?_ _ _ _).trans ?_
 .intros;rfl
 .rw[Nf];cases decide (n∈l)<;>rfl
theorem Fx(l:bR)(n:Int):pe l n=some (decide (n∈l)):=by
 unfold pe xy;obtain⟨r,f,c⟩:=vo (B:=λ(d:Int) (e:Int) (b:Unit->gA) (a:Unit)=>match a with|()=>bif decide (n=e)then some (d:Int)else b ()) (K:=λ(a:Unit)=>match a with|()=>some (-1:Int)) (λx=>decide (n=x)) (λg x bb h=>rfl) (λ_=>rfl) l 0 ();simp only[f,aU,c]
 grind
def kL(l:List gJ)(a b:Int):Bool:=l.any λc=>sv (gJ.mk a b) c
def KD(l:List gJ)(a b:Int):uD l a b=some (kL l a b||kL l b a):=by
 unfold uD;refine(p1 (λc:gJ=>sv (gJ.mk a b) c||sv (gJ.mk b a) c) (some true) ?_ _ _ _).trans ?_
 .intro f x bb s;congr 1;rw[Bool.eq_iff_iff];obtain⟨e,t⟩:=x;simp[sv];constructor
  .split
   .rintro(c|c)<;>omega
   .intro c;omega
  .rintro(c|c)
   .rw[if_pos (by omega)];omega
   .split<;>omega
 .have:(l.any λc:gJ=>sv (gJ.mk a b) c||sv (gJ.mk b a) c)=(kL l a b||kL l b a):=by
   rw[Bool.eq_iff_iff];simp[kL,List.any_eq_true]
   constructor
   .rintro⟨x,d,c|c⟩
    .exact .inl ⟨x,d,c⟩
    .exact .inr ⟨x,d,c⟩
   .rintro(⟨x,d,c⟩|⟨x,d,c⟩)
    .exact⟨x,d,.inl c⟩
    .exact⟨x,d,.inr c⟩
  rw[this];cases(kL l a b||kL l b a)<;>rfl
def pV{α b β:Type}{B:Int->α->(List b->Option β)->List b->Option β}{K:List b->Option β}(p:α->Bool)(f:α->b):
  ∀(l:List α) (j:Nat) (s:List b),(∀(j:Nat) x bb s,x∈l->s.length<1000000->B j x bb s=bif p x then bb (s++[f x])else bb s)->l.length+s.length<=1000000->bL l j B K s=K (s++(l.filter p).map f)
 |[],j,s,_,_=>by simp[bL]
 |x::r,j,s,d,h=>by
  simp only[List.length_cons]at h;simp only[bL];rw[d j x _ s (by simp) (by omega)];have e:∀(j:Nat) a bb s,a∈r->s.length<1000000->B j a bb s=bif p a then bb (s++[f a])else bb s:=λj a bb s g=>d j a bb s (by simp[g])
  cases c:p x
  .rw[cond_false,pV p f r (j+1) s e (by omega),List.filter_cons_of_neg (by simp[c])]
  .rw[cond_true,pV p f r (j+1) (s++[f x]) e (by simp;omega),List.filter_cons_of_pos c];simp
def nD{s:List α}{x:α}(h:s.length<1000000):dr s [x]=some (s++[x]):=ga (by simp;omega)
theorem yZ{a b:bR}(d:a.Pairwise (·<·))(c:b.Pairwise (·<·))(h:∀x,x∈a↔x∈b):a=b:=by
 induction a generalizing b with
 |nil=>
  cases b with
  |nil=>rfl
  |cons y b=>exact absurd ((h y).2 (by simp)) (by simp)
 |cons x a e=>
  cases b with
  |nil=>exact absurd ((h x).1 (by simp)) (by simp)
  |cons y b=>
   rw[List.pairwise_cons]at d c;have f:x=y:=by
    have j:=(h x).1 (by simp);have i:=(h y).2 (by simp)
    grind
   subst f;congr 1;refine e d.2 c.2 λg=>?_;have:=h g;simp only[List.mem_cons]at this;constructor
   .grind
   .grind
theorem zx{l:bR}(h:l.Nodup):(gF l).Pairwise (·<·):=by
 have b:=Cc l;have a:(gF l).Nodup:=(uT l).nodup_iff.2 h;have:=b.and a
 grind
variable {x:Int}
def zf{l:bR}:x∈gF l↔x∈l:=(uT l).mem_iff
structure cU(t:aK):Prop where
 iP:t.aL.length<=24
 nl:t.Links.length<=60
 q3:∀r∈t.aL,1<=r.aP/\r.aP<=99
 gi:t.aL.Pairwise (λa b=>a.aP<b.aP)
 xU:∀l∈t.Links,lH l=false
 ends:∀l∈t.Links,fT t l.A=true/\fT t l.B=true
 lt:∀l∈t.Links,l.A<l.B
 oR:t.Links.Pairwise (λa b=>eG a b=true)
def y0(a b c:aR)(e:eG a b=true)(d:eG b c=true):eG a c=true:=by
 simp[eG]at *;omega
theorem lK{p:α->Bool}:l.any p=false↔∀x∈l,p x=false:=by grind
variable {t:aK}
theorem gj:gp t=0↔cU t:=by
 unfold gp;constructor
 .intro a;by_cases c:(decide (24<(t.aL.length:Int))||decide (60<(t.Links.length:Int)))=true
  .grind
  simp only[Bool.not_eq_true]at c;rw[c,cond_false]at a;cases f:tH t<;>rw[f]at a<;>first|cases a;done|skip
  cases h:lZ t<;>rw[h]at a<;>first|cases a;done|skip
  cases e:tI t<;>rw[e]at a<;>first|cases a;done|skip
  cases d:tJ t<;>rw[d]at a<;>first|cases a;done|skip
  cases i:tK t<;>rw[i]at a<;>first|cases a;done|skip
  cases j:tL t<;>rw[j]at a<;>first|cases a;done|skip
  simp only[Bool.or_eq_false_iff,decide_eq_false_iff_not]at c;refine⟨by omega,by omega,λr g=>?_,FM h,lK.1 e,λl b=>?_,λl b=>?_,rO y0 j⟩
  .have:=lK.1 f r g;simp[nC]at this;omega
  .have:=lK.1 d l b;simpa using this
  .have:=lK.1 i l b;simpa using this
 .intro a;have c:(decide (24<(t.aL.length:Int))||decide (60<(t.Links.length:Int)))=false:=by
   have:=a.iP;have:=a.nl;simp;omega
  have f:tH t=false:=lK.2 λr g=>by have:=a.q3 r g;simp[nC];omega
  have h:lZ t=true:=pM (a.gi.imp λa=>by simpa using a);have e:tI t=false:=lK.2 a.xU;have d:tJ t=false:=lK.2 λl b=>by have:=a.ends l b;simp[this]
  have i:tK t=false:=lK.2 λl b=>by have:=a.lt l b;simp;omega
  have j:tL t=true:=pM a.oR
  grind
def u0(t:aK):nW t=some (decide (gp t=0)):=by
 unfold nW;rw[pU];rfl
variable {r:Int}
def r3:fT t r=true↔∃x∈t.aL,x.aP=r:=by simp[fT]
def KE:gp (aK.mk [] [])=0:=rfl
def qv(f:gC)(l:aR):Bool:=decide (l.A∈f.aL)||decide (l.B∈f.aL)||kL f.Links l.A l.B||kL f.Links l.B l.A
def nv(t:aK)(f:gC):aK:=aK.mk (t.aL.filter λr=>!decide (r.aP∈f.aL)) (t.Links.filter λl=>!qv f l)
def cU.Cb(h:cU t)(f:gC):cU (nv t f):=by
 have C:(nv t f).aL.Sublist t.aL:=List.filter_sublist;have sl:(nv t f).Links.Sublist t.Links:=List.filter_sublist;refine⟨Nat.le_trans C.length_le h.iP,Nat.le_trans sl.length_le h.nl,λr Z=>h.q3 r (C.subset Z),h.gi.sublist C,λl q=>h.xU l (sl.subset q),λl q=>?_,λl q=>h.lt l (sl.subset q),h.oR.sublist sl⟩;have S:=List.mem_filter.1 q;have Q:=h.ends l S.1;have u:=S.2;simp[qv]at u;rw[r3,r3]at Q ⊢;obtain⟨⟨x,X,O⟩,⟨y,Y,h9⟩⟩:=Q;refine⟨⟨x,List.mem_filter.2 ⟨X,?_⟩,O⟩,⟨y,List.mem_filter.2 ⟨Y,?_⟩,h9⟩⟩
 .rw[O];simp[u]
 .rw[h9];simp[u]
def vi(t:aK)(f:gC):aK:=if gp t=0 then nv t f else aK.mk [] []
def Jj(t:aK)(f:gC):cU (vi t f):=by
 unfold vi;split
 .rename_i a;exact(gj.1 a).Cb f
 .exact gj.1 KE
def JP(t:aK)(f:gC):uo t f=some (vi t f):=by
 unfold uo vi;simp only[yY,aU];by_cases b:gp t=0
 .have c:=gj.1 b;have:=c.iP;have:=c.nl
  simp only[b,decide_true,Bool.not_true,cond_false,if_true];refine(pV (λr:bk=>!decide (r.aP∈f.aL)) id _ _ _ ?_ (by simp;omega)).trans ?_
  .intro d x bb s _ a;simp only[jn,vU,aU,nD a];rfl
  refine(pV (λl:aR=>!qv f l) id _ _ _ ?_ (by simp;omega)).trans ?_
  .intro d x bb s _ a;simp only[jn,vU,KD,aU,nD a,qv,id];cases decide (x.A∈f.aL)<;>cases decide (x.B∈f.aL)<;>cases kL f.Links x.A x.B<;>cases kL f.Links x.B x.A<;>rfl
  .simp[nv]
 .simp[b]
theorem Ng(t:aK)(r:Int):rS t r=some (decide (gp t=0)&&fT t r):=by
 unfold rS;simp only[yY,Fv,aU]
 grind
def oJ(t:aK)(r:Int):bk×Bool:=if h8 (λx:bk=>dM x.aP r) t.aL then(el t.aL (hw (λx:bk=>dM x.aP r) t.aL),true)else(bk.mk 0 false,false)
def zy(t:aK)(r:Int)(c:t.aL.length<=1000000):rC t r=some (oJ t r):=by
 unfold rC oJ;rw[Hf t.aL r _ (λx=>dM x.aP r) c (λx=>Ea x r)];simp only[aU];cases a:h8 (λx:bk=>dM x.aP r) t.aL
 .rfl
 .have b:hw (λx:bk=>dM x.aP r) t.aL<t.aL.length:=by
   simp only[h8,Bool.and_eq_true,decide_eq_true_eq]at a;exact a.1
  simp only[Bool.not_true,cond_false,ov b,aU,if_true]
def Ad(h:cU t)(r:Int):h8 (λx:bk=>dM x.aP r) t.aL=fT t r:=by
 have:=Fw (t:=t) (pM (h.gi.imp λh=>by simpa using h)) r;simpa [Bj]using this
theorem vV(t:aK)(r:Int)(b:t.aL.length<=1000000):jG t r=some (decide (gp t=0)&&fT t r):=by
 unfold jG;simp only[zy t r b,u0,aU];by_cases a:gp t=0
 .simp only[a,decide_true,cond_true,Bool.true_and,oJ,Ad (gj.1 a)]
  grind
 .simp[a]
theorem Hk(h:cU t){x:bk}(e:x∈t.aL):oJ t x.aP=(x,true):=by
 unfold oJ;have j:fT t x.aP=true:=r3.2 ⟨x,e,rfl⟩;have c:=Ad h x.aP;rw[j]at c;rw[if_pos c];simp only[h8,Bool.and_eq_true,decide_eq_true_eq]at c;obtain⟨f,d⟩:=c;rw[k7]at d;have k:=Az f;have l:∀a∈t.aL,∀b∈t.aL,a.aP=b.aP->a=b:=by
  intro a i b g n;obtain⟨p,o,rfl⟩:=List.getElem_of_mem i;obtain⟨q,m,rfl⟩:=List.getElem_of_mem g;have:=List.pairwise_iff_getElem.1 h.gi
  grind
 rw[l _ k _ e d]
def u1{σ β:Type}{B:Int->α->(σ->Option β)->σ->Option β}{K:σ->Option β}(p:α->Bool)(g:α->Option β)(b:∀j x bb s,B j x bb s=bif p x then g x else bb s)(l:List α)(j:Nat)(s:σ):
  bL l j B K s=match l.find? p with|some x=>g x|none=>K s:=
 vw (f:=λl s=>match l.find? p with|some x=>g x|none=>K s) (λs=>rfl) (λj x r s bb a=>by
  rw[b,a,List.find?_cons];cases p x<;>rfl) l j s
theorem Pe(h:cU t){a b:bk}(d:a∈t.aL)(c:b∈t.aL)(f:a.aP=b.aP):a=b:=by
 obtain⟨i,g,rfl⟩:=List.getElem_of_mem d;obtain⟨j,e,rfl⟩:=List.getElem_of_mem c;have:=List.pairwise_iff_getElem.1 h.gi
 grind
def FN(h:cU t){a b:aR}(j:a∈t.Links)(i:b∈t.Links)(l:a.A=b.A)(k:a.B=b.B):a=b:=by
 obtain⟨d,g,rfl⟩:=List.getElem_of_mem j;obtain⟨e,f,rfl⟩:=List.getElem_of_mem i;have:=List.pairwise_iff_getElem.1 h.oR;rcases Nat.lt_trichotomy d e with c|c|c
 .have:=this d e g f c;simp[eG]at this;omega
 .subst c;rfl
 .have:=this e d f g c;simp[eG]at this;omega
def Nh(h:cU t)(a:fT t r=false):oJ t r=(bk.mk 0 false,false):=by
 unfold oJ;rw[Ad h,a];rfl
def J4(t:aK)(r:Int)(g:t.aL.length<=1000000):∃b,hP t r=some b/\x6 t r=some b:=by
 unfold hP x6;simp only[zy t r g,u0,yY,aU];by_cases d:gp t=0
 .have e:=gj.1 d;simp only[d,decide_true,cond_true,Bool.not_true,cond_false];refine⟨_,rfl,?_⟩;refine(u1 (λx:bk=>decide (x.aP=r)) (λx=>some x.bw) (λ_ _ _ _=>rfl) _ _ _).trans ?_;cases a:t.aL.find? (λx=>decide (x.aP=r))with
  |none=>
   have:fT t r=false:=lK.2 λx f=>by simpa using List.find?_eq_none.1 a x f
   rw[Nh e this]
  |some x=>
   have h:=List.mem_of_find?_eq_some a;have c:=List.find?_some a;have c:x.aP=r:=by simpa using c
   subst c;rw[Hk e h]
 .simp only[d,decide_false,cond_false,Bool.not_false,cond_true];exact⟨_,rfl,rfl⟩
def ff(l:aR)(a b:Int):Bool:=(decide (l.A=a)&&decide (l.B=b))||(decide (l.B=a)&&decide (l.A=b))
def hn(a b:Int)(l:aR):Int×Bool:=(bif decide (l.A=a)&&decide (l.B=b)then l.gn else l.gd,true)
def hZ(t:aK)(a b:Int):Int×Bool:=match t.Links.find? (λl=>ff l a b)with|some l=>hn a b l|none=>(0,false)
def dU(t:aK)(a b:Int):Bool:=t.Links.any λl=>ff l a b
theorem KF(t:aK)(a b:Int):uB t a b=some (hZ t a b):=by
 unfold uB hZ;refine(u1 (λl:aR=>ff l a b) (λl=>some (hn a b l)) (λc x bb d=>?_) _ _ _).trans ?_
 .unfold ff hn
  grind
 .grind
def D6(t:aK)(a b:Int):(hZ t a b).2=dU t a b:=by
 unfold hZ dU;cases c:t.Links.find? (λl=>ff l a b)with
 |none=>symm;exact lK.2 λx d=>by simpa using List.find?_eq_none.1 c x d
 |some x=>
  symm;exact List.any_eq_true.2 ⟨x,List.mem_of_find?_eq_some c,by simpa using List.find?_some c⟩
variable {a b:Int}
def l6(h:cU t){l:aR}(d:l∈t.Links)(f:ff l a b=true):hZ t a b=hn a b l:=by
 unfold hZ;cases c:t.Links.find? (λl=>ff l a b)with
 |none=>exact absurd f (List.find?_eq_none.1 c l d)
 |some x=>
  have e:=List.mem_of_find?_eq_some c;have g:=List.find?_some c;have j:=h.lt _ d;have i:=h.lt _ e;simp[ff]at f g;rw[FN h e d (by omega) (by omega)]
def Ni(h:cU t)(v:aR):∀a b:Nat,a<=b->b<t.Links.length->cmpL (el t.Links a) v<=cmpL (el t.Links b) v:=by
 refine B7 (f:=λl:aR=>cmpL l v) (h.oR.imp λ{a b} k=>?_)
 have e:∀x c:Int,dM x c = -1\/dM x c=0\/dM x c=1:=λx c=>by
  unfold dM;split
  .exact .inl rfl
  .omega
 have:∀x c:aR,cmpL x c = -1\/cmpL x c=0\/cmpL x c=1:=λx c=>by
  have g:=e x.A c.A;have i:=e x.B c.B;simp only[cmpL,jv];generalize dM x.A c.A=m at *;generalize dM x.B c.B=p at *;by_cases d:m=0
  .omega
  .simp[d];omega
 have d:=@vS a v;have j:=@vS b v;have o:=@cmpL_eq a v;have n:=@cmpL_eq b v;have g:=this a v;have i:=this b v;simp[eG]at k d j;omega
theorem EJ(t:aK)(a b:Int)(u:t.Links.length<=1000000):pH t a b=some (if gp t=0 then hZ t a b else(0,false)):=by
 unfold pH;simp only[u0,aU];by_cases e:gp t=0
 .have d:=gj.1 e;simp only[e,decide_true,Bool.not_true,cond_false,if_true];generalize o:aR.mk (if b<a then b else a) (if b>a then b else a) 0 0 0=c;rw[Q2 t.Links c _ (λx=>cmpL x c) u (λx=>CR x c)];simp only[aU];have n:c.A=if b<a then b else a:=by rw[<-o]
  have m:c.B=if b>a then b else a:=by rw[<-o]
  cases g:h8 (λx:aR=>cmpL x c) t.Links
  .simp only[Bool.not_false,cond_true];congr 1;unfold hZ;cases j:t.Links.find? (λl=>ff l a b)with
   |none=>rfl
   |some x=>
    exfalso;have k:=List.mem_of_find?_eq_some j;have s:=List.find?_some j;have w:=e
    have:=(Ac (f:=λx:aR=>cmpL x c) (Ni d c)).2 ⟨x,k,by
     rw[cmpL_eq,n,m];have:=d.lt _ k;simp[ff]at s;split<;>split<;>omega⟩
    rw[g]at this;cases this
  .simp only[h8,Bool.and_eq_true,decide_eq_true_eq]at g;obtain⟨h,i⟩:=g;rw[cmpL_eq,n,m]at i;have p:=Az h;simp only[Bool.not_true,cond_false,ov h,aU];have y:=d.lt _ p
   have v:ff (el t.Links (hw (λx:aR=>cmpL x c) t.Links)) a b=true:=by
    simp[ff];by_cases r:b<a<;>by_cases q:b>a<;>simp only[r,q,if_true,if_false]at i<;>omega
   rw[l6 d p v];unfold hn
   grind
 .simp[e]
def ids(t:aK):bR:=t.aL.map (·.aP)
def wk(h:cU t):(ids t).Pairwise (·<·):=List.pairwise_map.2 h.gi
def ku:r∈ids t↔fT t r=true:=by rw[r3];simp[ids]
def hJ:dU t a b=true↔∃l∈t.Links,(l.A=a/\l.B=b)\/(l.B=a/\l.A=b):=by
 simp[dU,ff]
theorem oe(h:dU t a b=true):dU t b a=true:=by
 rw[hJ]at h ⊢
 grind
def AJ(c:cU t)(h:dU t a b=true):a≠b:=by
 rw[hJ]at h;obtain⟨l,d,h⟩:=h;have:=c.lt l d;omega
theorem k8(d:cU t)(h:dU t a b=true):b∈ids t:=by
 rw[hJ]at h;obtain⟨l,e,h⟩:=h;have:=d.ends l e;rcases h with⟨f,c⟩|⟨f,c⟩<;>rw[ku,<-c]
 all_goals grind
def gc(t:aK)(r:Int):bR:=(ids t).filter λx=>dU t r x
def p3(a:cU t)(r:Int):(gc t r).Pairwise (·<·):=(wk a).sublist List.filter_sublist
def hT(b:cU t):x∈gc t r↔dU t r x=true:=by
 unfold gc;rw[List.mem_filter]
 exact⟨λa=>a.2,λa=>⟨k8 b a,a⟩⟩
def L3(a:cU t)(r:Int):uM t r=some (gc t r):=by
 unfold uM;have:=a.iP;refine(pV (λx:bk=>dU t r x.aP) (·.aP) _ _ _ ?_ (by simp;omega)).trans ?_
 .intro c x bb d _ b;simp only[jn,KF,D6,aU,nD b]
 .simp only[List.nil_append,gc,ids];rw[List.filter_map];rfl
def kB(r:Int)(l:aR):gA:=if r=l.A then some l.B else if r=l.B then some l.A else none
def zg{α a β:Type}{B:Int->α->(List a->Option β)->List a->Option β}{K:List a->Option β}(f:α->Option a):
  ∀(l:List α) (j:Nat) (s:List a),(∀(j:Nat) x bb s,x∈l->s.length<1000000->B j x bb s=match f x with|some y=>bb (s++[y])|none=>bb s)->l.length+s.length<=1000000->bL l j B K s=K (s++l.filterMap f)
 |[],j,s,_,_=>by simp[bL]
 |x::r,j,s,c,h=>by
  simp only[List.length_cons]at h;simp only[bL];rw[c j x _ s (by simp) (by omega)];have d:∀(j:Nat) y bb s,y∈r->s.length<1000000->B j y bb s=match f y with|some y=>bb (s++[y])|none=>bb s:=λj y bb s e=>c j y bb s (by simp[e])
  cases b:f x with
  |none=>simp only;rw[zg f r (j+1) s d (by omega),List.filterMap_cons_none b]
  |some y=>simp only;rw[zg f r (j+1) (s++[y]) d (by simp;omega),List.filterMap_cons_some b];simp
def CS(h:cU t)(r:Int):(t.Links.filterMap (kB r)).Nodup:=by
 have p:∀l:jC,(∀x∈l,x.A<x.B)->l.Pairwise (λa b=>eG a b=true)->(l.filterMap (kB r)).Nodup:=by
  intro l;induction l with
  |nil=>intros;simp
  |cons x l d=>
   intro g f;rw[List.pairwise_cons]at f;have d:=d (λj m=>g j (by simp[m])) f.2;cases c:kB r x with
   |none=>rw[List.filterMap_cons_none c];exact d
   |some j=>
    rw[List.filterMap_cons_some c,List.nodup_cons];refine⟨λo=>?_,d⟩;obtain⟨k,i,e⟩:=List.mem_filterMap.1 o;have n:=f.1 k i;have s:=g x (by simp);have q:=g k (by simp[i]);unfold kB at c e;simp[eG]at n;split at c<;>split at e<;>(try split at c)<;>(try split at e)<;>simp at c e<;>omega
 exact p _ h.lt h.oR
theorem KG(c:cU t):x∈t.Links.filterMap (kB r)↔dU t r x=true:=by
 rw[List.mem_filterMap,hJ];constructor
 .rintro⟨l,a,b⟩;unfold kB at b
  grind
 .rintro⟨l,a,b⟩;refine⟨l,a,?_⟩;have:=c.lt l a;unfold kB
  grind
def EK(a:cU t)(r:Int):qY t r=some (gc t r):=by
 unfold qY;have:=a.nl;refine(zg (kB r) _ _ _ ?_ (by simp;omega)).trans ?_
 .intro f x bb g _ d;simp only[jn,nD d,aU,kB];by_cases b:r=x.A
  .simp[b]
  .by_cases c:r=x.B<;>simp[b,c]
   simp[<-c,b]
 .have e:(t.Links.filterMap (kB r)).length<=60:=Nat.le_trans (List.length_filterMap_le _ _) (by omega);simp only[List.nil_append];rw[iQ (by simp;omega)];congr 1;refine yZ (zx (CS a r)) (p3 a r) λx=>?_;rw[zf,KG a,hT a]
def Jk(t:aK)(r:Int):tM t r=some (if gp t=0 then gc t r else[]):=by
 unfold tM;simp only[u0,aU];by_cases a:gp t=0
 .simp[a,EK (gj.1 a),aU]
 .simp[a]
end
section
variable {α β σ:Type}{L:List α}{G:Option β->Prop}{B:Int->α->(σ->Option β)->σ->Option β}{K:σ->Option β}
def QV(I:List α->σ->Prop)
  (f:∀(p:List α) x r s bb,L=p++x::r->I p s->(∀b,I (p++[x]) b->G (bb b))->G (B (p.length:Int) x bb s)) (s:σ) (h:I [] s) (g:∀s,I L s->G (K s)):G (bL L 0 B K s):=by
 have i:∀(c p:List α) (s:σ),L=p++c->I p s->G (bL c p.length B K s):=by
  intro c;induction c with
  |nil=>intro p s a h;exact g s (by rw[a,List.append_nil];exact h)
  |cons x r d=>
   intro p s a h;refine f p x r s _ a h λb e=>?_;have:=d (p++[x]) b (by simp[a]) e
   rwa [List.length_append]at this
 exact i L [] s rfl h
def RO{F:(σ->Option β)->σ->Option β}(I:σ->Prop)(μ:σ->Nat){s:σ}(h:I s)(c:μ s<1099511627776)
  (f:∀s bb,I s->(∀a,I a->μ a<μ s->G (bb a))->G (F bb s)):G (fI F s):=by
 have g:∀(b:Nat) (s:σ),I s->μ s<b->G (iter F b s):=by
  intro b;induction b with
  |zero=>intro s _ h;omega
  |succ b d=>intro s h c;exact f s _ h λa e i=>d a e (by omega)
 exact g fuel s h c
def atB{Q:β->Prop}(I:List α->σ->Prop)
  (f:∀(p:List α) x r s bb,L=p++x::r->I p s->(∀b,I (p++[x]) b->Ok (bb b) Q)->Ok (B (p.length:Int) x bb s) Q) (s:σ) (h:I [] s) (g:∀s,I L s->Ok (K s) Q):Ok (Go.Proofs.YteghoodgfjhjkaaGreat.bL L 0 B K s) Q:=by
 have i:∀(c p:List α) (s:σ),L=p++c->I p s->Ok (Go.Proofs.YteghoodgfjhjkaaGreat.bL c p.length B K s) Q:=by
  intro c;induction c with
  |nil=>intro p s a h;exact g s (by rw[a,List.append_nil];exact h)
  |cons x r d=>
   intro p s a h;refine f p x r s _ a h λb e=>?_;have:=d (p++[x]) b (by simp[a]) e
   rwa [List.length_append]at this
 exact i L [] s rfl h
def kj{a b:bR}(h:a.Nodup)(d:∀x∈a,x∈b):a.length<=b.length:=by
 induction a generalizing b with
 |nil=>simp
 |cons x a f=>
  rw[List.nodup_cons]at h;have c:=d x (by simp);have:=f (b:=b.erase x) h.2 λi e=>(List.mem_erase_of_ne (λg=>h.1 (by rw[<-g];exact e))).2 (d i (by simp[e]));rw[List.length_erase_of_mem c]at this;have:=List.length_pos_of_mem c;simp only[List.length_cons];omega
inductive ds(t:aK)(c:List Int):Int->Int->Prop
 |refl {a:Int} (h:a∉c):ds t c a a
 |step {a b d:Int} (h:ds t c a b) (av:dU t b d=true) (hd:d∉c):ds t c a d
variable {a b:Int}{t:aK}
def ds.trans{c:bR}{d:Int}(O:ds t c a b)(q:ds t c b d):ds t c a d:=by
 induction q with
 |refl _=>exact O
 |step _ C hd u=>exact .step u C hd
def ds.left{c:bR}(h:ds t c a b):a∉c:=by
 induction h with
 |refl h=>exact h
 |step _ _ _ q=>exact q
def ds.right{c:bR}(h:ds t c a b):b∉c:=by
 cases h with
 |refl h=>exact h
 |step _ _ hd=>exact hd
def ds.symm{c:bR}(h:ds t c a b):ds t c b a:=by
 induction h with
 |refl h=>exact .refl h
 |step h u hd q=>exact(ds.step (.refl hd) (oe u) h.right).trans q
def ds.ids{t:aK}(q:cU t){c:bR}{a b:Int}(h:ds t c a b)(u:a∈ids t):b∈ids t:=by
 cases h with
 |refl h=>exact u
 |step _ hd _=>exact k8 q hd
def ds.stays{c:bR}{S:Int->Prop}(h:ds t c a b)(O:S a)(q:∀x,S x->∀y,dU t x y=true->S y\/y∈c):S b:=by
 induction h with
 |refl _=>exact O
 |step _ hd C u=>exact(q _ u _ hd).resolve_right C
open Classical in
noncomputable def nw(t:aK)(c:bR)(r:Int):bR:=(ids t).filter λa=>decide (ds t c r a)
variable {r:Int}
def zh(b:cU t){c:bR}{x:Int}(d:r∈ids t):x∈nw t c r↔ds t c r x:=by
 unfold nw;rw[List.mem_filter];simp only[decide_eq_true_eq];exact⟨λa=>a.2,λa=>⟨a.ids b d,a⟩⟩
def EL(a:cU t)(c:bR)(r:Int):(nw t c r).Pairwise (·<·):=(wk a).sublist List.filter_sublist
def sr(a:cU t):(ids t).length<=24:=by have:=a.iP;simpa [ids]using this
def Pf(h:cU t)(c:bR):∀(n:Nat) (r:Int) (out:bR),out.Nodup->(∀x∈out,x∈ids t)->r∈ids t->(ids t).length+1<=n+out.length->
  Ok (q4 n r out c t.aL t.Links) (λo=>∃e,o=out++e/\o.Nodup/\(∀x∈e,ds t c r x)/\(r∈o\/r∈c)/\(∀x∈e,∀y,dU t x y=true->y∈o\/y∈c)):=by
 intro n;induction n with
 |zero=>intro r out i p _ F;have:=kj i p;omega
 |succ n H=>
  intro r out i p B F;unfold q4;simp only[Fx,aU,jn];by_cases m:r∈out
  .simp only[m,decide_true,cond_true];exact Ok.s ⟨[],by simp,i,by simp,.inl m,by simp⟩
  .simp only[m,decide_false,cond_false];by_cases k:r∈c
   .simp only[k,decide_true,cond_true];exact Ok.s ⟨[],by simp,i,by simp,by simp[k],by simp⟩
   .simp only[k,decide_false,cond_false];have Q:=kj i p;have:=sr h;rw[ga (by simp;omega),aU,show(aK.mk t.aL t.Links)=t from rfl,EK h,aU];refine atB (λD f=>∃e,f=(out++[r])++e/\f.Nodup/\(∀x∈e,ds t c r x)/\(∀x∈D,x∈f\/x∈c)/\(∀x∈e,∀y,dU t x y=true->y∈f\/y∈c)) ?_ _ ?_ ?_
    .rintro D s P f bb E ⟨e,j,z,q,v,w⟩ G;have C:dU t r s=true:=(hT h).1 (by rw[E];simp);have I:∀x∈f,x∈ids t:=by
      intro x d;rw[j]at d;simp only[List.mem_append,List.mem_cons,List.not_mem_nil,or_false]at d;rcases d with(d|rfl)|d
      .exact p x d
      .exact B
      .exact(q x d).ids h B
     refine Ok.aa (H s f z I (k8 h C) (by rw[j];simp;omega)) ?_;rintro o ⟨N,u,J,K,M,L⟩;refine G _ ⟨e++N,by rw[u,j];simp,J,?_,?_,?_⟩
     .intro x d;rcases List.mem_append.1 d with d|d
      .exact q x d
      .have:=K x d;exact(ds.step (.refl k) C this.left).trans this
     .intro x d;rcases List.mem_append.1 d with d|d
      .rcases v x d with g|g
       .exact .inl (by rw[u];simp[g])
       .exact .inr g
      .simp only[List.mem_cons,List.not_mem_nil,or_false]at d;subst d;exact M
     .intro x d y l;rcases List.mem_append.1 d with d|d
      .rcases w x d y l with g|g
       .exact .inl (by rw[u];simp[g])
       .exact .inr g
      .exact L x d y l
    .refine⟨[],by simp,?_,by simp,by simp,by simp⟩;rw[List.nodup_append];refine⟨i,by simp,?_⟩;intro a O b A;simp only[List.mem_cons,List.not_mem_nil,or_false]at A;subst A;exact λs=>m (s▸O)
    .rintro f ⟨e,j,z,q,v,w⟩;refine Ok.s ⟨r::e,by rw[j];simp,z,?_,.inl (by rw[j];simp),?_⟩
     .intro x d;rcases List.mem_cons.1 d with rfl|d
      .exact .refl k
      .exact q x d
     .intro x d y l;rcases List.mem_cons.1 d with rfl|d
      .exact v y ((hT h).2 l)
      .exact w x d y l
def JQ(a:cU t)(d:r∈ids t)(c:bR):tX t r c=some (nw t c r):=by
 have:=sr a;obtain⟨l,k,n,e,g,f,aH,j⟩:=Pf a c fuel r [] List.nodup_nil (by simp) d (by unfold fuel;simp;omega);unfold tX;rw[k,aU];rw[List.nil_append]at e;subst e;have m:=kj g λb i=>(f b i).ids a d;rw[iQ (by simp;omega)];congr 1;refine yZ (zx g) (EL a c r) λb=>?_;rw[zf,zh a d];refine⟨f b,λh=>?_⟩;have aH:=aH.resolve_right h.left;exact h.stays (S:=λb=>b∈l) aH j
def Pg{l:bR}{n:Int}(p:l.Pairwise (·<·))(P:l.length<=1000000):Ok (uw l n) (λm=>m.Pairwise (·<·)/\∀x,x∈m↔x=n\/x∈l):=by
 unfold uw;refine atT (λa:Int=>(0<=a/\a<=l.length)/\∀x∈l.take a.toNat,x<n) (λa=>((l.length:Int)-a).toNat) ⟨⟨by omega,by omega⟩,by simp⟩ (by omega) ?_;rintro a bb ⟨⟨A,W⟩,v⟩ D;have split:l.take a.toNat++l.drop a.toNat=l:=List.take_append_drop _ _;refine atD (λf:Bool=>(f=true->a<l.length/\∀x∈l.take (a+1).toNat,x<n)/\(f=false->∀x∈l.drop a.toNat,n<=x)) (λf i=>?_) λN y=>?_
 .refine Ok.cs (λc=>?_) λc=>?_
  .obtain⟨O,B⟩:=i.1 c;rw[et (by omega) (by omega)];exact D _ ⟨⟨by omega,by omega⟩,B⟩ (by omega)
  .have K:=i.2 c;refine atD (λf:Bool=>(f=true->n∈l)/\(f=false->∀x∈l.drop a.toNat,n<x)) (λf i=>?_) λR w=>?_
   .refine Ok.cs (λc=>Ok.s ⟨p,λx=>⟨.inr,?_⟩⟩) λc=>?_
    .rintro(rfl|b)
     .exact i.1 c
     .exact b
    .have I:=i.2 c;refine Ok.aa (sJ ⟨by omega,by omega,by omega⟩) λT L=>?_;refine Ok.aa (nu (by simp;omega)) λS s=>?_;refine Ok.aa (nu (by simp at s ⊢;omega)) λU u=>?_;refine Ok.aa (sJ ⟨by omega,by omega,by omega⟩) λV H=>?_;refine Ok.aa (nu (by simp at s u ⊢;omega)) λJ F=>?_;have M:J=l.take a.toNat++n::l.drop a.toNat:=by
      rw[F.1,H.1,u.1,s.1,L.1];simp
     refine Ok.s ?_;rw[M];have z:=p;rw[<-split,List.pairwise_append]at z;obtain⟨E,C,G⟩:=z;refine⟨?_,λx=>?_⟩
     .rw[List.pairwise_append,List.pairwise_cons];refine⟨E,⟨λt j=>I t j,C⟩,λx b t j=>?_⟩;rcases List.mem_cons.1 j with rfl|j
      .exact v x b
      .exact G x b t j
     .have:x∈l↔x∈l.take a.toNat\/x∈l.drop a.toNat:=by rw[<-List.mem_append,split]
      rw[this];simp only[List.mem_append,List.mem_cons]
      constructor
      .rintro(c|c|c)<;>simp[c]
      .rintro(c|c|c)<;>simp[c]
   .refine Ok.cs (λd=>?_) λd=>w _ ⟨by simp,λ_ x b=>?_⟩
    .have d:a<l.length:=by simpa using d
     refine Ok.aa (lf A d) λe q=>w _ ⟨λc=>?_,λc x b=>?_⟩
     .have:e=n:=by simpa using c
      rw[<-this];exact q.1
     .have Q:e≠n:=by simpa using c
      have g:l.drop a.toNat=e::l.drop (a.toNat+1):=by
       have h:a.toNat<l.length:=by omega
       rw[List.drop_eq_getElem_cons h];have:=q.2;rw[List.getElem?_eq_getElem h]at this;injection this with this
       rw[this]
      have r:=K e (by rw[g];simp);rw[g]at b;rcases List.mem_cons.1 b with rfl|b
      .omega
      .have k:(l.drop a.toNat).Pairwise (·<·):=p.sublist (List.drop_sublist _ _);rw[g,List.pairwise_cons]at k;have:=k.1 x b;omega
    .have d:(l.length:Int)<=a:=by simpa using d
     rw[List.drop_eq_nil_of_le (by omega)]at b;simp at b
 .refine Ok.cs (λd=>?_) λd=>y _ ⟨by simp,λ_ x b=>?_⟩
  .have d:a<l.length:=by simpa using d
   have h:a.toNat<l.length:=by omega
   refine Ok.aa (lf A d) λe q=>?_;have o:=q.2;rw[List.getElem?_eq_getElem h]at o;injection o with o
   have g:l.drop a.toNat=e::l.drop (a.toNat+1):=by rw[List.drop_eq_getElem_cons h,o]
   refine y _ ⟨λc=>⟨d,λx b=>?_⟩,λc x b=>?_⟩
   .have r:e<n:=by simpa using c
    rw[show(a+1).toNat=a.toNat+1 by omega,List.take_succ_eq_append_getElem h,o]at b;rcases List.mem_append.1 b with b|b
    .exact v x b
    .simp at b;omega
   .have r:n<=e:=by simpa using c
    rw[g]at b;rcases List.mem_cons.1 b with rfl|b
    .exact r
    .have k:(l.drop a.toNat).Pairwise (·<·):=p.sublist (List.drop_sublist _ _);rw[g,List.pairwise_cons]at k;have:=k.1 x b;omega
  .have d:(l.length:Int)<=a:=by simpa using d
   rw[List.drop_eq_nil_of_le (by omega)]at b;simp at b
def C9(h:cU t)(I:r∈ids t):pJ t r=some (nw t [] r):=by
 refine atJ ?_;have T:=sr h;unfold pJ
 refine atT (λg:bR×Int=>(0<=g.2/\g.2<=g.1.length)/\g.1.Nodup/\(∀c∈g.1,ds t [] r c)/\r∈g.1/\(∀c∈g.1.take g.2.toNat,∀f,dU t c f=true->f∈g.1))
  (λg=>((25:Int)-g.2).toNat) ⟨⟨by simp,by simp⟩,by simp,by intro c e;simp at e;subst e;exact .refl (by simp),by simp,by simp⟩ (by simp only;omega) ?_
 rintro⟨u,s⟩ bb ⟨⟨J,Y⟩,G,m,aH,A⟩ O;simp only at J Y G m aH A;have x:∀{l:bR},(∀c∈l,ds t [] r c)->l.Nodup->l.length<=24:=λ{l} E W=>Nat.le_trans (kj W λc e=>(E c e).ids h I) T;have ab:=x m G;refine Ok.cs (λk=>?_) λk=>?_
 .have k:s<u.length:=by simpa using k
  have L:s.toNat<u.length:=by omega
  refine Ok.aa (lf J k) λD K=>?_;have B:=K.2;rw[List.getElem?_eq_getElem L]at B;injection B with B
  rw[L3 h,aU];refine atB (λv j=>(∃q,j=u++q)/\j.Nodup/\(∀c∈j,ds t [] r c)/\∀f∈v,f∈j) ?_ _ ⟨⟨[],by simp⟩,G,m,by simp⟩ ?_
  .rintro v c Q j P F ⟨⟨q,i⟩,n,o,w⟩ y;have R:dU t D c=true:=(hT h).1 (by rw[F];simp);have V:ds t [] r c:=.step (m D K.1) R (by simp);have eK:=x o n;simp only[jn,vU,aU];by_cases e:c∈j
   .simp only[e,decide_true,Bool.not_true,cond_false];refine y _ ⟨⟨q,i⟩,n,o,λf d=>?_⟩;rcases List.mem_append.1 d with d|d
    .exact w f d
    .simp at d;subst d;exact e
   .simp only[e,decide_false,Bool.not_false,cond_true];rw[ga (by simp;omega),aU];refine y _ ⟨⟨q++[c],by rw[i];simp⟩,?_,λf d=>?_,λf d=>?_⟩
    .rw[List.nodup_append];refine⟨n,by simp,λa X b H=>?_⟩;simp at H;subst H;exact λD=>e (D▸X)
    .rcases List.mem_append.1 d with d|d
     .exact o f d
     .simp at d;subst d;exact V
    .rcases List.mem_append.1 d with d|d
     .exact List.mem_append_left _ (w f d)
     .exact List.mem_append_right _ d
  .rintro j ⟨⟨q,i⟩,n,o,w⟩;have eK:=x o n;rw[et (by omega) (by omega)];refine O _ ⟨⟨by simp only;omega,by simp only[i,List.length_append];omega⟩,n,o,by rw[i];simp[aH],?_⟩ (by simp only;omega);intro c e f d;simp only at e ⊢;rw[show(s+1).toNat=s.toNat+1 by omega,i,List.take_append_of_le_length (by omega),List.take_succ_eq_append_getElem L,B]at e;rcases List.mem_append.1 e with e|e
   .rw[i];exact List.mem_append_left _ (A c e f d)
   .simp at e;subst e
    exact w f ((hT h).2 d)
 .have k:(u.length:Int)<=s:=by simpa using k
  rw[List.take_of_length_le (by omega)]at A;refine atB (λv p=>p.Pairwise (·<·)/\∀c,c∈p↔c∈v) ?_ _ ⟨by simp,by simp⟩ ?_
  .rintro v c Q p P F ⟨z,C⟩ y;have U:p.Nodup:=z.imp (λE=>by omega);have:p.length<=24:=x (λf d=>m f (by rw[F];exact List.mem_append_left _ ((C f).1 d))) U;refine Ok.aa (Pg z (by omega)) λZ ⟨M,N⟩=>y _ ⟨M,λf=>?_⟩;rw[N,C];simp[or_comm]
  .rintro p ⟨z,C⟩;refine Ok.s (yZ z (EL h [] r) λc=>?_);rw[C,zh h I];exact⟨m c,λE=>E.stays (S:=λc=>c∈u) aH λc e f d=>.inl (A c e f d)⟩
end
section
open Classical in
noncomputable def hf(t:aK)(a b:Int):Bool:=decide (gp t=0)&&fT t a&&fT t b&&decide (ds t [] a b)
def EM{t:aK}(d:cU t){c:bR}{a b:Int}(e:a∈ids t):decide (b∈nw t c a)=@decide (ds t c a b) (Classical.propDecidable _):=by
 rw[Bool.eq_iff_iff];simp[zh d e]
def Jr(t:aK)(a b:Int):tO t a b=some (hf t a b):=by
 unfold tO hf;simp only[Ng,aU];by_cases c:gp t=0
 .have d:=gj.1 c;simp only[c,decide_true,Bool.true_and];cases e:fT t a
  .rfl
  .cases f:fT t b
   .rfl
   .simp only[cond_true,C9 d (ku.2 e),aU,vU,EM d (ku.2 e),Bool.true_and]
 .simp[c]
def Js(t:aK)(a b:Int)(f:t.aL.length<=1000000):q5 t a b=some (hf t a b):=by
 unfold q5 hf;simp only[vV _ _ f,aU];by_cases c:gp t=0
 .have d:=gj.1 c;simp only[c,decide_true,Bool.true_and];cases e:fT t a
  .rfl
  .cases g:fT t b
   .rfl
   .simp only[cond_true,JQ d (ku.2 e),aU,Fx,EM d (ku.2 e),Bool.true_and]
 .simp[c]
def gO{α:Type}(l:List (Int×α))(n m:Int)(b:α):aB (bM l n b) m=if m=n then some b else aB l m:=by
 induction l with
 |nil=>
  simp only[bM,aB,List.find?];by_cases d:n=m
  .simp[d]
  .simp[d,Ne.symm d]
 |cons p r c=>
  simp only[bM];by_cases e:p.1=n
  .rw[if_pos e];simp only[aB,List.find?]at c ⊢;by_cases a:n=m
   .simp[a]
   .have:p.1≠m:=by omega
    simp[a,this,Ne.symm a]
  .rw[if_neg e];simp only[aB,List.find?]at c ⊢;by_cases a:p.1=m
   .have:m≠n:=by omega
    simp[a,this]
   .simp[a];exact c
def L4{α:Type}{l:List (Int×α)}{n:Int}{b:α}(h:aB l n=none):(bM l n b).length=l.length+1:=by
 induction l with
 |nil=>rfl
 |cons p r c=>
  simp only[aB,List.find?]at h;by_cases a:p.1=n
  .simp[a]at h
  .simp only[bM,if_neg a,List.length_cons];rw[c (by simpa [aB,a]using h)]
end
end
section
set_option linter.all false
open Go
section
def EN{α σ β:Type}{B:Int->α->(σ->Option β)->σ->Option β}{K:σ->Option β}{L:List α}(g:α->Bool)(p:α->α->Bool)(a:Option β)(e:∀x bb s,B ((0:Nat):Int) x bb s=bif g x then bb s else a)
  (c:∀(j:Nat) x y r q s bb,L=q++y::x::r->j=q.length+1->B (j:Int) x bb s=bif g x&&p y x then bb s else a) (s:σ):bL L 0 B K s=bif L.all g&&gZ p L then K s else a:=by
 have f:∀(r q:List α) (y:α) (s:σ),L=q++y::r->bL r (q.length+1) B K s=bif r.all g&&gZ p (y::r)then K s else a:=by
  intro r;induction r with
  |nil=>intro q y s _;rfl
  |cons x r d=>
   intro q y s b;simp only[bL];rw[c (q.length+1) x y r q s _ b rfl];have:=d (q++[y]) x s (by simpa using b);simp only[List.length_append,List.length_cons,List.length_nil]at this;rw[this];simp only[gZ,List.all_cons];cases g x<;>cases p y x<;>simp
 cases L with
 |nil=>rfl
 |cons y r=>
  simp only[bL];rw[e];have:=f r [] y s rfl;simp only[List.length_nil]at this;rw[this,List.all_cons];cases g y<;>simp
def zz{α d β:Type}{B:Int->α->(Unit->Option β)->Unit->Option β}{K:Unit->Option β}(e:α->d->Bool)(a:Option β){m:List d}(i:∀j x bb s,B j x bb s=aa (b4 m j) λy=>bif !(e x y)then a else bb s):
  ∀(l:List α),l.length=m.length->bL l 0 B K ()=bif (l.zip m).all (λp=>e p.1 p.2)then K ()else a:=by
 have n:∀(l:List α) (c b:List d),m=c++b->l.length=b.length->bL l c.length B K ()=bif (l.zip b).all (λp=>e p.1 p.2)then K ()else a:=by
  intro l;induction l with
  |nil=>intro c b _ g;rfl
  |cons x l k=>
   intro c b h f;cases b with
   |nil=>simp at f
   |cons y b=>
    simp only[bL,i,h,g9,aU];have:=k (c++[y]) b (by simpa using h) (by simpa using f);simp only[List.length_append,List.length_cons,List.length_nil]at this;rw[this,List.zip_cons_cons,List.all_cons];cases e x y<;>rfl
 intro l g;exact n l [] m rfl g
def dk(n a hi:Int):Bool:=decide (a<=n)&&decide (n<=hi)
def ll(a:aO)(x:cV):Bool:=dk x.dy 1 99&&!decide (x.dy=a.Router)&&dk x.ig 1 1000&&dk x.dW 0 1000
def ht(n:Int):Bool:=decide (n=8)||(decide (n=16)||(decide (n=32)||decide (n=64)))
def gG(c:dA):Bool:=dk c.cg 0 7&&dk c.aP 1 256&&ht c.Length
def qE(l:uQ):Bool:=gZ (λa b=>decide (a.dy<b.dy)) l
def oS(l:sL):Bool:=gZ (λa b=>decide (a.cg<b.cg)) l
def dO(a:aO):Bool:=(dk a.Router 1 99&&dk a.Seq 1 1000000&&decide ((a.Links.length:Int)<=23))&&(a.Links.all (ll a)&&qE a.Links)&&(decide ((a.Claims.length:Int)<=8)&&(a.Claims.all gG&&oS a.Claims))
def AK{x y:Int}:decide (x<=y)=!decide (y<x):=by
 by_cases a:y<x
 .simp[a]
 .simp[a];omega
def q2(n a hi:Int):l1 n a hi=some (dk n a hi):=rfl
def wF(n:Int):pq n=some (ht n):=by
 unfold pq ht;cases decide (n=8)<;>cases decide (n=16)<;>cases decide (n=32)<;>cases decide (n=64)<;>rfl
def r4(a:aO):m1 a=some (dO a):=by
 unfold m1 dO;simp only[jn,q2,aU];by_cases h:(a.Links.length:Int)<=23
 .have d:¬(23:Int)<a.Links.length:=by omega
  by_cases k:(a.Claims.length:Int)<=8
  .have g:¬(8:Int)<a.Claims.length:=by omega
   simp only[h,d,k,g,decide_true,decide_false,Bool.and_true,Bool.true_and];cases dk a.Router 1 99<;>cases dk a.Seq 1 1000000<;>simp only[Bool.not_true,Bool.not_false,cond_true,cond_false,Bool.false_and,Bool.true_and,Bool.and_self]
   refine(EN (ll a) (λa b=>decide (a.dy<b.dy)) (some false) ?_ ?_ _).trans ?_
   .intro c bb s;simp only[aU,ll];cases dk c.dy 1 99<;>cases decide (c.dy=a.Router)<;>cases dk c.ig 1 1000<;>cases dk c.dW 0 1000<;>rfl
   .intro i c j m l s bb f e;have:decide ((0:Int)<(i:Int))=true:=by simp;omega
    simp only[aU,ll,p2 f e (by omega),AK,this];cases dk c.dy 1 99<;>cases decide (c.dy=a.Router)<;>cases dk c.ig 1 1000<;>cases dk c.dW 0 1000<;>cases decide (j.dy<c.dy)<;>rfl
   .refine Eq.trans (b:=bif a.Links.all (ll a)&&qE a.Links then(bif a.Claims.all gG&&oS a.Claims then some true else some false)else some false) ?_ ?_
    .unfold qE;congr 1;refine(EN gG (λa b=>decide (a.cg<b.cg)) (some false) ?_ ?_ _).trans ?_
     .intro c bb s;simp only[wF,aU,gG];cases dk c.cg 0 7<;>cases dk c.aP 1 256<;>cases ht c.Length<;>rfl
     .intro i c j m l s bb f e;have:decide ((0:Int)<(i:Int))=true:=by simp;omega
      simp only[wF,aU,gG,p2 f e (by omega),AK,this];cases dk c.cg 0 7<;>cases dk c.aP 1 256<;>cases ht c.Length<;>cases decide (j.cg<c.cg)<;>rfl
     .rfl
    .cases a.Links.all (ll a)&&qE a.Links<;>cases a.Claims.all gG&&oS a.Claims<;>rfl
  .have g:(8:Int)<a.Claims.length:=by omega
   simp only[h,d,k,g,decide_true,decide_false,Bool.and_false,Bool.false_and];cases dk a.Router 1 99<;>cases dk a.Seq 1 1000000<;>rfl
 .have d:(23:Int)<a.Links.length:=by omega
  simp only[h,d,decide_true,decide_false,Bool.and_false,Bool.false_and];cases dk a.Router 1 99<;>cases dk a.Seq 1 1000000<;>rfl
def Bk(d:bF):Bool:=gZ (λa b=>decide (a.Router<b.Router)) d.bf
def jh(d:bF):Int:=bif decide ((99:Int)<(d.bf.length:Int))then 3 else bif d.bf.all dO then(bif Bk d then 0 else 25)else 1
def Q5(l:pR)(f:aO->dK)(p:aO->Bool)(b:∀x,f x=some (p x)):th l f=some (l.any p):=by
 unfold th xg;obtain⟨k,i,d⟩:=vo (B:=λ(g:Int) (h:aO) (c:Unit->gA) (a:Unit)=>match a with|()=>aa (f h) λ(e:Bool)=>bif e then some (g:Int)else c ()) (K:=λ(a:Unit)=>match a with|()=>some (-1:Int)) p (λj x bb m=>by simp only[b,aU]) (λ_=>rfl) l 0 ();simp only[i,aU,d]
def vj(d:bF):lR d=some (jh d):=by
 unfold lR jh;by_cases b:(99:Int)<d.bf.length
 .simp[b]
 simp only[b,decide_false,cond_false];rw[Q5 d.bf _ (λa=>!dO a) (λc=>by simp only[xR,r4,aU]),aU];rw[<-List.not_all_eq_any_not];cases d.bf.all dO
 .rfl
 simp only[Bool.not_true,cond_false,cond_true];refine(ze (λa g:aO=>decide (a.Router<g.Router)) (some 25) ?_ ?_ _).trans ?_
 .intros;rfl
 .intro h c i k j s bb f e;have:decide ((0:Int)<(h:Int))=true:=by simp;omega
  simp only[jn,p2 f e (by omega),aU,AK,this];cases decide (i.Router<c.Router)<;>rfl
 .unfold Bk;cases gZ _ d.bf<;>rfl
def ta(l m:uQ):Bool:=decide ((l.length:Int)=m.length)&&(l.zip m).all (λa=>oc a.1 a.2)
def tb(l m:sL):Bool:=decide ((l.length:Int)=m.length)&&(l.zip m).all (λa=>od a.1 a.2)
def jT(a b:aO):Bool:=decide (a.Router=b.Router)&&(decide (a.Seq=b.Seq)&&((a.bw==b.bw)&&(ta a.Links b.Links&&tb a.Claims b.Claims)))
def Ph(l m:uQ):tF l m=some (ta l m):=by
 unfold tF ta;by_cases a:(l.length:Int)=m.length
 .simp only[a,decide_true,Bool.not_true,cond_false,Bool.true_and];rw[zz oc (some false) (λb c bb s=>rfl) l (by omega)];cases(l.zip m).all _<;>rfl
 .simp[a]
def Pj(l m:sL):tG l m=some (tb l m):=by
 unfold tG tb;by_cases a:(l.length:Int)=m.length
 .simp only[a,decide_true,Bool.not_true,cond_false,Bool.true_and];rw[zz od (some false) (λb c bb s=>rfl) l (by omega)];cases(l.zip m).all _<;>rfl
 .simp[a]
def vW(a b:aO):n2 a b=some (jT a b):=by
 unfold n2 jT;simp only[Ph,Pj,aU];cases decide (a.Router=b.Router)<;>cases decide (a.Seq=b.Seq)<;>cases(a.bw==b.bw)<;>cases ta a.Links b.Links<;>cases tb a.Claims b.Claims<;>rfl
def oK(a b:bF):Bool:=decide ((a.bf.length:Int)=b.bf.length)&&(a.bf.zip b.bf).all (λc=>jT c.1 c.2)
def Nj(a b:bF):rD a b=some (oK a b):=by
 unfold rD xc oK;by_cases c:(a.bf.length:Int)=b.bf.length
 .simp only[c,decide_true,Bool.not_true,cond_false,Bool.true_and];rw[zz (m:=b.bf) jT (some false) (λd e bb s=>by simp only[vW,aU]) a.bf (by omega)];cases(a.bf.zip b.bf).all _<;>rfl
 .simp[c,aU]
def km:aO:=aO.mk 0 0 false [] []
def fQ(d:bF)(r:Int):aO×Bool:=match d.bf.find? (λa=>decide (a.Router=r))with|some a=>(a,true)|none=>(km,false)
def sD(a:aO):Prop:=a.Links.length<=100000/\a.Claims.length<=100000
def lJ(d:bF):Prop:=d.bf.length<=100000/\∀a∈d.bf,sD a
def FO{l:uQ}(h:l.length<=100000):qU l=some l:=by
 unfold qU ts;rw[ga (by simp;omega)];rfl
def wm{l:sL}(h:l.length<=100000):o9 l=some l:=by
 unfold o9 tr;rw[ga (by simp;omega)];rfl
def y1{a:aO}(h:sD a):mR a=some a:=by
 unfold mR;rw[FO h.1,aU,wm h.2,aU]
def vq{d:bF}(h:lJ d)(r:Int):mW d r=some (fQ d r):=by
 unfold mW;rw[u1 (λa:aO=>decide (a.Router=r)) (λa=>aa (mR a) λ(c:aO)=>some (c,true)) (λe f bb s=>rfl)];unfold fQ;cases b:d.bf.find? (λa=>decide (a.Router=r))with
 |none=>rfl
 |some a=>simp only[y1 (h.2 a (List.mem_of_find?_eq_some b)),aU]
end
section
def KH{t:bH}(h:e7 t):Ok (uf t) (λp=>ht p.1=true/\e7 p.2):=by
 unfold uf;refine Ok.aa (vT h (by decide) (by decide)) λp a=>Ok.s ⟨?_,a.2⟩;have:=a.1;simp only[List.mem_cons,List.not_mem_nil,or_false]at this;show ht p.1=true;simp only[ht,Bool.or_eq_true,decide_eq_true_eq];omega
end
section
structure dS(d:bF):Prop where
 n:d.bf.length<=99
 ok:∀a∈d.bf,dO a=true
 gi:d.bf.Pairwise (λa b=>a.Router<b.Router)
def kC{d:bF}:jh d=0↔dS d:=by
 unfold jh Bk;constructor
 .intro b;by_cases e:(99:Int)<d.bf.length
  .simp[e]at b
  cases c:d.bf.all dO
  .simp[e,c]at b
  cases g:gZ (λa f:aO=>decide (a.Router<f.Router)) d.bf
  .simp[e,c,g]at b
  refine⟨by omega,λa h=>List.all_eq_true.1 c a h,?_⟩;have:=rO (p:=λa f:aO=>decide (a.Router<f.Router)) (λa f i e c=>by simp at e c ⊢;omega) g;exact this.imp (λb=>by simpa using b)
 .intro b;have e:¬(99:Int)<d.bf.length:=by have:=b.n;omega
  have c:d.bf.all dO=true:=List.all_eq_true.2 b.ok;have g:gZ (λa f:aO=>decide (a.Router<f.Router)) d.bf=true:=pM (b.gi.imp λb=>by simpa using b);simp[e,c,g]
structure qi(a:aO):Prop where
 r:1<=a.Router/\a.Router<=99
 n:a.Links.length<=23
 xK:a.Claims.length<=8
 g:∀x∈a.Links,(1<=x.dy/\x.dy<=99)/\x.dy≠a.Router/\(1<=x.ig/\x.ig<=1000)/\0<=x.dW/\x.dW<=1000
 gi:a.Links.Pairwise (λx y=>x.dy<y.dy)
variable {a:aO}
def ml(h:dO a=true):qi a:=by
 simp only[dO,Bool.and_eq_true,decide_eq_true_eq,dk]at h;obtain⟨⟨⟨⟨b,_⟩,c⟩,g,e⟩,i,_⟩:=h;refine⟨b,by omega,by omega,λx f=>?_,?_⟩
 .have:=List.all_eq_true.1 g x f;simp only[ll,dk,Bool.and_eq_true,decide_eq_true_eq,Bool.not_eq_true',decide_eq_false_iff_not]at this;exact⟨this.1.1.1,this.1.1.2,this.1.2,this.2⟩
 .have:=rO (p:=λa d:cV=>decide (a.dy<d.dy)) (λa d j b c=>by simp at b c ⊢;omega) e;exact this.imp (λh=>by simpa using h)
def dS.sm{d:bF}(h:dS d):lJ d:=⟨by have:=h.n;omega,λa q=>by have:=ml (h.ok a q);exact⟨by have:=this.n;omega,by have:=this.xK;omega⟩⟩
def zA{α:Type}{f:α->Int}:∀{l:List α},l.Pairwise (λa b=>f a<f b)->∀{a b:α},a∈l->b∈l->f a=f b->a=b
 |[],_,_,_,h,_,_=>by simp at h
 |x::r,c,a,b,k,g,he=>by
  rw[List.pairwise_cons]at c;rcases List.mem_cons.1 k with i|j
  .rcases List.mem_cons.1 g with e|d
   .rw[i,e]
   .have:=c.1 b d;rw[i]at he;omega
  .rcases List.mem_cons.1 g with e|d
   .have:=c.1 a j;rw[e]at he;omega
   .exact zA c.2 j d he
def dS.uniq{d:bF}(h:dS d){b:aO}(u:a∈d.bf)(q:b∈d.bf)(C:a.Router=b.Router):a=b:=zA h.gi u q C
variable {x:cV}
def qi.uniq(h:qi a){y:cV}(q:x∈a.Links)(u:y∈a.Links)(C:x.dy=y.dy):x=y:=zA h.gi q u C
def l2(d:bF)(r:Int):(∃a∈d.bf,a.Router=r/\fQ d r=(a,true))\/((∀a∈d.bf,a.Router≠r)/\fQ d r=(km,false)):=by
 unfold fQ;cases b:d.bf.find? (λa=>decide (a.Router=r))with
 |some a=>exact .inl ⟨a,List.mem_of_find?_eq_some b,by simpa using List.find?_some b,rfl⟩
 |none=>exact .inr ⟨λa c=>by simpa using List.find?_eq_none.1 b a c,rfl⟩
def Nk{d:bF}(h:dS d)(b:a∈d.bf):fQ d a.Router=(a,true):=by
 rcases l2 d a.Router with⟨i,e,g,c⟩|⟨f,_⟩
 .rw[c,h.uniq e b g]
 .exact absurd rfl (f a b)
def HA:cV:=cV.mk 0 0 0
def sF(a:aO)(n:Int):cV×Bool:=match a.Links.find? (λx=>decide (x.dy=n))with|some x=>(x,true)|none=>(HA,false)
def JR(a:aO)(n:Int):(∃x∈a.Links,x.dy=n/\sF a n=(x,true))\/((∀x∈a.Links,x.dy≠n)/\sF a n=(HA,false)):=by
 unfold sF;cases b:a.Links.find? (λx=>decide (x.dy=n))with
 |some x=>exact .inl ⟨x,List.mem_of_find?_eq_some b,by simpa using List.find?_some b,rfl⟩
 |none=>exact .inr ⟨λx c=>by simpa using List.find?_eq_none.1 b x c,rfl⟩
def L5(a:aO)(n:Int):ug a n=some (sF a n):=by
 unfold ug;rw[u1 (λx:cV=>decide (x.dy=n)) (λx=>some (x,true)) (λb x bb s=>rfl)];unfold sF;cases a.Links.find? _<;>rfl
def mE(d:bF)(a b:Int):Prop:=∃x∈d.bf,∃c∈d.bf,x.Router=a/\c.Router=b/\(∃e∈x.Links,e.dy=b)/\∃f∈c.Links,f.dy=a
def ua(x:aO)(p:cV)(y:aO)(q:cV):aR:=aR.mk x.Router y.Router p.ig q.ig (if q.dW<p.dW then q.dW else p.dW)
def Il(x y:aO)(l:aR):Prop:=∃a∈x.Links,∃b∈y.Links,x.Router<y.Router/\a.dy=y.Router/\b.dy=x.Router/\l=ua x a y b
def mH(d:bF)(x:aO)(p:cV)(l:aR):Prop:=∃a∈d.bf,∃b∈a.Links,x.Router<a.Router/\p.dy=a.Router/\b.dy=x.Router/\l=ua x p a b
inductive Rd(d:bF)(de:Int):Int->Prop
 |refl:Rd d de de
 |step {a b:Int} (h:Rd d de a) (ar:mE d a b):Rd d de b
structure sy(d:bF)(de:Int)(T:aK):Prop where
 Hg:T.aL.Pairwise (λa b=>a.aP<b.aP)
 Bl:∀r,r∈T.aL↔∃a∈d.bf,Rd d de a.Router/\r=bk.mk a.Router a.bw
 Hh:T.Links.Pairwise (λa b=>eG a b=true)
 Hi:∀l,l∈T.Links↔∃x∈d.bf,Rd d de x.Router/\∃y∈d.bf,Il x y l
def uW{α:Type}{r:α->α->Prop}(hi:∀a,¬r a a)(j:∀a b c,r a b->r b c->r a c):∀{l m:List α},l.Pairwise r->m.Pairwise r->(∀x,x∈l↔x∈m)->l=m
 |[],[],_,_,_=>rfl
 |[],y::m,_,_,h=>by have:=(h y).2 (by simp);simp at this
 |x::l,[],_,_,h=>by have:=(h x).1 (by simp);simp at this
 |x::l,y::m,h1,f,h=>by
  rw[List.pairwise_cons]at h1 f;have k:x=y:=by
   rcases List.mem_cons.1 ((h x).1 (by simp))with i|i
   .exact i
   rcases List.mem_cons.1 ((h y).2 (by simp))with g|g
   .exact g.symm
   .exact absurd (j _ _ _ (h1.1 y g) (f.1 x i)) (hi x)
  subst k;congr 1;refine uW hi j h1.2 f.2 λn=>?_;have:=h n;simp only[List.mem_cons]at this;constructor
  .intro e;rcases this.1 (.inr e)with d|d
   .subst d;exact absurd (h1.1 _ e) (hi _)
   .exact d
  .intro e;rcases this.2 (.inr e)with d|d
   .subst d;exact absurd (f.1 _ e) (hi _)
   .exact d
variable {de:Int}
def sy.unique{d:bF}{T C:aK}(u:sy d de T)(q:sy d de C):T=C:=by
 obtain⟨Q,Y⟩:=T;obtain⟨S,X⟩:=C;have Z:Q=S:=uW (r:=λa b:bk=>a.aP<b.aP) (λa h=>by omega) (λa b c h O=>by omega) u.Hg q.Hg λx=>(u.Bl x).trans (q.Bl x).symm;have ab:Y=X:=uW (r:=λa b:aR=>eG a b=true) (λa h=>by simp[eG]at h) (λa b c h O=>y0 a b c h O) u.Hh q.Hh λx=>(u.Hi x).trans (q.Hi x).symm;rw[Z,ab]
def wS:aK:=aK.mk [] []
def lp(d:bF)(de:Int)(T:aK):Prop:=(¬((∃a∈d.bf,a.Router=de)/\dS d)/\T=wS)\/(((∃a∈d.bf,a.Router=de)/\dS d)/\∃b,sy d de b/\T=if gp b=0 then b else wS)
def lp.unique{d:bF}{de:Int}{T C:aK}(S:lp d de T)(O:lp d de C):T=C:=by
 rcases S with⟨a,b⟩|⟨a,X,b,c⟩<;>rcases O with⟨u,q⟩|⟨u,Y,q,Q⟩
 .rw[b,q]
 .exact absurd u a
 .exact absurd a u
 .rw[c,Q,b.unique q]
def yc(d:bF):bR:=d.bf.map (·.Router)
def Nl{d:bF}(h:dS d):(yc d).length<=99:=by have:=h.n;simpa [yc]using this
def dS.key{d:bF}(h:dS d){r:Int}(q:a∈d.bf)(u:a.Router=r):fQ d r=(a,true):=by subst u;exact Nk h q
def L6{d:bF}{b:Int}{S:Int->Prop}(h:Rd d de b)(f:S de)(a:∀x,S x->∀y,mE d x y->S y):S b:=by
 induction h with
 |refl=>exact f
 |step _ e c=>exact a _ c _ e
def KI{l:bR}{x:Int}(h:l.Nodup)(c:x∉l):(l++[x]).Nodup:=by
 rw[List.nodup_append];refine⟨h,by simp,λa d f b=>?_⟩;simp at b;subst b;exact λe=>c (e▸d)
variable {α:Type}{l:List α}
def Pk{r:α->α->Prop}{x:α}(h:l.Pairwise r)(c:∀y∈l,r y x):(l++[x]).Pairwise r:=by
 rw[List.pairwise_append];exact⟨h,by simp,λa d e b=>by simp at b;subst b;exact c a d⟩
def Nn{a b:aR}:eG a b=true↔a.A<b.A\/a.A=b.A/\a.B<b.B:=by simp[eG]
def EO{α:Type}{d:α->α->Int}(j:∀a b c,d a b<0->d b c<0->d a c<0){x:α}:∀{l:List α},(l.Pairwise λa b=>d a b<0)->(∀y∈l,d x y<0\/d y x<0)->(mI d x l).Pairwise λa b=>d a b<0
 |[],_,_=>by simp[mI]
 |y::r,h,k=>by
  rw[List.pairwise_cons]at h;simp only[mI];split
  .rename_i g;rw[List.pairwise_cons];refine⟨λf e=>?_,EO j h.2 λf e=>k f (by simp[e])⟩;rcases List.mem_cons.1 ((yV d x r).mem_iff.1 e)with rfl|e
   .exact g
   .exact h.1 f e
  .rename_i g;have m:d x y<0:=by rcases k y (by simp)with i|i;exact i;exact absurd i g
   rw[List.pairwise_cons];refine⟨λf e=>?_,List.pairwise_cons.2 h⟩;rcases List.mem_cons.1 e with rfl|e
   .exact m
   .exact j _ _ _ m (h.1 f e)
def Da{α:Type}{d:α->α->Int}(e:∀a b c,d a b<0->d b c<0->d a c<0):∀{l:List α},(l.Pairwise λa b=>d a b<0\/d b a<0)->(jN d l).Pairwise λa b=>d a b<0
 |[],_=>by simp[jN]
 |x::r,h=>by
  rw[List.pairwise_cons]at h;exact EO e (Da e h.2) λg f=>h.1 g ((rR d r).mem_iff.1 f)
def EP{α:Type}{c:α->α->Int}:∀{l:List α},(l.Pairwise λa b=>c a b<0)->mJ c l=true
 |[],_=>rfl
 |[x],_=>rfl
 |a::b::r,h=>by
  rw[List.pairwise_cons]at h;simp only[mJ,Bool.and_eq_true,decide_eq_true_eq];exact⟨h.1 b (by simp),EP h.2⟩
def zB{ks:List (α->Int)}(h:l.Pairwise λa b=>dQ ks a b<0\/dQ ks b a<0)(d:l.length<=1000000):Ok (hK (dQ ks) l) (λm=>m.Perm l/\m.Pairwise λa b=>dQ ks a b<0):=by
 have c:=Da (oa ks) h;refine⟨jN (dQ ks) l,?_,rR _ _,c⟩;unfold hK;have:(decide (l.length<4611686018427387904))=true:=by simp;omega
 rw[EP c,this];rfl
def Bm(a b:bk):dQ [λx:bk=>x.aP] a b<0↔a.aP<b.aP:=by
 rw[pT];simp[dQ]
def Bn(a b:aR):dQ [λx:aR=>x.A,λx:aR=>x.B] a b<0↔eG a b=true:=by
 rw[pT,pT];simp[dQ,eG]
def QW{d:bF}{e:aO}(h:¬mE d e.Router x.dy)(i:e∈d.bf)(b:x∈e.Links)(l:aR):¬mH d e x l:=by
 rintro⟨k,c,j,a,_,f,g,_⟩;exact h ⟨e,i,k,c,rfl,f.symm,⟨x,b,rfl⟩,j,a,g⟩
def No{d:bF}(a6:lJ d)(de:Int):Ok (lT d de) (lp d de):=by
 unfold lT;rw[vq a6,aU];refine atD (λa8:Bool=>a8=true↔¬((∃a∈d.bf,a.Router=de)/\dS d)) (λa8 aG=>?_) λbE aj=>?_
 .refine Ok.cs (λb=>Ok.s (.inl ⟨aG.1 b,rfl⟩)) λb=>?_;have h:(∃a∈d.bf,a.Router=de)/\dS d:=Classical.byContradiction λB=>by rw[aG.2 B]at b;cases b
  obtain⟨⟨bl,av,Q⟩,D⟩:=id h;have bY:de∈yc d:=List.mem_map.2 ⟨bl,av,Q⟩;have bi:=Nl D;rw[D.key av Q]
  refine atT (λs:pR×pK×jC×List (Int×Bool)=>∃e:pR,(∀a∈e++s.1,a∈d.bf/\Rd d de a.Router)/\((e++s.1).map (·.Router)).Nodup/\
   (∀r,(aB s.2.2.2 r).getD false=true↔r∈(e++s.1).map (·.Router))/\de∈(e++s.1).map (·.Router)/\(∀a∈e,∀g,mE d a.Router g->g∈(e++s.1).map (·.Router))/\
   s.2.1=e.map (λa=>bk.mk a.Router a.bw)/\(∀l,l∈s.2.2.1↔∃x∈e,∃q∈x.Links,mH d x q l)/\s.2.2.1.Pairwise (λa g=>¬(a.A=g.A/\a.B=g.B))/\s.2.2.1.length<=23*e.length)
   (λs=>100-s.2.1.length) ⟨[],by simp;exact⟨av,by rw[Q];exact .refl⟩,by simp,λr=>?_,by simp[Q],by simp,rfl,by simp,by simp,by simp⟩ (by simp) ?_
  .simp only[List.nil_append,List.map_cons,List.map_nil,List.mem_singleton];rw[gO];simp only[aB];split
   .rename_i c;simp[c,Q]
   .rename_i c;simp[Q,c]
  rintro⟨aw,a7,bD,b2⟩ bb ⟨e,y,N,ao,Z,Y,U,tw,ar,bo⟩ aH;simp only at y N ao Z Y U tw ar bo aH
  have aM:∀{l:pR},(∀a∈l,a∈d.bf)->(l.map (·.Router)).Nodup->l.length<=99:=λ{l} b B=>by
   have:=Nat.le_trans (kj B λx C=>by obtain⟨a,f,rfl⟩:=List.mem_map.1 C;exact List.mem_map.2 ⟨a,b a f,rfl⟩:_<=(yc d).length) bi;simpa using this
  have bu:=aM (λa f=>(y a f).1) N;simp only[List.length_append]at bu;have b1:a7.length=e.length:=by rw[U];simp
  refine Ok.cs (λah=>?_) λah=>?_
  .cases aw with
   |nil=>simp at ah
   |cons c u=>
   have V:=y c (by simp);have j8:=ml (D.ok c V.1);have bz:c.Router∉e.map (·.Router):=by
    rw[List.map_append,List.nodup_append]at N;intro b;exact N.2.2 _ b c.Router (by simp) rfl
   have a9:b4 (c::u) (0:Int)=some c:=by simp[b4]
   rw[a9,aU,ga (by simp;omega),aU]
   refine atB (λq (s:pR×jC×List (Int×Bool))=>∃m,s.1=(c::u)++m/\(∀a∈e++s.1,a∈d.bf/\Rd d de a.Router)/\((e++s.1).map (·.Router)).Nodup/\
    (∀r,(aB s.2.2 r).getD false=true↔r∈(e++s.1).map (·.Router))/\(∀x∈q,mE d c.Router x.dy->x.dy∈(e++s.1).map (·.Router))/\
    (∀l,l∈s.2.1↔(∃x∈e,∃j∈x.Links,mH d x j l)\/∃j∈q,mH d c j l)/\s.2.1.Pairwise (λa g=>¬(a.A=g.A/\a.B=g.B))/\s.2.1.length<=23*e.length+q.length)
    ?_ _ ⟨[],by simp,y,N,ao,by simp,λl=>by rw[tw];simp,ar,by simp;omega⟩ ?_
   .rintro q x r ⟨P,a1,a3⟩ bM ae ⟨m,I,E,G,A,L,F,M,aC⟩ bj;simp only at I E G A L F M aC;have a0:x∈c.Links:=by rw[ae];simp
    have bX:q.length+1+r.length=c.Links.length:=by rw[ae];simp;omega
    have b0:=j8.n;have bA:=aM (λa f=>(E a f).1) G;simp only[List.length_append]at bA
    refine atD (λs:pR×List (Int×Bool)×jC=>∃m,s.1=(c::u)++m/\(∀a∈e++s.1,a∈d.bf/\Rd d de a.Router)/\((e++s.1).map (·.Router)).Nodup/\
     (∀r,(aB s.2.1 r).getD false=true↔r∈(e++s.1).map (·.Router))/\(∀i∈q++[x],mE d c.Router i.dy->i.dy∈(e++s.1).map (·.Router))/\
     (∀l,l∈s.2.2↔(∃x∈e,∃j∈x.Links,mH d x j l)\/∃j∈q++[x],mH d c j l)/\s.2.2.Pairwise (λa g=>¬(a.A=g.A/\a.B=g.B))/\s.2.2.length<=23*e.length+(q++[x]).length)
     (λs af=>by obtain⟨_,_,_⟩:=s;exact bj _ af) λba an=>?_
    rw[vq a6,aU,L5,aU]
    have aX:¬mE d c.Router x.dy->Ok (ba (P,a3,a1)) (lp d de):=λaJ=>by
     refine an _ ⟨m,I,E,G,A,λi p t=>?_,λl=>?_,M,by simp;omega⟩
     .rcases List.mem_append.1 p with p|p
      .exact L i p t
      .simp at p;subst p;exact absurd t aJ
     .rw[F];constructor
      .rintro(b|⟨j,o,b⟩)
       .exact .inl b
       .exact .inr ⟨j,by simp[o],b⟩
      .rintro(b|⟨j,o,b⟩)
       .exact .inl b
       .rcases List.mem_append.1 o with o|o
        .exact .inr ⟨j,o,b⟩
        .simp at o;subst o;exact absurd b (QW aJ V.1 a0 l)
    rcases l2 d x.dy with⟨i,p,aW,H⟩|⟨B,H⟩
    .rw[H];rcases JR i c.Router with⟨j,o,a5,z⟩|⟨B,z⟩
     .rw[z];simp only[Bool.not_true,Bool.or_self,cond_false];have hB:mE d c.Router x.dy:=⟨c,V.1,i,p,rfl,aW,⟨x,a0,rfl⟩,j,o,a5⟩
      have aq:∀l,mH d c x l↔(c.Router<i.Router/\l=ua c x i j):=λl=>by
       constructor
       .rintro⟨J,K,v,k,am,bh,bV,rfl⟩;have bC:=D.uniq K p (by omega);subst bC;rw[(ml (D.ok _ K)).uniq k o (by omega)];exact⟨am,rfl⟩
       .rintro⟨am,rfl⟩;exact⟨i,p,j,o,am,by omega,a5,rfl⟩
      refine atD (λab:jC=>(∀l,l∈ab↔(∃x∈e,∃j∈x.Links,mH d x j l)\/∃j∈q++[x],mH d c j l)/\ab.Pairwise (λa g=>¬(a.A=g.A/\a.B=g.B))/\ab.length<=23*e.length+(q++[x]).length) (λab T=>?_) λbT aT=>?_
      .have ax:i.Router=x.dy:=aW;refine Ok.cs (λh=>?_) λh=>?_
       .have h:i.Router∉(e++P).map (·.Router):=λb=>by
         have:=(A i.Router).2 b;rw[this]at h;simp at h
        rw[ga (by simp;omega),aU];have au:(e++(P++[i])).map (·.Router)=(e++P).map (·.Router)++[i.Router]:=by simp
        refine an _ ⟨m++[i],by simp only[I];simp,λa f=>?_,?_,λr=>?_,λO n t=>?_,T.1,T.2.1,T.2.2⟩
        .simp only at f;rw[<-List.append_assoc]at f;rcases List.mem_append.1 f with f|f
         .exact E a f
         .simp at f;subst f;exact⟨p,by rw[ax];exact .step V.2 hB⟩
        .simp only[au];exact KI G h
        .simp only[au];rw[gO,List.mem_append];split
         .rename_i c;simp[c]
         .rename_i c;rw[A];simp[c]
        .simp only[au];rcases List.mem_append.1 n with n|n
         .exact List.mem_append_left _ (L O n t)
         .simp at n;subst n;rw[ax];simp
       .have h:i.Router∈(e++P).map (·.Router):=(A i.Router).1 (by simpa using h);refine an _ ⟨m,I,E,G,A,λO n t=>?_,T.1,T.2.1,T.2.2⟩;rcases List.mem_append.1 n with n|n
        .exact L O n t
        .simp at n;subst n;rw[<-ax];exact h
      .refine Ok.cs (λh=>?_) λh=>?_
       .have h:c.Router<i.Router:=by simpa using h
        rw[ga (by simp;omega),aU];refine aT _ ⟨λl=>?_,Pk M λl t=>?_,by simp;omega⟩
        .rw[List.mem_append,F];constructor
         .rintro((b|⟨v,k,b⟩)|b)
          .exact .inl b
          .exact .inr ⟨v,by simp[k],b⟩
          .exact .inr ⟨x,by simp,(aq l).2 ⟨h,List.mem_singleton.1 b⟩⟩
         .rintro(b|⟨v,k,b⟩)
          .exact .inl (.inl b)
          .rcases List.mem_append.1 k with k|k
           .exact .inl (.inr ⟨v,k,b⟩)
           .simp at k;subst k;exact .inr (List.mem_singleton.2 ((aq l).1 b).2)
        .rcases(F l).1 t with⟨O,n,_,_,J,_,v,_,_,_,_,rfl⟩|⟨O,n,J,_,v,_,_,bh,_,rfl⟩
         .intro b;exact bz (List.mem_map.2 ⟨O,n,b.1⟩)
         .intro b;have bK:J.Router=i.Router:=b.2;have:=j8.gi;rw[ae,List.pairwise_append]at this;have:=this.2.2 O n x (by simp);omega
       .have h:¬c.Router<i.Router:=by simpa using h
        refine aT _ ⟨λl=>?_,M,by simp;omega⟩;rw[F];constructor
        .rintro(b|⟨v,k,b⟩)
         .exact .inl b
         .exact .inr ⟨v,by simp[k],b⟩
        .rintro(b|⟨v,k,b⟩)
         .exact .inl b
         .rcases List.mem_append.1 k with k|k
          .exact .inr ⟨v,k,b⟩
          .simp at k;subst k;exact absurd ((aq l).1 b).1 h
     .rw[z];simp only[Bool.not_true,Bool.not_false,Bool.or_true,cond_true];refine aX ?_;rintro⟨R,w,J,K,aD,aE,_,v,k,X⟩;rw[D.uniq K p (by omega)]at k;exact B v k X
    .rw[H];simp only[Bool.not_false,Bool.true_or,cond_true];refine aX ?_;rintro⟨R,w,J,K,aD,aE,_⟩;exact B J K aE
   .rintro⟨P,a1,a3⟩ ⟨m,I,E,G,A,L,F,M,aC⟩;simp only at I E G A L F M aC;subst I;have af:gT (c::u++m) (1:Int) ((c::u++m).length:Int)=some (u++m):=by
     unfold gT;rw[if_pos ⟨by omega,by simp;omega,by omega⟩,List.take_of_length_le (by omega)];rfl
    simp only[af,aU];have br:(e++[c])++(u++m)=e++(c::u++m):=by simp
    refine aH _ ⟨e++[c],?_⟩ ?_
    .simp only[br];refine⟨E,G,A,?_,λa f g t=>?_,by simp[U],λl=>?_,M,by have:=j8.n;simp;omega⟩
     .have:(e++(c::u++m)).map (·.Router)=(e++(c::u)).map (·.Router)++m.map (·.Router):=by simp
      rw[this];exact List.mem_append_left _ Z
     .rcases List.mem_append.1 f with f|f
      .have:(e++(c::u++m)).map (·.Router)=(e++(c::u)).map (·.Router)++m.map (·.Router):=by simp
       rw[this];exact List.mem_append_left _ (Y a f g t)
      .simp at f;subst f
       obtain⟨R,w,J,K,aD,aE,⟨bq,a4,X⟩,_⟩:=id t;rw[D.uniq w V.1 aD]at a4;have:=L bq a4 (by rw[X];exact t)
       rwa [X]at this
     .rw[F];constructor
      .rintro(⟨R,w,b⟩|b)
       .exact⟨R,by simp[w],b⟩
       .exact⟨c,by simp,b⟩
      .rintro⟨R,w,b⟩;rcases List.mem_append.1 w with w|w
       .exact .inl ⟨R,w,b⟩
       .simp at w;subst w;exact .inr b
    .simp only[List.length_append,List.length_singleton];omega
  .have bt:aw=[]:=by cases aw with|nil=>rfl|cons a g=>simp at ah
   subst bt;simp only[List.append_nil]at y N ao Z Y
   have aQ:∀x∈d.bf,(x∈e↔Rd d de x.Router):=λx C=>by
    refine⟨λb=>(y x b).2,λb=>?_⟩
    have:=L6 (S:=λr=>r∈e.map (·.Router)) b Z λr z g t=>by
     obtain⟨a,f,rfl⟩:=List.mem_map.1 z;exact Y a f g t
    obtain⟨a,f,W⟩:=List.mem_map.1 this
    rwa [<-D.uniq (y a f).1 C W]
   have bs:a7.Pairwise λa g=>dQ [λx:bk=>x.aP] a g<0\/dQ [λx:bk=>x.aP] g a<0:=by
    rw[U,List.pairwise_map];have:=N;rw[List.nodup_iff_pairwise_ne,List.pairwise_map]at this;refine this.imp λ{a g} b=>?_;rw[Bm,Bm];show a.Router<g.Router\/g.Router<a.Router;omega
   have bv:bD.Pairwise λa g=>dQ [λx:aR=>x.A,λx:aR=>x.B] a g<0\/dQ [λx:aR=>x.A,λx:aR=>x.B] g a<0:=by
    refine ar.imp λ{a g} b=>?_;rw[Bn,Bn];simp only[eG,Bool.or_eq_true,Bool.and_eq_true,decide_eq_true_eq]
    omega
   refine Ok.aa (zB bs (by omega)) λbp aF=>?_;refine Ok.aa (zB bv (by omega)) λbB aI=>?_;rw[pU,aU];have aV:sy d de (aK.mk bp bB):=by
    refine⟨aF.2.imp λb=>(Bm _ _).1 b,λr=>?_,aI.2.imp λb=>(Bn _ _).1 b,λl=>?_⟩
    .simp only[aF.1.mem_iff,U,List.mem_map];constructor
     .rintro⟨a,f,rfl⟩;exact⟨a,(y a f).1,(y a f).2,rfl⟩
     .rintro⟨a,f,z,rfl⟩;exact⟨a,(aQ a f).2 z,rfl⟩
    .simp only[aI.1.mem_iff,tw];constructor
     .rintro⟨x,C,q,ai,i,p,j,o,b⟩;exact⟨x,(y x C).1,(y x C).2,i,p,q,ai,j,o,b⟩
     .rintro⟨x,C,z,i,p,q,ai,j,o,b⟩;exact⟨x,(aQ x C).2 z,q,ai,i,p,j,o,b⟩
   refine Ok.cs (λh=>Ok.s (.inr ⟨‹_›,_,aV,?_⟩)) λh=>Ok.s (.inr ⟨‹_›,_,aV,?_⟩)
   .rw[if_neg (by simpa using h)];rfl
   .rw[if_pos (by simpa using h)]
 .rw[vj,aU];refine Ok.cs (λh=>?_) λh=>?_
  .refine aj _ ⟨λ_ ak=>?_,λ_=>rfl⟩;have:=kC.2 ak.2;simp[this]at h
  .have h:dS d:=kC.1 (by simpa using h);rcases l2 d de with⟨a,f,W,H⟩|⟨B,H⟩
   .rw[H];exact aj _ ⟨λb=>by simp at b,λb=>absurd ⟨⟨a,f,W⟩,h⟩ b⟩
   .rw[H];refine aj _ ⟨λ_ ak=>?_,λ_=>rfl⟩;obtain⟨⟨a,f,W⟩,_⟩:=ak;exact B a f W
end
section
def nE:bR->Nat:=List.foldl (λa b=>a*256+b.toNat) 0
def zC(l:bR)(b:Int):nE (l++[b])=nE l*256+b.toNat:=by simp[nE]
variable {α:Type}
def Np:∀{l:List α},l≠[]->∃i b,l=i++[b]:=λ{l} a=>⟨l.dropLast,l.getLast a,(List.dropLast_concat_getLast a).symm⟩
structure iE(D:List Int)(B V:Nat):Prop where
 tf:∀b∈D,0<=b/\b<256
 le:B<=8*D.length
 hi:8*D.length<=B+8
 num:nE D=V*2 ^ (8*D.length-B)
def iE.nil:iE [] 0 0:=⟨by simp,by simp,by simp,by simp[nE]⟩
variable {B V:Nat}
def iE.more{D:bR}(h:iE D B V)(C:8*D.length=B):iE (D++[0]) B V:=by
 refine⟨?_,by simp;omega,by simp;omega,?_⟩
 .intro b q;rcases List.mem_append.1 q with q|q
  .exact h.tf b q
  .simp at q;omega
 .rw[zC,h.num];have e:8*(D++[(0:Int)]).length-B=8:=by simp;omega
  rw[e];have u:8*D.length-B=0:=by omega
  rw[u];simp
def iE.last{D:bR}{b:Int}(h:iE (D++[b]) B V)(S:B<8*(D.length+1)):0<=b/\b<256/\b.toNat%2 ^ (8*(D.length+1)-B)=0:=by
 have C:=h.tf b (by simp);refine⟨C.1,C.2,?_⟩;have q:=h.num;have O:=h.hi;simp only[List.length_append,List.length_cons,List.length_nil,Nat.zero_add]at q O;rw[zC]at q;generalize X:8*(D.length+1)-B=k at q ⊢;have Q:(256:Nat)=2 ^ k*2 ^ (8-k):=by rw[<-Nat.pow_add,show k+(8-k)=8 by omega]
 have u:(nE D*256+b.toNat)%2 ^ k=0:=by rw[q];exact Nat.mul_mod_left _ _
 rw[Q,<-Nat.mul_assoc,Nat.mul_right_comm,Nat.mul_add_mod']at u;exact u
variable {k:Nat}
def iE.push{D:bR}{b:Int}{x:Nat}(h:iE (D++[b]) B V)(an:1<=k)(aj:B+k<=8*(D.length+1))(Y:x<2 ^ k):
  iE (D++[b+(x*2 ^ (8*(D.length+1)-B-k):Nat)]) (B+k) (V*2 ^ k+x)/\b.toNat+x*2 ^ (8*(D.length+1)-B-k)<256/\x*2 ^ (8*(D.length+1)-B-k)<2 ^ (8*(D.length+1)-B):=by
 obtain⟨am,ak,C⟩:=h.last (by omega);have ab:=h.hi;simp only[List.length_append,List.length_cons,List.length_nil,Nat.zero_add]at ab;generalize ah:8*(D.length+1)-B=f at C ⊢;have Z:x*2 ^ (f-k)<2 ^ f:=by
  have:2 ^ f=2 ^ k*2 ^ (f-k):=by rw[<-Nat.pow_add,show k+(f-k)=f by omega]
  rw[this];exact Nat.mul_lt_mul_of_pos_right Y (Nat.two_pow_pos _)
 have ae:b.toNat+x*2 ^ (f-k)<256:=by
  have Q:(256:Nat)=2 ^ f*2 ^ (8-f):=by rw[<-Nat.pow_add,show f+(8-f)=8 by omega]
  obtain⟨S,X⟩:=Nat.dvd_of_mod_eq_zero C;have O:b.toNat<2 ^ f*2 ^ (8-f):=by rw[<-Q];omega
  rw[X]at O ⊢;have af:S<2 ^ (8-f):=Nat.lt_of_mul_lt_mul_left O;rw[Q];have ai:2 ^ f*(S+1)<=2 ^ f*2 ^ (8-f):=Nat.mul_le_mul_left _ af;rw[Nat.mul_add,Nat.mul_one]at ai;omega
 refine⟨⟨?_,by simp;omega,by simp;omega,?_⟩,ae,Z⟩
 .intro y q;rcases List.mem_append.1 q with q|q
  .exact h.tf y (by simp[q])
  .simp only[List.mem_singleton]at q;omega
 .have u:=h.num;simp only[List.length_append,List.length_cons,List.length_nil,Nat.zero_add]at u ⊢;rw[zC]at u ⊢;rw[ah]at u;rw[show 8*(D.length+1)-(B+k)=f-k by omega];have e:(b+(x*2 ^ (f-k):Nat)).toNat=b.toNat+x*2 ^ (f-k):=by omega
  rw[e,Nat.add_mul,Nat.mul_assoc,<-Nat.pow_add,show k+(f-k)=f by omega];omega
variable {b:Nat}
def Pm{y f:Nat}(a:b%2 ^ f=0)(c:y<2 ^ f):b ||| y=b+y:=by
 obtain⟨d,rfl⟩:=Nat.dvd_of_mod_eq_zero a;rw[Nat.mul_comm,<-Nat.shiftLeft_eq,Nat.shiftLeft_add_eq_or_of_lt c]
def FP(n:Int):IntKind.wrap .u8 n=n%256:=rfl
def Nq(n:Int):IntKind.wrap .u64 n=n%18446744073709551616:=rfl
def H7{n:Nat}(h:n<256):IntKind.wrap .u8 (n:Int)=n:=by rw[FP];omega
def o6{n:Nat}(h:n<18446744073709551616):IntKind.wrap .u64 (n:Int)=n:=by rw[Nq];omega
variable {a:Nat}
def Sl(d:a<256)(c:b<256):fh .or .u8 a b=((a ||| b:Nat):Int):=by
 show IntKind.wrap .u8 ((BitVec.ofNat 8 a ||| BitVec.ofNat 8 b).toNat:Int)=_;rw[BitVec.toNat_or,BitVec.toNat_ofNat,BitVec.toNat_ofNat,Nat.mod_eq_of_lt (show a<2 ^ 8 from d),Nat.mod_eq_of_lt (show b<2 ^ 8 from c)];exact H7 (Nat.or_lt_two_pow (n:=8) d c)
def QX(c:a<2 ^ 64)(d:b<2 ^ 64):fh .and .u64 a b=((a &&& b:Nat):Int):=by
 show IntKind.wrap .u64 ((BitVec.ofNat 64 a &&& BitVec.ofNat 64 b).toNat:Int)=_;rw[BitVec.toNat_and,BitVec.toNat_ofNat,BitVec.toNat_ofNat,Nat.mod_eq_of_lt c,Nat.mod_eq_of_lt d];exact o6 (Nat.lt_of_le_of_lt Nat.and_le_left c)
def Pn(c:a<2 ^ 64)(d:k<64):fh .and .u64 a ((2 ^ k-1:Nat):Int)=((a%2 ^ k:Nat):Int):=by
 have b:2 ^ k-1<2 ^ 64:=by have:=Nat.pow_lt_pow_right (show 1<2 by decide) d;omega
 rw[QX c b,Nat.and_two_pow_sub_one_eq_mod]
def F7(a k:Nat):Int.fdiv (a:Int) (2 ^ k)=((a / 2 ^ k:Nat):Int):=by
 have:((2:Int) ^ k)=((2 ^ k:Nat):Int):=by norm_cast
 rw[this,Int.fdiv_eq_ediv_of_nonneg _ (Int.natCast_nonneg _)];rfl
def fG:List UInt8->List UInt8->Int
 |[],[]=>0
 |[],_::_=>-1
 |_::_,[]=>1
 |a::x,b::y=>if a=b then fG x y else if a<b then -1 else 1
def Po(l:List UInt8)(i:Nat):(⟨l.toArray⟩:ByteArray)[i]! = l[i]!:=by
 by_cases a:i<l.length
 .rw[getElem!_pos l i a,getElem!_pos (⟨l.toArray⟩:ByteArray) i (by show i<l.toArray.size;simpa using a)];rfl
 .rw[getElem!_neg l i a,getElem!_neg (⟨l.toArray⟩:ByteArray) i (by show ¬i<l.toArray.size;simpa using a)]
def L7:∀(x y:List UInt8),Go.Extern.BytealgCompare.cmp ⟨x.toArray⟩ ⟨y.toArray⟩=fG x y:=by
 intro x y;unfold Go.Extern.BytealgCompare.cmp;simp only[Po]
 show(match(List.range (min x.length y.length)).find? λc=>x[c]! != y[c]! with
  |some c=>if x[c]!<y[c]! then -1 else 1
  |none=>if x.length<y.length then -1 else if x.length>y.length then 1 else 0)=fG x y
 induction x generalizing y with
 |nil=>cases y<;>simp[fG]
 |cons a x e=>
  cases y with
  |nil=>simp[fG]
  |cons b y=>
   simp only[fG,List.length_cons];rw[show min (x.length+1) (y.length+1)=min x.length y.length+1 by omega,List.range_succ_eq_map,List.find?_cons];by_cases d:a=b
   .subst d;rw[if_pos rfl,<-e];simp only[List.getElem!_cons_zero,bne_self_eq_false,List.find?_map,Function.comp_def,Nat.succ_eq_add_one,List.getElem!_cons_succ];cases(List.range (min x.length y.length)).find? (λc=>x[c]! != y[c]!)<;>simp
   .rw[if_neg d];have f:((a::x)[0]! != (b::y)[0]!)=true:=by simpa using d
    simp only[f];simp
def D7:∀x:List UInt8,fG x x=0
 |[]=>rfl
 |a::x=>by simp[fG,D7 x]
def y2:∀x y:List UInt8,fG y x =-fG x y
 |[],[]=>rfl
 |[],_::_=>rfl
 |_::_,[]=>rfl
 |a::x,b::y=>by
  simp only[fG];by_cases e:a=b
  .subst e;simp[y2 x y]
  .rw[if_neg e,if_neg (Ne.symm e)];by_cases d:a<b
   .rw[if_pos d,if_neg (by intro c;exact UInt8.lt_irrefl _ (UInt8.lt_trans d c))];rfl
   .rw[if_neg d,if_pos (by
     rcases Nat.lt_trichotomy a.toNat b.toNat with c|c|c
     .exact absurd (UInt8.lt_iff_toNat_lt.2 c) d
     .exact absurd (UInt8.toNat_inj.1 c) e
     .exact UInt8.lt_iff_toNat_lt.2 c)]
def Ae:∀{x y:List UInt8},fG x y=0->x=y
 |[],[],_=>rfl
 |[],_::_,h=>by simp[fG]at h
 |_::_,[],h=>by simp[fG]at h
 |a::x,b::y,h=>by
  simp only[fG]at h;by_cases c:a=b
  .rw[if_pos c]at h;rw[c,Ae h]
  .rw[if_neg c]at h;split at h<;>simp at h
def Db:∀{x y g:List UInt8},0<fG x y->0<fG y g->0<fG x g
 |[],[],_,d,_=>by simp[fG]at d
 |[],_::_,_,d,_=>by simp[fG]at d
 |_::_,[],g,_,d=>by cases g<;>simp[fG]at d
 |_::_,_::_,[],_,_=>by simp[fG]
 |a::x,b::y,c::g,h1,e=>by
  simp only[fG]at h1 e ⊢;by_cases h:a=b
  .subst h;rw[if_pos rfl]at h1;by_cases f:a=c
   .rw[if_pos f]at e ⊢;exact Db h1 e
   .rw[if_neg f]at e ⊢;exact e
  .rw[if_neg h]at h1;have i:¬a<b:=by intro d;rw[if_pos d]at h1;omega
   by_cases f:b=c
   .subst f;rw[if_neg h,if_neg i];omega
   .rw[if_neg f]at e;have j:¬b<c:=by intro d;rw[if_pos d]at e;omega
    simp only[UInt8.lt_iff_toNat_lt]at i j;have k:a.toNat≠b.toNat:=λd=>h (UInt8.toNat_inj.1 d);have l:b.toNat≠c.toNat:=λd=>f (UInt8.toNat_inj.1 d);rw[if_neg (by rintro rfl;omega),if_neg (by rw[UInt8.lt_iff_toNat_lt];omega)];omega
structure iF(s:dT)(B V:Nat):Prop where
 b:s.Bits=B
 r:iE s.Data B V
 t:8*s.Data.length<B+8
def iF.nil:iF (dT.mk [] 0) 0 0:=⟨rfl,iE.nil,by simp⟩
def iF.split{s:dT}(h:iF s B V)(q:8*s.Data.length≠B):∃i b,s.Data=i++[b]/\8*(i.length+1)=8*s.Data.length:=by
 have:=h.r.le;obtain⟨i,b,e⟩:=Np (l:=s.Data) (by intro e;simp[e]at *;omega);exact⟨i,b,e,by rw[e];simp⟩
def ER(i:List α)(b:α){n:Int}(h:n=i.length):b4 (i++[b]) n=some b:=by subst h;exact g9 i b []
def KJ(i:List α)(b c:α){n:Int}(h:n=i.length):fu (i++[b]) n c=some (i++[c]):=by
 subst h;unfold fu;rw[if_pos ⟨by omega,by simp;omega⟩];simp
def Jy{n:Nat}(h:n<=100000):uI n=some (((n+7) / 8:Nat):Int):=by
 unfold uI;have a:Int.tdiv ((n:Int)+7) 8=(((n+7) / 8:Nat):Int):=by rw[Int.tdiv_eq_ediv_of_nonneg (by omega)];omega
 rw[et (n:=(n:Int)+7) (by omega) (by omega),a,et (by omega) (by omega)]
def CT{s:dT}(h:iF s B V)(y:B<=8192):rH s=some true:=by
 have bp:=h.r.le;have v:=h.t;have f:=h.b
 refine atJ ?_;unfold rH;refine atD (λk=>k=false) (λk m=>?_) (λu p=>?_)
 .subst m;rw[cond_false,f,et (n:=8*(s.Data.length:Int)) (by omega) (by omega),et (n:=8*(s.Data.length:Int)-B) (by omega) (by omega)];refine Ok.cs (λ_=>Ok.s rfl) λc=>?_;have c:8*(s.Data.length:Int)-B≠0:=by simpa using c
  obtain⟨d,b,i,A⟩:=h.split (by omega);have j:=h.r;rw[i]at j;obtain⟨z,x,g⟩:=j.last (by omega);rw[et (n:=(s.Data.length:Int)-1) (by omega) (by omega),i,ER d b (by simp),aU];have q:8*((d++[b]).length:Int)-B=((8*(d.length+1)-B:Nat):Int):=by simp;omega
  rw[q];generalize w:8*(d.length+1)-B=a at g ⊢;rw[et (n:=(8:Int)-(a:Int)) (by omega) (by omega)];refine atO (by simp;omega) (Ok.s ?_);obtain⟨e,l⟩:=Nat.dvd_of_mod_eq_zero g;have t:min ((8:Int)-a).toNat 8=8-a:=by omega
  rw[t,show b=((b.toNat:Nat):Int)by omega,l];have o:(((2 ^ a*e:Nat):Int)*2 ^ (8-a))=((256*e:Nat):Int):=by
   have r:(256:Nat)=2 ^ a*2 ^ (8-a):=by rw[<-Nat.pow_add,show a+(8-a)=8 by omega]
   rw[r,Nat.mul_assoc,Nat.mul_comm (2 ^ (8-a)) e,<-Nat.mul_assoc]
   push_cast;rfl
  rw[o,FP];simp
 .rw[f,Jy (by omega)];refine Ok.cs (λc=>by simp at c;omega) λ_=>?_;refine Ok.cs (λc=>by simp at c;omega) λ_=>?_;rw[aU];exact p _ (by simp;omega)
def Jz{s:dT}{v n:Nat}(h:iF s B V)(R:n<=64)(u:v<2 ^ n)(Y:B+n<=8192):Ok (uJ s v n) (λA=>iF A (B+n) (V*2 ^ n+v)):=by
 unfold uJ;have Q:v<2 ^ 64:=Nat.lt_of_lt_of_le u (Nat.pow_le_pow_right (by decide) R)
 refine atT (λi:Int×bR×Int=>∃(d k:Nat) (D:bR),i=((d:Int),D,((B+k:Nat):Int))/\d+k=n/\iE D (B+k) (V*2 ^ k+v / 2 ^ d)/\8*D.length<B+k+8) (λi=>i.1.toNat) ⟨n,0,s.Data,by rw[h.b];rfl,by simp,by
   rw[Nat.div_eq_of_lt u];simpa using h.r,by simpa using h.t⟩ (by simp only;omega) ?_
 rintro _ bb ⟨d,k,D,rfl,ak,j,r⟩ F;have bp:=j.le;simp only;refine Ok.cs (λg=>?_) λg=>?_
 .have z:0<d:=by simpa using g
  rw[et (n:=8*(D.length:Int)) (by omega) (by omega),et (n:=8*(D.length:Int)-((B+k:Nat):Int)) (by omega) (by omega)];refine atD (λi:Int×bR=>∃(f:bR) (b:Int) (e:Nat),i=((e:Int),f++[b])/\iE (f++[b]) (B+k) (V*2 ^ k+v / 2 ^ d)/\8*(f.length+1)-(B+k)=e/\1<=e/\e<=8) ?_ ?_
  .rintro _ ⟨f,b,e,rfl,l,t,ab,ai⟩;simp only;obtain⟨c,q⟩:∃c:Nat,(if(e:Int)<d then(e:Int)else d)=c/\1<=c/\c<=e/\c<=d:=by
    by_cases h:(e:Int)<d
    .exact⟨e,by rw[if_pos h],by omega,by omega,by omega⟩
    .exact⟨d,by rw[if_neg h],by omega,by omega,by omega⟩
   obtain⟨q,M,aj,af⟩:=q;rw[q];have S:a1 ((d:Int)-c)=((d-c:Nat):Int):=by rw[et (by omega) (by omega)];omega
   have T:a1 ((e:Int)-c)=((e-c:Nat):Int):=by rw[et (by omega) (by omega)];omega
   have G:a1 (((f++[b]).length:Int)-1)=f.length:=by
    have:=l.le;have:=l.hi
    simp at *;rw[et (by omega) (by omega)]
   have K:a1 (((B+k:Nat):Int)+c)=((B+(k+c):Nat):Int):=by rw[et (by omega) (by omega)];omega
   rw[S,T,G,K];refine atO (by simp) (atO (by simp) ?_);rw[ER f b rfl,aU];refine atO (by simp) ?_;have ey:=l.last (by omega);have H:Int.fdiv (v:Int) (2 ^ min ((d-c:Nat):Int).toNat 64)=((v / 2 ^ (d-c):Nat):Int):=by
    rw[show min ((d-c:Nat):Int).toNat 64=d-c by omega,F7]
   have J:IntKind.wrap .u64 (IntKind.wrap .u64 ((1:Int)*2 ^ min (c:Int).toNat 64)-1)=((2 ^ c-1:Nat):Int):=by
    rw[show min (c:Int).toNat 64=c by omega];have X:2 ^ c<=2 ^ 8:=Nat.pow_le_pow_right (by decide) (by omega);have ah:0<2 ^ c:=Nat.two_pow_pos c;have:(1:Int)*2 ^ c=((2 ^ c:Nat):Int):=by push_cast;omega
    rw[this,o6 (by omega),show((2 ^ c:Nat):Int)-1=((2 ^ c-1:Nat):Int)by omega,o6 (by omega)]
   rw[H,J,Pn (Nat.lt_of_le_of_lt (Nat.div_le_self _ _) Q) (by omega)];obtain⟨o,y,p⟩:=l.push (k:=c) (x:=v / 2 ^ (d-c)%2 ^ c) M (by omega) (Nat.mod_lt _ (Nat.two_pow_pos _));rw[t]at o y p;generalize C:v / 2 ^ (d-c)%2 ^ c=x at o y p ⊢;have N:(x:Int)*2 ^ min ((e-c:Nat):Int).toNat 64=((x*2 ^ (e-c):Nat):Int):=by
    rw[show min ((e-c:Nat):Int).toNat 64=e-c by omega];push_cast;rfl
   have E:x*2 ^ (e-c)<256:=by omega
   rw[N,o6 (by omega),H7 (by omega)];rw[t]at ey;have P:fh .or .u8 b ((x*2 ^ (e-c):Nat):Int)=b+((x*2 ^ (e-c):Nat):Int):=by
    obtain⟨ae,Z,I⟩:=ey;have:=Sl (a:=b.toNat) (b:=x*2 ^ (e-c)) (by omega) E;rw[show((b.toNat:Nat):Int)=b by omega]at this;rw[this,Pm I p];omega
   rw[P,KJ f b _ rfl,aU];refine F _ ⟨d-c,k+c,_,rfl,by omega,?_,?_⟩ (by simp only;omega)
   .rw[<-Nat.add_assoc];have O:(V*2 ^ k+v / 2 ^ d)*2 ^ c+x=V*2 ^ (k+c)+v / 2 ^ (d-c):=by
     have d1:v / 2 ^ d=v / 2 ^ (d-c) / 2 ^ c:=by rw[Nat.div_div_eq_div_mul,<-Nat.pow_add,show d-c+c=d by omega]
     rw[Nat.add_mul,Nat.mul_assoc,<-Nat.pow_add,d1,<-C];have:=Nat.div_add_mod (v / 2 ^ (d-c)) (2 ^ c);rw[Nat.mul_comm (2 ^ c)]at this;omega
    rw[<-O];exact o
   .simp;omega
  .intro W w;refine Ok.cs (λg=>?_) λg=>?_
   .have g:8*(D.length:Int)-((B+k:Nat):Int)=0:=by simpa using g
    rw[ga (by simp;omega),aU];exact w _ ⟨D,0,8,rfl,j.more (by omega),by omega,by omega,by omega⟩
   .have g:8*(D.length:Int)-((B+k:Nat):Int)≠0:=by simpa using g
    have L:iF (dT.mk D ((B+k:Nat):Int)) (B+k) (V*2 ^ k+v / 2 ^ d):=⟨rfl,j,r⟩;obtain⟨f,b,m,U⟩:=L.split (by simp only;omega);simp only at m U;refine w _ ⟨f,b,8*D.length-(B+k),?_,by rw[<-m];exact j,by omega,by omega,by omega⟩;rw[<-m];simp;omega
 .have z:d=0:=by simpa using g
  subst z;obtain rfl:k=n:=by omega
  refine Ok.s ⟨rfl,?_,by simpa using r⟩;simpa using j
def JS{s:dT}{v n:Nat}(h:iF s B V)(j:n<=64)(d:v<2 ^ n)(g:B+n<=8192):Ok (uv s v n) (λb=>iF b.1 (B+n) (V*2 ^ n+v)/\b.2=0):=by
 unfold uv;have bp:=h.r.le;have f:=h.t;have c:=h.b
 rw[CT h (by omega),aU];simp only[Bool.not_true,cond_false];refine atD (λv=>v=false) (λm i=>?_) λl e=>?_
 .subst i;rw[cond_false,c,et (by omega) (by omega)];refine Ok.cs (λa=>by simp at a;omega) λ_=>?_;unfold yo;rw[ga (by simp;omega),aU,aU];refine Ok.aa (Jz (B:=B) (V:=V) (s:=dT.mk ([]++s.Data) s.Bits) ⟨c,by simpa using h.r,by simpa using f⟩ j d g) λb k=>Ok.s ⟨k,rfl⟩
 .refine Ok.cs (λa=>by simp at a;omega) λ_=>?_;refine Ok.cs (λa=>by simp at a;omega) λ_=>?_;refine Ok.cs (λa=>?_) λ_=>e _ rfl;have o:n<64:=by simp at a;omega
  refine atO (by simp) (e _ ?_);rw[show min ((n:Nat):Int).toNat 64=n by omega,F7,Nat.div_eq_of_lt d];simp
def QY(x:Int):∃n:Nat,fh .and .u64 x 65535=n/\n<65536:=by
 refine⟨(BitVec.ofInt 64 x &&& BitVec.ofInt 64 65535).toNat,?_,?_⟩
 .show IntKind.wrap .u64 _=_;exact o6 (BitVec.isLt _)
 .rw[BitVec.toNat_and];exact Nat.lt_of_le_of_lt Nat.and_le_right (by decide)
def Qq{n:Nat}(h:n<65536):∃m:Nat,fh .xor .u64 n 4129=m/\m<65536:=by
 refine⟨n ^^^ 4129,?_,Nat.xor_lt_two_pow (n:=16) h (by decide)⟩;show IntKind.wrap .u64 ((BitVec.ofNat 64 n ^^^ BitVec.ofNat 64 4129).toNat:Int)=_;rw[BitVec.toNat_xor,BitVec.toNat_ofNat,BitVec.toNat_ofNat,Nat.mod_eq_of_lt (show n<2 ^ 64 by omega),Nat.mod_eq_of_lt (show 4129<2 ^ 64 by decide)];exact o6 (Nat.lt_trans (Nat.xor_lt_two_pow (n:=16) h (by decide)) (by decide))
def hp:Nat->List (Nat×Nat)->Nat
 |a,[]=>a
 |a,(v,w)::r=>hp (a*2 ^ w+v) r
def e5:List (Nat×Nat)->Nat
 |[]=>0
 |(_,w)::r=>w+e5 r
def vk:∀(a:Nat) (F G:List (Nat×Nat)),hp a (F++G)=hp (hp a F) G
 |_,[],_=>rfl
 |a,(v,w)::r,G=>vk _ r G
def r5:∀(F G:List (Nat×Nat)),e5 (F++G)=e5 F+e5 G
 |[],G=>by simp[e5]
 |(v,w)::r,G=>by simp only[List.cons_append,e5,r5 r G];omega
def mm(l:Int):Nat:=if l=8 then 0 else if l=16 then 1 else if l=32 then 2 else 3
variable {β:Type}
def mc{σ:Type}(F:(σ->Option β)->σ->Option β)(n:Nat)(s:σ):iter F (n+1) s=F (iter F n) s:=rfl
def KK{l:Int}(h:ht l=true)(R:Int->Option β):fI (λ(bb:Int->Option β) (c:Int)=>eU (decide (0<=c))<|bif decide (IntKind.wrap .i64 ((8:Int)*2 ^ min c.toNat 64)<l)then bb (a1 (c+1))else R c) 0=R (mm l:Int):=by
 simp only[ht,Bool.or_eq_true,decide_eq_true_eq]at h;show iter _ (1099511627772+4) 0=_;have d:a1 (0+1)=1:=by decide
 have f:a1 (1+1)=2:=by decide
 have g:a1 (2+1)=3:=by decide
 have a:IntKind.wrap .i64 ((8:Int)*2 ^ min (0:Int).toNat 64)=8:=by decide
 have b:IntKind.wrap .i64 ((8:Int)*2 ^ min (1:Int).toNat 64)=16:=by decide
 have e:IntKind.wrap .i64 ((8:Int)*2 ^ min (2:Int).toNat 64)=32:=by decide
 have i:IntKind.wrap .i64 ((8:Int)*2 ^ min (3:Int).toNat 64)=64:=by decide
 rcases h with rfl|rfl|rfl|rfl
 .rw[mc,iQ (by decide),a];rfl
 .rw[mc,iQ (by decide),a,d];simp only[show decide ((8:Int)<16)=true from rfl,cond_true];rw[mc,iQ (by decide),b];rfl
 .rw[mc,iQ (by decide),a,d];simp only[show decide ((8:Int)<32)=true from rfl,cond_true];rw[mc,iQ (by decide),b,f];simp only[show decide ((16:Int)<32)=true from rfl,cond_true];rw[mc,iQ (by decide),e];rfl
 .rw[mc,iQ (by decide),a,d];simp only[show decide ((8:Int)<64)=true from rfl,cond_true];rw[mc,iQ (by decide),b,f];simp only[show decide ((16:Int)<64)=true from rfl,cond_true];rw[mc,iQ (by decide),e,g];simp only[show decide ((32:Int)<64)=true from rfl,cond_true];rw[mc,iQ (by decide),i];rfl
def Pp(c:Bool)(K:Int->Option β):jn K (λJ=>bif c then J 1 else J 0)=K (bif c then 1 else 0):=by cases c<;>rfl
def nk(x:cV):List (Nat×Nat):=[(x.dy.toNat,7),(x.ig.toNat,10),(x.dW.toNat,10)]
def p7(x:dA):List (Nat×Nat):=[(x.cg.toNat,3),(x.aP.toNat,9),(mm x.Length,2)]
def oL(a:aO):List (Nat×Nat):=[(a.Router.toNat,7),(a.Seq.toNat,20),((bif a.bw then 1 else 0),1),(a.Links.length,5)]
def lq(a:aO):List (Nat×Nat):=(oL a++a.Links.flatMap nk)++(a.Claims.length,4)::a.Claims.flatMap p7
def F8:∀l:uQ,e5 (l.flatMap nk)=27*l.length
 |[]=>rfl
 |x::l=>by rw[List.flatMap_cons,r5,F8 l,List.length_cons];simp only[nk,e5];omega
def F9:∀l:sL,e5 (l.flatMap p7)=14*l.length
 |[]=>rfl
 |x::l=>by rw[List.flatMap_cons,r5,F9 l,List.length_cons];simp only[p7,e5];omega
def L8{s:dT}{i:Nat}(f:∀b∈s.Data,0<=b/\b<256)(hi:i<8*s.Data.length)(g:i<=100000):Ok (uR s (i:Int)) (λ_=>True):=by
 have c:Int.tdiv (i:Int) 8=((i / 8:Nat):Int):=by rw[Int.tdiv_eq_ediv_of_nonneg (by omega)];omega
 have d:Int.tmod (i:Int) 8=((i%8:Nat):Int):=by rw[Int.tmod_eq_emod_of_nonneg (by omega)];omega
 have a:(7:Int)-((i%8:Nat):Int)=((7-i%8:Nat):Int):=by omega
 obtain⟨h,e,j,_⟩:=(lf (l:=s.Data) (i:=((i / 8:Nat):Int)) (by omega) (by omega)).get;unfold uR;rw[c,d,a,et (by omega) (by omega),e,aU,et (by omega) (by omega),iQ (by simp)];exact Ok.s trivial
def J5{s:dT}(h:iF s B V)(l:B<=8192):Ok (uK s) (λp=>∃c:Nat,c<65536/\p=((c:Int),0)):=by
 have bp:=h.r.le;have v:=h.t;have w:=h.b
 unfold uK;rw[CT h l,aU];simp only[Bool.not_true,cond_false];refine atO (by simp;omega) ?_;refine atY (λ_ (a:Int)=>∃c:Nat,c<65536/\a=c) 0 s.Bits ?_ ?_ _ _ _ (by simp) (by omega) (by omega) ⟨65535,by decide,rfl⟩
 .rintro i a bb o g ⟨c,e,rfl⟩ k;refine atD (λa=>∃c:Nat,c<65536/\a=c) (λa j=>k _ j) λu d=>?_;obtain⟨x,b,_⟩:=L8 (s:=s) (i:=i.toNat) h.r.tf (by omega) (by omega);rw[show((i.toNat:Nat):Int)=i by omega]at b;rw[b,aU];obtain⟨t,n,f⟩:=QY (IntKind.wrap .u64 ((c:Int)*2 ^ min (1:Int).toNat 64));rw[n];refine Ok.cs (λ_=>d _ ⟨t,f,rfl⟩) λ_=>?_;obtain⟨r,q,m⟩:=Qq f;rw[q];exact d _ ⟨r,m,rfl⟩
 .rintro i a o g ⟨c,e,rfl⟩;exact Ok.s ⟨c,e,rfl⟩
def kM{w:fP}{n:Nat}{v:Int}(h:iF w.ef B V)(j:0<=v)(b:n<=64)(g:v<2 ^ n)(e:B+n<=8192):Ok (iH w v n) (λc=>iF c.ef (B+n) (V*2 ^ n+v.toNat)):=by
 have a:v.toNat<2 ^ n:=by
  have:((2:Int) ^ n)=((2 ^ n:Nat):Int):=by push_cast;rfl
  omega
 have i:v.toNat<2 ^ 64:=Nat.lt_of_lt_of_le a (Nat.pow_le_pow_right (by decide) b);unfold iH;have f:IntKind.wrap .u64 v=((v.toNat:Nat):Int):=by
  have:=o6 (n:=v.toNat) (by omega)
  rwa [show((v.toNat:Nat):Int)=v by omega]at this ⊢
 rw[f];exact Ok.aa (JS h b a e) λk d=>Ok.s d.1
def zU{a:aO}(h:dO a=true):Ok (lV a) (λp=>p.2=0/\∃c,c<65536/\iE p.1 (e5 (lq a++[(c,16)])) (hp 0 (lq a++[(c,16)]))):=by
 have H:=ml h;have m:=h;simp only[dO,dk,Bool.and_eq_true,decide_eq_true_eq,List.all_eq_true]at m;obtain⟨⟨⟨⟨⟨J,K⟩,⟨F,G⟩⟩,L⟩,⟨A,_⟩⟩,⟨I,z,_⟩⟩:=m;unfold lV;rw[r4,h,aU];simp only[Bool.not_true,cond_false,Pp];refine Ok.aa (kM (w:=fP.mk (dT.mk [] 0)) (n:=7) iF.nil (by omega) (by omega) (by omega) (by omega)) λM t1=>?_;refine Ok.aa (kM (n:=20) t1 (by omega) (by omega) (by omega) (by omega)) λN t2=>?_;have k:(0<=(bif a.bw then(1:Int)else 0)/\(bif a.bw then(1:Int)else 0)<2)/\(bif a.bw then(1:Int)else 0).toNat=(bif a.bw then 1 else 0):=by cases a.bw<;>decide
 generalize (bif a.bw then(1:Int)else 0)=y at k ⊢;obtain⟨k,E⟩:=k;refine Ok.aa (kM (n:=1) t2 (by omega) (by omega) (by omega) (by omega)) λO t3=>?_;refine Ok.aa (kM (n:=5) t3 (by omega) (by omega) (by omega) (by omega)) λQ t4=>?_
 refine atB (λb (f:bR×Int)=>iF (dT.mk f.1 f.2) (33+27*b.length) (hp 0 (oL a++b.flatMap nk))) ?_ _ (by
   have:hp 0 (oL a++([]:uQ).flatMap nk)=(((0*2 ^ 7+a.Router.toNat)*2 ^ 20+a.Seq.toNat)*2 ^ 1+y.toNat)*2 ^ 5+(a.Links.length:Int).toNat:=by rw[E];rfl
   rw[this];exact t4) ?_
 .rintro b i r ⟨D,d⟩ bb e l j;have g:=A i (by rw[e];simp);have u:b.length<a.Links.length:=by rw[e];simp
  simp only[ll,dk,Bool.and_eq_true,decide_eq_true_eq]at g;refine Ok.aa (kM (w:=fP.mk (dT.mk D d)) (n:=7) l (by omega) (by omega) (by omega) (by omega)) λx f1=>?_;refine Ok.aa (kM (n:=10) f1 (by omega) (by omega) (by omega) (by omega)) λt f2=>?_;refine Ok.aa (kM (n:=10) f2 (by omega) (by omega) (by omega) (by omega)) λv f3=>j _ ?_;rw[List.length_append,List.length_singleton,show 33+27*(b.length+1)=33+27*b.length+7+10+10 by omega,List.flatMap_append,<-List.append_assoc,vk];exact f3
 rintro⟨D,d⟩ t5;refine Ok.aa (kM (w:=fP.mk (dT.mk D d)) (n:=4) t5 (by omega) (by omega) (by omega) (by omega)) λR t6=>?_
 refine atB (λb (f:bR×Int)=>iF (dT.mk f.1 f.2) (37+27*a.Links.length+14*b.length) (hp 0 ((oL a++a.Links.flatMap nk)++(a.Claims.length,4)::b.flatMap p7))) ?_ _ (by
   rw[show 37+27*a.Links.length+14*([]:sL).length=33+27*a.Links.length+4 by simp;omega,vk];exact t6) ?_
 .rintro b i r ⟨D,d⟩ bb e l j;have g:=z i (by rw[e];simp);have u:b.length<a.Claims.length:=by rw[e];simp
  simp only[gG,dk,Bool.and_eq_true,decide_eq_true_eq]at g;have P:mm i.Length<4:=by unfold mm;split;omega;split;omega;split<;>omega
  simp only;rw[KK g.2];refine Ok.aa (kM (w:=fP.mk (dT.mk D d)) (n:=3) l (by omega) (by omega) (by omega) (by omega)) λx f1=>?_;refine Ok.aa (kM (n:=9) f1 (by omega) (by omega) (by omega) (by omega)) λt f2=>?_;refine Ok.aa (kM (n:=2) f2 (by omega) (by omega) (by omega) (by omega)) λv f3=>j _ ?_;rw[List.length_append,List.length_singleton,show 37+27*a.Links.length+14*(b.length+1)=37+27*a.Links.length+14*b.length+3+9+2 by omega,List.flatMap_append,<-List.cons_append,<-List.append_assoc,vk];exact f3
 rintro⟨B,C⟩ t7;refine Ok.aa (J5 t7 (by omega)) λp q=>?_;obtain⟨c,s,rfl⟩:=q;rw[et (by omega) (by omega)];refine Ok.aa (kM (w:=fP.mk (dT.mk B C)) (n:=16) t7 (by omega) (by omega) (by omega) (by omega)) λS t8=>Ok.s ⟨rfl,c,s,?_⟩;have o:e5 (lq a++[(c,16)])=37+27*a.Links.length+14*a.Claims.length+16:=by
  rw[r5,lq,r5,r5,F8];simp only[e5,F9,oL];omega
 rw[o,vk];exact t8.r
end
section
def jQ(l:bR):List UInt8:=l.map λa=>UInt8.ofNat a.toNat
def hq(a:aO):bR:=match lV a with|some p=>p.1|none=>[]
def fM(a b:aO):Bool:=decide (b.Seq<a.Seq)||(decide (a.Seq=b.Seq)&&decide (0<fG (jQ (hq a)) (jQ (hq b))))
def jR(a b:aO):Bool:=dO a&&(dO b&&(decide (a.Router=b.Router)&&fM a b))
variable {a:aO}
def MF(h:dO a=true):lV a=some (hq a,0):=by
 obtain⟨⟨l,c⟩,b,rfl,_⟩:=zU h;unfold hq;rw[b]
def MG(x y:bR):GR x y=fG (jQ x) (jQ y):=L7 _ _
def L9(a b:aO):uE a b=some (jR a b):=by
 unfold uE jR
 have e:∀a,∃d,lV a=some d/\(dO a=true->d=(hq a,0))/\(dO a=false->d.2=1):=λa=>by
  cases c:dO a
  .refine⟨([],1),?_,λc=>by simp at c,λ_=>rfl⟩;unfold lV;rw[r4,c];rfl
  .exact⟨_,MF c,λ_=>rfl,λc=>by simp at c⟩
 obtain⟨d,l,m,n⟩:=e a;obtain⟨q,k,p,o⟩:=e b;simp only[l,k,aU];cases i:dO a
 .simp[n i]
 cases g:dO b
 .simp[o g]
 rw[m i,p g];by_cases h:a.Router=b.Router
 .simp only[h,decide_true,Bool.not_true,Bool.or_self,cond_false,Bool.true_and,fM];by_cases j:b.Seq<a.Seq
  .simp[j]
  .by_cases f:a.Seq=b.Seq
   .simp only[f,decide_true,cond_true,B5,aU,MG];simp
   .simp[j,f]
 .simp[h]
def k1(r:Int)(l:pR):pR:=l.filter λa=>decide (a.Router<r)
def jk(r:Int)(l:pR):pR:=l.filter λa=>decide (r<a.Router)
def oD(d:bF)(a:aO):bF:=bF.mk (k1 a.Router d.bf++a::jk a.Router d.bf)
def MH(r:Int)(l m:pR):k1 r (l++m)=k1 r l++k1 r m:=List.filter_append ..
def MI(r:Int)(l m:pR):jk r (l++m)=jk r l++jk r m:=List.filter_append ..
variable {l:pR}{r:Int}
def MJ(h:∀x∈l,x.Router<r):k1 r l=l:=List.filter_eq_self.2 λx a=>by simpa using h x a
def Ma(h:∀x∈l,r<=x.Router):k1 r l=[]:=List.filter_eq_nil_iff.2 λx a=>by simpa using h x a
def MK(h:∀x∈l,r<x.Router):jk r l=l:=List.filter_eq_self.2 λx a=>by simpa using h x a
def Mb(h:∀x∈l,x.Router<=r):jk r l=[]:=List.filter_eq_nil_iff.2 λx a=>by simpa using h x a
def o7(d:bF):Prop:=d.bf.Pairwise (λa b=>a.Router<b.Router)
def hr(d:bF)(a:aO):bF×Bool:=
 bif (fQ d a.Router).2&&!jR a (fQ d a.Router).1 then(d,false)else(oD d a,true)
def Q1(l:pR)(x:Int)(c:aO->Int->gA)(f:aO->Int)(e:l.length<=1000000)(d:∀r,c r x=some (f r)):te l x c=some ((hw f l:Int),h8 f l):=by
 unfold te;refine Ab l f e λi j bb g=>?_;by_cases b:i<j
 .rw[dif_pos b];simp only[Aa (i:=i) (j:=j) (by omega),ov (show(i+j) / 2<l.length by omega),aU,d,lb];rw[if_pos (by omega),et (by omega) (by omega)];rfl
 .rw[dif_neg b];simp only[lb];rw[if_neg (by omega)];by_cases a:i<l.length
  .rw[if_pos (by omega),ov a];simp only[aU,d];simp[a]
  .rw[if_neg (by omega)];simp[a]
def ML(x:aO)(r:Int):uh x r=some (dM x.Router r):=by
 unfold uh;rw[vp,aU]
def zV(x y:Int):(dM x y<0↔x<y)/\(dM x y=0↔x=y):=by
 unfold dM;split
 .exact⟨by omega,by omega⟩
 .split
  .exact⟨by omega,by omega⟩
  .exact⟨by omega,by omega⟩
def Fy{d:bF}(c:o7 d)(r:Int):∀a b:Nat,a<=b->b<d.bf.length->dM (el d.bf a).Router r<=dM (el d.bf b).Router r:=
 B7 (f:=λe:aO=>dM e.Router r) (c.imp λg=>by
  unfold dM;split<;>split<;>(try split)<;>(try split)<;>omega)
def Mc{d:bF}(u:o7 d)(r:Int):d.bf.take (hw (λx:aO=>dM x.Router r) d.bf)=k1 r d.bf/\
  (h8 (λx:aO=>dM x.Router r) d.bf=(fQ d r).2)/\hw (λx:aO=>dM x.Router r) d.bf<=d.bf.length/\
  ((fQ d r).2=false->d.bf.drop (hw (λx:aO=>dM x.Router r) d.bf)=jk r d.bf)/\
  ((fQ d r).2=true->d.bf.drop (hw (λx:aO=>dM x.Router r) d.bf)=(fQ d r).1::jk r d.bf):=by
 obtain⟨C,w,z⟩:=EI (f:=λx:aO=>dM x.Router r) (Fy u r);have F:=Ac (f:=λx:aO=>dM x.Router r) (Fy u r);generalize hw (λx:aO=>dM x.Router r) d.bf=n at C w z ⊢
 have q:∀x∈d.bf.take n,x.Router<r:=λx b=>by
  obtain⟨j,v,rfl⟩:=List.getElem_of_mem b;rw[List.length_take]at v;have:=w j (by omega);rw[qc (by omega)]at this;rw[List.getElem_take];exact(zV _ _).1.1 this
 have k:∀x∈d.bf.drop n,r<=x.Router:=λx b=>by
  obtain⟨j,v,rfl⟩:=List.getElem_of_mem b;rw[List.length_drop]at v;have:=z (n+j) (by omega) (by omega);rw[qc (by omega)]at this;rw[List.getElem_drop];have e:=(zV (d.bf[n+j]).Router r).1;have D:¬dM (d.bf[n+j]).Router r<0:=by omega
  rw[e]at D;omega
 have s:=List.take_append_drop n d.bf;have H:k1 r d.bf=d.bf.take n:=by
  conv=>lhs;rw[<-s]
  rw[MH,MJ q,Ma k,List.append_nil]
 have B:jk r d.bf=jk r (d.bf.drop n):=by
  conv=>lhs;rw[<-s]
  rw[MI,Mb (l:=d.bf.take n) (λx b=>by have:=q x b;omega),List.nil_append]
 have E:h8 (λx:aO=>dM x.Router r) d.bf=(fQ d r).2:=by
  rw[Bool.eq_iff_iff,F];simp only[(zV _ _).2];rcases l2 d r with⟨a,h,i,c⟩|⟨p,c⟩
  .rw[c];exact⟨λ_=>rfl,λ_=>⟨a,h,i⟩⟩
  .rw[c];exact⟨λ⟨a,h,i⟩=>absurd i (p a h),λI=>by simp at I⟩
 refine⟨H.symm,E,C,λc=>?_,λc=>?_⟩
 .rw[B,MK];intro x b;rcases l2 d r with⟨a,h,i,g⟩|⟨p,g⟩
  .rw[g]at c;simp at c
  .have:=k x b;have:=p x (List.mem_of_mem_drop b);omega
 .rcases l2 d r with⟨a,h,i,g⟩|⟨p,g⟩
  .rw[g,B];have o:a∈d.bf.drop n:=by
    have:a∈d.bf.take n++d.bf.drop n:=by rw[s];exact h
    rcases List.mem_append.1 this with e|e
    .have:=q a e;omega
    .exact e
   have m:(d.bf.drop n).Pairwise (λa G=>a.Router<G.Router):=List.Pairwise.sublist (List.drop_sublist n _) u;cases A:d.bf.drop n with
   |nil=>rw[A]at o;simp at o
   |cons y t=>
    rw[A]at m o k;rw[List.pairwise_cons]at m;rcases List.mem_cons.1 o with e|e
    .subst e;show _=a::(a::t).filter _;rw[List.filter_cons_of_neg (by simp[i])];congr 1;exact(List.filter_eq_self.2 λx b=>by have:=m.1 x b;simp;omega).symm
    .have:=m.1 a e;have:=k y (by simp);omega
  .rw[g]at c;simp at c
def FD{d:bF}(n:o7 d)(r:d.bf.length<=100000)(i:sD a):rE d a=some ((hr d a).2,(hr d a).1):=by
 unfold rE;rw[Q1 d.bf a.Router _ (λe=>dM e.Router a.Router) (by omega) (λe=>ML e _),aU];obtain⟨h,j,p,k,l⟩:=Mc n a.Router;simp only[jn,j];generalize hw (λe:aO=>dM e.Router a.Router) d.bf=c at *;unfold hr oD;cases g:(fQ d a.Router).2
 .simp only[Bool.not_false,cond_true,Bool.false_and,cond_false,y1 i,aU];have:qK d.bf (c:Int) a=some (k1 a.Router d.bf++a::jk a.Router d.bf):=by
   unfold qK;rw[if_pos ⟨⟨by omega,by omega⟩,by unfold aM;omega⟩,Int.toNat_natCast,h,k g]
  rw[this,aU]
 .have b:=l g;have f:c<d.bf.length:=by
   have:=congrArg List.length b;rw[List.length_drop,List.length_cons]at this;omega
  have o:d.bf[c]=(fQ d a.Router).1:=by
   rw[List.drop_eq_getElem_cons f]at b;exact(List.cons.inj b).1
  have m:b4 d.bf (c:Int)=some (fQ d a.Router).1:=by
   rw[<-o];unfold b4;rw[if_pos (by omega)];simp[f]
  simp only[Bool.not_true,cond_false,m,aU,L9,Bool.true_and];cases q:jR a (fQ d a.Router).1
  .rfl
  .simp only[cond_true,y1 i,aU,Bool.not_true,cond_false];have:fu d.bf (c:Int) a=some (k1 a.Router d.bf++a::jk a.Router d.bf):=by
    unfold fu;rw[if_pos ⟨by omega,by omega⟩,Int.toNat_natCast,List.set_eq_take_append_cons_drop,if_pos f,h];rw[List.drop_eq_getElem_cons f]at b;rw[(List.cons.inj b).2]
   rw[this,aU]
def ES{d:bF}(e:lJ d):ry d=some d:=by
 refine atJ ?_;unfold ry;refine atB (λb (a:pR)=>a=b) ?_ _ rfl (λa i=>Ok.s (by rw[i]));rintro b f r a bb c rfl h;have g:f∈d.bf:=by rw[c];simp
 have j:a.length<d.bf.length:=by rw[c];simp
 have:=e.1;rw[y1 (e.2 f g),aU,ga (by simp;omega),aU];exact h _ rfl
def OQ{d:bF}(c:lJ d)(e:sD a):uF d a=some (if jh d=0/\dO a=true then hr d a else(d,false)):=by
 unfold uF;simp only[jn,ES c,vj,r4,aU];by_cases b:jh d=0
 .cases f:dO a
  .simp[b]
  .simp only[b,decide_true,Bool.not_true,cond_false,and_self,if_true];rw[FD (kC.1 b).gi c.1 e,aU]
 .simp[b]
end
section
def Fz:∀(l:pR) (c:Int),l.Pairwise (λa b=>a.Router<b.Router)->(∀x∈l,c<=x.Router/\x.Router<=99)->(l.length:Int)<=max 0 (100-c)
 |[],c,_,_=>by simp;omega
 |x::r,c,h,d=>by
  rw[List.pairwise_cons]at h;have g:=d x (by simp);have:=Fz r (x.Router+1) h.2 λf e=>⟨by have:=h.1 f e;omega,(d f (by simp[e])).2⟩;simp only[List.length_cons];omega
def Qr{d:bF}(c:∀a∈d.bf,dO a=true)(b:o7 d):dS d:=by
 refine⟨?_,c,b⟩;have:=Fz d.bf 1 b λf e=>(ml (c f e)).r;omega
variable {a:aO}
def vI{d:bF}{x:aO}:x∈(oD d a).bf↔x=a\/(x∈d.bf/\x.Router≠a.Router):=by
 simp only[oD,List.mem_append,List.mem_cons,k1,jk,List.mem_filter,decide_eq_true_eq];constructor
 .rintro(⟨b,c⟩|rfl|⟨b,c⟩)
  .exact .inr ⟨b,by omega⟩
  .exact .inl rfl
  .exact .inr ⟨b,by omega⟩
 .rintro(rfl|⟨b,c⟩)
  .exact .inr (.inl rfl)
  .rcases Int.lt_or_gt_of_ne c with e|e
   .exact .inl ⟨b,e⟩
   .exact .inr (.inr ⟨b,e⟩)
def Md{d:bF}(h:o7 d)(a:aO):o7 (oD d a):=by
 unfold o7 oD;simp only;refine List.pairwise_append.2 ⟨List.Pairwise.sublist List.filter_sublist h,List.pairwise_cons.2 ⟨λc b=>by simpa [jk]using (List.mem_filter.1 b).2,List.Pairwise.sublist List.filter_sublist h⟩,λg e c b=>?_⟩;have f:g.Router<a.Router:=by simpa using (List.mem_filter.1 e).2
 rcases List.mem_cons.1 b with rfl|b
 .exact f
 .have:a.Router<c.Router:=by simpa using (List.mem_filter.1 b).2
  omega
def dS.with{d:bF}(h:dS d){a:aO}(u:dO a=true):dS (oD d a):=
 Qr (λx q=>by rcases vI.1 q with rfl|⟨C,_⟩;exact u;exact h.ok x C) (Md h.gi a)
def dS.put{d:bF}(h:dS d)(q:dO a=true):dS (hr d a).1:=by
 unfold hr;cases(fQ d a.Router).2&&!jR a (fQ d a.Router).1
 .exact h.with q
 .exact h
def look(d:bF)(r:Int):sg:=bif (fQ d r).2 then some (fQ d r).1 else none
variable {r:Int}
def jI{d:bF}(h:dS d):look d r=some a↔a∈d.bf/\a.Router=r:=by
 unfold look;constructor
 .intro c;rcases l2 d r with⟨b,g,j,e⟩|⟨k,e⟩
  .rw[e]at c;simp at c;subst c;exact⟨g,j⟩
  .rw[e]at c;simp at c
 .rintro⟨i,f⟩;rw[h.key i f];rfl
def D8{d:bF}:look d r=none↔∀a∈d.bf,a.Router≠r:=by
 unfold look;rcases l2 d r with⟨b,e,g,c⟩|⟨f,c⟩
 .rw[c];simp;exact⟨b,e,g⟩
 .rw[c];simp;exact f
def LA{d e:bF}(j:dS d)(g:dS e)(h:∀r,look d r=look e r):d=e:=by
 have:d.bf=e.bf:=uW (r:=λa b:aO=>a.Router<b.Router) (λa=>Int.lt_irrefl _) (λa b k=>Int.lt_trans) j.gi g.gi λc=>by
  have f:=jI j (r:=c.Router) (a:=c);have i:=jI g (r:=c.Router) (a:=c);rw[h]at f;simp only[and_true]at f i;exact f.symm.trans i
 cases d;cases e;simp only at this;rw[this]
def gq(o:sg)(a:aO):aO:=match o with|none=>a|some x=>bif jR a x then a else x
def zW{d:bF}(h:dS d)(k:dO a=true)(r:Int):look (hr d a).1 r=if r=a.Router then some (gq (look d r) a)else look d r:=by
 have i:∀r,look (oD d a) r=if r=a.Router then some a else look d r:=λr=>by
  by_cases c:r=a.Router
  .rw[if_pos c];exact(jI (h.with k)).2 ⟨vI.2 (.inl rfl),c.symm⟩
  .rw[if_neg c];cases f:look d r with
   |none=>
    rw[D8]at f ⊢;intro l m;rcases vI.1 m with rfl|⟨g,_⟩
    .exact λq=>c q.symm
    .exact f l g
   |some l=>
    obtain⟨g,n⟩:=(jI h).1 f;exact(jI (h.with k)).2 ⟨vI.2 (.inr ⟨g,by omega⟩),n⟩
 unfold hr;rcases l2 d a.Router with⟨b,o,s,e⟩|⟨p,e⟩
 .rw[e];have hB:look d a.Router=some b:=(jI h).2 ⟨o,s⟩;cases j:jR a b
  .simp only[Bool.not_false,Bool.and_self,cond_true];by_cases c:r=a.Router
   .subst c;rw[if_pos rfl,hB];simp[gq,j]
   .rw[if_neg c]
  .simp only[Bool.not_true,Bool.and_false,cond_false];rw[i];by_cases c:r=a.Router
   .subst c;rw[if_pos rfl,if_pos rfl,hB];simp[gq,j]
   .rw[if_neg c,if_neg c]
 .rw[e];simp only[Bool.false_and,cond_false];rw[i];by_cases c:r=a.Router
  .subst c;rw[if_pos rfl,if_pos rfl,D8.2 p];rfl
  .rw[if_neg c,if_neg c]
def JA{x y d:List UInt8}(e:¬0<fG x y)(c:¬0<fG y d):¬0<fG x d:=by
 intro b;rcases Int.lt_trichotomy (fG x y) 0 with a|a|a
 .have:0<fG y x:=by rw[y2];omega
  exact c (Db this b)
 .rw[Ae a]at b;exact c b
 .exact e a
def rT(a:aO):fM a a=false:=by simp[fM,D7]
variable {b:aO}
def uX(h:fM a b=true):fM b a=false:=by
 simp only[fM,Bool.or_eq_true,Bool.and_eq_true,decide_eq_true_eq]at h;simp only[fM,Bool.or_eq_false_iff,Bool.and_eq_false_iff,decide_eq_false_iff_not];rcases h with h|⟨d,c⟩
 .exact⟨by omega,.inl (by omega)⟩
 .exact⟨by omega,.inr (by rw[y2];omega)⟩
def CU{c:aO}(j:fM a b=false)(f:fM b c=false):fM a c=false:=by
 simp only[fM,Bool.or_eq_false_iff,Bool.and_eq_false_iff,decide_eq_false_iff_not]at *;refine⟨by omega,?_⟩;by_cases g:a.Seq=c.Seq
 .right;have h:a.Seq=b.Seq:=by omega
  have i:b.Seq=c.Seq:=by omega
  rcases j.2 with e|e
  .exact absurd h e
  rcases f.2 with d|d
  .exact absurd i d
  exact JA e d
 .exact .inl g
def hC(a b:bF):bF:=b.bf.foldl (λd c=>(hr d c).1) a
def Ds{α β:Type}{f:β->α->β}{P:β->Prop}:∀(l:List α) (b:β),P b->(∀b x,x∈l->P b->P (f b x))->P (l.foldl f b)
 |[],b,h,_=>h
 |x::l,b,h,a=>by
  simp only[List.foldl_cons];exact Ds l _ (a b x (by simp) h) λb d c=>a b d (by simp[c])
def dS.merge{a b:bF}(C:dS a)(u:dS b):dS (hC a b):=
 Ds (P:=dS) b.bf a C λd x q h=>h.put (u.ok x q)
def J6{a b:bF}(m:dS a)(j:dS b)(r:Int):look (hC a b) r=match look b r with|none=>look a r|some y=>some (gq (look a r) y):=by
 have o:∀(d:pR) (e:bF),dS e->(∀c∈d,dO c=true)->d.Pairwise (λa b=>a.Router<b.Router)->
   look (d.foldl (λp n=>(hr p n).1) e) r=match d.find? (λc=>decide (c.Router=r))with|none=>look e r|some y=>some (gq (look e r) y):=by
  intro d;induction d with
  |nil=>intro e _ _ _;rfl
  |cons c d l=>
   intro e k f i;rw[List.pairwise_cons]at i;simp only[List.foldl_cons];rw[l _ (k.put (f c (by simp))) (λy g=>f y (by simp[g])) i.2,zW k (f c (by simp)),List.find?_cons];by_cases h:r=c.Router
   .rw[if_pos h];have:d.find? (λc=>decide (c.Router=r))=none:=List.find?_eq_none.2 λy g=>by have:=i.1 y g;simp;omega
    rw[this];simp[h]
   .rw[if_neg h];have:decide (c.Router=r)=false:=by simp;omega
    rw[this]
 unfold hC;rw[o b.bf a m j.ok j.gi];unfold look fQ;cases b.bf.find? (λc=>decide (c.Router=r))<;>rfl
def qi.sm(h:dO a=true):sD a:=by have:=ml h;exact⟨by have:=this.n;omega,by have:=this.xK;omega⟩
def LB{a:bF}(k:lJ a)(b:bF):uj a b=some (if jh a=0/\jh b=0 then(hC a b,0)else(bF.mk [],1)):=by
 unfold uj;simp only[jn,vj,ES k,aU];by_cases d:jh a=0
 .by_cases e:jh b=0
  .simp only[d,e,decide_true,Bool.not_true,cond_false,and_self,if_true];refine atJ ?_;refine atB (λh (c:pR)=>bF.mk c=h.foldl (λc m=>(hr c m).1) a/\dS (bF.mk c)) ?_ _ ⟨rfl,kC.1 d⟩ (λc g=>Ok.s (by rw[g.1];rfl));rintro h n r c bb j ⟨g,f⟩ l;have i:=(kC.1 e).ok n (by rw[j];simp);rw[FD f.gi (by have:=f.n;omega) (qi.sm i),aU];exact l _ ⟨by rw[List.foldl_append,<-g];rfl,f.put i⟩
  .simp[d,e]
 .simp[d]
end
section
structure Holds(N T:Nat)(F:List (Nat×Nat)):Prop where
 w:e5 F<=T
 b:∀p∈F,p.1<2 ^ p.2
 v:N=hp 0 F*2 ^ (T-e5 F)
def vJ:∀(a:Nat) (F:List (Nat×Nat)),hp a F=a*2 ^ e5 F+hp 0 F
 |a,[]=>by simp[hp,e5]
 |a,(v,w)::r=>by
  simp only[hp,e5];rw[vJ (a*2 ^ w+v) r,vJ (0*2 ^ w+v) r,Nat.add_mul,Nat.mul_assoc,<-Nat.pow_add,Nat.zero_mul,Nat.zero_add];omega
def FA:∀(F:List (Nat×Nat)),(∀p∈F,p.1<2 ^ p.2)->hp 0 F<2 ^ e5 F
 |[],_=>by simp[hp,e5]
 |(v,w)::r,h=>by
  simp only[hp,e5];rw[vJ];have d:=FA r λp c=>h p (by simp[c]);have a:v<2 ^ w:=h (v,w) (by simp);have b:(v+1)*2 ^ e5 r<=2 ^ w*2 ^ e5 r:=Nat.mul_le_mul_right _ a;rw[Nat.add_mul,Nat.one_mul,<-Nat.pow_add]at b;simp only[Nat.zero_mul,Nat.zero_add];omega
def Holds.He{N T v w:Nat}{r:List (Nat×Nat)}(h:Holds N T ((v,w)::r)):v=N / 2 ^ (T-w)/\Holds (N%2 ^ (T-w)) (T-w) r:=by
 have X:w+e5 r<=T:=h.w;have u:∀p∈r,p.1<2 ^ p.2:=λp Q=>h.b p (by simp[Q]);have q:=h.v;have e:hp 0 ((v,w)::r)=v*2 ^ e5 r+hp 0 r:=by
  show hp (0*2 ^ w+v) r=_;rw[vJ,Nat.zero_mul,Nat.zero_add]
 have O:=FA r u;have S:T-e5 ((v,w)::r)=T-w-e5 r:=by show T-(w+e5 r)=_;omega
 rw[e,S,Nat.add_mul,Nat.mul_assoc,<-Nat.pow_add,show e5 r+(T-w-e5 r)=T-w by omega]at q;have C:hp 0 r*2 ^ (T-w-e5 r)<2 ^ (T-w):=by
  have:2 ^ (T-w)=2 ^ e5 r*2 ^ (T-w-e5 r):=by rw[<-Nat.pow_add,show e5 r+(T-w-e5 r)=T-w by omega]
  rw[this];exact Nat.mul_lt_mul_of_pos_right O (Nat.two_pow_pos _)
 refine⟨?_,⟨by omega,u,?_⟩⟩
 .rw[q,Nat.mul_comm,Nat.mul_add_div (Nat.two_pow_pos _),Nat.div_eq_of_lt C,Nat.add_zero]
 .rw[q,Nat.mul_comm,Nat.mul_add_mod,Nat.mod_eq_of_lt C]
def Holds.same{N T v q w:Nat}{r r':List (Nat×Nat)}(h:Holds N T ((v,w)::r))(C:Holds N T ((q,w)::r')):v=q/\∃u aQ,Holds u aQ r/\Holds u aQ r':=by
 obtain⟨a,b⟩:=h.He;obtain⟨c,d⟩:=C.He;exact⟨a.trans c.symm,_,_,b,d⟩
def FE:∀(l m:uQ) (r r':List (Nat×Nat)) (N T:Nat),l.length=m.length->(∀x∈l,0<=x.dy/\0<=x.ig/\0<=x.dW)->(∀x∈m,0<=x.dy/\0<=x.ig/\0<=x.dW)->
  Holds N T (l.flatMap nk++r)->Holds N T (m.flatMap nk++r')->l=m/\∃g aQ,Holds g aQ r/\Holds g aQ r'
 |[],[],r,r',N,T,_,_,_,a,b=>⟨rfl,N,T,a,b⟩
 |[],_::_,_,_,_,_,a,_,_,_,_=>by simp at a
 |_::_,[],_,_,_,_,a,_,_,_,_=>by simp at a
 |x::l,y::m,r,r',N,T,h,e,f,a,b=>by
  obtain⟨w,_,_,a,b⟩:=Holds.same a b;obtain⟨z,_,_,a,b⟩:=Holds.same a b;obtain⟨k,_,_,a,b⟩:=Holds.same a b;obtain⟨i,j⟩:=FE l m r r' _ _ (by simpa using h) (λd c=>e d (by simp[c])) (λd c=>f d (by simp[c])) a b;refine⟨?_,j⟩;have o:=e x (by simp);have n:=f y (by simp)
  rw[i];congr 1
  obtain⟨q,p,s⟩:=x;obtain⟨u,t,v⟩:=y;simp only at *;rw[cV.mk.injEq];omega
def Kp{a b:Int}(d:ht a=true)(c:ht b=true)(h:mm a=mm b):a=b:=by
 simp only[ht,Bool.or_eq_true,decide_eq_true_eq]at d c;rcases d with rfl|rfl|rfl|rfl<;>rcases c with rfl|rfl|rfl|rfl<;>simp[mm]at h ⊢
def FF:∀(l m:sL) (r r':List (Nat×Nat)) (N T:Nat),l.length=m.length->(∀x∈l,0<=x.cg/\0<=x.aP/\ht x.Length=true)->(∀x∈m,0<=x.cg/\0<=x.aP/\ht x.Length=true)->
  Holds N T (l.flatMap p7++r)->Holds N T (m.flatMap p7++r')->l=m
 |[],[],_,_,_,_,_,_,_,_,_=>rfl
 |[],_::_,_,_,_,_,a,_,_,_,_=>by simp at a
 |_::_,[],_,_,_,_,a,_,_,_,_=>by simp at a
 |x::l,y::m,r,r',N,T,j,e,f,a,b=>by
  obtain⟨v,_,_,a,b⟩:=Holds.same a b;obtain⟨w,_,_,a,b⟩:=Holds.same a b;obtain⟨g,_,_,a,b⟩:=Holds.same a b;have k:=FF l m r r' _ _ (by simpa using j) (λd c=>e d (by simp[c])) (λd c=>f d (by simp[c])) a b;have i:=e x (by simp);have h:=f y (by simp)
  have n:=Kp i.2.2 h.2.2 g;rw[k];congr 1
  obtain⟨p,o,q⟩:=x;obtain⟨t,s,u⟩:=y;simp only at *;rw[dA.mk.injEq];omega
def LC(l:Int):mm l<4:=by unfold mm;split;omega;split;omega;split<;>omega
def MM{a b:aO}(k:dO a=true)(j:dO b=true)(h:hq a=hq b):a=b:=by
 have p:∀{a:aO},dO a=true->∃g,g<65536/\iE (hq a) (e5 (lq a++[(g,16)])) (hp 0 (lq a++[(g,16)]))/\(0<=a.Router/\0<=a.Seq)/\
   (∀c∈a.Links,0<=c.dy/\0<=c.ig/\0<=c.dW)/\(∀c∈a.Claims,0<=c.cg/\0<=c.aP/\ht c.Length=true)/\∀n∈lq a++[(g,16)],n.1<2 ^ n.2:=by
  intro a k;obtain⟨⟨G,_⟩,F,_,g,m,t⟩:=zU k;have D:hq a=G:=by unfold hq;rw[F]
  have j:=k;simp only[dO,dk,Bool.and_eq_true,decide_eq_true_eq,List.all_eq_true,ll,gG]at j;obtain⟨⟨⟨⟨⟨K,L⟩,⟨H,I⟩⟩,o⟩,⟨r,_⟩⟩,⟨J,q,_⟩⟩:=j;refine⟨g,m,D▸t,by omega,λc i=>?_,λc i=>?_,?_⟩
  .have:=r c i;omega
  .have:=q c i;exact⟨by omega,by omega,this.2⟩
  .intro n f;simp only[lq,oL,List.mem_append,List.mem_cons,List.not_mem_nil,or_false,List.mem_flatMap]at f;rcases f with(((rfl|rfl|rfl|rfl)|⟨c,i,f⟩)|rfl|⟨c,i,f⟩)|rfl
   .show a.Router.toNat<128;omega
   .show a.Seq.toNat<1048576;omega
   .show(bif a.bw then 1 else 0)<2;cases a.bw<;>decide
   .show a.Links.length<32;omega
   .have:=r c i;simp only[nk,List.mem_cons,List.not_mem_nil,or_false]at f;rcases f with rfl|rfl|rfl
    .show c.dy.toNat<128;omega
    .show c.ig.toNat<1024;omega
    .show c.dW.toNat<1024;omega
   .show a.Claims.length<16;omega
   .have:=q c i;simp only[p7,List.mem_cons,List.not_mem_nil,or_false]at f;rcases f with rfl|rfl|rfl
    .show c.cg.toNat<8;omega
    .show c.aP.toNat<512;omega
    .show mm c.Length<4;exact LC _
   .exact m
 obtain⟨g,m,s,M,o,dG,v⟩:=p k;obtain⟨E,X,l,N,z,bE,u⟩:=p j;rw[<-h]at l;have d:Holds (nE (hq a)) (8*(hq a).length) (lq a++[(g,16)]):=⟨s.le,v,s.num⟩;have e:Holds (nE (hq a)) (8*(hq a).length) (lq b++[(E,16)]):=⟨l.le,u,l.num⟩;unfold lq oL at d e;simp only[List.append_assoc,List.cons_append,List.nil_append]at d e;obtain⟨V,_,_,d,e⟩:=d.same e;obtain⟨W,_,_,d,e⟩:=d.same e;obtain⟨w,_,_,d,e⟩:=d.same e;obtain⟨A,_,_,d,e⟩:=d.same e;obtain⟨x,_,_,d,e⟩:=FE _ _ _ _ _ _ A o z d e;obtain⟨y,_,_,d,e⟩:=d.same e;have B:=FF _ _ _ _ _ _ y dG bE d e;obtain⟨R,S,ac,O,Q⟩:=a;obtain⟨T,U,C,Y,P⟩:=b;simp only at *;rw[aO.mk.injEq];refine⟨by omega,by omega,?_,x,B⟩;cases ac<;>cases C<;>simp at w<;>rfl
def CY:∀{l m:bR},(∀b∈l,0<=b/\b<256)->(∀b∈m,0<=b/\b<256)->jQ l=jQ m->l=m
 |[],[],_,_,_=>rfl
 |[],_::_,_,_,h=>by simp[jQ]at h
 |_::_,[],_,_,h=>by simp[jQ]at h
 |x::l,y::m,c,hm,h=>by
  simp only[jQ,List.map_cons,List.cons.injEq]at h;have f:=c x (by simp);have d:=hm y (by simp)
  have e:x.toNat=y.toNat:=by
   have:=congrArg UInt8.toNat h.1;simp only[UInt8.toNat_ofNat']at this;omega
  rw[CY (λb a=>c b (by simp[a])) (λb a=>hm b (by simp[a])) h.2,show x=y by omega]
def CZ{a:aO}(h:dO a=true):∀b∈hq a,0<=b/\b<256:=by
 obtain⟨⟨f,_⟩,e,_,i,g,c⟩:=zU h;have d:hq a=f:=by unfold hq;rw[e]
 rw[d];exact c.tf
def LD{a b:aO}(g:dO a=true)(e:dO b=true)(h:fM a b=false)(d:fM b a=false):a=b:=by
 simp only[fM,Bool.or_eq_false_iff,Bool.and_eq_false_iff,decide_eq_false_iff_not]at h d;have f:a.Seq=b.Seq:=by omega
 have j:¬0<fG (jQ (hq a)) (jQ (hq b)):=by rcases h.2 with c|c;exact absurd f c;exact c
 have i:¬0<fG (jQ (hq b)) (jQ (hq a)):=by rcases d.2 with c|c;exact absurd f.symm c;exact c
 rw[y2]at i;exact MM g e (CY (CZ g) (CZ e) (Ae (by omega)))
def jr(x y:aO):aO:=bif fM y x then y else x
def Qs{d e:bF}(a:dS d)(b:dS e){r:Int}{x y:aO}(j:look d r=some x)(c:look e r=some y):gq (some x) y=jr x y:=by
 obtain⟨i,h⟩:=(jI a).1 j;obtain⟨g,f⟩:=(jI b).1 c;simp only[gq,jr,jR,a.ok x i,b.ok y g,Bool.true_and];rw[h,f];simp
def js(o p:sg):sg:=match o,p with|some x,some y=>some (jr x y)|some x,none=>some x|none,p=>p
def MN{a b:bF}(e:dS a)(d:dS b)(r:Int):look (hC a b) r=js (look a r) (look b r):=by
 rw[J6 e d];cases f:look a r with
 |none=>cases c:look b r<;>rfl
 |some x=>
  cases c:look b r with
  |none=>rfl
  |some y=>simp only[Qs e d f c,js]
end
section
def hN(t:aK)(r n:Int):cV:=match t.Links.find? (λl=>ff l r n)with|some l=>cV.mk n (hn r n l).1 l.dW|none=>cV.mk n 0 0
def nK(t:aK)(r:Int):Bool:=match t.aL.find? (λa=>decide (a.aP=r))with|some a=>a.bw|none=>false
def ec(t:aK)(r seq:Int)(cl:sL):aO:=aO.mk r seq (nK t r) ((gc t r).map (hN t r)) cl
variable {t:aK}
def E0(e:cU t){x:bk}(b:x∈t.aL):nK t x.aP=x.bw:=by
 unfold nK;cases a:t.aL.find? (λc=>decide (c.aP=x.aP))with
 |none=>have:=List.find?_eq_none.1 a x b;simp at this
 |some c=>
  have f:=List.mem_of_find?_eq_some a;have d:=List.find?_some a;simp only[Pe e f b (by simpa using d)]
def om(t:aK)(r n:Int):(hN t r n).dy=n:=by unfold hN;split<;>rfl
variable {l:aR}
def zX(d:cU t){a b:Int}(e:l∈t.Links)(g:ff l a b=true):hN t a b=cV.mk b (hn a b l).1 l.dW:=by
 unfold hN;cases c:t.Links.find? (λl=>ff l a b)with
 |none=>exact absurd g (List.find?_eq_none.1 c l e)
 |some x=>
  have f:=List.mem_of_find?_eq_some c;have h:=List.find?_some c;have j:=d.lt _ e;have i:=d.lt _ f;simp[ff]at g h;rw[FN d f e (by omega) (by omega)]
def Af(a:cU t)(b:l∈t.Links):hN t l.A l.B=cV.mk l.B l.gn l.dW:=by
 rw[zX a b (by simp[ff])];simp[hn]
def Ag(a:cU t)(b:l∈t.Links):hN t l.B l.A=cV.mk l.A l.gd l.dW:=by
 have:=a.lt _ b;rw[zX a b (by simp[ff])];have c:(decide (l.A=l.B)&&decide (l.B=l.A))=false:=by simp;omega
 simp only[hn,c,cond_false]
def LF(b:cU t)(r:Int):x6 t r=some (nK t r):=by
 unfold x6;simp only[yY,aU,gj.2 b,decide_true,Bool.not_true,cond_false];refine(u1 (λa:bk=>decide (a.aP=r)) (λa=>some a.bw) (λ_ _ _ _=>rfl) _ _ _).trans ?_;unfold nK;cases t.aL.find? (λa=>decide (a.aP=r))<;>rfl
variable {r:Int}
def ET(c:cU t)(g:r∈ids t):(gc t r).length<=23:=by
 have h:r∉gc t r:=λe=>AJ c ((hT c).1 e) rfl;have f:(gc t r).Nodup:=(p3 c r).imp λe=>by omega
 have:=kj (a:=r::gc t r) (b:=ids t) (List.nodup_cons.2 ⟨h,f⟩) λj d=>by
  rcases List.mem_cons.1 d with rfl|d
  .exact g
  .exact(List.mem_filter.1 d).1
 have i:=sr c;simp only[List.length_cons]at this;omega
def OR{α:Type}{p:α->α->Bool}{l:List α}(h:l.Pairwise λa b=>p a b=true):gZ p l=true:=pM h
def Dt(a:cU t)(g:r∈ids t)(seq:Int)(cl:sL):dO (ec t r seq cl)=(dk seq 1 1000000&&(decide ((cl.length:Int)<=8)&&(cl.all gG&&oS cl))):=by
 have B:=ET a g;have s:dk r 1 99=true:=by
  obtain⟨h,b,u⟩:=List.mem_map.1 g;have:=a.q3 h b;simp only[dk,Bool.and_eq_true,decide_eq_true_eq];omega
 have o:((gc t r).map (hN t r)).all (ll (ec t r seq cl))=true:=by
  rw[List.all_eq_true];intro h b;obtain⟨f,q,rfl⟩:=List.mem_map.1 b;have c:=(hT a).1 q;obtain⟨x,j,u⟩:=List.mem_map.1 (k8 a c);have A:=a.q3 x j;obtain⟨l,d,z⟩:=hJ.1 c;have y:=a.lt l d;have i:=a.xU l d;simp only[lH,mj,Bool.or_eq_false_iff,Bool.not_eq_false',Bool.and_eq_true,decide_eq_true_eq,decide_eq_false_iff_not]at i;have m:=AJ a c;rw[zX a d (by simp[ff];omega)];have k:1<=(hn r f l).1/\(hn r f l).1<=1000:=by
   unfold hn;simp only;cases(decide (l.A=r)&&decide (l.B=f))<;>simp<;>omega
  have p:(ec t r seq cl).Router=r:=rfl;simp only[ll,dk,p,Bool.and_eq_true,decide_eq_true_eq,Bool.not_eq_true',decide_eq_false_iff_not];exact⟨⟨⟨⟨by omega,by omega⟩,λe=>m e.symm⟩,k⟩,by omega,by omega⟩
 have n:qE ((gc t r).map (hN t r))=true:=by
  refine OR (List.pairwise_map.2 ((p3 a r).imp λe=>?_));simp only[om,decide_eq_true_eq];exact e
 have v:(ec t r seq cl).Links=(gc t r).map (hN t r):=rfl;unfold dO;rw[v,o,n];have w:decide ((((gc t r).map (hN t r)).length:Int)<=23)=true:=by simp;omega
 rw[w];show(dk r 1 99&&dk seq 1 1000000&&true&&(true&&true)&&(decide ((cl.length:Int)<=8)&&(cl.all gG&&oS cl)))=_;rw[s];simp
end
section
def qQ(l m:aR):Prop:=l.B<m.B\/(l.B=m.B/\l.A<m.A)
def Kq{l:jC}(Y:l.length<=1000000)(i:l.Pairwise qQ):Ok (uV l) (λm=>m.Pairwise (λa b=>eG a b=true)/\(∀x,x∈m↔x∈l)/\m.length=l.length):=by
 unfold uV;refine atB (λn m=>m.Pairwise (λa b=>eG a b=true)/\(∀x,x∈m↔x∈n)/\m.length=n.length) ?_ _ ⟨by simp,by simp,rfl⟩ λf r=>Ok.s r;rintro n x ab f bb z ⟨u,C,V⟩ I;have T:n.length<l.length:=by rw[z];simp
 have J:∀d∈f,eG d x=false->eG x d=true:=λd e c=>by
  rw[z]at i;have:=(List.pairwise_append.1 i).2.2 d ((C d).1 e) x (by simp);simp only[eG,Bool.or_eq_false_iff,Bool.and_eq_false_iff,decide_eq_false_iff_not,Bool.or_eq_true,Bool.and_eq_true,decide_eq_true_eq]at *;unfold qQ at this;omega
 refine atT (λj:Int=>(0<=j/\j<=f.length)/\∀d∈f.take j.toNat,eG d x=true) (λj=>((f.length:Int)-j).toNat) ⟨by omega,by simp⟩ (by omega) ?_;rintro a Q ⟨⟨L,U⟩,s⟩ K;refine atD (λy:Bool=>(y=true->∃c:a.toNat<f.length,eG f[a.toNat] x=true)/\(y=false->∀c:a.toNat<f.length,eG f[a.toNat] x=false)) ?_ ?_
 .rintro y ⟨H,v⟩;refine Ok.cs (λc=>?_) λc=>?_
  .obtain⟨h,g⟩:=H c;rw[et (by omega) (by omega)];refine K _ ⟨by omega,λd e=>?_⟩ (by omega);rw[show(a+1).toNat=a.toNat+1 by omega,List.take_succ_eq_append_getElem h]at e;rcases List.mem_append.1 e with e|e
   .exact s d e
   .simp at e;subst e;exact g
  .have v:=v c;refine Ok.aa (sJ ⟨by omega,by omega,by omega⟩) λS h=>?_;refine Ok.aa (nu (by simp;omega)) λR g=>?_;refine Ok.aa (nu (by simp at g ⊢;omega)) λW A=>?_;refine Ok.aa (sJ ⟨by omega,by omega,by omega⟩) λX G=>?_;refine Ok.aa (nu (by simp at g A ⊢;omega)) λM F=>?_;have t:M=f.take a.toNat++x::f.drop a.toNat:=by
    rw[F.1,A.1,g.1,h.1,G.1];simp
   have D:∀d∈f.drop a.toNat,eG x d=true:=λd e=>by
    have o:a.toNat<f.length:=by
     have:=List.length_pos_of_mem e;rw[List.length_drop]at this;omega
    rw[List.drop_eq_getElem_cons o]at e;have E:=J _ (List.getElem_mem o) (v o);rcases List.mem_cons.1 e with rfl|e
    .exact E
    .have B:(f.drop a.toNat).Pairwise (λa b=>eG a b=true):=u.sublist (List.drop_sublist _ _);rw[List.drop_eq_getElem_cons o,List.pairwise_cons]at B;exact y0 _ _ _ E (B.1 d e)
   refine I _ ⟨?_,λd=>?_,?_⟩
   .rw[t];refine List.pairwise_append.2 ⟨u.sublist (List.take_sublist _ _),List.pairwise_cons.2 ⟨D,u.sublist (List.drop_sublist _ _)⟩,λd e O w=>?_⟩;rcases List.mem_cons.1 w with rfl|w
    .exact s d e
    .exact y0 _ _ _ (s d e) (D O w)
   .have r:=List.take_append_drop a.toNat f;have:d∈f↔d∈f.take a.toNat\/d∈f.drop a.toNat:=by rw[<-List.mem_append,r]
    rw[t,List.mem_append,List.mem_cons,List.mem_append,List.mem_singleton,<-C d,this];constructor
    .rintro(c|c|c);exact .inl (.inl c);exact .inr c;exact .inl (.inr c)
    .rintro((c|c)|c);exact .inl c;exact .inr (.inr c);exact .inr (.inl c)
   .rw[t];simp;omega
 .intro P q;refine Ok.cs (λc=>?_) λc=>q _ ⟨by simp,λ_ g=>by simp at c;omega⟩;simp at c;refine Ok.aa (lf L c) λZ N=>?_;obtain⟨h,g⟩:=List.getElem?_eq_some_iff.1 N.2;subst g;refine Ok.cs (λk=>q _ ⟨λ_=>⟨h,by simp[eG];simp at k;omega⟩,by simp⟩) λk=>?_;refine Ok.cs (λp=>?_) λp=>q _ ⟨by simp,λ_ _=>by simp[eG];simp at k p;omega⟩;refine q _ ⟨λi=>⟨h,?_⟩,λi _=>?_⟩
  .simp at k p i;simp[eG];omega
  .simp at k p i;simp[eG];omega
def qF(l:aR):Prop:=1<=l.A/\l.A<l.B/\(1<=l.gn/\l.gn<=5)/\(1<=l.gd/\l.gd<=5)/\0<=l.dW/\l.dW<=3
structure Ct(g:aK)(ez:Int):Prop where
 v:cU g
 n:1<=g.aL.length/\(g.aL.length:Int)<=ez
 i:∀r∈g.aL,r.aP<=ez
 c:∀r∈g.aL,r.bw=true
 all:∀i:Int,1<=i->i<=(g.aL.length:Int)->∃r∈g.aL,r.aP=i
def JB{t:bH}{z:Int}(h:e7 t)(O:1<=z/\z<=8):Ok (tV t z 0) (λp=>Ct p.1 z/\e7 p.2):=by
 unfold tV;refine Ok.aa (vH h) λp E=>?_;obtain⟨ab,E⟩:=E;have ab:=ab (by omega) (by omega) (by omega);refine atO (by simp;omega) ?_;refine atY (λl (u:pK)=>(u.length:Int)=l-1/\u.Pairwise (λi g=>i.aP<g.aP)/\(∀e∈u,1<=e.aP/\e.aP<l)/\(∀k,1<=k->k<l->∃e∈u,e.aP=k)/\∀e∈u,e.bw=true) 1 (p.1+1) ?_ ?_ _ _ _ rfl (by omega) (by omega) ⟨by simp,by simp,by simp,λk N D=>by omega,by simp⟩
 .rintro k a bb N D ⟨A,aG,s,aH,aI⟩ G;refine Ok.aa (nu (by simp;omega)) λba n=>G _ ⟨by have:=n.2;simp at this;omega,?_,?_,?_,?_⟩
  .rw[n.1];refine List.pairwise_append.2 ⟨aG,by simp,λi aT g P=>?_⟩;have:=s i aT;simp at P;subst P;exact this.2
  .rw[n.1];intro e d
   rcases List.mem_append.1 d with d|d
   .have:=s e d;omega
   .simp at d;subst d;simp only;omega
  .rw[n.1];intro l af a1
   by_cases aU:l=k
   .exact⟨bk.mk k true,List.mem_append_right _ (by simp),aU.symm⟩
   .obtain⟨e,d,aV⟩:=aH l af (by omega);exact⟨e,List.mem_append_left _ d,aV⟩
  .rw[n.1];intro e d
   rcases List.mem_append.1 d with d|d
   .exact aI e d
   .simp at d;subst d;rfl
 rintro k aX bi M ⟨bo,aC,Y,L,aM⟩;have M:=M (by omega);subst M;refine Ok.aa (vT E (by decide) (by decide)) λZ V=>?_;have X:1<=Z.1/\Z.1<=5:=by have:=V.1;simp at this;omega
 refine atO (by simp;omega) ?_;refine atY (λl (a:jC×bR×Int)=>((a.1.length:Int)<=8*(l-2)/\(∀b∈a.1,qF b/\b.B<l)/\a.1.Pairwise qQ)/\e7 (bH.mk a.2.1 a.2.2)) 2 (if 2<=p.1+1 then p.1+1 else 2) ?_ ?_ _ _ _ ?_ (by omega) ?_ ⟨by simp,V.2⟩
 .intro g a bb ak o A G;have aw:g<p.1+1:=by split at o<;>omega
  obtain⟨a9,a0,At⟩:=a;obtain⟨⟨F,q,x⟩,C⟩:=A;simp only at F q x;refine Ok.aa (vH C) λbu aQ=>?_;refine Ok.aa (wj aQ.2 (by omega)) λbv aE=>?_;refine atO (by simp;omega) ?_;refine atY (λi (a:jC×bR×Int)=>((a.1.length:Int)<=8*(g-2)+(i-1)/\(∀b∈a.1,qF b/\(b.B<g\/b.B=g/\b.A<i))/\a.1.Pairwise qQ)/\e7 (bH.mk a.2.1 a.2.2)) 1 g ?_ ?_ _ _ _ rfl (by omega) (by omega) ⟨⟨by simp only;omega,λb c=>⟨(q b c).1,.inl (q b c).2⟩,x⟩,aE⟩
  .intro i a bj W B s aJ;obtain⟨au,ax,aD⟩:=a;obtain⟨⟨J,j,r⟩,y⟩:=s;simp only at J j r;refine atD (λa:bR×Int×jC=>((a.2.2.length:Int)<=8*(g-2)+i/\(∀b∈a.2.2,qF b/\(b.B<g\/b.B=g/\b.A<i+1))/\a.2.2.Pairwise qQ)/\e7 (bH.mk a.1 a.2.1)) (λa v=>aJ _ ⟨by have h:=v.1;obtain⟨_,_,_⟩:=a;simp only at h ⊢;exact⟨by omega,h.2⟩,v.2⟩) λa3 Q=>?_;refine atD (λa:Bool×bR×Int=>e7 (bH.mk a.2.1 a.2.2)) (λa v=>?_) λa5 H=>?_
   .obtain⟨bz,bs,bt⟩:=a;refine Ok.cs (λ_=>?_) λ_=>Q _ ⟨⟨by simp only;omega,λb c=>⟨(j b c).1,by have:=(j b c).2;omega⟩,r⟩,v⟩;refine Ok.aa (vH v) λa4 R=>?_;refine Ok.aa (vH R.2) λa6 U=>?_;refine Ok.aa (i3 U.2 (by omega)) λaq I=>?_;have T:=R.1 (by omega) (by omega) (by omega);have S:=U.1 (by omega) (by omega) (by omega);have a7:=I.1.2.1 (by omega);have aF:=I.1.1;refine Ok.aa (nu (by simp;omega)) λa8 w=>Q _ ⟨⟨by have:=w.2;rw[List.length_cons,List.length_nil]at this;simp only;omega,?_,?_⟩,I.2⟩
    .simp only[w.1];intro b c
     rcases List.mem_append.1 c with c|c
     .exact⟨(j b c).1,by have:=(j b c).2;omega⟩
     .simp only[List.mem_singleton]at c;subst c
      exact⟨⟨W,B,⟨T.1,Int.le_trans T.2 X.2⟩,⟨S.1,Int.le_trans S.2 X.2⟩,aF,by show aq.1<=3;omega⟩,.inr ⟨rfl,by show i<i+1;omega⟩⟩
    .simp only[w.1];refine List.pairwise_append.2 ⟨r,by simp,λb c u O=>?_⟩;have:=(j b c).2;simp at O;subst O;unfold qQ;simp only;omega
   .refine Ok.cs (λ_=>?_) λ_=>Ok.aa (wj y (by omega)) λaW h=>H _ h;exact Ok.cs (λ_=>H _ y) λ_=>Ok.aa (wj y (by omega)) λaW h=>H _ h
  .intro i a W B s;have B:=B (by omega);obtain⟨au,ax,aD⟩:=a;obtain⟨⟨J,j,r⟩,y⟩:=s;simp only at J j r;exact G _ ⟨⟨by simp only;omega,λb c=>⟨(j b c).1,by have:=(j b c).2;omega⟩,r⟩,y⟩
 .intro g a ak o A;have o:=o (by split<;>omega);have aw:g<=9:=by split at o<;>omega
  obtain⟨bh,bl,bp⟩:=a;obtain⟨⟨F,q,x⟩,C⟩:=A;simp only at F q x;refine Ok.aa (Kq (by omega) x) λb c=>?_;obtain⟨n,w,bq⟩:=c;have av:Ct (aK.mk aX b) z:=by
   have br:g=p.1+1:=by split at o<;>omega
   have K:∀f∈b,qF f/\f.B<p.1+1:=λf m=>by
    have:=q f ((w f).1 m);exact⟨this.1,by omega⟩
   refine⟨⟨by simp only;omega,by simp only;omega,λe d=>by have:=Y e d;omega,aC,λf m=>?_,λf m=>?_,λf m=>(K f m).1.2.1,n⟩,by simp only;omega,λe d=>by have:=Y e d;omega,aM,λk N D=>L k N (by simp only at D;omega)⟩
   .have:=(K f m).1;unfold qF at this;have ae:mj f.gn=true:=by simp[mj];omega
    have ah:mj f.gd=true:=by simp[mj];omega
    simp only[lH,ae,ah,Bool.not_true,Bool.or_self,Bool.false_or,Bool.or_eq_false_iff,decide_eq_false_iff_not];omega
   .have:=K f m;unfold qF at this;obtain⟨an,aj,ai⟩:=L f.A (by omega) (by omega);obtain⟨ao,am,ar⟩:=L f.B (by omega) (by omega);exact⟨r3.2 ⟨an,aj,ai⟩,r3.2 ⟨ao,am,ar⟩⟩
  simp only[jn];exact Ok.s ⟨av,C⟩
 .split<;>omega
 .split<;>omega
end
section
def l7(r:Int)(l:aR):Option cV:=if r=l.A then some (cV.mk l.B l.gn l.dW)else if r=l.B then some (cV.mk l.A l.gd l.dW)else none
def LG{t:aK}(e:cU t)(r:Int):t.Links.filterMap (l7 r)=(gc t r).map (hN t r):=by
 have f:∀a∈t.Links,a.A<a.B:=λa b=>e.lt a b;refine uW (r:=λg i:cV=>g.dy<i.dy) (λg=>Int.lt_irrefl _) (λg i v=>Int.lt_trans) ?_ ?_ λq=>?_
 .rw[List.pairwise_filterMap];refine List.Pairwise.imp_of_mem (λ{a p} b o k q c x d=>?_) e.oR;have j:=f a b;have s:=f p o
  have u:=Nn.1 k;unfold l7 at c d;split at c
  .cases c;split at d
   .cases d;simp only;omega
   .split at d
    .cases d;simp only;omega
    .cases d
  .split at c
   .cases c;split at d
    .cases d;simp only;omega
    .split at d
     .cases d;simp only;omega
     .cases d
   .cases c
 .exact List.pairwise_map.2 ((p3 e r).imp λn=>by simp only[om];exact n)
 .rw[List.mem_filterMap,List.mem_map];constructor
  .rintro⟨a,b,c⟩;have j:=f a b;unfold l7 at c;split at c
   .cases c;rename_i h;subst h
    exact⟨a.B,(hT e).2 (hJ.2 ⟨a,b,.inl ⟨rfl,rfl⟩⟩),Af e b⟩
   .split at c
    .cases c;rename_i h;subst h
     exact⟨a.A,(hT e).2 (hJ.2 ⟨a,b,.inr ⟨rfl,rfl⟩⟩),Ag e b⟩
    .cases c
  .rintro⟨w,m,rfl⟩;obtain⟨a,b,l⟩:=hJ.1 ((hT e).1 m);have j:=f a b;refine⟨a,b,?_⟩;unfold l7;rcases l with⟨rfl,rfl⟩|⟨rfl,rfl⟩
   .rw[if_pos rfl,Af e b]
   .rw[if_neg (by omega),if_pos rfl,Ag e b]
end
section
def u2{α a β:Type}(f:α->a){K:List a->Option β}:∀(l:List α) (j:Nat) (s:List a),s.length+l.length<=1000000->bL l j (λ(_:Int) (e:α) (bb:List a->Option β) (o:List a)=>aa (dr o ([f e]:List a)) λl=>bb l) K s=K (s++l.map f)
 |[],_,s,_=>by simp[bL]
 |x::r,j,s,h=>by
  simp only[bL];simp only[List.length_cons]at h;rw[ga (by simp;omega),aU,u2 f r (j+1) _ (by simp;omega)];simp
def aN(f:aA):aK:=aK.mk (f.ay.map λa=>bk.mk a.Router a.bw) f.Links
def nA(f:aA):Prop:=f.Links.length<=100000/\f.ay.length<=100000
variable {f:aA}
def zo(h:nA f):nX f=some (aN f):=by
 unfold nX;rw[u2 (λa:a2=>bk.mk a.Router a.bw) f.ay 0 [] (by have:=h.2;simp;omega)];rfl
def su{l:jC}(h:l.length<=100000):mO l=some l:=by
 unfold mO tq;rw[ga (by simp;omega)];rfl
def qj(h:nA f):kW f=some (aN f):=by
 unfold kW;rw[su h.1,aU,u2 (λa:a2=>bk.mk a.Router a.bw) f.ay 0 [] (by have:=h.2;simp;omega)];rfl
def kQ(r:Int):kT->Nat->Int
 |[],_=>-1
 |x::l,a=>bif decide (x.Router=r)then(a:Int)else kQ r l (a+1)
def Du{B:Int->a2->(Unit->gA)->Unit->gA}{K:Unit->gA}{r:Int}(a:∀j x bb s,B j x bb s=bif decide (x.Router=r)then some j else bb s)(b:∀s,K s=some (-1)):∀(l:kT) (j:Nat) (s:Unit),bL l j B K s=some (kQ r l j)
 |[],_,s=>b s
 |x::l,j,s=>by
  simp only[bL,a,kQ,Du a b l (j+1) s];cases decide (x.Router=r)<;>rfl
def hs(f:aA)(r:Int):Int:=kQ r f.ay 0
def vX(f:aA)(r:Int):mX f r=some (hs f r,decide (0<=hs f r)):=by
 unfold mX xm;rw[Du (r:=r) (λb c bb a=>by simp only[xZ,aU]) (λa=>rfl)];rfl
def E1(r:Int):∀(l p:kT),(kQ r l p.length = -1/\∀x∈l,x.Router≠r)\/∃a x b,l=a++x::b/\kQ r l p.length=((p.length+a.length:Nat):Int)/\x.Router=r
 |[],_=>.inl ⟨rfl,by simp⟩
 |x::l,p=>by
  by_cases c:x.Router=r
  .exact .inr ⟨[],x,l,rfl,by simp[kQ,c],c⟩
  .have:=E1 r l (p++[x]);simp only[List.length_append,List.length_cons,List.length_nil]at this;rcases this with⟨e,d⟩|⟨a,h,b,e,d,g⟩
   .exact .inl ⟨by simp only[kQ,c,decide_false,cond_false];exact e,λi f=>by
     rcases List.mem_cons.1 f with rfl|f
     .exact c
     .exact d i f⟩
   .exact .inr ⟨x::a,h,b,by rw[e];rfl,by simp only[kQ,c,decide_false,cond_false];rw[d];simp;omega,g⟩
def uY(f:aA)(r:Int):(hs f r = -1/\∀x∈f.ay,x.Router≠r)\/∃a x b,f.ay=a++x::b/\hs f r=(a.length:Int)/\x.Router=r:=by
 have:=E1 r f.ay [];simpa [hs]using this
def jM(l:sL):Bool:=decide ((l.length:Int)<=8)&&(l.all gG&&oS l)
def uu(n:a2):Bool:=decide (0<=n.Seq)&&(decide (n.Seq<=1000000)&&(jM n.Claims&&decide (jh n.Database=0)))
def us(f:aA)(m:bS):Bool:=decide (0<=hs f m.c4)&&(decide (0<=hs f m.bW)&&(!decide (m.c4=m.bW)&&decide (jh m.Database=0)))
def qa(f:aA):Bool:=decide (gp (aN f)=0)&&(!decide ((400:Int)<(f.aY.length:Int))&&(f.ay.all uu&&f.aY.all (us f)))
variable {α:Type}
def zY{β:Type}{B:Int->α->(Unit->Option β)->Unit->Option β}{K:Unit->Option β}(p:α->Bool)(a:Option β)(l:List α)(b:∀j,∀x∈l,∀bb,B j x bb ()=bif p x then bb ()else a):∀(j:Nat),bL l j B K ()=bif l.all p then K ()else a:=by
 induction l with
 |nil=>intro j;rfl
 |cons x r d=>
  intro j;simp only[bL];rw[b _ x (by simp),d (λj e c=>b j e (by simp[c])),List.all_cons];cases p x<;>rfl
def k9{n:a2}(a:n∈f.ay):n.Router∈ids (aN f):=by
 unfold ids aN;simp only[List.map_map];exact List.mem_map.2 ⟨n,a,rfl⟩
variable {r:Int}{t:aK}
def JC(b:cU t)(c:r∈ids t):dk r 1 99=true:=by
 obtain⟨d,a,rfl⟩:=List.mem_map.1 c;have:=b.q3 d a;simp[dk];omega
def k4(h:nA f):ji f=some (bif qa f then 0 else 1):=by
 unfold ji qa;simp only[jn,qj h,pU,aU];by_cases c:gp (aN f)=0
 .have j:=gj.1 c;by_cases g:(400:Int)<(f.aY.length:Int)
  .simp[c,g]
  .simp only[c,g,decide_true,decide_false,Bool.not_true,Bool.not_false,cond_false,Bool.true_and];rw[zY uu (some 1) f.ay]
   .rw[zY (us f) (some 1) f.aY]
    .cases f.ay.all uu<;>cases f.aY.all (us f)<;>rfl
    .intro m a e bb;simp only[vX,vj,aU,us];cases b:decide (0<=hs f a.c4)<;>cases d:decide (0<=hs f a.bW)<;>cases n:decide (a.c4=a.bW)<;>cases i:decide (jh a.Database=0)<;>simp
   .intro m a e bb;have k:=JC j (k9 e);have l:dO (aO.mk a.Router 1 false [] a.Claims)=jM a.Claims:=by
     simp only[dO,k,jM,List.all_nil,qE,gZ,List.length_nil,Bool.true_and,Bool.and_true];rfl
    simp only[r4,l,vj,aU,uu];by_cases b:a.Seq<0
    .simp[b,show ¬0<=a.Seq by omega]
    by_cases d:1000000<a.Seq
    .simp[b,d,show ¬a.Seq<=1000000 by omega]
    .simp only[b,d,decide_false,cond_false,show 0<=a.Seq by omega,show a.Seq<=1000000 by omega,decide_true,Bool.true_and];cases jM a.Claims<;>cases i:decide (jh a.Database=0)<;>simp
 .simp[c]
structure cI(f:aA):Prop where
 t:cU (aN f)
 m:f.aY.length<=400
 n:∀n∈f.ay,(0<=n.Seq/\n.Seq<=1000000)/\jM n.Claims=true/\dS n.Database
 g:∀m∈f.aY,0<=hs f m.c4/\0<=hs f m.bW/\m.c4≠m.bW/\dS m.Database
def kD:qa f=true↔cI f:=by
 unfold qa;simp only[Bool.and_eq_true,decide_eq_true_eq,Bool.not_eq_true',decide_eq_false_iff_not,List.all_eq_true,uu,us];constructor
 .rintro⟨i,j,h,g⟩;exact⟨gj.1 i,by omega,λe b=>by have:=h e b;exact⟨⟨this.1,this.2.1⟩,this.2.2.1,kC.1 this.2.2.2⟩,λd c=>by have:=g d c;exact⟨this.1,this.2.1,this.2.2.1,kC.1 this.2.2.2⟩⟩
 .intro a;exact⟨gj.2 a.t,by have:=a.m;omega,λe b=>by have:=a.n e b;exact⟨this.1.1,this.1.2,this.2.1,kC.2 this.2.2⟩,λd c=>by have:=a.g d c;exact⟨this.1,this.2.1,this.2.2.1,kC.2 this.2.2.2⟩⟩
def cI.len(h:cI f):f.ay.length<=24:=by have:=h.t.iP;simpa [aN]using this
def cI.gi{f:aA}(h:cI f):f.ay.Pairwise λa b=>a.Router<b.Router:=by
 have:=h.t.gi;simp only[aN,List.pairwise_map]at this;exact this
def cI.idx(h:cI f){a b:kT}{n:a2}(C:f.ay=a++n::b):hs f n.Router=(a.length:Int):=by
 have ae:=h.gi;rw[C]at ae;rcases uY f n.Router with⟨_,O⟩|⟨q,x,ah,ab,O,ai⟩
 .exact absurd rfl (O n (by rw[C];simp))
 .rw[O];have af:q.length=a.length:=by
   have Q:=List.pairwise_iff_getElem.1 h.gi;have Y:∀(h:a.length<f.ay.length),f.ay[a.length]=n:=λh=>by simp[C]
   have Z:∀(h:q.length<f.ay.length),f.ay[q.length]=x:=λh=>by simp[ab]
   have X:a.length<f.ay.length:=by rw[C];simp
   have S:q.length<f.ay.length:=by rw[ab];simp
   rcases Nat.lt_trichotomy a.length q.length with u|u|u
   .have:=Q _ _ X S u;rw[Y,Z]at this;omega
   .exact u.symm
   .have:=Q _ _ S X u;rw[Y,Z]at this;omega
  rw[af]
def Qt(e:cU t)(k:r∈ids t)(seq:Int){cl:sL}(q:cl.length<=100000):uS t r seq cl=some (bif dO (ec t r seq cl)then(ec t r seq cl,0)else(km,2)):=by
 have v:=e.iP;have w:=e.nl
 obtain⟨o,l,m⟩:=J4 t r (by omega);have n:o=nK t r:=cw (m.symm.trans (LF e r));subst n;refine atJ ?_;unfold uS;simp only[pU,vV t r (show t.aL.length<=1000000 by omega),l,aU,gj.2 e,ku.1 k,decide_true,Bool.not_true,cond_false,Bool.true_and];rw[ga (by simp;omega),aU];refine atB (λf (g:uQ)=>g=f.filterMap (l7 r)/\g.length<=f.length) ?_ _ ⟨rfl,by simp⟩ ?_
 .rintro f a p g bb j ⟨d,u⟩ h;have s:f.length<t.Links.length:=by rw[j];simp
  simp only[jn];refine Ok.cs (λb=>?_) λb=>?_
  .have b:r=a.A:=by simpa using b
   rw[ga (by simp;omega),aU];refine h _ ⟨?_,by simp;omega⟩;rw[List.filterMap_append,d];simp[l7,b]
  .have b:r≠a.A:=by simpa using b
   refine Ok.cs (λc=>?_) λc=>?_
   .have c:r=a.B:=by simpa using c
    rw[ga (by simp;omega),aU];refine h _ ⟨?_,by simp;omega⟩;have i:l7 r a=some (cV.mk a.A a.gd a.dW):=by unfold l7;rw[if_neg b,if_pos c]
    rw[List.filterMap_append,d,List.filterMap_cons,i];rfl
   .have c:r≠a.B:=by simpa using c
    refine h _ ⟨?_,by simp;omega⟩;have i:l7 r a=none:=by unfold l7;rw[if_neg b,if_neg c]
    rw[List.filterMap_append,d,List.filterMap_cons,i];simp
 .rintro g ⟨d,_⟩;rw[LG e]at d;subst d;rw[r4,aU];show Ok (bif !dO (ec t r seq cl)then _ else _) _;cases dO (ec t r seq cl)
  .exact Ok.s rfl
  .exact Ok.s rfl
def kR(f:aA)(n:a2)(seq:Int):aO×Bool:=bif dk seq 1 1000000 then(ec (aN f) n.Router seq n.Claims,true)else(km,false)
def Dv(h:cI f){n:a2}(a:n∈f.ay)(seq:Int):dO (ec (aN f) n.Router seq n.Claims)=dk seq 1 1000000:=by
 rw[Dt h.t (k9 a)];have:=(h.n n a).2.1;unfold jM at this;rw[this,Bool.and_true]
def cI.sm(h:cI f):nA f:=by have u:=h.len;have q:=h.t.nl;exact⟨by have:f.Links.length<=60:=q;omega,by omega⟩
def y8{l:sL}(h:jM l=true):l.length<=100000:=by
 simp only[jM,Bool.and_eq_true,decide_eq_true_eq]at h;omega
def sM(h:cI f){n:a2}(a:n∈f.ay):m2 f n=some (bif decide (n.Seq=0)then(km,false)else kR f n n.Seq):=by
 unfold m2;cases b:decide (n.Seq=0)
 .simp only[cond_false];rw[qj h.sm,aU,Qt h.t (k9 a) n.Seq (y8 (h.n n a).2.1),Dv h a,aU];unfold kR;cases dk n.Seq 1 1000000<;>rfl
 .rfl
def Ah(e:α->α->Bool)(h:∀a b,e a b=true↔a=b):∀(l m:List α),(decide ((l.length:Int)=m.length)&&(l.zip m).all (λp=>e p.1 p.2))=true↔l=m:=by
 intro l;induction l with
 |nil=>intro m;cases m<;>simp;omega
 |cons x l f=>
  intro m;cases m with
  |nil=>simp;omega
  |cons y m=>
   have:=f m;simp only[Bool.and_eq_true,decide_eq_true_eq]at this;simp only[List.length_cons,List.zip_cons_cons,List.all_cons,Bool.and_eq_true,decide_eq_true_eq,List.cons.injEq,h,<-this];constructor
   .rintro⟨g,c,d⟩;exact⟨c,by omega,d⟩
   .rintro⟨c,g,d⟩;exact⟨by omega,c,d⟩
def JT(a b:cV):oc a b=true↔a=b:=by cases a;cases b;simp[oc]
def JU(a b:dA):od a b=true↔a=b:=by cases a;cases b;simp[od]
def u3(a b:aO):jT a b=true↔a=b:=by
 obtain⟨l,k,n,f,g⟩:=a;obtain⟨j,i,m,e,h⟩:=b;have d:=Ah oc JT f e;have c:=Ah od JU g h;simp only[jT,ta,tb,Bool.and_eq_true]at d c ⊢;rw[d,c];simp only[decide_eq_true_eq,beq_iff_eq,aO.mk.injEq]
def Kr(a b:bF):oK a b=true↔a=b:=by
 obtain⟨a⟩:=a;obtain⟨b⟩:=b;have:=Ah jT u3 a b;simp only[oK,bF.mk.injEq];exact this
end
section
def mF{α:Type}(P:List α->α->Bool):List α->List α->Bool
 |_,[]=>true
 |p,x::r=>P p x&&mF P (p++[x]) r
def Ks{α β:Type}{B:Int->α->(Unit->Option β)->Unit->Option β}{K:Unit->Option β}{L:List α}(P:List α->α->Bool)(a:Option β)(d:∀(p:List α) x r bb,L=p++x::r->B (p.length:Int) x bb ()=bif P p x then bb ()else a):bL L 0 B K ()=bif mF P [] L then K ()else a:=by
 have g:∀(b p:List α),L=p++b->bL b p.length B K ()=bif mF P p b then K ()else a:=by
  intro b;induction b with
  |nil=>intro p _;rfl
  |cons x r e=>
   intro p c;simp only[bL,mF];rw[d p x r _ c];have:=e (p++[x]) (by simp[c]);rw[List.length_append]at this;have f:bL r (p.length+1) B K ()=bif mF P (p++[x]) r then K ()else a:=this
   rw[f];cases P p x<;>rfl
 exact g L [] rfl
noncomputable def tc(f:aA)(p:kT)(n:a2):Bool:=(bif decide (n.Seq=0)then(km,false)else kR f n n.Seq).2&&((fQ n.Database n.Router).2&&(jT (bif decide (n.Seq=0)then(km,false)else kR f n n.Seq).1 (fQ n.Database n.Router).1&&p.all (λa=>!hf (aN f) a.Router n.Router||oK a.Database n.Database)))
noncomputable def wT(f:aA):Bool:=qa f&&(!decide ((0:Int)<(f.aY.length:Int))&&mF (tc f) [] f.ay)
def J7{f:aA}(h:nA f):tZ f=some (wT f):=by
 unfold tZ wT;simp only[jn,k4 h,qj h,aU];cases m:qa f
 .rfl
 .have c:=kD.1 m;simp only[cond_true,decide_true,Bool.not_true,cond_false,Bool.true_and];have t:(aN f).aL.length<=1000000:=by have:=c.t.iP;omega
  cases decide ((0:Int)<(f.aY.length:Int))
  .simp only[cond_false,Bool.not_false,Bool.true_and];rw[Ks (tc f) (some false)]
   .cases mF (tc f) [] f.ay<;>rfl
   .intro b a A bb d;have g:a∈f.ay:=by rw[d];simp
    have x:=c.len;have w:b.length<f.ay.length:=by rw[d];simp
    have s:=(c.n a g).2.2.sm;simp only[sM c g,vq s,aU,vW];have ey:gT f.ay 0 (b.length:Int)=some b:=by
     unfold gT;rw[if_pos ⟨by omega,by omega,by omega⟩,d];simp
    unfold tc;rw[ey,aU]
    have r:(bL b 0 (λ(u:Int) (j:a2) (e:Unit->dK) (n:Unit)=>aa (q5 (aN f) j.Router a.Router) λ(p:Bool)=>(bif p then aa (rD j.Database a.Database) λ(q:Bool)=>(bif !q then some false else e ())else(bif false then some false else e ()))) (λ(n:Unit)=>bb ()) ()) =
      bif b.all (λi=>!hf (aN f) i.Router a.Router||oK i.Database a.Database)then bb ()else some false:=by
     refine zY _ (some false) b (λz l v y=>?_) 0;rw[Js _ _ _ t,aU,Nj,aU];cases hf (aN f) l.Router a.Router<;>cases oK l.Database a.Database<;>rfl
    generalize (bif decide (a.Seq=0)then(km,false)else kR f a a.Seq)=o;generalize fQ a.Database a.Router=k;cases o.2
    .rfl
    .cases k.2
     .rfl
     .simp only[Bool.not_true,cond_false,Bool.true_and];cases jT o.1 k.1
      .rfl
      .simp only[Bool.not_true,cond_false,Bool.true_and];exact r
  .rfl
end
section
def sE{d:bF}(b:lJ d):pg d=some d:=by
 refine atJ ?_;unfold pg;refine atB (λe (a:pR)=>a=e) ?_ _ rfl (λa i=>Ok.s (by rw[i]));rintro e c k a bb f rfl h;have g:c∈d.bf:=by rw[f];simp
 have j:a.length<d.bf.length:=by rw[f];simp
 have:=b.1;rw[FO (b.2 c g).1,aU,wm (b.2 c g).2,aU,ga (by simp;omega),aU];exact h _ rfl
variable {f:aA}
def zZ(h:cI f):j6 f=some f:=by
 refine atJ ?_;unfold j6;have i:=h.sm;rw[su i.1,aU];refine atB (λb (a:kT)=>a=b) ?_ _ rfl ?_
 .rintro b d n a bb c rfl g;have e:d∈f.ay:=by rw[c];simp
  have k:a.length<f.ay.length:=by rw[c];simp
  have l:=i.2;have j:=h.n d e;rw[wm (y8 j.2.1),aU,sE j.2.2.sm,aU,ga (by simp;omega),aU];exact g _ rfl
 .rintro a rfl;refine atB (λb (a:ng)=>a=b) ?_ _ rfl (λa m=>Ok.s (by rw[m]));rintro b d n a bb c rfl g;have e:d∈f.aY:=by rw[c];simp
  have k:a.length<f.aY.length:=by rw[c];simp
  have l:=h.m;rw[sE (h.g d e).2.2.2.sm,aU,ga (by simp;omega),aU];exact g _ rfl
def dV(f:aA)(a:kT)(n:a2)(b:kT):aA:=aA.mk f.Links (a++n::b) f.aY
variable {a b:kT}{n':a2}
def k2{n:a2}(c:f.ay=a++n::b)(d:n'.Router=n.Router)(e:n'.bw=n.bw):aN (dV f a n' b)=aN f:=by
 unfold aN dV;rw[c];simp[d,e]
def EU(r:Int):∀(l m:kT) (j:Nat),l.map (·.Router)=m.map (·.Router)->kQ r l j=kQ r m j
 |[],[],_,_=>rfl
 |[],_::_,_,h=>by simp at h
 |_::_,[],_,h=>by simp at h
 |x::l,y::m,j,h=>by
  simp only[List.map_cons,List.cons.injEq]at h;simp only[kQ,h.1,EU r l m (j+1) h.2]
def EV{n:a2}(c:f.ay=a++n::b)(d:n'.Router=n.Router)(r:Int):hs (dV f a n' b) r=hs f r:=by
 unfold hs dV;exact EU r _ _ 0 (by rw[c];simp[d])
def cI.dV{f:aA}(h:cI f){a b:kT}{n n':a2}(u:f.ay=a++n::b)(C:n'.Router=n.Router)(O:n'.bw=n.bw)(Q:(0<=n'.Seq/\n'.Seq<=1000000)/\jM n'.Claims=true/\dS n'.Database):cI (dV f a n' b):=by
 refine⟨by rw[k2 u C O];exact h.t,h.m,λx q=>?_,λm S=>?_⟩
 .have q:x∈a++n'::b:=q;rcases List.mem_append.1 q with q|q
  .exact h.n x (by rw[u];simp[q])
  .rcases List.mem_cons.1 q with rfl|q
   .exact Q
   .exact h.n x (by rw[u];simp[q])
 .have:=h.g m S;rw[EV u C,EV u C];exact this
def zp(f:aA)(a b:kT)(n n':a2):Go.Proofs.YteghoodgfjhjkaaGreat.dV (Go.Proofs.YteghoodgfjhjkaaGreat.dV f a n b) a n' b=Go.Proofs.YteghoodgfjhjkaaGreat.dV f a n' b:=rfl
variable {α:Type}
def oo(p:List α)(x y:α)(r:List α):fu (p++x::r) (p.length:Int) y=some (p++y::r):=by
 unfold fu;rw[if_pos ⟨by omega,by simp;omega⟩];simp
def hh(f:aA)(n:a2):a2:=a2.mk n.Router n.Seq n.bw n.Claims (hr n.Database (ec (aN f) n.Router n.Seq n.Claims)).1
def sN(h:cI f){n:a2}(a:n∈f.ay){seq:Int}(b:1<=seq/\seq<=1000000):dO (ec (aN f) n.Router seq n.Claims)=true:=by
 rw[Dv h a];simp[dk];omega
def v6(h:cI f){n:a2}(e:f.ay=a++n::b)(i:1<=n.Seq):mN (cM.mk f) (a.length:Int)=some (cM.mk (dV f a (hh f n) b)):=by
 have d:n∈f.ay:=by rw[e];simp
 have c:=h.n n d;have g:=sN h d (seq:=n.Seq) ⟨i,c.1.2⟩;unfold mN;have j:decide (n.Seq=0)=false:=by simp;omega
 have k:dk n.Seq 1 1000000=true:=by simp[dk];omega
 simp only[e,g9,aU];simp only[sM h d,j,cond_false,kR,k,cond_true,aU];rw[OQ c.2.2.sm (qi.sm g),if_pos ⟨kC.2 c.2.2,g⟩,aU,oo,aU];rfl
def cI.x3(h:cI f){n q:a2}(C:f.ay=a++q::b)(Q:n.Router=q.Router)(S:n.bw=q.bw)(O:1<=n.Seq/\n.Seq<=1000000)(u:jM n.Claims=true)(hd:dS n.Database):cI (Go.Proofs.YteghoodgfjhjkaaGreat.dV f a (hh f n) b):=by
 refine h.dV C Q S ⟨⟨by have:=O.1;show 0<=n.Seq;omega,O.2⟩,u,?_⟩;refine hd.put ?_;have X:q∈f.ay:=by rw[C];simp
 rw[Q,Dt h.t (k9 X)];have Y:dk n.Seq 1 1000000=true:=by simp[dk];omega
 unfold jM at u;rw[Y,u];rfl
def zq(h:cI f){n:a2}(c:f.ay=a++n::b):mP f n.Router=some (cM.mk f,(a.length:Int),0):=by
 unfold mP;have d:decide (0<=(a.length:Int))=true:=by simp
 simp only[k4 h.sm,kD.2 h,vX,h.idx c,d,aU,cond_true,decide_true,Bool.not_true,cond_false,zZ h]
def yP(h:cI f){r:Int}(a:hs f r = -1):mP f r=none/\pn f r=some (0,4):=by
 unfold mP pn;simp only[k4 h.sm,kD.2 h,vX,a,aU,cond_true];exact⟨rfl,rfl⟩
variable {k:Int}
def CV(h:cI f)(c:0<=k/\k<f.aY.length):nS f k=some (cM.mk f,0):=by
 unfold nS;have a:decide (k<0)=false:=by simp;omega
 have b:decide ((f.aY.length:Int)<=k)=false:=by simp;omega
 simp only[k4 h.sm,kD.2 h,a,b,aU,cond_true,decide_true,Bool.not_true,Bool.or_self,cond_false,zZ h]
def yH(h:cI f)(b:¬(0<=k/\k<f.aY.length)):nS f k=none/\qZ f k=some 4:=by
 have a:(decide (k<0)||decide ((f.aY.length:Int)<=k))=true:=by simp;omega
 unfold nS qZ;simp only[k4 h.sm,kD.2 h,a,aU,cond_true];exact⟨rfl,rfl⟩
def oz(f:aA)(n:a2):ng:=(gc (aN f) n.Router).map λa=>bS.mk n.Router a n.Database
def E2(h:cI f){n:a2}(c:f.ay=a++n::b)(M:ng)(j:M.length<=5000):q1 (cM.mk (aA.mk f.Links f.ay M)) (a.length:Int)=some (cM.mk (aA.mk f.Links f.ay (M++oz f n))):=by
 have d:n∈f.ay:=by rw[c];simp
 have g:b4 f.ay (a.length:Int)=some n:=by rw[c];exact g9 a n b
 unfold q1;have e:kW (aA.mk f.Links f.ay M)=some (aN f):=qj (f:=aA.mk f.Links f.ay M) h.sm;simp only[g,aU,e,Jk,gj.2 h.t,if_true,sE (h.n n d).2.2.sm];have k:=ET h.t (k9 d);rw[u2 (λi:Int=>bS.mk n.Router i n.Database) _ 0 M (by omega)];rfl
def gf(f:aA)(p q:ng):aA:=aA.mk f.Links f.ay (p++q)
def EW{l:List α}(b:0<=k/\k<l.length):∃p x q,l=p++x::q/\k=(p.length:Int):=by
 have a:k.toNat<l.length:=by omega
 refine⟨l.take k.toNat,l[k.toNat],l.drop (k.toNat+1),?_,by simp;omega⟩;rw[<-List.drop_eq_getElem_cons a,List.take_append_drop]
def E3(p:List α)(x:α)(q:List α)(a:(p++x::q).length<=100000):mK (p++x::q) (p.length:Int) (a1 ((p.length:Int)+1))=some (p++q):=by
 have b:p.length+q.length+1<=100000:=by simpa [Nat.add_assoc]using a
 rw[et (by omega) (by omega)];unfold mK;rw[if_pos ⟨by omega,by omega,by simp;omega⟩];rw[Int.toNat_natCast,show((p.length:Int)+1).toNat=p.length+1 by omega];simp
end
section
def Dw{α:Type}{B:Int->α->(Unit->gA)->Unit->gA}{K:Unit->gA}(p:α->Bool)(i:K ()=some (-1)):∀(l:List α),(∀j,∀x∈l,∀bb,B j x bb ()=bif p x then some j else bb ())->∀j:Nat,(bL l j B K ()=some (-1)/\∀x∈l,p x=false)\/∃a x b,l=a++x::b/\bL l j B K ()=some ((j+a.length:Nat):Int)/\p x=true/\∀y∈a,p y=false
 |[],_,j=>Or.inl ⟨i,by simp⟩
 |x::r,h,j=>by
  have n:bL (x::r) j B K ()=bif p x then some (j:Int)else bL r (j+1) B K ():=h _ x (by simp) _
  rw[n];cases e:p x with
  |true=>exact Or.inr ⟨[],x,r,rfl,by simp,e,by simp⟩
  |false=>
   rcases Dw p i r (λj y c=>h j y (by simp[c])) (j+1)with⟨f,d⟩|⟨a,y,b,f,d,m,k⟩
   .refine Or.inl ⟨f,λy c=>?_⟩;rcases List.mem_cons.1 c with rfl|c
    .exact e
    .exact d y c
   .refine Or.inr ⟨x::a,y,b,by rw[f];rfl,?_,m,λo g=>?_⟩
    .rw[show(bif false then some (j:Int)else bL r (j+1) B K ())=bL r (j+1) B K ()from rfl,d];simp only[List.length_cons];congr 2;omega
    .rcases List.mem_cons.1 g with rfl|g
     .exact e
     .exact k o g
def LH{l:ng}{w:bS->dK}(p:bS->Bool)(h:∀x∈l,w x=some (p x))(Y:l.length<=100000):qR l w=some (l.filter λx=>!p x):=by
 refine atJ ?_;unfold qR xd;rcases Dw p (B:=λ(J:Int) (y:bS) (H:Unit->gA) (u:Unit)=>match u with|()=>aa (w y) λ(I:Bool)=>bif I then some (J:Int)else H ()) (K:=λ(u:Unit)=>match u with|()=>some (-1:Int)) rfl l (λV x r bb=>by simp only[h x r,aU]) 0 with⟨h1,t⟩|⟨o,x,b,h1,t,M,G⟩
 .rw[h1,aU,show decide ((-1:Int) = -1)=true from rfl,cond_true];exact Ok.s (by rw[List.filter_eq_self.2 λx r=>by simp[t x r]])
 .rw[t,aU];have W:l.length=o.length+(b.length+1):=by rw[h1];simp
  have y:decide (((0+o.length:Nat):Int) = -1)=false:=decide_eq_false (by omega);rw[y,cond_false,et (by omega) (by omega)];refine atT (λs:ng×Int×Int=>∃a g i,l=a++i/\s.1=(a.filter λx=>!p x)++g++i/\s.2.1=((a.filter λx=>!p x).length:Int)/\s.2.2=(a.length:Int)/\1<=g.length/\(a.filter λx=>!p x).length+g.length=a.length) (λs=>l.length-s.2.2.toNat) ?_ (by simp only;omega) ?_
  .have T:(o.filter λx=>!p x)=o:=List.filter_eq_self.2 λc v=>by simp[G c v]
   refine⟨o++[x],[x],b,by rw[h1];simp,?_,?_,?_,by simp,?_⟩
   all_goals simp[T,M,h1]
  rintro⟨ab,Z,V⟩ bb ⟨a,g,i,m,A,C,z,O,F⟩ E;simp only at A C z;subst A C z;have q:l.length=a.length+i.length:=by rw[m];simp
  have jH:((a.filter λx=>!p x)++g++i).length=l.length:=by simp only[List.length_append,q,<-F]
  refine Ok.cs (λe=>?_) λe=>?_
  .have e:a.length<l.length:=by have e:=of_decide_eq_true e;simp only[jH]at e;omega
   obtain⟨c,j,rfl⟩:∃c k,i=c::k:=by
    cases i with
    |nil=>simp at q;omega
    |cons c k=>exact⟨c,k,rfl⟩
   obtain⟨d,f,rfl⟩:∃d k,g=d::k:=by
    cases g with
    |nil=>simp at O
    |cons c k=>exact⟨c,k,rfl⟩
   have v:c∈l:=by rw[m];simp
   have U:b4 ((a.filter λx=>!p x)++d::f++c::j) (a.length:Int)=some c:=by
    have:=g9 ((a.filter λx=>!p x)++d::f) c j
    rwa [show(((a.filter λx=>!p x)++d::f).length:Int)=(a.length:Int)by rw[List.length_append];omega]at this
   have N:b4 ((a.filter λx=>!p x)++d::f++c::j) ((a.filter λx=>!p x).length:Int)=some d:=by
    have:=g9 (a.filter λx=>!p x) d (f++c::j);simpa using this
   have R:fu ((a.filter λx=>!p x)++d::f++c::j) ((a.filter λx=>!p x).length:Int) c=some ((a.filter λx=>!p x)++c::(f++c::j)):=by
    have:=oo (a.filter λx=>!p x) d c (f++c::j);simpa using this
   have X:(a.filter λx=>!p x).length<=a.length:=List.length_filter_le _ _;simp only[List.length_cons]at F q;simp only[jn,U,aU,h c v];rw[et (n:=(a.length:Int)+1) (by omega) (by omega)];cases D:p c with
   |true=>
    simp only[Bool.not_true,cond_false];refine E _ ⟨a++[c],d::f++[c],j,by rw[m];simp,?_,?_,?_,by simp,?_⟩ (by simp only;omega)
    all_goals simp[D]
    all_goals omega
   |false=>
    simp only[Bool.not_false,cond_true,N,R,aU];rw[et (n:=((a.filter λx=>!p x).length:Int)+1) (by omega) (by omega)];refine E _ ⟨a++[c],f++[c],j,by rw[m];simp,?_,?_,?_,by simp,?_⟩ (by simp only;omega)
    all_goals simp[D]
    all_goals omega
  .try dsimp only at e ⊢
   have e:¬a.length<l.length:=by have e:=of_decide_eq_false e;simp only[jH]at e;omega
   have L:i=[]:=by cases i with|nil=>rfl|cons c k=>simp at q;omega
   subst L;have S:a=l:=by rw[m];simp
   subst S;have P:((a.filter λx=>!p x)++g++[]).length=a.length:=jH;rw[iQ (decide_eq_true (by rw[P];omega))]
   have Q:gT (((a.filter λx=>!p x)++g++[]).take (((a.filter λx=>!p x).length:Int)).toNat++List.replicate (((a.filter λx=>!p x)++g++[]).length-(((a.filter λx=>!p x).length:Int)).toNat) (bS.mk (0:Int) (0:Int) (bF.mk []))) (0:Int) ((a.filter λx=>!p x).length:Int)=some (a.filter λx=>!p x):=by
    unfold gT;rw[if_pos ⟨by omega,by omega,by simp;omega⟩];simp
   rw[Q,aU];exact Ok.s rfl
def h5(t:aK)(x:bS):Bool:=(hZ t x.c4 x.bW).2
def jA(n:a2):a2:=a2.mk n.Router (n.Seq+1) n.bw n.Claims n.Database
def lC(t a:aK)(n:a2):Bool:=decide (1<=n.Seq)&&(decide (n.Seq<1000000)&&!jT (ec t n.Router n.Seq n.Claims) (ec a n.Router n.Seq n.Claims))
def ee(t a:aK)(n:a2):a2:=bif lC t a n then a2.mk n.Router (n.Seq+1) n.bw n.Claims (hr n.Database (ec a n.Router (n.Seq+1) n.Claims)).1 else n
def c2(f:aA)(L:jC):aA:=aA.mk L f.ay f.aY
def qG(f:aA)(L:jC):aA:=aA.mk L (f.ay.map (ee (aN f) (aN (c2 f L)))) (f.aY.filter (h5 (aN (c2 f L))))
variable {t:aK}
def MO{h:aA}{n:a2}(a:lC t (aN h) n=true):ee t (aN h) n=hh h (jA n):=by
 unfold ee;rw[a];rfl
def OS{g:aA}{a b:kT}{n:a2}(d:cI g)(c:g.ay=a++n::b):cI (dV g a (ee t (aN g) n) b)/\aN (dV g a (ee t (aN g) n) b)=aN g:=by
 have i:n∈g.ay:=by rw[c];simp
 have h:=d.n n i;cases e:lC t (aN g) n with
 |false=>
  have f:ee t (aN g) n=n:=by unfold ee;rw[e];rfl
  have j:dV g a n b=g:=by unfold dV;rw[<-c]
  rw[f,j];exact⟨d,rfl⟩
 |true=>
  have f:ee t (aN g) n=hh g (jA n):=by unfold ee;rw[e];rfl
  simp only[lC,Bool.and_eq_true,decide_eq_true_eq]at e;rw[f];exact⟨d.x3 c (n:=jA n) rfl rfl ⟨by show 1<=n.Seq+1;omega,by show n.Seq+1<=1000000;omega⟩ h.2.1 h.2.2,k2 c rfl rfl⟩
def h6(f:aA)(L:jC)(M:ng)(p l:kT):aA:=aA.mk L (p.map (ee (aN f) (aN (c2 f L)))++l) M
def EX{f:aA}{L:jC}{M:ng}:∀(q p l:kT),(cI (h6 f L M p (q++l))/\aN (h6 f L M p (q++l))=aN (c2 f L))->cI (h6 f L M (p++q) l)/\aN (h6 f L M (p++q) l)=aN (c2 f L)
 |[],p,l,h=>by simpa using h
 |n::q,p,l,⟨h1,c⟩=>by
  have:=OS (t:=aN f) h1 (a:=p.map (ee (aN f) (aN (c2 f L)))) (n:=n) (b:=q++l) rfl;rw[c]at this;have d:h6 f L M (p++[n]) (q++l)=dV (h6 f L M p (n::q++l)) (p.map (ee (aN f) (aN (c2 f L)))) (ee (aN f) (aN (c2 f L)) n) (q++l):=by
   unfold h6 dV;simp
  rw[<-d]at this;have:=EX q (p++[n]) l this;simpa using this
variable {L:jC}{f:aA}
def FG{M:ng}(a:cI (aA.mk L f.ay M))(l p:kT)(h:f.ay=p++l):cI (h6 f L M p l)/\aN (h6 f L M p l)=aN (c2 f L):=by
 have:=EX (f:=f) (L:=L) (M:=M) p [] l ?_
 .simpa using this
 .rw[<-h];exact⟨a,rfl⟩
def cI.AQ(h:cI f)(q:bS->Bool):cI (aA.mk f.Links f.ay (f.aY.filter q)):=by
 refine⟨h.t,?_,h.n,λm u=>h.g m ?_⟩
 .have:=h.m;have C:=List.length_filter_le q f.aY;show(f.aY.filter q).length<=400;omega
 .exact(List.mem_filter.1 u).1
def Kt(a:cI (c2 f L)):cI (qG f L)/\aN (qG f L)=aN (c2 f L):=by
 have:=FG (f:=f) (L:=L) (M:=f.aY.filter (h5 (aN (c2 f L)))) (a.AQ _) [] f.ay (by simp);unfold h6 at this;rw[List.append_nil]at this;exact this
structure Cu(f:aA):Prop where
 s:nA f
 m:f.aY.length<=100000
 n:∀n∈f.ay,n.Claims.length<=100000/\lJ n.Database
 g:∀x∈f.aY,lJ x.Database
def cI.wc(h:cI f):Cu f:=⟨h.sm,by have:=h.m;omega,λn q=>⟨y8 (h.n n q).2.1,(h.n n q).2.2.sm⟩,λx u=>(h.g x u).2.2.2.sm⟩
def EY(h:Cu f):j6 f=some f:=by
 refine atJ ?_;unfold j6;have i:=h.s;rw[su i.1,aU];refine atB (λb (a:kT)=>a=b) ?_ _ rfl ?_
 .rintro b d n a bb c rfl g;have e:d∈f.ay:=by rw[c];simp
  have k:a.length<f.ay.length:=by rw[c];simp
  have l:=i.2;have j:=h.n d e;rw[wm j.1,aU,sE j.2,aU,ga (by simp;omega),aU];exact g _ rfl
 .rintro a rfl;refine atB (λb (a:ng)=>a=b) ?_ _ rfl (λa m=>Ok.s (by rw[m]));rintro b d n a bb c rfl g;have e:d∈f.aY:=by rw[c];simp
  have k:a.length<f.aY.length:=by rw[c];simp
  have l:=h.m;rw[sE (h.g d e),aU,ga (by simp;omega),aU];exact g _ rfl
def Dx(h:cI f){n:a2}(b:n∈f.ay):(bif decide (n.Seq=0)then(km,false)else kR f n n.Seq)=bif decide (1<=n.Seq)then(ec (aN f) n.Router n.Seq n.Claims,true)else(km,false):=by
 obtain⟨g,e⟩:=(h.n n b).1;by_cases a:n.Seq=0
 .have:¬(1<=n.Seq):=by omega
  simp[a]
 .have c:(1<=n.Seq):=by omega
  have d:dk n.Seq 1 1000000=true:=by simp[dk];omega
  simp[a,c,kR,d]
def Ku(e:cI f)(g:cI (c2 f L)):mS f L=some (qG f L,0):=by
 unfold mS;have H:L.length<=100000:=g.sm.1;have P:=e.m;rw[EY e.wc,aU,su H,aU];simp only[jn];rw[show aA.mk L f.ay f.aY=c2 f L from rfl,k4 e.sm,k4 g.sm,kD.2 e,kD.2 g];simp only[aU,cond_true,decide_true,Bool.not_true,cond_false];rw[qj g.sm,aU]
 have I:qR f.aY (λ(D:bS)=>tN D (aN (c2 f L)))=some (f.aY.filter (h5 (aN (c2 f L)))):=by
  rw[LH (λk=>!h5 (aN (c2 f L)) k) (λk N=>?_) (by omega)]
  .simp
  .unfold tN;rw[EJ _ k.c4 k.bW (by have:(aN (c2 f L)).Links.length<=60:=g.t.nl;omega),gj.2 g.t];rfl
 rw[I,aU];have J:cI (aA.mk L f.ay (f.aY.filter (h5 (aN (c2 f L))))):=g.AQ (h5 (aN (c2 f L)));refine atJ ?_;refine atB (λc (s:jC×kT×ng)=>∃j,f.ay=c++j/\s=(L,c.map (ee (aN f) (aN (c2 f L)))++j,f.aY.filter (h5 (aN (c2 f L))))) ?_ _ ⟨f.ay,rfl,rfl⟩ ?_
 .rintro c n d s bb l ⟨j,i,rfl⟩ C;have i:j=n::d:=List.append_cancel_left (i.symm.trans l);subst i;have p:n∈f.ay:=by rw[l];simp
  obtain⟨r,v⟩:=FG J (n::d) c l;have el:(c.map (ee (aN f) (aN (c2 f L)))).length=c.length:=by simp
  have K:b4 (c.map (ee (aN f) (aN (c2 f L)))++n::d) (c.length:Int)=some n:=by rw[<-el];exact g9 _ n d
  have M:b4 f.ay (c.length:Int)=some n:=by rw[l];exact g9 c n d
  have u:(h6 f L (f.aY.filter (h5 (aN (c2 f L)))) c (n::d)).ay=c.map (ee (aN f) (aN (c2 f L)))++n::d:=rfl;have z:n∈(h6 f L (f.aY.filter (h5 (aN (c2 f L)))) c (n::d)).ay:=by rw[u];simp
  have o:∀n',ee (aN f) (aN (c2 f L)) n=n'->Ok (bb (L,c.map (ee (aN f) (aN (c2 f L)))++n'::d,f.aY.filter (h5 (aN (c2 f L))))) (λk=>k=(qG f L,0)):=by
   rintro n' rfl;exact C _ ⟨d,by rw[l];simp,by simp⟩
  show Ok (aa (b4 (c.map (ee (aN f) (aN (c2 f L)))++n::d) (c.length:Int)) _) _;rw[K,aU,M,aU,sM e p,aU,show aA.mk L (c.map (ee (aN f) (aN (c2 f L)))++n::d) (f.aY.filter (h5 (aN (c2 f L))))=h6 f L (f.aY.filter (h5 (aN (c2 f L)))) c (n::d)from rfl,sM r z,aU,Dx e p,Dx r z,v];obtain⟨O,Q⟩:=(e.n n p).1;by_cases q:1<=n.Seq
  .simp only[q,decide_true,cond_true,jn,vW,aU];cases w:jT (ec (aN f) n.Router n.Seq n.Claims) (ec (aN (c2 f L)) n.Router n.Seq n.Claims)with
   |true=>
    simp only[Bool.not_true,cond_false];exact o n (by unfold ee lC;rw[w];simp)
   |false=>
    simp only[Bool.not_false,cond_true];by_cases m:n.Seq<1000000
    .have E:lC (aN f) (aN (c2 f L)) n=true:=by unfold lC;rw[w];simp[q,m]
     simp only[m,decide_true,cond_true];rw[et (n:=n.Seq+1) (by omega) (by omega)];have y:=e.n n p;have G:cI (dV (h6 f L (f.aY.filter (h5 (aN (c2 f L)))) c (n::d)) (c.map (ee (aN f) (aN (c2 f L)))) (jA n) d):=r.dV u rfl rfl ⟨⟨by show 0<=n.Seq+1;omega,by show n.Seq+1<=1000000;omega⟩,y.2.1,y.2.2⟩;have B:=v6 G (a:=c.map (ee (aN f) (aN (c2 f L)))) (b:=d) (n:=jA n) rfl (by show 1<=n.Seq+1;omega);have x:=oo (c.map (ee (aN f) (aN (c2 f L)))) n (jA n) d;rw[el]at x B;have A:aN (dV (h6 f L (f.aY.filter (h5 (aN (c2 f L)))) c (n::d)) (c.map (ee (aN f) (aN (c2 f L)))) (jA n) d)=aN (c2 f L):=(k2 (n':=jA n) u rfl rfl).trans v;have F:ee (aN f) (aN (c2 f L)) n=hh (dV (h6 f L (f.aY.filter (h5 (aN (c2 f L)))) c (n::d)) (c.map (ee (aN f) (aN (c2 f L)))) (jA n) d) (jA n):=by
      have:=MO (t:=aN f) (n:=n) (h:=dV (h6 f L (f.aY.filter (h5 (aN (c2 f L)))) c (n::d)) (c.map (ee (aN f) (aN (c2 f L)))) (jA n) d) (by rw[A];exact E)
      rwa [A]at this
     show Ok (aa (fu (c.map (ee (aN f) (aN (c2 f L)))++n::d) (c.length:Int) (jA n)) _) _;rw[x,aU,show aA.mk L (c.map (ee (aN f) (aN (c2 f L)))++jA n::d) (f.aY.filter (h5 (aN (c2 f L))))=dV (h6 f L (f.aY.filter (h5 (aN (c2 f L)))) c (n::d)) (c.map (ee (aN f) (aN (c2 f L)))) (jA n) d from rfl,B,aU];exact o _ F
    .simp only[m,decide_false,cond_false];exact o n (by unfold ee lC;simp[m])
  .simp only[q,decide_false,cond_false,jn];exact o n (by unfold ee lC;simp[q])
 .rintro s ⟨j,i,rfl⟩;have i:j=[]:=by simpa using i
  subst i;refine Ok.s ?_;unfold qG;simp
end
section
def cI.drop{f:aA}(h:cI f){p q:ng}{x:bS}(C:f.aY=p++x::q):cI (gf f p q):=by
 refine⟨h.t,?_,h.n,λm u=>?_⟩
 .have:=h.m;rw[C]at this;show(p++q).length<=400;simp at this ⊢;omega
 .have u:m∈p++q:=u;exact h.g m (by rw[C];rcases List.mem_append.1 u with u|u<;>simp[u])
end
section
noncomputable def me(f:aA)(n:a2)(x:bS):a2:=match look (hC n.Database x.Database) n.Router with
 |some a=>@ite _ ((n.Seq≠0/\a=ec (aN f) n.Router n.Seq n.Claims)\/1000000<=a.Seq) (Classical.propDecidable _) (a2.mk n.Router n.Seq n.bw n.Claims (hC n.Database x.Database)) (hh f (a2.mk n.Router (a.Seq+1) n.bw n.Claims (hC n.Database x.Database)))
 |none=>a2.mk n.Router n.Seq n.bw n.Claims (hC n.Database x.Database)
def C0{f:aA}(h:cI f){p q:ng}{x:bS}(l:f.aY=p++x::q):
  (dU (aN f) x.c4 x.bW=false->kU (cM.mk f) (p.length:Int)=some (cM.mk (gf f p q)))/\
  (dU (aN f) x.c4 x.bW=true->∃a n b,f.ay=a++n::b/\n.Router=x.bW/\kU (cM.mk f) (p.length:Int)=some (cM.mk (dV (gf f p q) a (me f n x) b))/\cI (dV (gf f p q) a (me f n x) b)):=by
 have F:x∈f.aY:=by rw[l];simp
 have ak:=h.m;have u:=h.drop l;obtain⟨ab,Z,ae,B⟩:=h.g x F;have ai:f.Links.length<=60:=h.t.nl;have ah:=h.len;have z:aN (gf f p q)=aN f:=rfl;have W:b4 f.aY (p.length:Int)=some x:=by rw[l];exact g9 p x q
 have X:mK f.aY (p.length:Int) (a1 ((p.length:Int)+1))=some (p++q):=by
  rw[l];exact E3 p x q (by rw[<-l];omega)
 have m:(hZ (aN f) x.c4 x.bW).2=dU (aN f) x.c4 x.bW:=D6 _ _ _;have O:pH (aN f) x.c4 x.bW=some (hZ (aN f) x.c4 x.bW):=by
  rw[EJ (aN f) x.c4 x.bW (show f.Links.length<=1000000 by omega),gj.2 h.t];rfl
 unfold kU;simp only[W,X,aU];rw[show aA.mk f.Links f.ay (p++q)=gf f p q from rfl,qj u.sm];simp only[aU,z,O,m];constructor
 .intro w;rw[w];rfl
 .intro w;rw[w];simp only[Bool.not_true,cond_false,vX,aU];have Y:hs (gf f p q) x.bW=hs f x.bW:=rfl;rw[Y];rcases uY f x.bW with⟨A,_⟩|⟨a,n,b,o,A,G⟩
  .omega
  .have S:n∈f.ay:=by rw[o];simp
   have e:=h.n n S;have M:b4 f.ay (a.length:Int)=some n:=by rw[o];exact g9 a n b
   have K:∀v,fu f.ay (a.length:Int) v=some (a++v::b):=λv=>by rw[o];exact oo a n v b
   have r:(gf f p q).ay=a++n::b:=o;have k:=e.2.2.merge B;refine⟨a,n,b,o,G,?_⟩;simp only[A,M,aU,LB e.2.2.sm,kC.2 e.2.2,kC.2 B,and_self,if_true,K,g9];unfold me;generalize af:hC n.Database x.Database=d1 at k ⊢;have C:cI (dV (gf f p q) a (a2.mk n.Router n.Seq n.bw n.Claims d1) b):=u.dV r rfl rfl ⟨e.1,e.2.1,k⟩;have N:aN (dV (gf f p q) a (a2.mk n.Router n.Seq n.bw n.Claims d1) b)=aN f:=k2 r rfl rfl;rw[show aA.mk f.Links (a++a2.mk n.Router n.Seq n.bw n.Claims d1::b) (p++q)=dV (gf f p q) a (a2.mk n.Router n.Seq n.bw n.Claims d1) b from rfl];have Q:a2.mk n.Router n.Seq n.bw n.Claims d1∈(dV (gf f p q) a (a2.mk n.Router n.Seq n.bw n.Claims d1) b).ay:=by
    show _∈a++a2.mk n.Router n.Seq n.bw n.Claims d1::b;simp
   have V:kR (dV (gf f p q) a (a2.mk n.Router n.Seq n.bw n.Claims d1) b) (a2.mk n.Router n.Seq n.bw n.Claims d1) n.Seq=(bif dk n.Seq 1 1000000 then(ec (aN f) n.Router n.Seq n.Claims,true)else(km,false)):=by
    unfold kR;rw[N]
   have s:(some (cM.mk (dV (gf f p q) a (a2.mk n.Router n.Seq n.bw n.Claims d1) b)):Option cM)=some (cM.mk (dV (gf f p q) a (a2.mk n.Router n.Seq n.bw n.Claims d1) b))/\cI (dV (gf f p q) a (a2.mk n.Router n.Seq n.bw n.Claims d1) b):=⟨rfl,C⟩;simp only[vq k.sm,aU,sM C Q,V,jn,vW];unfold look;rcases l2 d1 n.Router with⟨c,U,_,y⟩|⟨_,y⟩
   .rw[y];have L:=k.ok c U;have aj:1<=c.Seq/\c.Seq<=1000000:=by
     simp only[dO,dk,Bool.and_eq_true,decide_eq_true_eq]at L;omega
    simp only[cond_true];rw[et (n:=c.Seq+1) (by omega) (by omega)]
    have D:c.Seq<1000000->(aa (fu (a++a2.mk n.Router n.Seq n.bw n.Claims d1::b) (a.length:Int) (a2.mk n.Router (c.Seq+1) n.bw n.Claims d1)) λ(J:kT)=>aa (mN (cM.mk (aA.mk f.Links J (p++q))) (a.length:Int)) λ(I:cM)=>some I)=some (cM.mk (dV (gf f p q) a (hh f (a2.mk n.Router (c.Seq+1) n.bw n.Claims d1)) b))/\cI (dV (gf f p q) a (hh f (a2.mk n.Router (c.Seq+1) n.bw n.Claims d1)) b):=λj=>by
     have P:cI (dV (gf f p q) a (a2.mk n.Router (c.Seq+1) n.bw n.Claims d1) b):=u.dV r rfl rfl ⟨⟨by show 0<=c.Seq+1;omega,by show c.Seq+1<=1000000;omega⟩,e.2.1,k⟩;have m:=v6 P (a:=a) (b:=b) (n:=a2.mk n.Router (c.Seq+1) n.bw n.Claims d1) rfl (by show 1<=c.Seq+1;omega);have R:aN (dV (gf f p q) a (a2.mk n.Router (c.Seq+1) n.bw n.Claims d1) b)=aN f:=k2 r rfl rfl;have:=u.x3 r (n:=a2.mk n.Router (c.Seq+1) n.bw n.Claims d1) rfl rfl (by show 1<=c.Seq+1/\c.Seq+1<=1000000;omega) e.2.1 k;unfold hh at this m ⊢;rw[R]at m;rw[z]at this;refine⟨?_,this⟩;rw[oo,aU,show aA.mk f.Links (a++a2.mk n.Router (c.Seq+1) n.bw n.Claims d1::b) (p++q)=dV (gf f p q) a (a2.mk n.Router (c.Seq+1) n.bw n.Claims d1) b from rfl,m,aU,zp]
    by_cases i:n.Seq=0
    .by_cases j:1000000<=c.Seq
     .rw[if_pos (.inr j)];have d:¬c.Seq<1000000:=by omega
      simp only[i,d,decide_true,decide_false,cond_true,cond_false,Bool.not_false];rw[i]at s;exact⟨by first|trivial|rfl,s.2⟩
     .rw[if_neg (by rintro(⟨g,_⟩|g);exact g i;exact j g)];have d:c.Seq<1000000:=by omega
      simp only[i,d,decide_true,cond_true,Bool.not_false];have:=D d;rw[i]at this;exact this
    .have H:dk n.Seq 1 1000000=true:=by have:=e.1;simp[dk];omega
     simp only[i,H,decide_false,cond_false,cond_true,Bool.not_true];by_cases t:c=ec (aN f) n.Router n.Seq n.Claims
     .rw[if_pos (.inl ⟨i,t⟩),(u3 _ _).2 t];exact⟨by first|trivial|rfl,s.2⟩
     .have T:jT c (ec (aN f) n.Router n.Seq n.Claims)=false:=by
       cases E:jT c (ec (aN f) n.Router n.Seq n.Claims)
       .rfl
       .exact absurd ((u3 _ _).1 E) t
      rw[T];by_cases j:1000000<=c.Seq
      .rw[if_pos (.inr j)];have d:¬c.Seq<1000000:=by omega
       simp only[d,decide_false,cond_false,Bool.not_false,cond_true];exact⟨by first|trivial|rfl,s.2⟩
      .rw[if_neg (by rintro(⟨_,g⟩|g);exact t g;exact j g)];have d:c.Seq<1000000:=by omega
       simp only[d,decide_true,cond_true,Bool.not_false];exact D d
   .rw[y];exact⟨by first|trivial|rfl,s.2⟩
end
section
def eP(f:aA):aA:=match f.aY with
 |[]=>f
 |_::_=>match kU (cM.mk f) 0 with
  |some m=>m.bg
  |none=>f
variable {f:aA}{q:ng}{x:bS}
def qb(h:cI f)(c:f.aY=x::q):kU (cM.mk f) 0=some (cM.mk (eP f))/\cI (eP f)/\(eP f).aY=q/\
  (dU (aN f) x.c4 x.bW=false->eP f=gf f [] q)/\(dU (aN f) x.c4 x.bW=true->∃a n b,f.ay=a++n::b/\n.Router=x.bW/\eP f=dV (gf f [] q) a (me f n x) b):=by
 have i:∀e,kU (cM.mk f) 0=some (cM.mk e)->eP f=e:=λe j=>by
  unfold eP;rw[c];simp only[j]
 obtain⟨l,k⟩:=C0 h (p:=[]) (q:=q) (x:=x) c;cases g:dU (aN f) x.c4 x.bW with
 |false=>
  have d1:=l g;rw[i _ d1];exact⟨d1,h.drop (p:=[]) c,rfl,λ_=>rfl,λd=>(by cases d)⟩
 |true=>
  obtain⟨a,n,b,d1,d2,d3,d4⟩:=k g;rw[i _ d3];exact⟨d3,d4,rfl,λd=>(by cases d),λ_=>⟨a,n,b,d1,d2,rfl⟩⟩
def qT:Nat->aA->aA
 |0,f=>f
 |n+1,f=>qT n (eP f)
def gb(f:aA):aA:=qT f.aY.length f
def JD(h:cI f)(a:f.aY=x::q):gb f=gb (eP f):=by
 unfold gb;rw[a,(qb h a).2.2.1];rfl
def FW:∀(n:Nat) (f:aA),cI f->f.aY.length=n->cI (qT n f)/\(qT n f).aY=[]
 |0,f,h,a=>⟨h,List.eq_nil_of_length_eq_zero a⟩
 |n+1,f,h,a=>by
  cases b:f.aY with
  |nil=>rw[b]at a;simp at a
  |cons x q=>
   obtain⟨_,d,c,_⟩:=qb h b;refine FW n (eP f) d ?_;rw[c];rw[b]at a;simpa using a
def yQ(h:cI f):cI (gb f)/\(gb f).aY=[]:=FW _ f h rfl
def EZ(h:cI f):qW (cM.mk f)=some (cM.mk (gb f)):=by
 unfold qW;have n:=h.m;refine RO (G:=λm=>m=some (cM.mk (gb f))) (λs:jC×kT×ng=>cI (aA.mk s.1 s.2.1 s.2.2)/\gb (aA.mk s.1 s.2.1 s.2.2)=gb f) (λs=>s.2.2.length) ⟨h,rfl⟩ (by simp only;omega) ?_;rintro⟨g,i,j⟩ bb ⟨a,b⟩ c;simp only at a b c ⊢;cases j with
 |nil=>simp only[List.length_nil];rw[<-b];rfl
 |cons x q=>
  have k:decide ((0:Int)<(((x::q).length:Nat):Int))=true:=by simp
  obtain⟨l,e,d,_⟩:=qb a (x:=x) (q:=q) rfl;rw[k,cond_true,l,aU];refine c _ ⟨e,?_⟩ ?_
  .rw[<-JD a rfl];exact b
  .show(eP (aA.mk g i (x::q))).aY.length<_;rw[d];simp
def AH(key:aR->Int):∀(l:bR) (L:jC),l.Nodup->(l.map λx=>(L.filter λk=>decide (key k=x)).length).sum<=L.length
 |[],L,_=>by simp
 |x::xs,L,h=>by
  rw[List.nodup_cons]at h;have d:=AH key xs (L.filter λk=>!decide (key k=x)) h.2
  have b:(xs.map λa=>(L.filter λk=>decide (key k=a)).length)=xs.map λa=>((L.filter λk=>!decide (key k=x)).filter λk=>decide (key k=a)).length:=by
   refine List.map_congr_left λa e=>?_;rw[List.filter_filter];congr 1;refine List.filter_congr λk _=>?_;by_cases c:key k=a
   .have:a≠x:=λb=>h.1 (b▸e);simp[c,this]
   .simp[c]
  have f:(L.filter λk=>decide (key k=x)).length+(L.filter λk=>!decide (key k=x)).length=L.length:=by
   clear d b;induction L with
   |nil=>rfl
   |cons k L d=>by_cases c:key k=x<;>simp[c]<;>omega
  rw[List.map_cons,List.sum_cons,b];omega
variable {t:aK}
def LI(d:cU t)(r:Int):(gc t r).length<=(t.Links.filter λk=>decide (k.A=r)).length+(t.Links.filter λk=>decide (k.B=r)).length:=by
 have i:(gc t r).Nodup:=(p3 d r).imp λc=>by omega
 have:=kj (a:=gc t r) (b:=((t.Links.filter λk=>decide (k.A=r)).map (·.B))++(t.Links.filter λk=>decide (k.B=r)).map (·.A)) i λx h=>by
  have f:=(hT d).1 h;rw[hJ]at f;obtain⟨g,e,c|c⟩:=f
  .refine List.mem_append.2 (.inl (List.mem_map.2 ⟨g,List.mem_filter.2 ⟨e,by simpa using c.1⟩,c.2⟩))
  .refine List.mem_append.2 (.inr (List.mem_map.2 ⟨g,List.mem_filter.2 ⟨e,by simpa using c.1⟩,c.2⟩))
 simpa using this
def HM{α:Type}(f g h:α->Nat):∀l:List α,(∀x∈l,f x<=g x+h x)->(l.map f).sum<=(l.map g).sum+(l.map h).sum
 |[],_=>by simp
 |x::l,a=>by
  have:=HM f g h l λc b=>a c (by simp[b]);have:=a x (by simp);simp only[List.map_cons,List.sum_cons];omega
def LJ(b:cU t){l:bR}(c:l.Nodup):(l.map λr=>(gc t r).length).sum<=120:=by
 have g:=HM (λr=>(gc t r).length) (λr=>(t.Links.filter λa=>decide (a.A=r)).length) (λr=>(t.Links.filter λa=>decide (a.B=r)).length) l λr _=>LI b r;have e:=AH (·.A) l t.Links c;have f:=AH (·.B) l t.Links c;have d:=b.nl;omega
def jV(f:aA)(p:kT):ng:=p.flatMap (oz f)
variable {p:kT}
def Dy(h:cI f){q:kT}(b:f.ay=p++q):(jV f p).length<=120:=by
 have c:(p.map (·.Router)).Nodup:=by
  have:=h.gi;rw[b]at this;have:=(List.pairwise_append.1 this).1;exact List.pairwise_map.2 (this.imp λh=>by omega)
 have:=LJ h.t c;rw[List.map_map]at this
 have d:(jV f p).length=(p.map λa=>(oz f a).length).sum:=by
  unfold jV;rw[List.length_flatMap]
 rw[d];refine Nat.le_trans (Nat.le_of_eq ?_) this;congr 1;refine List.map_congr_left λa _=>?_;simp[oz]
def Ew{r:Int}(h:r∈ids (aN f)):0<=hs f r:=by
 rcases uY f r with⟨_,a⟩|⟨e,b,g,_,a,_⟩
 .exfalso;unfold ids aN at h;simp only[List.map_map]at h;obtain⟨b,c,d⟩:=List.mem_map.1 h;exact a b c d
 .omega
def Dz(h:cI f){n:a2}(a:n∈f.ay){m:bS}(d:m∈oz f n):0<=hs f m.c4/\0<=hs f m.bW/\m.c4≠m.bW/\dS m.Database:=by
 obtain⟨x,c,rfl⟩:=List.mem_map.1 d;have b:=(hT h.t).1 c;exact⟨Ew (k9 a),Ew (k8 h.t b),AJ h.t b,(h.n n a).2.2⟩
def C1(h:cI f){q:kT}(b:f.ay=p++q):cI (aA.mk f.Links f.ay (jV f p)):=by
 have e:=Dy h b;refine⟨h.t,by show(jV f p).length<=400;omega,h.n,λd a=>?_⟩;have a:d∈jV f p:=a;obtain⟨g,c,a⟩:=List.mem_flatMap.1 a;exact Dz h (by rw[b];simp[c]) a
def J8(h:cI f)(e:f.aY=[]):tD (cM.mk f)=some (cM.mk (aA.mk f.Links f.ay (jV f f.ay))):=by
 unfold tD;refine QV (G:=λi=>i=some (cM.mk (aA.mk f.Links f.ay (jV f f.ay)))) (λp (a:jC×kT×ng)=>a=(f.Links,f.ay,jV f p)) ?_ _ (by rw[e];rfl) (λa c=>by rw[c]);rintro p g q a bb b rfl d;have j:=Dy h (p:=p) (q:=g::q) b;simp only;rw[E2 h b (jV f p) (by omega),aU];exact d _ (by simp[jV])
end
section
def filter_lt{α:Type}{p q:α->Bool}:∀{l:List α},(∀x∈l,p x=true->q x=true)->∀{a:α},a∈l->p a=false->q a=true->(l.filter p).length<(l.filter q).length
 |[],_,a,f,_,_=>by cases f
 |b::l,h,a,f,h1,j=>by
  have o:∀{l:List α},(∀x∈l,p x=true->q x=true)->(l.filter p).length<=(l.filter q).length:=λ{l}=>by
   induction l with
   |nil=>intro _;simp
   |cons c l i=>
    intro m;have:=i λx g=>m x (by simp[g]);cases d:p c
    .rw[List.filter_cons_of_neg (by simp[d])];cases e:q c
     .rw[List.filter_cons_of_neg (by simp[e])];exact this
     .rw[List.filter_cons_of_pos e,List.length_cons];omega
    .rw[List.filter_cons_of_pos d,List.filter_cons_of_pos (m c (by simp) d),List.length_cons,List.length_cons];omega
  have k:∀x∈l,p x=true->q x=true:=λx g=>h x (by simp[g]);have bp:=o k;rcases List.mem_cons.1 f with n|f
  .subst n;rw[List.filter_cons_of_neg (by simp[h1]),List.filter_cons_of_pos j,List.length_cons];omega
  .have i:=filter_lt k f h1 j;cases d:p b
   .rw[List.filter_cons_of_neg (by simp[d])];cases e:q b
    .rw[List.filter_cons_of_neg (by simp[e])];exact i
    .rw[List.filter_cons_of_pos e,List.length_cons];omega
   .rw[List.filter_cons_of_pos d,List.filter_cons_of_pos (h b (by simp) d),List.length_cons,List.length_cons];omega
def MP{T:aK}{Q:Int->Prop}{a b:Int}(h:ds T [] a b)(i:Q a)(d:¬Q b):∃x y,ds T [] a x/\Q x/\dU T x y=true/\¬Q y:=by
 induction h with
 |refl _=>exact absurd i d
 |@step x y e g _ f=>
  by_cases c:Q x
  .exact⟨x,y,e,c,g,d⟩
  .exact f c
def SG{T:aK}(r:cU T)(P:Nat->Int->Prop)(c:∀k i,P k i->P (k+1) i)(o:∀k i j,P k i->dU T i j=true->P (k+1) j){i0:Int}(hi:i0∈ids T)(g:P 0 i0):∀j,ds T [] i0 j->P (ids T).length j:=by
 classical
 have x:∀k,P k i0:=λk=>by
  induction k with
  |zero=>exact g
  |succ k b=>exact c k _ b
 have y:∀k,(∀j,ds T [] i0 j->P k j)\/k+1<=((ids T).filter λi=>decide (P k i)).length:=λk=>by
  induction k with
  |zero=>
   right;exact List.length_pos_iff.2 (List.ne_nil_of_mem (List.mem_filter.2 ⟨hi,by simpa using g⟩))
  |succ k b=>
   rcases b with b|b
   .exact .inl λj a=>c k j (b j a)
   .by_cases f:∀j,ds T [] i0 j->P k j
    .exact .inl λj a=>c k j (f j a)
    .right;obtain⟨j,a⟩:=Classical.not_forall.1 f;obtain⟨t,u⟩:=Classical.not_imp.1 a;obtain⟨z,m,A,v,e,w⟩:=MP (Q:=P k) t (x k) u;have s:m∈ids T:=k8 r e
     have:=filter_lt (l:=ids T) (p:=λi=>decide (P k i)) (q:=λi=>decide (P (k+1) i)) (λn _ d=>by
      have d:P k n:=by simpa using d
      simpa using c k n d) s (by simpa using w) (by simpa using o k z m v e)
     omega
 intro j a;rcases y (ids T).length with h|h
 .exact h j a
 .have:=List.length_filter_le (λi=>decide (P (ids T).length i)) (ids T);omega
end
section
variable {f:aA}{q:ng}{x:bS}
def Lc(h:cI f)(a:f.aY=x::q):cI (eP f)/\(eP f).aY=q:=
 ⟨(qb h a).2.1,(qb h a).2.2.1⟩
def OT(h:cI f)(c:f.aY=x::q):(dU (aN f) x.c4 x.bW=false->eP f=gf f [] q)/\(dU (aN f) x.c4 x.bW=true->∃a n b,f.ay=a++n::b/\n.Router=x.bW/\eP f=dV (gf f [] q) a (me f n x) b):=(qb h c).2.2.2
def LK(a:cI f):mZ f=some (gb (aA.mk (gb f).Links (gb f).ay (jV (gb f) (gb f).ay)),0):=by
 unfold mZ;rw[k4 a.sm,kD.2 a];obtain⟨b,c⟩:=yQ a;have d:=C1 b (p:=(gb f).ay) (q:=[]) (by simp);simp only[aU,cond_true,decide_true,Bool.not_true,cond_false,zZ a,EZ a,J8 b c,EZ d]
end
section
def ej(o p:sg):Prop:=match o,p with|none,_=>True|some _,none=>False|some x,some y=>fM x y=false
def og(o:sg):ej o o:=by cases o with|none=>trivial|some x=>exact rT x
variable {o p q:sg}
def pW(b:ej o p)(a:ej p q):ej o q:=by
 cases o with
 |none=>trivial
 |some x=>
  cases p with
  |none=>cases b
  |some y=>
   cases q with
   |none=>cases a
   |some z=>exact CU b a
def xT(o:sg):Prop:=∀a,o=some a->dO a=true
def Ex(c:xT o)(d:xT p)(b:ej o p)(a:ej p o):o=p:=by
 cases o with
 |none=>
  cases p with
  |none=>rfl
  |some y=>cases a
 |some x=>
  cases p with
  |none=>cases b
  |some y=>rw[LD (c x rfl) (d y rfl) b a]
def Ga(o p:sg):ej o (js o p):=by
 cases o with
 |none=>trivial
 |some x=>
  cases p with
  |none=>exact rT x
  |some y=>
   show fM x (jr x y)=false;unfold jr;cases a:fM y x
   .exact rT x
   .exact uX a
def AU(o p:sg):ej p (js o p):=by
 cases p with
 |none=>trivial
 |some y=>
  cases o with
  |none=>exact rT y
  |some x=>
   show fM y (jr x y)=false;unfold jr;cases a:fM y x
   .exact a
   .exact rT y
def v7(o p:sg):js o p=o\/js o p=p:=by
 cases o with
 |none=>exact .inr rfl
 |some x=>
  cases p with
  |none=>exact .inl rfl
  |some y=>
   show some (jr x y)=some x\/some (jr x y)=some y;unfold jr;cases fM y x
   .exact .inl rfl
   .exact .inr rfl
def OU(c:ej o q)(b:ej p q):ej (js o p) q:=by
 rcases v7 o p with a|a<;>rw[a]<;>assumption
variable {a b:aO}
def LL(h:b.Seq<a.Seq):fM a b=true:=by simp[fM,h]
def OV(h:fM a b=false):a.Seq<=b.Seq:=by
 simp only[fM,Bool.or_eq_false_iff,decide_eq_false_iff_not]at h;omega
def oE(f:aA)(i:Int):Option a2:=f.ay.find? λa=>decide (a.Router=i)
noncomputable def dm(f:aA)(i s:Int):sg:=match oE f i with|some n=>look n.Database s|none=>none
variable {f:aA}{i:Int}
def n4(h:cI f){n:a2}:oE f i=some n↔n∈f.ay/\n.Router=i:=by
 constructor
 .intro g;exact⟨List.mem_of_find?_eq_some g,by simpa using List.find?_some g⟩
 .rintro⟨o,j⟩;have l:=h.gi
  have:∀c:kT,c.Pairwise (λa b=>a.Router<b.Router)->n∈c->c.find? (λn=>decide (n.Router=i))=some n:=λc=>by
   induction c with
   |nil=>intro _ h;cases h
   |cons b c k=>
    intro e d;rw[List.pairwise_cons]at e;rcases List.mem_cons.1 d with m|d
    .subst m;rw[List.find?_cons_of_pos (by simpa using j)]
    .have:=e.1 n d;rw[List.find?_cons_of_neg (by simp;omega),k e.2 d]
  exact this _ l o
def nm(h:cI f){n:a2}(a:n∈f.ay)(s:Int):dm f n.Router s=look n.Database s:=by
 unfold dm;rw[(n4 h).2 ⟨a,rfl⟩]
def wI(h:cI f)(i s:Int):xT (dm f i s):=by
 intro a b;unfold dm at b;cases c:oE f i with
 |none=>rw[c]at b;cases b
 |some n=>
  rw[c]at b;obtain⟨e,_⟩:=(n4 h).1 c;have d:=(h.n n e).2.2;exact d.ok a ((jI d).1 b).1
def Ey(h:cI f){n m:a2}(b:n∈f.ay)(e:m∈f.ay)(d:n.Router=m.Router):n=m:=by
 have c:=(n4 h (i:=m.Router)).2 ⟨b,d⟩;have a:=(n4 h (i:=m.Router)).2 ⟨e,rfl⟩;rw[c]at a;exact Option.some.inj a
def Ai(hi:i∈ids (aN f)):∃n∈f.ay,n.Router=i:=by
 simp only[ids,aN,List.map_map,List.mem_map]at hi;obtain⟨n,a,b⟩:=hi;exact⟨n,a,b⟩
noncomputable def hH(f:aA)(n:a2):aO:=ec (aN f) n.Router n.Seq n.Claims
def sC(B:Int)(f:aA)(a:aO):Prop:=a.Seq<=B\/∃b∈f.ay,a=ec (aN f) b.Router a.Seq b.Claims/\a.Seq<=b.Seq
structure ei(B:Int)(f:aA):Prop where
 bd:0<=B/\B<=900000
 v:cI f
 own:∀n∈f.ay,1<=n.Seq/\n.Seq<=B+1/\look n.Database n.Router=some (hH f n)
 old:∀n∈f.ay,∀s a,look n.Database s=some a->sC B f a
 jK:∀m∈f.aY,∀s a,look m.Database s=some a->sC B f a
variable {B:Int}
def ei.Qu(h:ei B f){n:a2}(q:n∈f.ay):dm f n.Router n.Router=some (hH f n):=by
 rw[nm h.v q];exact(h.own n q).2.2
structure mD(B:Int)(f g:aA)(x:bS):Prop where
 rd:ei B g
 top:aN g=aN f
 len:g.ay.length=f.ay.length
 Bv:∀i s,i≠x.bW->dm g i s=dm f i s
 off:dU (aN f) x.c4 x.bW=false->∀i s,dm g i s=dm f i s
 on:dU (aN f) x.c4 x.bW=true->∀s,s≠x.bW->dm g x.bW s=js (dm f x.bW s) (look x.Database s)
 self:dU (aN f) x.c4 x.bW=true->ej (look x.Database x.bW) (dm f x.bW x.bW)->dm g x.bW x.bW=dm f x.bW x.bW
 bump:dU (aN f) x.c4 x.bW=true->ej (dm f x.bW x.bW) (dm g x.bW x.bW)/\ej (look x.Database x.bW) (dm g x.bW x.bW)
def CM(h:ei B f){x:bS}{q:ng}(C:f.aY=x::q):mD B f (eP f) x/\(eP f).aY=q:=by
 obtain⟨t,ae⟩:=Lc h.v C;have a3:=h.bd;obtain⟨d1,d2⟩:=OT h.v C;have P:x∈f.aY:=by rw[C];simp
 obtain⟨_,_,_,F⟩:=h.v.g x P;refine⟨?_,ae⟩;cases K:dU (aN f) x.c4 x.bW
 .have J:=d1 K;have aX:aN (gf f [] q)=aN f:=rfl;have hB:∀i s,dm (gf f [] q) i s=dm f i s:=λi s=>rfl;rw[J]at t ⊢;refine⟨⟨h.bd,t,h.own,h.old,λg e=>h.jK g (by rw[C];exact List.mem_cons_of_mem _ e)⟩,rfl,rfl,λi s _=>rfl,λ_ i s=>rfl,λm=>?_,λm=>?_,λm=>?_⟩<;>rw[K]at m<;>cases m
 .obtain⟨a,c,b,E,n,J⟩:=d2 K;have u:c∈f.ay:=by rw[E];simp
  obtain⟨a4,aC,G⟩:=h.own c u;have aq:=(h.v.n c u).2.2;have aD:dS (hC c.Database x.Database):=aq.merge F;have z:∀s,look (hC c.Database x.Database) s=js (look c.Database s) (look x.Database s):=λs=>MN aq F s;have aT:look (hC c.Database x.Database) c.Router=some (hH f c)\/∃d,look x.Database c.Router=some d/\look (hC c.Database x.Database) c.Router=some d/\fM d (hH f c)=true:=by
   rw[z,G];cases k:look x.Database c.Router with
   |none=>exact .inl rfl
   |some d=>
    show some (jr (hH f c) d)=_\/_;unfold jr;cases Y:fM d (hH f c)
    .exact .inl rfl
    .exact .inr ⟨d,rfl,by show some (jr (hH f c) d)=some d;unfold jr;rw[Y];rfl,Y⟩
  have gen:∀(j:a2),me f c x=j->j.Router=c.Router->j.bw=c.bw->j.Claims=c.Claims->c.Seq<=j.Seq->j.Seq<=B+1->look j.Database c.Router=some (ec (aN f) c.Router j.Seq c.Claims)->
    (∀s,s≠c.Router->look j.Database s=js (look c.Database s) (look x.Database s))->
    ei B (eP f)/\aN (eP f)=aN f/\(eP f).ay.length=f.ay.length/\(∀i s,i≠x.bW->dm (eP f) i s=dm f i s)/\∀s,dm (eP f) x.bW s=look j.Database s:=by
   intro j m v ax T a5 aH af aQ;rw[m]at J;have aI:(gf f [] q).ay=a++c::b:=E;have y:aN (eP f)=aN f:=by rw[J];exact k2 aI v ax
   have ao:(eP f).ay=a++j::b:=by rw[J];rfl
   have o:∀g,g∈(eP f).ay↔g=j\/(g∈f.ay/\g.Router≠c.Router):=λg=>by
    rw[ao];have ai:=h.v.gi;rw[E]at ai;obtain⟨a1,Z,aE⟩:=List.pairwise_append.1 ai;rw[List.pairwise_cons]at Z;simp only[List.mem_append,List.mem_cons];rw[E];simp only[List.mem_append,List.mem_cons];constructor
    .rintro(e|e|e)
     .exact .inr ⟨.inl e,by have:=aE g e c (by simp);omega⟩
     .exact .inl e
     .exact .inr ⟨.inr (.inr e),by have:=Z.1 g e;omega⟩
    .rintro(e|⟨e|e|e,D⟩)
     .exact .inr (.inl e)
     .exact .inl e
     .rw[e]at D;exact absurd rfl D
     .exact .inr (.inr e)
   have M:∀d,sC B f d->sC B (eP f) d:=λd k=>by
    rcases k with k|⟨g,e,p,L⟩
    .exact .inl k
    .right;by_cases D:g.Router=c.Router
     .have:=Ey h.v e u D;subst this;exact⟨j,(o j).2 (.inl rfl),by rw[y,v,T];exact p,by omega⟩
     .exact⟨g,(o g).2 (.inr ⟨e,D⟩),by rw[y];exact p,L⟩
   have a8:dS j.Database:=(t.n j ((o j).2 (.inl rfl))).2.2;refine⟨⟨h.bd,t,λg e=>?_,λg e s d k=>?_,λg e s d k=>?_⟩,y,by rw[ao,E];simp,λi s ar=>?_,λs=>?_⟩
   .rcases(o g).1 e with rfl|⟨e,_⟩
    .refine⟨by omega,aH,?_⟩;unfold hH;rw[y,v,T];exact af
    .obtain⟨au,av,aw⟩:=h.own g e;refine⟨au,av,?_⟩;unfold hH;rw[y];exact aw
   .rcases(o g).1 e with rfl|⟨e,_⟩
    .by_cases r:s=c.Router
     .rw[r,af]at k;have:=Option.some.inj k;subst this;exact .inr ⟨g,e,by rw[y,v,T];rfl,by show g.Seq<=g.Seq;omega⟩
     .rw[aQ s r]at k;rcases v7 (look c.Database s) (look x.Database s)with l|l
      .rw[l]at k;exact M d (h.old c u s d k)
      .rw[l]at k;exact M d (h.jK x P s d k)
    .exact M d (h.old g e s d k)
   .rw[ae]at e;exact M d (h.jK g (by rw[C];exact List.mem_cons_of_mem _ e) s d k)
   .have:oE (eP f) i=oE f i:=by
     cases O:oE f i with
     |some g=>
      obtain⟨W,w⟩:=(n4 h.v).1 O;exact(n4 t).2 ⟨(o g).2 (.inr ⟨W,by rw[w,n];exact ar⟩),w⟩
     |none=>
      cases aG:oE (eP f) i with
      |none=>rfl
      |some g=>
       exfalso;obtain⟨W,w⟩:=(n4 t).1 aG;rcases(o g).1 W with rfl|⟨aF,_⟩
       .rw[v,n]at w;exact ar w.symm
       .rw[(n4 h.v).2 ⟨aF,w⟩]at O;cases O
    unfold dm;rw[this]
   .have:=nm t ((o j).2 (.inl rfl)) s;rw[v,n]at this;exact this
  have A:∀s,dm f x.bW s=look c.Database s:=λs=>by rw[<-n];exact nm h.v u s
  have an:dU (aN f) x.c4 x.bW=false->∀i s,dm (eP f) i s=dm f i s:=λm=>by rw[K]at m;cases m
  rcases aT with N|⟨d,p,L,I⟩
  .have m:me f c x=a2.mk c.Router c.Seq c.bw c.Claims (hC c.Database x.Database):=by
    unfold me;rw[N];exact if_pos (.inl ⟨by omega,rfl⟩)
   obtain⟨R,Q,S,U,H⟩:=gen _ m rfl rfl rfl (Int.le_refl _) aC N λs _=>z s;have ak:dm (eP f) x.bW x.bW=dm f x.bW x.bW:=by
    rw[H,A,<-n];exact N.trans G.symm
   refine⟨R,Q,S,U,an,λ_ s r=>by rw[H,A];exact z s,λ_ _=>ak,λ_=>?_⟩;rw[ak];refine⟨og _,?_⟩;have l:=AU (look c.Database c.Router) (look x.Database c.Router);rw[<-z,N,<-G,n,<-A]at l;exact l
  .have aV:dO d=true:=F.ok d ((jI F).1 p).1;have am:d.Router=c.Router:=((jI F).1 p).2;have ab:d≠hH f c:=λaW=>by rw[aW,rT]at I;cases I
   have a7:c.Seq<=d.Seq:=by
    have:=OV (uX I);exact this
   have a6:d.Seq<=B:=by
    rcases h.jK x P _ _ p with l|⟨g,e,l,a0⟩
    .exact l
    .exfalso;have aJ:g.Router=c.Router:=by rw[<-am,l];rfl
     have:=Ey h.v e u aJ;subst this;have aU:d.Seq=g.Seq:=by omega
     rw[aU]at l;exact ab l
   have aj:dO (ec (aN f) c.Router (d.Seq+1) c.Claims)=true:=sN h.v u (by omega);have m:me f c x=hh f (a2.mk c.Router (d.Seq+1) c.bw c.Claims (hC c.Database x.Database)):=by
    unfold me;rw[L];refine if_neg ?_;rintro(⟨_,l⟩|l)
    .exact ab l
    .omega
   have X:∀s,look (hh f (a2.mk c.Router (d.Seq+1) c.bw c.Claims (hC c.Database x.Database))).Database s=if s=c.Router then some (gq (look (hC c.Database x.Database) s) (ec (aN f) c.Router (d.Seq+1) c.Claims))else look (hC c.Database x.Database) s:=λs=>zW aD aj s
   have V:fM (ec (aN f) c.Router (d.Seq+1) c.Claims) d=true:=LL (by show d.Seq<d.Seq+1;omega);have ah:look (hh f (a2.mk c.Router (d.Seq+1) c.bw c.Claims (hC c.Database x.Database))).Database c.Router=some (ec (aN f) c.Router (d.Seq+1) c.Claims):=by
    rw[X,if_pos rfl,L];have aM:jR (ec (aN f) c.Router (d.Seq+1) c.Claims) d=true:=by
     unfold jR;rw[aj,aV,V,am];simp[ec]
    show some (bif jR (ec (aN f) c.Router (d.Seq+1) c.Claims) d then _ else d)=_;rw[aM];rfl
   obtain⟨R,Q,S,U,H⟩:=gen _ m rfl rfl rfl (by show c.Seq<=d.Seq+1;omega) (by show d.Seq+1<=B+1;omega) ah λs r=>by rw[X,if_neg r];exact z s
   refine⟨R,Q,S,U,an,λ_ s r=>by rw[H,X,if_neg (by rw[n];exact r),A];exact z s,λ_ bp=>?_,λ_=>?_⟩
   .exfalso;rw[A,<-n,p,G]at bp;have bp:fM d (hH f c)=false:=bp;rw[I]at bp;cases bp
   .rw[H,A,<-n,ah,p,G];constructor
    .exact CU (uX I) (uX V)
    .exact uX V
end
section
variable {B:Int}
section
variable {f g:aA}{x:bS}
def mD.mono(h:mD B f g x)(i s:Int):ej (dm f i s) (dm g i s):=by
 by_cases hi:i=x.bW
 .cases q:dU (aN f) x.c4 x.bW
  .rw[h.off q];exact og _
  .by_cases u:s=x.bW
   .rw[hi,u];exact(h.bump q).1
   .rw[hi,h.on q s u];exact Ga _ _
 .rw[h.Bv i s hi];exact og _
def mD.j3(h:mD B f g x)(u:dU (aN f) x.c4 x.bW=true)(s:Int):ej (look x.Database s) (dm g x.bW s):=by
 by_cases q:s=x.bW
 .rw[q];exact(h.bump u).2
 .rw[h.on u s q];exact AU _ _
end
def zu(I:aA->Prop)(e:∀f x q,ei B f->f.aY=x::q->mD B f (eP f) x->(eP f).aY=q->I f->I (eP f)):∀(n:Nat) (f:aA),ei B f->f.aY.length=n->I f->ei B (qT n f)/\I (qT n f)
 |0,f,h,_,c=>⟨h,c⟩
 |n+1,f,h,b,c=>by
  cases a:f.aY with
  |nil=>rw[a]at b;simp at b
  |cons x q=>
   obtain⟨g,d⟩:=CM h a;refine zu I e n (eP f) g.rd ?_ (e f x q h a g d c);rw[d];rw[a]at b;simpa using b
def rU{f:aA}(h:ei B f)(I:aA->Prop)(a:∀f x q,ei B f->f.aY=x::q->mD B f (eP f) x->(eP f).aY=q->I f->I (eP f))(hi:I f):I (gb f):=(zu I a _ f h rfl hi).2
def Ez{f:aA}(h:ei B f):ei B (gb f):=(zu (λ_=>True) (λ_ _ _ _ _ _ _ _=>trivial) _ f h rfl trivial).1
def DA{f:aA}(h:ei B f):aN (gb f)=aN f:=rU h (λg=>aN g=aN f) (λ_ _ _ _ _ a _ b=>by rw[a.top];exact b) rfl
def DB{f:aA}(h:ei B f):(gb f).ay.length=f.ay.length:=rU h (λg=>g.ay.length=f.ay.length) (λ_ _ _ _ _ a _ b=>by rw[a.len];exact b) rfl
def J9{f:aA}(h:ei B f)(i s:Int):ej (dm f i s) (dm (gb f) i s):=rU h (λg=>ej (dm f i s) (dm g i s)) (λ_ _ _ _ _ a _ b=>pW b (a.mono i s)) (og _)
def Ka{f:aA}(h:ei B f){m:bS}(j:m∈f.aY)(i:dU (aN f) m.c4 m.bW=true)(s:Int):ej (look m.Database s) (dm (gb f) m.bW s):=by
 have:=rU h (λg=>aN g=aN f/\(m∈g.aY\/ej (look m.Database s) (dm g m.bW s))) (λg x k _ e b d c=>by
  refine⟨by rw[b.top];exact c.1,?_⟩;rcases c.2 with a|a
  .rw[e]at a;rcases List.mem_cons.1 a with a|a
   .subst a;right;exact b.j3 (by rw[c.1];exact i) s
   .left;rw[d];exact a
  .exact .inr (pW a (b.mono _ _))) ⟨rfl,.inl j⟩
 rcases this.2 with a|a
 .rw[(yQ h.v).2]at a;cases a
 .exact a
structure kS(T:aK)(c s:Int)(W:Option aO)(f:aA):Prop where
 t:aN f=T
 n:∀i,ds T [] c i->ej (dm f i s) W
 m:∀m∈f.aY,ds T [] c m.c4->ej (look m.Database s) W
 o:ds T [] c s->dm f s s=W
def kS.step{T:aK}{c s:Int}{W:sg}{f g:aA}{x:bS}{q:ng}(h:kS T c s W f)(X:f.aY=x::q)(d:mD B f g x)(ab:g.aY=q):kS T c s W g:=by
 have Y:x∈f.aY:=by rw[X];simp
 have key:∀i,ds T [] c i->ej (dm g i s) W/\(i=s->dm g i s=W):=λi hi=>by
  by_cases bh:i=x.bW
  .cases u:dU (aN f) x.c4 x.bW
   .rw[d.off u];exact⟨h.n i hi,λC=>by rw[C];exact h.o (by rw[<-C];exact hi)⟩
   .have S:ds T [] c x.c4:=by
     rw[h.t]at u;exact .step hi (by rw[bh];exact oe u) (by simp)
    by_cases O:s=x.bW
    .have Q:ds T [] c s:=by rw[O,<-bh];exact hi
     have bp:ej (look x.Database x.bW) (dm f x.bW x.bW):=by
      rw[<-O,h.o Q];exact h.m x Y S
     have:dm g i s=W:=by
      rw[bh,O,d.self u bp,<-O];exact h.o Q
     exact⟨by rw[this];exact og _,λ_=>this⟩
    .refine⟨?_,λC=>absurd (C.symm.trans bh) O⟩;rw[bh,d.on u s O];exact OU (h.n _ (by rw[<-bh];exact hi)) (h.m x Y S)
  .rw[d.Bv i s bh];exact⟨h.n i hi,λC=>by rw[C];exact h.o (by rw[<-C];exact hi)⟩
 exact⟨by rw[d.top];exact h.t,λi hi=>(key i hi).1,λm Z u=>h.m m (by rw[X];rw[ab]at Z;exact List.mem_cons_of_mem _ Z) u,λQ=>(key s Q).2 rfl⟩
structure mB(T:aK)(c s:Int)(M:Option aO)(f:aA):Prop where
 t:aN f=T
 n:∀i,ds T [] c i->ej (dm f i s) M\/ej (dm f i s) (dm f s s)
 m:∀m∈f.aY,ds T [] c m.c4->ej (look m.Database s) M\/ej (look m.Database s) (dm f s s)
def mB.step{T:aK}{c s:Int}{M:sg}{f g:aA}{x:bS}{q:ng}(h:mB T c s M f)(Q:f.aY=x::q)(d:mD B f g x)(Z:g.aY=q):mB T c s M g:=by
 have ab:x∈f.aY:=by rw[Q];simp
 have C:∀{o:sg},ej o M\/ej o (dm f s s)->ej o M\/ej o (dm g s s):=λae=>ae.imp id λO=>pW O (d.mono s s);refine⟨by rw[d.top];exact h.t,λi hi=>?_,λm X u=>C (h.m m (by rw[Q];rw[Z]at X;exact List.mem_cons_of_mem _ X) u)⟩;by_cases bh:i=x.bW
 .cases u:dU (aN f) x.c4 x.bW
  .have:=C (h.n i hi);rw[d.off u i s];exact this
  .have Y:ds T [] c x.c4:=by
    rw[h.t]at u;exact .step hi (by rw[bh];exact oe u) (by simp)
   by_cases S:s=x.bW
   .rw[bh,<-S];exact .inr (og _)
   .rw[bh,d.on u s S];rcases v7 (dm f x.bW s) (look x.Database s)with O|O
    .rw[O];exact C (h.n _ (by rw[<-bh];exact hi))
    .rw[O];exact C (h.m x ab Y)
 .rw[d.Bv i s bh];exact C (h.n i hi)
def Bh(f:aA):aA:=aA.mk f.Links f.ay (jV f f.ay)
noncomputable def kz(f:aA):aA:=gb (Bh f)
def vY{f:aA}{m:bS}(b:cI f):m∈(Bh f).aY↔∃n∈f.ay,m.c4=n.Router/\m.Database=n.Database/\dU (aN f) n.Router m.bW=true:=by
 show m∈f.ay.flatMap (oz f)↔_;rw[List.mem_flatMap];constructor
 .rintro⟨n,a,h⟩;obtain⟨i,d,rfl⟩:=List.mem_map.1 h;exact⟨n,a,rfl,rfl,(hT b.t).1 d⟩
 .rintro⟨n,a,g,c,e⟩;refine⟨n,a,List.mem_map.2 ⟨m.bW,(hT b.t).2 e,?_⟩⟩;rw[<-g,<-c]
def ow{f:aA}(h:ei B f):ei B (Bh f):=by
 refine⟨h.bd,C1 h.v (p:=f.ay) (q:=[]) (by simp),h.own,h.old,λj e i c a=>?_⟩;obtain⟨g,d,_,b,_⟩:=(vY h.v).1 e;rw[b]at a;exact h.old g d i c a
def Qv{f:aA}(h:ei B f):ei B (kz f):=Ez (ow h)
def OW{f:aA}(h:ei B f):aN (kz f)=aN f:=(DA (ow h)).trans rfl
def OX{f:aA}(h:ei B f):(kz f).ay.length=f.ay.length:=(DB (ow h)).trans rfl
def MQ{f:aA}(h:ei B f)(i s:Int):ej (dm f i s) (dm (kz f) i s):=J9 (ow h) i s
def MR{f:aA}(h:ei B f):(kz f).aY=[]:=(yQ (ow h).v).2
def MS{f:aA}(h:ei B f){i j:Int}(b:dU (aN f) i j=true)(s:Int):ej (dm f i s) (dm (kz f) j s):=by
 obtain⟨a,d,c⟩:=Ai (k8 h.v.t (oe b));have:=Ka (ow h) (m:=bS.mk a.Router j a.Database) ((vY h.v).2 ⟨a,d,rfl,rfl,by rw[c];exact b⟩) (by show dU (aN f) a.Router j=true;rw[c];exact b) s;rw[<-c,nm h.v d];exact this
variable {T:aK}{W:sg}
def kS.round{c s:Int}{f:aA}(q:ei B f)(h:kS T c s W f):kS T c s W (kz f):=by
 refine rU (ow q) (kS T c s W) (λg x Z _ C d u hi=>hi.step C d u) ⟨h.t,h.n,λm Y Q=>?_,h.o⟩;obtain⟨n,S,X,O,_⟩:=(vY q.v).1 Y;rw[O,<-nm q.v S,<-X];exact h.n _ Q
def mB.round{c s:Int}{M:sg}{f:aA}(q:ei B f)(h:mB T c s M f):mB T c s M (kz f):=by
 refine rU (ow q) (mB T c s M) (λg x Z _ C d u hi=>hi.step C d u) ⟨h.t,h.n,λm Y Q=>?_⟩;obtain⟨n,S,X,O,_⟩:=(vY q.v).1 Y;rw[O,<-nm q.v S,<-X];exact h.n _ Q
noncomputable def dY:Nat->aA->aA
 |0,f=>f
 |k+1,f=>kz (dY k f)
def h2{f:aA}(h:ei B f):∀k,ei B (dY k f)
 |0=>h
 |k+1=>Qv (h2 h k)
def ox{f:aA}(h:ei B f):∀k,aN (dY k f)=aN f
 |0=>rfl
 |k+1=>(OW (h2 h k)).trans (ox h k)
def FX{f:aA}(h:ei B f):∀k,(dY k f).ay.length=f.ay.length
 |0=>rfl
 |k+1=>(OX (h2 h k)).trans (FX h k)
def FY(f:aA)(k:Nat):∀l,dY (k+l) f=dY l (dY k f)
 |0=>rfl
 |l+1=>by
  show kz (dY (k+l) f)=kz (dY l (dY k f));rw[FY f k l]
def Aj{f:aA}(h:ei B f)(a:f.aY=[]):∀k,(dY k f).aY=[]
 |0=>a
 |k+1=>MR (h2 h k)
def AV{T:aK}{c s:Int}{W:sg}{f:aA}(a:ei B f)(h:kS T c s W f):∀k,kS T c s W (dY k f)
 |0=>h
 |k+1=>(AV a h k).round (h2 a k)
def Gb{T:aK}{c s:Int}{M:sg}{f:aA}(a:ei B f)(h:mB T c s M f):∀k,mB T c s M (dY k f)
 |0=>h
 |k+1=>(Gb a h k).round (h2 a k)
def zv{f:aA}(h:ei B f){i0 s:Int}(hi:i0∈ids (aN f))(i:ej W (dm f i0 s)):∀k,(ids (aN f)).length<=k->∀j,ds (aN f) [] i0 j->ej W (dm (dY k f) j s):=by
 have c:∀k j,ej W (dm (dY k f) j s)->ej W (dm (dY (k+1) f) j s):=λk j a=>pW a (MQ (h2 h k) j s);have l:=SG h.v.t (λk j=>ej W (dm (dY k f) j s)) c (λk m j a g=>pW a (MS (h2 h k) (by rw[ox h k];exact g) s)) hi i;intro k a j d;obtain⟨b,rfl⟩:∃b,k=(ids (aN f)).length+b:=⟨k-(ids (aN f)).length,by omega⟩;clear a;induction b with
 |zero=>exact l j d
 |succ b e=>exact c _ j e
noncomputable def jB:List (Option aO)->sg:=List.foldr js none
def E4:∀(l:List (Option aO)) (o:sg),o∈l->ej o (jB l)
 |a::l,o,b=>by
  show ej o (js a (jB l));rcases List.mem_cons.1 b with rfl|b
  .exact Ga _ _
  .exact pW (E4 l o b) (AU _ _)
def Ak:∀l:List (Option aO),jB l=none\/jB l∈l
 |[]=>.inl rfl
 |a::l=>by
  show js a (jB l)=none\/js a (jB l)∈a::l;rcases v7 a (jB l)with b|b
  .rw[b];exact .inr (by simp)
  .rw[b];rcases Ak l with c|c
   .exact .inl c
   .exact .inr (List.mem_cons_of_mem _ c)
def EA{f:aA}(h:ei B f)(r:f.aY=[]){c:Int}(t:c∈ids (aN f)){k:Nat}(O:2*(ids (aN f)).length<=k){i:Int}(hi:ds (aN f) [] c i)(s:Int):dm (dY k f) i s=dm (dY k f) c s:=by
 classical
 have N:∃x,∀a,ds (aN f) [] c a->dm (dY k f) a s=x:=by
  generalize j:((ids (aN f)).filter λi=>decide (ds (aN f) [] c i)).map (λi=>dm f i s)=l
  have e:∀a,ds (aN f) [] c a->ej (dm f a s) (jB l):=λa b=>E4 l _ (by
   rw[<-j];exact List.mem_map.2 ⟨a,List.mem_filter.2 ⟨b.ids h.v.t t,by simpa using b⟩,rfl⟩)
  have G:xT (jB l):=λI q=>by
   rcases Ak l with d|d
   .rw[d]at q;cases q
   .rw[<-j]at d;obtain⟨a,_,b⟩:=List.mem_map.1 d;rw[<-j,<-b]at q;exact wI h.v a s I q
  obtain⟨i0,u,bp⟩:∃i0,ds (aN f) [] c i0/\ej (jB l) (dm f i0 s):=by
   rcases Ak l with d|d
   .exact⟨c,.refl (by simp),by rw[d];trivial⟩
   .rw[<-j]at d;obtain⟨a,b,D⟩:=List.mem_map.1 d;refine⟨a,by simpa using (List.mem_filter.1 b).2,?_⟩;rw[j]at D;rw[D];exact og _
  have C:i0∈ids (aN f):=u.ids h.v.t t;by_cases m:ds (aN f) [] c s
  ·
   have L:s∈ids (aN f):=m.ids h.v.t t;have y:=zv h C bp _ (Nat.le_refl _) s (u.symm.trans m);have A:=Gb (T:=aN f) (c:=c) (s:=s) (M:=jB l) h ⟨rfl,λa b=>.inl (e a b),λE e _=>by rw[r]at e;cases e⟩ (ids (aN f)).length;generalize p:dY (ids (aN f)).length f=g at y A;have n:ei B g:=by rw[<-p];exact h2 h _
   have o:aN g=aN f:=by rw[<-p];exact ox h _
   have K:g.aY=[]:=by rw[<-p];exact Aj h r _
   have H:∀{w:sg},ej w (jB l)\/ej w (dm g s s)->ej w (dm g s s):=λF=>F.elim (λd=>pW d y) id;have v:kS (aN f) c s (dm g s s) g:=⟨o,λa b=>H (A.n a b),λE e _=>(by rw[K]at e;cases e),λ_=>rfl⟩;refine⟨dm g s s,λa b=>?_⟩;have J:dY k f=dY (k-(ids (aN f)).length) g:=by
    rw[<-p,<-FY];congr 1;omega
   rw[J];have d:=zv n (W:=dm g s s) (i0:=s) (s:=s) (by rw[o];exact L) (og _) (k-(ids (aN f)).length) (by rw[o];omega) a (by rw[o];exact m.symm.trans b);exact Ex (wI (h2 n _).v _ _) (wI n.v _ _) ((AV n v _).n a b) d
  .have v:kS (aN f) c s (jB l) f:=⟨rfl,e,λE e _=>(by rw[r]at e;cases e),λh=>absurd h m⟩;refine⟨jB l,λa b=>?_⟩;have d:=zv h C bp k (by omega) a (u.symm.trans b);exact Ex (wI (h2 h _).v _ _) G ((AV h v _).n a b) d
 obtain⟨x,z⟩:=N;rw[z i hi,z c (.refl (by simp))]
end
section
structure jS(g:aK)(d:bF)(de:Int):Prop where
 v:dS d
 a:∀r,ds g [] de r->∃x∈d.bf,x.Router=r/\∃seq cl,x=ec g r seq cl
section
variable {g:aK}{d:bF}{de:Int}
variable {x:aO}
def jS.get(h:jS g d de)(q:x∈d.bf)(C:ds g [] de x.Router):∃seq cl,x=ec g x.Router seq cl:=by
 obtain⟨y,u,O,seq,cl,Q⟩:=h.a _ C;have:=h.v.uniq u q O;subst this;exact⟨seq,cl,Q⟩
def jS.links(h:jS g d de)(q:x∈d.bf)(u:ds g [] de x.Router):x.Links=(gc g x.Router).map (hN g x.Router):=by
 obtain⟨seq,cl,e⟩:=h.get q u;exact(congrArg aO.Links e).trans rfl
def jS.nb(h:jS g d de)(u:cU g)(q:x∈d.bf)(O:ds g [] de x.Router)(n:Int):(∃p∈x.Links,p.dy=n)↔dU g x.Router n=true:=by
 rw[h.links q O,<-hT u];constructor
 .rintro⟨p,C,rfl⟩;obtain⟨m,S,rfl⟩:=List.mem_map.1 C;rw[om];exact S
 .intro Q;exact⟨_,List.mem_map.2 ⟨n,Q,rfl⟩,om _ _ _⟩
def jS.lk(h:jS g d de)(C:cU g){a b:Int}(u:ds g [] de a):mE d a b↔dU g a b=true:=by
 constructor
 .rintro⟨x,q,y,O,rfl,rfl,p,Z⟩;exact(h.nb C q u _).1 p
 .intro Q;obtain⟨x,q,X,_⟩:=h.a a u;have S:ds g [] de b:=.step u Q (by simp);obtain⟨y,O,Y,_⟩:=h.a b S;subst X Y;exact⟨x,q,y,O,rfl,rfl,(h.nb C q u _).2 Q,(h.nb C O S _).2 (oe Q)⟩
def jS.rd(h:jS g d de)(O:cU g){b:Int}:Rd d de b↔ds g [] de b:=by
 constructor
 .intro C;induction C with
  |refl=>exact .refl (by simp)
  |step _ u q=>exact .step q ((h.lk O q).1 u) (by simp)
 .intro C;induction C with
  |refl _=>exact .refl
  |step Q u _ q=>exact .step q ((h.lk O Q).2 u)
def jS.view(h:jS g d de)(q:cU g)(ak:de∈ids g){out:bR}(Z:∀x,x∈ids g->(x∉out↔ds g [] de x)):lp d de (nv g (gC.mk [] out)):=by
 obtain⟨aJ,aI,aH,_⟩:=h.a de (.refl (by simp));have ai:=q.Cb (gC.mk [] out);have aM:∀l:aR,qv (gC.mk [] out) l=(decide (l.A∈out)||decide (l.B∈out)):=λl=>by simp[qv,kL]
 refine .inr ⟨⟨⟨aJ,aI,aH⟩,h.v⟩,nv g (gC.mk [] out),⟨ai.gi,λr=>?_,ai.oR,λl=>?_⟩,by rw[if_pos (gj.2 ai)]⟩
 .show r∈g.aL.filter _↔_;rw[List.mem_filter];simp only[Bool.not_eq_true',decide_eq_false_iff_not];constructor
  .rintro⟨ab,aF⟩;have aQ:r.aP∈ids g:=List.mem_map.2 ⟨r,ab,rfl⟩;have X:=(Z _ aQ).1 aF;obtain⟨a,ar,e,seq,cl,am⟩:=h.a _ X;refine⟨a,ar,(h.rd q).2 (by rw[e];exact X),?_⟩;have ao:a.bw=r.bw:=by
    rw[am];show nK g r.aP=_;exact E0 q ab
   rw[ao,e]
  .rintro⟨a,ar,aj,rfl⟩;have X:=(h.rd q).1 aj;have hi:=X.ids q ak;obtain⟨r,ab,e⟩:=List.mem_map.1 hi;obtain⟨seq,cl,am⟩:=h.get ar X;have ao:a.bw=r.bw:=by
    rw[am];show nK g a.Router=_;rw[<-e];exact E0 q ab
   have:bk.mk a.Router a.bw=r:=by rw[ao,<-e]
   rw[this];exact⟨ab,by rw[e];exact(Z _ hi).2 X⟩
 .show l∈g.Links.filter _↔_;rw[List.mem_filter];simp only[aM,Bool.not_or,Bool.and_eq_true,Bool.not_eq_true',decide_eq_false_iff_not]
  have lk:∀l∈g.Links,∀x∈d.bf,∀y∈d.bf,ds g [] de l.A->ds g [] de l.B->x.Router=l.A->y.Router=l.B->hN g l.A l.B∈x.Links/\hN g l.B l.A∈y.Links/\l=ua x (hN g l.A l.B) y (hN g l.B l.A):=λl Y x C y S cx ae Q h9=>by
   have O:dU g l.A l.B=true:=hJ.2 ⟨l,Y,.inl ⟨rfl,rfl⟩⟩;have aG:=h.links C (by rw[Q];exact cx);have aD:=h.links S (by rw[h9];exact ae);refine⟨?_,?_,?_⟩
   .rw[aG,Q];exact List.mem_map.2 ⟨l.B,(hT q).2 O,rfl⟩
   .rw[aD,h9];exact List.mem_map.2 ⟨l.A,(hT q).2 (oe O),rfl⟩
   .rw[Af q Y,Ag q Y];simp[ua,Q,h9]
  constructor
  .rintro⟨Y,aE,aC⟩;have O:dU g l.A l.B=true:=hJ.2 ⟨l,Y,.inl ⟨rfl,rfl⟩⟩;have aq:=(Z _ (k8 q (oe O))).1 aE;have aw:=(Z _ (k8 q O)).1 aC;obtain⟨x,C,Q,_⟩:=h.a _ aq;obtain⟨y,S,h9,_⟩:=h.a _ aw;obtain⟨dG,bE,cn⟩:=lk l Y x C y S aq aw Q h9;refine⟨x,C,(h.rd q).2 (by rw[Q];exact aq),y,S,_,dG,_,bE,by rw[Q,h9];exact q.lt l Y,by rw[om,h9],by rw[om,Q],cn⟩
  .rintro⟨x,C,aj,y,S,p,au,a0,ax,a1,av,aX,e⟩;have cx:=(h.rd q).1 aj;have O:dU g x.Router y.Router=true:=(h.nb q C cx _).1 ⟨p,au,av⟩;have ae:ds g [] de y.Router:=.step cx O (by simp);obtain⟨u,an,X⟩:=hJ.1 O;have a3:=q.lt u an;have af:x.Router=u.A:=by omega
   have ah:y.Router=u.B:=by omega
   obtain⟨dG,bE,cn⟩:=lk u an x C y S (by rw[<-af];exact cx) (by rw[<-ah];exact ae) af ah;have aT:=ml (h.v.ok x C);have aU:=ml (h.v.ok y S);have aV:p=hN g u.A u.B:=aT.uniq au dG (by rw[av,om,ah]);have aW:a0=hN g u.B u.A:=aU.uniq ax bE (by rw[aX,om,af]);have el:l=u:=by rw[e,aV,aW,<-cn]
   subst el;refine⟨an,?_,?_⟩
   .rw[<-af];exact(Z _ (cx.ids q ak)).2 cx
   .rw[<-ah];exact(Z _ (ae.ids q ak)).2 ae
end
variable {f:aA}{k:Nat}
def seen{B:Int}(h:ei B f)(p:f.aY=[])(r:2*(ids (aN f)).length<=k){n:a2}(b:n∈(dY k f).ay):jS (aN f) n.Database n.Router:=by
 have a:=h2 h k;have c:=ox h k;refine⟨(a.v.n n b).2.2,λt e=>?_⟩;have i:n.Router∈ids (aN f):=by rw[<-c];exact k9 b
 have g:=e.ids h.v.t i;rw[<-c]at g;obtain⟨l,s,d⟩:=Ai g;have j:=EA h p i r e t;rw[<-d,a.Qu s,d,nm a.v b]at j;have q:=(a.v.n n b).2.2;obtain⟨m,o⟩:=(jI q).1 j.symm;refine⟨_,m,o,l.Seq,l.Claims,?_⟩;unfold hH;rw[c,d]
def DC{B:Int}(h:ei B f)(d:f.aY=[])(i:2*(ids (aN f)).length<=k){n m:a2}(b:n∈(dY k f).ay)(c:m∈(dY k f).ay)(e:ds (aN f) [] n.Router m.Router):n.Database=m.Database:=by
 have a:=h2 h k;have g:n.Router∈ids (aN f):=by rw[<-ox h k];exact k9 b
 refine LA (a.v.n n b).2.2 (a.v.n m c).2.2 λj=>?_;rw[<-nm a.v b,<-nm a.v c];exact(EA h d g i e j).symm
end
section
variable {f:aA}
def Ld(a:f.aY=[]):gb f=f:=by
 unfold gb;rw[a];rfl
variable {B:Int}
def round_eq(h:ei B f):mZ f=some (kz (gb f),0):=LK h.v
def LM(h:ei B f)(a:f.aY=[])(k:Nat):mZ (dY k f)=some (dY (k+1) f,0):=by
 rw[round_eq (h2 h k),Ld (Aj h a k)];rfl
def EB{α:Type}{P:List α->α->Bool}:∀(l p:List α),(∀a x b,p++l=a++x::b->P a x=true)->mF P p l=true
 |[],_,_=>rfl
 |x::l,p,h=>by
  rw[mF,h p x l rfl,Bool.true_and];exact EB l (p++[x]) λa d b c=>h a d b (by rw[<-c];simp)
def Le{d:bF}{r:Int}{a:aO}(h:look d r=some a):fQ d r=(a,true):=by
 unfold look at h;cases b:(fQ d r).2
 .rw[b]at h;cases h
 .rw[b]at h;have:=Option.some.inj h;rw[<-this,<-b]
def BY(h:ei B f)(g:f.aY=[]){k:Nat}(q:2*(ids (aN f)).length<=k):wT (dY k f)=true:=by
 have b:=h2 h k;unfold wT;rw[kD.2 b.v,Aj h g k];simp only[List.length_nil,Int.natCast_zero,Int.lt_irrefl,decide_false,Bool.not_false,Bool.true_and];refine EB _ [] λv a w d=>?_;rw[List.nil_append]at d;have i:a∈(dY k f).ay:=by rw[d];simp
 obtain⟨u,t,n⟩:=b.own a i;have s:=b.bd;have l:decide (a.Seq=0)=false:=by simp;omega
 have j:dk a.Seq 1 1000000=true:=by simp[dk];omega
 have o:(bif decide (a.Seq=0)then(km,false)else kR (dY k f) a a.Seq)=(hH (dY k f) a,true):=by
  rw[l,cond_false];unfold kR;rw[j];rfl
 unfold tc;rw[o,Le n,(u3 _ _).2 rfl];simp only[Bool.true_and];rw[List.all_eq_true];intro e r;have p:e∈(dY k f).ay:=by rw[d];simp[r]
 cases c:hf (aN (dY k f)) e.Router a.Router
 .rfl
 .have m:ds (aN f) [] e.Router a.Router:=by
   unfold hf at c;simp only[Bool.and_eq_true,decide_eq_true_eq]at c;rw[<-ox h k];exact c.2
  have:=DC h g q p i m;rw[this];simp[(Kr _ _).2 rfl]
end
section
abbrev fJ:=Int->Int->gA
def j2(c:fJ):Prop:=∀x a k,c x a=some k->1<=k
def nL(c:fJ):fJ:=λx a=>c a x
inductive e6(c:fJ)(a:Int):Int->Int->Prop
 |nil:e6 c a a 0
 |snoc {x b m k:Int}:e6 c a x m->c x b=some k->e6 c a b (m+k)
variable {a b m:Int}
def e6.v8{c:fJ}(q:j2 c)(h:e6 c a b m):0<=m:=by
 induction h with
 |nil=>omega
 |snoc _ hk u=>have:=q _ _ _ hk;omega
variable {x:Int}
def e6.trans{c:fJ}{n:Int}(h:e6 c a x m)(u:e6 c x b n):e6 c a b (m+n):=by
 induction u with
 |nil=>simpa using h
 |snoc _ hk q=>rw[<-Int.add_assoc];exact .snoc q hk
variable {k:Int}
def e6.one{c:fJ}(h:c a b=some k):e6 c a b k:=by have:=e6.snoc (.nil:e6 c a a 0) h;simpa using this
def e6.rev{c:fJ}(h:e6 c a b m):e6 (nL c) b a m:=by
 induction h with
 |nil=>exact .nil
 |@snoc x b m k _ hk q=>
  have u:e6 (nL c) b x k:=.one hk;have:=u.trans q
  rwa [Int.add_comm]at this
def e6.Gc{c:fJ}(h:e6 (nL c) a b m):e6 c b a m:=h.rev
def lI(c:fJ)(a b k:Int):Prop:=e6 c a b k/\∀m,e6 c a b m->k<=m
def lI.uniq{c:fJ}(h:lI c a b k)(q:lI c a b m):k=m:=by
 have:=h.2 _ q.1;have:=q.2 _ h.1;omega
theorem FZ{c:fJ}(g:j2 c)(h:e6 c a b m):∃k,lI c a b k/\k<=m:=by
 have j:∀(e:Nat) (m:Int),m.toNat=e->e6 c a b m->∃k,lI c a b k/\k<=m:=by
  intro e;induction e using Nat.strongRecOn with
  |_ e o=>
   intro m p h;by_cases f:∀d,e6 c a b d->m<=d
   .exact⟨m,⟨h,f⟩,Int.le_refl _⟩
   .have f:∃d,e6 c a b d/\¬m<=d:=by grind
    obtain⟨d,i,l⟩:=f;have n:=i.v8 g
    grind
 exact j _ m rfl h
open Classical in
noncomputable def dst(c:fJ)(a b:Int):gA:=if d:∃k,lI c a b k then some (Classical.choose d)else none
theorem jq{c:fJ}:dst c a b=some k↔lI c a b k:=by
 unfold dst;constructor
 .intro d;split at d
  all_goals grind
 .intro d;rw[dif_pos ⟨k,d⟩];exact congrArg some ((Classical.choose_spec (⟨k,d⟩:∃k,lI c a b k)).uniq d)
def LO{c:fJ}(e:j2 c):dst c a b=none↔∀m,¬e6 c a b m:=by
 constructor
 .intro d m h;obtain⟨k,f,_⟩:=FZ e h;rw[jq.2 f]at d;cases d
 .intro d;cases g:dst c a b with
  |none=>rfl
  |some k=>exact absurd (jq.1 g).1 (d k)
def LP{c:fJ}(b:j2 c)(a:Int):dst c a a=some 0:=jq.2 ⟨.nil,λm d=>d.v8 b⟩
def OY{c:fJ}(e:j2 c)(h:e6 c a b m):∃k,dst c a b=some k/\k<=m:=by
 obtain⟨k,f,d⟩:=FZ e h;exact⟨k,jq.2 f,d⟩
def C2{c:fJ}(d:j2 c)(h:dst c a b=some k):0<=k:=(jq.1 h).1.v8 d
def LQ{c:fJ}(d:j2 c)(h:c a b=some k):∃m,dst c a b=some m/\m<=k:=OY d (.one h)
def E6{c:fJ}:lI (nL c) a b k↔lI c b a k:=
 ⟨λd=>⟨d.1.Gc,λm e=>d.2 m e.rev⟩,λd=>⟨d.1.rev,λm e=>d.2 m e.Gc⟩⟩
def MV{c:fJ}(a b:Int):dst (nL c) a b=dst c b a:=by
 cases d:dst c b a with
 |some k=>exact jq.2 (E6.2 (jq.1 d))
 |none=>
  cases e:dst (nL c) a b with
  |none=>rfl
  |some k=>rw[jq.2 (E6.1 (jq.1 e))]at d;cases d
def LR{c:fJ}(h:dst c a b=some k)(g:a≠b):∃x w m,dst c a x=some m/\c x b=some w/\k=m+w:=by
 obtain⟨j,f⟩:=jq.1 h;cases j with
 |nil=>exact absurd rfl g
 |@snoc x b m w e d=>exact⟨x,w,m,jq.2 ⟨e,λl i=>by have:=f _ (.snoc i d);omega⟩,d,rfl⟩
def MW{c:fJ}(d:j2 c)(h:dst c a b=some k)(f:a≠b):1<=k:=by
 obtain⟨x,j,m,g,e,i⟩:=LR h f;have:=C2 d g;have:=d _ _ _ e;omega
def iz(t:aK):fJ:=λx a=>if dU t x a then some (hZ t x a).1 else none
variable {t:aK}
theorem DE(a:cU t){y:Int}(h:dU t x y=true):1<=(hZ t x y).1/\(hZ t x y).1<=1000:=by
 obtain⟨c,b,d⟩:=hJ.1 h;have e:ff c x y=true:=by simp[ff];exact d
 rw[l6 a b e];have:=a.xU c b;simp only[lH,Bool.or_eq_false_iff,Bool.not_eq_false',mj,Bool.and_eq_true,decide_eq_true_eq]at this;unfold hn
 grind
def vZ(b:cU t):j2 (iz t):=λx d k a=>by
 unfold iz at a;split at a
 .rename_i c;cases a;exact(DE b c).1
 .cases a
theorem r6{y:Int}:iz t x y=some k↔dU t x y=true/\(hZ t x y).1=k:=by
 unfold iz
 grind
def AI(a:cU t){y:Int}(h:iz t x y=some k):1<=k/\k<=1000:=by
 obtain⟨b,rfl⟩:=r6.1 h;exact DE a b
def v1(a:cU t){y:Int}(h:iz t x y=some k):x∈ids t/\y∈ids t:=by
 obtain⟨b,_⟩:=r6.1 h;exact⟨k8 a (oe b),k8 a b⟩
end
section
def ek{α:Type}(l:List (Int×α)):Prop:=(l.map (·.1)).Nodup
variable {α:Type}{l:List (Int×α)}
theorem LS{n:Int}{v:α}(h:aB l n=some v):(n,v)∈l:=by
 induction l with
 |nil=>simp[aB]at h
 |cons p r a=>
  rw[gB]at h;split at h
  .grind
  .grind
def z1{n:Int}{v:α}(a:ek l)(h:(n,v)∈l):aB l n=some v:=by
 induction l with
 |nil=>simp at h
 |cons p r b=>
  simp only[ek,List.map_cons,List.nodup_cons]at a;rw[gB];rcases List.mem_cons.1 h with rfl|h
  .rw[if_pos rfl]
  .have:p.1≠n:=λc=>a.1 (by rw[c];exact List.mem_map.2 ⟨_,h,rfl⟩);rw[if_neg this];exact b a.2 h
theorem k5{n:Int}:(aB l n).isSome=true↔n∈l.map (·.1):=by
 induction l with
 |nil=>simp[aB]
 |cons p r b=>
  rw[gB];by_cases a:p.1=n
  .simp[a]
  .grind
theorem LU{n m:Int}{v:α}:m∈(bM l n v).map (·.1)↔m=n\/m∈l.map (·.1):=by
 rw[<-k5,<-k5,gO]
 grind
theorem oq{n:Int}{v:α}(a:ek l):ek (bM l n v):=by
 induction l with
 |nil=>simp[bM,ek]
 |cons p r c=>
  simp only[ek,List.map_cons,List.nodup_cons]at a;simp only[bM];split
  .rename_i b;subst b;simp only[ek,List.map_cons,List.nodup_cons];exact a
  .rename_i b;simp only[ek,List.map_cons,List.nodup_cons];refine⟨λe=>?_,c a.2⟩;rcases LU.1 e with d|d
   all_goals grind
theorem z2{n:Int}(c:ek l)(m:Int):aB (h4 l n) m=if m=n then none else aB l m:=by
 induction l with
 |nil=>simp[h4,aB]
 |cons p r e=>
  simp only[ek,List.map_cons,List.nodup_cons]at c;simp only[h4];by_cases a:p.1=n
  .rw[if_pos a];by_cases b:m=n
   .rw[if_pos b];cases d:aB r m with
    |none=>rfl
    |some v=>exact absurd (k5.1 (by rw[d];rfl)) (by rw[b,<-a];exact c.1)
   .rw[if_neg b,gB,if_neg (λf=>b (by rw[<-f,a]))]
  .rw[if_neg a,gB,gB,e c.2]
   grind
def MX{n:Int}(a:ek l):ek (h4 l n):=by
 induction l with
 |nil=>exact a
 |cons p r b=>
  simp only[ek,List.map_cons,List.nodup_cons]at a;simp only[h4];split
  .exact a.2
  .rename_i d;simp only[ek,List.map_cons,List.nodup_cons];refine⟨λc=>a.1 ?_,b a.2⟩;have:=k5.2 c;rw[z2 a.2]at this;split at this
   .cases this
   .exact k5.1 this
variable {V:bR}
def ek.len(C:ek l)(h:∀n v,aB l n=some v->n∈V):l.length<=V.length:=by
 have:=kj C λx q=>by
  obtain⟨v,u⟩:=Option.isSome_iff_exists.1 (k5.2 q);exact h x v u
 simpa using this
theorem ek.all(Q:ek l)(Y:V.Nodup)(h:∀n v,aB l n=some v->n∈V)(Z:V.length<=l.length){x:Int}(S:x∈V):(aB l x).isSome=true:=by
 refine Classical.byContradiction λC=>?_
 have O:∀y∈l.map (·.1),y∈V.erase x:=λy u=>by
  obtain⟨v,q⟩:=Option.isSome_iff_exists.1 (k5.2 u);refine(List.mem_erase_of_ne λe=>C ?_).2 (h y v q);rw[<-e,q];rfl
 have X:=kj Q O
 grind
def wJ(m:List (Int×Int))(n v b:Int):Bool:=((decide (b=(0:Int)))||((decide (v<((aB m b).getD (0:Int))))||((decide (v=((aB m b).getD (0:Int))))&&(decide (n<b)))))
def sO(m:List (Int×Int)):Int->Int->Int->gA:=λb c a=>bif wJ m b c a then some b else some a
theorem DF{m:List (Int×Int)}(w:∀n v,aB m n=some v->n≠0):∀(l:List (Int×Int)) (s:Int),(∀p∈l,aB m p.1=some p.2)->(s=0\/∃k,aB m s=some k)->
  ∃b,fL (sO m) l s=some b/\(b=s\/∃v,(b,v)∈l)/\(l≠[]->b≠0)/\(s≠0->b≠0)/\∀n v,((n,v)∈l\/(n=s/\s≠0/\aB m s=some v))->∀k,aB m b=some k->k<v\/(k=v/\b<=n)
 |[],s,_,y=>⟨s,rfl,.inl rfl,by simp,id,λn v e k a=>by
   rcases e with e|⟨rfl,_,e⟩
   .simp at e
   .rw[a]at e;cases e;exact .inr ⟨rfl,Int.le_refl _⟩⟩
 |(n,v)::r,s,u,y=>by
  have i:=u (n,v) (by simp);have D:=w n v i;have step:∃c,sO m n v s=some c/\(c=n\/c=s)/\c≠0/\(∀k,aB m c=some k->k<v\/(k=v/\c<=n))/\(s≠0->∀f,aB m s=some f->∀k,aB m c=some k->k<f\/(k=f/\c<=s)):=by
   unfold sO;cases d:wJ m n v s with
   |true=>
    refine⟨n,rfl,.inl rfl,D,λk a=>by rw[i]at a;cases a;exact .inr ⟨rfl,Int.le_refl _⟩,λL f h k a=>?_⟩;rw[i]at a;cases a
    simp only[wJ,h,Option.getD_some,Bool.or_eq_true,Bool.and_eq_true,decide_eq_true_eq]at d;rcases d with d|d|⟨d,K⟩
    .omega
    .exact .inl d
    .omega
   |false=>
    simp only[wJ,Bool.or_eq_false_iff,Bool.and_eq_false_iff,decide_eq_false_iff_not]at d;obtain⟨A,o,q⟩:=d;refine⟨s,rfl,.inr rfl,A,λk a=>?_,λ_ f h k a=>by rw[h]at a;cases a;exact .inr ⟨rfl,Int.le_refl _⟩⟩;rw[a]at o q;simp only[Option.getD_some]at o q;by_cases N:k=v
    .omega
    .omega
  obtain⟨c,E,O,g,M,J⟩:=step;have t:c=0\/∃k,aB m c=some k:=by grind
  obtain⟨b,x,G,H,j,B⟩:=DF w r c (λp z=>u p (by simp[z])) t;refine⟨b,by simp only[fL,E];exact x,?_,λ_=>j g,λ_=>j g,λP I e k a=>?_⟩
  .grind
  ·
   obtain⟨F,C⟩:=t.resolve_left g;have Ho:=B c F (.inr ⟨rfl,g,C⟩) k a
   grind
def LV{m:List (Int×Int)}(h:ek m)(y:∀n v,aB m n=some v->n≠0)(s:m≠[]):
  ∃b k,aB m b=some k/\(∀n v,aB m n=some v->k<v\/(k=v/\b<=n))/\ou m (sO m) 0=some b:=by
 have i:∀c:List (Int×Int),c.Perm m->∃b k,fL (sO m) c 0=some b/\aB m b=some k/\∀n v,aB m n=some v->k<v\/(k=v/\b<=n):=λc a=>by
  obtain⟨b,j,l,o,B,u⟩:=DF y c 0 (λG q=>z1 h (a.mem_iff.1 q)) (.inl rfl);have C:=o λz=>s (by rw[z]at a;exact a.symm.eq_nil);rcases l with rfl|⟨k,A⟩
  .omega
  .have e:=z1 h (a.mem_iff.1 A);exact⟨b,k,j,e,λn v p=>u n v (.inl (a.mem_iff.2 (LS p))) k e⟩
 obtain⟨b,k,F,f,g⟩:=i m (List.Perm.refl m);refine⟨b,k,f,g,DV λc a=>?_⟩;obtain⟨d,x,t,r,w⟩:=i c a;have D:=g d x r;have E:=w b k f;have:d=b:=by omega
 rw[t,this]
structure qf(links:List (Int×List cB))(V:List Int)(c:fJ):Prop where
 keys:∀x,(aB links x).isSome=true↔x∈V
 len:links.length=V.length
 nd:V.Nodup
 small:V.length<=24
 nz:∀x∈V,x≠0
 row:∀x y k,(∃s∈(aB links x).getD [],s.dx=y/\s.fC=k)↔c x y=some k
 cs:∀x y k,c x y=some k->1<=k/\k<=1000
 xu:∀x y k,c x y=some k->y∈V
structure qe(V:List Int)(c:fJ)(a:Int)(out h3:List (Int×Int)):Prop where
 BK:ek out
 kp:ek h3
 rG:∀x k,aB out x=some k->x∈V/\dst c a x=some k/\k<=1000*(out.length:Int)
 BU:∀x k,aB h3 x=some k->x∈V/\aB out x=none/\e6 c a x k/\k<=1000*(out.length:Int)
 cl:∀x k y w,aB out x=some k->c x y=some w->(aB out y).isSome=true\/∃m,aB h3 y=some m/\m<=k+w
 st:(aB out a).isSome=true\/∃k,aB h3 a=some k/\k<=0
def qf.pos{links:List (Int×p4)}{c:fJ}(h:qf links V c):j2 c:=λx y k q=>(h.cs x y k q).1
variable {a:Int}{h3 out:List (Int×Int)}
theorem qe.front{c:fJ}(X:j2 c)(h:qe V c a out h3){z m:Int}(Q:e6 c a z m):(aB out z).isSome=true\/∃y k,aB h3 y=some k/\k<=m:=by
 induction Q with
 |nil=>
  rcases h.st with q|⟨k,u,C⟩
  .exact .inl q
  .grind
 |@snoc x b m k O hk S=>
  have:=X _ _ _ hk;rcases S with q|⟨y,Y,u,C⟩
  .obtain⟨d,hd⟩:=Option.isSome_iff_exists.1 q;have bp:=(jq.1 (h.rG x d hd).2.1).2 _ O;rcases h.cl x d b k hd hk with q|⟨Z,u,C⟩
   all_goals grind
  .grind
def qe.done{c:fJ}(Q:j2 c)(h:qe V c a out h3)(C:∀z m,e6 c a z m->(aB out z).isSome=true)(x:Int):aB out x=dst c a x:=by
 cases hd:dst c a x with
 |some k=>
  obtain⟨O,q⟩:=Option.isSome_iff_exists.1 (C x k (jq.1 hd).1);have:=(h.rG x O q).2.1;rw[hd]at this;cases this;exact q
 |none=>
  cases u:aB out x with
  |none=>rfl
  |some k=>have:=(h.rG x k u).2.1;rw[hd]at this;cases this
def qk{n:Int}(a : -1000000<=n)(b:n<=4000000000):a1 n=n:=by unfold a1;rw[IntKind.wrap_i64];omega
theorem Bi{E:List (Int×p4)}{c:fJ}(h:qf E V c)(O:a∈V):
  Ok (lP E a) (λl=>ek l/\(∀x,aB l x=dst c a x)/\∀x k,dst c a x=some k->0<=k/\k<=24000):=by
 have J:=h.pos
 have an:∀out h3,qe V c a out h3->(∀m n,e6 c a m n->(aB out m).isSome=true)->ek out/\(∀x,aB out x=dst c a x)/\∀x k,dst c a x=some k->0<=k/\k<=24000:=λout h3 i G=>by
  have ao:=i.done J G;refine⟨i.BK,ao,λx k q=>⟨C2 J q,?_⟩⟩;rw[<-ao x]at q;have Q:=(i.rG x k q).2.2;have F:=i.BK.len (V:=V) λt w A=>(i.rG t w A).1;have:=h.small;omega
 unfold lP;rw[show(aB E a).isSome=true from(h.keys a).2 O];simp only[Bool.not_true,cond_false];refine atD (λs=>ek s.1/\(∀x,aB s.1 x=dst c a x)/\∀x k,dst c a x=some k->0<=k/\k<=24000) (λs B=>.s B) λaM aj=>?_;refine atT (λs=>qe V c a s.1 s.2) (λs=>V.length+1-s.1.length) ?_ (by have:=h.small;omega) ?_
 .refine⟨List.nodup_nil,by simp[ek,bM],λx k q=>by simp[aB]at q,λx k q=>?_,λx k b ab q=>by simp[aB]at q,.inr ⟨0,by rw[gO,if_pos rfl],Int.le_refl _⟩⟩;rw[gO]at q;split at q
  .rename_i f;subst f;cases q;exact⟨O,rfl,.nil,by simp⟩
  .simp[aB]at q
 rintro⟨out,h3⟩ bb i ah;simp only at i ah ⊢;refine Ok.cs (λQ=>?_) λQ=>?_
 .have au:h3≠[]:=λf=>by simp[f]at Q
  have aG:∀t w,aB h3 t=some w->t≠0:=λt w A=>h.nz t (i.BU t w A).1;obtain⟨am,k,af,aC,aE⟩:=LV i.kp aG au;refine Ok.aa (P:=λx=>x=am) ⟨am,aE,rfl⟩ λx ar=>?_;subst ar;simp only[af,Option.getD_some];obtain⟨a0,aD,Y,aX⟩:=i.BU x k af
  have a4:dst c a x=some k:=jq.2 ⟨Y,λn aI=>by
   rcases i.front J aI with v|⟨b,U,o,y⟩
   .grind
   .have:=aC b U o;omega⟩
  have K:(bM out x k).length=out.length+1:=L4 aD;have M:ek (bM out x k):=oq i.BK;have ha:=Y.v8 J
  have N:∀b d,aB (bM out x k) b=some d->b∈V/\dst c a b=some d/\d<=1000*((bM out x k).length:Int):=λb d e=>by
   rw[gO]at e;rw[K];split at e
   .grind
   .obtain⟨o,y,ae⟩:=i.rG b d e
    grind
  have a3:(bM out x k).length<=V.length:=M.len λt w A=>(N t w A).1
  have ak:∀b,(aB out b).isSome=true->(aB (bM out x k) b).isSome=true:=λb e=>by
   rw[gO];split
   .rfl
   .exact e
  refine Ok.cs (λF=>aj _ ?_) λF=>?_
  ·
   have F:(bM out x k).length=E.length:=by have:=of_decide_eq_true F;omega
   have G:∀m∈V,(aB (bM out x k) m).isSome=true:=λm aJ=>M.all h.nd (λt w A=>(N t w A).1) (by rw[F,h.len];exact Nat.le_refl _) aJ
   have aF:∀m n,e6 c a m n->m∈V:=λm n p=>by
    cases p with
    |nil=>exact O
    |snoc _ q=>exact h.xu _ _ _ q
   refine an _ [] ⟨M,List.nodup_nil,N,λb d e=>by simp[aB]at e,λb d m ab e p=>.inl (G m (h.xu _ _ _ p)),.inl (G a O)⟩ λm n p=>G m (aF m n p)
  .refine atB (L:=(aB E x).getD []) (λZ n=>ek n/\(∀b d,aB n b=some d->b∈V/\aB (bM out x k) b=none/\e6 c a b d/\d<=1000*((bM out x k).length:Int))/\(∀b d,b≠x->aB h3 b=some d->∃j,aB n b=some j/\j<=d)/\
    ∀s∈Z,(aB (bM out x k) s.dx).isSome=true\/∃j,aB n s.dx=some j/\j<=k+s.fC) ?_ _ ?_ ?_
   .rintro Z s a5 n aW aq ⟨H,I,C,D⟩ ax;have B:s∈(aB E x).getD []:=by rw[aq];simp
    have W:=(h.row x s.dx s.fC).1 ⟨s,B,rfl,rfl⟩;obtain⟨aT,aU⟩:=h.cs _ _ _ W;have p:a1 (k+s.fC)=k+s.fC:=qk (by omega) (by have:=h.small;omega)
    refine atD (λz=>ek z/\(∀b d,aB z b=some d->b∈V/\aB (bM out x k) b=none/\e6 c a b d/\d<=1000*((bM out x k).length:Int))/\(∀b d,b≠x->aB h3 b=some d->∃j,aB z b=some j/\j<=d)/\
     ∀r∈Z++[s],(aB (bM out x k) r.dx).isSome=true\/∃j,aB z r.dx=some j/\j<=k+r.fC) (λz aw=>ax z aw) λaV T=>?_
    refine Ok.cs (λR=>T n ⟨H,I,C,λr g=>?_⟩) λR=>Ok.cs (λu=>T _ ?_) λu=>T n ⟨H,I,C,λr g=>?_⟩
    .rcases List.mem_append.1 g with g|g
     .exact D r g
     .rw[List.mem_singleton.1 g];exact .inl R
    ·
     rw[p];rw[p]at u;refine⟨oq H,λb d e=>?_,λb d X e=>?_,λr g=>?_⟩
     .rw[gO]at e;split at e
      .rename_i f;subst f;cases e
       refine⟨h.xu _ _ _ W,by simpa using R,.snoc Y W,by rw[K];omega⟩
      .exact I b d e
     .obtain⟨j,o,y⟩:=C b d X e;rw[gO];by_cases f:b=s.dx
      .rw[if_pos f];refine⟨_,rfl,?_⟩;subst f;rw[o]at u;simp at u;omega
      .rw[if_neg f];exact⟨j,o,y⟩
     .rw[gO n];by_cases f:r.dx=s.dx
      .rcases List.mem_append.1 g with g|g
       .rcases D r g with v|⟨j,o,y⟩
        .exact .inl v
        .right;rw[if_pos f];refine⟨_,rfl,?_⟩;rw[f]at o;rw[o]at u;simp at u;omega
       .rw[List.mem_singleton.1 g,if_pos rfl];exact .inr ⟨_,rfl,Int.le_refl _⟩
      .rw[if_neg f];rcases List.mem_append.1 g with g|g
       .exact D r g
       .exact absurd (by rw[List.mem_singleton.1 g]) f
    .rcases List.mem_append.1 g with g|g
     .exact D r g
     .rw[List.mem_singleton.1 g];right;rw[p]at u;simp only[Bool.or_eq_false_iff,Bool.not_eq_false',decide_eq_false_iff_not]at u;obtain⟨j,ai⟩:=Option.isSome_iff_exists.1 u.1;refine⟨j,ai,?_⟩;have:=u.2;rw[ai]at this;simp at this;omega
   .refine⟨MX i.kp,λb d e=>?_,λb d X e=>⟨d,by rw[z2 i.kp,if_neg X];exact e,Int.le_refl _⟩,λs B=>by simp at B⟩;rw[z2 i.kp]at e;split at e
    .cases e
    .rename_i f;obtain⟨o,y,ae,aQ⟩:=i.BU b d e;exact⟨o,by rw[gO,if_neg f];exact y,ae,by rw[K];omega⟩
   .rintro n ⟨H,I,C,D⟩;refine ah _ ⟨M,H,N,I,λb d m ab e p=>?_,?_⟩ (by simp only[K];omega)
    .rw[gO]at e;split at e
     .rename_i f;subst f;cases e
      obtain⟨s,B,rfl,rfl⟩:=(h.row _ _ _).2 p;exact D s B
     .rcases i.cl b d m ab e p with v|⟨z,o,y⟩
      .exact .inl (ak m v)
      .by_cases f:m=x
       .left;rw[gO,if_pos f];rfl
       .obtain⟨j,S,av⟩:=C m z f o;exact .inr ⟨j,S,by omega⟩
    .rcases i.st with v|⟨U,o,y⟩
     .exact .inl (ak a v)
     .by_cases f:a=x
      .left;rw[gO,if_pos f];rfl
      .obtain⟨j,S,av⟩:=C a U f o;exact .inr ⟨j,S,by omega⟩
 ·
  have aH:h3=[]:=by
   have:=of_decide_eq_false Q;exact List.eq_nil_of_length_eq_zero (by omega)
  subst aH;refine aj _ (an _ _ i λm n p=>?_);rcases i.front J p with v|⟨b,k,v,_⟩
  .exact v
  .simp[aB]at v
def E7{b:List (Int×p4)}(c:(aB b a).isSome=false):lP b a=some []:=by
 unfold lP;rw[c];rfl
end
section
theorem CW{α:Type}{d:α->α->Int}(n:∀a b c,d a b<0->d b c<0->d a c<0):∀{l:List α},(l.Pairwise λa b=>d a b<0\/d b a<0)->(jN d l).Pairwise λa b=>d a b<0
 |[],_=>List.Pairwise.nil
 |x::r,h=>by
  rw[List.pairwise_cons]at h;have g:=CW n h.2;have i:∀e∈jN d r,d x e<0\/d e x<0:=λe o=>h.1 e ((rR d r).mem_iff.1 o);simp only[jN];generalize jN d r=j at g i;clear h;induction j with
  |nil=>simp[mI]
  |cons e j p=>
   rw[List.pairwise_cons]at g;simp only[mI];split
   .rename_i m;rw[List.pairwise_cons];refine⟨λk f=>?_,p g.2 λk f=>i k (by simp[f])⟩;rcases List.mem_cons.1 ((yV d x j).mem_iff.1 f)with rfl|f
    all_goals grind
   .rename_i m;have q:=(i e (by simp)).resolve_right m;rw[List.pairwise_cons];refine⟨λk f=>?_,List.pairwise_cons.2 g⟩
    grind
def DG{α:Type}{c:α->α->Int}:∀{l:List α},(l.Pairwise λa b=>c a b<0)->mJ c l=true
 |[],_=>rfl
 |[x],_=>rfl
 |a::b::r,h=>by
  rw[List.pairwise_cons]at h;simp only[mJ,Bool.and_eq_true,decide_eq_true_eq];exact⟨h.1 b (by simp),DG h.2⟩
theorem Kd{α:Type}(f:α->Int){a b:List α}(d:a.Pairwise λx y=>f x<f y)(c:b.Pairwise λx y=>f x<f y)(h:∀x,x∈a↔x∈b):a=b:=by
 induction a generalizing b with
 |nil=>
  cases b with
  |nil=>rfl
  |cons y b=>exact absurd ((h y).2 (by simp)) (by simp)
 |cons x a e=>
  cases b with
  |nil=>exact absurd ((h x).1 (by simp)) (by simp)
  |cons y b=>
   rw[List.pairwise_cons]at d c;have g:x=y:=by grind
   subst g;congr 1;refine e d.2 c.2 λi=>?_;have:=h i;simp only[List.mem_cons]at this;constructor
   .grind
   .grind
def ek.ext{α:Type}:∀{l m:List (Int×α)},ek l->l.map (·.1)=m.map (·.1)->(∀x,aB l x=aB m x)->l=m
 |[],m,_,u,_=>by
  cases m with
  |nil=>rfl
  |cons q m=>simp at u
 |(n,v)::l,[],_,u,_=>by simp at u
 |(n,v)::l,(ae,ab)::m,C,u,h=>by
  simp only[List.map_cons,List.cons.injEq]at u;obtain⟨rfl,u⟩:=u;simp only[ek,List.map_cons,List.nodup_cons]at C;have X:=h n;rw[gB,gB,if_pos rfl,if_pos rfl]at X;cases X;congr 1;refine ek.ext C.2 u λx=>?_;have S:=h x;rw[gB,gB]at S;by_cases Q:n=x
  .subst Q;have Y:aB l n=none:=by
    cases O:aB l n with
    |none=>rfl
    |some a=>exact absurd (k5.1 (by rw[O];rfl)) C.1
   have Z:aB m n=none:=by
    cases O:aB m n with
    |none=>rfl
    |some a=>exact absurd (by rw[u];exact k5.1 (by rw[O];rfl)) C.1
   rw[Y,Z]
  .rwa [if_neg Q,if_neg Q]at S
def fA(x:Int)(l:aR):Option cB:=if l.A=x then some ⟨l.B,l.gn⟩else if l.B=x then some ⟨l.A,l.gd⟩else none
def kZ(x:Int)(l:aR):Option cB:=if l.B=x then some ⟨l.A,l.gn⟩else if l.A=x then some ⟨l.B,l.gd⟩else none
variable {t:aK}
def EC(d:cU t)(x y k:Int):(∃s∈t.Links.filterMap (fA x),s.dx=y/\s.fC=k)↔iz t x y=some k:=by
 rw[r6];constructor
 .rintro⟨s,h,rfl,rfl⟩;obtain⟨a,b,c⟩:=List.mem_filterMap.1 h;have i:=d.lt a b;unfold fA at c;split at c
  .rename_i e;cases c
   have f:ff a x a.B=true:=by simp[ff,e]
   refine⟨hJ.2 ⟨a,b,.inl ⟨e,rfl⟩⟩,?_⟩;rw[l6 d b f];simp[hn,e]
  .split at c
   .rename_i e g;cases c
    have f:ff a x a.A=true:=by simp[ff,g]
    refine⟨hJ.2 ⟨a,b,.inr ⟨g,rfl⟩⟩,?_⟩;rw[l6 d b f];simp[hn,e]
   .cases c
 .rintro⟨f,rfl⟩;obtain⟨a,b,c⟩:=hJ.1 f;have i:=d.lt a b;rcases c with⟨rfl,rfl⟩|⟨rfl,rfl⟩
  .refine⟨⟨a.B,a.gn⟩,List.mem_filterMap.2 ⟨a,b,by simp[fA]⟩,rfl,?_⟩;rw[l6 d b (by simp[ff])];simp[hn]
  .refine⟨⟨a.A,a.gd⟩,List.mem_filterMap.2 ⟨a,b,by have:a.A≠a.B:=by omega
                                                  simp[fA,this]⟩,rfl,?_⟩
   have:a.A≠a.B:=by omega
   rw[l6 d b (by simp[ff])];simp[hn,this]
def MY(d:cU t)(x y k:Int):(∃s∈t.Links.filterMap (kZ x),s.dx=y/\s.fC=k)↔nL (iz t) x y=some k:=by
 show _↔iz t y x=some k;rw[r6];constructor
 .rintro⟨s,h,rfl,rfl⟩;obtain⟨a,b,c⟩:=List.mem_filterMap.1 h;have i:=d.lt a b;unfold kZ at c;split at c
  .rename_i f;cases c
   have e:ff a a.A x=true:=by simp[ff,f]
   refine⟨hJ.2 ⟨a,b,.inl ⟨rfl,f⟩⟩,?_⟩;rw[l6 d b e];simp[hn,f]
  .split at c
   .rename_i f g;cases c
    have e:ff a a.B x=true:=by simp[ff,g]
    refine⟨hJ.2 ⟨a,b,.inr ⟨rfl,g⟩⟩,?_⟩;have:¬a.A=a.B:=by omega
    rw[l6 d b e];simp[hn,this]
   .cases c
 .rintro⟨e,rfl⟩;obtain⟨a,b,c⟩:=hJ.1 e;have i:=d.lt a b;rcases c with⟨rfl,rfl⟩|⟨rfl,rfl⟩
  .refine⟨⟨a.A,a.gn⟩,List.mem_filterMap.2 ⟨a,b,by simp[kZ]⟩,rfl,?_⟩;rw[l6 d b (by simp[ff])];simp[hn]
  .refine⟨⟨a.B,a.gd⟩,List.mem_filterMap.2 ⟨a,b,by have:a.B≠a.A:=by omega
                                                  simp[kZ,this]⟩,rfl,?_⟩
   have:a.A≠a.B:=by omega
   rw[l6 d b (by simp[ff])];simp[hn,this]
def mw(t:aK)(x:Int):p4:=(gc t x).map λa=>⟨a,(hZ t x a).1⟩
theorem vF(b:cU t){x:Int}{s:cB}:s∈mw t x↔iz t x s.dx=some s.fC:=by
 rw[r6];simp only[mw,List.mem_map,hT b];constructor
 .grind
 .rintro⟨c,a⟩;exact⟨s.dx,c,by rw[a]⟩
def LW(c:cU t)(x:Int):(mw t x).Pairwise λa b=>a.dx<b.dx:=List.pairwise_map.2 (p3 c x)
abbrev mx:cB->cB->Int:=dQ [λa:cB=>a.dx]
def Am(a b:cB):mx a b<0↔a.dx<b.dx:=by rw[mx,pT];simp[dQ]
theorem MZ(d:cU t)(x:Int):(t.Links.filterMap (fA x)).Pairwise λa b=>mx a b<0\/mx b a<0:=by
 have c:=CS d x;have e:t.Links.filterMap (kB x)=(t.Links.filterMap (fA x)).map (·.dx):=by
  rw[List.map_filterMap];congr 1;funext g;unfold kB fA
  grind
 rw[e]at c;refine(List.pairwise_map.1 c).imp λ{a b} f=>?_;rw[Am,Am];omega
theorem ED(a:cU t)(x:Int):hK mx (t.Links.filterMap (fA x))=some (mw t x):=by
 have f:=CW (oa _) (MZ a x);have h:jN mx (t.Links.filterMap (fA x))=mw t x:=by
  refine Kd (·.dx) (f.imp λ{d e} i=>(Am d e).1 i) (LW a x) λb=>?_;rw[(rR _ _).mem_iff,vF a];constructor
  .intro c;exact(EC a x b.dx b.fC).1 ⟨b,c,rfl,rfl⟩
  .intro c;obtain⟨g,l,m,k⟩:=(EC a x b.dx b.fC).2 c;obtain⟨d,e⟩:=b;obtain⟨n,j⟩:=g
   grind
 have o:(t.Links.filterMap (fA x)).length<=60:=Nat.le_trans (List.length_filterMap_le _ _) a.nl;have:(decide ((t.Links.filterMap (fA x)).length<4611686018427387904))=true:=by simp;omega
 unfold hK;rw[DG f,this,h];rfl
theorem DH{nj:p4->p4}:∀(l s:List (Int×p4)),ek l->(∀p∈l,∃row,aB s p.1=some row/\hK mx row=some (nj row))->
  ∃a,fL (λ(b:Int) (_:p4) (c:List (Int×p4))=>eU (aB c b).isSome (aa (hK mx ((aB c b).getD [])) λ(o:p4)=>some (bM c b o))) l s=some a/\
   a.map (·.1)=s.map (·.1)/\∀x,aB a x=if x∈l.map (·.1)then(aB s x).map nj else aB s x
 |[],s,_,_=>⟨s,rfl,rfl,λx=>by simp⟩
 |(n,v)::l,s,hk,h=>by
  simp only[ek,List.map_cons,List.nodup_cons]at hk;obtain⟨row,e,k⟩:=h (n,v) (by simp)
  obtain⟨a,f,g,j⟩:=DH (nj:=nj) l (bM s n (nj row)) hk.2 λp d=>by
   obtain⟨r,m,i⟩:=h p (by simp[d]);have:p.1≠n:=λq=>hk.1 (by rw[<-q];exact List.mem_map.2 ⟨p,d,rfl⟩);exact⟨r,by rw[gO,if_neg this];exact m,i⟩
  refine⟨a,?_,g.trans (zm _ (by rw[e];rfl)),λx=>?_⟩
  .simp only[fL,e,Option.isSome_some,Option.getD_some,k];exact f
  .rw[j,gO]
   grind
structure y6(t:aK)(g:kY):Prop where
 fw:qf g.gY (ids t) (iz t)
 nO:qf g.jm (ids t) (nL (iz t))
 row:∀x∈ids t,aB g.gY x=some (mw t x)
theorem F0(e:cU t){g:List (Int×p4)}{c:fJ}{f:Int->p4}(n:ek g)(d:∀x,aB g x=if x∈ids t then some (f x)else none)
  (p:∀x y k,(∃s∈f x,s.dx=y/\s.fC=k)↔c x y=some k) (i:∀x y k,c x y=some k->(1<=k/\k<=1000)/\x∈ids t/\y∈ids t):qf g (ids t) c where
 keys:=λx=>by rw[d];by_cases a:x∈ids t<;>simp[a]
 len:=by
  have m:(ids t).Nodup:=(wk e).imp λa=>Int.ne_of_lt a
  have j:=n.len (V:=ids t) λq r a=>by
   rw[d]at a;split at a
   .assumption
   .cases a
  have l:=kj m (b:=g.map (·.1)) λx h=>k5.1 (by rw[d,if_pos h];rfl);rw[List.length_map]at l;omega
 nd:=(wk e).imp λa=>Int.ne_of_lt a
 small:=sr e
 nz:=λx h=>by
  obtain⟨o,j,rfl⟩:=List.mem_map.1 h;have:=(e.q3 o j).1;omega
 row:=λx y k=>by
  rw[d];by_cases a:x∈ids t
  .grind
  .grind
 cs:=λx y k a=>(i x y k a).1
 xu:=λx y k a=>(i x y k a).2.2
theorem E8(d:cU t):Ok (ur t) (y6 t):=by
 unfold ur
 have Z:∀e∈t.Links,e.A∈ids t/\e.B∈ids t/\e.A≠e.B:=λe j=>by
  have q:=d.ends e j;have v:=d.lt e j;exact⟨ku.2 q.1,ku.2 q.2,by omega⟩
 refine atB (λc s=>(ek s.1/\∀a,aB s.1 a=if a∈c.map (·.aP)then some []else none)/\(ek s.2/\∀a,aB s.2 a=if a∈c.map (·.aP)then some []else none)) ?_ _ ?_ ?_
 .rintro c b aj ⟨af,ab⟩ bb _ ⟨⟨q,v⟩,y,x⟩ I;refine I _ ⟨⟨oq q,λa=>?_⟩,oq y,λa=>?_⟩
  .rw[gO,v]
   grind
  .rw[gO,x]
   grind
 .exact⟨⟨List.nodup_nil,λa=>by simp[aB]⟩,List.nodup_nil,λa=>by simp[aB]⟩
 rintro⟨af,ab⟩ ⟨⟨q,v⟩,y,x⟩;simp only at q v y x ⊢;refine atB (λc s=>(ek s.1/\∀a,aB s.1 a=if a∈ids t then some (c.filterMap (fA a))else none)/\(ek s.2/\∀a,aB s.2 a=if a∈ids t then some (c.filterMap (kZ a))else none)) ?_ _ ⟨⟨q,λa=>by rw[v];rfl⟩,y,λa=>by rw[x];rfl⟩ ?_
 .rintro c b aj ⟨i,M⟩ bb R ⟨⟨k,h⟩,w,o⟩ I;simp only at k h w o ⊢;obtain⟨A,z,B⟩:=Z b (by rw[R];simp);have H:c.length<=60:=by have:=d.nl;rw[R]at this;simp at this;omega
  have V:∀(p:aR->Option cB),(c.filterMap p).length<=60:=λp=>Nat.le_trans (List.length_filterMap_le _ _) H;have C:∀(p:aR->Option cB) (s:cB),dr (c.filterMap p) [s]=some (c.filterMap p++[s]):=λp s=>ga (by have:=V p;simp;omega);have ah:(aB i b.A).getD []=c.filterMap (fA b.A):=by rw[h,if_pos A];rfl
  have ai:∀e,(aB (bM i b.A e) b.B).getD []=c.filterMap (fA b.B):=λe=>by rw[gO,if_neg (Ne.symm B),h,if_pos z];rfl
  have X:(aB M b.B).getD []=c.filterMap (kZ b.B):=by rw[o,if_pos z];rfl
  have Y:∀e,(aB (bM M b.B e) b.A).getD []=c.filterMap (kZ b.A):=λe=>by rw[gO,if_neg B,o,if_pos A];rfl
  rw[ah,C,aU,ai,C,aU,X,C,aU,Y,C,aU];refine I _ ⟨⟨oq (oq k),λa=>?_⟩,oq (oq w),λa=>?_⟩
  .rw[gO,gO,h,List.filterMap_append];by_cases m:a=b.B
   .subst m;rw[if_pos rfl,if_pos z];simp[fA,B]
   .rw[if_neg m];by_cases n:a=b.A
    .subst n;rw[if_pos rfl,if_pos A];simp[fA]
    .rw[if_neg n];have:fA a b=none:=by simp[fA,Ne.symm n,Ne.symm m]
     simp[this]
  .rw[gO,gO,o,List.filterMap_append];by_cases n:a=b.A
   .subst n;rw[if_pos rfl,if_pos A];simp[kZ,Ne.symm B]
   .rw[if_neg n];by_cases m:a=b.B
    .subst m;rw[if_pos rfl,if_pos z];simp[kZ]
    .rw[if_neg m];have:kZ a b=none:=by simp[kZ,Ne.symm n,Ne.symm m]
     simp[this]
 rintro⟨i,M⟩ ⟨⟨k,h⟩,w,o⟩;simp only at k h w o ⊢
 have nj:∀l:List (Int×p4),l.Perm i->∃u,fL (λ(J:Int) (_:p4) (K:List (Int×p4))=>eU (aB K J).isSome (aa (hK mx ((aB K J).getD [])) λ(ae:p4)=>some (bM K J ae))) l i=some u/\
   u.map (·.1)=i.map (·.1)/\∀a,aB u a=if a∈ids t then some (mw t a)else none:=λl j=>by
  obtain⟨u,E,F,G⟩:=DH (nj:=λak=>(hK mx ak).getD []) l i ((j.map _).nodup_iff.2 k) λc H=>by
   have Q:=z1 k (j.mem_iff.1 H);have r:=h c.1;rw[Q]at r;split at r
   .have r:=Option.some.inj r;exact⟨_,Q,by rw[r,ED d];rfl⟩
   .cases r
  refine⟨u,E,F,λa=>?_⟩;rw[G,h];have U:a∈l.map (·.1)↔a∈ids t:=by
   rw[(j.map _).mem_iff,<-k5,h];by_cases f:a∈ids t<;>simp[f]
  by_cases f:a∈ids t
  .rw[if_pos (U.2 f),if_pos f,if_pos f];simp[ED d]
  .rw[if_neg (λg=>f (U.1 g)),if_neg f,if_neg f]
 obtain⟨D,am,S,L⟩:=nj i (List.Perm.refl _);have T:ek D:=by rw[ek,S];exact k
 refine Ok.aa (P:=λa=>a=D) ⟨D,DV λl j=>?_,rfl⟩ λa f=>?_
 .obtain⟨u,E,F,G⟩:=nj l j;rw[ek.ext T (S.trans F.symm) λa=>by rw[L,G]];exact E
 subst f;refine .s ⟨F0 d T L (λa O N=>?_) λa O N g=>⟨AI d g,v1 d g⟩,F0 d w o (MY d) λa O N g=>⟨AI d g,(v1 d g).2,(v1 d g).1⟩,λa f=>by rw[L,if_pos f]⟩;constructor
 .rintro⟨s,W,rfl,rfl⟩;exact(vF d).1 W
 .intro g;exact⟨⟨O,N⟩,(vF d).2 g,rfl,rfl⟩
end
section
def Lf{t:aK}(e:cU t){a b k:Int}(f:a∈ids t)(h:dst (iz t) a b=some k):0<=k/\k<=24000:=by
 obtain⟨i,j,d⟩:=E8 e;obtain⟨l,g,c⟩:=Bi d.fw f;exact c.2.2 b k h
end
section
open Classical in
noncomputable def gz(t:aK)(a b:Int):gA:=if gp t=0/\a∈ids t/\b∈ids t then dst (iz t) a b else none
variable {a b:Int}{t:aK}
def AW(d:cU t)(e:a∈ids t)(c:b∈ids t):gz t a b=dst (iz t) a b:=by
 unfold gz;rw[if_pos ⟨gj.2 d,e,c⟩]
variable {k:Int}
def F1(h:gz t a b=some k):cU t/\a∈ids t/\b∈ids t/\dst (iz t) a b=some k:=by
 unfold gz at h;split at h
 .rename_i c;exact⟨gj.1 c.1,c.2.1,c.2.2,h⟩
 .cases h
def F2(h:¬(gp t=0/\a∈ids t/\b∈ids t)):gz t a b=none:=by unfold gz;rw[if_neg h]
def EE(h:gz t a b=some k):0<=k/\k<=24000:=by
 obtain⟨c,d,f,e⟩:=F1 h;exact Lf c d e
def M0(b:cU t)(c:a∈ids t):gz t a a=some 0:=by rw[AW b c c,LP (vZ b)]
def Gd(e:cU t){g:kY}(f:y6 t g)(b:Int):∃l,lP g.jm b=some l/\∀x,aB l x=gz t x b:=by
 by_cases a:b∈ids t
 .obtain⟨l,i,_,h,_⟩:=Bi f.nO a;refine⟨l,i,λx=>?_⟩;rw[h,MV];by_cases d:x∈ids t
  .rw[AW e d a]
  .rw[F2 (λc=>d c.2.1)]
   exact(LO (vZ e)).2 λk j=>d (by
    cases j.rev with
    |nil=>exact absurd a d
    |snoc _ hk=>exact(v1 e hk).1)
 .refine⟨[],E7 ?_,λx=>by rw[F2 (λc=>a c.2.2)];rfl⟩;have:=f.nO.keys b;cases c:(aB g.jm b).isSome with
  |false=>rfl
  |true=>exact absurd (this.1 c) a
def LX(t:aK):uk t=some (decide (gp t=0)):=by unfold uk;rw[pU];rfl
noncomputable def n5(t:aK)(b x y:Int):Bool:=match gz t x b,gz t y b with
 |some all,some c=>decide ((hZ t x y).1+c=all)
 |_,_=>false
noncomputable def jW(t:aK)(b x:Int):bR:=(gc t x).filter (n5 t b x)
def Dq{x:Int}(h:gz t x b=none):jW t b x=[]:=by
 unfold jW;rw[List.filter_eq_nil_iff];intro a _;simp[n5,h]
def DI(a:cU t)(x:Int):(gc t x).length<=24:=Nat.le_trans (List.length_filter_le _ _) (sr a)
def Lo(d:cU t){g:kY}(j:y6 t g){l:List (Int×Int)}(h:∀x,aB l x=gz t x b)(x:Int):q0 g l x=some (jW t b x):=by
 unfold q0;rw[h];cases a:gz t x b with
 |none=>rw[Dq a];rfl
 |some all=>
  obtain⟨_,k,q,_⟩:=F1 a;have u:=EE a;simp only[Option.isSome_some,Bool.not_true,cond_false,Option.getD_some];rw[j.row x k];have v:=DI d x;refine(pV (λs:cB=>n5 t b x s.dx) (·.dx) (mw t x) 0 [] (λw s bb y m n=>?_) (by simp[mw];omega)).trans ?_
  .have f:=(vF d).1 m;have r:=AI d f;have p:=(r6.1 f).2;simp only[jn,h];cases e:gz t s.dx b with
   |none=>simp[n5,a,e]
   |some c=>
    have:=EE e;rw[show n5 t b x s.dx=decide (s.fC+c=all)by simp[n5,a,e,p]];simp only[Option.isSome_some,Bool.true_and,Option.getD_some];have o:a1 (s.fC+c)=s.fC+c:=qk (by omega) (by omega);simp only[o];rw[nD n];rfl
  .rw[List.nil_append,mw,List.filter_map,List.map_map];have:((λ(x:cB)=>x.dx)∘λi=>(⟨i,(hZ t x i).1⟩:cB))=id:=rfl;rw[this,List.map_id];rfl
end
end
section
set_option linter.all false
open Go
structure gM(B:Int)(R:List bk)(f:aA):Prop where
 v:cI f
 n:1<=f.ay.length
 own:∀n∈f.ay,(1<=n.Seq/\n.Seq<=B)/\look n.Database n.Router=some (hH f n)
 old:∀n∈f.ay,∀s a,look n.Database s=some a->a.Seq<=B
 jK:∀m∈f.aY,∀s a,look m.Database s=some a->a.Seq<=B
 r:(aN f).aL=R
variable {B:Int}{f:aA}
def gM.mono{C:Int}{R:pK}(h:gM B R f)(Q:B<=C):gM C R f:=⟨h.v,h.n,λn q=>⟨⟨(h.own n q).1.1,by have:=(h.own n q).1.2;omega⟩,(h.own n q).2⟩,λn q s a u=>by have:=h.old n q s a u;omega,λm O s a u=>by have:=h.jK m O s a u;omega,h.r⟩
def gM.HF{R:pK}(h:gM B R f)(C:0<=B/\B<=900000):ei B f:=⟨C,h.v,λn q=>⟨(h.own n q).1.1,by have:=(h.own n q).1.2;omega,(h.own n q).2⟩,λn q s a u=>.inl (h.old n q s a u),λm O s a u=>.inl (h.jK m O s a u)⟩
def ei.hd(h:ei B f)(q:1<=f.ay.length):gM (B+1) (aN f).aL f:=by
 have C:∀a,sC B f a->a.Seq<=B+1:=λa u=>by
  rcases u with u|⟨n,q,_,u⟩
  .omega
  .have:=(h.own n q).2.1;omega
 exact⟨h.v,q,λn q=>⟨⟨(h.own n q).1,(h.own n q).2.1⟩,(h.own n q).2.2⟩,λn q s a u=>C a (h.old n q s a u),λm O s a u=>C a (h.jK m O s a u),rfl⟩
variable {M:ng}
def gM.msgs{R:pK}(h:gM B R f)(q:cI (aA.mk f.Links f.ay M))(u:∀m∈M,∀s a,look m.Database s=some a->a.Seq<=B):gM B R (aA.mk f.Links f.ay M):=⟨q,h.n,h.own,h.old,u,h.r⟩
def E5(h:cI f)(b:M.length<=400)(c:∀m∈M,m∈f.aY):cI (aA.mk f.Links f.ay M):=⟨h.t,b,h.n,λm a=>h.g m (c m a)⟩
variable {a:aO}
def LN{b:aO}(f:dO a=true)(c:dO b=true)(e:a.Router=b.Router)(d:b.Seq<a.Seq):jR a b=true:=by
 simp[jR,f,c,e,fM,d]
def Al{d:bF}(c:dS d)(f:dO a=true)(h:∀x,look d a.Router=some x->x.Seq<a.Seq):∀s,look (hr d a).1 s=if s=a.Router then some a else look d s:=λs=>by
 rw[zW c f s];by_cases b:s=a.Router
 .rw[if_pos b,if_pos b,b];cases e:look d a.Router with
  |none=>rfl
  |some x=>
   obtain⟨i,g⟩:=(jI c).1 e;have:=LN f (c.ok x i) g.symm (h x e);simp only[gq,this,cond_true]
 .rw[if_neg b,if_neg b]
def Kb{R:pK}(h:gM B R f)(O:1<=B)(r:Int):Ok (ud f r) (λp=>p.2=0->gM (B+1) R p.1):=by
 unfold ud;have i:=h.v;rcases uY f r with⟨x,_⟩|⟨a,n,b,g,N,C⟩
 .rw[(yP i x).1,(yP i x).2];exact Ok.s (λH=>by cases H)
 .subst C;have w:n∈f.ay:=by rw[g];simp
  have q:=i.n n w;have I:b4 f.ay (a.length:Int)=some n:=by rw[g];exact g9 a n b
  have J:fu f.ay (a.length:Int)=λm=>some (a++m::b):=by funext m;rw[g];exact oo a n m b
  have k:dS (bF.mk []):=⟨by simp,by simp,by simp⟩;rw[zq i g];simp only[dj,I,J,aU,decide_true,Bool.not_true,cond_false,g9,oo];have D:cI (dV f a (a2.mk n.Router 1 n.bw n.Claims (bF.mk [])) b):=i.dV g rfl rfl ⟨⟨by show(0:Int)<=1;decide,by show(1:Int)<=1000000;decide⟩,q.2.1,k⟩;have z:=v6 D (a:=a) (b:=b) (n:=a2.mk n.Router 1 n.bw n.Claims (bF.mk [])) rfl (by show(1:Int)<=1;decide);rw[show aA.mk f.Links (a++a2.mk n.Router 1 n.bw n.Claims (bF.mk [])::b) f.aY=dV f a (a2.mk n.Router 1 n.bw n.Claims (bF.mk [])) b from rfl,z];simp only[aU,zp];refine Ok.s λ_=>?_;have F:=k2 (n':=a2.mk n.Router 1 n.bw n.Claims (bF.mk [])) g rfl rfl;have G:hh (dV f a (a2.mk n.Router 1 n.bw n.Claims (bF.mk [])) b) (a2.mk n.Router 1 n.bw n.Claims (bF.mk []))=hh f (a2.mk n.Router 1 n.bw n.Claims (bF.mk [])):=by
   unfold hh;rw[F]
  rw[G];have E:dO (ec (aN f) n.Router 1 n.Claims)=true:=sN i w (by omega);have hB:=Al k E (λe c=>by cases c);have v:=i.x3 g (n:=a2.mk n.Router 1 n.bw n.Claims (bF.mk [])) rfl rfl (by show(1:Int)<=1/\(1:Int)<=1000000;decide) q.2.1 k;have l:=k2 (n':=hh f (a2.mk n.Router 1 n.bw n.Claims (bF.mk []))) g rfl rfl;generalize t:hh f (a2.mk n.Router 1 n.bw n.Claims (bF.mk []))=n' at v l ⊢
  have u:∀e∈(dV f a n' b).ay,e∈f.ay\/e=n':=λe c=>by
   have c:e∈a++n'::b:=c;rw[g];rcases List.mem_append.1 c with c|c
   .exact .inl (by simp[c])
   .rcases List.mem_cons.1 c with c|c
    .exact .inr c
    .exact .inl (by simp[c])
  refine⟨v,by show 1<=(a++n'::b).length;simp;omega,λe c=>?_,λe c s j d=>?_,λL K s j d=>by have:=h.jK L K s j d;omega,by rw[l];exact h.r⟩
  .unfold hH;rw[l];rcases u e c with c|rfl
   .obtain⟨⟨y,M⟩,A⟩:=h.own e c;exact⟨⟨y,by omega⟩,A⟩
   .rw[<-t];refine⟨⟨by show(1:Int)<=1;decide,by show 1<=B+1;omega⟩,?_⟩;show look (hr (bF.mk []) (ec (aN f) n.Router 1 n.Claims)).1 n.Router=_;rw[hB];exact if_pos rfl
  .rcases u e c with c|rfl
   .have:=h.old e c s j d;omega
   .rw[<-t]at d;have d:look (hr (bF.mk []) (ec (aN f) n.Router 1 n.Claims)).1 s=some j:=d;rw[hB]at d;by_cases o:s=(ec (aN f) n.Router 1 n.Claims).Router
    .rw[if_pos o]at d;rw[<-Option.some.inj d];show(1:Int)<=B+1;omega
    .rw[if_neg o]at d;cases d
def MT{R:pK}(h:gM B R f)(r:Int):Ok (up f r) (λp=>p.2=0->gM (B+1) R p.1):=by
 unfold up;have c:=h.v;rcases uY f r with⟨m,_⟩|⟨a,j,u,d,t,q⟩
 .rw[(yP c m).1,(yP c m).2];exact Ok.s (λg=>by cases g)
 .subst q;have l:j∈f.ay:=by rw[d];simp
  have v:=c.m;rw[zq c d];have k:=E2 c d f.aY (by omega);rw[show aA.mk f.Links f.ay f.aY=f from rfl]at k;simp only[dj,aU,decide_true,Bool.not_true,cond_false,k];refine Ok.cs (λ_=>Ok.s (λg=>by cases g)) λe=>Ok.s λ_=>?_;have e:(f.aY++oz f j).length<=400:=by have:=of_decide_eq_false e;omega
  refine(h.mono (by omega)).msgs ⟨c.t,e,c.n,λi b=>?_⟩ λi b s o n=>?_
  .rcases List.mem_append.1 b with b|b
   .exact c.g i b
   .exact Dz c l b
  .rcases List.mem_append.1 b with b|b
   .have:=h.jK i b s o n;omega
   .unfold oz at b;obtain⟨w,_,rfl⟩:=List.mem_map.1 b;have:=h.old j l s o n;omega
def MU{R:pK}(h:gM B R f)(k:Int):Ok (uq f k) (λp=>p.2=0->gM (B+1) R p.1):=by
 unfold uq;have b:=h.v;have a:=b.m;by_cases e:0<=k/\k<f.aY.length
 .obtain⟨p,n,g,d,rfl⟩:=EW e;rw[CV b e];simp only[dj,aU,decide_true,Bool.not_true,cond_false];rw[show mK f.aY (p.length:Int) (a1 ((p.length:Int)+1))=some (p++g)by rw[d];exact E3 p n g (by rw[<-d];omega),aU];have i:∀c∈p++g,c∈f.aY:=λc a=>by rw[d];rcases List.mem_append.1 a with a|a<;>simp[a]
  exact Ok.s λ_=>(h.mono (by omega)).msgs (E5 b (by rw[d]at a;simp at a ⊢;omega) i) λc j s o m=>by have:=h.jK c (i c j) s o m;omega
 .rw[(yH b e).1,(yH b e).2];exact Ok.s (λl=>by cases l)
def Kc{R:pK}(h:gM B R f)(A:0<=B/\B<=900000)(k:Int):Ok (ue f k) (λp=>p.2=0->gM (B+1) R p.1):=by
 unfold ue;have c:=h.v;have b:=c.m;by_cases i:0<=k/\k<f.aY.length
 .obtain⟨p,x,q,l,rfl⟩:=EW i
  have r:∀d∈x::(p++q),d∈f.aY:=λd b=>by
   rw[l];rcases List.mem_cons.1 b with rfl|b
   .simp
   .rcases List.mem_append.1 b with b|b<;>simp[b]
  have n:gM B R (aA.mk f.Links f.ay (x::(p++q))):=h.msgs (E5 c (by rw[l]at b;simp at b ⊢;omega) r) λd z s O L=>h.jK d (r d z) s O L;have m:=(CM (n.HF A) (x:=x) (q:=p++q) rfl).1;have M:kU (cM.mk f) (p.length:Int)=some (cM.mk (eP (aA.mk f.Links f.ay (x::(p++q))))):=by
   obtain⟨_,_,_,C,D⟩:=qb n.v (x:=x) (q:=p++q) rfl;obtain⟨d1,d2⟩:=C0 c l;cases e:dU (aN f) x.c4 x.bW with
   |false=>rw[d1 e,C e];rfl
   |true=>
    obtain⟨a,Q,P,u,F,G,_⟩:=d2 e;obtain⟨o,N,v,g,H,I⟩:=D e;have g:f.ay=o++N::v:=g;have t:=c.idx u;have E:=c.idx g;rw[F]at t;rw[H,t]at E;have J:a.length=o.length:=by omega
    obtain⟨w,j⟩:=List.append_inj (u.symm.trans g) J;injection j with j y
    subst w j y;rw[G,I];rfl
  rw[CV c i];simp only[dj,aU,decide_true,Bool.not_true,cond_false,M];refine Ok.s λ_=>?_;have:=m.rd.hd (by rw[m.len];exact h.n);rw[m.top]at this;rw[<-h.r];exact this
 .rw[(yH c i).1,(yH c i).2];exact Ok.s (λK=>by cases K)
def DD{R:pK}(h:gM B R f)(G:0<=B/\B<=900000){L:jC}(v:L.length<=100000):Ok (mS f L) (λp=>p.2=0->gM (B+1) R p.1):=by
 have i:=h.v;have A:nA (c2 f L):=⟨v,i.sm.2⟩;cases o:qa (c2 f L)with
 |false=>
  have j:mS f L=some (aA.mk [] [] [],1):=by
   unfold mS;rw[EY i.wc,aU,su v,aU];simp only[jn];rw[show aA.mk L f.ay f.aY=c2 f L from rfl,k4 i.sm,k4 A,o,kD.2 i];rfl
  rw[j];exact Ok.s (λC=>by cases C)
 |true=>
  have l:=kD.1 o;rw[Ku i l];refine Ok.s λ_=>?_;obtain⟨z,u⟩:=Kt l
  have t:∀b∈f.ay,((1<=(ee (aN f) (aN (c2 f L)) b).Seq/\(ee (aN f) (aN (c2 f L)) b).Seq<=B+1)/\look (ee (aN f) (aN (c2 f L)) b).Database (ee (aN f) (aN (c2 f L)) b).Router=some (ec (aN (c2 f L)) (ee (aN f) (aN (c2 f L)) b).Router (ee (aN f) (aN (c2 f L)) b).Seq (ee (aN f) (aN (c2 f L)) b).Claims))/\∀s a,look (ee (aN f) (aN (c2 f L)) b).Database s=some a->a.Seq<=B+1:=λb d=>by
   obtain⟨⟨m,F⟩,n⟩:=h.own b d;have x:=i.n b d;cases k:lC (aN f) (aN (c2 f L)) b with
   |false=>
    have j:ee (aN f) (aN (c2 f L)) b=b:=by unfold ee;rw[k];rfl
    rw[j];refine⟨⟨⟨m,by omega⟩,?_⟩,λs a c=>by have:=h.old b d s a c;omega⟩;rw[n];have w:b.Seq<1000000:=by omega
    simp only[lC,m,w,decide_true,Bool.true_and,Bool.not_eq_false']at k;unfold hH;rw[(u3 _ _).1 k]
   |true=>
    have j:ee (aN f) (aN (c2 f L)) b=a2.mk b.Router (b.Seq+1) b.bw b.Claims (hr b.Database (ec (aN (c2 f L)) b.Router (b.Seq+1) b.Claims)).1:=by unfold ee;rw[k];rfl
    rw[j];have y:dO (ec (aN (c2 f L)) b.Router (b.Seq+1) b.Claims)=true:=sN l (show b∈(c2 f L).ay from d) (by omega)
    have hB:=Al x.2.2 y (λg e=>by
     have e:look b.Database b.Router=some g:=e;rw[n]at e;rw[<-Option.some.inj e];show b.Seq<b.Seq+1;omega)
    refine⟨⟨⟨by show 1<=b.Seq+1;omega,by show b.Seq+1<=B+1;omega⟩,?_⟩,λs a c=>?_⟩
    .show look (hr b.Database (ec (aN (c2 f L)) b.Router (b.Seq+1) b.Claims)).1 b.Router=_;rw[hB];exact if_pos rfl
    .have c:look (hr b.Database (ec (aN (c2 f L)) b.Router (b.Seq+1) b.Claims)).1 s=some a:=c;rw[hB]at c;by_cases q:s=(ec (aN (c2 f L)) b.Router (b.Seq+1) b.Claims).Router
     .rw[if_pos q]at c;rw[<-Option.some.inj c];show b.Seq+1<=B+1;omega
     .rw[if_neg q]at c;have:=h.old b d s a c;omega
  have r:∀g∈(qG f L).ay,∃b∈f.ay,g=ee (aN f) (aN (c2 f L)) b:=λg e=>by
   obtain⟨b,d,rfl⟩:=List.mem_map.1 e;exact⟨b,d,rfl⟩
  refine⟨z,?_,λg e=>?_,λg e s a c=>?_,λE D s a c=>?_,by rw[u];exact h.r⟩
  .have:=h.n;show 1<=(f.ay.map _).length;simp;omega
  .obtain⟨b,d,rfl⟩:=r g e;unfold hH;rw[u];exact(t b d).1
  .obtain⟨b,d,rfl⟩:=r g e;exact(t b d).2 s a c
  .have:=h.jK E (List.mem_filter.1 D).1 s a c;omega
def hW{α σ β:Type}{B:Int->α->(σ->Option β)->σ->Option β}{K:σ->Option β}{L:List α}(S:List α->σ)(v:Option β)(b:K (S L)=v)
  (a:∀p x r bb,p++x::r=L->bb (S (p++[x]))=v->B (p.length:Int) x bb (S p)=v):∀(l p:List α),p++l=L->bL l p.length B K (S p)=v
 |[],p,h=>by rw[List.append_nil]at h;subst h;exact b
 |x::r,p,h=>by
  have:=hW (B:=B) (K:=K) S v b a r (p++[x]) (by simpa using h);rw[List.length_append]at this;exact a p x r _ h this
def qH(t:aK)(x:cF)(L:List (Int×bR))(r:Int):iG:=
 bif decide (r=x.Router)then some [r]else aa (hP t x.Router) λa=>bif a then rM t L r else some []
def ea(p:eE)(W:cF->Int->bR)(es:u6)(r:Int):dh:=dh.mk r p.cg p.Length (es.map λa=>fF.mk a.aP (W a r))
variable {p:eE}{t:aK}
def Dr{cN:bR}(W:cF->Int->bR)(G:cN≠[])(M:cN.length<=1000000)(J:p.c9.length<=1000000)
  (z:∀x∈p.c9,∃L,mT t x.Router=some L/\∀r∈cN,qH t x L r=some (W x r)):rI t p cN=some (cN.map (ea p W p.c9)):=by
 unfold rI;refine hW (L:=cN) (λb=>b.map (ea p W [])) _ ?_ (λb r F bb f i=>?_) cN [] rfl
 .have A:(!(cN.map (ea p W [])).isEmpty&&(cN.map (ea p W [])).all λx=>x.Rows.isEmpty)=true:=by
   cases cN with
   |nil=>exact absurd rfl G
   |cons a l=>simp[ea]
  rw[iQ A];refine hW (L:=p.c9) (λd=>cN.map (ea p W d)) _ rfl (λd x F bb o i=>?_) p.c9 [] rfl;have s:x∈p.c9:=by rw[<-o];simp
  have K:d.length<1000000:=by
   have:=congrArg List.length o;simp at this;omega
  obtain⟨L,q,u⟩:=z x s;rw[q,aU];refine(hW (L:=cN) (λb=>b.map (ea p W (d++[x]))++(cN.drop b.length).map (ea p W d)) _ ?_ (λb r h y f B=>?_) cN [] rfl)
  .simp only[List.drop_length,List.map_nil,List.append_nil];exact i
  .have E:r∈cN:=by rw[<-f];simp
   have I:cN.drop b.length=r::h:=by rw[<-f];simp
   have C:cN.drop (b++[r]).length=h:=by rw[<-f];simp
   have e:=u r E;have D:b.length<1000000:=by
    have:=congrArg List.length f;simp at this;omega
   have k:aa (b4 (b.map (ea p W (d++[x]))++(cN.drop b.length).map (ea p W d)) (b.length:Int)) (λ(g:dh)=>aa (dr g.Rows ([(fF.mk x.aP (W x r))]:List fF)) λ(v:List fF)=>aa (fu (b.map (ea p W (d++[x]))++(cN.drop b.length).map (ea p W d)) (b.length:Int) (dh.mk g.Router g.cg g.Length v)) λ(w:sV)=>y w)=some (cN.map (ea p W p.c9)):=by
    rw[I,List.map_cons];have n:=g9 (b.map (ea p W (d++[x]))) (ea p W d r) (h.map (ea p W d));rw[List.length_map]at n;rw[n,aU,ga (by simp[ea];omega),aU];have H:fu (b.map (ea p W (d++[x]))++ea p W d r::h.map (ea p W d)) (b.length:Int) (dh.mk (ea p W d r).Router (ea p W d r).cg (ea p W d r).Length ((ea p W d r).Rows++[fF.mk x.aP (W x r)]))=some ((b++[r]).map (ea p W (d++[x]))++(cN.drop (b++[r]).length).map (ea p W d)):=by
     unfold fu;rw[if_pos (by simp;omega),C];simp[ea,List.set_append]
    rw[H,aU];exact B
   unfold jn;unfold qH at e;by_cases j:r=x.Router
   .simp only[j,decide_true,cond_true,Option.some.injEq]at e ⊢;rw[<-j]at e ⊢;rw[e];exact k
   .simp only[j,decide_false,cond_false]at e ⊢;cases m:hP t x.Router with
    |none=>rw[m]at e;cases e
    |some c=>
     rw[m,aU]at e;rw[aU];cases c with
     |true=>
      simp only[cond_true]at e ⊢;rw[e,aU];exact k
     |false=>
      simp only[cond_false,Option.some.injEq]at e ⊢;rw[e];exact k
 .have D:b.length<1000000:=by
   have:=congrArg List.length f;simp at this;omega
  rw[ga (by simp;omega),aU];rw[show b.map (ea p W [])++[dh.mk r p.cg p.Length []]=(b++[r]).map (ea p W [])by simp[ea]];exact i
def Lp{l:bR}(h:l.Pairwise (·<·)):gF l=l:=yZ (zx (h.imp λh a=>by omega)) h λ_=>zf
variable {r:Int}
def M1{L:List (Int×bR)}(i:∀n∈(aB L r).getD [],hP t n=some true)(d:((aB L r).getD []).Pairwise (·<·))(l:((aB L r).getD []).length<=1000000):rM t L r=some ((aB L r).getD []):=by
 unfold rM
 have k:rF fuel r L [] t.aL t.Links []=some (((aB L r).getD []).map λn=>(n,true),(aB L r).getD []):=by
  rw[show fuel=1099511627775+1 from rfl];unfold rF;refine hW (L:=(aB L r).getD []) (λp=>(p,p.map λn=>(n,true))) _ rfl (λp a m bb e h=>?_) _ [] rfl
  have c:a∉p:=λc=>by
   rw[<-e,List.pairwise_append]at d;have:=d.2.2 a c a (by simp);omega
  have b:aB (p.map λn=>(n,true)) a=none:=by
   unfold aB;rw[Option.map_eq_none_iff,List.find?_eq_none];intro o f;obtain⟨n,b,rfl⟩:=List.mem_map.1 f;simp only[decide_eq_true_eq];intro j;exact c (j▸b)
  have g:=congrArg List.length e;simp at g;unfold jn;simp only[b,Option.getD_none,cond_false,i a (by rw[<-e];simp),aU,cond_true];rw[ga (by simp;omega),aU,uZ _ b];have:=h;rw[List.map_append]at this;exact this
 rw[k,aU,iQ (by simp;omega),Lp d]
def Ke(l:bR):tE l l=some true:=by
 unfold tE;simp only[decide_true,Bool.not_true,cond_false];refine hW (L:=l) (λ_=>()) _ rfl (λp a r bb d b=>?_) l [] rfl;have c:b4 l (p.length:Int)=some a:=by rw[<-d];exact g9 p a r
 simp only[c,aU,decide_true,Bool.not_true,cond_false];exact b
def Lq(b:dh):rN b b=some true:=by
 unfold rN w6;simp only[decide_true,Bool.not_true,cond_false,cond_true]
 rw[show(bL b.Rows 0 _ _ ())=some true from hW (L:=b.Rows) (λ_=>()) _ rfl (λp a r bb e c=>by
  have d:b4 b.Rows (p.length:Int)=some a:=by rw[<-e];exact g9 p a r
  simp only[d,aU];unfold yf;simp only[decide_true,cond_true,Ke,aU,Bool.not_true,cond_false];exact c) b.Rows [] rfl]
 rfl
def Lr(W:cF->Int->bR)(j:iW t=some 0)(h:lQ p=some true)(f:jG t r=some true)(k:hP t r=some true)(c:p.c9.length<=1000000)
  (i:∀x∈p.c9,∃L,mT t x.Router=some L/\qH t x L r=some (W x r)):lX t p r=some (ea p W p.c9 r,0):=by
 have d:=Dr (cN:=[r]) W (by simp) (by simp) c λx b=>by
  obtain⟨L,g,a⟩:=i x b;exact⟨L,g,λl e=>by rw[List.mem_singleton.1 e];exact a⟩
 unfold lX jn;simp only[j,h,f,k,d,aU,decide_true,Bool.not_true,cond_false];rfl
def OZ(W:cF->Int->bR)(i:iW t=some 0)(f:lQ p=some true)(j:t.aL≠[])(k:t.aL.length<=1000000)(l:∀x∈t.aL,x.bw=true)(c:p.c9.length<=1000000)
  (h:∀x∈p.c9,∃L,mT t x.Router=some L/\∀r∈t.aL.map (·.aP),qH t x L r=some (W x r)):pO t p=some (t.aL.map λr=>ea p W p.c9 r.aP,0):=by
 have d:=Dr (t:=t) (cN:=t.aL.map (·.aP)) W (by simpa using j) (by simpa using k) c h;unfold pO;unfold jn;simp only[i,f,aU,decide_true,Bool.not_true,cond_false];refine hW (L:=t.aL) (λa=>a.map (·.aP)) _ ?_ (λa r n bb b g=>?_) t.aL [] rfl
 .rw[d,aU,List.map_map];rfl
 .have e:r.bw=true:=l r (by rw[<-b];simp);have m:a.length<1000000:=by
   have:=congrArg List.length b;simp at this;omega
  simp only[e,cond_true];rw[ga (by simp;omega),aU];rw[show a.map (·.aP)++[r.aP]=(a++[r]).map (·.aP)by simp];exact g
def DJ{B:Int->Int->List (Int×bR)->Option (List (Int×bR))}(b:Int->bR)(f:∀n v m,B n v m=some (bM m n (b n))):∀(l:List (Int×Int)) (a:List (Int×bR)),ek l->(∀p∈l,aB a p.1=none)->
  fL B l a=some (a++l.map λp=>(p.1,b p.1))
 |[],a,_,_=>by simp[fL]
 |p::r,a,hk,h=>by
  have g:p.1∉r.map (·.1)/\ek r:=List.nodup_cons.1 hk;simp only[fL,f];rw[uZ _ (h p (by simp)),DJ b f r _ g.2 λd e=>?_]
  .simp
  .have c:=h d (by simp[e]);have i:p.1≠d.1:=λj=>g.1 (by rw[j];exact List.mem_map.2 ⟨d,e,rfl⟩);unfold aB at c ⊢;rw[List.find?_append];simp only[Option.map_eq_none_iff]at c ⊢;rw[c];simp[i]
def EF{α β:Type}(f:Int->β):∀(l:List (Int×α)) (n:Int),aB (l.map λp=>(p.1,f p.1)) n=(aB l n).map λ_=>f n
 |[],n=>rfl
 |p::r,n=>by
  simp only[List.map_cons,gB];by_cases a:p.1=n
  .subst a;simp
  .simp only[if_neg a];exact EF f r n
def Lg{t:aK}(f:cU t)(b:Int):∃L,mT t b=some L/\∀r,(aB L r).getD []=jW t b r:=by
 obtain⟨j,y,e⟩:=E8 f;have B:∃a,lP j.jm b=some a/\ek a/\∀v,aB a v=gz t v b:=by
  by_cases q:b∈ids t
  .obtain⟨a,l,h,m,_⟩:=Bi e.nO q;obtain⟨c,g,n⟩:=Gd f e b;rw[l]at g;cases g
   exact⟨a,l,h,n⟩
  .obtain⟨c,g,n⟩:=Gd f e b;have s:lP j.jm b=some []:=E7 (by
    have:=e.nO.keys b;cases z:(aB j.jm b).isSome with
    |false=>rfl
    |true=>exact absurd (this.1 z) q)
   rw[s]at g;cases g
   exact⟨[],s,List.nodup_nil,n⟩
 obtain⟨a,l,h,m⟩:=B;have x:∀(d C:Int) (o:List (Int×bR)),(aa (q0 j a d) λ(w:(bR))=>some (bM o d w))=some (bM o d (jW t b d)):=λd C o=>by rw[Lo f e m d];rfl
 refine⟨a.map λu=>(u.1,jW t b u.1),?_,λr=>?_⟩
 .unfold mT;rw[LX,aU,gj.2 f];simp only[decide_true,Bool.not_true,cond_false];rw[y,aU,l,aU];unfold vQ;have p:=λ(c:List (Int×Int)) (i:c.Perm a)=>DJ (jW t b) x c [] ((i.symm.map _).nodup h) (λ_ _=>rfl);rw[p a (.refl a)];simp only[List.nil_append];rw[if_pos];refine⟨λc i=>⟨_,p c i,?_⟩,?_⟩
  .simpa using (i.symm.map _)
  .rw[List.map_map];exact h
 .rw[EF,m];cases A:gz t r b with
  |none=>rw[Dq A];rfl
  |some k=>rfl
noncomputable def hj(t:aK)(x:cF)(r:Int):bR:=bif decide (r=x.Router)then[r]else jW t x.Router r
variable {t:aK}
def Ls(a:cU t)(b x:Int):(jW t b x).Pairwise (·<·):=(p3 a x).filter _
def Lt{b x n:Int}(h:n∈jW t b x):n∈ids t:=(List.mem_filter.1 (List.mem_filter.1 h).1).1
def E9(b:cU t)(c:∀n∈ids t,hP t n=some true){x:cF}(d:x.Router∈ids t):∃L,mT t x.Router=some L/\∀r,qH t x L r=some (hj t x r):=by
 obtain⟨L,f,a⟩:=Lg b x.Router;refine⟨L,f,λr=>?_⟩;unfold qH hj;cases decide (r=x.Router)
 .have g:(jW t x.Router r).length<=24:=Nat.le_trans (List.length_filter_le _ _) (DI b r);rw[cond_false,cond_false,c _ d,aU,cond_true,M1 (by rw[a];exact λn e=>c n (Lt e)) (by rw[a];exact Ls b _ _) (by rw[a];omega),a]
 .rfl
def DK{p:eE}(d:cU t)(j:iW t=some 0)(i:lQ p=some true)(o:t.aL≠[])(m:∀x∈t.aL,x.bw=true)(f:∀n∈ids t,hP t n=some true)(l:∀n∈ids t,jG t n=some true)
  (g:p.c9.length<=1000000) (k:∀x∈p.c9,x.Router∈ids t):pO t p=some (t.aL.map λr=>ea p (hj t) p.c9 r.aP,0)/\∀r∈ids t,lX t p r=some (ea p (hj t) p.c9 r,0):=by
 refine⟨OZ (hj t) j i o (by have:=d.iP;omega) m g λx c=>?_,λr h=>Lr (hj t) j i (l r h) (f r h) g λx c=>?_⟩
 .obtain⟨a,e,b⟩:=E9 d f (k x c);exact⟨a,e,λr _=>b r⟩
 .obtain⟨a,e,b⟩:=E9 d f (k x c);exact⟨a,e,b r⟩
def kK(o:bZ):Bool:=dk o.Router 1 99&&gG o.Claim
def k0(a b:bZ):Prop:=a.Router<b.Router\/a.Router=b.Router/\a.Claim.cg<b.Claim.cg
structure mC(l:List bZ):Prop where
 n:l.length<=192
 g:∀o∈l,kK o=true
 s:l.Pairwise k0
def wK(n a b:Int):j7 n a b=some (dk n a b):=rfl
variable {o:bZ}
def Lh(h:kK o=true):q8 o=some false:=by
 unfold kK gG at h;simp only[Bool.and_eq_true]at h;obtain⟨d,⟨b,c⟩,a⟩:=h;unfold q8;simp only[wK,d,b,c,wF,a,aU,Bool.not_true,cond_false]
variable {l:l5}
theorem EG(h:mC l):rz l=some 0:=by
 have v:=h.n;have q:decide ((192:Int)<(l.length:Int))=false:=decide_eq_false (by omega);have i:nP l q8=some false:=by
  unfold nP tj
  rw[show(bL l 0 _ _ ())=some (-1:Int)from hW (L:=l) (λ_=>()) _ rfl (λd b g bb e f=>by
   rw[Lh (h.g b (by rw[<-e];simp))];exact f) l [] rfl]
  rfl
 unfold rz;rw[q,i];simp only[cond_false,aU];refine hW (L:=l) (λ_=>()) _ rfl (λd b g bb e f=>?_) l [] rfl;unfold jn;by_cases m:0<d.length
 .obtain⟨c,a,rfl⟩:∃c a,d=c++[a]:=⟨d.dropLast,d.getLast (λn=>by simp[n]at m),(List.dropLast_concat_getLast _).symm⟩;have o:b4 l (a1 (((c++[a]).length:Int)-1))=some a:=by
   have j:=congrArg List.length e;simp at j;rw[qk (by omega) (by simp;omega),<-e];have:=g9 c a (b::g);simpa using this
  have k:k0 a b:=by
   have:=h.s;rw[<-e,List.append_assoc,List.pairwise_append]at this;have:=this.2.1;simp at this;exact this.1.1
  have p:decide ((0:Int)<=jv [dM a.Router b.Router,dM a.Claim.cg b.Claim.cg])=false:=by
   refine decide_eq_false ?_;have t:dM a.Router b.Router<0↔a.Router<b.Router:=sq;have s:dM a.Router b.Router=0↔a.Router=b.Router:=k7;have u:dM a.Claim.cg b.Claim.cg<0↔a.Claim.cg<b.Claim.cg:=sq;unfold jv jv;rcases k with c|⟨c,r⟩
   .grind
   .grind
  simp only[show decide ((0:Int)<((c++[a]).length:Int))=true from decide_eq_true (by simp),o,vp,Ay,aU,cond_true,p,cond_false];exact f
 .simp only[show decide ((0:Int)<(d.length:Int))=false from decide_eq_false (by omega),cond_false];exact f
def mz(s:Int):l5->Int->Int
 |[],out=>out
 |o::r,out=>mz s r (bif decide (o.Claim.cg=s)&&(decide (out=0)||decide (o.Claim.Length<out))then o.Claim.Length else out)
def Li(h:mC l)(s:Int):tU l s=some (mz s l 0):=by
 unfold tU;rw[EG h];simp only[aU,decide_true,Bool.not_true,cond_false];refine vw (f:=λl a=>some (mz s l a)) (λ_=>rfl) (λd b e a bb c=>?_) l 0 0;unfold jn;rw[mz];cases decide (b.Claim.cg=s)&&(decide (a=0)||decide (b.Claim.Length<a))<;>exact c _
def An{s:Int}:∀{l:l5} {out:Int},(∀o∈l,kK o=true)->(ht out=true\/out=0)->(ht (mz s l out)=true\/mz s l out=0/\out=0/\∀o∈l,o.Claim.cg≠s)
 |[],out,_,a=>by
  rcases a with a|a
  .exact .inl a
  .exact .inr ⟨a,a,by simp⟩
 |o::r,out,e,a=>by
  have i:ht o.Claim.Length=true:=by
   have:=e o (by simp);unfold kK gG at this;simp only[Bool.and_eq_true]at this;exact this.2.2
  have p:∀g:Int,ht g=true->g≠0:=λg n f=>by subst f;revert n;decide
  rw[mz];cases m:decide (o.Claim.cg=s)&&(decide (out=0)||decide (o.Claim.Length<out))with
  |true=>
   simp only[cond_true];rcases An (s:=s) (l:=r) (λd b=>e d (by simp[b])) (.inl i)with c|⟨_,c,_⟩
   .exact .inl c
   .exact absurd c (p _ i)
  |false=>
   simp only[cond_false];rcases An (s:=s) (l:=r) (λd b=>e d (by simp[b])) a with c|⟨j,h,k⟩
   .exact .inl c
   .refine .inr ⟨j,h,λd b=>?_⟩;rcases List.mem_cons.1 b with rfl|b
    .intro f;simp[f,h]at m
    .exact k d b
def iC(s:Int)(l:l5)(i:Nat):Nat:=(l.filter λo=>decide (o.Claim.cg=s)&&decide (o.Claim.aP=(i:Int))).length
def mA(s:Int)(l:l5):eM 257:=⟨(List.range 257).map λa=>(iC s l a:Int),by simp⟩
def Fa{s:Int}{n:Int}(h:1<=n/\n<=256):b4 (mA s l).l n=some (iC s l n.toNat:Int):=by
 unfold b4;rw[if_pos (by omega)];simp only[mA,List.getElem?_map];rw[List.getElem?_range (by omega)];rfl
def Mx{s:Int}{i:Nat}:iC s l i<=l.length:=List.length_filter_le _ _
def z6{n:Nat}{a b:eM n}(h:a.l=b.l):a=b:=by
 cases a;cases b;simp only at h;subst h;rfl
def Lu(h:mC l)(s:Int):ul l s=some (mA s l):=by
 unfold ul
 rw[show eM.zero 257=mA s []from z6 (List.eq_replicate_iff.2 ⟨by simp[mA],λq k=>by
  obtain⟨c,_,rfl⟩:=List.mem_map.1 k;rfl⟩).symm]
 refine hW (L:=l) (mA s) _ rfl (λb a r bb g i=>?_) l [] rfl;unfold jn;have m:=congrArg List.length g;have p:=h.n;simp at m;have j:1<=a.Claim.aP/\a.Claim.aP<=256:=by
  have:=h.g a (by rw[<-g];simp);unfold kK gG dk at this;simp only[Bool.and_eq_true,decide_eq_true_eq]at this;exact this.2.1.2
 by_cases d:a.Claim.cg=s
 .simp only[d,decide_true,cond_true];rw[Fa j,aU];have o:iC s b a.Claim.aP.toNat<=b.length:=Mx;rw[qk (by omega) (by omega)];have:eM.put (mA s b) a.Claim.aP.toNat ((iC s b a.Claim.aP.toNat:Int)+1)=mA s (b++[a]):=by
   refine z6 ?_;show((List.range 257).map λc=>(iC s b c:Int)).set a.Claim.aP.toNat ((iC s b a.Claim.aP.toNat:Int)+1)=(List.range 257).map λc=>(iC s (b++[a]) c:Int);apply List.ext_getElem?;intro e;rw[List.getElem?_set,List.getElem?_map,List.getElem?_map];by_cases f:a.Claim.aP.toNat=e
   .subst f;rw[if_pos rfl,if_pos (by simp;omega),List.getElem?_range (by omega)];simp[iC,List.filter_append,d,show max a.Claim.aP 0=a.Claim.aP by omega]
   .rw[if_neg f];by_cases n:e<257
    .rw[List.getElem?_range n];simp[iC,List.filter_append,show ¬a.Claim.aP=(e:Int)by omega]
    .rw[List.getElem?_eq_none (by simp;omega)];rfl
  rw[this];exact i
 .simp only[d,decide_false,cond_false];have:mA s (b++[a])=mA s b:=by
   refine z6 ?_;show(List.range 257).map (λc=>(iC s (b++[a]) c:Int))=(List.range 257).map λc=>(iC s b c:Int);refine List.map_congr_left λc _=>?_;simp[iC,List.filter_append,d]
  rw[<-this];exact i
def qD(s:Int)(l:l5)(o:bZ):Bool:=decide (o.Claim.cg=s)&&decide (((iC s l o.Claim.aP.toNat:Nat):Int)=1)
def fV(s:Int)(l p:l5):u6:=(p.filter (qD s l)).map λo=>cF.mk o.Router o.Claim.aP
theorem My(h:mC l){s:Int}(t:0<=s/\s<=7)(v:(fV s l l).length<=24)(r:(fV s l l).Pairwise λa b=>a.aP≠b.aP):
  Ok (pI l s) (λq=>q.2=0/\∃es,q.1=eE.mk s (mz s l 0) es/\es.Perm (fV s l l)/\es.Pairwise λa b=>a.aP<b.aP):=by
 obtain⟨es,o,n,p⟩:=zB (ks:=[λc:cF=>c.aP]) (l:=fV s l l) (r.imp λ{a b} j=>by simp only[dQ];grind) (by omega);refine⟨(eE.mk s (mz s l 0) es,0),?_,rfl,es,rfl,n,p.imp λ{a b} j=>by simp only[dQ]at j;grind⟩;unfold pI;rw[EG h];simp only[aU,decide_true,Bool.not_true,cond_false,wK,show dk s 0 7=true from by unfold dk;simp;omega,Li h,Lu h];refine hW (L:=l) (fV s l) _ ?_ (λd c x bb i e=>?_) l [] rfl
 .simp only[show decide ((24:Int)<((fV s l l).length:Int))=false from decide_eq_false (by omega),cond_false];rw[o];rfl
 .have m:=congrArg List.length i;have w:=h.n;simp at m;have k:1<=c.Claim.aP/\c.Claim.aP<=256:=by
   have:=h.g c (by rw[<-i];simp);unfold kK gG dk at this;simp only[Bool.and_eq_true,decide_eq_true_eq]at this;exact this.2.1.2
  have u:(fV s l d).length<=d.length:=by simp[fV];exact List.length_filter_le _ _
  unfold jn;have dH:dr (fV s l d) [cF.mk c.Router c.Claim.aP]=some (fV s l d++[cF.mk c.Router c.Claim.aP]):=ga (by simp;omega);by_cases f:c.Claim.cg=s
  .simp only[f,decide_true,cond_true];rw[Fa k,aU];by_cases g:((iC s l c.Claim.aP.toNat:Nat):Int)=1
   .simp only[g,decide_true,cond_true,dH,aU];rw[show fV s l d++[cF.mk c.Router c.Claim.aP]=fV s l (d++[c])by simp[fV,List.filter_append,qD,f,g]];exact e
   .simp only[g,decide_false,cond_false];rw[show fV s l (d++[c])=fV s l d by simp[fV,List.filter_append,qD,g]]at e;exact e
  .simp only[f,decide_false,cond_false];rw[show fV s l (d++[c])=fV s l d by simp[fV,List.filter_append,qD,f]]at e;exact e
def z7{s:Int}:qD s l o=true↔o.Claim.cg=s/\iC s l o.Claim.aP.toNat=1:=by
 unfold qD;simp only[Bool.and_eq_true,decide_eq_true_eq];constructor<;>rintro⟨a,b⟩<;>exact⟨a,by omega⟩
def Fb(h:kK o=true):(1<=o.Claim.aP/\o.Claim.aP<=256)/\1<=o.Router/\o.Router<=99:=by
 unfold kK gG dk at h;simp only[Bool.and_eq_true,decide_eq_true_eq]at h;exact⟨h.2.1.2,h.1⟩
def Lv(h:mC l)(s:Int):(fV s l l).Pairwise λa b=>a.aP≠b.aP:=by
 unfold fV;rw[List.pairwise_map,List.pairwise_iff_forall_sublist];intro a b d f;have f:a.Claim.aP=b.Claim.aP:=f;obtain⟨i,c⟩:=List.mem_filter.1 (d.subset (show a∈[a,b]by simp));obtain⟨m,e⟩:=List.mem_filter.1 (d.subset (show b∈[a,b]by simp));rw[z7]at c e;have n:=(Fb (h.g a i)).1;have g:=((d.trans List.filter_sublist).filter λo=>decide (o.Claim.cg=s)&&decide (o.Claim.aP=((a.Claim.aP.toNat:Nat):Int))).length_le;have j:decide (a.Claim.aP=((a.Claim.aP.toNat:Nat):Int))=true:=decide_eq_true (by omega);have k:decide (b.Claim.aP=((a.Claim.aP.toNat:Nat):Int))=true:=decide_eq_true (by omega);simp only[List.filter_cons,c.1,e.1,decide_true,j,k,Bool.and_self,if_true,List.filter_nil,List.length_cons,List.length_nil]at g;have:=c.2;unfold iC at this;omega
def CN(h:mC l)(s:Int):(fV s l l).Pairwise λa b=>a.Router<b.Router:=by
 unfold fV;rw[List.pairwise_map,List.pairwise_iff_forall_sublist];intro a b c;obtain⟨_,f⟩:=List.mem_filter.1 (c.subset (show a∈[a,b]by simp));obtain⟨_,e⟩:=List.mem_filter.1 (c.subset (show b∈[a,b]by simp));rw[z7]at f e;have:=List.pairwise_iff_forall_sublist.1 h.s (c.trans List.filter_sublist);rcases this with d|⟨_,d⟩
 .exact d
 .omega
def Kf(h:mC l){s:Int}(Z:0<=s/\s<=7)(W:(fV s l l).length<=24){es:u6}(r:es.Perm (fV s l l))(S:es.Pairwise λa b=>a.aP<b.aP):lQ (eE.mk s (mz s l 0) es)=some true:=by
 have ae:es.length<=24:=by rw[r.length_eq];exact W
 have x:∀i∈es,∃o∈l,o.Claim.cg=s/\i=cF.mk o.Router o.Claim.aP:=λi m=>by
  have:=r.mem_iff.1 m;unfold fV at this;obtain⟨o,u,n⟩:=List.mem_map.1 this;obtain⟨I,C⟩:=List.mem_filter.1 u;exact⟨o,I,(z7.1 C).1,n.symm⟩
 have J:es.Pairwise λa b=>a.Router≠b.Router:=(r.symm.pairwise_iff λh k=>h k.symm).1 ((CN h s).imp λh k=>by omega);unfold lQ;have O:dk s 0 7=true:=by unfold dk;simp;omega
 have V:decide ((24:Int)<(es.length:Int))=false:=decide_eq_false (by omega)
 have y:bL es 0 (λ(q:Int) (g:cF) (G:Unit->Option _) (p:Unit)=>match p with|()=>aa (gT es (0:Int) (q:Int)) λ(F:u6)=>aa (qS F (λ(t:cF)=>qX t g)) λ(B:Bool)=>jn (λ(M:Bool)=>bif M then some false else G ()) λj=>aa (j7 g.aP (1:Int) (256:Int)) λ(E:Bool)=>(bif !E then j true else aa (j7 g.Router (1:Int) (99:Int)) λ(K:Bool)=>(bif !K then j true else(bif B then j true else(bif decide ((0:Int)<(q:Int))then aa (b4 es (a1 ((q:Int)-(1:Int)))) λ(D:cF)=>j (decide (g.aP<=D.aP))else j false))))) (λ(p:Unit)=>match p with|()=>some true) ()=some true:=by
  refine hW (L:=es) (λ_=>()) _ rfl (λd i Y bb f v=>?_) es [] rfl;have w:=congrArg List.length f;simp at w;obtain⟨o,R,_,rfl⟩:=x i (by rw[<-f];simp);obtain⟨aj,ab⟩:=Fb (h.g o R);have Q:gT es 0 (d.length:Int)=some d:=by
   unfold gT;rw[if_pos (by omega)];simp[<-f]
  have U:qS d (λ(t:cF)=>qX t (cF.mk o.Router o.Claim.aP))=some false:=by
   unfold qS xo
   rw[show(bL d 0 _ _ ())=some (-1:Int)from hW (L:=d) (λ_=>()) _ rfl (λe c ah ai T P=>by
    have H:c.Router≠o.Router:=by
     have:=J;rw[<-f,List.pairwise_append]at this;exact this.2.2 c (by rw[<-T];simp) (cF.mk o.Router o.Claim.aP) (by simp)
    unfold qX;simp only[H,decide_false,aU,cond_false];exact P) d [] rfl]
   rfl
  simp only[Q,U,aU,wK,show dk o.Claim.aP 1 256=true from by unfold dk;simp;omega,show dk o.Router 1 99=true from by unfold dk;simp;omega,Bool.not_true,cond_false];unfold jn;by_cases X:0<d.length
  .obtain⟨e,c,rfl⟩:∃e c,d=e++[c]:=⟨d.dropLast,d.getLast (λk=>by simp[k]at X),(List.dropLast_concat_getLast _).symm⟩;have g:b4 es (a1 (((e++[c]).length:Int)-1))=some c:=by
    rw[qk (by omega) (by simp at w ⊢;omega),<-f];have:=g9 e c (cF.mk o.Router o.Claim.aP::Y);simpa using this
   have af:c.aP<o.Claim.aP:=by
    have:=S;rw[<-f,List.pairwise_append]at this;exact this.2.2 c (by simp) (cF.mk o.Router o.Claim.aP) (by simp)
   simp only[show decide ((0:Int)<((e++[c]).length:Int))=true from decide_eq_true (by simp),g,aU,cond_true,show decide (o.Claim.aP<=c.aP)=false from decide_eq_false (by omega),cond_false];exact v
  .simp only[show decide ((0:Int)<(d.length:Int))=false from decide_eq_false (by omega),cond_false];exact v
 unfold jn;simp only[wK,O,wF,aU,Bool.not_true,cond_false,V];rcases An (s:=s) (l:=l) (out:=0) h.g (.inr rfl)with e|⟨z,_,A⟩
 .simp only[e,Bool.not_true,cond_false];exact y
 .have N:es=[]:=List.eq_nil_iff_forall_not_mem.2 λi m=>by
   obtain⟨o,u,n,_⟩:=x i m;exact A o u n
  subst N;simp only[z,show ht 0=false from by decide,Bool.not_false,cond_true,decide_true,Bool.not_true,cond_false,List.length_nil];exact y
def Lw(h:mC l)(s:Int){V:bR}(g:V.length<=24)(e:∀o∈l,o.Router∈V):(fV s l l).length<=24:=by
 have f:((fV s l l).map (·.Router)).Nodup:=by
  rw[List.Nodup,List.pairwise_map];exact(CN h s).imp λh i=>by omega
 have:=kj f (b:=V) λj a=>by
  obtain⟨k,c,rfl⟩:=List.mem_map.1 a;obtain⟨o,d,rfl⟩:=List.mem_map.1 c;exact e o (List.mem_filter.1 d).1
 rw[List.length_map]at this;omega
variable {T:aK}{de:Int}{r:bk}
def lp.owner{d:bF}(h:lp d de T)(q:r∈T.aL):dS d/\∃a∈d.bf,r=bk.mk a.Router a.bw:=by
 rcases h with⟨_,rfl⟩|⟨⟨_,u⟩,Q,C,rfl⟩
 .simp[wS]at q
 .split at q
  .obtain⟨a,O,_,e⟩:=(C.Bl r).1 q;exact⟨u,a,O,e⟩
  .simp[wS]at q
def iu(d:bF)(r:bk):l5:=bif r.bw then(fQ d r.aP).1.Claims.map (bZ.mk r.aP)else[]
def Lj{d:bF}(p:lJ d)(o:lT d de=some T)(m:lp d de T)(q:T.aL.length<=24):nU d de=some (T.aL.flatMap (iu d)):=by
 refine atJ ?_;unfold nU;rw[o,aU];refine atB (λe (c:l5)=>c=e.flatMap (iu d)/\c.length<=8*e.length) ?_ _ ⟨rfl,by simp⟩ (λc f=>Ok.s f.1);rintro e r s c bb h ⟨f,t⟩ j;obtain⟨i,a,k,l⟩:=m.owner (r:=r) (by rw[h];simp);have j8:=ml (i.ok a k);have u:e.length<T.aL.length:=by rw[h];simp
 simp only[jn];rw[vq p,aU];have g:fQ d r.aP=(a,true):=i.key k (by rw[l]);have v:=j8.xK;refine Ok.cs (λb=>?_) λb=>?_
 .have b:r.bw=false:=by simpa using b
  exact j _ ⟨by rw[List.flatMap_append,f];simp[iu,b],by simp;omega⟩
 .have b:r.bw=true:=by simpa using b
  rw[g];rw[u2 (λn=>bZ.mk r.aP n) a.Claims 0 c (by omega)];exact j _ ⟨by rw[List.flatMap_append,f];simp[iu,b,g],by simp;omega⟩
variable {a:aO}
def JE(h:dO a=true):(∀c∈a.Claims,gG c=true)/\a.Claims.Pairwise (λx y=>x.cg<y.cg):=by
 simp only[dO,Bool.and_eq_true]at h;refine⟨λc e=>List.all_eq_true.1 h.2.2.1 c e,?_⟩;have:=rO (p:=λa b:dA=>decide (a.cg<b.cg)) (λa b c f d=>by simp at f d ⊢;omega) h.2.2.2;exact this.imp (λh=>by simpa using h)
def Kg{d:bF}(e:dS d)(c:a∈d.bf)(b:r=bk.mk a.Router a.bw):iu d r=bif r.bw then a.Claims.map (bZ.mk r.aP)else[]:=by
 unfold iu;rw[e.key c (by rw[b])]
def y9{d:bF}{o:bZ}(h:o∈iu d r):o.Router=r.aP:=by
 unfold iu at h;cases a:r.bw
 .rw[a]at h;simp at h
 .rw[a,cond_true]at h;obtain⟨b,_,rfl⟩:=List.mem_map.1 h;rfl
def F3{d:bF}(e:dS d):∀(R:pK),(∀r∈R,∃a∈d.bf,r=bk.mk a.Router a.bw)->R.Pairwise (λa b=>a.aP<b.aP)->(R.flatMap (iu d)).length<=8*R.length/\(∀o∈R.flatMap (iu d),kK o=true)/\(R.flatMap (iu d)).Pairwise k0
 |[],_,_=>by simp
 |r::R,h1,j=>by
  obtain⟨B,q,u⟩:=F3 e R (λi f=>h1 i (by simp[f])) (List.pairwise_cons.1 j).2;obtain⟨a,h,k⟩:=h1 r (by simp);have w:=Kg e h k;have j8:=ml (e.ok a h);obtain⟨n,m⟩:=JE (e.ok a h);have t:r.aP=a.Router:=by rw[k]
  have p:dk a.Router 1 99=true:=by
   have:=j8.r;simp only[dk,Bool.and_eq_true,decide_eq_true_eq];exact this
  have l:(iu d r).length<=8/\(∀o∈iu d r,kK o=true)/\(iu d r).Pairwise k0:=by
   rw[w];cases r.bw
   .simp
   .simp only[cond_true,List.length_map,List.pairwise_map];refine⟨j8.xK,λo c=>?_,m.imp λ{i z} x=>.inr ⟨rfl,x⟩⟩;obtain⟨v,s,rfl⟩:=List.mem_map.1 c;unfold kK;rw[Bool.and_eq_true];exact⟨by rw[t];exact p,n v s⟩
  rw[List.flatMap_cons];refine⟨by simp only[List.length_append,List.length_cons];omega,λo c=>?_,List.pairwise_append.2 ⟨l.2.2,u,λi f z g=>?_⟩⟩
  .rcases List.mem_append.1 c with c|c
   .exact l.2.1 o c
   .exact q o c
  .obtain⟨A,y,g⟩:=List.mem_flatMap.1 g;have:=(List.pairwise_cons.1 j).1 A y;left;rw[y9 f,y9 g];exact this
def Lx{d:bF}(h:dS d)(g:lp d de T)(c:cU T):mC (T.aL.flatMap (iu d))/\∀o∈T.aL.flatMap (iu d),o.Router∈ids T:=by
 obtain⟨i,e,f⟩:=F3 h T.aL (λr a=>(g.owner a).2) c.gi;refine⟨⟨by have:=c.iP;omega,e,f⟩,λo b=>?_⟩;obtain⟨r,a,b⟩:=List.mem_flatMap.1 b;rw[y9 b];exact List.mem_map.2 ⟨r,a,rfl⟩
variable {a b:kT}{f:aA}
def Mz{n:a2}(d:cI f)(c:f.ay=a++n::b)(l:n.Seq=0):lN f n.Router=some (dV f a (hh f (a2.mk n.Router 1 n.bw n.Claims n.Database)) b,0):=by
 unfold lN;have k:n∈f.ay:=by rw[c];simp
 have g:=d.n n k;have m:b4 f.ay (a.length:Int)=some n:=by rw[c];exact g9 a n b
 have o:fu f.ay (a.length:Int)=λe=>some (a++e::b):=by funext e;rw[c];exact oo a n e b
 rw[zq d c];have h:decide ((0:Int)=1000000)=false:=rfl;simp only[dj,m,o,l,h,aU,decide_true,Bool.not_true,cond_false];rw[et (by omega) (by omega)];have i:cI (dV f a (a2.mk n.Router (0+1) n.bw n.Claims n.Database) b):=d.dV c rfl rfl ⟨⟨by show(0:Int)<=0+1;omega,by show(0:Int)+1<=1000000;omega⟩,g.2.1,g.2.2⟩;have:=v6 i (a:=a) (b:=b) (n:=a2.mk n.Router (0+1) n.bw n.Claims n.Database) rfl (by show(1:Int)<=0+1;omega);rw[show aA.mk f.Links (a++a2.mk n.Router (0+1) n.bw n.Claims n.Database::b) f.aY=dV f a (a2.mk n.Router (0+1) n.bw n.Claims n.Database) b from rfl,this];simp only[aU,zp];have j:=k2 (n':=a2.mk n.Router (0+1) n.bw n.Claims n.Database) c rfl rfl;unfold hh;rw[j];rfl
structure oF(f:aA)(i:Nat):Prop where
 v:cI f
 l:f.aY=[]
 a:∀(k:Nat) (n:a2),k<i->f.ay[k]?=some n->n.Seq=1/\look n.Database n.Router=some (hH f n)/\∀s a,look n.Database s=some a->a.Seq<=1
 z:∀(k:Nat) (n:a2),i<=k->f.ay[k]?=some n->n.Seq=0/\n.Database=bF.mk []
def oF.hd{i:Nat}(h:oF f i)(hi:f.ay.length<=i)(q:1<=f.ay.length):gM 1 (aN f).aL f:=by
 have key:∀n∈f.ay,n.Seq=1/\look n.Database n.Router=some (hH f n)/\∀s a,look n.Database s=some a->a.Seq<=1:=λn q=>by
  obtain⟨k,u⟩:=List.getElem?_of_mem q;have:=(List.getElem?_eq_some_iff.1 u).1;exact h.a k n (by omega) u
 exact⟨h.v,q,λn q=>⟨by have:=(key n q).1;omega,(key n q).2.1⟩,λn q s a O=>(key n q).2.2 s a O,λm C=>(by rw[h.l]at C;cases C),rfl⟩
def oF.step{n:a2}(h:oF f a.length)(C:f.ay=a++n::b):∃g,lN f n.Router=some (g,0)/\oF g (a.length+1)/\aN g=aN f:=by
 have S:n∈f.ay:=by rw[C];simp
 obtain⟨X,hd⟩:=h.z a.length n (Nat.le_refl _) (by rw[C];simp);refine⟨_,Mz h.v C X,?_,k2 C rfl rfl⟩;have O:=h.v.n n S;have Y:=h.v.x3 C (n:=a2.mk n.Router 1 n.bw n.Claims n.Database) rfl rfl (by show(1:Int)<=1/\(1:Int)<=1000000;decide) O.2.1 O.2.2;have Z:dO (ec (aN f) n.Router 1 n.Claims)=true:=sN h.v S (by omega);have hB:=Al O.2.2 Z (λx u=>by rw[hd]at u;cases u);have ab:=k2 (n':=hh f (a2.mk n.Router 1 n.bw n.Claims n.Database)) C rfl rfl;refine⟨Y,h.l,λk m af q=>?_,λk m af q=>?_⟩
 .have q:(a++hh f (a2.mk n.Router 1 n.bw n.Claims n.Database)::b)[k]?=some m:=q;unfold hH;rw[ab];by_cases Q:k<a.length
  .rw[List.getElem?_append_left Q]at q;exact h.a k m Q (by rw[C,List.getElem?_append_left Q];exact q)
  .have ae:k=a.length:=by omega
   rw[ae,List.getElem?_append_right (Nat.le_refl _)]at q;simp only[Nat.sub_self,List.getElem?_cons_zero]at q;have:=Option.some.inj q;rw[<-this];refine⟨rfl,?_,λs x u=>?_⟩
   .show look (hr n.Database (ec (aN f) n.Router 1 n.Claims)).1 n.Router=_;rw[hB];exact if_pos rfl
   .have u:look (hr n.Database (ec (aN f) n.Router 1 n.Claims)).1 s=some x:=u;rw[hB,hd]at u;split at u
    .rw[<-Option.some.inj u];show(1:Int)<=1;omega
    .cases u
 .have q:(a++hh f (a2.mk n.Router 1 n.bw n.Claims n.Database)::b)[k]?=some m:=q;refine h.z k m (by omega) ?_;obtain⟨j,rfl⟩:∃j,k=a.length+(j+1):=⟨k-a.length-1,by omega⟩;rw[List.getElem?_append_right (by omega)]at q;rw[C,List.getElem?_append_right (by omega)];simpa [Nat.add_sub_cancel_left]using q
structure vA(k:Int)(l:List bZ):Prop where
 g:∀o∈l,(1<=o.Router/\o.Router<=k)/\(0<=o.Claim.cg/\o.Claim.cg<=2)/\gG o.Claim=true
 s:l.Pairwise k0
 n:(l.length:Int)<=3*k
def mo(cl:l5)(r:bk):a2:=a2.mk r.aP 0 r.bw ((cl.filter λa=>decide (a.Router=r.aP)).map (·.Claim)) (bF.mk [])
def ql(g:aK)(cl:l5):aA:=aA.mk g.Links (g.aL.map (mo cl)) []
def DL(g:aK)(cl:l5):aN (ql g cl)=g:=by
 unfold aN ql;simp only[List.map_map];rw[show(λa:a2=>bk.mk a.Router a.bw)∘mo cl=id from rfl,List.map_id]
variable {cl:l5}{k:Int}
def Kh(h:vA k cl)(r:Int):jM ((cl.filter λo=>decide (o.Router=r)).map (·.Claim))=true:=by
 have f:((cl.filter λo=>decide (o.Router=r)).map (·.Claim)).Pairwise λa b=>a.cg<b.cg:=by
  rw[List.pairwise_map,List.pairwise_iff_forall_sublist];intro a b g;have p:=(List.mem_filter.1 (g.subset (show a∈[a,b]by simp))).2;have m:=(List.mem_filter.1 (g.subset (show b∈[a,b]by simp))).2;have:=List.pairwise_iff_forall_sublist.1 h.s (g.trans List.filter_sublist);simp only[decide_eq_true_eq]at p m;rcases this with i|i
  .omega
  .exact i.2
 have e:∀c∈(cl.filter λo=>decide (o.Router=r)).map (·.Claim),(0<=c.cg/\c.cg<=2)/\gG c=true:=λc d=>by
  obtain⟨o,n,rfl⟩:=List.mem_map.1 d;exact(h.g o (List.mem_filter.1 n).1).2
 generalize (cl.filter λo=>decide (o.Router=r)).map (·.Claim)=l at f e;have s:l.length<=3:=by
  have q:(l.map (·.cg)).Nodup:=by
   rw[List.Nodup,List.pairwise_map];exact f.imp λh t=>by omega
  have:=kj q (b:=[0,1,2]) λu j=>by
   obtain⟨c,d,rfl⟩:=List.mem_map.1 j;have:=(e c d).1;simp only[List.mem_cons,List.not_mem_nil,or_false];omega
  simpa using this
 unfold jM;rw[List.all_eq_true.2 λc d=>(e c d).2,show oS l=true from pM (f.imp λh=>by simpa using h)];simp;omega
def CX{g:aK}(f:cU g)(h:vA k cl):oF (ql g cl) 0:=by
 have c:∀a∈(ql g cl).ay,∃b∈g.aL,a=mo cl b:=λa c=>by
  obtain⟨b,i,rfl⟩:=List.mem_map.1 c;exact⟨b,i,rfl⟩
 refine⟨⟨by rw[DL];exact f,by show(0:Nat)<=400;omega,λa e=>?_,λj e=>(by cases e)⟩,rfl,λk a d=>absurd d (Nat.not_lt_zero _),λk a _ d=>?_⟩
 .obtain⟨b,_,rfl⟩:=c a e;exact⟨⟨by show(0:Int)<=0;decide,by show(0:Int)<=1000000;decide⟩,Kh h b.aP,⟨by simp[mo],by simp[mo],by simp[mo]⟩⟩
 .obtain⟨b,_,rfl⟩:=c a (List.mem_of_getElem? d);exact⟨rfl,rfl⟩
end
end Go.Proofs.YteghoodgfjhjkaaGreat
