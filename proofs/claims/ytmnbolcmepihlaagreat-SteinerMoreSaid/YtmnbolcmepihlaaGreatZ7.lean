/- Several texts in one. No condition but those that stand in each. -/
import Derived.Test.YtmnbolcmepihlaaGreatZ4
namespace Go.Proofs.YtmnbolcmepihlaaGreat
section
set_option linter.all false
open Go List
section
variable {α β:Type}
def eu(a:α)(k:α→Option β):aW (some a) k=k a:=rfl
variable {k:Option β}
def ahi{c:Bool}(h:c=true):jB c k=k:=by subst h;rfl
def x0{p:Prop}[Decidable p]{x y:α}:(bif decide p then x else y)=if p then x else y:=by
 by_cases h:p<;>simp[h]
def OF{α σ β:Type}{B:Int→α→(σ→Option β)→σ→Option β}{K:σ→Option β}(f:List α→σ→Option β)(aR:∀s,K s=f [] s)
  (af:∀(j:Int) x r s b7,(∀cO,b7 cO=f r cO)→B j x b7 s=f (x::r) s):∀(l:List α) (j:Nat) (s:σ),ez l j B K s=f l s
 |[],_,s=>aR s
 |x::r,j,s=>af j x r s _ λcO=>OF f aR af r (j+1) cO
def Ok{β:Type}(o:Option β)(bq:β→Prop):Prop:=∃r,o=some r∧bq r
variable {bq:β→Prop}
def Ok.s{r:β}(h:bq r):Ok (some r) bq:=⟨r,rfl,h⟩
def Ok.aW{α β:Type}{o:Option α}{k:α→Option β}{P:α→Prop}{bq:β→Prop}(h:Ok o P)(hk:∀a,P a→Ok (k a) bq):Ok (aW o k) bq:=by
 obtain⟨a,rfl,ay⟩:=h;exact hk a ay
def Ok.cs{c:Bool}{x y:Option β}(h1:c=true→Ok x bq)(D:c=false→Ok y bq):Ok (bif c then x else y) bq:=by
 cases c
 ·exact D rfl
 ·exact h1 rfl
def asP{c:Bool}(h:c=true)(hk:Ok k bq):Ok (jB c k) bq:=by subst h;exact hk
variable {σ:Type}
def asQ{k:σ→Option β}{t:(σ→Option β)→Option β}(R:σ→Prop)(h1:∀s,R s→Ok (k s) bq)(D:∀J,(∀s,R s→Ok (J s) bq)→Ok (t J) bq):Ok (jn k t) bq:=D k h1
variable {o:Option β}
def Ok.mono{C0:β→Prop}(h:Ok o bq)(bV:∀r,bq r→C0 r):Ok o C0:=by
 obtain⟨r,h1,D⟩:=h;exact⟨r,h1,bV r D⟩
def Ok.ez{α σ β:Type}{B:Int→α→(σ→Option β)→σ→Option β}{K:σ→Option β}{bq:β→Prop}(I:Nat→σ→Prop)
  (af:∀(j:Nat) x s b7,I j s→(∀cO,I (j+1) cO→Ok (b7 cO) bq)→Ok (B (j:Int) x b7 s) bq):∀(l:List α) (j:Nat) (s:σ),I j s→(∀s,I (j+l.length) s→Ok (K s) bq)→Ok (ez l j B K s) bq
 |[],j,s,h,aR=>aR s (by simpa using h)
 |x::r,j,s,h,aR=>af j x s _ h λcO b3=>Ok.ez I af r (j+1) cO b3 λs X=>aR s (by rwa [length_cons,←Nat.add_assoc,Nat.add_right_comm])
def as0{σ β:Type}{B:Int→(σ→Option β)→σ→Option β}{K:Int→σ→Option β}{bq:β→Prop}(I:Int→σ→Prop)(lo hi:Int)
  (af:∀(i:Int) s b7,lo≤i→i<hi→I i s→(∀cO,I (i+1) cO→Ok (b7 cO) bq)→Ok (B i b7 s) bq) (aR:∀i s,lo≤i→(lo≤hi→i=hi)→I i s→Ok (K i s) bq):∀(n:Nat) (i:Int) (s:σ),n=(hi-i).toNat→lo≤i→(lo≤hi→i≤hi)→I i s→Ok (ng n i B K s) bq
 |0,i,s,GV,h1,D,h=>aR i s h1 (λcA=>by have:=D cA;omega) h
 |n+1,i,s,GV,h1,D,h=>af i s _ h1 (by omega) h λcO b3=>as0 I lo hi af aR n (i+1) cO (by omega) (by omega) (λ_=>by omega) b3
def Ok.iter{σ β:Type}{F:(σ→Option β)→σ→Option β}{bq:β→Prop}(I:σ→Prop)(μ:σ→Nat)
  (af:∀s b7,I s→(∀cO,I cO→μ cO<μ s→Ok (b7 cO) bq)→Ok (F b7 s) bq):∀(n:Nat) (s:σ),I s→μ s<n→Ok (iter F n s) bq
 |0,s,_,h=>by omega
 |n+1,s,h,hm=>af s _ h λcO b3 lC=>Ok.iter I μ af n cO b3 (by omega)
def asW{F:(σ→Option β)→σ→Option β}(I:σ→Prop)(μ:σ→Nat){s:σ}(h:I s)(hm:μ s<1099511627776)
  (af:∀s b7,I s→(∀cO,I cO→μ cO<μ s→Ok (b7 cO) bq)→Ok (F b7 s) bq):Ok (jL F s) bq:=Ok.iter I μ af fuel s h hm
def Ok.get(h:Ok o bq):∃r,o=some r∧bq r:=h
def atb{r:β}(h:Ok o (λx=>x=r)):o=some r:=by obtain⟨x,h1,rfl⟩:=h;exact h1
def aeV(p:List α)(x:α)(r:List α):di (p++x::r) (p.length:Int)=some x:=by
 unfold di;rw[if_pos (by omega)];simp
variable {i:Int}{l:List α}
def qT(bM:0≤i)(h:i<l.length):Ok (di l i) (λx=>x∈l∧l[i.toNat]?=some x):=by
 unfold di;rw[if_pos bM]
 have:i.toNat<l.length:=by omega
 exact⟨l[i.toNat],List.getElem?_eq_getElem this,List.getElem_mem this,List.getElem?_eq_getElem this⟩
variable {r:List α}
def v8(h:l.length+r.length≤549755813888):jR l r=some (l++r):=by unfold jR;rw[if_pos (by unfold aO;exact h)]
def Jh(h:l.length+r.length≤549755813888):Ok (jR l r) (λm=>m=l++r∧m.length=l.length+r.length):=⟨_,v8 h,rfl,by simp⟩
def JL{x:α}(bM:0≤i)(h:i<l.length):Ok (lJ l i x) (λm=>m=l.set i.toNat x∧m.length=l.length):=by
 unfold lJ;rw[if_pos ⟨bM,h⟩];exact⟨_,rfl,rfl,by simp⟩
def Ji{a b:Int}(h:0≤a∧a≤b∧b≤l.length):Ok (ug l a b) (λm=>m=(l.take b.toNat).drop a.toNat∧(m.length:Int)=b-a):=by
 unfold ug;rw[if_pos h];exact⟨_,rfl,rfl,by simp;omega⟩
def zK{B:Int→α→(σ→Option β)→σ→Option β}{K:σ→Option β}(p:α→Bool)(a:Option β)(dc:∀j x b7 s,B j x b7 s=bif p x then a else b7 s)(l:List α)(j:Nat)(s:σ):ez l j B K s=bif l.any p then a else K s:=
 OF (f:=λl s=>bif l.any p then a else K s) (λs=>rfl) (λj x r s b7 jr=>by
  rw[dc,jr,any_cons];cases p x<;>rfl) l j s
end
section
def wq(n:Int):Bool:=decide (1≤n)&&decide (n≤1000)
def jH(t:bA)(r:Int):Bool:=t.bC.any λx=>decide (x.cu=r)
def yo(r:dQ):Bool:=decide (r.cu<1)||decide (99<r.cu)
def qx(l:dR):Bool:=!wq l.kP||!wq l.kQ||decide (l.sH<0)||decide (1000<l.sH)
def mq(a b:dR):Bool:=decide (a.A<b.A)||(decide (a.A=b.A)&&decide (a.B<b.B))
def nh{α:Type}(p:α→α→Bool):List α→Bool
 |a::b::r=>p a b&&nh p (b::r)
 |_=>true
def Em(t:bA):Bool:=t.bC.any yo
def u5(t:bA):Bool:=nh (λa b=>decide (a.cu<b.cu)) t.bC
def En(t:bA):Bool:=t.Links.any qx
def Eo(t:bA):Bool:=t.Links.any λl=>!jH t l.A||!jH t l.B
def Ep(t:bA):Bool:=t.Links.any λl=>decide (l.B≤l.A)
def Er(t:bA):Bool:=nh mq t.Links
def oj(t:bA):Int:=
 bif decide (24<(t.bC.length:Int))||decide (60<(t.Links.length:Int))then 3
 else bif Em t then 2 else bif u5 t then(bif En t then 2 else bif Eo t then 4 else bif Ep t then 8 else bif Er t then 0 else 25)else 25
def NY{α σ β:Type}{B:Int→α→(σ→Option β)→σ→Option β}{K:σ→Option β}{L:List α}(p:α→α→Bool)(a:Option β)
  (dc:∀(j:Nat) x y r q s b7,L=q++y::x::r→j=q.length+1→B (j:Int) x b7 s=bif p y x then b7 s else a):∀(r q:List α) (y:α) (s:σ),L=q++y::r→ez r (q.length+1) B K s=bif nh p (y::r)then K s else a
 |[],q,y,s,h=>rfl
 |x::r,q,y,s,h=>by
  simp only[ez];rw[dc (q.length+1) x y r q s _ h rfl];have:=NY (B:=B) (K:=K) p a dc r (q++[y]) x s (by simpa using h);simp only[length_append,length_cons,length_nil]at this;rw[this];simp only[nh];cases p y x<;>rfl
variable {α β σ:Type}{L:List α}{B:Int→α→(σ→Option β)→σ→Option β}{K:σ→Option β}
def NG(p:α→α→Bool)(a:Option β)
  (dc:∀(j:Nat) x y r q s b7,L=q++y::x::r→j=q.length+1→B (j:Int) x b7 s=bif p y x then b7 s else a) (s:σ):ez (L.drop 1) 1 B K s=bif nh p L then K s else a:=by
 cases L with
 |nil=>rfl
 |cons y r=>exact NY (B:=B) (K:=K) p a dc r [] y s rfl
def Pm(p:α→α→Bool)(a:Option β)(bM:∀x b7 s,B ((0:Nat):Int) x b7 s=b7 s)
  (dc:∀(j:Nat) x y r q s b7,L=q++y::x::r→j=q.length+1→B (j:Int) x b7 s=bif p y x then b7 s else a) (s:σ):ez L 0 B K s=bif nh p L then K s else a:=by
 cases L with
 |nil=>rfl
 |cons y r=>
  simp only[ez];rw[bM];exact NY (B:=B) (K:=K) p a dc r [] y s rfl
variable {j:Nat}
def EX{y x:α}{r q:List α}(h:L=q++y::x::r)(aT:j=q.length+1)(mh:(L.length:Int)≤9223372036854775807):di L (aF ((j:Int)-1))=some y:=by
 have aH:q.length+2≤L.length:=by rw[h];simp
 rw[iU (by omega) (by omega),show(j:Int)-1=(q.length:Int)by omega,h,aeV]
def aac(n:Int):Ey n=some (wq n):=rfl
def Ra(t:bA)(r:Int):zv t r=some (jH t r):=by
 unfold zv;refine(zK (λx:dQ=>decide (x.cu=r)) (some true) ?_ _ _ _).trans ?_
 ·intros;rfl
 ·unfold jH;cases t.bC.any _<;>rfl
def YG(t:bA):Eu t=some (oj t):=by
 unfold Eu oj;by_cases eA:(decide (24<(t.bC.length:Int))||decide (60<(t.Links.length:Int)))=true
 ·rw[eA];rfl
 rw[Bool.not_eq_true]at eA;rw[eA];simp only[cond_false];simp only[Bool.or_eq_false_iff,decide_eq_false_iff_not]at eA;refine(zK yo (some 2) ?_ _ _ _).trans ?_
 ·intros;rfl
 unfold Em;cases t.bC.any yo
 case true=>rfl
 simp only[cond_false];refine(NG (λa b:dQ=>decide (a.cu<b.cu)) (some 25) ?_ _).trans ?_
 ·intro j x y r q s b7 h aT;simp only[EX h aT (by omega),eu,x0];split<;>split<;>first|rfl|omega
 unfold u5;cases nh _ t.bC
 case false=>rfl
 simp only[cond_true];refine(zK qx (some 2) ?_ _ _ _).trans ?_
 ·intro j x b7 s;simp only[jn,aac,eu,qx];cases wq x.kP<;>cases wq x.kQ<;>simp[x0]<;>(try split)<;>(try split)<;>simp_all<;>omega
 unfold En;cases t.Links.any qx
 case true=>rfl
 simp only[cond_false];refine(zK (λl=>!jH t l.A||!jH t l.B) (some 4) ?_ _ _ _).trans ?_
 ·intro j x b7 s;simp only[jn,Ra,eu];cases jH t x.A<;>cases jH t x.B<;>rfl
 unfold Eo;cases t.Links.any _
 case true=>rfl
 simp only[cond_false];refine(zK (λl=>decide (l.B≤l.A)) (some 8) ?_ _ _ _).trans ?_
 ·intros;rfl
 unfold Ep;cases t.Links.any _
 case true=>rfl
 simp only[cond_false];refine(NG mq (some 25) ?_ _).trans ?_
 ·intro j x y r q s b7 h aT;have e:(decide (x.A<y.A)||(decide (y.A=x.A)&&decide (x.B≤y.B)))=!mq y x:=by
   rw[Bool.eq_iff_iff];simp[mq];omega
  simp only[EX h aT (by omega),eu];rw[e];cases mq y x<;>rfl
 unfold Er;cases nh mq t.Links<;>rfl
def EY{α σ:Type}{B:Int→α→(σ→jo)→σ→jo}{K:σ→jo}(p:α→Bool)(dc:∀j x b7 s,B j x b7 s=bif p x then some j else b7 s)(h8:∀s,K s=some (-1)):∀(l:List α) (j:Nat) (s:σ),∃r,ez l j B K s=some r∧decide (0≤r)=l.any p
 |[],j,s=>⟨-1,h8 s,rfl⟩
 |x::r,j,s=>by
  simp only[ez,dc,any_cons];cases p x
  ·simpa using EY p dc h8 r (j+1) s
  ·exact⟨j,rfl,by simp⟩
def aix(l:Ax)(f:dQ→lz)(p:dQ→Bool)(bm:∀x,f x=some (p x)):DB l f=some (l.any p):=by
 unfold DB Gs;obtain⟨r,h1,D⟩:=EY (B:=λ(bk:Int) (aJ:dQ) (c1:Unit→jo) (av:Unit)=>match av with|()=>aW (f aJ) λ(aG:Bool)=>bif aG then some (bk:Int)else c1 ()) (K:=λ(av:Unit)=>match av with|()=>some (-1:Int)) p (λj x b7 s=>by simp only[bm,eu]) (λ_=>rfl) l 0 ();simp only[h1,eu,D]
def K7(l:Aw)(f:dR→lz)(p:dR→Bool)(bm:∀x,f x=some (p x)):yA l f=some (l.any p):=by
 unfold yA Gw;obtain⟨r,h1,D⟩:=EY (B:=λ(bk:Int) (aJ:dR) (c1:Unit→jo) (av:Unit)=>match av with|()=>aW (f aJ) λ(aG:Bool)=>bif aG then some (bk:Int)else c1 ()) (K:=λ(av:Unit)=>match av with|()=>some (-1:Int)) p (λj x b7 s=>by simp only[bm,eu]) (λ_=>rfl) l 0 ();simp only[h1,eu,D]
def m7(x y:Int):Int:=if x<y then -1 else if y<x then 1 else 0
def Rb(x y:Int):p8 x y=some (m7 x y):=by
 unfold p8 Bf m7;simp only[eu,decide_true,Bool.not_true,cond_false,x0];split<;>(try split)<;>rfl
variable {x:Int}
def Rc{y:Int}:m7 x y<0↔x<y:=by unfold m7;split<;>(try split)<;>omega
def I2{y:Int}:m7 x y=0↔x=y:=by unfold m7;split<;>(try split)<;>omega
def BR:cq→Int
 |[]=>0
 |x::r=>if x=0 then BR r else x
def aeW(l:cq):vO l=some (BR l):=by
 unfold vO;refine(OF (f:=λl _=>some (BR l)) ?_ ?_ _ _ _)
 ·intros;rfl
 ·intro j x r s b7 jr;simp only[BR,jr];by_cases h:x=0<;>simp[h]
def C7(a b:dR):Int:=BR [m7 a.A b.A,m7 a.B b.B]
def X3(a b:dR):Ef a b=some (C7 a b):=by
 unfold Ef;simp only[Rb,eu,aeW];rfl
def PX(r:dQ)(id:Int):Bg r id=some (m7 r.cu id):=by
 unfold Bg;simp only[Rb,eu]
def Re{a b:dR}:C7 a b<0↔mq a b=true:=by
 have:C7 a b<0↔a.A<b.A∨(a.A=b.A∧a.B<b.B):=by
  simp only[C7,BR];split
  ·rename_i h;rw[I2]at h;split
   ·rename_i D;rw[I2]at D;omega
   ·rw[Rc];omega
  ·rename_i h;rw[I2]at h;rw[Rc];omega
 rw[this];simp[mq]
def p5{α:Type}[Inhabited α](f:α→Int)(l:List α)(i j:Nat):Nat:=
 if h:i<j then if f (el l ((i+j) / 2:Nat))<0 then p5 f l ((i+j) / 2+1) j else p5 f l i ((i+j) / 2)else i
 termination_by j-i
 decreasing_by all_goals omega
def qI{α:Type}[Inhabited α](f:α→Int)(l:List α):Nat:=p5 f l 0 l.length
def uD{α:Type}[Inhabited α](f:α→Int)(l:List α):Bool:=decide (qI f l<l.length)&&decide (f (el l (qI f l))=0)
variable {f:α→Int}{i:Nat}{l:List α}
def RH[Inhabited α](h:i<j)(bm:f (el l ((i+j) / 2:Nat))<0):p5 f l i j=p5 f l ((i+j) / 2+1) j:=by
 rw[p5,dif_pos h,if_pos bm]
def RI[Inhabited α](h:i<j)(bm:¬f (el l ((i+j) / 2:Nat))<0):p5 f l i j=p5 f l i ((i+j) / 2):=by
 rw[p5,dif_pos h,if_neg bm]
def OH[Inhabited α](h:j≤i):p5 f l i j=i:=by
 rw[p5,dif_neg (by omega)]
def Ff[Inhabited α](h:i<l.length):el l i=l[i]:=by
 simp[el,getD_eq_getElem?_getD,h]
def aeX[Inhabited α](h:i<l.length):el l i∈l:=by
 rw[Ff h];exact List.getElem_mem h
def JM[Inhabited α](h:i<l.length):di l (i:Int)=some (el l i):=by
 unfold di;rw[if_pos (by omega),Ff h];simp[h]
def abY(h:i+j≤4611686018427387904):aF (Int.fdiv (IntKind.wrap .u64 (aF ((i:Int)+(j:Int)))) (2 ^ min (1:Int).toNat 64))=(((i+j) / 2:Nat):Int):=by
 have aJ:aF ((i:Int)+(j:Int))=((i+j:Nat):Int):=by rw[iU (by omega) (by omega)];simp
 have e2:IntKind.wrap .u64 ((i+j:Nat):Int)=((i+j:Nat):Int):=aaT (by omega) (by omega);rw[aJ,e2];have dm:(2:Int) ^ min (1:Int).toNat 64=2:=rfl;rw[dm,Int.fdiv_eq_ediv_of_nonneg _ (by omega)];rw[iU (by omega) (by omega)];simp
def abo[Inhabited α]{F:((Int×Int)→Option (Int×Bool))→(Int×Int)→Option (Int×Bool)}(l:List α)(f:α→Int)(aH:l.length≤1000000)
  (k0:∀(i j:Nat) b7,j≤l.length→F b7 ((i:Int),(j:Int))=if h:i<j then(if f (el l ((i+j) / 2:Nat))<0 then b7 ((((i+j) / 2+1:Nat):Int),(j:Int))else b7 ((i:Int),(((i+j) / 2:Nat):Int)))else some ((i:Int),decide (i<l.length)&&decide (f (el l i)=0))) :
  jL F ((0:Int),(l.length:Int))=some ((qI f l:Int),uD f l):=by
 refine atb (asW (I:=λs=>∃i j:Nat,s=((i:Int),(j:Int))∧i≤j∧j≤l.length∧p5 f l i j=qI f l) (μ:=λs=>(s.2-s.1).toNat) ⟨0,l.length,rfl,by omega,by omega,rfl⟩ ?_ ?_)
 ·show((l.length:Int)-0).toNat<_;omega
 ·rintro s b7 ⟨i,j,rfl,h1,D,aj⟩ hz;rw[k0 i j b7 D];split
  ·rename_i iX;split
   ·rename_i bm;exact hz _ ⟨_,_,rfl,by omega,D,by rw[←aj,RH iX bm]⟩ (by show((j:Int)-_).toNat<((j:Int)-i).toNat;omega)
   ·rename_i bm;exact hz _ ⟨_,_,rfl,by omega,by omega,by rw[←aj,RI iX bm]⟩ (by show((((i+j) / 2:Nat):Int)-i).toNat<((j:Int)-i).toNat;omega)
  ·rename_i iX;have:qI f l=i:=by rw[←aj,OH (by omega)]
   exact⟨_,rfl,by simp only[uD,this]⟩
def T7(l:Ax)(x:Int)(c:dQ→Int→jo)(f:dQ→Int)(aH:l.length≤1000000)(af:∀r,c r x=some (f r)):AE l x c=some ((qI f l:Int),uD f l):=by
 unfold AE;refine abo l f aH λi j b7 aT=>?_;by_cases iX:i<j
 ·rw[dif_pos iX];simp only[abY (i:=i) (j:=j) (by omega),JM (show(i+j) / 2<l.length by omega),eu,af,x0];rw[if_pos (by omega),iU (by omega) (by omega)];rfl
 ·rw[dif_neg iX];simp only[x0];rw[if_neg (by omega)];by_cases hi:i<l.length
  ·rw[if_pos (by omega),JM hi];simp only[eu,af];simp[hi]
  ·rw[if_neg (by omega)];simp[hi]
def aad[Inhabited α](hm:∀a b:Nat,a≤b→b<l.length→f (el l a)≤f (el l b)):∀(n i j:Nat),j-i≤n→i≤j→j≤l.length→(∀m:Nat,m<i→f (el l m)<0)→(∀m:Nat,j≤m→m<l.length→0≤f (el l m))→
  p5 f l i j≤l.length∧(∀m:Nat,m<p5 f l i j→f (el l m)<0)∧(∀m:Nat,p5 f l i j≤m→m<l.length→0≤f (el l m)):=by
 intro n;induction n with
 |zero=>
  intro i j aR iX aT h1 D;rw[OH (by omega)];exact⟨by omega,h1,λm lC=>D m (by omega)⟩
 |succ n bg=>
  intro i j aR iX aT h1 D;by_cases h:i<j
  ·by_cases bm:f (el l ((i+j) / 2:Nat))<0
   ·rw[RH h bm];refine bg _ _ (by omega) (by omega) aT (λm lC=>?_) D;have:=hm m ((i+j) / 2) (by omega) (by omega);omega
   ·rw[RI h bm];refine bg _ _ (by omega) (by omega) (by omega) h1 (λm lC y7=>?_);have:=hm ((i+j) / 2) m lC y7;omega
  ·rw[OH (by omega)];exact⟨by omega,h1,λm lC=>D m (by omega)⟩
def aae[Inhabited α](hm:∀a b:Nat,a≤b→b<l.length→f (el l a)≤f (el l b)):
  qI f l≤l.length∧(∀m:Nat,m<qI f l→f (el l m)<0)∧(∀m:Nat,qI f l≤m→m<l.length→0≤f (el l m)):=
 aad hm l.length 0 l.length (by omega) (by omega) (by omega) (λm h=>by omega) (λm h1 D=>by omega)
def abp[Inhabited α](hm:∀a b:Nat,a≤b→b<l.length→f (el l a)≤f (el l b)):uD f l=true↔∃x∈l,f x=0:=by
 obtain⟨h1,D,aj⟩:=aae hm;simp only[uD,Bool.and_eq_true,decide_eq_true_eq];constructor
 ·rintro⟨ak,ar⟩;exact⟨_,aeX ak,ar⟩
 ·rintro⟨x,u,bm⟩;obtain⟨m,uS,rfl⟩:=List.getElem_of_mem u;rw[←Ff uS]at bm;have hle:qI f l≤m:=by
   by_cases q:m<qI f l
   ·have:=D m q;omega
   ·omega
  have bL:qI f l<l.length:=by omega
  have:=aj _ (Nat.le_refl _) bL;have:=hm _ _ hle uS;exact⟨bL,by omega⟩
def an8[Inhabited α](h:l.Pairwise (λa b=>f a≤f b)):∀a b:Nat,a≤b→b<l.length→f (el l a)≤f (el l b):=by
 intro a b hW U;rcases Nat.lt_or_eq_of_le hW with hW|rfl
 ·have:=pairwise_iff_getElem.1 h a b (by omega) U hW
  rwa [Ff (by omega),Ff U]
 ·exact Int.le_refl _
def HS{α:Type}{p:α→α→Bool}(bE:∀a b c,p a b=true→p b c=true→p a c=true):∀{l:List α},nh p l=true→l.Pairwise (λa b=>p a b=true)
 |[],_=>Pairwise.nil
 |[x],_=>by simp
 |a::b::r,h=>by
  simp only[nh,Bool.and_eq_true]at h;have bg:=HS bE h.2;rw[pairwise_cons];refine⟨λz hz=>?_,bg⟩;rcases mem_cons.1 hz with rfl|hz
  ·exact h.1
  ·exact bE _ _ _ h.1 ((pairwise_cons.1 bg).1 z hz)
def Bq{α:Type}{p:α→α→Bool}:∀{l:List α},l.Pairwise (λa b=>p a b=true)→nh p l=true
 |[],_=>rfl
 |[x],_=>rfl
 |a::b::r,h=>by
  rw[pairwise_cons]at h;simp only[nh,Bool.and_eq_true];exact⟨h.1 b (by simp),Bq h.2⟩
variable {t:bA}
def RJ(h:u5 t=true):t.bC.Pairwise (λa b=>a.cu<b.cu):=by
 have:=HS (p:=λa b:dQ=>decide (a.cu<b.cu)) (λa b c h1 D=>by simp at h1 D ⊢;omega) h;exact this.imp (λh=>by simpa using h)
def abq(h:u5 t=true)(id:Int):∀a b:Nat,a≤b→b<t.bC.length→m7 (el t.bC a).cu id≤m7 (el t.bC b).cu id:=
 an8 (f:=λr:dQ=>m7 r.cu id) ((RJ h).imp (λ{a b} h=>by unfold m7;split<;>(try split)<;>(try split)<;>(try split)<;>omega))
def KN(t:bA)(id:Int):Bool:=!uD (λr=>m7 r.cu id) t.bC
def Rf(h:u5 t=true)(id:Int):KN t id=!jH t id:=by
 simp only[KN,jH];congr 1;rw[Bool.eq_iff_iff,abp (abq h id)];simp[I2]
def NH(t:bA):yK t=some (oj t):=by
 unfold yK oj;by_cases eA:(decide (24<(t.bC.length:Int))||decide (60<(t.Links.length:Int)))=true
 ·rw[eA];rfl
 rw[Bool.not_eq_true]at eA;rw[eA];simp only[cond_false];simp only[Bool.or_eq_false_iff,decide_eq_false_iff_not]at eA;rw[aix t.bC _ yo (λx=>by simp only[Ho,xe,eu,yo];congr 1;rw[Bool.eq_iff_iff];simp)];simp only[eu];unfold Em;cases t.bC.any yo
 case true=>rfl
 simp only[cond_false];refine(Pm (λa b:dQ=>decide (a.cu<b.cu)) (some 25) ?_ ?_ _).trans ?_
 ·intros;rfl
 ·intro j x y r q s b7 h aT;simp only[jn,EX h aT (by omega),eu,x0];rw[if_pos (by omega)];split<;>split<;>first|rfl|omega
 cases dc:u5 t
 case false=>unfold u5 at dc;rw[dc];rfl
 have UP:=dc;unfold u5 at UP;rw[UP];simp only[cond_true]
 rw[K7 t.Links D9 qx (λx=>by
  simp only[D9,xe,eu,qx,wq];simp only[x0,Bool.not_and,Bool.cond_eq_ite,Bool.or_eq_true,Bool.not_eq_true',decide_eq_false_iff_not];split
  ·congr 1;symm;rw[Bool.eq_iff_iff];simp;omega
  ·split
   ·congr 1;symm;rw[Bool.eq_iff_iff];simp;omega
   ·congr 1;rw[Bool.eq_iff_iff];simp;omega)]
 simp only[eu];unfold En;cases t.Links.any qx
 case true=>rfl
 simp only[cond_false]
 have hu:∀id,AV id t=some (!jH t id):=λid=>by
  unfold AV;rw[T7 t.bC id _ (λr=>m7 r.cu id) (by omega) (λr=>PX r id)];simp only[eu];rw[←Rf dc];rfl
 rw[K7 t.Links _ (λl=>!jH t l.A||!jH t l.B) (λx=>by
  simp only[Hp,hu,eu];cases jH t x.A<;>rfl)]
 simp only[eu];unfold Eo;cases t.Links.any _
 case true=>rfl
 simp only[cond_false];rw[K7 t.Links Hq (λl=>decide (l.B≤l.A)) (λx=>rfl)];simp only[eu];unfold Ep;cases t.Links.any _
 case true=>rfl
 simp only[cond_false];refine(Pm mq (some 25) ?_ ?_ _).trans ?_
 ·intros;rfl
 ·intro j x y r q s b7 h aT;simp only[jn,EX h aT (by omega),eu,X3,x0];rw[if_pos (by omega)];cases bL:mq y x
  ·have:¬C7 y x<0:=by rw[Re,bL];simp
   rw[if_pos (by omega)];rfl
  ·have:=Re.2 bL;rw[if_neg (by omega)];rfl
 unfold Er;cases nh mq t.Links<;>rfl
end
section
variable {α:Type}{l:List α}
def abr[DecidableEq α]{v:α}:l.any (λx=>decide (x=v))=decide (v∈l):=by
 rw[Bool.eq_iff_iff];simp
def OI(l:cq)(n:Int):w9 l n=some (decide (n∈l)):=by
 unfold w9 Gz;obtain⟨r,h1,D⟩:=EY (B:=λ(bk:Int) (aJ:Int) (c1:Unit→jo) (av:Unit)=>match av with|()=>bif decide (n=aJ)then some (bk:Int)else c1 ()) (K:=λ(av:Unit)=>match av with|()=>some (-1:Int)) (λx=>decide (n=x)) (λj x b7 s=>rfl) (λ_=>rfl) l 0 ();simp only[h1,eu,D];congr 1;rw[Bool.eq_iff_iff];simp
def qL(a b:b6):i0 a b=true↔a=b:=by
 cases a;cases b;simp[i0]
structure fH(t:bA):Prop where
 vg:t.bC.length≤24
 nl:t.Links.length≤60
 Hf:∀r∈t.bC,1≤r.cu∧r.cu≤99
 nQ:t.bC.Pairwise (λa b=>a.cu<b.cu)
 HX:∀l∈t.Links,qx l=false
 ends:∀l∈t.Links,jH t l.A=true∧jH t l.B=true
 lt:∀l∈t.Links,l.A<l.B
 Gh:t.Links.Pairwise (λa b=>mq a b=true)
def YH(a b c:dR)(h1:mq a b=true)(D:mq b c=true):mq a c=true:=by
 simp[mq]at *;omega
def vB{p:α→Bool}:l.any p=false↔∀x∈l,p x=false:=by
 rw[List.any_eq_false];simp
variable {t:bA}
def wk:oj t=0↔fH t:=by
 unfold oj;constructor
 ·intro h;by_cases h1:(decide (24<(t.bC.length:Int))||decide (60<(t.Links.length:Int)))=true
  ·rw[h1]at h;cases h
  simp only[Bool.not_eq_true]at h1;rw[h1,cond_false]at h;cases D:Em t<;>rw[D]at h<;>first|cases h;done|skip
  cases aj:u5 t<;>rw[aj]at h<;>first|cases h;done|skip
  cases a1:En t<;>rw[a1]at h<;>first|cases h;done|skip
  cases bU:Eo t<;>rw[bU]at h<;>first|cases h;done|skip
  cases dP:Ep t<;>rw[dP]at h<;>first|cases h;done|skip
  cases fz:Er t<;>rw[fz]at h<;>first|cases h;done|skip
  simp only[Bool.or_eq_false_iff,decide_eq_false_iff_not]at h1;refine⟨by omega,by omega,λr aB=>?_,RJ aj,vB.1 a1,λl aH=>?_,λl aH=>?_,HS YH fz⟩
  ·have:=vB.1 D r aB;simp[yo]at this;omega
  ·have:=vB.1 bU l aH;simpa using this
  ·have:=vB.1 dP l aH;simpa using this
 ·intro h;have h1:(decide (24<(t.bC.length:Int))||decide (60<(t.Links.length:Int)))=false:=by
   have:=h.vg;have:=h.nl;simp;omega
  have D:Em t=false:=vB.2 λr aB=>by have:=h.Hf r aB;simp[yo];omega
  have aj:u5 t=true:=Bq (h.nQ.imp λh=>by simpa using h);have a1:En t=false:=vB.2 h.HX;have bU:Eo t=false:=vB.2 λl aH=>by have:=h.ends l aH;simp[this]
  have dP:Ep t=false:=vB.2 λl aH=>by have:=h.lt l aH;simp;omega
  have fz:Er t=true:=Bq h.Gh;rw[h1,D,aj,a1,bU,dP,fz];rfl
def YI(t:bA):Ej t=some (decide (oj t=0)):=by
 unfold Ej;rw[NH];rfl
variable {r:Int}
def EZ:jH t r=true↔∃x∈t.bC,x.cu=r:=by simp[jH]
def Rg(t:bA)(r:Int):xE t r=some (decide (oj t=0)&&jH t r):=by
 unfold xE;simp only[YG,Ra,eu];cases decide (oj t=0)<;>rfl
def Kt(t:bA)(r:Int):dQ×Bool:=if uD (λx:dQ=>m7 x.cu r) t.bC then(el t.bC (qI (λx:dQ=>m7 x.cu r) t.bC),true)else(dQ.mk 0 false,false)
def aaf(t:bA)(r:Int)(aH:t.bC.length≤1000000):Eg t r=some (Kt t r):=by
 unfold Eg Kt;rw[T7 t.bC r _ (λx=>m7 x.cu r) aH (λx=>PX x r)];simp only[eu];cases h:uD (λx:dQ=>m7 x.cu r) t.bC
 ·rfl
 ·have D:qI (λx:dQ=>m7 x.cu r) t.bC<t.bC.length:=by
   simp only[uD,Bool.and_eq_true,decide_eq_true_eq]at h;exact h.1
  simp only[Bool.not_true,cond_false,JM D,eu,if_true]
def abt(h:fH t)(r:Int):uD (λx:dQ=>m7 x.cu r) t.bC=jH t r:=by
 have:=Rf (t:=t) (Bq (h.nQ.imp λh=>by simpa using h)) r;simpa [KN]using this
def Rh(t:bA)(r:Int)(aH:t.bC.length≤1000000):Bl t r=some (decide (oj t=0)&&jH t r):=by
 unfold Bl;simp only[aaf t r aH,YI,eu];by_cases h:oj t=0
 ·simp only[h,decide_true,cond_true,Bool.true_and,Kt,abt (wk.1 h)];cases jH t r<;>rfl
 ·simp[h]
def aeY(h:fH t){a b:dR}(ay:a∈t.Links)(U:b∈t.Links)(eo:a.A=b.A)(dc:a.B=b.B):a=b:=by
 obtain⟨i,hi,rfl⟩:=List.getElem_of_mem ay;obtain⟨j,aT,rfl⟩:=List.getElem_of_mem U;have:=pairwise_iff_getElem.1 h.Gh;rcases Nat.lt_trichotomy i j with q|q|q
 ·have:=this i j hi aT q;simp[mq]at this;omega
 ·subst q;rfl
 ·have:=this j i aT hi q;simp[mq]at this;omega
def lU(l:dR)(a b:Int):Bool:=(decide (l.A=a)&&decide (l.B=b))||(decide (l.B=a)&&decide (l.A=b))
def qn(a b:Int)(l:dR):Int×Bool:=(bif decide (l.A=a)&&decide (l.B=b)then l.kP else l.kQ,true)
def zR(t:bA)(a b:Int):Int×Bool:=match t.Links.find? (λl=>lU l a b)with|some l=>qn a b l|none=>(0,false)
def uo(t:bA)(a b:Int):Bool:=t.Links.any λl=>lU l a b
variable {a b:Int}
def rP(h:fH t){l:dR}(hm:l∈t.Links)(he:lU l a b=true):zR t a b=qn a b l:=by
 unfold zR;cases bm:t.Links.find? (λl=>lU l a b)with
 |none=>exact absurd he (List.find?_eq_none.1 bm l hm)
 |some x=>
  have u:=List.mem_of_find?_eq_some bm;have aC:=List.find?_some bm;have h1:=h.lt _ hm;have D:=h.lt _ u;simp[lU]at he aC;rw[aeY h u hm (by omega) (by omega)]
def ids(t:bA):cq:=t.bC.map (·.cu)
def JN(h:fH t):(ids t).Pairwise (·<·):=pairwise_map.2 h.nQ
def uc:r∈ids t↔jH t r=true:=by rw[EZ];simp[ids]
def rQ:uo t a b=true↔∃l∈t.Links,(l.A=a∧l.B=b)∨(l.B=a∧l.A=b):=by
 simp[uo,lU]
def PY(h:uo t a b=true):uo t b a=true:=by
 rw[rQ]at h ⊢;obtain⟨l,aH,h⟩:=h;exact⟨l,aH,by omega⟩
def I3(aa:fH t)(h:uo t a b=true):b∈ids t:=by
 rw[rQ]at h;obtain⟨l,aH,h⟩:=h;have:=aa.ends l aH;rcases h with⟨h1,D⟩|⟨h1,D⟩<;>rw[uc,←D]
 ·exact this.2
 ·exact this.1
def FW(t:bA)(r:Int):cq:=(ids t).filter λx=>uo t r x
def aag(aa:fH t)(r:Int):(FW t r).Pairwise (·<·):=(JN aa).sublist filter_sublist
def YJ(aa:fH t){x:Int}:x∈FW t r↔uo t r x=true:=by
 unfold FW;rw[List.mem_filter]
 exact⟨λh=>h.2,λh=>⟨I3 aa h,h⟩⟩
def Cd(r:Int)(l:dR):jo:=if r=l.A then some l.B else if r=l.B then some l.A else none
def X4(aa:fH t)(r:Int):(t.Links.filterMap (Cd r)).Nodup:=by
 have key:∀l:Aw,(∀x∈l,x.A<x.B)→l.Pairwise (λa b=>mq a b=true)→(l.filterMap (Cd r)).Nodup:=by
  intro l;induction l with
  |nil=>intros;simp
  |cons x l bg=>
   intro h1 D;rw[pairwise_cons]at D;have bg:=bg (λy ag=>h1 y (by simp[ag])) D.2;cases u:Cd r x with
   |none=>rw[filterMap_cons_none u];exact bg
   |some y=>
    rw[filterMap_cons_some u,nodup_cons];refine⟨λhm=>?_,bg⟩;obtain⟨z,hz,G6⟩:=List.mem_filterMap.1 hm;have aj:=D.1 z hz;have a1:=h1 x (by simp);have bU:=h1 z (by simp[hz]);unfold Cd at u G6;simp[mq]at aj;split at u<;>split at G6<;>(try split at u)<;>(try split at G6)<;>simp at u G6<;>omega
 exact key _ aa.lt aa.Gh
end
section
def as7{α σ β:Type}{B:Int→α→(σ→Option β)→σ→Option β}{K:σ→Option β}{bq:β→Prop}(I:List α→σ→Prop){L:List α}
  (af:∀(p:List α) x r s b7,L=p++x::r→I p s→(∀cO,I (p++[x]) cO→Ok (b7 cO) bq)→Ok (B (p.length:Int) x b7 s) bq) (s:σ) (h:I [] s) (aR:∀s,I L s→Ok (K s) bq):Ok (Go.Proofs.YtmnbolcmepihlaaGreat.ez L 0 B K s) bq:=by
 have key:∀(l p:List α) (s:σ),L=p++l→I p s→Ok (Go.Proofs.YtmnbolcmepihlaaGreat.ez l p.length B K s) bq:=by
  intro l;induction l with
  |nil=>intro p s aT h;exact aR s (by rw[aT,append_nil];exact h)
  |cons x r bg=>
   intro p s aT h;refine af p x r s _ aT h λcO b3=>?_;have:=bg (p++[x]) cO (by simp[aT]) b3
   rwa [length_append]at this
 exact key L [] s rfl h
def NI{a b:cq}(h:a.Nodup)(X:∀x∈a,x∈b):a.length≤b.length:=by
 induction a generalizing b with
 |nil=>simp
 |cons x a bg=>
  rw[nodup_cons]at h;have u:=X x (by simp);have:=bg (b:=b.erase x) h.2 λy ag=>(List.mem_erase_of_ne (λe=>h.1 (by rw[←e];exact ag))).2 (X y (by simp[ag]));rw[length_erase_of_mem u]at this;have:=length_pos_of_mem u;simp only[length_cons];omega
inductive oN(t:bA)(c:List Int):Int→Int→Prop
 |refl {a:Int} (h:a∉c):oN t c a a
 |step {a b d:Int} (h:oN t c a b) (ay:uo t b d=true) (Z:d∉c):oN t c a d
variable {a b:Int}{t:bA}
def oN.trans{c:cq}{d:Int}(h1:oN t c a b)(D:oN t c b d):oN t c a d:=by
 induction D with
 |refl _=>exact h1
 |step _ ay Z bg=>exact .step bg ay Z
def avj{c:cq}(h:oN t c a b):a∉c:=by
 induction h with
 |refl h=>exact h
 |step _ _ _ bg=>exact bg
def oN.right{c:cq}(h:oN t c a b):b∉c:=by
 cases h with
 |refl h=>exact h
 |step _ _ Z=>exact Z
def oN.symm{c:cq}(h:oN t c a b):oN t c b a:=by
 induction h with
 |refl h=>exact .refl h
 |step h ay Z bg=>exact(oN.step (.refl Z) (PY ay) h.right).trans bg
def oN.ids{t:bA}(aa:fH t){c:cq}{a b:Int}(h:oN t c a b)(ay:a∈ids t):b∈ids t:=by
 cases h with
 |refl h=>exact ay
 |step _ Z _=>exact I3 aa Z
def abu(aa:fH t):(ids t).length≤24:=by have:=aa.vg;simpa [ids]using this
end
section
def k3{α:Type}(l:List (Int×α))(n m:Int)(b:α):aD (bG l n b) m=if m=n then some b else aD l m:=by
 induction l with
 |nil=>
  simp only[bG,aD,List.find?];by_cases h:n=m
  ·simp[h]
  ·simp[h,Ne.symm h]
 |cons p r bg=>
  simp only[bG];by_cases h1:p.1=n
  ·rw[if_pos h1];simp only[aD,List.find?]at bg ⊢;by_cases D:n=m
   ·simp[D]
   ·have:p.1≠m:=by omega
    simp[D,this,Ne.symm D]
  ·rw[if_neg h1];simp only[aD,List.find?]at bg ⊢;by_cases D:p.1=m
   ·have:m≠n:=by omega
    simp[D,this]
   ·simp[D];exact bg
def aah{α:Type}{l:List (Int×α)}{n:Int}{b:α}(h:aD l n=none):(bG l n b).length=l.length+1:=by
 induction l with
 |nil=>rfl
 |cons p r bg=>
  simp only[aD,List.find?]at h;by_cases h1:p.1=n
  ·simp[h1]at h
  ·simp only[bG,if_neg h1,length_cons];rw[bg (by simpa [aD,h1]using h)]
end
end
section
set_option linter.all false
open Go List
section
def kZ(t:eD):Prop:=0≤t.At∧t.At≤t.L.length∧t.L.length≤2000
def RK(n:Int):aF n≤9223372036854775807∧-9223372036854775808≤aF n:=by
 unfold aF;rw[IntKind.wrap_i64];omega
def ahj(l:cq):Ok (Ea l) kZ:=by
 unfold Ea;refine Ok.aW (Ji ⟨by omega,?_,?_⟩) λm hm=>Ok.s ⟨by simp,by simp,?_⟩
 ·split<;>omega
 ·split<;>omega
 ·have:=hm.2;simp only;split at this<;>omega
variable {t:eD}
def ahk(h:kZ t):Ok (DH t) (λp=>kZ p.2):=by
 obtain⟨bM,h1,D⟩:=h;unfold DH;refine Ok.cs (λ_=>Ok.s ⟨bM,h1,D⟩) λaf=>?_;simp at af;have e:aF (t.At+1)=t.At+1:=iU (by omega) (by omega);rw[e,iU (by omega) (by omega)];refine Ok.aW (qT (by omega) (by omega)) λa _=>Ok.s ⟨?_,?_,D⟩<;>show _<;>simp<;>omega
def ahl{x n:Int}(aR:n≤9223372036854775807):Ok (Eb x n) (λr=>0≤r∧(1≤n→r<n)∧(n<1→r=0)):=by
 unfold Eb;refine Ok.cs (λh=>Ok.s ?_) λh=>?_
 ·simp at h;omega
 have h:1≤n:=by simpa using h
 have h1:Int.tmod x n<n:=Int.tmod_lt_of_pos _ (by omega);have D : -n<Int.tmod x n:=Int.lt_tmod_of_pos _ (by omega);refine asP (by simp;omega) ?_;refine asQ (λr=>0≤r∧r<n) (λs X=>Ok.s ⟨X.1,λ_=>X.2,by omega⟩) λJ iQ=>?_;refine Ok.cs (λaf=>iQ _ ?_) λaf=>iQ _ ?_
 ·simp at af;rw[iU (by omega) (by omega)];omega
 ·simp at af;omega
def uK{n:Int}(h:kZ t)(aR:n≤9223372036854775807):Ok (pz t n) (λp=>(0≤p.1∧(1≤n→p.1<n)∧(n<1→p.1=0))∧kZ p.2):=by
 unfold pz;exact Ok.aW (ahk h) λp aC=>Ok.aW (ahl aR) λr aB=>Ok.s ⟨aB,aC⟩
def OJ{low high:Int}(h:kZ t):Ok (yD t low high) (λp=>(-2305843009213693952≤low→low≤high→high<2305843009213693952→low≤p.1∧p.1≤high)∧kZ p.2):=by
 unfold yD;refine Ok.aW (uK h (RK _).1) λp aC=>Ok.s ⟨λh1 D aj=>?_,aC.2⟩;obtain⟨⟨ak,ar,_⟩,_⟩:=aC;rw[iU (n:=high-low) (by omega) (by omega),iU (n:=high-low+1) (by omega) (by omega)]at ar;show low≤aF (low+p.1)∧aF (low+p.1)≤high;rw[iU (by omega) (by omega)];omega
def Jj{l:cq}(h:kZ t)(bM:1≤l.length)(h1:l.length≤1000000):Ok (w8 t l) (λp=>p.1∈l∧kZ p.2):=by
 unfold w8;refine Ok.aW (uK h (by omega)) λp aC=>?_;exact Ok.aW (qT aC.1.1 (aC.1.2.1 (by omega))) λa ay=>Ok.s ⟨ay.1,aC.2⟩
def aiT(l:cq)(n:Int):Ek l n=some (decide (n∈l)):=by
 unfold Ek;rw[zK (λx=>decide (x=n)) (some true) (λj x b7 s=>rfl) l 0 (),abr];by_cases h:n∈l<;>simp[h]
def mI:cq→Int→cq
 |[],x=>[x]
 |y::r,x=>if y<x then y::mI r x else if y=x then y::r else x::y::r
def IN:∀{l:cq} {x y:Int},y∈mI l x↔y=x∨y∈l
 |[],x,y=>by simp[mI]
 |z::r,x,y=>by
  rw[mI];split
  ·rw[mem_cons,IN,mem_cons];constructor
   ·rintro(h|h|h)<;>simp[h]
   ·rintro(h|h|h)<;>simp[h]
  ·split
   ·rename_i h;subst h;simp
   ·simp
def OK:∀{l:cq} {x:Int},l.Pairwise (·<·)→(mI l x).Pairwise (·<·)
 |[],x,_=>by simp[mI]
 |z::r,x,h=>by
  rw[mI];rw[pairwise_cons]at h;split
  ·rw[pairwise_cons];refine⟨λy ag=>?_,OK h.2⟩;rcases IN.1 ag with rfl|ag
   ·assumption
   ·exact h.1 y ag
  ·split
   ·exact pairwise_cons.2 h
   ·rw[pairwise_cons];refine⟨λy ag=>?_,pairwise_cons.2 h⟩;rcases mem_cons.1 ag with rfl|ag
    ·omega
    ·have:=h.1 y ag;omega
def IP:∀(l:cq) (x:Int),(mI l x).length≤l.length+1
 |[],x=>by simp[mI]
 |z::r,x=>by
  rw[mI];have:=IP r x;split
  ·simp;omega
  ·split<;>simp
def Ri:∀(p r:cq) (x:Int),(∀y∈p,y<x)→(∀y∈r.head?,x≤y)→mI (p++r) x=if r.head?=some x then p++r else p++x::r
 |[],r,x,_,h=>by
  cases r with
  |nil=>simp[mI]
  |cons y r=>
   have:=h y (by simp);simp only[nil_append,mI,if_neg (show ¬y<x by omega),head?_cons,Option.some.injEq]
 |z::p,r,x,aC,h=>by
  have:=aC z (by simp);rw[cons_append,mI,if_pos this,Ri p r x (λy ag=>aC y (by simp[ag])) h];split<;>rfl
def Te(l:cq)(x:Int)(aH:l.length≤100000):xc l x=some (mI l x):=by
 unfold xc;refine atb (asW (λk:Int=>0≤k∧k≤l.length∧∀y∈l.take k.toNat,y<x) (λk:Int=>((l.length:Int)-k).toNat) ⟨by omega,by omega,by simp⟩ (by omega) ?_);rintro k b7 ⟨bM,h1,D⟩ jr;refine asQ (λv:Bool=>(v=true↔∃y∈(l.drop k.toNat).head?,y<x)) ?_ ?_
 ·intro v aa;refine Ok.cs (λh=>?_) λh=>?_
  ·obtain⟨y,ag,rO⟩:=aa.1 h;have bL:k.toNat<l.length:=by
    cases Z:l.drop k.toNat with
    |nil=>rw[Z]at ag;simp at ag
    |cons z r=>have:=congrArg List.length Z;simp at this;omega
   rw[iU (by omega) (by omega)];refine jr _ ⟨by omega,by omega,λz hz=>?_⟩ (by omega);rw[show(k+1).toNat=k.toNat+1 by omega,take_succ]at hz;rcases List.mem_append.1 hz with hz|hz
   ·exact D z hz
   ·rw[head?_drop]at ag;have e:l[k.toNat]?=some z:=by simpa using hz
    have e2:l[k.toNat]?=some y:=ag;rw[e]at e2;cases e2;exact rO
  ·have xz:∀y∈(l.drop k.toNat).head?,x≤y:=λy ag=>by
    have:¬y<x:=λcA=>by rw[aa.2 ⟨y,ag,cA⟩]at h;cases h
    omega
   have key:=Ri (l.take k.toNat) (l.drop k.toNat) x D xz;rw[take_append_drop]at key;refine asQ (λv:Bool=>(v=true↔(l.drop k.toNat).head?=some x)) ?_ ?_
   ·intro fS VC;refine Ok.cs (λD=>Ok.s ?_) λD=>?_
    ·rw[key,if_pos (VC.1 D)]
    ·have cb:¬(l.drop k.toNat).head?=some x:=λcA=>by rw[VC.2 cA]at D;cases D
     rw[if_neg cb]at key;refine Ok.aW (Ji ⟨by omega,by omega,by omega⟩) λo9 ak=>?_;refine Ok.aW (Jh (by simp;omega)) λji ar=>?_;refine Ok.aW (Ji ⟨by omega,by omega,by omega⟩) λMy aM=>?_;refine Ok.aW (Jh (by simp at ar aM ak ⊢;omega)) λaqV aK=>Ok.s ?_;rw[aK.1,aM.1,ar.1,ak.1,key];simp
   ·intro J iQ;refine Ok.cs (λaf=>?_) λaf=>iQ _ ?_
    ·simp at af;refine Ok.aW (qT bM af) λe he=>iQ _ ?_;rw[head?_drop,he.2];simp
    ·simp at af;rw[drop_of_length_le (by omega)];simp
 ·intro J iQ;refine Ok.cs (λaf=>?_) λaf=>iQ _ ?_
  ·simp at af;refine Ok.aW (qT bM af) λe he=>iQ _ ?_;rw[head?_drop,he.2];simp
  ·simp at af;rw[drop_of_length_le (by omega)];simp
end
section
def sQ(a b:b6):Bool:=decide (a.bz<b.bz)||(decide (a.bz=b.bz)&&decide (a.br<b.br))
inductive uz(root:Int)(L:List b6):Int→Prop
 |root:uz root L root
 |step (h:b6):h∈L→uz root L h.bz→uz root L h.br
def uq(f:Int→Bool)(L:zu):Nat:=(L.filter λh=>!f h.br).length
variable {f:Int→Bool}
def Rj{g:Int→Bool}(h:∀x,f x=true→g x=true)(L:zu):uq g L≤uq f L:=by
 unfold uq;induction L with
 |nil=>simp
 |cons a r bg=>
  simp only[filter_cons];cases bm:f a.br
  ·cases bu:g a.br<;>simp<;>omega
  ·rw[h _ bm];simpa using bg
def Rk{f g:Int→Bool}(h:∀x,f x=true→g x=true){a:b6}:∀{L:zu},a∈L→f a.br=false→g a.br=true→uq g L<uq f L
 |[],ay,_,_=>by cases ay
 |b::r,ay,h1,D=>by
  have hle:=Rj h r;unfold uq at *;simp only[filter_cons];rcases mem_cons.1 ay with rfl|ay
  ·rw[h1,D];simp;omega
  ·have bg:=Rk h ay h1 D;unfold uq at bg;cases bm:f b.br
   ·cases bu:g b.br<;>simp<;>omega
   ·rw[h _ bm];simpa using bg
structure JE(root:Int)(L:List b6)(f:Int→Bool):Prop where
 rt:f root=true
 sub:∀x,f x=true→uz root L x
structure Av(root:Int)(L:List b6)(f0:Int→Bool)(p:List b6)(g:Bool)(f:Int→Bool):Prop where
 wG:JE root L f
 up:∀x,f0 x=true→f x=true
 no:g=false→(∀x,f x=f0 x)∧∀h∈p,f h.bz=true→f h.br=true
 yes:g=true→uq f L<uq f0 L
variable {L p:zu}{f0:Int→Bool}{g:Bool}{h:b6}
def Av.add{root:Int}{oS:Int→Bool}(j:Av root L f0 p g f)(hm:h∈L)(h1:f h.bz=true)(D:f h.br=false)(bm:∀y,oS y=(decide (y=h.br)||f y)):Av root L f0 (p++[h]) true oS:=by
 have up:∀x,f x=true→oS x=true:=λx u=>by rw[bm,u];simp
 have aH:uq oS L<uq f L:=Rk up hm D (by rw[bm];simp);refine⟨⟨up _ j.wG.rt,λx u=>?_⟩,λx u=>up x (j.up x u),λh=>(by cases h),λ_=>?_⟩
 ·rw[bm,Bool.or_eq_true,decide_eq_true_eq]at u;rcases u with rfl|u
  ·exact .step h hm (j.wG.sub _ h1)
  ·exact j.wG.sub x u
 ·have:=Rj j.up L;omega
def Av.pass{root:Int}(j:Av root L f0 p g f)(aR:f h.bz=false∨f h.br=true):Av root L f0 (p++[h]) g f:=by
 refine⟨j.wG,j.up,λbu=>⟨(j.no bu).1,λx u bm=>?_⟩,j.yes⟩;rcases List.mem_append.1 u with u|u
 ·exact(j.no bu).2 x u bm
 ·simp at u;subst u
  rcases aR with aR|aR
  ·rw[aR]at bm;cases bm
  ·exact aR
def JE.done{root:Int}(h:JE root L f)(af:∀x∈L,f x.bz=true→f x.br=true)(x:Int):f x=true↔uz root L x:=by
 refine⟨h.sub x,λaB=>?_⟩;induction aB with
 |root=>exact h.rt
 |step y ag _ bg=>exact af y ag bg
structure vz(t:hq):Prop where
 rt:1≤t.mH∧t.mH≤99
 Im:∀h∈t.Links,(1≤h.bz∧h.bz≤99)∧1≤h.br∧h.br≤99
 nQ:t.Links.Pairwise λa b=>sQ a b=true
 dup:t.Links.Pairwise λa b=>a.br≠b.br
 VX:∀h∈t.Links,h.br≠t.mH
 Ii:∀h∈t.Links,uz t.mH t.Links h.bz
def YK(a b c:b6)(h1:sQ a b=true)(D:sQ b c=true):sQ a c=true:=by
 simp[sQ]at *;omega
def vz.nodup{t:hq}(h:vz t):(t.mH::t.Links.map (·.br)).Nodup:=by
 rw[nodup_cons];refine⟨λhm=>?_,?_⟩
 ·obtain⟨x,u,e⟩:=List.mem_map.1 hm;exact h.VX x u e
 ·exact pairwise_map.2 h.dup
def YL(l:cq):∀(s:cq),s.Pairwise (·<·)→(l.foldl mI s).Pairwise (·<·)∧(∀x,x∈l.foldl mI s↔x∈s∨x∈l)∧(l.foldl mI s).length≤s.length+l.length:=by
 induction l with
 |nil=>intro s h;exact⟨h,λx=>by simp,by simp⟩
 |cons a r bg=>
  intro s h;obtain⟨h1,D,aj⟩:=bg (mI s a) (OK h);refine⟨h1,λx=>?_,?_⟩
  ·rw[foldl_cons,D,IN,mem_cons];constructor
   ·rintro((h|h)|h)<;>simp[h]
   ·rintro(h|h|h)<;>simp[h]
  ·have:=IP s a;rw[foldl_cons,length_cons];omega
end
section
structure XD(g:bA)(lP:Int):Prop where
 v:fH g
 n:1≤g.bC.length∧(g.bC.length:Int)≤lP
 c:∀r∈g.bC,r.IY=true
 i:∀r∈g.bC,r.cu≤5*lP
def IJ(n:Nat):Nat→Nat
 |0=>0
 |a+1=>IJ n a+(n-1-a)
def RL:∀n,n≤9→∀a,a≤n→IJ n a≤36:=by decide
structure tc(n:Nat)(M:List (List Bool)):Prop where
 len:M.length=n
 row:∀r∈M,r.length=n
 up:∀(a b:Nat) (r:qS),M[a]?=some r→r[b]?=some true→a<b
def tc.set{n:Nat}{M:jd}(h:tc n M){a b:Nat}{r:qS}(aB:M[a]?=some r)(hW:a<b)(U:b<n):tc n (M.set a (r.set b true)):=by
 obtain⟨h1,D,aj⟩:=h;have hm:r∈M:=List.mem_of_getElem? aB;refine⟨by simpa using h1,λq bV=>?_,λi j q bV aT=>?_⟩
 ·rcases List.mem_or_eq_of_mem_set bV with bV|rfl
  ·exact D q bV
  ·simpa using D r hm
 ·rw[List.getElem?_set]at bV;by_cases hi:a=i
  ·subst hi;have bL:a<M.length:=(List.getElem?_eq_some_iff.1 aB).1;simp only[if_true,bL,Option.some.injEq]at bV;subst bV;rw[List.getElem?_set]at aT;by_cases ajC:b=j
   ·omega
   ·rw[if_neg ajC]at aT;exact aj a j r aB aT
  ·rw[if_neg hi]at bV;exact aj i j q bV aT
variable {M:jd}{i:Int}
def RM{n:Nat}(h:tc n M)(bM:0≤i)(hi:i<n):Ok (di M i) (λr=>M[i.toNat]?=some r∧r.length=n):=by
 refine(qT bM (by rw[h.len];exact hi)).mono λr aB=>⟨aB.2,h.row r aB.1⟩
def QF{n:Nat}(h:tc n M){j:Int}{sn:Type}{bq:sn→Prop}(k:qS→qS→Option sn)(bM:0≤i)(iX:i<j)(aT:j<n)(hk:∀r gA,tc n (List.set M i.toNat gA)→Ok (k r gA) bq):
  Ok (aW (di M i) λe=>aW (di e j) λ_=>aW (lJ e j true) λl=>k e l) bq:=by
 refine Ok.aW (RM h bM (by omega)) λr aB=>Ok.aW (qT (by omega) (by rw[aB.2];omega)) λ_ _=>?_;refine Ok.aW (JL (by omega) (by rw[aB.2];omega)) λl aH=>hk r l ?_;rw[aH.1];exact h.set aB.1 (by omega) (by omega)
structure p4(R:List dQ)(ls:List dR)(a b:Nat):Prop where
 at_:∀l∈ls,∃i j x y,i<j∧R[i]?=some x∧R[j]?=some y∧l.A=x.cu∧l.B=y.cu∧(i<a∨i=a∧j<b)
 ok:∀l∈ls,qx l=false
 nQ:ls.Pairwise λx y=>mq x y=true
 len:ls.length≤IJ R.length a+(b-(a+1))
variable {x:dQ}
def Ku{R:Ax}(h:R.Pairwise λa b=>a.cu<b.cu){i j:Nat}{y:dQ}(u:R[i]?=some x)(ag:R[j]?=some y)(iX:i<j):x.cu<y.cu:=by
 obtain⟨h1,rfl⟩:=List.getElem?_eq_some_iff.1 u;obtain⟨D,rfl⟩:=List.getElem?_eq_some_iff.1 ag;exact pairwise_iff_getElem.1 h i j h1 D iX
variable {a b:Nat}{ls:Aw}
def p4.add{R:Ax}(h:p4 R ls a b)(cf:R.Pairwise λa b=>a.cu<b.cu){l:dR}{y:dQ}(hW:a<b)(u:R[a]?=some x)(ag:R[b]?=some y)(eo:l.A=x.cu)(dc:l.B=y.cu)(aH:qx l=false):p4 R (ls++[l]) a (b+1):=by
 refine⟨λm hm=>?_,λm hm=>?_,?_,?_⟩
 ·rcases List.mem_append.1 hm with hm|hm
  ·obtain⟨i,j,x,y,h1,D,aj,a1,bU,dP⟩:=h.at_ m hm;exact⟨i,j,x,y,h1,D,aj,a1,bU,by omega⟩
  ·simp at hm;subst hm
   exact⟨a,b,x,y,hW,u,ag,eo,dc,by omega⟩
 ·rcases List.mem_append.1 hm with hm|hm
  ·exact h.ok m hm
  ·simp at hm;subst hm;exact aH
 ·refine pairwise_append.2 ⟨h.nQ,by simp,λm hm q bV=>?_⟩;simp at bV;subst bV
  obtain⟨i,j,asq,Og,h1,D,aj,a1,bU,dP⟩:=h.at_ m hm;simp only[mq,Bool.or_eq_true,Bool.and_eq_true,decide_eq_true_eq];rcases dP with dP|⟨rfl,dP⟩
  ·have:=Ku cf D u dP;left;omega
  ·rw[u]at D;cases D
   have:=Ku cf aj ag dP;right;omega
 ·have:=h.len;simp;omega
def p4.skip{R:Ax}(h:p4 R ls a b):p4 R ls a (b+1):=
 ⟨λm hm=>by
  obtain⟨i,j,x,y,h1,D,aj,a1,bU,dP⟩:=h.at_ m hm;exact⟨i,j,x,y,h1,D,aj,a1,bU,by omega⟩,h.ok,h.nQ,by have:=h.len;omega⟩
def p4.next{R:Ax}(h:p4 R ls a b)(U:b=R.length):p4 R ls (a+1) 0:=
 ⟨λm hm=>by
  obtain⟨i,j,x,y,h1,D,aj,a1,bU,dP⟩:=h.at_ m hm;exact⟨i,j,x,y,h1,D,aj,a1,bU,by omega⟩,h.ok,h.nQ,by have:=h.len;simp only[IJ];omega⟩
def X5{t:eD}{lP:Int}(h:kZ t)(hm:1≤lP∧lP≤9):Ok (Es t lP) (λp=>XD p.1 lP∧kZ p.2):=by
 unfold Es;refine Ok.aW (OJ h) λp aC=>?_;obtain⟨n,t1⟩:=p;obtain⟨aR,bE⟩:=aC;have aR:1≤n∧n≤lP:=aR (by omega) (by omega) (by omega);have bE:kZ t1:=bE;refine asP (by simp;omega) ?_;refine as0 (λj (av:Int×Ax×cq×Int)=>(0≤av.1∧av.1≤5*j)∧(av.2.1.length:Int)=j∧av.2.1.Pairwise (λa b=>a.cu<b.cu)∧(∀r∈av.2.1,(1≤r.cu∧r.cu≤av.1)∧r.IY=true)∧kZ (eD.mk av.2.2.1 av.2.2.2)) 0 n ?_ ?_ _ _ _ rfl (by omega) (by omega) ⟨by simp,by simp,by simp,by simp,bE⟩
 ·rintro j ⟨id,m,L,A⟩ b7 h1 D ⟨⟨o4,lG⟩,lH,i3,l0,vU⟩ jr;simp only at o4 lG lH i3 l0;refine Ok.aW (Jj vU (by simp) (by simp)) λq bV=>?_;obtain⟨bV,DZ⟩:=bV;have U:1≤q.1∧q.1≤5:=by
   simp only[mem_cons,not_mem_nil,or_false]at bV;omega
  rw[iU (by omega) (by omega)];refine Ok.aW (Jh (by simp;omega)) λm2 ar=>jr _ ⟨⟨by simp only;omega,by simp only;omega⟩,?_,?_,?_,DZ⟩
  ·have:=ar.2;simp at this ⊢;omega
  ·simp only[ar.1];refine pairwise_append.2 ⟨i3,by simp,λa ay b eS=>?_⟩;simp at eS;subst eS
   have:=(l0 a ay).1;simp only;omega
  ·simp only[ar.1];intro r aB;rcases List.mem_append.1 aB with aB|aB
   ·have:=l0 r aB;exact⟨⟨this.1.1,by have:=this.1.2;omega⟩,this.2⟩
   ·simp at aB;subst aB;exact⟨⟨by simp only;omega,by simp only;omega⟩,rfl⟩
 rintro j ⟨id,R,L,A⟩ h1 D ⟨⟨o4,lG⟩,lH,i3,l0,vU⟩;have aT:j=n:=D (by omega);subst aT;simp only at o4 lG lH i3 l0;have sA:R.length=j.toNat:=by omega
 refine asP (by simp;omega) (asP (by simp;omega) ?_);refine as0 (λi (M:jd)=>M.length=j.toNat∧∀(k:Nat),(k:Int)<i→M[k]?=some (List.replicate j.toNat false)) 0 j ?_ ?_ _ _ _ (by simp;omega) (by omega) (by omega) ⟨by simp,λk hk=>by omega⟩
 ·rintro i M b7 ak ar ⟨aJ,e2⟩ jr;refine asP (by simp;omega) (Ok.aW (qT ak (by omega)) λ_ _=>jr _ ⟨by simpa using aJ,λk hk=>?_⟩);rw[List.getElem?_set];by_cases uR:i.toNat=k
  ·rw[if_pos uR,if_pos (by omega)]
  ·rw[if_neg uR];exact e2 k (by omega)
 rintro i M ak ar ⟨aJ,e2⟩;have hi:i=j:=ar (by omega);subst hi;have oC:tc i.toNat M:=by
  have ny:∀(a:Nat) r,M[a]?=some r→r=List.replicate i.toNat false:=λa r aB=>by
   have bL:a<M.length:=(List.getElem?_eq_some_iff.1 aB).1;rw[e2 a (by omega)]at aB;exact(Option.some.inj aB).symm
  refine⟨aJ,λr aB=>?_,λa b r aB U=>?_⟩
  ·obtain⟨a,ay⟩:=List.getElem?_of_mem aB;rw[ny a r ay];simp
  ·rw[ny a r aB]at U;have:=List.mem_of_getElem? U;simp at this
 clear aJ e2;refine asP (by simp;omega) ?_;refine as0 (λk (av:cq×Int×jd)=>kZ (eD.mk av.1 av.2.1)∧tc i.toNat av.2.2) 1 i ?_ ?_ _ _ _ rfl (by omega) (by omega) ⟨vU,oC⟩
 ·rintro k ⟨Xy,Xl,O4⟩ b7 gv cK ⟨aJ,e2⟩ jr;refine asQ (λav:jd×cq×Int=>kZ (eD.mk av.2.1 av.2.2)∧tc i.toNat av.1) (λs X=>jr _ X) λJ iQ=>?_;refine Ok.aW (uK aJ (by omega)) λv aa=>Ok.cs (λ_=>?_) λ_=>iQ _ ⟨aa.2,e2⟩;refine Ok.aW (uK aa.2 (by omega)) λaA hu=>?_;exact QF e2 (λ_ l=>J (List.set O4 aA.1.toNat l,aA.2.L,aA.2.At)) hu.1.1 (hu.1.2.1 (by omega)) (by omega) λr gA jI=>iQ _ ⟨hu.2,jI⟩
 rintro k ⟨Xy,Xl,O4⟩ gv cK ⟨aJ,e2⟩;refine Ok.aW (uK aJ (RK _).1) λv aa=>?_;rw[iU (n:=i+2) (by omega) (by omega)]at aa;have G2:=aa.1.2.1 (by omega);refine asW (λav:Int×cq×Int×jd=>(0≤av.1∧av.1≤11)∧kZ (eD.mk av.2.1 av.2.2.1)∧tc i.toNat av.2.2.2) (λav=>av.1.toNat) ⟨⟨aa.1.1,by simp only;omega⟩,aa.2,e2⟩ (by simp only;omega) ?_;rintro⟨c,ao4,aoM,O5⟩ b7 ⟨⟨kW,bl⟩,dm,gb⟩ jr;simp only at kW bl;refine Ok.cs (λaf=>?_) λaf=>?_
 ·have af:0<c:=by simpa using af
  refine asQ (λav:jd×cq×Int=>kZ (eD.mk av.2.1 av.2.2)∧tc i.toNat av.1) (λs X=>?_) λJ iQ=>?_
  ·rw[iU (n:=c-1) (by omega) (by omega)];exact jr _ ⟨⟨by simp only;omega,by simp only;omega⟩,X.1,X.2⟩ (by simp only;omega)
  ·refine Ok.aW (uK dm (by omega)) λa ay=>Ok.aW (uK ay.2 (by omega)) λb U=>?_;have GI:=ay.1.2.1 (by omega);have fA:=U.1.2.1 (by omega);have UX:=ay.1.1;have uO:=U.1.1
   refine Ok.cs (λcb=>?_) λ_=>iQ _ ⟨U.2,gb⟩;have cb:a.1≠b.1:=by simpa using cb
   refine QF gb (λ_ l=>J (List.set O5 _ l,b.2.L,b.2.At)) (by split<;>omega) (by split<;>split<;>omega) (by split<;>omega) λr gA jI=>iQ _ ⟨U.2,jI⟩
 clear jr e2 oC aa G2 aJ;refine Ok.aW (uK dm (by omega)) λw an=>?_;have US:O5.length=i.toNat:=gb.len;refine asP (by simp;omega) ?_;refine as0 (λa (av:Aw×cq×Int)=>p4 R av.1 a.toNat 0∧kZ (eD.mk av.2.1 av.2.2)) 0 i ?_ ?_ _ _ _ (by rw[US];omega) (by omega) (by omega) ⟨⟨by simp,by simp,by simp,by simp⟩,an.2⟩
 ·rintro a ⟨ls,Xz,Xm⟩ b7 a0 jU ⟨gU,i1⟩ jr;refine asP (by simp;omega) ?_;refine as0 (λb (av:Aw×cq×Int)=>p4 R av.1 a.toNat b.toNat∧kZ (eD.mk av.2.1 av.2.2)) 0 i ?_ ?_ _ _ _ (by rw[US];omega) (by omega) (by omega) ⟨gU,i1⟩
  ·rintro b ⟨ls,O3,OW⟩ hR Dy dO ⟨oy,AM⟩ DN;have oy:p4 R ls a.toNat b.toNat:=oy;have AM:kZ (eD.mk O3 OW):=AM;have Md:p4 R ls a.toNat (b+1).toNat:=by rw[show(b+1).toNat=b.toNat+1 by omega];exact oy.skip
   refine asQ (λav:cq×Int×Aw=>kZ (eD.mk av.1 av.2.1)∧p4 R av.2.2 a.toNat (b+1).toNat) (λs X=>DN _ ⟨X.2,X.1⟩) λj7 oB=>?_;refine Ok.aW (RM gb a0 (by omega)) λrow iz=>Ok.aW (qT Dy (by rw[iz.2];omega)) λc af=>?_;cases c with
   |false=>exact oB _ ⟨AM,Md⟩
   |true=>
    have hW:a.toNat<b.toNat:=gb.up _ _ _ iz.1 af.2;simp only[Bool.not_true,cond_false];refine Ok.aW (qT a0 (by omega)) λx u=>Ok.aW (qT Dy (by omega)) λy ag=>Ok.aW (Jj AM (by simp) (by simp)) λvF LM=>?_;have n4:0≤vF.1∧vF.1≤1000:=by
     have:=LM.1;simp only[mem_cons,not_mem_nil,or_false]at this;omega
    have eA:ls.length≤36+9:=by
     have:=oy.len;have:=RL R.length (by omega) a.toNat (by omega);omega
    refine asQ (λav:cq×Int×Int×Int=>kZ (eD.mk av.1 av.2.1)∧(1≤av.2.2.1∧av.2.2.1≤1000)∧1≤av.2.2.2∧av.2.2.2≤1000) (λs X=>?_) λCX GF=>?_
    ·obtain⟨ao5,aoN,ca,apL⟩:=s;obtain⟨dW,eg,s3⟩:=X;simp only at eg s3;refine Ok.aW (Jh (by simp;omega)) λaq2 ar=>oB _ ⟨dW,?_⟩;rw[ar.1,show(b+1).toNat=b.toNat+1 by omega];refine oy.add i3 hW u.2 ag.2 rfl rfl ?_;simp only[qx,wq];simp;omega
    ·refine Ok.cs (λ_=>?_) λ_=>GF _ ⟨LM.2,by simp only;omega,by simp only;omega⟩;refine Ok.aW (OJ LM.2) λgJ qj=>Ok.aW (Jj qj.2 (by simp) (by simp)) λcQ uT=>Ok.aW (OJ uT.2) λgA jI=>Ok.aW (Jj jI.2 (by simp) (by simp)) λdM uU=>GF _ ⟨uU.2,?_,?_⟩
     ·have h1:=qj.1 (by omega) (by omega) (by omega);have D:=uT.1
      simp only[mem_cons,not_mem_nil,or_false]at D ⊢;omega
     ·have h1:=qj.1 (by omega) (by omega) (by omega);have D:=uT.1;have aj:=jI.1 (by omega) (by omega) (by omega);have a1:=uU.1
      simp only[mem_cons,not_mem_nil,or_false]at D a1 ⊢;omega
  ·rintro b ⟨ls,O3,OW⟩ Dy dO ⟨oy,AM⟩;have U:b=i:=dO (by omega);subst U;refine jr _ ⟨?_,AM⟩;rw[show(a+1).toNat=a.toNat+1 by omega];exact oy.next (by omega)
 ·rintro a ⟨ls,Xz,Xm⟩ a0 jU ⟨gU,i1⟩;have ay:a=i:=jU (by omega);subst ay;have gU:p4 R ls a.toNat 0:=gU;have eA:ls.length≤36:=by
   have:=gU.len;have:=RL R.length (by omega) a.toNat (by omega);omega
  refine Ok.s ⟨⟨⟨?_,?_,λr aB=>?_,i3,gU.ok,λl aH=>?_,λl aH=>?_,gU.nQ⟩,⟨?_,?_⟩,λr aB=>(l0 r aB).2,λr aB=>?_⟩,i1⟩
  ·show R.length≤24;omega
  ·show ls.length≤60;omega
  ·have:=(l0 r aB).1;omega
  ·obtain⟨i,j,x,y,ak,ar,aM,aK,be,_⟩:=gU.at_ l aH;exact⟨EZ.2 ⟨x,List.mem_of_getElem? ar,aK.symm⟩,EZ.2 ⟨y,List.mem_of_getElem? aM,be.symm⟩⟩
  ·obtain⟨i,j,x,y,ak,ar,aM,aK,be,_⟩:=gU.at_ l aH;have:=Ku i3 ar aM ak;omega
  ·show 1≤R.length;omega
  ·show(R.length:Int)≤lP;omega
  ·have:=(l0 r aB).1;omega
end
section
variable {g:bA}{t:eD}
def WX{sn:Type}{bq:sn→Prop}{k:Int×eD→dQ→Option sn}(h:kZ t)(bu:1≤g.bC.length∧g.bC.length≤1000)(hk:∀p r,kZ p.2→r∈g.bC→r.cu∈ids g→Ok (k p r) bq):
  Ok (aW (pz t (g.bC.length:Int)) λp=>aW (di g.bC p.1) λr=>k p r) bq:=
 Ok.aW (uK h (by omega)) λp aC=>Ok.aW (qT aC.1.1 (aC.1.2.1 (by omega))) λr aB=>hk p r aC.2 aB.1 (List.mem_map.2 ⟨r,aB.1,rfl⟩)
def QG{n:Int}(h:kZ t)(bu:g.bC.length≤1000)(aR:0≤n∧n≤1000):Ok (Bt t g n) (λp=>(p.1.Pairwise (·<·)∧(∀x∈p.1,x∈ids g)∧(p.1.length:Int)≤n)∧kZ p.2):=by
 unfold Bt;rw[iU (by omega) (by omega)];refine Ok.aW (uK h (by omega)) λq bV=>?_;have Vt:=bV.1.2.1 (by omega);refine asW (λav:cq×Int×cq×Int=>(av.1.Pairwise (·<·)∧(∀x∈av.1,x∈ids g)∧(av.1.length:Int)+av.2.1≤n∧0≤av.2.1)∧kZ (eD.mk av.2.2.1 av.2.2.2)) (λav=>av.2.1.toNat) ⟨⟨by simp,by simp,by simp;omega,bV.1.1⟩,bV.2⟩ (by simp only;omega) ?_;rintro⟨cL,i,L,A⟩ b7 ⟨⟨h1,D,aj,a1⟩,bU⟩ jr;simp only at h1 D aj a1;refine Ok.cs (λaf=>?_) λaf=>Ok.s ⟨⟨h1,D,by simp only;omega⟩,bU⟩;simp only[Bool.and_eq_true,decide_eq_true_eq]at af;refine WX bU (by omega) λp r aC aB sB=>?_;rw[Te _ _ (by omega),eu,iU (by omega) (by omega)];have:=IP cL r.cu;refine jr _ ⟨⟨OK h1,λx u=>?_,by simp only;omega,by simp only;omega⟩,aC⟩ (by simp only;omega);rcases IN.1 u with rfl|u
 ·exact sB
 ·exact D x u
def s1:zu→b6→zu
 |[],x=>[x]
 |y::r,x=>if sQ y x then y::s1 r x else x::y::r
def BT:∀{l:zu} {x y:b6},y∈s1 l x↔y=x∨y∈l
 |[],x,y=>by simp[s1]
 |z::r,x,y=>by
  rw[s1];split
  ·rw[mem_cons,BT,mem_cons];constructor
   ·rintro(h|h|h)<;>simp[h]
   ·rintro(h|h|h)<;>simp[h]
  ·simp
def Pn:∀(l:zu) (x:b6),(s1 l x).Perm (x::l)
 |[],x=>by simp[s1]
 |z::r,x=>by
  rw[s1];split
  ·exact((Pn r x).cons z).trans (.swap x z r)
  ·exact .refl _
def YM{a b:b6}(h:sQ a b=false)(cb:a≠b):sQ b a=true:=by
 cases a;cases b
 simp[sQ]at *;omega
def Rl:∀{l:zu} {x:b6},l.Pairwise (λa b=>sQ a b=true)→x∉l→(s1 l x).Pairwise (λa b=>sQ a b=true)
 |[],x,_,_=>by simp[s1]
 |z::r,x,h,u=>by
  rw[s1];rw[pairwise_cons]at h;simp only[mem_cons,not_or]at u;split
  ·rename_i hz;rw[pairwise_cons];refine⟨λy ag=>?_,Rl h.2 u.2⟩;rcases BT.1 ag with rfl|ag
   ·exact hz
   ·exact h.1 y ag
  ·rename_i hz;have VF:sQ x z=true:=YM (by simpa using hz) (Ne.symm u.1);rw[pairwise_cons,pairwise_cons];refine⟨λy ag=>?_,h⟩;rcases mem_cons.1 ag with rfl|ag
   ·exact VF
   ·exact YK _ _ _ VF (h.1 y ag)
def uz.mono{root:Int}{L w1:zu}(h:∀x∈L,x∈w1){y:Int}(aB:uz root L y):uz root w1 y:=by
 induction aB with
 |root=>exact .root
 |step x u _ bg=>exact .step x (h x u) bg
def vz.reach{t:hq}(h:vz t){x:Int}(u:x=t.mH∨∃h∈t.Links,h.br=x):uz t.mH t.Links x:=by
 rcases u with rfl|⟨y,ag,rfl⟩
 ·exact .root
 ·exact .step y ag (h.Ii y ag)
def vz.add{t:hq}(h:vz t){x:b6}(aB:(1≤x.bz∧x.bz≤99)∧1≤x.br∧x.br≤99)(bm:x.bz=t.mH∨∃h∈t.Links,h.br=x.bz)(bE:¬(x.br=t.mH∨∃h∈t.Links,h.br=x.br)):vz (hq.mk t.mH (s1 t.Links x)):=by
 rw[not_or]at bE;have u:x∉t.Links:=λhm=>bE.2 ⟨x,hm,rfl⟩;have ki:∀y∈t.Links,y∈s1 t.Links x:=λy ag=>BT.2 (.inr ag);refine⟨h.rt,λy ag=>?_,Rl h.nQ u,?_,λy ag=>?_,λy ag=>?_⟩
 ·rcases BT.1 ag with rfl|ag
  ·exact aB
  ·exact h.Im y ag
 ·refine((Pn t.Links x).pairwise_iff (λ{a b} (hW:a.br≠b.br)=>Ne.symm hW)).2 ?_;rw[pairwise_cons];exact⟨λy ag e=>bE.2 ⟨y,ag,e.symm⟩,h.dup⟩
 ·rcases BT.1 ag with rfl|ag
  ·exact bE.1
  ·exact h.VX y ag
 ·rcases BT.1 ag with rfl|ag
  ·exact(h.reach bm).mono ki
  ·exact(h.Ii y ag).mono ki
end
end
section
set_option linter.all false
open Go List
section
abbrev jM:=Int→Int→jo
def qG(c:jM):Prop:=∀x y k,c x y=some k→1≤k
def wR(c:jM):jM:=λx y=>c y x
def qG.rev{c:jM}(h:qG c):qG (wR c):=λx y k hk=>h y x k hk
inductive hA(c:jM)(a:Int):Int→Int→Prop
 |nil:hA c a a 0
 |snoc {x b m k:Int}:hA c a x m→c x b=some k→hA c a b (m+k)
variable {a b m:Int}
def hA.qU{c:jM}(af:qG c)(h:hA c a b m):0≤m:=by
 induction h with
 |nil=>omega
 |snoc _ hk bg=>have:=af _ _ _ hk;omega
variable {x:Int}
def hA.trans{c:jM}{n:Int}(h:hA c a x m)(b3:hA c x b n):hA c a b (m+n):=by
 induction b3 with
 |nil=>simpa using h
 |snoc _ hk bg=>rw[←Int.add_assoc];exact .snoc bg hk
variable {k:Int}
def hA.one{c:jM}(h:c a b=some k):hA c a b k:=by have:=hA.snoc (.nil:hA c a a 0) h;simpa using this
def hA.rev{c:jM}(h:hA c a b m):hA (wR c) b a m:=by
 induction h with
 |nil=>exact .nil
 |@snoc x b m k _ hk bg=>
  have h1:hA (wR c) b x k:=.one hk;have:=h1.trans bg
  rwa [Int.add_comm]at this
def hA.Tf{c:jM}(h:hA (wR c) a b m):hA c b a m:=h.rev
def uy(c:jM)(a b k:Int):Prop:=hA c a b k∧∀m,hA c a b m→k≤m
def uy.uniq{c:jM}(h:uy c a b k)(b3:uy c a b m):k=m:=by
 have:=h.2 _ b3.1;have:=b3.2 _ h.1;omega
def RQ{c:jM}(af:qG c)(h:hA c a b m):∃k,uy c a b k∧k≤m:=by
 have key:∀(n:Nat) (m:Int),m.toNat=n→hA c a b m→∃k,uy c a b k∧k≤m:=by
  intro n;induction n using Nat.strongRecOn with
  |_ n bg=>
   intro m aR h;by_cases pO:∀hF,hA c a b hF→m≤hF
   ·exact⟨m,⟨h,pO⟩,Int.le_refl _⟩
   ·have pO:∃hF,hA c a b hF∧¬m≤hF:=by
     refine Classical.byContradiction λaR=>pO λhF h=>?_;by_cases hle:m≤hF
     ·exact hle
     ·exact absurd ⟨hF,h,hle⟩ aR
    obtain⟨hF,h1,D⟩:=pO;have aj:=h1.qU af;obtain⟨k,gv,cK⟩:=bg hF.toNat (by omega) hF rfl h1;exact⟨k,gv,by omega⟩
 exact key _ m rfl h
open Classical in
noncomputable def dst(c:jM)(a b:Int):jo:=if h:∃k,uy c a b k then some (Classical.choose h)else none
def nw{c:jM}:dst c a b=some k↔uy c a b k:=by
 unfold dst;constructor
 ·intro h;split at h
  ·rename_i u;cases h;exact Classical.choose_spec u
  ·cases h
 ·intro h;rw[dif_pos ⟨k,h⟩];exact congrArg some ((Classical.choose_spec (⟨k,h⟩:∃k,uy c a b k)).uniq h)
def QK{c:jM}(af:qG c):dst c a b=none↔∀m,¬hA c a b m:=by
 constructor
 ·intro h m hm;obtain⟨k,h1,_⟩:=RQ af hm;rw[nw.2 h1]at h;cases h
 ·intro h;cases Z:dst c a b with
  |none=>rfl
  |some k=>exact absurd (nw.1 Z).1 (h k)
def QL{c:jM}(af:qG c)(a:Int):dst c a a=some 0:=nw.2 ⟨.nil,λm h=>h.qU af⟩
def RR{c:jM}(af:qG c)(h:hA c a b m):∃k,dst c a b=some k∧k≤m:=by
 obtain⟨k,h1,D⟩:=RQ af h;exact⟨k,nw.2 h1,D⟩
def H3{c:jM}(af:qG c)(h:dst c a b=some k):0≤k:=(nw.1 h).1.qU af
def Ro{c:jM}:uy (wR c) a b k↔uy c b a k:=
 ⟨λh=>⟨h.1.Tf,λm hm=>h.2 m hm.rev⟩,λh=>⟨h.1.rev,λm hm=>h.2 m hm.Tf⟩⟩
def Rp{c:jM}(a b:Int):dst (wR c) a b=dst c b a:=by
 cases h:dst c b a with
 |some k=>exact nw.2 (Ro.2 (nw.1 h))
 |none=>
  cases b3:dst (wR c) a b with
  |none=>rfl
  |some k=>rw[nw.2 (Ro.1 (nw.1 b3))]at h;cases h
def aak{c:jM}(h:dst c a b=some k)(cb:a≠b):∃x w m,dst c a x=some m∧c x b=some w∧k=m+w:=by
 obtain⟨h1,D⟩:=nw.1 h;cases h1 with
 |nil=>exact absurd rfl cb
 |@snoc x b m w u an=>exact⟨x,w,m,nw.2 ⟨u,λhF b3=>by have:=D _ (.snoc b3 an);omega⟩,an,rfl⟩
def YO{c:jM}(h:dst c a b=some k)(cb:a≠b):∃x w m,c a x=some w∧dst c x b=some m∧k=w+m:=by
 rw[←Rp]at h;obtain⟨x,w,m,h1,D,aj⟩:=aak h (Ne.symm cb);rw[Rp]at h1;exact⟨x,w,m,D,h1,by omega⟩
def XL{c:jM}(af:qG c){w:Int}(h:c a x=some w)(b3:dst c x b=some m):∃k,dst c a b=some k∧k≤w+m:=
 RR af ((hA.one h).trans (nw.1 b3).1)
def iL(t:bA):jM:=λx y=>if uo t x y then some (zR t x y).1 else none
variable {t:bA}
def Pp(aa:fH t){y:Int}(h:uo t x y=true):1≤(zR t x y).1∧(zR t x y).1≤1000:=by
 obtain⟨l,h1,D⟩:=rQ.1 h;have he:lU l x y=true:=by simp[lU];exact D
 rw[rP aa h1 he];have:=aa.HX l h1;simp only[qx,Bool.or_eq_false_iff,Bool.not_eq_false',wq,Bool.and_eq_true,decide_eq_true_eq]at this;unfold qn;by_cases U:(decide (l.A=x)&&decide (l.B=y))=true
 ·simp only[U,cond_true];omega
 ·simp only[Bool.not_eq_true]at U;simp only[U,cond_false];omega
def u7(aa:fH t):qG (iL t):=λx y k h=>by
 unfold iL at h;split at h
 ·rename_i ay;cases h;exact(Pp aa ay).1
 ·cases h
def tY{y:Int}:iL t x y=some k↔uo t x y=true∧(zR t x y).1=k:=by
 unfold iL;split
 ·rename_i h;simp[h]
 ·rename_i h;simp[h]
def Ce(aa:fH t){y:Int}(h:iL t x y=some k):1≤k∧k≤1000:=by
 obtain⟨h1,rfl⟩:=tY.1 h;exact Pp aa h1
def we(aa:fH t){y:Int}(h:iL t x y=some k):x∈ids t∧y∈ids t:=by
 obtain⟨h1,_⟩:=tY.1 h;exact⟨I3 aa (PY h1),I3 aa h1⟩
def hA.ids{t:bA}(aa:fH t){a b m:Int}(h:hA (iL t) a b m)(ay:a∈ids t):b∈ids t:=by
 cases h with
 |nil=>exact ay
 |snoc _ hk=>exact(we aa hk).2
end
section
def ic{α:Type}(l:List (Int×α)):Prop:=(l.map (·.1)).Nodup
variable {α:Type}{l:List (Int×α)}
def ZQ{n:Int}{v:α}(h:aD l n=some v):(n,v)∈l:=by
 induction l with
 |nil=>simp[aD]at h
 |cons p r bg=>
  rw[jN]at h;split at h
  ·rename_i aC;cases h;subst aC;exact mem_cons_self
  ·exact mem_cons_of_mem _ (bg h)
def N0{n:Int}{v:α}(hk:ic l)(h:(n,v)∈l):aD l n=some v:=by
 induction l with
 |nil=>simp at h
 |cons p r bg=>
  simp only[ic,map_cons,nodup_cons]at hk;rw[jN];rcases mem_cons.1 h with rfl|h
  ·rw[if_pos rfl]
  ·have:p.1≠n:=λe=>hk.1 (by rw[e];exact List.mem_map.2 ⟨_,h,rfl⟩);rw[if_neg this];exact bg hk.2 h
def tZ{n:Int}:(aD l n).isSome=true↔n∈l.map (·.1):=by
 induction l with
 |nil=>simp[aD]
 |cons p r bg=>
  rw[jN];by_cases aC:p.1=n
  ·simp[aC]
  ·rw[if_neg aC,bg];simp[Ne.symm aC]
def ZR{n m:Int}{v:α}:m∈(bG l n v).map (·.1)↔m=n∨m∈l.map (·.1):=by
 rw[←tZ,←tZ,k3];by_cases h:m=n<;>simp[h]
def xU{n:Int}{v:α}(hk:ic l):ic (bG l n v):=by
 induction l with
 |nil=>simp[bG,ic]
 |cons p r bg=>
  simp only[ic,map_cons,nodup_cons]at hk;simp only[bG];split
  ·rename_i aC;subst aC;simp only[ic,map_cons,nodup_cons];exact hk
  ·rename_i aC;simp only[ic,map_cons,nodup_cons];refine⟨λhm=>?_,bg hk.2⟩;rcases ZR.1 hm with h|h
   ·exact aC h
   ·exact hk.1 h
def Oj{n:Int}(hk:ic l)(m:Int):aD (oK l n) m=if m=n then none else aD l m:=by
 induction l with
 |nil=>simp[oK,aD]
 |cons p r bg=>
  simp only[ic,map_cons,nodup_cons]at hk;simp only[oK];by_cases aC:p.1=n
  ·rw[if_pos aC];by_cases hm:m=n
   ·rw[if_pos hm];cases bu:aD r m with
    |none=>rfl
    |some v=>exact absurd (tZ.1 (by rw[bu];rfl)) (by rw[hm,←aC];exact hk.1)
   ·rw[if_neg hm,jN,if_neg (λe=>hm (by rw[←e,aC]))]
  ·rw[if_neg aC,jN,jN,bg hk.2];by_cases hm:p.1=m
   ·rw[if_pos hm,if_pos hm,if_neg (λe=>aC (by rw[hm,e]))]
   ·rw[if_neg hm,if_neg hm]
def acX{n:Int}(hk:ic l):ic (oK l n):=by
 induction l with
 |nil=>exact hk
 |cons p r bg=>
  simp only[ic,map_cons,nodup_cons]at hk;simp only[oK];split
  ·exact hk.2
  ·rename_i aC;simp only[ic,map_cons,nodup_cons];refine⟨λhm=>hk.1 ?_,bg hk.2⟩;have:=tZ.2 hm;rw[Oj hk.2]at this;split at this
   ·cases this
   ·exact tZ.1 this
variable {V:cq}
def ic.len(hk:ic l)(h:∀n v,aD l n=some v→n∈V):l.length≤V.length:=by
 have:=NI hk λx u=>by
  obtain⟨v,aa⟩:=Option.isSome_iff_exists.1 (tZ.2 u);exact h x v aa
 simpa using this
def ic.all(hk:ic l)(GH:V.Nodup)(h:∀n v,aD l n=some v→n∈V)(he:V.length≤l.length){x:Int}(u:x∈V):(aD l x).isSome=true:=by
 refine Classical.byContradiction λaR=>?_
 have h1:∀y∈l.map (·.1),y∈V.erase x:=λy ag=>by
  obtain⟨v,aa⟩:=Option.isSome_iff_exists.1 (tZ.2 ag);refine(List.mem_erase_of_ne λe=>aR ?_).2 (h y v aa);rw[←e,aa];rfl
 have D:=NI hk h1;rw[length_map,length_erase_of_mem u]at D;have:=length_pos_of_mem u;omega
def FX(m:List (Int×Int))(n v b:Int):Bool:=((decide (b=(0:Int)))||((decide (v<((aD m b).getD (0:Int))))||((decide (v=((aD m b).getD (0:Int))))&&(decide (n<b)))))
def FD(m:List (Int×Int)):Int→Int→Int→jo:=λn v b=>bif FX m n v b then some n else some b
def Pq{m:List (Int×Int)}(bM:∀n v,aD m n=some v→n≠0):∀(l:List (Int×Int)) (s:Int),(∀p∈l,aD m p.1=some p.2)→(s=0∨∃k,aD m s=some k)→
  ∃b,mg (FD m) l s=some b∧(b=s∨∃v,(b,v)∈l)∧(l≠[]→b≠0)∧(s≠0→b≠0)∧∀n v,((n,v)∈l∨(n=s∧s≠0∧aD m s=some v))→∀k,aD m b=some k→k<v∨(k=v∧b≤n)
 |[],s,_,X=>⟨s,rfl,.inl rfl,by simp,id,λn v h k hk=>by
   rcases h with h|⟨rfl,_,h⟩
   ·simp at h
   ·rw[hk]at h;cases h;exact .inr ⟨rfl,Int.le_refl _⟩⟩
 |(n,v)::r,s,aH,X=>by
  have aR:=aH (n,v) (by simp);have akt:=bM n v aR;have step:∃cO,FD m n v s=some cO∧(cO=n∨cO=s)∧cO≠0∧(∀k,aD m cO=some k→k<v∨(k=v∧cO≤n))∧(s≠0→∀w,aD m s=some w→∀k,aD m cO=some k→k<w∨(k=w∧cO≤s)):=by
   unfold FD;cases U:FX m n v s with
   |true=>
    refine⟨n,rfl,.inl rfl,akt,λk hk=>by rw[aR]at hk;cases hk;exact .inr ⟨rfl,Int.le_refl _⟩,λlY w an k hk=>?_⟩;rw[aR]at hk;cases hk
    simp only[FX,an,Option.getD_some,Bool.or_eq_true,Bool.and_eq_true,decide_eq_true_eq]at U;rcases U with U|U|⟨U,eS⟩
    ·exact absurd U lY
    ·exact .inl U
    ·exact .inr ⟨U,by omega⟩
   |false=>
    simp only[FX,Bool.or_eq_false_iff,Bool.and_eq_false_iff,decide_eq_false_iff_not]at U;obtain⟨dO,ep,hg⟩:=U;refine⟨s,rfl,.inr rfl,dO,λk hk=>?_,λ_ w an k hk=>by rw[an]at hk;cases hk;exact .inr ⟨rfl,Int.le_refl _⟩⟩;rw[hk]at ep hg;simp only[Option.getD_some]at ep hg;by_cases GP:k=v
    ·refine .inr ⟨GP,?_⟩;rcases hg with hg|hg
     ·exact absurd GP.symm hg
     ·omega
    ·exact .inl (by omega)
  obtain⟨cO,aJ,e2,dm,gb,gU⟩:=step;have fF:cO=0∨∃k,aD m cO=some k:=by
   rcases e2 with rfl|rfl
   ·exact .inr ⟨v,aR⟩
   ·exact X
  obtain⟨b,ak,ar,aM,aK,be⟩:=Pq bM r cO (λp aC=>aH p (by simp[aC])) fF;refine⟨b,by simp only[mg,aJ];exact ak,?_,λ_=>aK dm,λ_=>aK dm,λiE dF h k hk=>?_⟩
  ·rcases ar with rfl|⟨w,an⟩
   ·rcases e2 with rfl|rfl
    ·exact .inr ⟨v,by simp⟩
    ·exact .inl rfl
   ·exact .inr ⟨w,by simp[an]⟩
  ·
   obtain⟨ks,y3⟩:=fF.resolve_left dm;have aqt:=be cO ks (.inr ⟨rfl,dm,y3⟩) k hk;rcases h with h|⟨rfl,GV,h⟩
   ·rcases mem_cons.1 h with h|h
    ·simp only[Prod.mk.injEq]at h;obtain⟨rfl,rfl⟩:=h;have:=gb ks y3;omega
    ·exact be iE dF (.inl h) k hk
   ·have:=gU GV dF h ks y3;omega
def ZS{m:List (Int×Int)}(h8:ic m)(bM:∀n v,aD m n=some v→n≠0)(cb:m≠[]):
  ∃b k,aD m b=some k∧(∀n v,aD m n=some v→k<v∨(k=v∧b≤n))∧xX m (FD m) 0=some b:=by
 have all:∀gV:List (Int×Int),gV.Perm m→∃b k,mg (FD m) gV 0=some b∧aD m b=some k∧∀n v,aD m n=some v→k<v∨(k=v∧b≤n):=λgV aH=>by
  obtain⟨b,ak,ar,aM,aK,be⟩:=Pq bM gV 0 (λp aC=>N0 h8 (aH.mem_iff.1 aC)) (.inl rfl);have U:=aM λe=>cb (by rw[e]at aH;exact aH.symm.eq_nil);rcases ar with rfl|⟨k,hk⟩
  ·exact absurd rfl U
  ·have bu:=N0 h8 (aH.mem_iff.1 hk);exact⟨b,k,ak,bu,λn v aa=>be n v (.inl (aH.mem_iff.2 (ZQ aa))) k bu⟩
 obtain⟨b,k,h1,D,aj⟩:=all m (List.Perm.refl m);refine⟨b,k,D,aj,PT λgV aH=>?_⟩;obtain⟨aP,dS,cp,cG,gC⟩:=all gV aH;have aJ:=aj aP dS cG;have e2:=gC b k D;have:aP=b:=by omega
 rw[cp,this]
structure As(gj:List (Int×List ey))(V:List Int)(c:jM):Prop where
 keys:∀x,(aD gj x).isSome=true↔x∈V
 len:gj.length=V.length
 nd:V.Nodup
 small:V.length≤24
 nz:∀x∈V,x≠0
 row:∀x y k,(∃s∈(aD gj x).getD [],s.gX=y∧s.lB=k)↔c x y=some k
 cs:∀x y k,c x y=some k→1≤k∧k≤1000
 Hh:∀x y k,c x y=some k→y∈V
structure Ar(V:List Int)(c:jM)(a:Int)(cL oM:List (Int×Int)):Prop where
 Mv:ic cL
 kp:ic oM
 BQ:∀x k,aD cL x=some k→x∈V∧dst c a x=some k∧k≤1000*(cL.length:Int)
 MQ:∀x k,aD oM x=some k→x∈V∧aD cL x=none∧hA c a x k∧k≤1000*(cL.length:Int)
 cl:∀x k y w,aD cL x=some k→c x y=some w→(aD cL y).isSome=true∨∃m,aD oM y=some m∧m≤k+w
 st:(aD cL a).isSome=true∨∃k,aD oM a=some k∧k≤0
variable {gj:List (Int×xQ)}
def As.pos{c:jM}(h:As gj V c):qG c:=λx y k hk=>(h.cs x y k hk).1
variable {a:Int}{cL oM:List (Int×Int)}
def Ar.front{c:jM}(af:qG c)(h:Ar V c a cL oM){z m:Int}(an:hA c a z m):(aD cL z).isSome=true∨∃y k,aD oM y=some k∧k≤m:=by
 induction an with
 |nil=>
  rcases h.st with q|⟨k,ak,ar⟩
  ·exact .inl q
  ·exact .inr ⟨a,k,ak,ar⟩
 |@snoc x b m k u hk bg=>
  have:=af _ _ _ hk;rcases bg with q|⟨y,dS,ak,ar⟩
  ·obtain⟨d,Z⟩:=Option.isSome_iff_exists.1 q;have hle:=(nw.1 (h.BQ x d Z).2.1).2 _ u;rcases h.cl x d b k Z hk with q|⟨hF,ak,ar⟩
   ·exact .inl q
   ·exact .inr ⟨b,hF,ak,by omega⟩
  ·exact .inr ⟨y,dS,ak,by omega⟩
def Ar.done{c:jM}(af:qG c)(h:Ar V c a cL oM)(fB:∀z m,hA c a z m→(aD cL z).isSome=true)(x:Int):aD cL x=dst c a x:=by
 cases Z:dst c a x with
 |some k=>
  obtain⟨dS,xw⟩:=Option.isSome_iff_exists.1 (fB x k (nw.1 Z).1);have:=(h.BQ x dS xw).2.1;rw[Z]at this;cases this;exact xw
 |none=>
  cases ai:aD cL x with
  |none=>rfl
  |some k=>have:=(h.BQ x k ai).2.1;rw[Z]at this;cases this
def ae4{n:Int}(bM : -1000000≤n)(h1:n≤4000000000):aF n=n:=by unfold aF;rw[IntKind.wrap_i64];omega
def aiJ{c:jM}(h:As gj V c)(ay:a∈V):
  Ok (xa gj a) (λl=>ic l∧(∀x,aD l x=dst c a x)∧∀x k,dst c a x=some k→0≤k∧k≤24000):=by
 have af:=h.pos
 have fin:∀cL oM,Ar V c a cL oM→(∀z m,hA c a z m→(aD cL z).isSome=true)→ic cL∧(∀x,aD cL x=dst c a x)∧∀x k,dst c a x=some k→0≤k∧k≤24000:=λcL oM eX fB=>by
  have Z:=eX.done af fB;refine⟨eX.Mv,Z,λx k hk=>⟨H3 af hk,?_⟩⟩;rw[←Z x]at hk;have h1:=(eX.BQ x k hk).2.2;have D:=eX.Mv.len (V:=V) λn v aa=>(eX.BQ n v aa).1;have:=h.small;omega
 unfold xa;rw[show(aD gj a).isSome=true from(h.keys a).2 ay];simp only[Bool.not_true,cond_false];refine asQ (λs=>ic s.1∧(∀x,aD s.1 x=dst c a x)∧∀x k,dst c a x=some k→0≤k∧k≤24000) (λs X=>.s X) λJ iQ=>?_;refine asW (λs=>Ar V c a s.1 s.2) (λs=>V.length+1-s.1.length) ?_ (by have:=h.small;omega) ?_
 ·refine⟨nodup_nil,by simp[ic,bG],λx k hk=>by simp[aD]at hk,λx k hk=>?_,λx k y w hk=>by simp[aD]at hk,.inr ⟨0,by rw[k3,if_pos rfl],Int.le_refl _⟩⟩;rw[k3]at hk;split at hk
  ·rename_i e;subst e;cases hk;exact⟨ay,rfl,.nil,by simp⟩
  ·simp[aD]at hk
 rintro⟨cL,oM⟩ b7 eX jr;simp only at eX jr ⊢;refine Ok.cs (λh1=>?_) λh1=>?_
 ·have cb:oM≠[]:=λe=>by simp[e]at h1
  have bM:∀n v,aD oM n=some v→n≠0:=λn v aa=>h.nz n (eX.MQ n v aa).1;obtain⟨b,k,U,pO,akz⟩:=ZS eX.kp bM cb;refine Ok.aW (P:=λx=>x=b) ⟨b,akz,rfl⟩ λx u=>?_;subst u;simp only[U,Option.getD_some];obtain⟨aio,UA,Gr,apD⟩:=eX.MQ x k U
  have bd:dst c a x=some k:=nw.2 ⟨Gr,λm hm=>by
   rcases eX.front af hm with q|⟨y,dS,ak,ar⟩
   ·rw[UA]at q;cases q
   ·have:=pO y dS ak;omega⟩
  have eA:(bG cL x k).length=cL.length+1:=aah UA;have Hv:ic (bG cL x k):=xU eX.Mv;have rR:=Gr.qU af
  have HT:∀y d,aD (bG cL x k) y=some d→y∈V∧dst c a y=some d∧d≤1000*((bG cL x k).length:Int):=λy d ag=>by
   rw[k3]at ag;rw[eA];split at ag
   ·rename_i e;subst e;cases ag;exact⟨aio,bd,by omega⟩
   ·obtain⟨ak,ar,aM⟩:=eX.BQ y d ag;exact⟨ak,ar,by omega⟩
  have arq:(bG cL x k).length≤V.length:=Hv.len λn v aa=>(HT n v aa).1
  have V0:∀y,(aD cL y).isSome=true→(aD (bG cL x k) y).isSome=true:=λy ag=>by
   rw[k3];split
   ·rfl
   ·exact ag
  refine Ok.cs (λD=>iQ _ ?_) λD=>?_
  ·
   have D:(bG cL x k).length=gj.length:=by have:=of_decide_eq_true D;omega
   have fB:∀z∈V,(aD (bG cL x k) z).isSome=true:=λz hz=>Hv.all h.nd (λn v aa=>(HT n v aa).1) (by rw[D,h.len];exact Nat.le_refl _) hz
   have an0:∀z m,hA c a z m→z∈V:=λz m an=>by
    cases an with
    |nil=>exact ay
    |snoc _ hk=>exact h.Hh _ _ _ hk
   refine fin _ [] ⟨Hv,nodup_nil,HT,λy d ag=>by simp[aD]at ag,λy d z w ag an=>.inl (fB z (h.Hh _ _ _ an)),.inl (fB a ay)⟩ λz m an=>fB z (an0 z m an)
  ·refine as7 (L:=(aD gj x).getD []) (λp m=>ic m∧(∀y d,aD m y=some d→y∈V∧aD (bG cL x k) y=none∧hA c a y d∧d≤1000*((bG cL x k).length:Int))∧(∀y d,y≠x→aD oM y=some d→∃dh,aD m y=some dh∧dh≤d)∧
    ∀s∈p,(aD (bG cL x k) s.gX).isSome=true∨∃dh,aD m s.gX=some dh∧dh≤k+s.lB) ?_ _ ?_ ?_
   ·rintro p s r m hR mh ⟨lG,lH,i3,l0⟩ DN;have X:s∈(aD gj x).getD []:=by rw[mh];simp
    have yS:=(h.row x s.gX s.lB).1 ⟨s,X,rfl,rfl⟩;obtain⟨bl,b2⟩:=h.cs _ _ _ yS;have an:aF (k+s.lB)=k+s.lB:=ae4 (by omega) (by have:=h.small;omega)
    refine asQ (λhF=>ic hF∧(∀y d,aD hF y=some d→y∈V∧aD (bG cL x k) y=none∧hA c a y d∧d≤1000*((bG cL x k).length:Int))∧(∀y d,y≠x→aD oM y=some d→∃dh,aD hF y=some dh∧dh≤d)∧
     ∀cO∈p++[s],(aD (bG cL x k) cO.gX).isSome=true∨∃dh,aD hF cO.gX=some dh∧dh≤k+cO.lB) (λhF lC=>DN hF lC) λfZ j1=>?_
    refine Ok.cs (λcp=>j1 m ⟨lG,lH,i3,λcO fF=>?_⟩) λcp=>Ok.cs (λcG=>j1 _ ?_) λcG=>j1 m ⟨lG,lH,i3,λcO fF=>?_⟩
    ·rcases List.mem_append.1 fF with fF|fF
     ·exact l0 cO fF
     ·rw[List.mem_singleton.1 fF];exact .inl cp
    ·
     rw[an];rw[an]at cG;refine⟨xU lG,λy d ag=>?_,λy d rO ag=>?_,λcO fF=>?_⟩
     ·rw[k3]at ag;split at ag
      ·rename_i e;subst e;cases ag
       refine⟨h.Hh _ _ _ yS,by simpa using cp,.snoc Gr yS,by rw[eA];omega⟩
      ·exact lH y d ag
     ·obtain⟨dh,ak,ar⟩:=i3 y d rO ag;rw[k3];by_cases e:y=s.gX
      ·rw[if_pos e];refine⟨_,rfl,?_⟩;subst e;rw[ak]at cG;simp at cG;omega
      ·rw[if_neg e];exact⟨dh,ak,ar⟩
     ·rw[k3 m];by_cases e:cO.gX=s.gX
      ·rcases List.mem_append.1 fF with fF|fF
       ·rcases l0 cO fF with q|⟨dh,ak,ar⟩
        ·exact .inl q
        ·right;rw[if_pos e];refine⟨_,rfl,?_⟩;rw[e]at ak;rw[ak]at cG;simp at cG;omega
       ·rw[List.mem_singleton.1 fF,if_pos rfl];exact .inr ⟨_,rfl,Int.le_refl _⟩
      ·rw[if_neg e];rcases List.mem_append.1 fF with fF|fF
       ·exact l0 cO fF
       ·exact absurd (by rw[List.mem_singleton.1 fF]) e
    ·rcases List.mem_append.1 fF with fF|fF
     ·exact l0 cO fF
     ·rw[List.mem_singleton.1 fF];right;rw[an]at cG;simp only[Bool.or_eq_false_iff,Bool.not_eq_false',decide_eq_false_iff_not]at cG;obtain⟨dh,dH⟩:=Option.isSome_iff_exists.1 cG.1;refine⟨dh,dH,?_⟩;have:=cG.2;rw[dH]at this;simp at this;omega
   ·refine⟨acX eX.kp,λy d ag=>?_,λy d rO ag=>⟨d,by rw[Oj eX.kp,if_neg rO];exact ag,Int.le_refl _⟩,λs X=>by simp at X⟩;rw[Oj eX.kp]at ag;split at ag
    ·cases ag
    ·rename_i e;obtain⟨ak,ar,aM,aK⟩:=eX.MQ y d ag;exact⟨ak,by rw[k3,if_neg e];exact ar,aM,by rw[eA];omega⟩
   ·rintro m ⟨lG,lH,i3,l0⟩;refine jr _ ⟨Hv,lG,HT,lH,λy d z w ag an=>?_,?_⟩ (by simp only[eA];omega)
    ·rw[k3]at ag;split at ag
     ·rename_i e;subst e;cases ag
      obtain⟨s,X,rfl,rfl⟩:=(h.row _ _ _).2 an;exact l0 s X
     ·rcases eX.cl y d z w ag an with q|⟨hF,ak,ar⟩
      ·exact .inl (V0 z q)
      ·by_cases e:z=x
       ·left;rw[k3,if_pos e];rfl
       ·obtain⟨dh,gJ,gA⟩:=i3 z hF e ak;exact .inr ⟨dh,gJ,by omega⟩
    ·rcases eX.st with q|⟨dS,ak,ar⟩
     ·exact .inl (V0 a q)
     ·by_cases e:a=x
      ·left;rw[k3,if_pos e];rfl
      ·obtain⟨dh,gJ,gA⟩:=i3 a dS e ak;exact .inr ⟨dh,gJ,by omega⟩
 ·
  have he:oM=[]:=by
   have:=of_decide_eq_false h1;exact eq_nil_of_length_eq_zero (by omega)
  subst he;refine iQ _ (fin _ _ eX λz m an=>?_);rcases eX.front af an with q|⟨y,k,q,_⟩
  ·exact q
  ·simp[aD]at q
def acY(ay:(aD gj a).isSome=false):xa gj a=some []:=by
 unfold xa;rw[ay];rfl
end
section
def WY{α:Type}{ee:α→α→Int}(bE:∀a b c,ee a b<0→ee b c<0→ee a c<0):∀{l:List α},(l.Pairwise λa b=>ee a b<0∨ee b a<0)→(rS ee l).Pairwise λa b=>ee a b<0
 |[],_=>Pairwise.nil
 |x::r,h=>by
  rw[pairwise_cons]at h;have bg:=WY bE h.2;have u:∀y∈rS ee r,ee x y<0∨ee y x<0:=λy ag=>h.1 y ((Br ee r).mem_iff.1 ag);simp only[rS];generalize rS ee r=m at bg u;clear h;induction m with
  |nil=>simp[wL]
  |cons y m zm=>
   rw[pairwise_cons]at bg;simp only[wL];split
   ·rename_i rO;rw[pairwise_cons];refine⟨λz hz=>?_,zm bg.2 λz hz=>u z (by simp[hz])⟩;rcases mem_cons.1 ((Ix ee x m).mem_iff.1 hz)with rfl|hz
    ·exact rO
    ·exact bg.1 z hz
   ·rename_i rO;have m0:=(u y (by simp)).resolve_right rO;rw[pairwise_cons];refine⟨λz hz=>?_,pairwise_cons.2 bg⟩;rcases mem_cons.1 hz with rfl|hz
    ·exact m0
    ·exact bE _ _ _ m0 (bg.1 z hz)
def Pr{α:Type}{ee:α→α→Int}:∀{l:List α},(l.Pairwise λa b=>ee a b<0)→wM ee l=true
 |[],_=>rfl
 |[x],_=>rfl
 |a::b::r,h=>by
  rw[pairwise_cons]at h;simp only[wM,Bool.and_eq_true,decide_eq_true_eq];exact⟨h.1 b (by simp),Pr h.2⟩
def Yh{α:Type}(f:α→Int){a b:List α}(ay:a.Pairwise λx y=>f x<f y)(U:b.Pairwise λx y=>f x<f y)(h:∀x,x∈a↔x∈b):a=b:=by
 induction a generalizing b with
 |nil=>
  cases b with
  |nil=>rfl
  |cons y b=>exact absurd ((h y).2 (by simp)) (by simp)
 |cons x a bg=>
  cases b with
  |nil=>exact absurd ((h x).1 (by simp)) (by simp)
  |cons y b=>
   rw[pairwise_cons]at ay U;have m0:x=y:=by
    have h1:=(h x).1 (by simp);have D:=(h y).2 (by simp);rw[mem_cons]at h1 D;rcases h1 with h1|h1
    ·exact h1
    ·rcases D with D|D
     ·exact D.symm
     ·have:=U.1 _ h1;have:=ay.1 _ D;omega
   subst m0;congr 1;refine bg ay.2 U.2 λz=>?_;have:=h z;simp only[mem_cons]at this;constructor
   ·intro hz;rcases this.1 (.inr hz)with q|q
    ·subst q;have:=ay.1 _ hz;omega
    ·exact q
   ·intro hz;rcases this.2 (.inr hz)with q|q
    ·subst q;have:=U.1 _ hz;omega
    ·exact q
def ic.ext{α:Type}:∀{l m:List (Int×α)},ic l→l.map (·.1)=m.map (·.1)→(∀x,aD l x=aD m x)→l=m
 |[],m,_,hk,_=>by
  cases m with
  |nil=>rfl
  |cons q m=>simp at hk
 |(n,v)::l,[],_,hk,_=>by simp at hk
 |(n,v)::l,(iE,dF)::m,aR,hk,h=>by
  simp only[map_cons,List.cons.injEq]at hk;obtain⟨rfl,hk⟩:=hk;simp only[ic,map_cons,nodup_cons]at aR;have h1:=h n;rw[jN,jN,if_pos rfl,if_pos rfl]at h1;cases h1;congr 1;refine ic.ext aR.2 hk λx=>?_;have D:=h x;rw[jN,jN]at D;by_cases u:n=x
  ·subst u;have aJ:aD l n=none:=by
    cases bu:aD l n with
    |none=>rfl
    |some a=>exact absurd (tZ.1 (by rw[bu];rfl)) aR.1
   have e2:aD m n=none:=by
    cases bu:aD m n with
    |none=>rfl
    |some a=>exact absurd (by rw[hk];exact tZ.1 (by rw[bu];rfl)) aR.1
   rw[aJ,e2]
  ·rwa [if_neg u,if_neg u]at D
def eO(x:Int)(l:dR):Option ey:=if l.A=x then some ⟨l.B,l.kP⟩else if l.B=x then some ⟨l.A,l.kQ⟩else none
def tV(x:Int)(l:dR):Option ey:=if l.B=x then some ⟨l.A,l.kP⟩else if l.A=x then some ⟨l.B,l.kQ⟩else none
variable {t:bA}
def QM(aa:fH t)(x y k:Int):(∃s∈t.Links.filterMap (eO x),s.gX=y∧s.lB=k)↔iL t x y=some k:=by
 rw[tY];constructor
 ·rintro⟨s,X,rfl,rfl⟩;obtain⟨l,aH,he⟩:=List.mem_filterMap.1 X;have bL:=aa.lt l aH;unfold eO at he;split at he
  ·rename_i eo;cases he
   have h1:lU l x l.B=true:=by simp[lU,eo]
   refine⟨rQ.2 ⟨l,aH,.inl ⟨eo,rfl⟩⟩,?_⟩;rw[rP aa aH h1];simp[qn,eo]
  ·split at he
   ·rename_i eo dc;cases he
    have h1:lU l x l.A=true:=by simp[lU,dc]
    refine⟨rQ.2 ⟨l,aH,.inr ⟨dc,rfl⟩⟩,?_⟩;rw[rP aa aH h1];simp[qn,eo]
   ·cases he
 ·rintro⟨h1,rfl⟩;obtain⟨l,aH,he⟩:=rQ.1 h1;have bL:=aa.lt l aH;rcases he with⟨rfl,rfl⟩|⟨rfl,rfl⟩
  ·refine⟨⟨l.B,l.kP⟩,List.mem_filterMap.2 ⟨l,aH,by simp[eO]⟩,rfl,?_⟩;rw[rP aa aH (by simp[lU])];simp[qn]
  ·refine⟨⟨l.A,l.kQ⟩,List.mem_filterMap.2 ⟨l,aH,by have:l.A≠l.B:=by omega
                                                   simp[eO,this]⟩,rfl,?_⟩
   have:l.A≠l.B:=by omega
   rw[rP aa aH (by simp[lU])];simp[qn,this]
def acZ(aa:fH t)(x y k:Int):(∃s∈t.Links.filterMap (tV x),s.gX=y∧s.lB=k)↔wR (iL t) x y=some k:=by
 show _↔iL t y x=some k;rw[tY];constructor
 ·rintro⟨s,X,rfl,rfl⟩;obtain⟨l,aH,he⟩:=List.mem_filterMap.1 X;have bL:=aa.lt l aH;unfold tV at he;split at he
  ·rename_i dc;cases he
   have h1:lU l l.A x=true:=by simp[lU,dc]
   refine⟨rQ.2 ⟨l,aH,.inl ⟨rfl,dc⟩⟩,?_⟩;rw[rP aa aH h1];simp[qn,dc]
  ·split at he
   ·rename_i dc eo;cases he
    have h1:lU l l.B x=true:=by simp[lU,eo]
    refine⟨rQ.2 ⟨l,aH,.inr ⟨rfl,eo⟩⟩,?_⟩;have:¬l.A=l.B:=by omega
    rw[rP aa aH h1];simp[qn,this]
   ·cases he
 ·rintro⟨h1,rfl⟩;obtain⟨l,aH,he⟩:=rQ.1 h1;have bL:=aa.lt l aH;rcases he with⟨rfl,rfl⟩|⟨rfl,rfl⟩
  ·refine⟨⟨l.A,l.kP⟩,List.mem_filterMap.2 ⟨l,aH,by simp[tV]⟩,rfl,?_⟩;rw[rP aa aH (by simp[lU])];simp[qn]
  ·refine⟨⟨l.B,l.kQ⟩,List.mem_filterMap.2 ⟨l,aH,by have:l.B≠l.A:=by omega
                                                   simp[tV,this]⟩,rfl,?_⟩
   have:l.A≠l.B:=by omega
   rw[rP aa aH (by simp[lU])];simp[qn,this]
def Ao(t:bA)(x:Int):xQ:=(FW t x).map λy=>⟨y,(zR t x y).1⟩
def Ol(aa:fH t){x:Int}{s:ey}:s∈Ao t x↔iL t x s.gX=some s.lB:=by
 rw[tY];simp only[Ao,List.mem_map,YJ aa];constructor
 ·rintro⟨y,h,rfl⟩;exact⟨h,rfl⟩
 ·rintro⟨h1,D⟩;exact⟨s.gX,h1,by rw[D]⟩
def ZT(aa:fH t)(x:Int):(Ao t x).Pairwise λa b=>a.gX<b.gX:=pairwise_map.2 (aag aa x)
abbrev vu:ey→ey→Int:=ht [λx:ey=>x.gX]
def OL(a b:ey):vu a b<0↔a.gX<b.gX:=by rw[vu,sy];simp[ht]
def ac0(aa:fH t)(x:Int):(t.Links.filterMap (eO x)).Pairwise λa b=>vu a b<0∨vu b a<0:=by
 have fR:=X4 aa x;have he:t.Links.filterMap (Cd x)=(t.Links.filterMap (eO x)).map (·.gX):=by
  rw[List.map_filterMap];congr 1;funext l;unfold Cd eO;by_cases h1:l.A=x
  ·rw[if_pos h1.symm,if_pos h1];rfl
  ·rw[if_neg (λe=>h1 e.symm),if_neg h1];by_cases D:l.B=x
   ·rw[if_pos D.symm,if_pos D];rfl
   ·rw[if_neg (λe=>D e.symm),if_neg D];rfl
 rw[he]at fR;refine(pairwise_map.1 fR).imp λ{a b} hW=>?_;rw[OL,OL];omega
def QN(aa:fH t)(x:Int):nG vu (t.Links.filterMap (eO x))=some (Ao t x):=by
 have h1:=WY (zB _) (ac0 aa x);have e:rS vu (t.Links.filterMap (eO x))=Ao t x:=by
  refine Yh (·.gX) (h1.imp λ{a b} h=>(OL a b).1 h) (ZT aa x) λs=>?_;rw[(Br _ _).mem_iff,Ol aa];constructor
  ·intro X;exact(QM aa x s.gX s.lB).1 ⟨s,X,rfl,rfl⟩
  ·intro X;obtain⟨cO,D,aj,a1⟩:=(QM aa x s.gX s.lB).2 X;obtain⟨a,b⟩:=s;obtain⟨gE,aP⟩:=cO
   simp only at aj a1;subst aj a1;exact D
 have aH:(t.Links.filterMap (eO x)).length≤60:=Nat.le_trans (length_filterMap_le _ _) aa.nl;have:(decide ((t.Links.filterMap (eO x)).length<4611686018427387904))=true:=by simp;omega
 unfold nG;rw[Pr h1,this,e];rfl
def Pt{wH:xQ→xQ}:∀(l s:List (Int×xQ)),ic l→(∀p∈l,∃row,aD s p.1=some row∧nG vu row=some (wH row))→
  ∃cO,mg (λ(hZ:Int) (_:xQ) (gp:List (Int×xQ))=>jB (aD gp hZ).isSome (aW (nG vu ((aD gp hZ).getD [])) λ(xI:xQ)=>some (bG gp hZ xI))) l s=some cO∧
   cO.map (·.1)=s.map (·.1)∧∀x,aD cO x=if x∈l.map (·.1)then(aD s x).map wH else aD s x
 |[],s,_,_=>⟨s,rfl,rfl,λx=>by simp⟩
 |(n,v)::l,s,hk,h=>by
  simp only[ic,map_cons,nodup_cons]at hk;obtain⟨row,h1,D⟩:=h (n,v) (by simp)
  obtain⟨cO,ak,ar,aM⟩:=Pt (wH:=wH) l (bG s n (wH row)) hk.2 λp aC=>by
   obtain⟨r',aj,a1⟩:=h p (by simp[aC]);have:p.1≠n:=λe=>hk.1 (by rw[←e];exact List.mem_map.2 ⟨p,aC,rfl⟩);exact⟨r',by rw[k3,if_neg this];exact aj,a1⟩
  refine⟨cO,?_,ar.trans (NR _ (by rw[h1];rfl)),λx=>?_⟩
  ·simp only[mg,h1,Option.isSome_some,Option.getD_some,D];exact ak
  ·rw[aM,k3];simp only[map_cons,mem_cons];by_cases u:x=n
   ·subst u;rw[if_neg hk.1,if_pos rfl,if_pos (.inl rfl),h1];rfl
   ·rw[if_neg u];by_cases hm:x∈l.map (·.1)
    ·rw[if_pos hm,if_pos (.inr hm)]
    ·rw[if_neg hm,if_neg (λe=>e.elim u hm)]
structure O6(t:bA)(g:xg):Prop where
 fw:As g.CN (ids t) (iL t)
 Gr:As g.VK (ids t) (wR (iL t))
 row:∀x∈ids t,aD g.CN x=some (Ao t x)
def RS(aa:fH t){gj:List (Int×xQ)}{c:jM}{f:Int→xQ}(hk:ic gj)(bu:∀x,aD gj x=if x∈ids t then some (f x)else none)
  (aB:∀x y k,(∃s∈f x,s.gX=y∧s.lB=k)↔c x y=some k) (af:∀x y k,c x y=some k→(1≤k∧k≤1000)∧x∈ids t∧y∈ids t):As gj (ids t) c where
 keys:=λx=>by rw[bu];by_cases h:x∈ids t<;>simp[h]
 len:=by
  have aR:(ids t).Nodup:=(JN aa).imp λh=>Int.ne_of_lt h
  have h1:=hk.len (V:=ids t) λn v h=>by
   rw[bu]at h;split at h
   ·assumption
   ·cases h
  have D:=NI aR (b:=gj.map (·.1)) λx u=>tZ.1 (by rw[bu,if_pos u];rfl);rw[length_map]at D;omega
 nd:=(JN aa).imp λh=>Int.ne_of_lt h
 small:=abu aa
 nz:=λx u=>by
  obtain⟨r,h1,rfl⟩:=List.mem_map.1 u;have:=(aa.Hf r h1).1;omega
 row:=λx y k=>by
  rw[bu];by_cases h:x∈ids t
  ·rw[if_pos h];exact aB x y k
  ·rw[if_neg h];constructor
   ·rintro⟨s,X,_⟩;simp at X
   ·intro he;exact absurd (af x y k he).2.1 h
 cs:=λx y k h=>(af x y k h).1
 Hh:=λx y k h=>(af x y k h).2.2
def ac1(aa:fH t):Ok (Eh t) (O6 t):=by
 unfold Eh
 have hW:∀l∈t.Links,l.A∈ids t∧l.B∈ids t∧l.A≠l.B:=λl aH=>by
  have h1:=aa.ends l aH;have D:=aa.lt l aH;exact⟨uc.2 h1.1,uc.2 h1.2,by omega⟩
 refine as7 (λp s=>(ic s.1∧∀x,aD s.1 x=if x∈p.map (·.cu)then some []else none)∧(ic s.2∧∀x,aD s.2 x=if x∈p.map (·.cu)then some []else none)) ?_ _ ?_ ?_
 ·rintro p e r ⟨m1,m2⟩ b7 _ ⟨⟨h1,D⟩,aj,a1⟩ jr;refine jr _ ⟨⟨xU h1,λx=>?_⟩,xU aj,λx=>?_⟩
  ·rw[k3,D];by_cases u:x=e.cu<;>simp[u]
  ·rw[k3,a1];by_cases u:x=e.cu<;>simp[u]
 ·exact⟨⟨nodup_nil,λx=>by simp[aD]⟩,nodup_nil,λx=>by simp[aD]⟩
 rintro⟨m1,m2⟩ ⟨⟨h1,D⟩,aj,a1⟩;simp only at h1 D aj a1 ⊢;refine as7 (λp s=>(ic s.1∧∀x,aD s.1 x=if x∈ids t then some (p.filterMap (eO x))else none)∧(ic s.2∧∀x,aD s.2 x=if x∈ids t then some (p.filterMap (tV x))else none)) ?_ _ ⟨⟨h1,λx=>by rw[D];rfl⟩,aj,λx=>by rw[a1];rfl⟩ ?_
 ·rintro p e r ⟨sR,zC⟩ b7 mh ⟨⟨cp,cG⟩,gC,kB⟩ jr;simp only at cp cG gC kB ⊢;obtain⟨jU,a2,a3⟩:=hW e (by rw[mh];simp);have aC:p.length≤60:=by have:=aa.nl;rw[mh]at this;simp at this;omega
  have bm:∀(f:dR→Option ey),(p.filterMap f).length≤60:=λf=>Nat.le_trans (length_filterMap_le _ _) aC;have app:∀(f:dR→Option ey) (s:ey),jR (p.filterMap f) [s]=some (p.filterMap f++[s]):=λf s=>v8 (by have:=bm f;simp;omega);have aJ:(aD sR e.A).getD []=p.filterMap (eO e.A):=by rw[cG,if_pos jU];rfl
  have e2:∀l,(aD (bG sR e.A l) e.B).getD []=p.filterMap (eO e.B):=λl=>by rw[k3,if_neg (Ne.symm a3),cG,if_pos a2];rfl
  have dm:(aD zC e.B).getD []=p.filterMap (tV e.B):=by rw[kB,if_pos a2];rfl
  have gb:∀l,(aD (bG zC e.B l) e.A).getD []=p.filterMap (tV e.A):=λl=>by rw[k3,if_neg a3,kB,if_pos jU];rfl
  rw[aJ,app,eu,e2,app,eu,dm,app,eu,gb,app,eu];refine jr _ ⟨⟨xU (xU cp),λx=>?_⟩,xU (xU gC),λx=>?_⟩
  ·rw[k3,k3,cG,List.filterMap_append];by_cases dc:x=e.B
   ·subst dc;rw[if_pos rfl,if_pos a2];simp[eO,a3]
   ·rw[if_neg dc];by_cases eo:x=e.A
    ·subst eo;rw[if_pos rfl,if_pos jU];simp[eO]
    ·rw[if_neg eo];have:eO x e=none:=by simp[eO,Ne.symm eo,Ne.symm dc]
     simp[this]
  ·rw[k3,k3,kB,List.filterMap_append];by_cases eo:x=e.A
   ·subst eo;rw[if_pos rfl,if_pos jU];simp[tV,Ne.symm a3]
   ·rw[if_neg eo];by_cases dc:x=e.B
    ·subst dc;rw[if_pos rfl,if_pos a2];simp[tV]
    ·rw[if_neg dc];have:tV x e=none:=by simp[tV,Ne.symm eo,Ne.symm dc]
     simp[this]
 rintro⟨sR,zC⟩ ⟨⟨cp,cG⟩,gC,kB⟩;simp only at cp cG gC kB ⊢
 have wH:∀gV:List (Int×xQ),gV.Perm sR→∃cO,mg (λ(hZ:Int) (_:xQ) (gp:List (Int×xQ))=>jB (aD gp hZ).isSome (aW (nG vu ((aD gp hZ).getD [])) λ(xI:xQ)=>some (bG gp hZ xI))) gV sR=some cO∧
   cO.map (·.1)=sR.map (·.1)∧∀x,aD cO x=if x∈ids t then some (Ao t x)else none:=λgV aH=>by
  obtain⟨cO,ak,ar,aM⟩:=Pt (wH:=λrow=>(nG vu row).getD []) gV sR ((aH.map _).nodup_iff.2 cp) λp aC=>by
   have bu:=N0 cp (aH.mem_iff.1 aC);have bU:=cG p.1;rw[bu]at bU;split at bU
   ·have bU:=Option.some.inj bU;exact⟨_,bu,by rw[bU,QN aa];rfl⟩
   ·cases bU
  refine⟨cO,ak,ar,λx=>?_⟩;rw[aM,cG];have hm:x∈gV.map (·.1)↔x∈ids t:=by
   rw[(aH.map _).mem_iff,←tZ,cG];by_cases u:x∈ids t<;>simp[u]
  by_cases u:x∈ids t
  ·rw[if_pos (hm.2 u),if_pos u,if_pos u];simp[QN aa]
  ·rw[if_neg (λh=>u (hm.1 h)),if_neg u,if_neg u]
 obtain⟨R,gJ,gA,mM⟩:=wH sR (List.Perm.refl _);have Vd:ic R:=by rw[ic,gA];exact cp
 refine Ok.aW (P:=λx=>x=R) ⟨R,PT λgV aH=>?_,rfl⟩ λx u=>?_
 ·obtain⟨cO,ak,ar,aM⟩:=wH gV aH;rw[ic.ext Vd (gA.trans ar.symm) λx=>by rw[mM,aM]];exact ak
 subst u;refine .s ⟨RS aa Vd mM (λx y k=>?_) λx y k h=>⟨Ce aa h,we aa h⟩,RS aa gC kB (acZ aa) λx y k h=>⟨Ce aa h,(we aa h).2,(we aa h).1⟩,λx u=>by rw[mM,if_pos u]⟩;constructor
 ·rintro⟨s,X,rfl,rfl⟩;exact(Ol aa).1 X
 ·intro h;exact⟨⟨y,k⟩,(Ol aa).2 h,rfl,rfl⟩
end
end
end Go.Proofs.YtmnbolcmepihlaaGreat
