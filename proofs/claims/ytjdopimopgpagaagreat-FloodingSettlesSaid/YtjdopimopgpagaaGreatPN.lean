/- Several texts in one. No condition but those that stand in each. -/
import Derived.Test.YtjdopimopgpagaaGreatPM
import GoSem.Extern.BytealgCompare
import Derived.Lib.Strings
import Derived.Test.YtjdopimopgpagaaGreatDLS
namespace Go.Proofs.YtjdopimopgpagaaGreat
set_option linter.all false
open Go
theorem xZ{α σ β:Type}{B:Int→α→(σ→Option β)→σ→Option β}{K:σ→Option β}{L:List α}(g:α→Bool)(p:α→α→Bool)(a:Option β)(h0:∀x Z s,B ((0:Nat):Int) x Z s=bif g x then Z s else a)
  (hB:∀(j:Nat) x y r q s Z,L=q++y::x::r→j=q.length+1→B (j:Int) x Z s=bif g x&&p y x then Z s else a) (s:σ):bJ L 0 B K s=bif L.all g&&fQ p L then K s else a:=by
 have key:∀(r q:List α) (y:α) (s:σ),L=q++y::r→bJ r (q.length+1) B K s=bif r.all g&&fQ p (y::r)then K s else a:=by
  intro r
  induction r with
  |nil=>intro q y s _;rfl
  |cons x r ih=>
   intro q y s h
   simp only[bJ]
   rw[hB (q.length+1) x y r q s _ h rfl]
   have:=ih (q++[y]) x s (by simpa using h)
   simp only[List.length_append,List.length_cons,List.length_nil]at this
   rw[this]
   simp only[fQ,List.all_cons]
   cases g x<;>cases p y x<;>simp
 cases L with
 |nil=>rfl
 |cons y r=>
  simp only[bJ]
  rw[h0]
  have:=key r [] y s rfl
  simp only[List.length_nil]at this
  rw[this,List.all_cons]
  cases g y<;>simp
theorem vL{α γ β:Type}{B:Int→α→(Unit→Option β)→Unit→Option β}{K:Unit→Option β}(e:α→γ→Bool)(a:Option β){m:List γ}(hB:∀j x Z s,B j x Z s=bnd (elO m j) λy=>bif !(e x y)then a else Z s):
  ∀(l:List α),l.length=m.length→bJ l 0 B K ()=bif (l.zip m).all (λp=>e p.1 p.2)then K ()else a:=by
 have key:∀(l:List α) (q r:List γ),m=q++r→l.length=r.length→bJ l q.length B K ()=bif (l.zip r).all (λp=>e p.1 p.2)then K ()else a:=by
  intro l
  induction l with
  |nil=>intro q r _ h;rfl
  |cons x l ih=>
   intro q r hm hl
   cases r with
   |nil=>simp at hl
   |cons y r=>
    simp only[bJ,hB,hm,kr,aK]
    have:=ih (q++[y]) r (by simpa using hm) (by simpa using hl)
    simp only[List.length_append,List.length_cons,List.length_nil]at this
    rw[this,List.zip_cons_cons,List.all_cons]
    cases e x y<;>rfl
 intro l h
 exact key l [] m rfl h
def inB(n lo hi:Int):Bool:=decide (lo≤n)&&decide (n≤hi)
def lB(a:ai)(x:bp):Bool:=inB x.bq 1 99&&!decide (x.bq=a.af)&&inB x.jE 1 1000&&inB x.bQ 0 1000
def mX(n:Int):Bool:=decide (n=8)||(decide (n=16)||(decide (n=32)||decide (n=64)))
def iN(c:bH):Bool:=inB c.bV 0 7&&inB c.ID 1 256&&mX c.Length
def vM(l:List bp):Bool:=fQ (λa b=>decide (a.bq<b.bq)) l
def qy(l:List bH):Bool:=fQ (λa b=>decide (a.bV<b.bV)) l
def bZ(a:ai):Bool:=(inB a.af 1 99&&inB a.Seq 1 1000000&&decide ((a.Links.length:Int)≤23))&&(a.Links.all (lB a)&&vM a.Links)&&(decide ((a.Claims.length:Int)≤8)&&(a.Claims.all iN&&qy a.Claims))
theorem xm{x y:Int}:decide (x≤y)=!decide (y<x):=by
 by_cases h:y<x
 ·simp[h]
 ·simp[h];omega
theorem acz(n lo hi:Int):fW n lo hi=some (inB n lo hi):=rfl
theorem ako(n:Int):lT n=some (mX n):=rfl
theorem inE(n lo hi:Int):iQ n lo hi=some (inB n lo hi):=rfl
theorem akp(n:Int):iX n=some (mX n):=by
 unfold iX mX
 cases decide (n=8)<;>cases decide (n=16)<;>cases decide (n=32)<;>cases decide (n=64)<;>rfl
theorem zc(l:List bH):iu l=some (decide ((l.length:Int)≤8)&&(l.all iN&&qy l)):=by
 unfold iu
 by_cases h:(8:Int)<l.length
 ·have h':¬(l.length:Int)≤8:=by omega
  simp[h,h']
 ·have h':(l.length:Int)≤8:=by omega
  simp only[h,decide_false,cond_false,h',decide_true,Bool.true_and]
  refine(xZ iN (λa b=>decide (a.bV<b.bV)) (some false) ?_ ?_ _).trans ?_
  ·intro x Z s
   simp only[jn,acz,ako,aK,iN]
   cases inB x.bV 0 7<;>cases inB x.ID 1 256<;>cases mX x.Length<;>rfl
  ·intro j x y r q s Z hL hj
   have:decide ((0:Int)<(j:Int))=true:=by simp;omega
   simp only[jn,acz,ako,aK,iN,mW hL hj (by omega),xm,this]
   cases inB x.bV 0 7<;>cases inB x.ID 1 256<;>cases mX x.Length<;>cases decide (y.bV<x.bV)<;>rfl
  ·unfold qy;cases l.all iN&&fQ _ l<;>rfl
theorem qK(a:ai):gM a=some (bZ a):=by
 unfold gM bZ
 simp only[jn,acz,aK]
 by_cases h:(a.Links.length:Int)≤23
 ·have h':¬(23:Int)<a.Links.length:=by omega
  simp only[h,h',decide_true,decide_false,Bool.and_true]
  cases inB a.af 1 99<;>cases inB a.Seq 1 1000000<;>simp only[Bool.not_true,Bool.not_false,cond_true,cond_false,Bool.false_and,Bool.true_and,Bool.and_self]
  refine(xZ (lB a) (λa b=>decide (a.bq<b.bq)) (some false) ?_ ?_ _).trans ?_
  ·intro x Z s
   simp only[aK,lB]
   cases inB x.bq 1 99<;>cases decide (x.bq=a.af)<;>cases inB x.jE 1 1000<;>cases inB x.bQ 0 1000<;>rfl
  ·intro j x y r q s Z hL hj
   have:decide ((0:Int)<(j:Int))=true:=by simp;omega
   simp only[aK,lB,mW hL hj (by omega),xm,this]
   cases inB x.bq 1 99<;>cases decide (x.bq=a.af)<;>cases inB x.jE 1 1000<;>cases inB x.bQ 0 1000<;>cases decide (y.bq<x.bq)<;>rfl
  ·simp only[zc,aK]
   unfold vM
   cases a.Links.all (lB a)&&fQ _ a.Links<;>rfl
 ·have h':(23:Int)<a.Links.length:=by omega
  simp only[h,h',decide_true,decide_false,Bool.and_false,Bool.false_and]
  cases inB a.af 1 99<;>cases inB a.Seq 1 1000000<;>rfl
theorem tI(a:ai):gV a=some (bZ a):=by
 unfold gV bZ
 simp only[jn,inE,aK]
 by_cases h:(a.Links.length:Int)≤23
 ·have h':¬(23:Int)<a.Links.length:=by omega
  by_cases hc:(a.Claims.length:Int)≤8
  ·have hc':¬(8:Int)<a.Claims.length:=by omega
   simp only[h,h',hc,hc',decide_true,decide_false,Bool.and_true,Bool.true_and]
   cases inB a.af 1 99<;>cases inB a.Seq 1 1000000<;>simp only[Bool.not_true,Bool.not_false,cond_true,cond_false,Bool.false_and,Bool.true_and,Bool.and_self]
   refine(xZ (lB a) (λa b=>decide (a.bq<b.bq)) (some false) ?_ ?_ _).trans ?_
   ·intro x Z s
    simp only[aK,lB]
    cases inB x.bq 1 99<;>cases decide (x.bq=a.af)<;>cases inB x.jE 1 1000<;>cases inB x.bQ 0 1000<;>rfl
   ·intro j x y r q s Z hL hj
    have:decide ((0:Int)<(j:Int))=true:=by simp;omega
    simp only[aK,lB,mW hL hj (by omega),xm,this]
    cases inB x.bq 1 99<;>cases decide (x.bq=a.af)<;>cases inB x.jE 1 1000<;>cases inB x.bQ 0 1000<;>cases decide (y.bq<x.bq)<;>rfl
   ·refine Eq.trans (b:=bif a.Links.all (lB a)&&vM a.Links then(bif a.Claims.all iN&&qy a.Claims then some true else some false)else some false) ?_ ?_
    ·unfold vM
     congr 1
     refine(xZ iN (λa b=>decide (a.bV<b.bV)) (some false) ?_ ?_ _).trans ?_
     ·intro x Z s
      simp only[akp,aK,iN]
      cases inB x.bV 0 7<;>cases inB x.ID 1 256<;>cases mX x.Length<;>rfl
     ·intro j x y r q s Z hL hj
      have:decide ((0:Int)<(j:Int))=true:=by simp;omega
      simp only[akp,aK,iN,mW hL hj (by omega),xm,this]
      cases inB x.bV 0 7<;>cases inB x.ID 1 256<;>cases mX x.Length<;>cases decide (y.bV<x.bV)<;>rfl
     ·rfl
    ·cases a.Links.all (lB a)&&vM a.Links<;>cases a.Claims.all iN&&qy a.Claims<;>rfl
  ·have hc':(8:Int)<a.Claims.length:=by omega
   simp only[h,h',hc,hc',decide_true,decide_false,Bool.and_false,Bool.false_and]
   cases inB a.af 1 99<;>cases inB a.Seq 1 1000000<;>rfl
 ·have h':(23:Int)<a.Links.length:=by omega
  simp only[h,h',decide_true,decide_false,Bool.and_false,Bool.false_and]
  cases inB a.af 1 99<;>cases inB a.Seq 1 1000000<;>rfl
def aer(d:aH):Bool:=fQ (λa b=>decide (a.af<b.af)) d.ay
def dbC(d:aH):Int:=bif decide ((99:Int)<(d.ay.length:Int))then 3 else bif d.ay.all bZ then(bif aer d then 0 else 25)else 1
theorem qL(d:aH):gN d=some (dbC d):=by
 unfold gN dbC
 by_cases h:(99:Int)<d.ay.length
 ·simp[h]
 simp only[h,decide_false,cond_false]
 refine(pL (λa=>!bZ a) (some 1) ?_ _ _ _).trans ?_
 ·intro j x Z s;simp only[qK,aK]
 rw[←List.not_all_eq_any_not]
 cases d.ay.all bZ
 ·rfl
 simp only[Bool.not_true,cond_false,cond_true]
 refine(y4 (λa b:ai=>decide (a.af<b.af)) (some 25) ?_ _).trans ?_
 ·intro j x y r q s Z hL hj
  simp only[mW hL hj (by omega),aK,xm]
  cases decide (y.af<x.af)<;>rfl
 ·unfold aer;cases fQ _ d.ay<;>rfl
theorem cfA(l:List ai)(f:ai→Option Bool)(p:ai→Bool)(hf:∀x,f x=some (p x)):dx l f=some (l.any p):=by
 unfold dx dY
 obtain⟨r,h1,h2⟩:=vI (B:=λ(j1:Int) (e1:ai) (Z1:Unit→Option Int) (sg:Unit)=>match sg with|()=>bnd (f e1) λ(ah:Bool)=>bif ah then some (j1:Int)else Z1 ()) (K:=λ(sg:Unit)=>match sg with|()=>some (-1:Int)) p (λj x Z s=>by simp only[hf,aK]) (λ_=>rfl) l 0 ()
 simp only[h1,aK,h2]
theorem x2(d:aH):fL d=some (dbC d):=by
 unfold fL dbC
 by_cases h:(99:Int)<d.ay.length
 ·simp[h]
 simp only[h,decide_false,cond_false]
 rw[cfA d.ay _ (λa=>!bZ a) (λx=>by simp only[mF,tI,aK]),aK]
 rw[←List.not_all_eq_any_not]
 cases d.ay.all bZ
 ·rfl
 simp only[Bool.not_true,cond_false,cond_true]
 refine(y5 (λa b:ai=>decide (a.af<b.af)) (some 25) ?_ ?_ _).trans ?_
 ·intros;rfl
 ·intro j x y r q s Z hL hj
  have:decide ((0:Int)<(j:Int))=true:=by simp;omega
  simp only[jn,mW hL hj (by omega),aK,xm,this]
  cases decide (y.af<x.af)<;>rfl
 ·unfold aer;cases fQ _ d.ay<;>rfl
def acA(l m:List bp):Bool:=decide ((l.length:Int)=m.length)&&(l.zip m).all (λp=>mO p.1 p.2)
def acB(l m:List bH):Bool:=decide ((l.length:Int)=m.length)&&(l.zip m).all (λp=>mN p.1 p.2)
def o4(a b:ai):Bool:=decide (a.af=b.af)&&(decide (a.Seq=b.Seq)&&((a.aW==b.aW)&&(acA a.Links b.Links&&acB a.Claims b.Claims)))
theorem apx(l m:List bp):gF l m=some (acA l m):=by
 unfold gF acA
 by_cases h:(l.length:Int)=m.length
 ·simp only[h,decide_true,Bool.not_true,cond_false,Bool.true_and]
  rw[vL mO (some false) (λj x Z s=>rfl) l (by omega)]
  cases(l.zip m).all _<;>rfl
 ·simp[h]
theorem apy(l m:List bH):gG l m=some (acB l m):=by
 unfold gG acB
 by_cases h:(l.length:Int)=m.length
 ·simp only[h,decide_true,Bool.not_true,cond_false,Bool.true_and]
  rw[vL mN (some false) (λj x Z s=>rfl) l (by omega)]
  cases(l.zip m).all _<;>rfl
 ·simp[h]
theorem acC(a b:ai):kS a b=some (o4 a b):=by
 unfold kS o4
 simp only[apx,apy,aK]
 cases decide (a.af=b.af)<;>cases decide (a.Seq=b.Seq)<;>cases(a.aW==b.aW)<;>cases acA a.Links b.Links<;>cases acB a.Claims b.Claims<;>rfl
theorem abF(a b:ai):vC a b=some (o4 a b):=by
 unfold vC o4 acA acB
 by_cases hl:(a.Links.length:Int)=b.Links.length
 ·by_cases hc:(a.Claims.length:Int)=b.Claims.length
  ·simp only[hl,hc,decide_true,Bool.not_true,Bool.or_false,Bool.true_and]
   rw[vL mO (some false) (λj x Z s=>rfl) a.Links (by omega),vL mN (some false) (λj x Z s=>rfl) a.Claims (by omega)]
   cases decide (a.af=b.af)<;>cases decide (a.Seq=b.Seq)<;>cases(a.aW==b.aW)<;>cases(a.Links.zip b.Links).all _<;>cases(a.Claims.zip b.Claims).all _<;>rfl
  ·simp[hc]
 ·simp[hl]
def x3(a b:aH):Bool:=decide ((a.ay.length:Int)=b.ay.length)&&(a.ay.zip b.ay).all (λp=>o4 p.1 p.2)
theorem amA(a b:aH):kM a b=some (x3 a b):=by
 unfold kM cG x3
 by_cases h:(a.ay.length:Int)=b.ay.length
 ·simp only[h,decide_true,Bool.not_true,cond_false,Bool.true_and]
  rw[vL (m:=b.ay) o4 (some false) (λj x Z s=>by simp only[acC,aK]) a.ay (by omega)]
  cases(a.ay.zip b.ay).all _<;>rfl
 ·simp[h,aK]
def noA:ai:=ai.mk 0 0 false [] []
def eZ(d:aH)(r:Int):ai×Bool:=match d.ay.find? (λa=>decide (a.af=r))with|some a=>(a,true)|none=>(noA,false)
theorem sW(d:aH)(r:Int):iW d r=some (eZ d r):=by
 unfold iW
 rw[rV (λa:ai=>decide (a.af=r)) (λa=>some (a,true)) (λj x Z s=>rfl)]
 unfold eZ
 cases d.ay.find? _<;>rfl
def SmA(a:ai):Prop:=a.Links.length≤100000∧a.Claims.length≤100000
def SmD(d:aH):Prop:=d.ay.length≤100000∧∀a∈d.ay,SmA a
theorem ahn{l:List bp}(h:l.length≤100000):dD l=some l:=by
 unfold dD dM
 rw[dP (by simp;omega)];rfl
theorem aes{l:List bH}(h:l.length≤100000):cZ l=some l:=by
 unfold cZ dL
 rw[dP (by simp;omega)];rfl
theorem wB{a:ai}(h:SmA a):fh a=some a:=by
 unfold fh
 rw[ahn h.1,aK,aes h.2,aK]
theorem afx{d:aH}(h:SmD d)(r:Int):kN d r=some (eZ d r):=by
 unfold kN
 rw[rV (λa:ai=>decide (a.af=r)) (λa=>bnd (fh a) λ(ah:ai)=>some (ah,true)) (λj x Z s=>rfl)]
 unfold eZ
 cases hf:d.ay.find? (λa=>decide (a.af=r))with
 |none=>rfl
 |some a=>simp only[wB (h.2 a (List.mem_of_find?_eq_some hf)),aK]
end Go.Proofs.YtjdopimopgpagaaGreat
namespace Go.Proofs.YtjdopimopgpagaaGreat
set_option linter.all false
open Go
variable {t:aX}
theorem ac7(h:cR t):Ok (jG t) (λp=>mX p.1=true∧cR p.2):=by
 unfold jG
 refine Ok.bnd (mh h (by decide) (by decide)) λp hp=>Ok.s ⟨?_,hp.2⟩
 have:=hp.1
 simp only[List.mem_cons,List.not_mem_nil,or_false]at this
 show mX p.1=true
 simp only[mX,Bool.or_eq_true,decide_eq_true_eq];omega
theorem xo{α:Type}{p:α→α→Bool}:∀{l:List α} {x:α},fQ p l=true→(∀y∈l,p y x=true)→fQ p (l++[x])=true
 |[],_,_,_=>rfl
 |[a],x,_,h=>by simp[fQ,h a (by simp)]
 |a::b::r,x,h,hx=>by
  simp only[fQ,Bool.and_eq_true]at h
  simp only[List.cons_append,fQ,Bool.and_eq_true]
  exact⟨h.1,xo h.2 λy hy=>hx y (by simp[hy])⟩
theorem zW{α:Type}{p:α→Bool}{l:List α}{x:α}(h:l.all p=true)(hx:p x=true):(l++[x]).all p=true:=by simp[h,hx]
theorem ac8{r n:Int}(h:cR t)(hn:n≤9223372036854775807):Ok (jK t r n) (λp=>SmA p.1∧(n=0→1≤r→r≤99→bZ p.1=true∧p.1.af=r∧∀l∈p.1.Links,l.bq≤6)∧cR p.2):=by
 unfold jK
 refine Ok.bnd (mh h (by decide) (by decide)) λp1 h1=>?_
 have ai1:inB p1.1 1 1000000=true:=by
  have:=h1.1
  simp only[List.mem_cons,List.not_mem_nil,or_false]at this
  simp only[inB,Bool.and_eq_true,decide_eq_true_eq];omega
 refine Ok.bnd (jM h1.2 (by omega)) λp2 h2=>?_
 refine Ok.gz (λj (s:List bp×List Int×Int)=>((s.1.length:Int)≤j-1∧(1≤r→s.1.all (lB (ai.mk r 0 false [] []))=true)∧vM s.1=true∧(∀x∈s.1,x.bq<j))∧cR (aX.mk s.2.1 s.2.2)) 1 7 ?_ ?_ _ _ _ rfl (by omega) (by omega) ⟨by simp[vM,fQ],h2.2⟩
 ·intro j s Z hj1 hj2 hI hZ
  obtain⟨ls,L,At⟩:=s
  obtain⟨⟨q1,q2,q3,q4⟩,ht⟩:=hI
  simp only at q1 q2 q3 q4
  refine Ok.jn (λs:List Int×Int×List bp=>((s.2.2.length:Int)≤j∧(1≤r→s.2.2.all (lB (ai.mk r 0 false [] []))=true)∧vM s.2.2=true∧(∀x∈s.2.2,x.bq<j+1))∧cR (aX.mk s.1 s.2.1)) (λs hs=>hZ _ ⟨⟨by have:=hs.1.1;obtain⟨_,_,_⟩:=s;simp only at this ⊢;omega,hs.1.2.1,hs.1.2.2⟩,hs.2⟩) λJ1 hJ1=>?_
  have stay:∀L At,cR (aX.mk L At)→Ok (J1 (L,At,ls)) _:=λL At ht=>hJ1 _ ⟨⟨by show(ls.length:Int)≤j;omega,q2,q3,λx hx=>by have:=q4 x hx;omega⟩,ht⟩
  refine Ok.jn (λs:Bool×List Int×Int=>(s.1=true→j≠r)∧cR (aX.mk s.2.1 s.2.2)) (λs hs=>?_) λJ2 hJ2=>?_
  ·obtain⟨v,L2,At2⟩:=s
   refine Ok.cs (λhv=>?_) λ_=>stay _ _ hs.2
   refine Ok.bnd (pO hs.2) λp4 h4=>?_
   refine Ok.bnd (jM h4.2 (by omega)) λp5 h5=>?_
   refine Ok.bnd (jv (by simp;omega)) λl1 hl1=>?_
   obtain⟨hl1,hl2⟩:=hl1
   have hc:=h4.1 (by omega) (by omega) (by omega)
   have hcap:=h5.1
   refine hJ1 _ ⟨⟨by simp only;rw[hl2];simp;omega,λhr=>?_,?_,?_⟩,h5.2⟩
   ·simp only[hl1]
    refine zW (q2 hr) ?_
    have hne:=hs.1 hv
    simp only[lB,inB,Bool.and_eq_true,decide_eq_true_eq,Bool.not_eq_true',decide_eq_false_iff_not]
    have:=hcap.2.1 (by omega)
    omega
   ·simp only[hl1,vM]
    exact xo q3 λy hy=>by simpa using q4 y hy
   ·simp only[hl1]
    intro x hx
    rcases List.mem_append.1 hx with hx|hx
    ·have:=q4 x hx;omega
    ·simp at hx;subst hx;show j<j+1;omega
  ·refine Ok.cs (λhc=>?_) λ_=>hJ2 _ ⟨by simp,ht⟩
   refine Ok.bnd (jM ht (by omega)) λp3 h3=>hJ2 _ ⟨λ_=>by simpa using hc,h3.2⟩
 intro j s hj1 hj2 hI
 obtain⟨ls,L,At⟩:=s
 obtain⟨⟨q1,q2,q3,q4⟩,ht⟩:=hI
 have hj:=hj2 (by omega)
 subst hj
 simp only at q1 q2 q3 q4
 refine Ok.gz (λk (s:List bH×List Int×Int)=>((s.1.length:Int)≤k∧s.1.all iN=true∧qy s.1=true∧(∀x∈s.1,x.bV<k))∧cR (aX.mk s.2.1 s.2.2)) 0 2 ?_ ?_ _ _ _ rfl (by omega) (by omega) ⟨by simp[qy,fQ],ht⟩
 ·intro k s Z hk1 hk2 hI hZ
  obtain⟨cs,L,At⟩:=s
  obtain⟨⟨r1,r2,r3,r4⟩,ht⟩:=hI
  simp only at r1 r2 r3 r4
  refine Ok.jn (λs:List Int×Int×List bH=>((s.2.2.length:Int)≤k+1∧s.2.2.all iN=true∧qy s.2.2=true∧(∀x∈s.2.2,x.bV<k+1))∧cR (aX.mk s.1 s.2.1)) (λs hs=>hZ _ ⟨hs.1,hs.2⟩) λJ3 hJ3=>?_
  refine Ok.bnd (jM ht (by omega)) λp6 h6=>?_
  refine Ok.cs (λ_=>?_) λ_=>hJ3 _ ⟨⟨by show(cs.length:Int)≤_;omega,r2,r3,λx hx=>by have:=r4 x hx;omega⟩,h6.2⟩
  refine Ok.bnd (pO h6.2) λp7 h7=>?_
  refine Ok.bnd (ac7 h7.2) λp8 h8=>?_
  refine Ok.bnd (jv (by simp;omega)) λl2 hl2=>?_
  obtain⟨hl1,hl2⟩:=hl2
  have hid:=h7.1 (by omega) (by omega) (by omega)
  refine hJ3 _ ⟨⟨by simp only;rw[hl2];simp;omega,?_,?_,?_⟩,h8.2⟩
  ·simp only[hl1]
   refine zW r2 ?_
   simp only[iN,inB,h8.1,Bool.and_true,Bool.and_eq_true,decide_eq_true_eq]
   omega
  ·simp only[hl1,qy]
   exact xo r3 λy hy=>by simpa using r4 y hy
  ·simp only[hl1]
   intro x hx
   rcases List.mem_append.1 hx with hx|hx
   ·have:=r4 x hx;omega
   ·simp at hx;subst hx;show k<k+1;omega
 intro k s hk1 hk2 hI
 obtain⟨cs,L,At⟩:=s
 obtain⟨⟨r1,r2,r3,r4⟩,ht⟩:=hI
 have hk:=hk2 (by omega)
 subst hk
 simp only at r1 r2 r3 r4
 refine Ok.jn (λs:List Int×Int×Int×Int×List bp×List bH=>(s.2.2.2.2.1.length≤100000∧s.2.2.2.2.2.length≤100000)∧(n=0→s.2.2=(r,p1.1,ls,cs))∧cR (aX.mk s.1 s.2.1)) (λs hs=>?_) λJ4 hJ4=>?_
 ·obtain⟨a1,a2,a3,a4,a5,a6⟩:=s
  refine Ok.s ⟨hs.1,λhn hr1 hr2=>?_,hs.2.2⟩
  have:=hs.2.1 hn
  simp only[Prod.mk.injEq]at this
  obtain⟨rfl,rfl,rfl,rfl⟩:=this
  refine⟨?_,rfl,λl hl=>by have:=q4 l hl;omega⟩
  have g1:a5.all (lB (ai.mk a3 p1.1 (decide ((0:Int)<p2.1)) a5 a6))=true:=q2 hr1
  simp only[inB,Bool.and_eq_true,decide_eq_true_eq]at ai1
  simp only[bZ,g1,q3,r2,r3,Bool.and_true,Bool.true_and,Bool.and_eq_true,decide_eq_true_eq,inB]
  omega
 refine Ok.jn (λs:Bool×List Int×Int=>(n=0→s.1=false)∧cR (aX.mk s.2.1 s.2.2)) (λs hs=>?_) λJ5 hJ5=>?_
 ·obtain⟨v,L2,At2⟩:=s
  have base:∀L At a b (l:List bp) (c:List bH),n≠0→l.length≤100000→c.length≤100000→cR (aX.mk L At)→Ok (J4 (L,At,a,b,l,c)) _:=λL At a b l c hn h1 h2 h3=>hJ4 _ ⟨⟨h1,h2⟩,λh=>absurd h hn,h3⟩
  refine Ok.cs (λhv=>?_) λ_=>hJ4 _ ⟨⟨by show ls.length≤_;omega,by show cs.length≤_;omega⟩,λ_=>rfl,hs.2⟩
  have hn0:n≠0:=λe=>by have:=hs.1 e;simp only at hv this;rw[hv]at this;cases this
  refine Ok.bnd (jM hs.2 (by omega)) λp10 h10=>?_
  refine Ok.cs (λ_=>Ok.bnd (acu h10.2) λq hq=>base _ _ _ _ _ _ hn0 (by omega) (by omega) hq) λ_=>?_
  refine Ok.cs (λ_=>Ok.bnd (acu h10.2) λq hq=>base _ _ _ _ _ _ hn0 (by omega) (by omega) hq) λ_=>?_
  refine Ok.cs (λ_=>?_) λ_=>?_
  ·refine Ok.bnd (mh h10.2 (by simp) (by simp)) λq1' g1=>Ok.bnd (mh g1.2 (by decide) (by decide)) λq2' g2=>Ok.bnd (mh g2.2 (by decide) (by decide)) λq3' g3=>?_
   exact Ok.bnd (jv (by simp;omega)) λl hl=>base _ _ _ _ _ _ hn0 (by rw[hl.2];simp;omega) (by omega) g3.2
  refine Ok.cs (λ_=>?_) λ_=>?_
  ·refine Ok.bnd (mh h10.2 (by decide) (by decide)) λq1' g1=>Ok.bnd (mh g1.2 (by decide) (by decide)) λq2' g2=>Ok.bnd (mh g2.2 (by decide) (by decide)) λq3' g3=>?_
   exact Ok.bnd (jv (by simp;omega)) λl hl=>base _ _ _ _ _ _ hn0 (by omega) (by rw[hl.2];simp;omega) g3.2
  refine Ok.cs (λ_=>?_) λ_=>?_
  ·refine Ok.gz (λj (m:List bp)=>(m.length:Int)≤ls.length+(j-30)) 30 54 ?_ ?_ _ _ _ rfl (by omega) (by omega) (by omega)
   ·intro j m Z hj1 hj2 hI hZ
    exact Ok.bnd (jv (by simp;omega)) λl hl=>hZ _ (by rw[hl.2];simp;omega)
   ·intro j m hj1 hj2 hI
    have:=hj2 (by omega)
    exact base _ _ _ _ _ _ hn0 (by omega) (by omega) h10.2
  refine Ok.cs (λhl0=>?_) λ_=>base _ _ _ _ _ _ hn0 (by omega) (by omega) h10.2
  refine Ok.bnd (acu h10.2) λq hq=>?_
  simp at hl0
  refine Ok.bnd (pK (by omega) (by omega)) λe he=>?_
  exact Ok.bnd (ahf (by omega) (by omega)) λl hl=>base _ _ _ _ _ _ hn0 (by rw[hl.2];omega) (by omega) hq
 ·refine Ok.cs (λhc=>?_) λ_=>hJ5 _ ⟨λ_=>rfl,ht⟩
  have:n≠0:=by simp at hc;omega
  exact Ok.bnd (y7 ht hn) λq hq=>hJ5 _ ⟨λe=>absurd e this,hq⟩
theorem ae3{n:Int}(h:cR t)(hn:n≤9223372036854775807):Ok (ki t n) (λp=>(SmD p.1∧p.1.ay.length≤7∧(n=0→dbC p.1=0∧(∀a∈p.1.ay,a.af≤6)∧∀a∈p.1.ay,∀l∈a.Links,l.bq≤6) )∧cR p.2):=by
 unfold ki
 refine Ok.gz (λj (s:List ai×List Int×Int)=>((s.1.length:Int)≤j-1∧(∀a∈s.1,SmA a)∧s.1.all bZ=true∧fQ (λa b:ai=>decide (a.af<b.af)) s.1=true∧(∀a∈s.1,a.af<j)∧∀a∈s.1,∀l∈a.Links,l.bq≤6)∧cR (aX.mk s.2.1 s.2.2)) 1 7 ?_ ?_ _ _ _ rfl (by omega) (by omega) ⟨by simp[fQ],h⟩
 ·intro j s Z hj1 hj2 hI hZ
  obtain⟨ads,L,At⟩:=s
  obtain⟨⟨q1,q2,q3,q4,q5,q6⟩,ht⟩:=hI
  simp only at q1 q2 q3 q4 q5 q6
  refine Ok.jn (λs:List Int×Int×List ai=>((s.2.2.length:Int)≤j∧(∀a∈s.2.2,SmA a)∧s.2.2.all bZ=true∧fQ (λa b:ai=>decide (a.af<b.af)) s.2.2=true∧(∀a∈s.2.2,a.af<j+1)∧∀a∈s.2.2,∀l∈a.Links,l.bq≤6)∧cR (aX.mk s.1 s.2.1)) (λs hs=>hZ _ ⟨⟨by have:=hs.1.1;obtain⟨_,_,_⟩:=s;simp only at this ⊢;omega,hs.1.2⟩,hs.2⟩) λJ1 hJ1=>?_
  refine Ok.bnd (jM ht (by omega)) λp1 h1=>?_
  refine Ok.cs (λ_=>?_) λ_=>hJ1 _ ⟨⟨by show(ads.length:Int)≤j;omega,q2,q3,q4,λa ha=>by have:=q5 a ha;omega,q6⟩,h1.2⟩
  refine Ok.bnd (ac8 (n:=0) h1.2 (by omega)) λp2 h2=>?_
  obtain⟨g1,g2,g3⟩:=h2
  have g2:=g2 rfl (by omega) (by omega)
  refine Ok.bnd (jv (by simp;omega)) λl hl=>?_
  obtain⟨hl,hl2⟩:=hl
  refine hJ1 _ ⟨⟨by simp only;rw[hl2];simp;omega,?_,?_,?_,?_,?_⟩,g3⟩
  ·simp only[hl];intro a ha
   rcases List.mem_append.1 ha with ha|ha
   ·exact q2 a ha
   ·simp at ha;subst ha;exact g1
  ·simp only[hl];exact zW q3 g2.1
  ·simp only[hl];exact xo q4 λy hy=>by have:=q5 y hy;simp[g2.2.1];omega
  ·simp only[hl];intro a ha
   rcases List.mem_append.1 ha with ha|ha
   ·have:=q5 a ha;omega
   ·simp at ha;subst ha;rw[g2.2.1];omega
  ·simp only[hl];intro a ha
   rcases List.mem_append.1 ha with ha|ha
   ·exact q6 a ha
   ·simp at ha;subst ha;exact g2.2.2
 intro j s hj1 hj2 hI
 obtain⟨ads,L,At⟩:=s
 obtain⟨⟨q1,q2,q3,q4,q5,q6⟩,ht⟩:=hI
 have hj:=hj2 (by omega)
 subst hj
 simp only at q1 q2 q3 q4 q5 q6
 refine Ok.jn (λs:List Int×Int×List ai=>(s.2.2.length≤7∧(∀a∈s.2.2,SmA a)∧(n=0→s.2.2=ads))∧cR (aX.mk s.1 s.2.1)) (λs hs=>?_) λJ2 hJ2=>?_
 ·obtain⟨a1,a2,a3⟩:=s
  obtain⟨⟨g1,g2,g3⟩,g4⟩:=hs
  simp only at g1 g2 g3
  refine Ok.s ⟨⟨⟨by show a3.length≤_;omega,g2⟩,g1,λh0=>?_⟩,g4⟩
  have:=g3 h0
  subst this
  refine⟨?_,λa ha=>by have:=q5 a ha;omega,q6⟩
  have e:¬(99:Int)<a3.length:=by omega
  simp only[dbC,q3,aer,q4,e,decide_false,cond_true,cond_false]
 refine Ok.jn (λs:Bool×List Int×Int=>(n=0→s.1=false)∧cR (aX.mk s.2.1 s.2.2)) (λs hs=>?_) λJ3 hJ3=>?_
 ·obtain⟨v,L2,At2⟩:=s
  refine Ok.cs (λhv=>?_) λ_=>hJ2 _ ⟨⟨by show ads.length≤_;omega,q2,λ_=>rfl⟩,hs.2⟩
  have hn0:n≠0:=λe=>by have:=hs.1 e;simp only at hv this;rw[hv]at this;cases this
  refine Ok.bnd (mh hs.2 (by decide) (by decide)) λp4 h4=>?_
  refine Ok.bnd (ac8 h4.2 (by omega)) λp5 h5=>?_
  refine Ok.bnd (jv (by simp;omega)) λl hl=>?_
  obtain⟨hl,hl2⟩:=hl
  refine hJ2 _ ⟨⟨by simp only;rw[hl2];simp;omega,?_,λe=>absurd e hn0⟩,h5.2.2⟩
  simp only[hl];intro a ha
  rcases List.mem_append.1 ha with ha|ha
  ·exact q2 a ha
  ·simp at ha;subst ha;exact h5.1
 ·refine Ok.cs (λhc=>?_) λ_=>hJ3 _ ⟨λ_=>rfl,ht⟩
  have:n≠0:=by simp at hc;omega
  exact Ok.bnd (y7 ht hn) λq hq=>hJ3 _ ⟨λe=>absurd e this,hq⟩
end Go.Proofs.YtjdopimopgpagaaGreat
namespace Go.Proofs.YtjdopimopgpagaaGreat
set_option linter.all false
open Go
structure Vd(d:aH):Prop where
 n:d.ay.length≤99
 ok:∀a∈d.ay,bZ a=true
 asc:d.ay.Pairwise (λa b=>a.af<b.af)
variable {d:aH}
theorem iY:dbC d=0↔Vd d:=by
 unfold dbC aer
 constructor
 ·intro h
  by_cases h1:(99:Int)<d.ay.length
  ·simp[h1]at h
  cases h2:d.ay.all bZ
  ·simp[h1,h2]at h
  cases h3:fQ (λa b:ai=>decide (a.af<b.af)) d.ay
  ·simp[h1,h2,h3]at h
  refine⟨by omega,λa ha=>List.all_eq_true.1 h2 a ha,?_⟩
  have:=pN (p:=λa b:ai=>decide (a.af<b.af)) (λa b c h1 h2=>by simp at h1 h2 ⊢;omega) h3
  exact this.imp (λh=>by simpa using h)
 ·intro h
  have h1:¬(99:Int)<d.ay.length:=by have:=h.n;omega
  have h2:d.ay.all bZ=true:=List.all_eq_true.2 h.ok
  have h3:fQ (λa b:ai=>decide (a.af<b.af)) d.ay=true:=nL (h.asc.imp λh=>by simpa using h)
  simp[h1,h2,h3]
structure Va(a:ai):Prop where
 r:1≤a.af∧a.af≤99
 n:a.Links.length≤23
 nc:a.Claims.length≤8
 g:∀x∈a.Links,(1≤x.bq∧x.bq≤99)∧x.bq≠a.af∧(1≤x.jE∧x.jE≤1000)∧0≤x.bQ∧x.bQ≤1000
 asc:a.Links.Pairwise (λx y=>x.bq<y.bq)
variable {a:ai}
theorem wC(h:bZ a=true):Va a:=by
 simp only[bZ,Bool.and_eq_true,decide_eq_true_eq,inB]at h
 obtain⟨⟨⟨⟨h1,_⟩,h2⟩,h3,h4⟩,h5,_⟩:=h
 refine⟨h1,by omega,by omega,λx hx=>?_,?_⟩
 ·have:=List.all_eq_true.1 h3 x hx
  simp only[lB,inB,Bool.and_eq_true,decide_eq_true_eq,Bool.not_eq_true',decide_eq_false_iff_not]at this
  exact⟨this.1.1.1,this.1.1.2,this.1.2,this.2⟩
 ·have:=pN (p:=λa b:bp=>decide (a.bq<b.bq)) (λa b c h1 h2=>by simp at h1 h2 ⊢;omega) h4
  exact this.imp (λh=>by simpa using h)
theorem Vd.sm(h:Vd d):SmD d:=⟨by have:=h.n;omega,λa ha=>by have:=wC (h.ok a ha);exact⟨by have:=this.n;omega,by have:=this.nc;omega⟩⟩
theorem aa6{α:Type}{f:α→Int}:∀{l:List α},l.Pairwise (λa b=>f a<f b)→∀{a b:α},a∈l→b∈l→f a=f b→a=b
 |[],_,_,_,h,_,_=>by simp at h
 |x::r,hp,a,b,ha,hb,he=>by
  rw[List.pairwise_cons]at hp
  rcases List.mem_cons.1 ha with ea|ha'
  ·rcases List.mem_cons.1 hb with eb|hb'
   ·rw[ea,eb]
   ·have:=hp.1 b hb';rw[ea]at he;omega
  ·rcases List.mem_cons.1 hb with eb|hb'
   ·have:=hp.1 a ha';rw[eb]at he;omega
   ·exact aa6 hp.2 ha' hb' he
theorem Vd.uniq(h:Vd d){b:ai}(ha:a∈d.ay)(hb:b∈d.ay)(he:a.af=b.af):a=b:=aa6 h.asc ha hb he
theorem Va.uniq(h:Va a){x y:bp}(hx:x∈a.Links)(hy:y∈a.Links)(he:x.bq=y.bq):x=y:=aa6 h.asc hx hy he
theorem iC(d:aH)(r:Int):(∃a∈d.ay,a.af=r∧eZ d r=(a,true))∨((∀a∈d.ay,a.af≠r)∧eZ d r=(noA,false)):=by
 unfold eZ
 cases h:d.ay.find? (λa=>decide (a.af=r))with
 |some a=>exact .inl ⟨a,List.mem_of_find?_eq_some h,by simpa using List.find?_some h,rfl⟩
 |none=>exact .inr ⟨λa ha=>by simpa using List.find?_eq_none.1 h a ha,rfl⟩
theorem amB(h:Vd d)(ha:a∈d.ay):eZ d a.af=(a,true):=by
 rcases iC d a.af with⟨b,hb,he,hf⟩|⟨hn,_⟩
 ·rw[hf,h.uniq hb ha he]
 ·exact absurd rfl (hn a ha)
def noR:bp:=bp.mk 0 0 0
def xq(a:ai)(n:Int):bp×Bool:=match a.Links.find? (λx=>decide (x.bq=n))with|some x=>(x,true)|none=>(noR,false)
theorem aap(a:ai)(n:Int):(∃x∈a.Links,x.bq=n∧xq a n=(x,true))∨((∀x∈a.Links,x.bq≠n)∧xq a n=(noR,false)):=by
 unfold xq
 cases h:a.Links.find? (λx=>decide (x.bq=n))with
 |some x=>exact .inl ⟨x,List.mem_of_find?_eq_some h,by simpa using List.find?_some h,rfl⟩
 |none=>exact .inr ⟨λx hx=>by simpa using List.find?_eq_none.1 h x hx,rfl⟩
theorem ae4(a:ai)(n:Int):l8 a n=some (xq a n):=by
 unfold l8
 rw[rV (λx:bp=>decide (x.bq=n)) (λx=>some (x,true)) (λj x Z s=>rfl)]
 unfold xq
 cases a.Links.find? _<;>rfl
def LkD(d:aH)(a b:Int):Prop:=∃x∈d.ay,∃y∈d.ay,x.af=a∧y.af=b∧(∃p∈x.Links,p.bq=b)∧∃q∈y.Links,q.bq=a
variable {b:Int}
theorem LkD.symm{a:Int}(h:LkD d a b):LkD d b a:=by
 obtain⟨x,hx,y,hy,e1,e2,p,q⟩:=h
 exact⟨y,hy,x,hx,e2,e1,q,p⟩
def mkL(x:ai)(p:bp)(y:ai)(q:bp):aS:=aS.mk x.af y.af p.jE q.jE (if q.bQ<p.bQ then q.bQ else p.bQ)
def x4(x y:ai)(l:aS):Prop:=∃p∈x.Links,∃q∈y.Links,x.af<y.af∧p.bq=y.af∧q.bq=x.af∧l=mkL x p y q
inductive Rd(d:aH)(at1:Int):Int→Prop
 |refl:Rd d at1 at1
 |step {a b:Int} (h:Rd d at1 a) (hl:LkD d a b):Rd d at1 b
structure IsV(d:aH)(at1:Int)(T:az):Prop where
 apz:T.aG.Pairwise (λa b=>a.ID<b.ID)
 apA:∀r,r∈T.aG↔∃a∈d.ay,Rd d at1 a.af∧r=aU.mk a.af a.aW
 apB:T.Links.Pairwise (λa b=>ltL a b=true)
 apC:∀l,l∈T.Links↔∃x∈d.ay,Rd d at1 x.af∧∃y∈d.ay,x4 x y l
theorem sX{α:Type}{r:α→α→Prop}(hi:∀a,¬r a a)(ht:∀a b c,r a b→r b c→r a c):∀{l m:List α},l.Pairwise r→m.Pairwise r→(∀x,x∈l↔x∈m)→l=m
 |[],[],_,_,_=>rfl
 |[],y::m,_,_,h=>by have:=(h y).2 (by simp);simp at this
 |x::l,[],_,_,h=>by have:=(h x).1 (by simp);simp at this
 |x::l,y::m,h1,h2,h=>by
  rw[List.pairwise_cons]at h1 h2
  have hxy:x=y:=by
   rcases List.mem_cons.1 ((h x).1 (by simp))with e|e
   ·exact e
   rcases List.mem_cons.1 ((h y).2 (by simp))with e'|e'
   ·exact e'.symm
   ·exact absurd (ht _ _ _ (h1.1 y e') (h2.1 x e)) (hi x)
  subst hxy
  congr 1
  refine sX hi ht h1.2 h2.2 λz=>?_
  have:=h z
  simp only[List.mem_cons]at this
  constructor
  ·intro hz
   rcases this.1 (.inr hz)with q|q
   ·subst q;exact absurd (h1.1 _ hz) (hi _)
   ·exact q
  ·intro hz
   rcases this.2 (.inr hz)with q|q
   ·subst q;exact absurd (h2.1 _ hz) (hi _)
   ·exact q
variable {at1:Int}
theorem IsV.unique{T U:az}(h1:IsV d at1 T)(h2:IsV d at1 U):T=U:=by
 obtain⟨r1,l1⟩:=T
 obtain⟨r2,l2⟩:=U
 have e1:r1=r2:=sX (r:=λa b:aU=>a.ID<b.ID) (λa h=>by omega) (λa b c h h'=>by omega) h1.apz h2.apz λx=>(h1.apA x).trans (h2.apA x).symm
 have e2:l1=l2:=sX (r:=λa b:aS=>ltL a b=true) (λa h=>by simp[ltL]at h) (λa b c h h'=>wq a b c h h') h1.apB h2.apB λx=>(h1.apC x).trans (h2.apC x).symm
 rw[e1,e2]
def apD:az:=az.mk [] []
def abG(d:aH)(at1:Int)(T:az):Prop:=(¬((∃a∈d.ay,a.af=at1)∧Vd d)∧T=apD)∨(((∃a∈d.ay,a.af=at1)∧Vd d)∧∃T0,IsV d at1 T0∧T=if kU T0=0 then T0 else apD)
theorem abG.unique{d:aH}{at1:Int}{T U:az}(h1:abG d at1 T)(h2:abG d at1 U):T=U:=by
 rcases h1 with⟨a,b⟩|⟨a,T0,b,c⟩<;>rcases h2 with⟨a',b'⟩|⟨a',U0,b',c'⟩
 ·rw[b,b']
 ·exact absurd a' a
 ·exact absurd a a'
 ·rw[c,c',b.unique b']
theorem zd(d:aH)(a b:Int):(∃x∈d.ay,∃y∈d.ay,∃p∈x.Links,∃q∈y.Links,x.af=a∧y.af=b∧p.bq=b∧q.bq=a∧eZ d a=(x,true)∧eZ d b=(y,true)∧jJ d a b=some (p,q,true))∨
  ((Vd d→¬LkD d a b)∧∃p q,jJ d a b=some (p,q,false)):=by
 unfold jJ
 simp only[sW,aK,ae4]
 rcases iC d a with⟨x,hx,hxa,hf⟩|⟨hn,hf⟩
 ·rcases iC d b with⟨y,hy,hyb,hg⟩|⟨hn,hg⟩
  ·simp only[hf,hg,Bool.not_true,Bool.or_self,cond_false]
   rcases aap x b with⟨p,hp,hpb,hr⟩|⟨hn,hr⟩
   ·rcases aap y a with⟨q,hq,hqa,hs⟩|⟨hn,hs⟩
    ·exact .inl ⟨x,hx,y,hy,p,hp,q,hq,hxa,hyb,hpb,hqa,by first|rfl|trivial,by first|rfl|trivial,by simp[hr,hs]⟩
    ·refine .inr ⟨λhv=>?_,p,noR,by simp[hr,hs]⟩
     rintro⟨x',hx',y',hy',e1,e2,_,q',hq',e3⟩
     rw[hv.uniq hy' hy (by omega)]at hq'
     exact hn q' hq' e3
   ·refine .inr ⟨λhv=>?_,noR,(xq y a).1,by simp[hr]⟩
    rintro⟨x',hx',y',hy',e1,e2,⟨p',hp',e3⟩,_⟩
    rw[hv.uniq hx' hx (by omega)]at hp'
    exact hn p' hp' e3
  ·refine .inr ⟨λhv=>?_,noR,noR,by simp[hg,noR]⟩
   rintro⟨x',hx',y',hy',e1,e2,_⟩
   exact hn y' hy' e2
 ·refine .inr ⟨λhv=>?_,noR,noR,by simp[hf,noR]⟩
  rintro⟨x',hx',y',hy',e1,e2,_⟩
  exact hn x' hx' e1
def rts(d:aH):List Int:=d.ay.map (·.af)
theorem amC(h:Vd d):(rts d).length≤99:=by have:=h.n;simpa [rts]using this
theorem LkD.mem{a:Int}(h:LkD d a b):b∈rts d:=by
 obtain⟨x,hx,y,hy,e1,e2,_⟩:=h
 exact List.mem_map.2 ⟨y,hy,e2⟩
theorem Vd.key(h:Vd d){r:Int}(ha:a∈d.ay)(he:a.af=r):eZ d r=(a,true):=by subst he;exact amB h ha
theorem as5(h0:at1∈rts d)(h:Rd d at1 b):b∈rts d:=by
 cases h with
 |refl=>exact h0
 |step _ hl=>exact hl.mem
theorem ai2{S:Int→Prop}(h:Rd d at1 b)(h0:S at1)(hs:∀x,S x→∀y,LkD d x y→S y):S b:=by
 induction h with
 |refl=>exact h0
 |step _ hl ih=>exact hs _ ih _ hl
theorem aho{l:List Int}{x:Int}(h:l.Nodup)(hx:x∉l):(l++[x]).Nodup:=by
 rw[List.nodup_append]
 refine⟨h,by simp,λa ha b hb=>?_⟩
 simp at hb;subst hb;exact λe=>hx (e▸ha)
theorem apF{α:Type}{r:α→α→Prop}{l:List α}{x:α}(h:l.Pairwise r)(hx:∀y∈l,r y x):(l++[x]).Pairwise r:=by
 rw[List.pairwise_append]
 exact⟨h,by simp,λa ha b hb=>by simp at hb;subst hb;exact hx a ha⟩
theorem acD{a b:aS}:ltL a b=true↔a.A<b.A∨a.A=b.A∧a.B<b.B:=by simp[ltL]
theorem agq(d:aH)(at1:Int):Ok (lM d at1) (abG d at1):=by
 unfold lM
 rw[sW,aK]
 refine Ok.jn (λv:Bool=>v=true↔¬((∃a∈d.ay,a.af=at1)∧Vd d)) (λv hv=>?_) λJ1 hJ1=>?_
 ·refine Ok.cs (λh=>Ok.s (.inl ⟨hv.1 h,rfl⟩)) λh=>?_
  have hc:(∃a∈d.ay,a.af=at1)∧Vd d:=Classical.byContradiction λhn=>by rw[hv.2 hn]at h;cases h
  obtain⟨⟨a0,ha0,he0⟩,hvd⟩:=id hc
  have hat:at1∈rts d:=List.mem_map.2 ⟨a0,ha0,he0⟩
  have hrl:=amC hvd
  have hn:=hvd.n
  refine Ok.whl (λs:List Int×Int=>(0≤s.2∧s.2≤s.1.length)∧s.1.Nodup∧(∀x∈s.1,Rd d at1 x)∧at1∈s.1∧(∀x∈s.1.take s.2.toNat,∀y,LkD d x y→y∈s.1))
   (λs=>((100:Int)-s.2).toNat) ⟨⟨by simp,by simp⟩,by simp,by intro x hx;simp at hx;subst hx;exact .refl,by simp,by simp⟩ (by simp only;omega) ?_
  rintro⟨out,i⟩ Z ⟨⟨h0,h1⟩,hnd,hcn,hro,had⟩ hZ
  simp only at h0 h1 hnd hcn hro had
  have hsub:∀{l:List Int},(∀x∈l,Rd d at1 x)→l.Nodup→l.length≤99:=λ{l} h hn=>Nat.le_trans (pR hn λx hx=>as5 hat (h x hx)) hrl
  have hol:=hsub hcn hnd
  refine Ok.cs (λhc=>?_) λhc=>?_
  ·have hc:i<out.length:=by simpa using hc
   have hi:i.toNat<out.length:=by omega
   refine Ok.pQ (λp o=>(∃new,o=out++new)∧o.Nodup∧(∀x∈o,Rd d at1 x)∧∀a∈p,LkD d out[i.toNat] a.af→a.af∈o) ?_ _ ⟨⟨[],by simp⟩,hnd,hcn,by simp⟩ ?_
   ·rintro p x rest o Z2 hL ⟨⟨new,ho⟩,qw,qx,hp⟩ hZ2
    have hlo:=hsub qx qw
    have qp:elO o i=some out[i.toNat]:=by
     unfold elO;rw[if_pos h0,ho,List.getElem?_append_left hi,List.getElem?_eq_getElem hi]
    have akq:(LkD d out[i.toNat] x.af→x.af∈o)→∀a∈p++[x],LkD d out[i.toNat] a.af→a.af∈o:=λh a ha hl=>by
     rcases List.mem_append.1 ha with ha|ha
     ·exact hp a ha hl
     ·simp at ha;subst ha;exact h hl
    simp only[jn,qp,aK]
    rcases zd d out[i.toNat] x.af with⟨X,hX,Y,hY,P,hP,Q,hQ,e1,e2,e3,e4,_,_,hl⟩|⟨hno,P,Q,hl⟩
    ·have hlk:LkD d out[i.toNat] x.af:=⟨X,hX,Y,hY,e1,e2,⟨P,hP,e3⟩,Q,hQ,e4⟩
     simp only[hl,aK,cond_true,uV]
     by_cases hx:x.af∈o
     ·simp only[hx,decide_true,Bool.not_true,cond_false]
      exact hZ2 _ ⟨⟨new,ho⟩,qw,qx,akq λ_=>hx⟩
     ·simp only[hx,decide_false,Bool.not_false,cond_true]
      rw[dP (by simp;omega),aK]
      refine hZ2 _ ⟨⟨new++[x.af],by rw[ho];simp⟩,aho qw hx,λy hy=>?_,λa ha hl=>?_⟩
      ·rcases List.mem_append.1 hy with hy|hy
       ·exact qx y hy
       ·simp at hy;subst hy;exact .step (hcn _ (List.getElem_mem hi)) hlk
      ·rcases List.mem_append.1 ha with ha|ha
       ·exact List.mem_append_left _ (hp a ha hl)
       ·simp at ha;subst ha;simp
    ·simp only[hl,aK,cond_false]
     exact hZ2 _ ⟨⟨new,ho⟩,qw,qx,akq λh=>absurd h (hno hvd)⟩
   ·rintro o ⟨⟨new,ho⟩,qw,qx,hp⟩
    have hlo:=hsub qx qw
    rw[cr (by omega) (by omega)]
    refine hZ _ ⟨⟨by simp only;omega,by simp only[ho,List.length_append];omega⟩,qw,qx,by rw[ho];simp[hro],?_⟩ (by simp only;omega)
    intro x hx y hy
    simp only at hx ⊢
    rw[show(i+1).toNat=i.toNat+1 by omega,ho,List.take_append_of_le_length (by omega),List.take_succ_eq_append_getElem hi]at hx
    rcases List.mem_append.1 hx with hx|hx
    ·rw[ho];exact List.mem_append_left _ (had x hx y hy)
    ·simp at hx;subst hx
     obtain⟨Y,hY,hYr⟩:=List.mem_map.1 hy.mem
     have:=hp Y hY (by rw[hYr];exact hy)
     rwa [hYr]at this
  ·have hc:(out.length:Int)≤i:=by simpa using hc
   rw[List.take_of_length_le (by omega)]at had
   have hmem:∀x,x∈out↔Rd d at1 x:=λx=>⟨hcn x,λh=>ai2 (S:=λx=>x∈out) h hro λx hx y hy=>had x hx y hy⟩
   refine Ok.pQ (λP (s:List aU×List aS)=>s.1=(P.filter λa=>decide (a.af∈out)).map (λa=>aU.mk a.af a.aW)∧s.2.Pairwise (λa b=>ltL a b=true)∧s.2.length≤99*P.length∧
    (∀l,l∈s.2↔∃x∈P,x.af∈out∧∃y∈d.ay,x4 x y l)) ?_ _ ⟨rfl,by simp,by simp,by simp⟩ ?_
   ·rintro P e rest ⟨rs,ls⟩ Z3 hL ⟨h1,h2,h3,h4⟩ hZ3
    simp only at h1 h2 h3 h4
    have hPl:P.length+1+rest.length=d.ay.length:=by rw[hL];simp;omega
    have hem:e∈d.ay:=by rw[hL];simp
    have oN:=hvd.asc
    rw[hL,List.pairwise_append,List.pairwise_cons]at oN
    refine Ok.jn (λs:List aU×List aS=>s.1=((P++[e]).filter λa=>decide (a.af∈out)).map (λa=>aU.mk a.af a.aW)∧s.2.Pairwise (λa b=>ltL a b=true)∧s.2.length≤99*(P++[e]).length∧
     (∀l,l∈s.2↔∃x∈P++[e],x.af∈out∧∃y∈d.ay,x4 x y l)) (λs hs=>by obtain⟨_,_⟩:=s;exact hZ3 _ hs) λJ4 hJ4=>?_
    rw[uV,aK]
    refine Ok.cs (λhc=>?_) λhc=>?_
    ·have hc:e.af∉out:=by simpa using hc
     refine hJ4 _ ⟨by simp only[h1,List.filter_append];simp[hc],h2,by simp only[List.length_append];omega,λl=>?_⟩
     simp only[h4]
     constructor
     ·rintro⟨x,hx,r⟩;exact⟨x,by simp[hx],r⟩
     ·rintro⟨x,hx,hxo,r⟩
      rcases List.mem_append.1 hx with hx|hx
      ·exact⟨x,hx,hxo,r⟩
      ·simp at hx;subst hx;exact absurd hxo hc
    ·have hc:e.af∈out:=by simpa using hc
     have hrsl:rs.length≤P.length:=by rw[h1,List.length_map];exact List.length_filter_le _ _
     rw[dP (by simp;omega),aK]
     refine Ok.whl (λs:Int×List aS=>(((P.length+1:Nat):Int)≤s.1∧s.1≤d.ay.length)∧s.2.Pairwise (λa b=>ltL a b=true)∧(s.2.length:Int)≤99*P.length+(s.1-(P.length+1))∧
      (∀l,l∈s.2↔(∃x∈P,x.af∈out∧∃y∈d.ay,x4 x y l)∨∃y∈(d.ay.take s.1.toNat).drop (P.length+1),x4 e y l)) (λs=>((d.ay.length:Int)-s.1).toNat) ?_ ?_ ?_
     ·rw[cr (by omega) (by omega)]
      refine⟨⟨by simp,by simp only;omega⟩,h2,by simp only;omega,λl=>?_⟩
      rw[h4,show((P.length:Int)+1).toNat=P.length+1 by omega,List.drop_eq_nil_of_le (by rw[List.length_take];omega)]
      simp
     ·rw[cr (by omega) (by omega)];simp only;omega
     ·rintro⟨k,ls2⟩ Z4 ⟨⟨hk1,hk2⟩,hp2,hl2,hm2⟩ hZ4
      simp only at hk1 hk2 hp2 hl2 hm2
      refine Ok.cs (λhkc=>?_) λhkc=>?_
      ·have hkc:k<d.ay.length:=by simpa using hkc
       have hkn:k.toNat<d.ay.length:=by omega
       have as6:(d.ay.take (k+1).toNat).drop (P.length+1)=(d.ay.take k.toNat).drop (P.length+1)++[d.ay[k.toNat]]:=by
        rw[show(k+1).toNat=k.toNat+1 by omega,List.take_succ_eq_append_getElem hkn,List.drop_append_of_le_length (by rw[List.length_take];omega)]
       have hlt:e.af<d.ay[k.toNat].af:=by
        have h5:d.ay[P.length]'(by omega)=e:=by simp[hL]
        have:=List.pairwise_iff_getElem.1 hvd.asc P.length k.toNat (by omega) hkn (by omega)
        rwa [h5]at this
       have hym:d.ay[k.toNat]∈d.ay:=List.getElem_mem hkn
       refine Ok.jn (λm:List aS=>m.Pairwise (λa b=>ltL a b=true)∧(m.length:Int)≤99*P.length+(k+1-(P.length+1))∧
        (∀l,l∈m↔(∃x∈P,x.af∈out∧∃y∈d.ay,x4 x y l)∨(∃y∈(d.ay.take k.toNat).drop (P.length+1),x4 e y l)∨x4 e d.ay[k.toNat] l)) (λm hm=>?_) λJ5 hJ5=>?_
       ·rw[cr (by omega) (by omega)]
        refine hZ4 _ ⟨⟨by simp only;omega,by simp only;omega⟩,hm.1,by simp only;omega,λl=>?_⟩ (by simp only;omega)
        rw[hm.2.2,as6]
        simp only[List.mem_append,List.mem_singleton]
        constructor
        ·rintro(h|⟨y,hy,h⟩|h)
         ·exact .inl h
         ·exact .inr ⟨y,.inl hy,h⟩
         ·exact .inr ⟨_,.inr rfl,h⟩
        ·rintro(h|⟨y,hy|rfl,h⟩)
         ·exact .inl h
         ·exact .inr (.inl ⟨y,hy,h⟩)
         ·exact .inr (.inr h)
       have qp:elO d.ay k=some d.ay[k.toNat]:=by unfold elO;rw[if_pos (by omega),List.getElem?_eq_getElem hkn]
       rw[qp,aK]
       rcases zd d e.af d.ay[k.toNat].af with⟨X,hX,Y,hY,p,hp,q,hq,e1,e2,e3,e4,_,_,hl⟩|⟨hno,p,q,hl⟩
       ·have hXe:=hvd.uniq hX hem e1
        have hYe:=hvd.uniq hY hym e2
        subst hXe
        rw[hYe]at hq
        simp only[hl,aK,cond_true]
        rw[dP (by simp;omega),aK]
        have hnew:∀l,x4 X d.ay[k.toNat] l↔l=mkL X p d.ay[k.toNat] q:=λl=>by
         constructor
         ·rintro⟨p',hp',q',hq',_,e5,e6,rfl⟩
          rw[(wC (hvd.ok _ hX)).uniq hp' hp (by omega),(wC (hvd.ok _ hym)).uniq hq' hq (by omega)]
         ·rintro rfl;exact⟨p,hp,q,hq,hlt,e3,e4,rfl⟩
        refine hJ5 _ ⟨apF hp2 λl hl=>?_,by simp only[List.length_append,List.length_singleton];omega,λl=>?_⟩
        ·rcases(hm2 l).1 hl with⟨x,hx,_,y,hy,pp,_,qq,_,_,_,_,rfl⟩|⟨y,hy,pp,_,qq,_,_,_,_,rfl⟩
         ·exact acD.2 (.inl (oN.2.2 x hx X (by simp)))
         ·have hlt2:y.af<d.ay[k.toNat].af:=by
           have hy2:y∈d.ay.take k.toNat:=List.mem_of_mem_drop hy
           obtain⟨i2,hi2,rfl⟩:=List.getElem_of_mem hy2
           rw[List.length_take]at hi2
           rw[List.getElem_take]
           exact List.pairwise_iff_getElem.1 hvd.asc i2 k.toNat (by omega) hkn (by omega)
          exact acD.2 (.inr ⟨rfl,hlt2⟩)
        ·rw[List.mem_append,hm2,hnew,List.mem_singleton,or_assoc]
         rfl
       ·simp only[hl,aK,cond_false]
        refine hJ5 _ ⟨hp2,by omega,λl=>?_⟩
        rw[hm2]
        constructor
        ·rintro(h|h)
         ·exact .inl h
         ·exact .inr (.inl h)
        ·rintro(h|h|⟨p',hp',q',hq',_,e5,e6,_⟩)
         ·exact .inl h
         ·exact .inr h
         ·exact absurd ⟨e,hem,_,hym,rfl,rfl,⟨p',hp',e5⟩,q',hq',e6⟩ (hno hvd)
      ·have hkc:(d.ay.length:Int)≤k:=by simpa using hkc
       refine hJ4 _ ⟨by simp only[h1,List.filter_append];simp[hc],hp2,by simp only[List.length_append,List.length_singleton];omega,λl=>?_⟩
       simp only
       rw[hm2,List.take_of_length_le (by omega)]
       constructor
       ·rintro(⟨x,hx,r⟩|⟨y,hy,r⟩)
        ·exact⟨x,by simp[hx],r⟩
        ·exact⟨e,by simp,hc,y,List.mem_of_mem_drop hy,r⟩
       ·rintro⟨x,hx,hxo,y,hy,r⟩
        rcases List.mem_append.1 hx with hx|hx
        ·exact .inl ⟨x,hx,hxo,y,hy,r⟩
        ·simp at hx;subst hx
         refine .inr ⟨y,?_,r⟩
         have hxy:x.af<y.af:=by obtain⟨_,_,_,_,h,_⟩:=r;exact h
         rw[hL]
         have:P++x::rest=(P++[x])++rest:=by simp
         rw[this,List.drop_left' (by simp)]
         rw[hL]at hy
         rcases List.mem_append.1 hy with hy|hy
         ·have:=oN.2.2 y hy x (by simp);omega
         ·rcases List.mem_cons.1 hy with rfl|hy
          ·omega
          ·exact hy
   ·rintro⟨rs,ls⟩ ⟨h1,h2,h3,h4⟩
    simp only at h1 h2 h3 h4
    simp only[pM,aK]
    have hV:IsV d at1 (az.mk rs ls):=by
     refine⟨?_,λr=>?_,h2,λl=>?_⟩
     ·simp only[h1]
      exact List.pairwise_map.2 (hvd.asc.sublist List.filter_sublist)
     ·simp only[h1,List.mem_map,List.mem_filter,decide_eq_true_eq,hmem]
      constructor
      ·rintro⟨a,⟨ha,hr⟩,rfl⟩;exact⟨a,ha,hr,rfl⟩
      ·rintro⟨a,ha,hr,rfl⟩;exact⟨a,⟨ha,hr⟩,rfl⟩
     ·simp only[h4,hmem]
    refine Ok.cs (λhc=>Ok.s (.inr ⟨‹_›,_,hV,?_⟩)) λhc=>Ok.s (.inr ⟨‹_›,_,hV,?_⟩)
    ·rw[if_neg (by simpa using hc)];rfl
    ·rw[if_pos (by simpa using hc)]
 ·rcases iC d at1 with⟨a,ha,he,hf⟩|⟨hn,hf⟩
  ·simp only[hf,Bool.not_true,cond_false,qL,aK]
   refine hJ1 _ ?_
   simp only[Bool.not_eq_true',decide_eq_false_iff_not,iY]
   exact⟨λh hh=>h hh.2,λh hv=>h ⟨⟨a,ha,he⟩,hv⟩⟩
  ·simp only[hf,Bool.not_false,cond_true]
   refine hJ1 _ ⟨λ_ hh=>?_,λ_=>rfl⟩
   obtain⟨⟨a,ha,he⟩,_⟩:=hh
   exact hn a ha he
end Go.Proofs.YtjdopimopgpagaaGreat
namespace Go.Proofs.YtjdopimopgpagaaGreat
set_option linter.all false
open Go
def uH:List Int→Nat:=List.foldl (λa b=>a*256+b.toNat) 0
theorem vO(l:List Int)(b:Int):uH (l++[b])=uH l*256+b.toNat:=by simp[uH]
variable {α:Type}
theorem acE:∀{l:List α},l≠[]→∃i b,l=i++[b]:=λ{l} h=>⟨l.dropLast,l.getLast h,(List.dropLast_concat_getLast h).symm⟩
theorem aet:∀(n:Nat) (l m:List Int),l.length=n→m.length=n→(∀b∈l,0≤b∧b<256)→(∀b∈m,0≤b∧b<256)→uH l=uH m→l=m
 |0,l,m,h1,h2,_,_,_=>by simp at h1 h2;rw[h1,h2]
 |n+1,l,m,h1,h2,hl,hm,h=>by
  obtain⟨i,b,rfl⟩:=acE (l:=l) (by intro e;simp[e]at h1)
  obtain⟨j,c,rfl⟩:=acE (l:=m) (by intro e;simp[e]at h2)
  rw[vO,vO]at h
  have hb:=hl b (by simp)
  have hc:=hm c (by simp)
  have e1:b=c:=by omega
  have e2:uH i=uH j:=by omega
  subst e1
  rw[aet n i j (by simpa using h1) (by simpa using h2) (λx hx=>hl x (by simp[hx])) (λx hx=>hm x (by simp[hx])) e2]
structure SR(D:List Int)(B V:Nat):Prop where
 by_:∀b∈D,0≤b∧b<256
 le:B≤8*D.length
 hi:8*D.length≤B+8
 num:uH D=V*2 ^ (8*D.length-B)
variable {B V:Nat}
theorem SR.unique{D E:List Int}(h1:SR D B V)(h2:SR E B V)(a:8*D.length<B+8)(b:8*E.length<B+8):D=E:=by
 have e:D.length=E.length:=by have:=h1.le;have:=h2.le;omega
 exact aet _ D E rfl e.symm h1.by_ h2.by_ (by rw[h1.num,h2.num,e])
theorem SR.nil:SR [] 0 0:=⟨by simp,by simp,by simp,by simp[uH]⟩
theorem SR.more{D:List Int}(h:SR D B V)(h8:8*D.length=B):SR (D++[0]) B V:=by
 refine⟨?_,by simp;omega,by simp;omega,?_⟩
 ·intro b hb
  rcases List.mem_append.1 hb with hb|hb
  ·exact h.by_ b hb
  ·simp at hb;omega
 ·rw[vO,h.num]
  have e:8*(D++[(0:Int)]).length-B=8:=by simp;omega
  rw[e]
  have e2:8*D.length-B=0:=by omega
  rw[e2];simp
theorem SR.last{D:List Int}{b:Int}(h:SR (D++[b]) B V)(hf:B<8*(D.length+1)):0≤b∧b<256∧b.toNat%2 ^ (8*(D.length+1)-B)=0:=by
 have hb:=h.by_ b (by simp)
 refine⟨hb.1,hb.2,?_⟩
 have hn:=h.num
 have hh:=h.hi
 simp only[List.length_append,List.length_cons,List.length_nil,Nat.zero_add]at hn hh
 rw[vO]at hn
 generalize hk:8*(D.length+1)-B=k at hn ⊢
 have h1:(256:Nat)=2 ^ k*2 ^ (8-k):=by rw[←Nat.pow_add,show k+(8-k)=8 by omega]
 have h2:(uH D*256+b.toNat)%2 ^ k=0:=by rw[hn];exact Nat.mul_mod_left _ _
 rw[h1,←Nat.mul_assoc,Nat.mul_right_comm,Nat.mul_add_mod']at h2
 exact h2
variable {k:Nat}
theorem SR.push{D:List Int}{b:Int}{x:Nat}(h:SR (D++[b]) B V)(hk:1≤k)(hf:B+k≤8*(D.length+1))(hx:x<2 ^ k):
  SR (D++[b+(x*2 ^ (8*(D.length+1)-B-k):Nat)]) (B+k) (V*2 ^ k+x)∧b.toNat+x*2 ^ (8*(D.length+1)-B-k)<256∧x*2 ^ (8*(D.length+1)-B-k)<2 ^ (8*(D.length+1)-B):=by
 obtain⟨b0,b1,b2⟩:=h.last (by omega)
 have hh:=h.hi
 simp only[List.length_append,List.length_cons,List.length_nil,Nat.zero_add]at hh
 generalize hf0:8*(D.length+1)-B=f at b2 ⊢
 have hx2:x*2 ^ (f-k)<2 ^ f:=by
  have:2 ^ f=2 ^ k*2 ^ (f-k):=by rw[←Nat.pow_add,show k+(f-k)=f by omega]
  rw[this];exact Nat.mul_lt_mul_of_pos_right hx (Nat.two_pow_pos _)
 have hlt:b.toNat+x*2 ^ (f-k)<256:=by
  have e1:(256:Nat)=2 ^ f*2 ^ (8-f):=by rw[←Nat.pow_add,show f+(8-f)=8 by omega]
  obtain⟨q,hq⟩:=Nat.dvd_of_mod_eq_zero b2
  have hb8:b.toNat<2 ^ f*2 ^ (8-f):=by rw[←e1];omega
  rw[hq]at hb8 ⊢
  have hq8:q<2 ^ (8-f):=Nat.lt_of_mul_lt_mul_left hb8
  rw[e1]
  have s1:2 ^ f*(q+1)≤2 ^ f*2 ^ (8-f):=Nat.mul_le_mul_left _ hq8
  rw[Nat.mul_add,Nat.mul_one]at s1
  omega
 refine⟨⟨?_,by simp;omega,by simp;omega,?_⟩,hlt,hx2⟩
 ·intro y hy
  rcases List.mem_append.1 hy with hy|hy
  ·exact h.by_ y (by simp[hy])
  ·simp only[List.mem_singleton]at hy;omega
 ·have hn:=h.num
  simp only[List.length_append,List.length_cons,List.length_nil,Nat.zero_add]at hn ⊢
  rw[vO]at hn ⊢
  rw[hf0]at hn
  rw[show 8*(D.length+1)-(B+k)=f-k by omega]
  have e:(b+(x*2 ^ (f-k):Nat)).toNat=b.toNat+x*2 ^ (f-k):=by omega
  rw[e,Nat.add_mul,Nat.mul_assoc,←Nat.pow_add,show k+(f-k)=f by omega]
  omega
variable {b:Nat}
theorem ahp{y f:Nat}(hb:b%2 ^ f=0)(hy:y<2 ^ f):b ||| y=b+y:=by
 obtain⟨q,rfl⟩:=Nat.dvd_of_mod_eq_zero hb
 rw[Nat.mul_comm,←Nat.shiftLeft_eq,Nat.shiftLeft_add_eq_or_of_lt hy]
theorem ahq(n:Int):IntKind.wrap .u8 n=n%256:=rfl
theorem amD(n:Int):IntKind.wrap .u64 n=n%18446744073709551616:=rfl
theorem wU8{n:Nat}(h:n<256):IntKind.wrap .u8 (n:Int)=n:=by rw[ahq];omega
theorem qz{n:Nat}(h:n<18446744073709551616):IntKind.wrap .u64 (n:Int)=n:=by rw[amD];omega
variable {a:Nat}
theorem or8(ha:a<256)(hb:b<256):dK .or .u8 a b=((a ||| b:Nat):Int):=by
 show IntKind.wrap .u8 ((BitVec.ofNat 8 a ||| BitVec.ofNat 8 b).toNat:Int)=_
 rw[BitVec.toNat_or,BitVec.toNat_ofNat,BitVec.toNat_ofNat,Nat.mod_eq_of_lt (show a<2 ^ 8 from ha),Nat.mod_eq_of_lt (show b<2 ^ 8 from hb)]
 exact wU8 (Nat.or_lt_two_pow (n:=8) ha hb)
theorem and8(ha:a<256)(hb:b<256):dK .and .u8 a b=((a &&& b:Nat):Int):=by
 show IntKind.wrap .u8 ((BitVec.ofNat 8 a &&& BitVec.ofNat 8 b).toNat:Int)=_
 rw[BitVec.toNat_and,BitVec.toNat_ofNat,BitVec.toNat_ofNat,Nat.mod_eq_of_lt (show a<2 ^ 8 from ha),Nat.mod_eq_of_lt (show b<2 ^ 8 from hb)]
 exact wU8 (Nat.lt_of_le_of_lt Nat.and_le_left ha)
theorem akr(ha:a<2 ^ 64)(hb:b<2 ^ 64):dK .and .u64 a b=((a &&& b:Nat):Int):=by
 show IntKind.wrap .u64 ((BitVec.ofNat 64 a &&& BitVec.ofNat 64 b).toNat:Int)=_
 rw[BitVec.toNat_and,BitVec.toNat_ofNat,BitVec.toNat_ofNat,Nat.mod_eq_of_lt ha,Nat.mod_eq_of_lt hb]
 exact qz (Nat.lt_of_le_of_lt Nat.and_le_left ha)
theorem apG(ha:a<256):dK .and .u8 a 1=((a%2:Nat):Int):=by
 have:=and8 ha (show 1<256 by decide)
 rw[Nat.and_one_is_mod]at this;exact this
theorem acF(ha:a<2 ^ 64):dK .and .u64 a 1=((a%2:Nat):Int):=by
 have:=akr ha (show 1<2 ^ 64 by decide)
 rw[Nat.and_one_is_mod]at this;exact this
theorem apH(ha:a<2 ^ 64)(hk:k<64):dK .and .u64 a ((2 ^ k-1:Nat):Int)=((a%2 ^ k:Nat):Int):=by
 have hb:2 ^ k-1<2 ^ 64:=by have:=Nat.pow_lt_pow_right (show 1<2 by decide) hk;omega
 rw[akr ha hb,Nat.and_two_pow_sub_one_eq_mod]
theorem zX(a k:Nat):Int.fdiv (a:Int) (2 ^ k)=((a / 2 ^ k:Nat):Int):=by
 have:((2:Int) ^ k)=((2 ^ k:Nat):Int):=by norm_cast
 rw[this,Int.fdiv_eq_ediv_of_nonneg _ (Int.natCast_nonneg _)];rfl
def fM:List UInt8→List UInt8→Int
 |[],[]=>0
 |[],_::_=>-1
 |_::_,[]=>1
 |a::x,b::y=>if a=b then fM x y else if a<b then -1 else 1
theorem apI(l:List UInt8)(i:Nat):(⟨l.toArray⟩:ByteArray)[i]! = l[i]!:=by
 by_cases h:i<l.length
 ·rw[getElem!_pos l i h,getElem!_pos (⟨l.toArray⟩:ByteArray) i (by show i<l.toArray.size;simpa using h)];rfl
 ·rw[getElem!_neg l i h,getElem!_neg (⟨l.toArray⟩:ByteArray) i (by show ¬i<l.toArray.size;simpa using h)]
theorem ai3:∀(x y:List UInt8),Go.Extern.BytealgCompare.cmp ⟨x.toArray⟩ ⟨y.toArray⟩=fM x y:=by
 intro x y
 unfold Go.Extern.BytealgCompare.cmp
 simp only[apI]
 show(match(List.range (min x.length y.length)).find? λi=>x[i]! != y[i]! with
  |some i=>if x[i]!<y[i]! then -1 else 1
  |none=>if x.length<y.length then -1 else if x.length>y.length then 1 else 0)=fM x y
 induction x generalizing y with
 |nil=>cases y<;>simp[fM]
 |cons a x ih=>
  cases y with
  |nil=>simp[fM]
  |cons b y=>
   simp only[fM,List.length_cons]
   rw[show min (x.length+1) (y.length+1)=min x.length y.length+1 by omega,List.range_succ_eq_map,List.find?_cons]
   by_cases h:a=b
   ·subst h
    rw[if_pos rfl,←ih]
    simp only[List.getElem!_cons_zero,bne_self_eq_false,List.find?_map,Function.comp_def,Nat.succ_eq_add_one,List.getElem!_cons_succ]
    cases(List.range (min x.length y.length)).find? (λi=>x[i]! != y[i]!)<;>simp
   ·rw[if_neg h]
    have e:((a::x)[0]! != (b::y)[0]!)=true:=by simpa using h
    simp only[e]
    simp
theorem aeu:∀(x y:List UInt8),0<fM x y↔(Go.Op.bytesLess x y=false∧x≠y)
 |[],[]=>by simp[Go.Op.bytesLess,fM]
 |[],_::_=>by simp[Go.Op.bytesLess,fM]
 |_::_,[]=>by simp[Go.Op.bytesLess,fM]
 |a::x,b::y=>by
  simp only[Go.Op.bytesLess,fM]
  by_cases h:a=b
  ·subst h
   rw[if_pos rfl,aeu x y]
   have:¬a<a:=UInt8.lt_irrefl a
   simp[this]
  ·rw[if_neg h]
   by_cases h2:a<b
   ·simp[h2]
   ·simp[h2,h]
theorem ahr(x y:List UInt8):(!(Go.Op.bytesLess x y||x==y))=decide (0<fM x y):=by
 rw[Bool.eq_iff_iff,decide_eq_true_iff,aeu]
 cases Go.Op.bytesLess x y<;>simp
theorem ac9:∀x:List UInt8,fM x x=0
 |[]=>rfl
 |a::x=>by simp[fM,ac9 x]
theorem wD:∀x y:List UInt8,fM y x =-fM x y
 |[],[]=>rfl
 |[],_::_=>rfl
 |_::_,[]=>rfl
 |a::x,b::y=>by
  simp only[fM]
  by_cases h:a=b
  ·subst h;simp[wD x y]
  ·rw[if_neg h,if_neg (Ne.symm h)]
   by_cases h2:a<b
   ·rw[if_pos h2,if_neg (by intro h3;exact UInt8.lt_irrefl _ (UInt8.lt_trans h2 h3))];rfl
   ·rw[if_neg h2,if_pos (by
     rcases Nat.lt_trichotomy a.toNat b.toNat with h3|h3|h3
     ·exact absurd (UInt8.lt_iff_toNat_lt.2 h3) h2
     ·exact absurd (UInt8.toNat_inj.1 h3) h
     ·exact UInt8.lt_iff_toNat_lt.2 h3)]
theorem acG:∀{x y:List UInt8},fM x y=0→x=y
 |[],[],_=>rfl
 |[],_::_,h=>by simp[fM]at h
 |_::_,[],h=>by simp[fM]at h
 |a::x,b::y,h=>by
  simp only[fM]at h
  by_cases e:a=b
  ·rw[if_pos e]at h;rw[e,acG h]
  ·rw[if_neg e]at h;split at h<;>simp at h
theorem abH:∀{x y z:List UInt8},0<fM x y→0<fM y z→0<fM x z
 |[],[],_,h,_=>by simp[fM]at h
 |[],_::_,_,h,_=>by simp[fM]at h
 |_::_,[],z,_,h=>by cases z<;>simp[fM]at h
 |_::_,_::_,[],_,_=>by simp[fM]
 |a::x,b::y,c::z,h1,h2=>by
  simp only[fM]at h1 h2 ⊢
  by_cases e1:a=b
  ·subst e1
   rw[if_pos rfl]at h1
   by_cases e2:a=c
   ·rw[if_pos e2]at h2 ⊢;exact abH h1 h2
   ·rw[if_neg e2]at h2 ⊢;exact h2
  ·rw[if_neg e1]at h1
   have g1:¬a<b:=by intro h;rw[if_pos h]at h1;omega
   by_cases e2:b=c
   ·subst e2
    rw[if_neg e1,if_neg g1];omega
   ·rw[if_neg e2]at h2
    have g2:¬b<c:=by intro h;rw[if_pos h]at h2;omega
    simp only[UInt8.lt_iff_toNat_lt]at g1 g2
    have n1:a.toNat≠b.toNat:=λh=>e1 (UInt8.toNat_inj.1 h)
    have n2:b.toNat≠c.toNat:=λh=>e2 (UInt8.toNat_inj.1 h)
    rw[if_neg (by rintro rfl;omega),if_neg (by rw[UInt8.lt_iff_toNat_lt];omega)];omega
structure Str(s:bn)(B V:Nat):Prop where
 b:s.Bits=B
 r:SR s.Data B V
 t:8*s.Data.length<B+8
theorem Str.nil:Str (bn.mk [] 0) 0 0:=⟨rfl,SR.nil,by simp⟩
theorem Str.unique{s u:bn}{B V:Nat}(h1:Str s B V)(h2:Str u B V):s=u:=by
 have:=h1.r.unique h2.r h1.t h2.t
 obtain⟨d,n⟩:=s
 obtain⟨e,m⟩:=u
 have a:=h1.b;have b:=h2.b
 simp only at this a b
 subst this;rw[a,b]
theorem Str.split{s:bn}(h:Str s B V)(hf:8*s.Data.length≠B):∃i b,s.Data=i++[b]∧8*(i.length+1)=8*s.Data.length:=by
 have:=h.r.le
 obtain⟨i,b,e⟩:=acE (l:=s.Data) (by intro e;simp[e]at *;omega)
 exact⟨i,b,e,by rw[e];simp⟩
theorem x5(i:List α)(b:α){n:Int}(h:n=i.length):elO (i++[b]) n=some b:=by subst h;exact kr i b []
theorem ada(i:List α)(b c:α){n:Int}(h:n=i.length):iT (i++[b]) n c=some (i++[c]):=by
 subst h
 unfold iT
 rw[if_pos ⟨by omega,by simp;omega⟩]
 simp
theorem ae5{n:Nat}(h:n≤100000):oB n=some (((n+7) / 8:Nat):Int):=by
 unfold oB
 have e:Int.tdiv ((n:Int)+7) 8=(((n+7) / 8:Nat):Int):=by rw[Int.tdiv_eq_ediv_of_nonneg (by omega)];omega
 rw[cr (n:=(n:Int)+7) (by omega) (by omega),e,cr (by omega) (by omega)]
theorem aaq{s:bn}(h:Str s B V)(hB:B≤8192):l9 s=some true:=by
 have hle:=h.r.le;have ht:=h.t;have hb:=h.b
 refine Ok.eq ?_
 unfold l9
 refine Ok.jn (λv=>v=false) (λv hv=>?_) (λJ hJ=>?_)
 ·subst hv
  rw[cond_false,hb,cr (n:=8*(s.Data.length:Int)) (by omega) (by omega),cr (n:=8*(s.Data.length:Int)-B) (by omega) (by omega)]
  refine Ok.cs (λ_=>Ok.s rfl) λhc=>?_
  have hc:8*(s.Data.length:Int)-B≠0:=by simpa using hc
  obtain⟨i,b,hD,hi⟩:=h.split (by omega)
  have hl:=h.r
  rw[hD]at hl
  obtain⟨b0,b1,b2⟩:=hl.last (by omega)
  rw[cr (n:=(s.Data.length:Int)-1) (by omega) (by omega),hD,x5 i b (by simp),aK]
  have e:8*((i++[b]).length:Int)-B=((8*(i.length+1)-B:Nat):Int):=by simp;omega
  rw[e]
  generalize hf:8*(i.length+1)-B=f at b2 ⊢
  rw[cr (n:=(8:Int)-(f:Int)) (by omega) (by omega)]
  refine Ok.chk (by simp;omega) (Ok.s ?_)
  obtain⟨q,hq⟩:=Nat.dvd_of_mod_eq_zero b2
  have e2:min ((8:Int)-f).toNat 8=8-f:=by omega
  rw[e2,show b=((b.toNat:Nat):Int)by omega,hq]
  have e3:(((2 ^ f*q:Nat):Int)*2 ^ (8-f))=((256*q:Nat):Int):=by
   have e1:(256:Nat)=2 ^ f*2 ^ (8-f):=by rw[←Nat.pow_add,show f+(8-f)=8 by omega]
   rw[e1,Nat.mul_assoc,Nat.mul_comm (2 ^ (8-f)) q,←Nat.mul_assoc]
   push_cast;rfl
  rw[e3,ahq]
  simp
 ·rw[hb,ae5 (by omega)]
  refine Ok.cs (λhc=>by simp at hc;omega) λ_=>?_
  refine Ok.cs (λhc=>by simp at hc;omega) λ_=>?_
  rw[aK]
  exact hJ _ (by simp;omega)
theorem ae6{s:bn}{v n:Nat}(h:Str s B V)(hn:n≤64)(hv:v<2 ^ n)(hB:B+n≤8192):Ok (oC s v n) (λu=>Str u (B+n) (V*2 ^ n+v)):=by
 unfold oC
 have agr:v<2 ^ 64:=Nat.lt_of_lt_of_le hv (Nat.pow_le_pow_right (by decide) hn)
 refine Ok.whl (λsg:Int×List Int×Int=>∃(r k:Nat) (D:List Int),sg=((r:Int),D,((B+k:Nat):Int))∧r+k=n∧SR D (B+k) (V*2 ^ k+v / 2 ^ r)∧8*D.length<B+k+8) (λsg=>sg.1.toNat) ⟨n,0,s.Data,by rw[h.b];rfl,by simp,by
   rw[Nat.div_eq_of_lt hv];simpa using h.r,by simpa using h.t⟩ (by simp only;omega) ?_
 rintro _ Z ⟨r,k,D,rfl,hrk,hr,ht⟩ hZ
 have hle:=hr.le
 simp only
 refine Ok.cs (λhc=>?_) λhc=>?_
 ·have hr0:0<r:=by simpa using hc
  rw[cr (n:=8*(D.length:Int)) (by omega) (by omega),cr (n:=8*(D.length:Int)-((B+k:Nat):Int)) (by omega) (by omega)]
  refine Ok.jn (λsg:Int×List Int=>∃(i:List Int) (b:Int) (f:Nat),sg=((f:Int),i++[b])∧SR (i++[b]) (B+k) (V*2 ^ k+v / 2 ^ r)∧8*(i.length+1)-(B+k)=f∧1≤f∧f≤8) ?_ ?_
  ·rintro _ ⟨i,b,f,rfl,hs,hf,hf1,hf8⟩
   simp only
   obtain⟨m,hm⟩:∃m:Nat,(if(f:Int)<r then(f:Int)else r)=m∧1≤m∧m≤f∧m≤r:=by
    by_cases h:(f:Int)<r
    ·exact⟨f,by rw[if_pos h],by omega,by omega,by omega⟩
    ·exact⟨r,by rw[if_neg h],by omega,by omega,by omega⟩
   obtain⟨hm,hm1,hmf,hmr⟩:=hm
   rw[hm]
   have e1:w64 ((r:Int)-m)=((r-m:Nat):Int):=by rw[cr (by omega) (by omega)];omega
   have e2:w64 ((f:Int)-m)=((f-m:Nat):Int):=by rw[cr (by omega) (by omega)];omega
   have e3:w64 (((i++[b]).length:Int)-1)=i.length:=by
    have:=hs.le;have:=hs.hi
    simp at *
    rw[cr (by omega) (by omega)]
   have e4:w64 (((B+k:Nat):Int)+m)=((B+(k+m):Nat):Int):=by rw[cr (by omega) (by omega)];omega
   rw[e1,e2,e3,e4]
   refine Ok.chk (by simp) (Ok.chk (by simp) ?_)
   rw[x5 i b rfl,aK]
   refine Ok.chk (by simp) ?_
   have hsl:=hs.last (by omega)
   have e5:Int.fdiv (v:Int) (2 ^ min ((r-m:Nat):Int).toNat 64)=((v / 2 ^ (r-m):Nat):Int):=by
    rw[show min ((r-m:Nat):Int).toNat 64=r-m by omega,zX]
   have e6:IntKind.wrap .u64 (IntKind.wrap .u64 ((1:Int)*2 ^ min (m:Int).toNat 64)-1)=((2 ^ m-1:Nat):Int):=by
    rw[show min (m:Int).toNat 64=m by omega]
    have hp:2 ^ m≤2 ^ 8:=Nat.pow_le_pow_right (by decide) (by omega)
    have hp0:0<2 ^ m:=Nat.two_pow_pos m
    have:(1:Int)*2 ^ m=((2 ^ m:Nat):Int):=by push_cast;omega
    rw[this,qz (by omega),show((2 ^ m:Nat):Int)-1=((2 ^ m-1:Nat):Int)by omega,qz (by omega)]
   rw[e5,e6,apH (Nat.lt_of_le_of_lt (Nat.div_le_self _ _) agr) (by omega)]
   obtain⟨hp1,hp2,hp3⟩:=hs.push (k:=m) (x:=v / 2 ^ (r-m)%2 ^ m) hm1 (by omega) (Nat.mod_lt _ (Nat.two_pow_pos _))
   rw[hf]at hp1 hp2 hp3
   generalize hx:v / 2 ^ (r-m)%2 ^ m=x at hp1 hp2 hp3 ⊢
   have e7:(x:Int)*2 ^ min ((f-m:Nat):Int).toNat 64=((x*2 ^ (f-m):Nat):Int):=by
    rw[show min ((f-m:Nat):Int).toNat 64=f-m by omega];push_cast;rfl
   have hy:x*2 ^ (f-m)<256:=by omega
   rw[e7,qz (by omega),wU8 (by omega)]
   rw[hf]at hsl
   have e8:dK .or .u8 b ((x*2 ^ (f-m):Nat):Int)=b+((x*2 ^ (f-m):Nat):Int):=by
    obtain⟨hb0,hb1,hb2⟩:=hsl
    have:=or8 (a:=b.toNat) (b:=x*2 ^ (f-m)) (by omega) hy
    rw[show((b.toNat:Nat):Int)=b by omega]at this
    rw[this,ahp hb2 hp3];omega
   rw[e8,ada i b _ rfl,aK]
   refine hZ _ ⟨r-m,k+m,_,rfl,by omega,?_,?_⟩ (by simp only;omega)
   ·rw[←Nat.add_assoc]
    have e9:(V*2 ^ k+v / 2 ^ r)*2 ^ m+x=V*2 ^ (k+m)+v / 2 ^ (r-m):=by
     have d1:v / 2 ^ r=v / 2 ^ (r-m) / 2 ^ m:=by rw[Nat.div_div_eq_div_mul,←Nat.pow_add,show r-m+m=r by omega]
     rw[Nat.add_mul,Nat.mul_assoc,←Nat.pow_add,d1,←hx]
     have:=Nat.div_add_mod (v / 2 ^ (r-m)) (2 ^ m)
     rw[Nat.mul_comm (2 ^ m)]at this
     omega
    rw[←e9];exact hp1
   ·simp;omega
  ·intro J hJ
   refine Ok.cs (λhc=>?_) λhc=>?_
   ·have hc:8*(D.length:Int)-((B+k:Nat):Int)=0:=by simpa using hc
    rw[dP (by simp;omega),aK]
    exact hJ _ ⟨D,0,8,rfl,hr.more (by omega),by omega,by omega,by omega⟩
   ·have hc:8*(D.length:Int)-((B+k:Nat):Int)≠0:=by simpa using hc
    have hst:Str (bn.mk D ((B+k:Nat):Int)) (B+k) (V*2 ^ k+v / 2 ^ r):=⟨rfl,hr,ht⟩
    obtain⟨i,b,hD,hi⟩:=hst.split (by simp only;omega)
    simp only at hD hi
    refine hJ _ ⟨i,b,8*D.length-(B+k),?_,by rw[←hD];exact hr,by omega,by omega,by omega⟩
    rw[←hD];simp;omega
 ·have hr0:r=0:=by simpa using hc
  subst hr0
  obtain rfl:k=n:=by omega
  refine Ok.s ⟨rfl,?_,by simpa using ht⟩
  simpa using hr
theorem aev{s:bn}{v n:Nat}(h:Str s B V)(hn:n≤64)(hv:v<2 ^ n)(hB:B+n≤8192):Ok (nH s v n) (λu=>Str u.1 (B+n) (V*2 ^ n+v)∧u.2=0):=by
 unfold nH
 have hle:=h.r.le;have ht:=h.t;have hb:=h.b
 rw[aaq h (by omega),aK]
 simp only[Bool.not_true,cond_false]
 refine Ok.jn (λv=>v=false) (λv1 hv1=>?_) λJ hJ=>?_
 ·subst hv1
  rw[cond_false,hb,cr (by omega) (by omega)]
  refine Ok.cs (λhc=>by simp at hc;omega) λ_=>?_
  unfold ru
  rw[dP (by simp;omega),aK,aK]
  refine Ok.bnd (ae6 (B:=B) (V:=V) (s:=bn.mk ([]++s.Data) s.Bits) ⟨hb,by simpa using h.r,by simpa using ht⟩ hn hv hB) λu hu=>Ok.s ⟨hu,rfl⟩
 ·refine Ok.cs (λhc=>by simp at hc;omega) λ_=>?_
  refine Ok.cs (λhc=>by simp at hc;omega) λ_=>?_
  refine Ok.cs (λhc=>?_) λ_=>hJ _ rfl
  have hn2:n<64:=by simp at hc;omega
  refine Ok.chk (by simp) (hJ _ ?_)
  rw[show min ((n:Nat):Int).toNat 64=n by omega,zX,Nat.div_eq_of_lt hv];simp
theorem aew{i:List Int}{b:Int}(h0:0≤b)(h1:b<256)(hk:8*i.length≤k)(hk2:k<8*(i.length+1))(hl:k≤100000):oJ (i++[b]) (k:Int)=some ((b.toNat / 2 ^ (7-k%8)%2:Nat):Int):=by
 unfold oJ
 have e1:Int.tdiv (k:Int) 8=i.length:=by rw[Int.tdiv_eq_ediv_of_nonneg (by omega)];omega
 have e2:Int.tmod (k:Int) 8=((k%8:Nat):Int):=by rw[Int.tmod_eq_emod_of_nonneg (by omega)];omega
 have e3:(7:Int)-((k%8:Nat):Int)=((7-k%8:Nat):Int):=by omega
 rw[e1,e2,e3,cr (by omega) (by omega),x5 i b rfl,aK,cr (by omega) (by omega),qz (by omega)]
 rw[nk (by simp)]
 have e4:min ((7-k%8:Nat):Int).toNat 8=7-k%8:=by omega
 have hlt:b.toNat / 2 ^ (7-k%8)<256:=Nat.lt_of_le_of_lt (Nat.div_le_self _ _) (by omega)
 have e5:Int.fdiv b (2 ^ (7-k%8))=((b.toNat / 2 ^ (7-k%8):Nat):Int):=by
  rw[←zX,show((b.toNat:Nat):Int)=b by omega]
 rw[e4,e5,qz (by omega),acF (by omega)]
theorem tT{s:bn}(h:Str s B V)(hB:B≤8192):oD s=some true:=by
 have hle:=h.r.le;have ht:=h.t;have hb:=h.b
 refine Ok.eq ?_
 unfold oD
 rw[hb]
 have e1:Int.tdiv (w64 ((B:Int)+7)) 8=((s.Data.length:Nat):Int):=by rw[cr (by omega) (by omega),Int.tdiv_eq_ediv_of_nonneg (by omega)];omega
 rw[e1,cr (n:=(s.Data.length:Int)) (by omega) (by omega),cr (n:=8*(s.Data.length:Int)) (by omega) (by omega)]
 refine Ok.cs (λhc=>by simp at hc;omega) λ_=>?_
 refine Ok.whl (λi:Int=>(B:Int)≤i∧i≤8*s.Data.length) (λi=>(8*(s.Data.length:Int)-i).toNat) ⟨by omega,by omega⟩ (by omega) ?_
 rintro i Z ⟨h1,h2⟩ hZ
 refine Ok.cs (λhc=>?_) λ_=>Ok.s rfl
 have hc:i<8*(s.Data.length:Int):=by simpa using hc
 obtain⟨p,b,hD,hi⟩:=h.split (by omega)
 have hl:=h.r
 rw[hD]at hl
 obtain⟨b0,b1,b2⟩:=hl.last (by omega)
 obtain⟨k,rfl⟩:∃k:Nat,i=k:=⟨i.toNat,by omega⟩
 rw[hD,aew b0 b1 (by omega) (by omega) (by omega),aK]
 have hbit:b.toNat / 2 ^ (7-k%8)%2=0:=by
  obtain⟨q,hq⟩:=Nat.dvd_of_mod_eq_zero b2
  generalize hf:8*(p.length+1)-B=f at hq
  have:2 ^ f=2 ^ (7-k%8)*(2*2 ^ (f-(7-k%8)-1)):=by
   rw[←Nat.pow_succ',←Nat.pow_add];congr 1;omega
  rw[hq,this,Nat.mul_assoc,Nat.mul_div_cancel_left _ (Nat.two_pow_pos _),Nat.mul_assoc]
  exact Nat.mul_mod_right _ _
 rw[hbit]
 refine Ok.cs (λhc=>by simp at hc) λ_=>?_
 rw[cr (by omega) (by omega)]
 exact hZ _ ⟨by omega,by omega⟩ (by omega)
theorem adb{s:bn}(h:Str s B V)(hb1:b<2)(hB:B+1≤8192):Ok (tP s b) (λu=>Str u (B+1) (V*2+b)):=by
 have hle:=h.r.le;have ht:=h.t;have hb:=h.b
 unfold tP
 rw[hb]
 have e1:Int.tdiv (B:Int) 8=((B / 8:Nat):Int):=by rw[Int.tdiv_eq_ediv_of_nonneg (by omega)];omega
 have e2:Int.tmod (B:Int) 8=((B%8:Nat):Int):=by rw[Int.tmod_eq_emod_of_nonneg (by omega)];omega
 have e3:(7:Int)-((B%8:Nat):Int)=((7-B%8:Nat):Int):=by omega
 rw[e1,e2,e3,cr (by omega) (by omega),cr (by omega) (by omega),cr (by omega) (by omega),qz (by omega)]
 refine Ok.bnd (P:=λl=>l=s.Data) ⟨_,dP (by simp;omega),by simp⟩ ?_
 rintro _ rfl
 refine Ok.jn (λl=>∃(i:List Int) (c:Int),l=i++[c]∧SR (i++[c]) B V∧i.length=B / 8) ?_ ?_
 ·rintro _ ⟨i,c,rfl,hs,hi⟩
  refine Ok.jn (λl=>SR l (B+1) (V*2+b)∧8*l.length<B+1+8) (λl hl=>Ok.s ⟨rfl,hl.1,hl.2⟩) λJ hJ=>?_
  obtain⟨hp1,hp2,hp3⟩:=hs.push (k:=1) (x:=b) (by omega) (by omega) (by omega)
  refine Ok.cs (λhc=>?_) λhc=>?_
  ·have hc:b=1:=by simp at hc;omega
   subst hc
   rw[x5 i c (by omega),aK,nk (by simp)]
   obtain⟨c0,c1,c2⟩:=hs.last (by omega)
   have e5:min ((7-B%8:Nat):Int).toNat 8=8*(i.length+1)-B-1:=by omega
   have e6:(1:Int)*2 ^ (8*(i.length+1)-B-1)=((1*2 ^ (8*(i.length+1)-B-1):Nat):Int):=by push_cast;rfl
   rw[e5,e6,wU8 (by omega)]
   have e8:dK .or .u8 c ((1*2 ^ (8*(i.length+1)-B-1):Nat):Int)=c+((1*2 ^ (8*(i.length+1)-B-1):Nat):Int):=by
    have:=or8 (a:=c.toNat) (b:=1*2 ^ (8*(i.length+1)-B-1)) (by omega) (by omega)
    rw[show((c.toNat:Nat):Int)=c by omega]at this
    rw[this,ahp c2 hp3];omega
   rw[e8,ada i c _ (by omega),aK]
   exact hJ _ ⟨by simpa using hp1,by simp;omega⟩
  ·have hc:b=0:=by simp at hc;omega
   subst hc
   refine hJ _ ⟨by simpa using hp1,by simp;omega⟩
 ·intro J hJ
  refine Ok.cs (λhc=>?_) λhc=>?_
  ·have hc:B%8=0:=by simp at hc;omega
   rw[dP (by simp;omega),aK]
   exact hJ _ ⟨s.Data,0,rfl,h.r.more (by omega),by omega⟩
  ·have hc:B%8≠0:=by simp at hc;omega
   obtain⟨i,c,hD,hi⟩:=h.split (by omega)
   exact hJ _ ⟨i,c,hD,hD▸h.r,by omega⟩
theorem aex{s:bn}{v n:Nat}(h:Str s B V)(hn:n≤64)(hv:v<2 ^ n)(hB:B+n≤8192):Ok (tG s v n) (λu=>Str u.1 (B+n) (V*2 ^ n+v)∧u.2=0):=by
 unfold tG
 have hb:=h.b
 have agr:v<2 ^ 64:=Nat.lt_of_lt_of_le hv (Nat.pow_le_pow_right (by decide) hn)
 rw[tT h (by omega),aK]
 simp only[Bool.not_true,cond_false]
 refine Ok.jn (λv=>v=false) (λv1 hv1=>?_) λJ hJ=>?_
 ·subst hv1
  rw[cond_false,hb,cr (n:=(B:Int)+n) (by omega) (by omega)]
  refine Ok.cs (λhc=>by simp at hc;omega) λ_=>?_
  refine Ok.whl (λsg:Int×List Int×Int=>∃(r k:Nat),sg.1=(r:Int)-1∧r+k=n∧Str (bn.mk sg.2.1 sg.2.2) (B+k) (V*2 ^ k+v / 2 ^ r)) (λsg=>(sg.1+1).toNat) ⟨n,0,by simp only;rw[cr (by omega) (by omega)],by simp,by
   rw[Nat.div_eq_of_lt hv];simp only[Nat.add_zero,Nat.pow_zero,Nat.mul_one];rw[←hb];exact h⟩ (by simp only;rw[cr (by omega) (by omega)];omega) ?_
  rintro⟨i,D,N⟩ Z ⟨r,k,hi,hrk,hs⟩ hZ
  simp only at hi hs ⊢
  subst hi
  refine Ok.cs (λhc=>?_) λhc=>?_
  ·have hr:1≤r:=by simp at hc;omega
   have e:((r:Int)-1)=((r-1:Nat):Int):=by omega
   rw[e,qz (by omega)]
   refine Ok.chk (by simp) ?_
   rw[show min ((r-1:Nat):Int).toNat 64=r-1 by omega,zX,acF (Nat.lt_of_le_of_lt (Nat.div_le_self _ _) agr)]
   refine Ok.bnd (adb hs (Nat.mod_lt _ (by omega)) (by omega)) λu hu=>?_
   rw[cr (by omega) (by omega)]
   refine hZ _ ⟨r-1,k+1,rfl,by omega,?_⟩ (by simp only;omega)
   have e9:(V*2 ^ k+v / 2 ^ r)*2+v / 2 ^ (r-1)%2=V*2 ^ (k+1)+v / 2 ^ (r-1):=by
    have d1:v / 2 ^ r=v / 2 ^ (r-1) / 2:=by
     rw[Nat.div_div_eq_div_mul,←Nat.pow_succ];congr 2;omega
    rw[Nat.pow_succ,d1,Nat.add_mul,Nat.mul_assoc]
    omega
   rw[←Nat.add_assoc,←e9];exact hu
  ·have hr:r=0:=by simp at hc;omega
   subst hr
   obtain rfl:k=n:=by omega
   refine Ok.s ⟨by simpa using hs,rfl⟩
 ·refine Ok.cs (λhc=>by simp at hc;omega) λ_=>?_
  refine Ok.cs (λhc=>by simp at hc;omega) λ_=>?_
  refine Ok.cs (λhc=>?_) λ_=>hJ _ rfl
  have hn2:n<64:=by simp at hc;omega
  rw[qz (by omega)]
  refine Ok.chk (by simp) (hJ _ ?_)
  rw[show min ((n:Nat):Int).toNat 64=n by omega,zX,Nat.div_eq_of_lt hv];simp
theorem abI{σ β:Type}{B B':Int→(σ→Option β)→σ→Option β}{K K':Int→σ→Option β}:∀(n:Nat) (i:Int) (s:σ),(∀(j:Int) s Z Z',i≤j→j<i+n→(∀s,Z s=Z' s)→B j Z s=B' j Z' s)→(∀s,K (i+n) s=K' (i+n) s)→gz n i B K s=gz n i B' K' s
 |0,i,s,_,hk=>by simpa [gz]using hk s
 |n+1,i,s,hb,hk=>by
  simp only[gz]
  refine hb i s _ _ (by omega) (by omega) λs'=>?_
  refine abI n (i+1) s' (λj s Z Z' h1 h2 hz=>hb j s Z Z' (by omega) (by omega) hz) λs=>?_
  have:=hk s
  rw[show i+1+(n:Int)=i+((n+1:Nat):Int)by omega];exact this
theorem ahs{s:bn}{i:Nat}(hb:∀b∈s.Data,0≤b∧b<256)(hi:i<8*s.Data.length)(hl:i≤100000):∃x:Int,qH s (i:Int)=some x∧oJ s.Data (i:Int)=some x:=by
 have e1:Int.tdiv (i:Int) 8=((i / 8:Nat):Int):=by rw[Int.tdiv_eq_ediv_of_nonneg (by omega)];omega
 have e2:Int.tmod (i:Int) 8=((i%8:Nat):Int):=by rw[Int.tmod_eq_emod_of_nonneg (by omega)];omega
 have e3:(7:Int)-((i%8:Nat):Int)=((7-i%8:Nat):Int):=by omega
 obtain⟨e,he,hm,_⟩:=(pK (l:=s.Data) (i:=((i / 8:Nat):Int)) (by omega) (by omega)).get
 have hbe:=hb e hm
 have e4:min ((7-i%8:Nat):Int).toNat 8=7-i%8:=by omega
 have hlt:e.toNat / 2 ^ (7-i%8)<256:=Nat.lt_of_le_of_lt (Nat.div_le_self _ _) (by omega)
 have e5:Int.fdiv e (2 ^ (7-i%8))=((e.toNat / 2 ^ (7-i%8):Nat):Int):=by
  rw[←zX,show((e.toNat:Nat):Int)=e by omega]
 refine⟨((e.toNat / 2 ^ (7-i%8)%2:Nat):Int),?_,?_⟩
 ·unfold qH
  rw[e1,e2,e3,cr (by omega) (by omega),he,aK,cr (by omega) (by omega),nk (by simp),e4,e5,apG hlt,qz (by omega)]
 ·unfold oJ
  rw[e1,e2,e3,cr (by omega) (by omega),he,aK,cr (by omega) (by omega),qz (by omega),nk (by simp),e4,e5,qz (by omega),acF (by omega)]
theorem as7(x:Int):∃n:Nat,dK .and .u64 x 65535=n∧n<65536:=by
 refine⟨(BitVec.ofInt 64 x &&& BitVec.ofInt 64 65535).toNat,?_,?_⟩
 ·show IntKind.wrap .u64 _=_
  exact qz (BitVec.isLt _)
 ·rw[BitVec.toNat_and]
  exact Nat.lt_of_le_of_lt Nat.and_le_right (by decide)
theorem as8{n:Nat}(h:n<65536):∃m:Nat,dK .xor .u64 n 4129=m∧m<65536:=by
 refine⟨n ^^^ 4129,?_,Nat.xor_lt_two_pow (n:=16) h (by decide)⟩
 show IntKind.wrap .u64 ((BitVec.ofNat 64 n ^^^ BitVec.ofNat 64 4129).toNat:Int)=_
 rw[BitVec.toNat_xor,BitVec.toNat_ofNat,BitVec.toNat_ofNat,Nat.mod_eq_of_lt (show n<2 ^ 64 by omega),Nat.mod_eq_of_lt (show 4129<2 ^ 64 by decide)]
 exact qz (Nat.lt_trans (Nat.xor_lt_two_pow (n:=16) h (by decide)) (by decide))
theorem agt{s:bn}(h:Str s B V)(hB:B≤8192):∃c:Nat,c<65536∧mb s=some ((c:Int),0)∧mc s=some ((c:Int),0):=by
 have hle:=h.r.le;have ht:=h.t;have hb:=h.b
 have key:mb s=mc s:=by
  unfold mb mc
  rw[aaq h hB,tT h hB]
  simp only[aK,Bool.not_true,cond_false]
  congr 1
  refine abI _ _ _ ?_ λs=>rfl
  intro j r Z Z' h1 h2 hz
  obtain⟨x,hx1,hx2⟩:=ahs (s:=s) (i:=j.toNat) h.r.by_ (by omega) (by omega)
  rw[show((j.toNat:Nat):Int)=j by omega]at hx1 hx2
  simp only[jn,hx1,hx2,aK,hz]
  by_cases hc:Int.fdiv r (2 ^ min (15:Int).toNat 64)=x<;>simp[hc]
 rw[key]
 have:Ok (mc s) (λp=>∃c:Nat,c<65536∧p=((c:Int),0)):=by
  unfold mc
  rw[tT h hB,aK]
  simp only[Bool.not_true,cond_false]
  refine Ok.chk (by simp;omega) ?_
  refine Ok.gz (λ_ (r:Int)=>∃c:Nat,c<65536∧r=c) 0 s.Bits ?_ ?_ _ _ _ (by simp) (by omega) (by omega) ⟨65535,by decide,rfl⟩
  ·rintro i r Z h1 h2 ⟨c,hc,rfl⟩ hZ
   refine Ok.jn (λr=>∃c:Nat,c<65536∧r=c) (λr hr=>hZ _ hr) λJ hJ=>?_
   obtain⟨x,hx1,hx2⟩:=ahs (s:=s) (i:=i.toNat) h.r.by_ (by omega) (by omega)
   rw[show((i.toNat:Nat):Int)=i by omega]at hx2
   rw[hx2,aK]
   obtain⟨n,hn,hn2⟩:=as7 (IntKind.wrap .u64 ((c:Int)*2 ^ min (1:Int).toNat 64))
   rw[hn]
   refine Ok.cs (λ_=>?_) λ_=>hJ _ ⟨n,hn2,rfl⟩
   obtain⟨m,hm,hm2⟩:=as8 hn2
   rw[hm]
   exact hJ _ ⟨m,hm2,rfl⟩
  ·rintro i r h1 h2 ⟨c,hc,rfl⟩
   exact Ok.s ⟨c,hc,rfl⟩
 obtain⟨_,hp,c,hc,rfl⟩:=this
 exact⟨c,hc,hp,hp⟩
theorem ai4{s:bn}{v n:Nat}(h:Str s B V)(hn:n≤64)(hv:v<2 ^ n)(hB:B+n≤8192):∃u,bX (bM.mk s) v n=some (bM.mk u)∧dG s v n=some u∧Str u (B+n) (V*2 ^ n+v):=by
 have agr:v<2 ^ 64:=Nat.lt_of_lt_of_le hv (Nat.pow_le_pow_right (by decide) hn)
 obtain⟨p,hp,hs,_⟩:=aev h hn hv hB
 obtain⟨q,hq,ht,_⟩:=aex h hn hv hB
 have e:=hs.unique ht
 refine⟨p.1,?_,?_,hs⟩
 ·unfold bX
  rw[qz (by omega),hp];rfl
 ·unfold dG
  rw[qz (by omega),hq,e];rfl
variable {β σ:Type}
theorem ade{γ:Type}{B1:Int→α→(σ→Option β)→σ→Option β}{B2:Int→α→(σ→Option γ)→σ→Option γ}{L:List α}(I:Nat→σ→Prop)
  (hc:∀(j:Nat) x s,L[j]?=some x→I j s→∃s',I (j+1) s'∧(∀Z,B1 (j:Int) x Z s=Z s')∧∀Z,B2 (j:Int) x Z s=Z s') (s:σ) (h:I 0 s) :
  ∃s',I L.length s'∧(∀K,bJ L 0 B1 K s=K s')∧∀K,bJ L 0 B2 K s=K s':=by
 have key:∀(l p:List α) (s:σ),L=p++l→I p.length s→∃s',I L.length s'∧(∀K,bJ l p.length B1 K s=K s')∧∀K,bJ l p.length B2 K s=K s':=by
  intro l
  induction l with
  |nil=>intro p s hj h;rw[List.append_nil]at hj;subst hj;exact⟨s,h,λ_=>rfl,λ_=>rfl⟩
  |cons x r ih=>
   intro p s hj h
   obtain⟨s1,h1,e1,e2⟩:=hc p.length x s (by rw[hj];simp) h
   obtain⟨s2,h2,e3,e4⟩:=ih (p++[x]) s1 (by simp[hj]) (by simpa using h1)
   simp only[List.length_append,List.length_cons,List.length_nil]at e3 e4
   exact⟨s2,h2,λK=>by simp only[bJ];rw[e1];exact e3 K,λK=>by simp only[bJ];rw[e2];exact e4 K⟩
 exact key L [] s rfl h
def mY:Nat→List (Nat×Nat)→Nat
 |a,[]=>a
 |a,(v,w)::r=>mY (a*2 ^ w+v) r
def gq:List (Nat×Nat)→Nat
 |[]=>0
 |(_,w)::r=>w+gq r
theorem vP:∀(a:Nat) (F G:List (Nat×Nat)),mY a (F++G)=mY (mY a F) G
 |_,[],_=>rfl
 |a,(v,w)::r,G=>vP _ r G
theorem tJ:∀(F G:List (Nat×Nat)),gq (F++G)=gq F+gq G
 |[],G=>by simp[gq]
 |(v,w)::r,G=>by simp only[List.cons_append,gq,tJ r G];omega
def ry(l:Int):Nat:=if l=8 then 0 else if l=16 then 1 else if l=32 then 2 else 3
variable {l:Int}
theorem agu(h:mX l=true):vG l=some (ry l:Int):=by
 simp only[mX,Bool.or_eq_true,decide_eq_true_eq]at h
 rcases h with rfl|rfl|rfl|rfl<;>decide +kernel
theorem qM(F:(σ→Option β)→σ→Option β)(n:Nat)(s:σ):iter F (n+1) s=F (iter F n) s:=rfl
theorem aht(h:mX l=true)(R:Int→Option β):whl (λ(Z:Int→Option β) (c:Int)=>chk (decide (0≤c))<|bif decide (IntKind.wrap .i64 ((8:Int)*2 ^ min c.toNat 64)<l)then Z (w64 (c+1))else R c) 0=R (ry l:Int):=by
 simp only[mX,Bool.or_eq_true,decide_eq_true_eq]at h
 show iter _ (1099511627772+4) 0=_
 have e1:w64 (0+1)=1:=by decide
 have e2:w64 (1+1)=2:=by decide
 have e3:w64 (2+1)=3:=by decide
 have p0:IntKind.wrap .i64 ((8:Int)*2 ^ min (0:Int).toNat 64)=8:=by decide
 have p1:IntKind.wrap .i64 ((8:Int)*2 ^ min (1:Int).toNat 64)=16:=by decide
 have p2:IntKind.wrap .i64 ((8:Int)*2 ^ min (2:Int).toNat 64)=32:=by decide
 have p3:IntKind.wrap .i64 ((8:Int)*2 ^ min (3:Int).toNat 64)=64:=by decide
 rcases h with rfl|rfl|rfl|rfl
 ·rw[qM,nk (by decide),p0];rfl
 ·rw[qM,nk (by decide),p0,e1]
  simp only[show decide ((8:Int)<16)=true from rfl,cond_true]
  rw[qM,nk (by decide),p1];rfl
 ·rw[qM,nk (by decide),p0,e1]
  simp only[show decide ((8:Int)<32)=true from rfl,cond_true]
  rw[qM,nk (by decide),p1,e2]
  simp only[show decide ((16:Int)<32)=true from rfl,cond_true]
  rw[qM,nk (by decide),p2];rfl
 ·rw[qM,nk (by decide),p0,e1]
  simp only[show decide ((8:Int)<64)=true from rfl,cond_true]
  rw[qM,nk (by decide),p1,e2]
  simp only[show decide ((16:Int)<64)=true from rfl,cond_true]
  rw[qM,nk (by decide),p2,e3]
  simp only[show decide ((32:Int)<64)=true from rfl,cond_true]
  rw[qM,nk (by decide),p3];rfl
theorem uI{s:bn}{n:Nat}{v:Int}(h:Str s B V)(h0:0≤v)(hn:n≤64)(hv:v<2 ^ n)(hB:B+n≤8192):∃u,bX (bM.mk s) v n=some (bM.mk u)∧dG s v n=some u∧Str u (B+n) (V*2 ^ n+v.toNat):=by
 have hv':v.toNat<2 ^ n:=by
  have:((2:Int) ^ n)=((2 ^ n:Nat):Int):=by push_cast;rfl
  omega
 obtain⟨u,h1,h2,h3⟩:=ai4 h hn hv' hB
 rw[show((v.toNat:Nat):Int)=v by omega]at h1 h2
 exact⟨u,h1,h2,h3⟩
theorem ahu{s:bn}(h:Str s B V)(hB:B+8≤8192):Ok (uB s) (λp=>p.1.Data=s.Data):=by
 unfold uB
 rw[tT h (by omega),aK]
 simp only[Bool.not_true,cond_false]
 have hle:=h.r.le;have ht:=h.t
 refine Ok.whl (λsg:List Int×Int=>∃k:Nat,B+k≤8*s.Data.length∧sg.1=s.Data∧Str (bn.mk sg.1 sg.2) (B+k) (V*2 ^ k)) (λsg=>((8*s.Data.length:Nat)-sg.2).toNat) ⟨0,by omega,rfl,by simpa using h⟩ (by simp only;rw[h.b];omega) ?_
 rintro⟨D,N⟩ Z ⟨k,hk,hD,hs⟩ hZ
 simp only at hD hs ⊢
 have hN:N=((B+k:Nat):Int):=hs.b
 subst hD
 have e2:Int.tmod N 8=(((B+k)%8:Nat):Int):=by rw[hN,Int.tmod_eq_emod_of_nonneg (by omega)];omega
 rw[e2]
 refine Ok.cs (λhc=>?_) λ_=>Ok.s rfl
 have hm:(B+k)%8≠0:=by simp at hc;omega
 obtain⟨u,hu,hus⟩:=(adb (b:=0) hs (by omega) (by omega)).get
 have huD:u.Data=s.Data:=by
  have hx:SR s.Data (B+k+1) (V*2 ^ k*2):=by
   refine⟨h.r.by_,by omega,by omega,?_⟩
   have e:2 ^ (8*s.Data.length-B)=2 ^ k*2*2 ^ (8*s.Data.length-(B+k+1)):=by
    rw[←Nat.pow_succ,←Nat.pow_add];congr 1;omega
   rw[h.r.num,e];simp only[Nat.mul_assoc]
  exact hus.r.unique hx hus.t (by omega)
 refine Ok.bnd (P:=λx=>x=u) ⟨u,hu,rfl⟩ ?_
 rintro _ rfl
 refine hZ _ ⟨k+1,by omega,huD,?_⟩ (by simp only;rw[hus.b,hN];omega)
 rw[←Nat.add_assoc,Nat.pow_succ,←Nat.mul_assoc];exact hus
theorem apJ(c:Bool)(K:Int→Option β):jn K (λJ=>bif c then J 1 else J 0)=K (bif c then 1 else 0):=by cases c<;>rfl
def qg(x:bp):List (Nat×Nat):=[(x.bq.toNat,7),(x.jE.toNat,10),(x.bQ.toNat,10)]
def tK(x:bH):List (Nat×Nat):=[(x.bV.toNat,3),(x.ID.toNat,9),(ry x.Length,2)]
def x6(a:ai):List (Nat×Nat):=[(a.af.toNat,7),(a.Seq.toNat,20),((bif a.aW then 1 else 0),1),(a.Links.length,5)]
def sY(a:ai):List (Nat×Nat):=(x6 a++a.Links.flatMap qg)++(a.Claims.length,4)::a.Claims.flatMap tK
theorem adf{l:List α}{j:Nat}{x:α}(h:l[j]?=some x):l.take (j+1)=l.take j++[x]:=by
 obtain⟨h1,rfl⟩:=List.getElem?_eq_some_iff.1 h
 rw[List.take_succ_eq_append_getElem h1]
theorem aks:∀l:List bp,gq (l.flatMap qg)=27*l.length
 |[]=>rfl
 |x::l=>by rw[List.flatMap_cons,tJ,aks l,List.length_cons];simp only[qg,gq];omega
theorem akt:∀l:List bH,gq (l.flatMap tK)=14*l.length
 |[]=>rfl
 |x::l=>by rw[List.flatMap_cons,tJ,akt l,List.length_cons];simp only[tK,gq];omega
theorem aa7{a:ai}(h:bZ a=true):∃l c,eR a=some (l,0)∧lE a=some (l,0)∧c<65536∧SR l (gq (sY a++[(c,16)])) (mY 0 (sY a++[(c,16)])):=by
 have hv:=wC h
 have hb:=h
 simp only[bZ,inB,Bool.and_eq_true,decide_eq_true_eq,List.all_eq_true]at hb
 obtain⟨⟨⟨⟨⟨r1,r2⟩,⟨q1,q2⟩⟩,l1⟩,⟨gl,_⟩⟩,⟨c1,gc,_⟩⟩:=hb
 unfold eR lE
 rw[tI,qK,h]
 obtain⟨s1,a1,b1,t1⟩:=uI (v:=a.af) (n:=7) Str.nil (by omega) (by omega) (by omega) (by omega)
 obtain⟨s2,a2,b2,t2⟩:=uI (v:=a.Seq) (n:=20) t1 (by omega) (by omega) (by omega) (by omega)
 rw[show((7:Nat):Int)=7 from rfl]at a1 b1
 rw[show((20:Nat):Int)=20 from rfl]at a2 b2
 simp only[a1,b1,a2,b2,aK,Bool.not_true,cond_false,apJ]
 have hcp:(0≤(bif a.aW then(1:Int)else 0)∧(bif a.aW then(1:Int)else 0)<2)∧(bif a.aW then(1:Int)else 0).toNat=(bif a.aW then 1 else 0):=by cases a.aW<;>decide
 generalize (bif a.aW then(1:Int)else 0)=cp at hcp ⊢
 obtain⟨hcp,hcpn⟩:=hcp
 obtain⟨s3,a3,b3,t3⟩:=uI (v:=cp) (n:=1) t2 (by omega) (by omega) (by omega) (by omega)
 obtain⟨s4,a4,b4,t4⟩:=uI (v:=(a.Links.length:Int)) (n:=5) t3 (by omega) (by omega) (by omega) (by omega)
 rw[show((1:Nat):Int)=1 from rfl]at a3 b3
 rw[show((5:Nat):Int)=5 from rfl]at a4 b4
 simp only[a3,b3,a4,b4,aK]
 obtain⟨⟨D1,N1⟩,t5,e1,e2⟩:=ade (L:=a.Links)
  (B1:=λ(j1:Int) (e1:bp) (Z1:((List Int)×Int)→Option (List Int×Int)) (sg:(List Int)×Int)=>bnd (bX (bM.mk (bn.mk sg.1 sg.2)) e1.bq (7:Int)) λ(cc:bM)=>bnd (bX cc e1.jE (10:Int)) λ(de:bM)=>bnd (bX de e1.bQ (10:Int)) λ(di:bM)=>Z1 (di.s_.Data,di.s_.Bits))
  (B2:=λ(j1:Int) (e1:bp) (Z1:((List Int)×Int)→Option (List Int×Int)) (sg:(List Int)×Int)=>bnd (dG (bn.mk sg.1 sg.2) e1.bq (7:Int)) λ(cc:bn)=>bnd (dG cc e1.jE (10:Int)) λ(de:bn)=>bnd (dG de e1.bQ (10:Int)) λ(di:bn)=>Z1 (di.Data,di.Bits))
  (λj sg=>Str (bn.mk sg.1 sg.2) (33+27*j) (mY 0 (x6 a++(a.Links.take j).flatMap qg))) (by
   rintro j x ⟨D,N⟩ hx t
   have hj:j<a.Links.length:=(List.getElem?_eq_some_iff.1 hx).1
   have g:=gl x (List.mem_of_getElem? hx)
   simp only[lB,inB,Bool.and_eq_true,decide_eq_true_eq]at g
   obtain⟨u1,c1,d1,f1⟩:=uI (v:=x.bq) (n:=7) t (by omega) (by omega) (by omega) (by omega)
   obtain⟨u2,c2,d2,f2⟩:=uI (v:=x.jE) (n:=10) f1 (by omega) (by omega) (by omega) (by omega)
   obtain⟨u3,c3,d3,f3⟩:=uI (v:=x.bQ) (n:=10) f2 (by omega) (by omega) (by omega) (by omega)
   rw[show((7:Nat):Int)=7 from rfl]at c1 d1
   rw[show((10:Nat):Int)=10 from rfl]at c2 d2 c3 d3
   refine⟨(u3.Data,u3.Bits),?_,λZ=>?_,λZ=>?_⟩
   ·rw[show 33+27*(j+1)=33+27*j+7+10+10 by omega,adf hx,List.flatMap_append,←List.append_assoc,vP]
    exact f3
   ·simp only[c1,c2,c3,aK]
   ·simp only[d1,d2,d3,aK]) (s4.Data,s4.Bits) (by
   have:mY 0 (x6 a++(a.Links.take 0).flatMap qg)=(((0*2 ^ 7+a.af.toNat)*2 ^ 20+a.Seq.toNat)*2 ^ 1+cp.toNat)*2 ^ 5+a.Links.length:=by rw[hcpn];rfl
   rw[this];exact t4)
 rw[e1,e2]
 simp only[List.take_length]at t5 ⊢
 obtain⟨s6,a6,b6,t6⟩:=uI (v:=(a.Claims.length:Int)) (n:=4) t5 (by omega) (by omega) (by omega) (by omega)
 rw[show((4:Nat):Int)=4 from rfl]at a6 b6
 simp only[a6,b6,aK]
 obtain⟨⟨D2,N2⟩,t7,e3,e4⟩:=ade (L:=a.Claims)
  (B1:=λ(j2:Int) (e2:bH) (Z2:((List Int)×Int)→Option (List Int×Int)) (sg:(List Int)×Int)=>whl (λ(Z3:Int→Option (List Int×Int)) (kj:Int)=>chk (decide (0≤kj))<|bif decide (IntKind.wrap .i64 ((8:Int)*2 ^ min kj.toNat 64)<e2.Length)then Z3 (w64 (kj+(1:Int)))else bnd (bX (bM.mk (bn.mk sg.1 sg.2)) e2.bV (3:Int)) λ(bP:bM)=>bnd (bX bP e2.ID (9:Int)) λ(dW:bM)=>bnd (bX dW kj (2:Int)) λ(ck:bM)=>Z2 (ck.s_.Data,ck.s_.Bits)) (0:Int))
  (B2:=λ(j2:Int) (e2:bH) (Z2:((List Int)×Int)→Option (List Int×Int)) (sg:(List Int)×Int)=>bnd (dG (bn.mk sg.1 sg.2) e2.bV (3:Int)) λ(bP:bn)=>bnd (dG bP e2.ID (9:Int)) λ(dW:bn)=>bnd (vG e2.Length) λ(ck:Int)=>bnd (dG dW ck (2:Int)) λ(gQ:bn)=>Z2 (gQ.Data,gQ.Bits))
  (λj sg=>Str (bn.mk sg.1 sg.2) (37+27*a.Links.length+14*j) (mY 0 ((x6 a++a.Links.flatMap qg)++(a.Claims.length,4)::(a.Claims.take j).flatMap tK))) (by
   rintro j x ⟨D,N⟩ hx t
   have hj:j<a.Claims.length:=(List.getElem?_eq_some_iff.1 hx).1
   have g:=gc x (List.mem_of_getElem? hx)
   simp only[iN,inB,Bool.and_eq_true,decide_eq_true_eq]at g
   have hcd:ry x.Length<4:=by unfold ry;split;omega;split;omega;split<;>omega
   obtain⟨u1,c1,d1,f1⟩:=uI (v:=x.bV) (n:=3) t (by omega) (by omega) (by omega) (by omega)
   obtain⟨u2,c2,d2,f2⟩:=uI (v:=x.ID) (n:=9) f1 (by omega) (by omega) (by omega) (by omega)
   obtain⟨u3,c3,d3,f3⟩:=uI (v:=(ry x.Length:Int)) (n:=2) f2 (by omega) (by omega) (by omega) (by omega)
   rw[show((3:Nat):Int)=3 from rfl]at c1 d1
   rw[show((9:Nat):Int)=9 from rfl]at c2 d2
   rw[show((2:Nat):Int)=2 from rfl]at c3 d3
   refine⟨(u3.Data,u3.Bits),?_,λZ=>?_,λZ=>?_⟩
   ·rw[show 37+27*a.Links.length+14*(j+1)=37+27*a.Links.length+14*j+3+9+2 by omega,adf hx,List.flatMap_append,←List.cons_append,←List.append_assoc,vP]
    exact f3
   ·simp only
    rw[aht g.2]
    simp only[c1,c2,c3,aK]
   ·simp only[d1,d2,d3,aK,agu g.2]) (s6.Data,s6.Bits) (by
    rw[show 37+27*a.Links.length+14*0=33+27*a.Links.length+4 by omega,vP];exact t6)
 rw[e3,e4]
 simp only[List.take_length]at t7 ⊢
 obtain⟨c,hc,k1,k2⟩:=agt t7 (by omega)
 simp only[k1,k2,aK]
 rw[cr (by omega) (by omega)]
 obtain⟨s8,a8,b8,t8⟩:=uI (v:=(c:Int)) (n:=16) t7 (by omega) (by omega) (by omega) (by omega)
 rw[show((16:Nat):Int)=16 from rfl]at a8 b8
 simp only[a8,b8,aK]
 obtain⟨p,hp,hd⟩:=ahu t8 (by omega)
 rw[hp,aK,hd]
 have hw:gq (sY a++[(c,16)])=37+27*a.Links.length+14*a.Claims.length+16:=by
  rw[tJ,sY,tJ,tJ,aks]
  simp only[gq,akt,x6];omega
 refine⟨_,c,rfl,rfl,hc,?_⟩
 rw[hw,vP]
 exact t8.r
theorem aey{a:ai}(h:bZ a=true):∃l,eR a=some (l,0)∧lE a=some (l,0):=by
 obtain⟨l,c,h1,h2,_⟩:=aa7 h
 exact⟨l,h1,h2⟩
end Go.Proofs.YtjdopimopgpagaaGreat
namespace Go.Proofs.YtjdopimopgpagaaGreat
set_option linter.all false
open Go
def ku(l:List Int):List UInt8:=l.map λn=>UInt8.ofNat n.toNat
def lR(a:ai):List Int:=match eR a with|some p=>p.1|none=>[]
def iG(a b:ai):Bool:=decide (b.Seq<a.Seq)||(decide (a.Seq=b.Seq)&&decide (0<fM (ku (lR a)) (ku (lR b))))
def mI(a b:ai):Bool:=bZ a&&(bZ b&&(decide (a.af=b.af)&&iG a b))
variable {a:ai}
theorem amE(h:bZ a=true):eR a=some (lR a,0):=by
 obtain⟨l,h1,h2⟩:=aey h
 unfold lR;rw[h1]
theorem aez(h:bZ a=true):lE a=some (lR a,0):=by
 obtain⟨l,h1,h2⟩:=aey h
 unfold lR;rw[h1,h2]
theorem ai5(x y:List Int):anP .gtr (rB x) (rB y)=decide (0<fM (ku x) (ku y)):=by
 show(!(Go.Op.bytesLess (rB x).toList (rB y).toList||(rB x).toList==(rB y).toList))=_
 rw[Lib.toList_data,Lib.toList_data]
 exact ahr (ku x) (ku y)
theorem amF(x y:List Int):apj x y=fM (ku x) (ku y):=ai3 _ _
theorem ae7(a b:ai):uC a b=some (mI a b):=by
 unfold uC mI
 simp only[jn,qK,aK]
 cases ha:bZ a
 ·simp
 cases hb:bZ b
 ·simp
 by_cases hr:a.af=b.af
 ·simp only[hr,Bool.not_true,cond_false,decide_true,aez ha,aez hb,aK,ai5,iG,Bool.true_and]
 ·simp[hr]
theorem ai6(a b:ai):nI a b=some (mI a b):=by
 unfold nI mI
 have hx:∀a,∃p,eR a=some p∧(bZ a=true→p=(lR a,0))∧(bZ a=false→p.2=1):=λa=>by
  cases h:bZ a
  ·refine⟨([],1),?_,λh=>by simp at h,λ_=>rfl⟩
   unfold eR;rw[tI,h];rfl
  ·exact⟨_,amE h,λ_=>rfl,λh=>by simp at h⟩
 obtain⟨p,hp,hp1,hp2⟩:=hx a
 obtain⟨q,hq,hq1,hq2⟩:=hx b
 simp only[hp,hq,aK]
 cases ha:bZ a
 ·simp[hp2 ha]
 cases hb:bZ b
 ·simp[hq2 hb]
 rw[hp1 ha,hq1 hb]
 by_cases hr:a.af=b.af
 ·simp only[hr,decide_true,Bool.not_true,Bool.or_self,cond_false,Bool.true_and,iG]
  by_cases h1:b.Seq<a.Seq
  ·simp[h1]
  ·by_cases h2:a.Seq=b.Seq
   ·simp only[h2,decide_true,cond_true,sO,aK,amF];simp
   ·simp[h1,h2]
 ·simp[hr]
def ltR(r:Int)(l:List ai):List ai:=l.filter λx=>decide (x.af<r)
def gtR(r:Int)(l:List ai):List ai:=l.filter λx=>decide (r<x.af)
def ot(d:aH)(a:ai):aH:=aH.mk (ltR a.af d.ay++a::gtR a.af d.ay)
theorem zY(r:Int)(l m:List ai):ltR r (l++m)=ltR r l++ltR r m:=List.filter_append ..
theorem zZ(r:Int)(l m:List ai):gtR r (l++m)=gtR r l++gtR r m:=List.filter_append ..
variable {l:List ai}{r:Int}
theorem z6(h:∀x∈l,x.af<r):ltR r l=l:=List.filter_eq_self.2 λx hx=>by simpa using h x hx
theorem x7(h:∀x∈l,r≤x.af):ltR r l=[]:=List.filter_eq_nil_iff.2 λx hx=>by simpa using h x hx
theorem acH(h:∀x∈l,r<x.af):gtR r l=l:=List.filter_eq_self.2 λx hx=>by simpa using h x hx
theorem vQ(h:∀x∈l,x.af≤r):gtR r l=[]:=List.filter_eq_nil_iff.2 λx hx=>by simpa using h x hx
def x8(d:aH):Prop:=d.ay.Pairwise (λa b=>a.af<b.af)
variable {d:aH}
theorem x9(hd:x8 d)(hl:d.ay.length≤100000)(a:ai):lQ d a=some (ot d a):=by
 refine Ok.eq ?_
 unfold lQ
 refine Ok.pQ (λP (sg:Bool×List ai)=>(sg.1=false→(∀x∈P,x.af<a.af)∧sg.2=P)∧(sg.1=true→(∃x∈P,a.af≤x.af)∧sg.2=ltR a.af P++a::gtR a.af P)∧sg.2.length≤P.length+1) ?_ _ ⟨λ_=>⟨by simp,rfl⟩,λh=>by simp at h,by simp⟩ ?_
 ·rintro P e rest ⟨dn,m⟩ Z hL ⟨h1,h2,h3⟩ hZ
  simp only at h1 h2 h3 ⊢
  have hP:P.length<d.ay.length:=by rw[hL];simp
  have zf:∀x∈P,x.af<e.af:=λx hx=>by
   have:=hd;unfold x8 at this;rw[hL]at this
   exact(List.pairwise_append.1 this).2.2 x hx e (by simp)
  simp only[jn]
  cases hdn:dn
  ·obtain⟨g1,rfl⟩:=h1 hdn
   subst hdn
   by_cases hr:a.af≤e.af
   ·simp only[hr,decide_true,Bool.not_false,Bool.and_self,cond_true]
    rw[dP (by simp;omega),aK]
    by_cases he:e.af=a.af
    ·simp only[he,decide_true,Bool.not_true,cond_false]
     refine hZ _ ⟨λh=>by simp at h,λ_=>⟨⟨e,by simp,hr⟩,?_⟩,by simp<;>omega⟩
     rw[zY,zZ,z6 g1,vQ (l:=m) (λx hx=>by have:=g1 x hx;omega),x7 (l:=[e]) (by simp;omega),vQ (l:=[e]) (by simp;omega)]
     simp
    ·simp only[he,decide_false,Bool.not_false,cond_true]
     rw[dP (by simp;omega),aK]
     refine hZ _ ⟨λh=>by simp at h,λ_=>⟨⟨e,by simp,hr⟩,?_⟩,by simp<;>omega⟩
     rw[zY,zZ,z6 g1,vQ (l:=m) (λx hx=>by have:=g1 x hx;omega),x7 (l:=[e]) (by simp;omega),acH (l:=[e]) (by simp;omega)]
     simp
   ·have he:e.af≠a.af:=by omega
    simp only[hr,decide_false,Bool.and_false,cond_false,he,Bool.not_false,cond_true]
    rw[dP (by simp;omega),aK]
    refine hZ _ ⟨λ_=>⟨?_,rfl⟩,λh=>by simp at h,by simp<;>omega⟩
    intro x hx
    rcases List.mem_append.1 hx with hx|hx
    ·exact g1 x hx
    ·simp at hx;subst hx;omega
  ·subst hdn
   obtain⟨⟨x,hx,hxr⟩,hm⟩:=h2 rfl
   have her:a.af<e.af:=by have:=zf x hx;omega
   have he:e.af≠a.af:=by omega
   simp only[Bool.not_true,Bool.false_and,cond_false,he,decide_false,Bool.not_false,cond_true]
   rw[dP (by simp;omega),aK]
   refine hZ _ ⟨λh=>by simp at h,λ_=>⟨⟨x,by simp[hx],hxr⟩,?_⟩,by simp<;>omega⟩
   rw[zY,zZ,x7 (l:=[e]) (by simp;omega),acH (l:=[e]) (by simp;omega),hm]
   simp
 ·rintro⟨dn,m⟩ ⟨h1,h2,h3⟩
  simp only at h1 h2 h3 ⊢
  simp only[jn]
  unfold ot
  cases dn
  ·obtain⟨g1,rfl⟩:=h1 rfl
   simp only[Bool.not_false,cond_true]
   rw[dP (by simp;omega),aK]
   exact Ok.s (by rw[z6 g1,vQ (λx hx=>by have:=g1 x hx;omega)])
  ·obtain⟨_,hm⟩:=h2 rfl
   exact Ok.s (by rw[hm])
def rL(d:aH)(a:ai):aH×Bool:=
 bif (eZ d a.af).2&&!mI a (eZ d a.af).1 then(d,false)else(ot d a,true)
theorem adg(d:aH)(a:ai):tQ d a=some (if dbC d=0∧bZ a=true then rL d a else(d,false)):=by
 unfold tQ
 simp only[jn,qL,qK,sW,aK]
 by_cases h:dbC d=0
 ·cases hv:bZ a
  ·simp[h]
  ·have hd:=iY.1 h
   simp only[h,decide_true,Bool.not_true,cond_false,and_self,if_true,rL]
   cases hf:(eZ d a.af).2
   ·simp only[cond_false,Bool.false_and]
    rw[x9 hd.asc (by have:=hd.n;omega),aK]
   ·simp only[cond_true,ae7,aK,Bool.true_and]
    cases mI a (eZ d a.af).1
    ·rfl
    ·simp only[Bool.not_true,cond_false]
     rw[x9 hd.asc (by have:=hd.n;omega),aK]
 ·simp[h]
theorem bsAd(l:List ai)(x:Int)(c:ai→Int→Option Int)(f:ai→Int)(hl:l.length≤1000000)(hc:∀r,c r x=some (f r)):cM l x c=some ((bsR f l:Int),bsT f l):=by
 unfold cM
 refine acr l f hl λi j Z hj=>?_
 by_cases hij:i<j
 ·rw[dif_pos hij]
  simp only[acq (i:=i) (j:=j) (by omega),uk (show(i+j) / 2<l.length by omega),aK,hc,oH]
  rw[if_pos (by omega),cr (by omega) (by omega)]
  rfl
 ·rw[dif_neg hij]
  simp only[oH]
  rw[if_neg (by omega)]
  by_cases hi:i<l.length
  ·rw[if_pos (by omega),uk hi];simp only[aK,hc];simp[hi]
  ·rw[if_neg (by omega)];simp[hi]
theorem amG(x:ai)(r:Int):lN x r=some (ei x.af r):=by
 unfold lN;rw[aco,aK]
theorem aa8(x y:Int):(ei x y<0↔x<y)∧(ei x y=0↔x=y):=by
 unfold ei;split
 ·exact⟨by omega,by omega⟩
 ·split
  ·exact⟨by omega,by omega⟩
  ·exact⟨by omega,by omega⟩
theorem afy(hd:x8 d)(r:Int):∀a b:Nat,a≤b→b<d.ay.length→ei (el d.ay a).af r≤ei (el d.ay b).af r:=
 rJ (f:=λx:ai=>ei x.af r) (hd.imp λh=>by
  unfold ei;split<;>split<;>(try split)<;>(try split)<;>omega)
theorem ai7(hd:x8 d)(r:Int):d.ay.take (bsR (λx:ai=>ei x.af r) d.ay)=ltR r d.ay∧
  (bsT (λx:ai=>ei x.af r) d.ay=(eZ d r).2)∧bsR (λx:ai=>ei x.af r) d.ay≤d.ay.length∧
  ((eZ d r).2=false→d.ay.drop (bsR (λx:ai=>ei x.af r) d.ay)=gtR r d.ay)∧
  ((eZ d r).2=true→d.ay.drop (bsR (λx:ai=>ei x.af r) d.ay)=(eZ d r).1::gtR r d.ay):=by
 obtain⟨h1,h2,h3⟩:=aee (f:=λx:ai=>ei x.af r) (afy hd r)
 have hT:=acs (f:=λx:ai=>ei x.af r) (afy hd r)
 generalize bsR (λx:ai=>ei x.af r) d.ay=n at h1 h2 h3 ⊢
 have ht:∀x∈d.ay.take n,x.af<r:=λx hx=>by
  obtain⟨i,hi,rfl⟩:=List.getElem_of_mem hx
  rw[List.length_take]at hi
  have:=h2 i (by omega)
  rw[vJ (by omega)]at this
  rw[List.getElem_take]
  exact(aa8 _ _).1.1 this
 have hg:∀x∈d.ay.drop n,r≤x.af:=λx hx=>by
  obtain⟨i,hi,rfl⟩:=List.getElem_of_mem hx
  rw[List.length_drop]at hi
  have:=h3 (n+i) (by omega) (by omega)
  rw[vJ (by omega)]at this
  rw[List.getElem_drop]
  have q:=(aa8 (d.ay[n+i]).af r).1
  have q2:¬ei (d.ay[n+i]).af r<0:=by omega
  rw[q]at q2;omega
 have hs:=List.take_append_drop n d.ay
 have e1:ltR r d.ay=d.ay.take n:=by
  conv=>lhs;rw[←hs]
  rw[zY,z6 ht,x7 hg,List.append_nil]
 have e2:gtR r d.ay=gtR r (d.ay.drop n):=by
  conv=>lhs;rw[←hs]
  rw[zZ,vQ (l:=d.ay.take n) (λx hx=>by have:=ht x hx;omega),List.nil_append]
 have e3:bsT (λx:ai=>ei x.af r) d.ay=(eZ d r).2:=by
  rw[Bool.eq_iff_iff,hT]
  simp only[(aa8 _ _).2]
  rcases iC d r with⟨a,ha,he,hf⟩|⟨hn,hf⟩
  ·rw[hf];exact⟨λ_=>rfl,λ_=>⟨a,ha,he⟩⟩
  ·rw[hf];exact⟨λ⟨a,ha,he⟩=>absurd he (hn a ha),λh=>by simp at h⟩
 refine⟨e1.symm,e3,h1,λhf=>?_,λhf=>?_⟩
 ·rw[e2,acH]
  intro x hx
  rcases iC d r with⟨a,ha,he,hf2⟩|⟨hn,hf2⟩
  ·rw[hf2]at hf;simp at hf
  ·have:=hg x hx;have:=hn x (List.mem_of_mem_drop hx);omega
 ·rcases iC d r with⟨a,ha,he,hf2⟩|⟨hn,hf2⟩
  ·rw[hf2,e2]
   have hmem:a∈d.ay.drop n:=by
    have:a∈d.ay.take n++d.ay.drop n:=by rw[hs];exact ha
    rcases List.mem_append.1 this with q|q
    ·have:=ht a q;omega
    ·exact q
   have hp:(d.ay.drop n).Pairwise (λa b=>a.af<b.af):=List.Pairwise.sublist (List.drop_sublist n _) hd
   cases hD:d.ay.drop n with
   |nil=>rw[hD]at hmem;simp at hmem
   |cons y t=>
    rw[hD]at hp hmem hg
    rw[List.pairwise_cons]at hp
    rcases List.mem_cons.1 hmem with q|q
    ·subst q
     show _=a::(a::t).filter _
     rw[List.filter_cons_of_neg (by simp[he])]
     congr 1
     exact(List.filter_eq_self.2 λx hx=>by have:=hp.1 x hx;simp;omega).symm
    ·have:=hp.1 a q;have:=hg y (by simp);omega
  ·rw[hf2]at hf;simp at hf
theorem ahv(hd:x8 d)(hl:d.ay.length≤100000)(ha:SmA a):lF d a=some ((rL d a).2,(rL d a).1):=by
 unfold lF
 rw[bsAd d.ay a.af _ (λx=>ei x.af a.af) (by omega) (λx=>amG x _),aK]
 obtain⟨p1,p2,p3,p4,p5⟩:=ai7 hd a.af
 simp only[jn,p2]
 generalize bsR (λx:ai=>ei x.af a.af) d.ay=n at *
 unfold rL ot
 cases hf:(eZ d a.af).2
 ·simp only[Bool.not_false,cond_true,Bool.false_and,cond_false,wB ha,aK]
  have:ab1 d.ay (n:Int) a=some (ltR a.af d.ay++a::gtR a.af d.ay):=by
   unfold ab1
   rw[if_pos ⟨⟨by omega,by omega⟩,by unfold cap;omega⟩,Int.toNat_natCast,p1,p4 hf]
  rw[this,aK]
 ·have hD:=p5 hf
  have hn:n<d.ay.length:=by
   have:=congrArg List.length hD
   rw[List.length_drop,List.length_cons]at this;omega
  have he:d.ay[n]=(eZ d a.af).1:=by
   rw[List.drop_eq_getElem_cons hn]at hD
   exact(List.cons.inj hD).1
  have hel:elO d.ay (n:Int)=some (eZ d a.af).1:=by
   rw[←he];unfold elO;rw[if_pos (by omega)];simp[hn]
  simp only[Bool.not_true,cond_false,hel,aK,ai6,Bool.true_and]
  cases hnw:mI a (eZ d a.af).1
  ·rfl
  ·simp only[cond_true,wB ha,aK,Bool.not_true,cond_false]
   have:iT d.ay (n:Int) a=some (ltR a.af d.ay++a::gtR a.af d.ay):=by
    unfold iT
    rw[if_pos ⟨by omega,by omega⟩,Int.toNat_natCast,List.set_eq_take_append_cons_drop,if_pos hn,p1]
    rw[List.drop_eq_getElem_cons hn]at hD
    rw[(List.cons.inj hD).2]
   rw[this,aK]
theorem aeA(hd:SmD d):jL d=some d:=by
 refine Ok.eq ?_
 unfold jL
 refine Ok.pQ (λP (m:List ai)=>m=P) ?_ _ rfl (λm hm=>Ok.s (by rw[hm]))
 rintro P x r m Z hL rfl hZ
 have hx:x∈d.ay:=by rw[hL];simp
 have hl:m.length<d.ay.length:=by rw[hL];simp
 have:=hd.1
 rw[wB (hd.2 x hx),aK,dP (by simp;omega),aK]
 exact hZ _ rfl
theorem apK(hd:SmD d)(ha:SmA a):nJ d a=some (if dbC d=0∧bZ a=true then rL d a else(d,false)):=by
 unfold nJ
 simp only[jn,aeA hd,x2,tI,aK]
 by_cases h:dbC d=0
 ·cases hv:bZ a
  ·simp[h]
  ·simp only[h,decide_true,Bool.not_true,cond_false,and_self,if_true]
   rw[ahv (iY.1 h).asc hd.1 ha,aK]
 ·simp[h]
end Go.Proofs.YtjdopimopgpagaaGreat
namespace Go.Proofs.YtjdopimopgpagaaGreat
set_option linter.all false
open Go
theorem afz:∀(l:List ai) (lo:Int),l.Pairwise (λa b=>a.af<b.af)→(∀x∈l,lo≤x.af∧x.af≤99)→(l.length:Int)≤max 0 (100-lo)
 |[],lo,_,_=>by simp;omega
 |x::r,lo,h,hb=>by
  rw[List.pairwise_cons]at h
  have h1:=hb x (by simp)
  have:=afz r (x.af+1) h.2 λy hy=>⟨by have:=h.1 y hy;omega,(hb y (by simp[hy])).2⟩
  simp only[List.length_cons]
  omega
variable {d:aH}
theorem as9(h1:∀a∈d.ay,bZ a=true)(h2:x8 d):Vd d:=by
 refine⟨?_,h1,h2⟩
 have:=afz d.ay 1 h2 λx hx=>(wC (h1 x hx)).r
 omega
variable {a:ai}
theorem pT{x:ai}:x∈(ot d a).ay↔x=a∨(x∈d.ay∧x.af≠a.af):=by
 simp only[ot,List.mem_append,List.mem_cons,ltR,gtR,List.mem_filter,decide_eq_true_eq]
 constructor
 ·rintro(⟨h1,h2⟩|rfl|⟨h1,h2⟩)
  ·exact .inr ⟨h1,by omega⟩
  ·exact .inl rfl
  ·exact .inr ⟨h1,by omega⟩
 ·rintro(rfl|⟨h1,h2⟩)
  ·exact .inr (.inl rfl)
  ·rcases Int.lt_or_gt_of_ne h2 with h|h
   ·exact .inl ⟨h1,h⟩
   ·exact .inr (.inr ⟨h1,h⟩)
theorem ai8(h:x8 d)(a:ai):x8 (ot d a):=by
 unfold x8 ot
 simp only
 refine List.pairwise_append.2 ⟨List.Pairwise.sublist List.filter_sublist h,List.pairwise_cons.2 ⟨λy hy=>by simpa [gtR]using (List.mem_filter.1 hy).2,List.Pairwise.sublist List.filter_sublist h⟩,λx hx y hy=>?_⟩
 have h1:x.af<a.af:=by simpa using (List.mem_filter.1 hx).2
 rcases List.mem_cons.1 hy with rfl|hy
 ·exact h1
 ·have:a.af<y.af:=by simpa using (List.mem_filter.1 hy).2
  omega
theorem Vd.with{d:aH}(h:Vd d){a:ai}(ha:bZ a=true):Vd (ot d a):=
 as9 (λx hx=>by rcases pT.1 hx with rfl|⟨h1,_⟩;exact ha;exact h.ok x h1) (ai8 h.asc a)
theorem Vd.put(h:Vd d)(ha:bZ a=true):Vd (rL d a).1:=by
 unfold rL
 cases(eZ d a.af).2&&!mI a (eZ d a.af).1
 ·exact h.with ha
 ·exact h
def look(d:aH)(r:Int):Option ai:=bif (eZ d r).2 then some (eZ d r).1 else none
variable {r:Int}
theorem fE(h:Vd d):look d r=some a↔a∈d.ay∧a.af=r:=by
 unfold look
 constructor
 ·intro q
  rcases iC d r with⟨b,hb,he,hf⟩|⟨hn,hf⟩
  ·rw[hf]at q;simp at q;subst q;exact⟨hb,he⟩
  ·rw[hf]at q;simp at q
 ·rintro⟨h1,h2⟩
  rw[h.key h1 h2];rfl
theorem zg:look d r=none↔∀a∈d.ay,a.af≠r:=by
 unfold look
 rcases iC d r with⟨b,hb,he,hf⟩|⟨hn,hf⟩
 ·rw[hf];simp;exact⟨b,hb,he⟩
 ·rw[hf];simp;exact hn
theorem ai9{e:aH}(h1:Vd d)(h2:Vd e)(h:∀r,look d r=look e r):d=e:=by
 have:d.ay=e.ay:=sX (r:=λa b:ai=>a.af<b.af) (λa=>Int.lt_irrefl _) (λa b c=>Int.lt_trans) h1.asc h2.asc λx=>by
  have a1:=fE h1 (r:=x.af) (a:=x)
  have a2:=fE h2 (r:=x.af) (a:=x)
  rw[h]at a1
  simp only[and_true]at a1 a2
  exact a1.symm.trans a2
 cases d;cases e;simp only at this;rw[this]
def mx(o:Option ai)(a:ai):ai:=match o with|none=>a|some x=>bif mI a x then a else x
theorem aeB(h:Vd d)(ha:bZ a=true)(r:Int):look (rL d a).1 r=if r=a.af then some (mx (look d r) a)else look d r:=by
 have hw:∀r,look (ot d a) r=if r=a.af then some a else look d r:=λr=>by
  by_cases hr:r=a.af
  ·rw[if_pos hr]
   exact(fE (h.with ha)).2 ⟨pT.2 (.inl rfl),hr.symm⟩
  ·rw[if_neg hr]
   cases hl:look d r with
   |none=>
    rw[zg]at hl ⊢
    intro x hx
    rcases pT.1 hx with rfl|⟨h1,_⟩
    ·exact λe=>hr e.symm
    ·exact hl x h1
   |some x=>
    obtain⟨h1,h2⟩:=(fE h).1 hl
    exact(fE (h.with ha)).2 ⟨pT.2 (.inr ⟨h1,by omega⟩),h2⟩
 unfold rL
 rcases iC d a.af with⟨b,hb,he,hf⟩|⟨hn,hf⟩
 ·rw[hf]
  have hlk:look d a.af=some b:=(fE h).2 ⟨hb,he⟩
  cases hnw:mI a b
  ·simp only[Bool.not_false,Bool.and_self,cond_true]
   by_cases hr:r=a.af
   ·subst hr;rw[if_pos rfl,hlk];simp[mx,hnw]
   ·rw[if_neg hr]
  ·simp only[Bool.not_true,Bool.and_false,cond_false]
   rw[hw]
   by_cases hr:r=a.af
   ·subst hr;rw[if_pos rfl,if_pos rfl,hlk];simp[mx,hnw]
   ·rw[if_neg hr,if_neg hr]
 ·rw[hf]
  simp only[Bool.false_and,cond_false]
  rw[hw]
  by_cases hr:r=a.af
  ·subst hr;rw[if_pos rfl,if_pos rfl,zg.2 hn];rfl
  ·rw[if_neg hr,if_neg hr]
theorem ae8{x y z:List UInt8}(h1:¬0<fM x y)(h2:¬0<fM y z):¬0<fM x z:=by
 intro h
 rcases Int.lt_trichotomy (fM x y) 0 with g|g|g
 ·have:0<fM y x:=by rw[wD];omega
  exact h2 (abH this h)
 ·rw[acG g]at h;exact h2 h
 ·exact h1 g
theorem oM(a:ai):iG a a=false:=by simp[iG,ac9]
variable {b:ai}
theorem sZ(h:iG a b=true):iG b a=false:=by
 simp only[iG,Bool.or_eq_true,Bool.and_eq_true,decide_eq_true_eq]at h
 simp only[iG,Bool.or_eq_false_iff,Bool.and_eq_false_iff,decide_eq_false_iff_not]
 rcases h with h|⟨h1,h2⟩
 ·exact⟨by omega,.inl (by omega)⟩
 ·exact⟨by omega,.inr (by rw[wD];omega)⟩
theorem aar{c:ai}(h1:iG a b=false)(h2:iG b c=false):iG a c=false:=by
 simp only[iG,Bool.or_eq_false_iff,Bool.and_eq_false_iff,decide_eq_false_iff_not]at *
 refine⟨by omega,?_⟩
 by_cases e:a.Seq=c.Seq
 ·right
  have e1:a.Seq=b.Seq:=by omega
  have e2:b.Seq=c.Seq:=by omega
  rcases h1.2 with g|g
  ·exact absurd e1 g
  rcases h2.2 with g'|g'
  ·exact absurd e2 g'
  exact ae8 g g'
 ·exact .inl e
def gX(a b:aH):aH:=b.ay.foldl (λm e=>(rL m e).1) a
theorem adh{α β:Type}{f:β→α→β}{P:β→Prop}:∀(l:List α) (b:β),P b→(∀b x,x∈l→P b→P (f b x))→P (l.foldl f b)
 |[],b,h,_=>h
 |x::l,b,h,hs=>by
  simp only[List.foldl_cons]
  exact adh l _ (hs b x (by simp) h) λb y hy=>hs b y (by simp[hy])
theorem Vd.merge{a b:aH}(ha:Vd a)(hb:Vd b):Vd (gX a b):=
 adh (P:=Vd) b.ay a ha λd x hx h=>h.put (hb.ok x hx)
theorem agv{a b:aH}(ha:Vd a)(hb:Vd b)(r:Int):look (gX a b) r=match look b r with|none=>look a r|some y=>some (mx (look a r) y):=by
 have key:∀(l:List ai) (d:aH),Vd d→(∀x∈l,bZ x=true)→l.Pairwise (λa b=>a.af<b.af)→
   look (l.foldl (λm e=>(rL m e).1) d) r=match l.find? (λx=>decide (x.af=r))with|none=>look d r|some y=>some (mx (look d r) y):=by
  intro l
  induction l with
  |nil=>intro d _ _ _;rfl
  |cons x l ih=>
   intro d hd hv hp
   rw[List.pairwise_cons]at hp
   simp only[List.foldl_cons]
   rw[ih _ (hd.put (hv x (by simp))) (λy hy=>hv y (by simp[hy])) hp.2,aeB hd (hv x (by simp)),List.find?_cons]
   by_cases hr:r=x.af
   ·rw[if_pos hr]
    have:l.find? (λx=>decide (x.af=r))=none:=List.find?_eq_none.2 λy hy=>by have:=hp.1 y hy;simp;omega
    rw[this];simp[hr]
   ·rw[if_neg hr]
    have:decide (x.af=r)=false:=by simp;omega
    rw[this]
 unfold gX
 rw[key b.ay a ha hb.ok hb.asc]
 unfold look eZ
 cases b.ay.find? (λx=>decide (x.af=r))<;>rfl
theorem aas(a b:aH):uD a b=some (if dbC a=0∧dbC b=0 then(gX a b,0)else(aH.mk [],1)):=by
 unfold uD
 simp only[jn,qL,aK]
 by_cases h1:dbC a=0
 ·by_cases h2:dbC b=0
  ·simp only[h1,h2,decide_true,Bool.not_true,cond_false,and_self,if_true]
   refine Ok.eq ?_
   refine Ok.pQ (λP (m:List ai)=>aH.mk m=P.foldl (λm e=>(rL m e).1) a∧Vd (aH.mk m)) ?_ _ ⟨rfl,iY.1 h1⟩ (λm hm=>Ok.s (by rw[hm.1];rfl))
   rintro P x r m Z hL ⟨hm,hv⟩ hZ
   have hx:=(iY.1 h2).ok x (by rw[hL];simp)
   rw[adg,if_pos ⟨iY.2 hv,hx⟩,aK]
   exact hZ _ ⟨by rw[List.foldl_append,←hm];rfl,hv.put hx⟩
  ·simp[h1,h2]
 ·simp[h1]
theorem Va.sm(h:bZ a=true):SmA a:=by have:=wC h;exact⟨by have:=this.n;omega,by have:=this.nc;omega⟩
theorem aja{a:aH}(hs:SmD a)(b:aH):lP a b=some (if dbC a=0∧dbC b=0 then(gX a b,0)else(aH.mk [],1)):=by
 unfold lP
 simp only[jn,x2,aeA hs,aK]
 by_cases h1:dbC a=0
 ·by_cases h2:dbC b=0
  ·simp only[h1,h2,decide_true,Bool.not_true,cond_false,and_self,if_true]
   refine Ok.eq ?_
   refine Ok.pQ (λP (m:List ai)=>aH.mk m=P.foldl (λm e=>(rL m e).1) a∧Vd (aH.mk m)) ?_ _ ⟨rfl,iY.1 h1⟩ (λm hm=>Ok.s (by rw[hm.1];rfl))
   rintro P x r m Z hL ⟨hm,hv⟩ hZ
   have hx:=(iY.1 h2).ok x (by rw[hL];simp)
   rw[ahv hv.asc (by have:=hv.n;omega) (Va.sm hx),aK]
   exact hZ _ ⟨by rw[List.foldl_append,←hm];rfl,hv.put hx⟩
  ·simp[h1,h2]
 ·simp[h1]
end Go.Proofs.YtjdopimopgpagaaGreat
namespace Go.Proofs.YtjdopimopgpagaaGreat
set_option linter.all false
open Go
structure Holds(N T:Nat)(F:List (Nat×Nat)):Prop where
 w:gq F≤T
 b:∀p∈F,p.1<2 ^ p.2
 v:N=mY 0 F*2 ^ (T-gq F)
theorem ya:∀(a:Nat) (F:List (Nat×Nat)),mY a F=a*2 ^ gq F+mY 0 F
 |a,[]=>by simp[mY,gq]
 |a,(v,w)::r=>by
  simp only[mY,gq]
  rw[ya (a*2 ^ w+v) r,ya (0*2 ^ w+v) r,Nat.add_mul,Nat.mul_assoc,←Nat.pow_add,Nat.zero_mul,Nat.zero_add]
  omega
theorem afA:∀(F:List (Nat×Nat)),(∀p∈F,p.1<2 ^ p.2)→mY 0 F<2 ^ gq F
 |[],_=>by simp[mY,gq]
 |(v,w)::r,h=>by
  simp only[mY,gq]
  rw[ya]
  have h1:=afA r λp hp=>h p (by simp[hp])
  have h2:v<2 ^ w:=h (v,w) (by simp)
  have h3:(v+1)*2 ^ gq r≤2 ^ w*2 ^ gq r:=Nat.mul_le_mul_right _ h2
  rw[Nat.add_mul,Nat.one_mul,←Nat.pow_add]at h3
  simp only[Nat.zero_mul,Nat.zero_add]
  omega
theorem Holds.apL{N T v w:Nat}{r:List (Nat×Nat)}(h:Holds N T ((v,w)::r)):v=N / 2 ^ (T-w)∧Holds (N%2 ^ (T-w)) (T-w) r:=by
 have hw:w+gq r≤T:=h.w
 have hr:∀p∈r,p.1<2 ^ p.2:=λp hp=>h.b p (by simp[hp])
 have hv:=h.v
 have e:mY 0 ((v,w)::r)=v*2 ^ gq r+mY 0 r:=by
  show mY (0*2 ^ w+v) r=_
  rw[ya,Nat.zero_mul,Nat.zero_add]
 have hx:=afA r hr
 have e2:T-gq ((v,w)::r)=T-w-gq r:=by show T-(w+gq r)=_;omega
 rw[e,e2,Nat.add_mul,Nat.mul_assoc,←Nat.pow_add,show gq r+(T-w-gq r)=T-w by omega]at hv
 have hlt:mY 0 r*2 ^ (T-w-gq r)<2 ^ (T-w):=by
  have:2 ^ (T-w)=2 ^ gq r*2 ^ (T-w-gq r):=by rw[←Nat.pow_add,show gq r+(T-w-gq r)=T-w by omega]
  rw[this];exact Nat.mul_lt_mul_of_pos_right hx (Nat.two_pow_pos _)
 refine⟨?_,⟨by omega,hr,?_⟩⟩
 ·rw[hv,Nat.mul_comm,Nat.mul_add_div (Nat.two_pow_pos _),Nat.div_eq_of_lt hlt,Nat.add_zero]
 ·rw[hv,Nat.mul_comm,Nat.mul_add_mod,Nat.mod_eq_of_lt hlt]
theorem Holds.same{N T v v' w:Nat}{r r':List (Nat×Nat)}(h:Holds N T ((v,w)::r))(h':Holds N T ((v',w)::r')):v=v'∧∃N' T',Holds N' T' r∧Holds N' T' r':=by
 obtain⟨a,b⟩:=h.apL
 obtain⟨c,d⟩:=h'.apL
 exact⟨a.trans c.symm,_,_,b,d⟩
theorem ahw:∀(l m:List bp) (r r':List (Nat×Nat)) (N T:Nat),l.length=m.length→(∀x∈l,0≤x.bq∧0≤x.jE∧0≤x.bQ)→(∀x∈m,0≤x.bq∧0≤x.jE∧0≤x.bQ)→
  Holds N T (l.flatMap qg++r)→Holds N T (m.flatMap qg++r')→l=m∧∃N' T',Holds N' T' r∧Holds N' T' r'
 |[],[],r,r',N,T,_,_,_,h,h'=>⟨rfl,N,T,h,h'⟩
 |[],_::_,_,_,_,_,h,_,_,_,_=>by simp at h
 |_::_,[],_,_,_,_,h,_,_,_,_=>by simp at h
 |x::l,y::m,r,r',N,T,hl,hx,hy,h,h'=>by
  obtain⟨e1,_,_,h,h'⟩:=Holds.same h h'
  obtain⟨e2,_,_,h,h'⟩:=Holds.same h h'
  obtain⟨e3,_,_,h,h'⟩:=Holds.same h h'
  obtain⟨e,q⟩:=ahw l m r r' _ _ (by simpa using hl) (λz hz=>hx z (by simp[hz])) (λz hz=>hy z (by simp[hz])) h h'
  refine⟨?_,q⟩
  have a1:=hx x (by simp);have a2:=hy y (by simp)
  rw[e];congr 1
  obtain⟨xn,xc,xp⟩:=x
  obtain⟨yn,yc,yp⟩:=y
  simp only at *
  rw[bp.mk.injEq];omega
theorem ahx{a b:Int}(ha:mX a=true)(hb:mX b=true)(h:ry a=ry b):a=b:=by
 simp only[mX,Bool.or_eq_true,decide_eq_true_eq]at ha hb
 rcases ha with rfl|rfl|rfl|rfl<;>rcases hb with rfl|rfl|rfl|rfl<;>simp[ry]at h ⊢
theorem ahy:∀(l m:List bH) (r r':List (Nat×Nat)) (N T:Nat),l.length=m.length→(∀x∈l,0≤x.bV∧0≤x.ID∧mX x.Length=true)→(∀x∈m,0≤x.bV∧0≤x.ID∧mX x.Length=true)→
  Holds N T (l.flatMap tK++r)→Holds N T (m.flatMap tK++r')→l=m
 |[],[],_,_,_,_,_,_,_,_,_=>rfl
 |[],_::_,_,_,_,_,h,_,_,_,_=>by simp at h
 |_::_,[],_,_,_,_,h,_,_,_,_=>by simp at h
 |x::l,y::m,r,r',N,T,hl,hx,hy,h,h'=>by
  obtain⟨e1,_,_,h,h'⟩:=Holds.same h h'
  obtain⟨e2,_,_,h,h'⟩:=Holds.same h h'
  obtain⟨e3,_,_,h,h'⟩:=Holds.same h h'
  have e:=ahy l m r r' _ _ (by simpa using hl) (λz hz=>hx z (by simp[hz])) (λz hz=>hy z (by simp[hz])) h h'
  have a1:=hx x (by simp);have a2:=hy y (by simp)
  have e4:=ahx a1.2.2 a2.2.2 e3
  rw[e];congr 1
  obtain⟨xn,xc,xp⟩:=x
  obtain⟨yn,yc,yp⟩:=y
  simp only at *
  rw[bH.mk.injEq];omega
theorem ajb(l:Int):ry l<4:=by unfold ry;split;omega;split;omega;split<;>omega
theorem amH{a b:ai}(ha:bZ a=true)(hb:bZ b=true)(h:lR a=lR b):a=b:=by
 have facts:∀{a:ai},bZ a=true→∃c,c<65536∧SR (lR a) (gq (sY a++[(c,16)])) (mY 0 (sY a++[(c,16)]))∧(0≤a.af∧0≤a.Seq)∧
   (∀x∈a.Links,0≤x.bq∧0≤x.jE∧0≤x.bQ)∧(∀x∈a.Claims,0≤x.bV∧0≤x.ID∧mX x.Length=true)∧∀p∈sY a++[(c,16)],p.1<2 ^ p.2:=by
  intro a ha
  obtain⟨l,c,h1,_,hc,h3⟩:=aa7 ha
  have hl:lR a=l:=by unfold lR;rw[h1]
  have hb:=ha
  simp only[bZ,inB,Bool.and_eq_true,decide_eq_true_eq,List.all_eq_true,lB,iN]at hb
  obtain⟨⟨⟨⟨⟨r1,r2⟩,⟨q1,q2⟩⟩,l1⟩,⟨gl,_⟩⟩,⟨c1,gc,_⟩⟩:=hb
  refine⟨c,hc,hl▸h3,by omega,λx hx=>?_,λx hx=>?_,?_⟩
  ·have:=gl x hx;omega
  ·have:=gc x hx;exact⟨by omega,by omega,this.2⟩
  ·intro p hp
   simp only[sY,x6,List.mem_append,List.mem_cons,List.not_mem_nil,or_false,List.mem_flatMap]at hp
   rcases hp with(((rfl|rfl|rfl|rfl)|⟨x,hx,hp⟩)|rfl|⟨x,hx,hp⟩)|rfl
   ·show a.af.toNat<128;omega
   ·show a.Seq.toNat<1048576;omega
   ·show(bif a.aW then 1 else 0)<2;cases a.aW<;>decide
   ·show a.Links.length<32;omega
   ·have:=gl x hx
    simp only[qg,List.mem_cons,List.not_mem_nil,or_false]at hp
    rcases hp with rfl|rfl|rfl
    ·show x.bq.toNat<128;omega
    ·show x.jE.toNat<1024;omega
    ·show x.bQ.toNat<1024;omega
   ·show a.Claims.length<16;omega
   ·have:=gc x hx
    simp only[tK,List.mem_cons,List.not_mem_nil,or_false]at hp
    rcases hp with rfl|rfl|rfl
    ·show x.bV.toNat<8;omega
    ·show x.ID.toNat<512;omega
    ·show ry x.Length<4;exact ajb _
   ·exact hc
 obtain⟨c,hc,s1,n1,l1,k1,b1⟩:=facts ha
 obtain⟨d,hd,s2,n2,l2,k2,b2⟩:=facts hb
 rw[←h]at s2
 have H1:Holds (uH (lR a)) (8*(lR a).length) (sY a++[(c,16)]):=⟨s1.le,b1,s1.num⟩
 have H2:Holds (uH (lR a)) (8*(lR a).length) (sY b++[(d,16)]):=⟨s2.le,b2,s2.num⟩
 unfold sY x6 at H1 H2
 simp only[List.append_assoc,List.cons_append,List.nil_append]at H1 H2
 obtain⟨e1,_,_,H1,H2⟩:=H1.same H2
 obtain⟨e2,_,_,H1,H2⟩:=H1.same H2
 obtain⟨e3,_,_,H1,H2⟩:=H1.same H2
 obtain⟨e4,_,_,H1,H2⟩:=H1.same H2
 obtain⟨e5,_,_,H1,H2⟩:=ahw _ _ _ _ _ _ e4 l1 l2 H1 H2
 obtain⟨e6,_,_,H1,H2⟩:=H1.same H2
 have e7:=ahy _ _ _ _ _ _ e6 k1 k2 H1 H2
 obtain⟨ar,as_,ac,al,ak⟩:=a
 obtain⟨br,bs_,bc,bl,bk⟩:=b
 simp only at *
 rw[ai.mk.injEq]
 refine⟨by omega,by omega,?_,e5,e7⟩
 cases ac<;>cases bc<;>simp at e3<;>rfl
theorem abJ:∀{l m:List Int},(∀b∈l,0≤b∧b<256)→(∀b∈m,0≤b∧b<256)→ku l=ku m→l=m
 |[],[],_,_,_=>rfl
 |[],_::_,_,_,h=>by simp[ku]at h
 |_::_,[],_,_,h=>by simp[ku]at h
 |x::l,y::m,hl,hm,h=>by
  simp only[ku,List.map_cons,List.cons.injEq]at h
  have h1:=hl x (by simp);have h2:=hm y (by simp)
  have e:x.toNat=y.toNat:=by
   have:=congrArg UInt8.toNat h.1
   simp only[UInt8.toNat_ofNat']at this
   omega
  rw[abJ (λb hb=>hl b (by simp[hb])) (λb hb=>hm b (by simp[hb])) h.2,show x=y by omega]
theorem abK{a:ai}(h:bZ a=true):∀b∈lR a,0≤b∧b<256:=by
 obtain⟨l,c,h1,_,hc,h3⟩:=aa7 h
 have hl:lR a=l:=by unfold lR;rw[h1]
 rw[hl];exact h3.by_
theorem ajc{a b:ai}(ha:bZ a=true)(hb:bZ b=true)(h1:iG a b=false)(h2:iG b a=false):a=b:=by
 simp only[iG,Bool.or_eq_false_iff,Bool.and_eq_false_iff,decide_eq_false_iff_not]at h1 h2
 have hs:a.Seq=b.Seq:=by omega
 have g1:¬0<fM (ku (lR a)) (ku (lR b)):=by rcases h1.2 with q|q;exact absurd hs q;exact q
 have g2:¬0<fM (ku (lR b)) (ku (lR a)):=by rcases h2.2 with q|q;exact absurd hs.symm q;exact q
 rw[wD]at g2
 exact amH ha hb (abJ (abK ha) (abK hb) (acG (by omega)))
def mxA(x y:ai):ai:=bif iG y x then y else x
theorem ata{d e:aH}(hd:Vd d)(he:Vd e){r:Int}{x y:ai}(h1:look d r=some x)(h2:look e r=some y):mx (some x) y=mxA x y:=by
 obtain⟨a1,a2⟩:=(fE hd).1 h1
 obtain⟨b1,b2⟩:=(fE he).1 h2
 simp only[mx,mxA,mI,hd.ok x a1,he.ok y b1,Bool.true_and]
 rw[a2,b2];simp
def mxO(o p:Option ai):Option ai:=match o,p with|some x,some y=>some (mxA x y)|some x,none=>some x|none,p=>p
theorem amI{a b:aH}(ha:Vd a)(hb:Vd b)(r:Int):look (gX a b) r=mxO (look a r) (look b r):=by
 rw[agv ha hb]
 cases h1:look a r with
 |none=>cases h2:look b r<;>rfl
 |some x=>
  cases h2:look b r with
  |none=>rfl
  |some y=>simp only[ata ha hb h1 h2,mxO]
end Go.Proofs.YtjdopimopgpagaaGreat
namespace Go.Proofs.YtjdopimopgpagaaGreat
set_option linter.all false
open Go
def kO(t:az)(r n:Int):bp:=match t.Links.find? (λl=>fH l r n)with|some l=>bp.mk n (mj r n l).1 l.bQ|none=>bp.mk n 0 0
def zh(t:az)(r:Int):Bool:=match t.aG.find? (λx=>decide (x.ID=r))with|some x=>x.aW|none=>false
def ofA(t:az)(r seq:Int)(cl:List bH):ai:=ai.mk r seq (zh t r) ((iB t r).map (kO t r)) cl
variable {t:az}
theorem afB(hv:Vt t){x:aU}(hx:x∈t.aG):zh t x.ID=x.aW:=by
 unfold zh
 cases hf:t.aG.find? (λy=>decide (y.ID=x.ID))with
 |none=>have:=List.find?_eq_none.1 hf x hx;simp at this
 |some y=>
  have h1:=List.mem_of_find?_eq_some hf
  have h2:=List.find?_some hf
  simp only[ahl hv h1 hx (by simpa using h2)]
theorem rW(t:az)(r n:Int):(kO t r n).bq=n:=by unfold kO;split<;>rfl
variable {l:aS}
theorem yb(hv:Vt t){a b:Int}(hl:l∈t.Links)(he:fH l a b=true):kO t a b=bp.mk b (mj a b l).1 l.bQ:=by
 unfold kO
 cases hf:t.Links.find? (λl=>fH l a b)with
 |none=>exact absurd he (List.find?_eq_none.1 hf l hl)
 |some x=>
  have hx:=List.mem_of_find?_eq_some hf
  have hp:=List.find?_some hf
  have h1:=hv.lt _ hl
  have h2:=hv.lt _ hx
  simp[fH]at he hp
  rw[aej hv hx hl (by omega) (by omega)]
theorem acI(hv:Vt t)(hl:l∈t.Links):kO t l.A l.B=bp.mk l.B l.jR l.bQ:=by
 rw[yb hv hl (by simp[fH])];simp[mj]
theorem acJ(hv:Vt t)(hl:l∈t.Links):kO t l.B l.A=bp.mk l.A l.jl l.bQ:=by
 have:=hv.lt _ hl
 rw[yb hv hl (by simp[fH])]
 have e:(decide (l.A=l.B)&&decide (l.B=l.A))=false:=by simp;omega
 simp only[mj,e,cond_false]
theorem aeC(hv:Vt t)(r:Int):iV t r=some (zh t r):=by
 unfold iV
 simp only[pM,aK,jx.2 hv,decide_true,Bool.not_true,cond_false]
 refine(rV (λx:aU=>decide (x.ID=r)) (λx=>some x.aW) (λ_ _ _ _=>rfl) _ _ _).trans ?_
 unfold zh
 cases t.aG.find? (λx=>decide (x.ID=r))<;>rfl
variable {r:Int}
theorem aa9(hv:Vt t)(hr:r∈ids t):(iB t r).length≤23:=by
 have h1:r∉iB t r:=λh=>aem hv ((fe hv).1 h) rfl
 have h2:(iB t r).Nodup:=(vK hv r).imp λh=>by omega
 have:=pR (a:=r::iB t r) (b:=ids t) (List.nodup_cons.2 ⟨h1,h2⟩) λx hx=>by
  rcases List.mem_cons.1 hx with rfl|hx
  ·exact hr
  ·exact(List.mem_filter.1 hx).1
 have h3:=zV hv
 simp only[List.length_cons]at this
 omega
theorem ajd(hv:Vt t)(hr:r∈ids t)(seq:Int)(cl:List bH):sR t r seq cl=some (bif bZ (ofA t r seq cl)then(ofA t r seq cl,0)else(noA,2)):=by
 refine Ok.eq ?_
 unfold sR
 simp only[pM,afv,aeC hv,aen hv,aK,jx.2 hv,nM.1 hr,decide_true,Bool.not_true,cond_false,Bool.true_and]
 refine Ok.pQ (λP (m:List bp)=>m=P.map (kO t r)) ?_ _ rfl ?_
 ·rintro P n rest m Z hL rfl hZ
  have oq:eT t r n=true:=(fe hv).1 (by rw[hL];simp)
  have hlen:P.length<(iB t r).length:=by rw[hL];simp
  have hl23:=aa9 hv hr
  obtain⟨l,hl,hc⟩:=lH.1 oq
  have hlt:=hv.lt l hl
  have he:fH l r n=true:=by simp[fH];omega
  rw[wz,aK]
  refine Ok.pQ (λP2 (m2:Int)=>l∈P2→m2=l.bQ) ?_ _ (by simp) ?_
  ·rintro P2 x rest2 m2 Z2 hL2 hm2 hZ2
   have hx:x∈t.Links:=by rw[hL2];simp
   have hmin:(if n<r then n else r)=l.A:=by split<;>omega
   have hmax:(if n>r then n else r)=l.B:=by split<;>omega
   rw[hmin,hmax]
   simp only[jn]
   refine Ok.cs (λh=>?_) λh=>?_
   ·simp at h
    refine hZ2 _ λ_=>?_
    rw[aej hv hx hl h.1 h.2]
   ·refine hZ2 _ λhm=>?_
    rcases List.mem_append.1 hm with hm|hm
    ·exact hm2 hm
    ·simp at hm;subst hm;simp at h
  ·intro m2 hm2
   rw[dP (by simp;omega),aK]
   refine hZ _ ?_
   rw[List.map_append,hm2 hl,List.map_cons,List.map_nil,yb hv hl he,aek hv hl he]
 ·rintro m rfl
  rw[qK,aK]
  show Ok (bif !bZ (ofA t r seq cl)then _ else _) _
  cases bZ (ofA t r seq cl)
  ·exact Ok.s rfl
  ·exact Ok.s rfl
theorem apM{α:Type}{p:α→α→Bool}{l:List α}(h:l.Pairwise λa b=>p a b=true):fQ p l=true:=nL h
theorem adi(hv:Vt t)(hr:r∈ids t)(seq:Int)(cl:List bH):bZ (ofA t r seq cl)=(inB seq 1 1000000&&(decide ((cl.length:Int)≤8)&&(cl.all iN&&qy cl))):=by
 have h23:=aa9 hv hr
 have hr99:inB r 1 99=true:=by
  obtain⟨x,hx,e⟩:=List.mem_map.1 hr
  have:=hv.idr x hx
  simp only[inB,Bool.and_eq_true,decide_eq_true_eq];omega
 have xG:((iB t r).map (kO t r)).all (lB (ofA t r seq cl))=true:=by
  rw[List.all_eq_true]
  intro x hx
  obtain⟨n,hn,rfl⟩:=List.mem_map.1 hx
  have oq:=(fe hv).1 hn
  obtain⟨y,hy,e⟩:=List.mem_map.1 (qf hv oq)
  have hid:=hv.idr y hy
  obtain⟨l,hl,hc⟩:=lH.1 oq
  have hlt:=hv.lt l hl
  have hb:=hv.okl l hl
  simp only[wQ,sV,Bool.or_eq_false_iff,Bool.not_eq_false',Bool.and_eq_true,decide_eq_true_eq,decide_eq_false_iff_not]at hb
  have hne:=aem hv oq
  rw[yb hv hl (by simp[fH];omega)]
  have hp:1≤(mj r n l).1∧(mj r n l).1≤1000:=by
   unfold mj
   simp only
   cases(decide (l.A=r)&&decide (l.B=n))<;>simp<;>omega
  have er:(ofA t r seq cl).af=r:=rfl
  simp only[lB,inB,er,Bool.and_eq_true,decide_eq_true_eq,Bool.not_eq_true',decide_eq_false_iff_not]
  exact⟨⟨⟨⟨by omega,by omega⟩,λh=>hne h.symm⟩,hp⟩,by omega,by omega⟩
 have zf:vM ((iB t r).map (kO t r))=true:=by
  refine apM (List.pairwise_map.2 ((vK hv r).imp λh=>?_))
  simp only[rW,decide_eq_true_eq];exact h
 have e1:(ofA t r seq cl).Links=(iB t r).map (kO t r):=rfl
 unfold bZ
 rw[e1,xG,zf]
 have e2:decide ((((iB t r).map (kO t r)).length:Int)≤23)=true:=by simp;omega
 rw[e2]
 show(inB r 1 99&&inB seq 1 1000000&&true&&(true&&true)&&(decide ((cl.length:Int)≤8)&&(cl.all iN&&qy cl)))=_
 rw[hr99];simp
end Go.Proofs.YtjdopimopgpagaaGreat
namespace Go.Proofs.YtjdopimopgpagaaGreat
set_option linter.all false
open Go
def coL(l m:aS):Prop:=l.B<m.B∨(l.B=m.B∧l.A<m.A)
theorem ahz{l:List aS}(hl:l.length≤1000000)(hd:l.Pairwise coL):Ok (sJ l) (λm=>m.Pairwise (λa b=>ltL a b=true)∧(∀x,x∈m↔x∈l)∧m.length=l.length):=by
 unfold sJ
 refine Ok.pQ (λP m=>m.Pairwise (λa b=>ltL a b=true)∧(∀x,x∈m↔x∈P)∧m.length=P.length) ?_ _ ⟨by simp,by simp,rfl⟩ λs hs=>Ok.s hs
 rintro P x r s Z hL ⟨i1,i2,i3⟩ hZ
 have hP:P.length<l.length:=by rw[hL];simp
 have hne:∀y∈s,ltL y x=false→ltL x y=true:=λy hy h=>by
  rw[hL]at hd
  have:=(List.pairwise_append.1 hd).2.2 y ((i2 y).1 hy) x (by simp)
  simp only[ltL,Bool.or_eq_false_iff,Bool.and_eq_false_iff,decide_eq_false_iff_not,Bool.or_eq_true,Bool.and_eq_true,decide_eq_true_eq]at *
  unfold coL at this
  omega
 refine Ok.whl (λat1:Int=>(0≤at1∧at1≤s.length)∧∀y∈s.take at1.toNat,ltL y x=true) (λat1=>((s.length:Int)-at1).toNat) ⟨by omega,by simp⟩ (by omega) ?_
 rintro a Z2 ⟨⟨ha0,ha1⟩,hlt⟩ hZ2
 refine Ok.jn (λv:Bool=>(v=true→∃h:a.toNat<s.length,ltL s[a.toNat] x=true)∧(v=false→∀h:a.toNat<s.length,ltL s[a.toNat] x=false)) ?_ ?_
 ·rintro v ⟨hv,hv2⟩
  refine Ok.cs (λh=>?_) λh=>?_
  ·obtain⟨h1,h2⟩:=hv h
   rw[cr (by omega) (by omega)]
   refine hZ2 _ ⟨by omega,λy hy=>?_⟩ (by omega)
   rw[show(a+1).toNat=a.toNat+1 by omega,List.take_succ_eq_append_getElem h1]at hy
   rcases List.mem_append.1 hy with hy|hy
   ·exact hlt y hy
   ·simp at hy;subst hy;exact h2
  ·have hv2:=hv2 h
   refine Ok.bnd (y2 ⟨by omega,by omega,by omega⟩) λl1 h1=>?_
   refine Ok.bnd (jv (by simp;omega)) λl2 h2=>?_
   refine Ok.bnd (jv (by simp at h2 ⊢;omega)) λl3 h3=>?_
   refine Ok.bnd (y2 ⟨by omega,by omega,by omega⟩) λl4 h4=>?_
   refine Ok.bnd (jv (by simp at h2 h3 ⊢;omega)) λl5 h5=>?_
   have e5:l5=s.take a.toNat++x::s.drop a.toNat:=by
    rw[h5.1,h3.1,h2.1,h1.1,h4.1];simp
   have hgt:∀y∈s.drop a.toNat,ltL x y=true:=λy hy=>by
    have hlen:a.toNat<s.length:=by
     have:=List.length_pos_of_mem hy
     rw[List.length_drop]at this;omega
    rw[List.drop_eq_getElem_cons hlen]at hy
    have h0:=hne _ (List.getElem_mem hlen) (hv2 hlen)
    rcases List.mem_cons.1 hy with rfl|hy
    ·exact h0
    ·have hp:(s.drop a.toNat).Pairwise (λa b=>ltL a b=true):=i1.sublist (List.drop_sublist _ _)
     rw[List.drop_eq_getElem_cons hlen,List.pairwise_cons]at hp
     exact wq _ _ _ h0 (hp.1 y hy)
   refine hZ _ ⟨?_,λy=>?_,?_⟩
   ·rw[e5]
    refine List.pairwise_append.2 ⟨i1.sublist (List.take_sublist _ _),List.pairwise_cons.2 ⟨hgt,i1.sublist (List.drop_sublist _ _)⟩,λy hy z hz=>?_⟩
    rcases List.mem_cons.1 hz with rfl|hz
    ·exact hlt y hy
    ·exact wq _ _ _ (hlt y hy) (hgt z hz)
   ·have hs:=List.take_append_drop a.toNat s
    have:y∈s↔y∈s.take a.toNat∨y∈s.drop a.toNat:=by rw[←List.mem_append,hs]
    rw[e5,List.mem_append,List.mem_cons,List.mem_append,List.mem_singleton,←i2 y,this]
    constructor
    ·rintro(h|h|h);exact .inl (.inl h);exact .inr h;exact .inl (.inr h)
    ·rintro((h|h)|h);exact .inl h;exact .inr (.inr h);exact .inr (.inl h)
   ·rw[e5];simp;omega
 ·intro J hJ
  refine Ok.cs (λh=>?_) λh=>hJ _ ⟨by simp,λ_ h2=>by simp at h;omega⟩
  simp at h
  refine Ok.bnd (pK ha0 h) λe he=>?_
  obtain⟨h1,h2⟩:=List.getElem?_eq_some_iff.1 he.2
  subst h2
  refine Ok.cs (λg=>hJ _ ⟨λ_=>⟨h1,by simp[ltL];simp at g;omega⟩,by simp⟩) λg=>?_
  refine Ok.cs (λg2=>?_) λg2=>hJ _ ⟨by simp,λ_ _=>by simp[ltL];simp at g g2;omega⟩
  refine hJ _ ⟨λhd=>⟨h1,?_⟩,λhd _=>?_⟩
  ·simp at g g2 hd;simp[ltL];omega
  ·simp at g g2 hd;simp[ltL];omega
def acK(l:aS):Prop:=1≤l.A∧l.A<l.B∧(1≤l.jR∧l.jR≤5)∧(1≤l.jl∧l.jl≤5)∧0≤l.bQ∧l.bQ≤3
structure Vg(g:az)(most:Int):Prop where
 v:Vt g
 n:1≤g.aG.length∧(g.aG.length:Int)≤most
 i:∀r∈g.aG,r.ID≤most
theorem ae9{t:aX}{most:Int}(h:cR t)(hm:1≤most∧most≤8):Ok (j8 t most 0) (λp=>Vg p.1 most∧cR p.2):=by
 unfold j8
 refine Ok.bnd (pO h) λp hp=>?_
 obtain⟨hk,hp⟩:=hp
 have hk:=hk (by omega) (by omega) (by omega)
 refine Ok.chk (by simp;omega) ?_
 refine Ok.gz (λj (m:List aU)=>(m.length:Int)=j-1∧m.Pairwise (λa b=>a.ID<b.ID)∧(∀r∈m,1≤r.ID∧r.ID<j)∧∀i,1≤i→i<j→∃r∈m,r.ID=i) 1 (p.1+1) ?_ ?_ _ _ _ rfl (by omega) (by omega) ⟨by simp,by simp,by simp,λi h1 h2=>by omega⟩
 ·rintro i s Z h1 h2 ⟨hI,hI2,hI3,hI4⟩ hZ
  refine Ok.bnd (jv (by simp;omega)) λl1 hl1=>hZ _ ⟨by have:=hl1.2;simp at this;omega,?_,?_,?_⟩
  ·rw[hl1.1]
   refine List.pairwise_append.2 ⟨hI2,by simp,λa ha b hb=>?_⟩
   have:=hI3 a ha
   simp at hb;subst hb;exact this.2
  ·rw[hl1.1];intro r hr
   rcases List.mem_append.1 hr with hr|hr
   ·have:=hI3 r hr;omega
   ·simp at hr;subst hr;simp only;omega
  ·rw[hl1.1];intro j h3 h4
   by_cases e:j=i
   ·exact⟨aU.mk i true,List.mem_append_right _ (by simp),e.symm⟩
   ·obtain⟨r,hr,e2⟩:=hI4 j h3 (by omega)
    exact⟨r,List.mem_append_left _ hr,e2⟩
 rintro i rs hi1 hi2 ⟨hrs,hrs2,apN,apO⟩
 have hi2:=hi2 (by omega)
 subst hi2
 refine Ok.bnd (mh hp (by decide) (by decide)) λc hc=>?_
 have adA:1≤c.1∧c.1≤5:=by have:=hc.1;simp at this;omega
 refine Ok.chk (by simp;omega) ?_
 refine Ok.gz (λj (s:List aS×List Int×Int)=>((s.1.length:Int)≤8*(j-2)∧(∀l∈s.1,acK l∧l.B<j)∧s.1.Pairwise coL)∧cR (aX.mk s.2.1 s.2.2)) 2 (if 2≤p.1+1 then p.1+1 else 2) ?_ ?_ _ _ _ ?_ (by omega) ?_ ⟨by simp,hc.2⟩
 ·intro b s Z hb1 hb2 hI hZ
  have hb3:b<p.1+1:=by split at hb2<;>omega
  obtain⟨ms,L,At⟩:=s
  obtain⟨⟨hlen,hok,hpw⟩,ht⟩:=hI
  simp only at hlen hok hpw
  refine Ok.bnd (pO ht) λtr htr=>?_
  refine Ok.bnd (y7 htr.2 (by omega)) λsk hsk=>?_
  refine Ok.chk (by simp;omega) ?_
  refine Ok.gz (λa (s:List aS×List Int×Int)=>((s.1.length:Int)≤8*(b-2)+(a-1)∧(∀l∈s.1,acK l∧(l.B<b∨l.B=b∧l.A<a))∧s.1.Pairwise coL)∧cR (aX.mk s.2.1 s.2.2)) 1 b ?_ ?_ _ _ _ rfl (by omega) (by omega) ⟨⟨by simp only;omega,λl hl=>⟨(hok l hl).1,.inl (hok l hl).2⟩,hpw⟩,hsk⟩
  ·intro a s Z3 ha1 ha2 hI3 hZ3
   obtain⟨m5,m6,m7⟩:=s
   obtain⟨⟨hl5,wR,acL⟩,ht5⟩:=hI3
   simp only at hl5 wR acL
   refine Ok.jn (λs:List Int×Int×List aS=>((s.2.2.length:Int)≤8*(b-2)+a∧(∀l∈s.2.2,acK l∧(l.B<b∨l.B=b∧l.A<a+1))∧s.2.2.Pairwise coL)∧cR (aX.mk s.1 s.2.1)) (λs hs=>hZ3 _ ⟨by have h:=hs.1;obtain⟨_,_,_⟩:=s;simp only at h ⊢;exact⟨by omega,h.2⟩,hs.2⟩) λJ1 hJ1=>?_
   refine Ok.jn (λs:Bool×List Int×Int=>cR (aX.mk s.2.1 s.2.2)) (λs hs=>?_) λJ2 hJ2=>?_
   ·obtain⟨v,m11,m12⟩:=s
    refine Ok.cs (λ_=>?_) λ_=>hJ1 _ ⟨⟨by simp only;omega,λl hl=>⟨(wR l hl).1,by have:=(wR l hl).2;omega⟩,acL⟩,hs⟩
    refine Ok.bnd (pO hs) λq7 h7=>?_
    refine Ok.bnd (pO h7.2) λq8 h8=>?_
    refine Ok.bnd (jM h8.2 (by omega)) λq9 h9=>?_
    have c7:=h7.1 (by omega) (by omega) (by omega)
    have c8:=h8.1 (by omega) (by omega) (by omega)
    have c9:=h9.1.2.1 (by omega)
    have c90:=h9.1.1
    refine Ok.bnd (jv (by simp;omega)) λl2 hl2=>hJ1 _ ⟨⟨by have:=hl2.2;rw[List.length_cons,List.length_nil]at this;simp only;omega,?_,?_⟩,h9.2⟩
    ·simp only[hl2.1];intro l hl
     rcases List.mem_append.1 hl with hl|hl
     ·exact⟨(wR l hl).1,by have:=(wR l hl).2;omega⟩
     ·simp only[List.mem_singleton]at hl;subst hl
      exact⟨⟨ha1,ha2,⟨c7.1,Int.le_trans c7.2 adA.2⟩,⟨c8.1,Int.le_trans c8.2 adA.2⟩,c90,by show q9.1≤3;omega⟩,.inr ⟨rfl,by show a<a+1;omega⟩⟩
    ·simp only[hl2.1]
     refine List.pairwise_append.2 ⟨acL,by simp,λl hl m hm=>?_⟩
     have:=(wR l hl).2
     simp at hm;subst hm;unfold coL;simp only;omega
   ·refine Ok.cs (λ_=>?_) λ_=>Ok.bnd (y7 ht5 (by omega)) λq h=>hJ2 _ h
    exact Ok.cs (λ_=>hJ2 _ ht5) λ_=>Ok.bnd (y7 ht5 (by omega)) λq h=>hJ2 _ h
  ·intro a s ha1 ha2 hI3
   have ha2:=ha2 (by omega)
   obtain⟨m5,m6,m7⟩:=s
   obtain⟨⟨hl5,wR,acL⟩,ht5⟩:=hI3
   simp only at hl5 wR acL
   exact hZ _ ⟨⟨by simp only;omega,λl hl=>⟨(wR l hl).1,by have:=(wR l hl).2;omega⟩,acL⟩,ht5⟩
 ·intro b s hb1 hb2 hI
  have hb2:=hb2 (by split<;>omega)
  have hb3:b≤9:=by split at hb2<;>omega
  obtain⟨m2,m3,m4⟩:=s
  obtain⟨⟨hlen,hok,hpw⟩,ht⟩:=hI
  simp only at hlen hok hpw
  refine Ok.bnd (ahz (by omega) hpw) λl hl=>?_
  obtain⟨hl1,hl2,hl3⟩:=hl
  have hV:Vg (az.mk rs l) most:=by
   have hb4:b=p.1+1:=by split at hb2<;>omega
   have agw:∀x∈l,acK x∧x.B<p.1+1:=λx hx=>by
    have:=hok x ((hl2 x).1 hx)
    exact⟨this.1,by omega⟩
   refine⟨⟨by simp only;omega,by simp only;omega,λr hr=>by have:=apN r hr;omega,hrs2,λx hx=>?_,λx hx=>?_,λx hx=>(agw x hx).1.2.1,hl1⟩,by simp only;omega,λr hr=>by have:=apN r hr;omega⟩
   ·have:=(agw x hx).1
    unfold acK at this
    have c1:sV x.jR=true:=by simp[sV];omega
    have c2:sV x.jl=true:=by simp[sV];omega
    simp only[wQ,c1,c2,Bool.not_true,Bool.or_self,Bool.false_or,Bool.or_eq_false_iff,decide_eq_false_iff_not]
    omega
   ·have:=agw x hx
    unfold acK at this
    obtain⟨r1,g1,g2⟩:=apO x.A (by omega) (by omega)
    obtain⟨r2,g3,g4⟩:=apO x.B (by omega) (by omega)
    exact⟨tH.2 ⟨r1,g1,g2⟩,tH.2 ⟨r2,g3,g4⟩⟩
  simp only[jn]
  exact Ok.s ⟨hV,ht⟩
 ·split<;>omega
 ·split<;>omega
theorem Vt.aje{g h:az}(hv:Vt g)(h1:h.aG.map (·.ID)=g.aG.map (·.ID))(h2:h.Links=g.Links):Vt h:=by
 have hl:h.aG.length=g.aG.length:=by have:=congrArg List.length h1;simpa using this
 have hh:∀x,hasB h x=true↔hasB g x=true:=λx=>by
  rw[←nM,←nM];unfold ids;rw[h1]
 refine⟨by rw[hl];exact hv.nr,by rw[h2];exact hv.nl,λr hr=>?_,?_,by rw[h2];exact hv.okl,by rw[h2];simp only[hh];exact hv.ends,by rw[h2];exact hv.lt,by rw[h2];exact hv.y9⟩
 ·have:r.ID∈g.aG.map (·.ID):=by rw[←h1];exact List.mem_map.2 ⟨r,hr,rfl⟩
  obtain⟨x,hx,e⟩:=List.mem_map.1 this
  rw[←e];exact hv.idr x hx
 ·have:=ael hv
  unfold ids at this
  rw[←h1]at this
  exact List.pairwise_map.1 this
end Go.Proofs.YtjdopimopgpagaaGreat
namespace Go.Proofs.YtjdopimopgpagaaGreat
set_option linter.all false
open Go
def ofE(r:Int)(l:aS):Option bp:=if r=l.A then some (bp.mk l.B l.jR l.bQ)else if r=l.B then some (bp.mk l.A l.jl l.bQ)else none
theorem ajf{t:az}(hv:Vt t)(r:Int):t.Links.filterMap (ofE r)=(iB t r).map (kO t r):=by
 have hne:∀l∈t.Links,l.A<l.B:=λl hl=>hv.lt l hl
 refine sX (r:=λa b:bp=>a.bq<b.bq) (λa=>Int.lt_irrefl _) (λa b c=>Int.lt_trans) ?_ ?_ λx=>?_
 ·rw[List.pairwise_filterMap]
  refine List.Pairwise.imp_of_mem (λ{l m} hl hm hlt x hx y hy=>?_) hv.y9
  have h1:=hne l hl;have h2:=hne m hm
  have h3:=acD.1 hlt
  unfold ofE at hx hy
  split at hx
  ·cases hx
   split at hy
   ·cases hy;simp only;omega
   ·split at hy
    ·cases hy;simp only;omega
    ·cases hy
  ·split at hx
   ·cases hx
    split at hy
    ·cases hy;simp only;omega
    ·split at hy
     ·cases hy;simp only;omega
     ·cases hy
   ·cases hx
 ·exact List.pairwise_map.2 ((vK hv r).imp λh=>by simp only[rW];exact h)
 ·rw[List.mem_filterMap,List.mem_map]
  constructor
  ·rintro⟨l,hl,hx⟩
   have h1:=hne l hl
   unfold ofE at hx
   split at hx
   ·cases hx;rename_i e;subst e
    exact⟨l.B,(fe hv).2 (lH.2 ⟨l,hl,.inl ⟨rfl,rfl⟩⟩),acI hv hl⟩
   ·split at hx
    ·cases hx;rename_i e;subst e
     exact⟨l.A,(fe hv).2 (lH.2 ⟨l,hl,.inr ⟨rfl,rfl⟩⟩),acJ hv hl⟩
    ·cases hx
  ·rintro⟨n,hn,rfl⟩
   obtain⟨l,hl,hc⟩:=lH.1 ((fe hv).1 hn)
   have h1:=hne l hl
   refine⟨l,hl,?_⟩
   unfold ofE
   rcases hc with⟨rfl,rfl⟩|⟨rfl,rfl⟩
   ·rw[if_pos rfl,acI hv hl]
   ·rw[if_neg (by omega),if_pos rfl,acJ hv hl]
end Go.Proofs.YtjdopimopgpagaaGreat
namespace Go.Proofs.YtjdopimopgpagaaGreat
set_option linter.all false
open Go
theorem wE{α γ β:Type}(f:α→γ){K:List γ→Option β}:∀(l:List α) (j:Nat) (s:List γ),s.length+l.length≤1000000→bJ l j (λ(_:Int) (e:α) (Z:List γ→Option β) (o:List γ)=>bnd (cV o ([f e]:List γ)) λl=>Z l) K s=K (s++l.map f)
 |[],_,s,_=>by simp[bJ]
 |x::r,j,s,h=>by
  simp only[bJ]
  simp only[List.length_cons]at h
  rw[dP (by simp;omega),aK,wE f r (j+1) _ (by simp;omega)]
  simp
def bx(f:aA):az:=az.mk (f.aB.map λn=>aU.mk n.af n.aW) f.Links
def SmF(f:aA):Prop:=f.Links.length≤100000∧f.aB.length≤100000
variable {f:aA}
theorem um(h:SmF f):ef f=some (bx f):=by
 unfold ef
 rw[wE (λn:aT=>aU.mk n.af n.aW) f.aB 0 [] (by have:=h.2;simp;omega)]
 rfl
theorem afC{l:List aS}(h:l.length≤100000):dy l=some l:=by
 unfold dy dO
 rw[dP (by simp;omega)];rfl
theorem zi(h:SmF f):dQ f=some (bx f):=by
 unfold dQ
 rw[afC h.1,aK,wE (λn:aT=>aU.mk n.af n.aW) f.aB 0 [] (by have:=h.2;simp;omega)]
 rfl
def uJ(r:Int):List aT→Nat→Int
 |[],_=>-1
 |x::l,j=>bif decide (x.af=r)then(j:Int)else uJ r l (j+1)
theorem zj{B:Int→aT→(Unit→Option Int)→Unit→Option Int}{K:Unit→Option Int}{r:Int}(hB:∀j x Z s,B j x Z s=bif decide (x.af=r)then some j else Z s)(hK:∀s,K s=some (-1)):∀(l:List aT) (j:Nat) (s:Unit),bJ l j B K s=some (uJ r l j)
 |[],_,s=>hK s
 |x::l,j,s=>by
  simp only[bJ,hB,uJ,zj hB hK l (j+1) s]
  cases decide (x.af=r)<;>rfl
def iA(f:aA)(r:Int):Int:=uJ r f.aB 0
theorem wF(f:aA)(r:Int):jf f r=some (iA f r):=by
 unfold jf
 exact zj (λj x Z s=>rfl) (λs=>rfl) f.aB 0 ()
theorem acM(f:aA)(r:Int):fA f r=some (iA f r,decide (0≤iA f r)):=by
 unfold fA eE
 rw[zj (r:=r) (λj x Z s=>by simp only[nj,aK]) (λs=>rfl)]
 rfl
theorem afD(r:Int):∀(l p:List aT),(uJ r l p.length = -1∧∀x∈l,x.af≠r)∨∃a x b,l=a++x::b∧uJ r l p.length=((p.length+a.length:Nat):Int)∧x.af=r
 |[],_=>.inl ⟨rfl,by simp⟩
 |x::l,p=>by
  by_cases h:x.af=r
  ·exact .inr ⟨[],x,l,rfl,by simp[uJ,h],h⟩
  ·have:=afD r l (p++[x])
   simp only[List.length_append,List.length_cons,List.length_nil]at this
   rcases this with⟨h1,h2⟩|⟨a,y,b,h1,h2,h3⟩
   ·exact .inl ⟨by simp only[uJ,h,decide_false,cond_false];exact h1,λz hz=>by
     rcases List.mem_cons.1 hz with rfl|hz
     ·exact h
     ·exact h2 z hz⟩
   ·exact .inr ⟨x::a,y,b,by rw[h1];rfl,by simp only[uJ,h,decide_false,cond_false];rw[h2];simp;omega,h3⟩
theorem qh(f:aA)(r:Int):(iA f r = -1∧∀x∈f.aB,x.af≠r)∨∃a x b,f.aB=a++x::b∧iA f r=(a.length:Int)∧x.af=r:=by
 have:=afD r f.aB []
 simpa [iA]using this
def jN(l:List bH):Bool:=decide ((l.length:Int)≤8)&&(l.all iN&&qy l)
def okN(n:aT):Bool:=decide (0≤n.Seq)&&(decide (n.Seq≤1000000)&&(jN n.Claims&&decide (dbC n.Database=0)))
def okM(f:aA)(m:bB):Bool:=decide (0≤iA f m.cQ)&&(decide (0≤iA f m.To)&&(!decide (m.cQ=m.To)&&decide (dbC m.Database=0)))
def qN(f:aA):Bool:=decide (kU (bx f)=0)&&(!decide ((400:Int)<(f.aF.length:Int))&&(f.aB.all okN&&f.aF.all (okM f)))
variable {α:Type}
theorem vR{β:Type}{B:Int→α→(Unit→Option β)→Unit→Option β}{K:Unit→Option β}(p:α→Bool)(a:Option β)(l:List α)(hB:∀j,∀x∈l,∀Z,B j x Z ()=bif p x then Z ()else a):∀(j:Nat),bJ l j B K ()=bif l.all p then K ()else a:=by
 induction l with
 |nil=>intro j;rfl
 |cons x r ih=>
  intro j
  simp only[bJ]
  rw[hB _ x (by simp),ih (λj y hy=>hB j y (by simp[hy])),List.all_cons]
  cases p x<;>rfl
theorem afa(h:SmF f):oE f=some (qN f):=by
 unfold oE qN
 simp only[jn,um h,pM,aK]
 by_cases h1:kU (bx f)=0
 ·by_cases h2:(400:Int)<(f.aF.length:Int)
  ·simp[h1,h2]
  ·simp only[h1,h2,decide_true,decide_false,Bool.not_true,Bool.not_false,cond_false,Bool.true_and]
   rw[vR okN (some false) f.aB]
   ·rw[vR (okM f) (some false) f.aF]
    ·cases f.aB.all okN<;>cases f.aF.all (okM f)<;>rfl
    ·intro j x hx Z
     simp only[wF,qL,aK,okM]
     by_cases a1:iA f x.cQ<0
     ·simp[a1,show ¬0≤iA f x.cQ by omega]
     by_cases a2:iA f x.To<0
     ·simp[a1,a2,show ¬0≤iA f x.To by omega]
     by_cases a3:x.cQ=x.To
     ·simp[a1,a2,a3]
     ·cases h4:decide (dbC x.Database=0)<;>simp[a1,a2,a3,h4,show 0≤iA f x.cQ by omega,show 0≤iA f x.To by omega]
   ·intro j x hx Z
    simp only[zc,qL,aK,okN,jN]
    by_cases a1:x.Seq<0
    ·simp[a1,show ¬0≤x.Seq by omega]
    by_cases a2:1000000<x.Seq
    ·simp[a1,a2,show ¬x.Seq≤1000000 by omega]
    ·simp only[a1,a2,decide_false,cond_false,show 0≤x.Seq by omega,show x.Seq≤1000000 by omega,decide_true,Bool.true_and]
     cases(decide ((x.Claims.length:Int)≤8)&&(x.Claims.all iN&&qy x.Claims))<;>cases h4:decide (dbC x.Database=0)<;>simp
 ·simp[h1]
theorem nN{n:aT}(hn:n∈f.aB):n.af∈ids (bx f):=by
 unfold ids bx
 simp only[List.map_map]
 exact List.mem_map.2 ⟨n,hn,rfl⟩
variable {r:Int}{t:az}
theorem afb(hv:Vt t)(hr:r∈ids t):inB r 1 99=true:=by
 obtain⟨x,hx,rfl⟩:=List.mem_map.1 hr
 have:=hv.idr x hx
 simp[inB];omega
theorem aba(h:SmF f):eW f=some (bif qN f then 0 else 1):=by
 unfold eW qN
 simp only[jn,zi h,y6,aK]
 by_cases h1:kU (bx f)=0
 ·have hv:=jx.1 h1
  by_cases h2:(400:Int)<(f.aF.length:Int)
  ·simp[h1,h2]
  ·simp only[h1,h2,decide_true,decide_false,Bool.not_true,Bool.not_false,cond_false,Bool.true_and]
   rw[vR okN (some 1) f.aB]
   ·rw[vR (okM f) (some 1) f.aF]
    ·cases f.aB.all okN<;>cases f.aF.all (okM f)<;>rfl
    ·intro j x hx Z
     simp only[acM,x2,aK,okM]
     cases a1:decide (0≤iA f x.cQ)<;>cases a2:decide (0≤iA f x.To)<;>cases a3:decide (x.cQ=x.To)<;>cases h4:decide (dbC x.Database=0)<;>simp
   ·intro j x hx Z
    have hr:=afb hv (nN hx)
    have hval:bZ (ai.mk x.af 1 false [] x.Claims)=jN x.Claims:=by
     simp only[bZ,hr,jN,List.all_nil,vM,fQ,List.length_nil,Bool.true_and,Bool.and_true]
     rfl
    simp only[tI,hval,x2,aK,okN]
    by_cases a1:x.Seq<0
    ·simp[a1,show ¬0≤x.Seq by omega]
    by_cases a2:1000000<x.Seq
    ·simp[a1,a2,show ¬x.Seq≤1000000 by omega]
    ·simp only[a1,a2,decide_false,cond_false,show 0≤x.Seq by omega,show x.Seq≤1000000 by omega,decide_true,Bool.true_and]
     cases jN x.Claims<;>cases h4:decide (dbC x.Database=0)<;>simp
 ·simp[h1]
structure Vf(f:aA):Prop where
 t:Vt (bx f)
 m:f.aF.length≤400
 n:∀n∈f.aB,(0≤n.Seq∧n.Seq≤1000000)∧jN n.Claims=true∧Vd n.Database
 g:∀m∈f.aF,0≤iA f m.cQ∧0≤iA f m.To∧m.cQ≠m.To∧Vd m.Database
theorem zk:qN f=true↔Vf f:=by
 unfold qN
 simp only[Bool.and_eq_true,decide_eq_true_eq,Bool.not_eq_true',decide_eq_false_iff_not,List.all_eq_true,okN,okM]
 constructor
 ·rintro⟨h1,h2,h3,h4⟩
  exact⟨jx.1 h1,by omega,λn hn=>by have:=h3 n hn;exact⟨⟨this.1,this.2.1⟩,this.2.2.1,iY.1 this.2.2.2⟩,λm hm=>by have:=h4 m hm;exact⟨this.1,this.2.1,this.2.2.1,iY.1 this.2.2.2⟩⟩
 ·intro h
  exact⟨jx.2 h.t,by have:=h.m;omega,λn hn=>by have:=h.n n hn;exact⟨this.1.1,this.1.2,this.2.1,iY.2 this.2.2⟩,λm hm=>by have:=h.g m hm;exact⟨this.1,this.2.1,this.2.2.1,iY.2 this.2.2.2⟩⟩
theorem Vf.len(h:Vf f):f.aB.length≤24:=by have:=h.t.nr;simpa [bx]using this
theorem Vf.asc{f:aA}(h:Vf f):f.aB.Pairwise λa b=>a.af<b.af:=by
 have:=h.t.asc
 simp only[bx,List.pairwise_map]at this
 exact this
variable {a b:List aT}
theorem Vf.idx(h:Vf f){n:aT}(hL:f.aB=a++n::b):iA f n.af=(a.length:Int):=by
 have hp:=h.asc
 rw[hL]at hp
 rcases qh f n.af with⟨_,h2⟩|⟨a',x,b',h1,h2,h3⟩
 ·exact absurd rfl (h2 n (by rw[hL];simp))
 ·rw[h2]
  have hl:a'.length=a.length:=by
   have q1:=List.pairwise_iff_getElem.1 h.asc
   have e1:∀(h:a.length<f.aB.length),f.aB[a.length]=n:=λh=>by simp[hL]
   have e2:∀(h:a'.length<f.aB.length),f.aB[a'.length]=x:=λh=>by simp[h1]
   have l1:a.length<f.aB.length:=by rw[hL];simp
   have l2:a'.length<f.aB.length:=by rw[h1];simp
   rcases Nat.lt_trichotomy a.length a'.length with q|q|q
   ·have:=q1 _ _ l1 l2 q;rw[e1,e2]at this;omega
   ·exact q.symm
   ·have:=q1 _ _ l2 l1 q;rw[e1,e2]at this;omega
  rw[hl]
theorem atb(hv:Vt t)(hr:r∈ids t)(seq:Int){cl:List bH}(hc:cl.length≤100000):qI t r seq cl=some (bif bZ (ofA t r seq cl)then(ofA t r seq cl,0)else(noA,2)):=by
 have apP:=hv.nr;have apQ:=hv.nl
 obtain⟨b,hb1,hb2⟩:=agp t r (by omega)
 have hcap:b=zh t r:=some_inj (hb2.symm.trans (aeC hv r))
 subst hcap
 refine Ok.eq ?_
 unfold qI
 simp only[y6,afw t r (show t.aG.length≤1000000 by omega),hb1,aK,jx.2 hv,nM.1 hr,decide_true,Bool.not_true,cond_false,Bool.true_and]
 rw[dP (by simp;omega),aK]
 refine Ok.pQ (λP (m:List bp)=>m=P.filterMap (ofE r)∧m.length≤P.length) ?_ _ ⟨rfl,by simp⟩ ?_
 ·rintro P x rest m Z hL ⟨hm,hml⟩ hZ
  have hP:P.length<t.Links.length:=by rw[hL];simp
  simp only[jn]
  refine Ok.cs (λh=>?_) λh=>?_
  ·have h:r=x.A:=by simpa using h
   rw[dP (by simp;omega),aK]
   refine hZ _ ⟨?_,by simp;omega⟩
   rw[List.filterMap_append,hm];simp[ofE,h]
  ·have h:r≠x.A:=by simpa using h
   refine Ok.cs (λh2=>?_) λh2=>?_
   ·have h2:r=x.B:=by simpa using h2
    rw[dP (by simp;omega),aK]
    refine hZ _ ⟨?_,by simp;omega⟩
    have e:ofE r x=some (bp.mk x.A x.jl x.bQ):=by unfold ofE;rw[if_neg h,if_pos h2]
    rw[List.filterMap_append,hm,List.filterMap_cons,e];rfl
   ·have h2:r≠x.B:=by simpa using h2
    refine hZ _ ⟨?_,by simp;omega⟩
    have e:ofE r x=none:=by unfold ofE;rw[if_neg h,if_neg h2]
    rw[List.filterMap_append,hm,List.filterMap_cons,e];simp
 ·rintro m ⟨hm,_⟩
  rw[ajf hv]at hm
  subst hm
  rw[tI,aK]
  show Ok (bif !bZ (ofA t r seq cl)then _ else _) _
  cases bZ (ofA t r seq cl)
  ·exact Ok.s rfl
  ·exact Ok.s rfl
def pU(f:aA)(n:aT)(seq:Int):ai×Bool:=bif inB seq 1 1000000 then(ofA (bx f) n.af seq n.Claims,true)else(noA,false)
theorem zl(h:Vf f){n:aT}(hn:n∈f.aB)(seq:Int):bZ (ofA (bx f) n.af seq n.Claims)=inB seq 1 1000000:=by
 rw[adi h.t (nN hn)]
 have:=(h.n n hn).2.1
 unfold jN at this
 rw[this,Bool.and_true]
theorem Vf.sm(h:Vf f):SmF f:=by have h1:=h.len;have h2:=h.t.nl;exact⟨by have:f.Links.length≤60:=h2;omega,by omega⟩
theorem wG(h:Vf f){n:aT}(hL:f.aB=a++n::b)(seq:Int):mV f (a.length:Int) seq=some (pU f n seq):=by
 have hn:n∈f.aB:=by rw[hL];simp
 unfold mV
 rw[um h.sm,aK,hL,kr,aK,ajd h.t (nN hn),zl h hn,aK]
 unfold pU
 cases inB seq 1 1000000<;>rfl
theorem abM{l:List bH}(h:jN l=true):l.length≤100000:=by
 simp only[jN,Bool.and_eq_true,decide_eq_true_eq]at h;omega
theorem abN(h:Vf f){n:aT}(hn:n∈f.aB):iL f n=some (bif decide (n.Seq=0)then(noA,false)else pU f n n.Seq):=by
 unfold iL
 cases hs:decide (n.Seq=0)
 ·simp only[cond_false]
  rw[zi h.sm,aK,atb h.t (nN hn) n.Seq (abM (h.n n hn).2.1),zl h hn,aK]
  unfold pU
  cases inB n.Seq 1 1000000<;>rfl
 ·rfl
def abb(f:aA)(r:Int):ai×Bool:=bif qN f then(bif decide (iA f r<0)then(noA,false)else match f.aB[(iA f r).toNat]? with|some n=>(bif decide (n.Seq=0)then(noA,false)else pU f n n.Seq)|none=>(noA,false))else(noA,false)
theorem ajg(h:SmF f)(r:Int):xh f r=some (abb f r)∧oK f r=some (abb f r):=by
 unfold xh oK abb
 simp only[jn,acM,aba h,wF,afa h,aK]
 cases hv:qN f
 ·exact⟨rfl,rfl⟩
 ·have hf:=zk.1 hv
  rcases qh f r with⟨h1,_⟩|⟨a,n,b,h1,h2,h3⟩
  ·rw[h1];exact⟨rfl,rfl⟩
  ·have hn:n∈f.aB:=by rw[h1];simp
   have e1:elO f.aB (a.length:Int)=some n:=by rw[h1];exact kr a n b
   have e2:f.aB[a.length]?=some n:=by rw[h1];simp
   have e3:decide ((a.length:Int)<0)=false:=by simp
   have e4:decide (0≤(a.length:Int))=true:=by simp
   simp only[h2,e1,e3,e4,Int.toNat_natCast,e2,abN hf hn,wG hf h1,aK,cond_true,cond_false,decide_true,Bool.not_true]
   cases decide (n.Seq=0)<;>simp[noA]
theorem acN(e:α→α→Bool)(he:∀a b,e a b=true↔a=b):∀(l m:List α),(decide ((l.length:Int)=m.length)&&(l.zip m).all (λp=>e p.1 p.2))=true↔l=m:=by
 intro l
 induction l with
 |nil=>intro m;cases m<;>simp;omega
 |cons x l ih=>
  intro m
  cases m with
  |nil=>simp;omega
  |cons y m=>
   have:=ih m
   simp only[Bool.and_eq_true,decide_eq_true_eq]at this
   simp only[List.length_cons,List.zip_cons_cons,List.all_cons,Bool.and_eq_true,decide_eq_true_eq,List.cons.injEq,he,←this]
   constructor
   ·rintro⟨h1,h2,h3⟩;exact⟨h2,by omega,h3⟩
   ·rintro⟨h2,h1,h3⟩;exact⟨by omega,h2,h3⟩
theorem aeD(a b:bp):mO a b=true↔a=b:=by cases a;cases b;simp[mO]
theorem aeE(a b:bH):mN a b=true↔a=b:=by cases a;cases b;simp[mN]
theorem wH(a b:ai):o4 a b=true↔a=b:=by
 obtain⟨a1,a2,a3,a4,a5⟩:=a
 obtain⟨b1,b2,b3,b4,b5⟩:=b
 have h1:=acN mO aeD a4 b4
 have h2:=acN mN aeE a5 b5
 simp only[o4,acA,acB,Bool.and_eq_true]at h1 h2 ⊢
 rw[h1,h2]
 simp only[decide_eq_true_eq,beq_iff_eq,ai.mk.injEq]
theorem ahA(a b:aH):x3 a b=true↔a=b:=by
 obtain⟨a⟩:=a
 obtain⟨b⟩:=b
 have:=acN o4 wH a b
 simp only[x3,aH.mk.injEq]
 exact this
end Go.Proofs.YtjdopimopgpagaaGreat
namespace Go.Proofs.YtjdopimopgpagaaGreat
set_option linter.all false
open Go
def yd{α:Type}(P:List α→α→Bool):List α→List α→Bool
 |_,[]=>true
 |p,x::r=>P p x&&yd P (p++[x]) r
theorem ahB{α β:Type}{B:Int→α→(Unit→Option β)→Unit→Option β}{K:Unit→Option β}{L:List α}(P:List α→α→Bool)(a:Option β)(hB:∀(p:List α) x r Z,L=p++x::r→B (p.length:Int) x Z ()=bif P p x then Z ()else a):bJ L 0 B K ()=bif yd P [] L then K ()else a:=by
 have key:∀(l p:List α),L=p++l→bJ l p.length B K ()=bif yd P p l then K ()else a:=by
  intro l
  induction l with
  |nil=>intro p _;rfl
  |cons x r ih=>
   intro p h
   simp only[bJ,yd]
   rw[hB p x r _ h]
   have:=ih (p++[x]) (by simp[h])
   rw[List.length_append]at this
   have e:bJ r (p.length+1) B K ()=bif yd P (p++[x]) r then K ()else a:=this
   rw[e]
   cases P p x<;>rfl
 exact key L [] rfl
variable {f:aA}
theorem amJ(h:Vf f){a b:List aT}{n:aT}(hL:f.aB=a++n::b):abb f n.af=(bif decide (n.Seq=0)then(noA,false)else pU f n n.Seq):=by
 unfold abb
 have e2:f.aB[a.length]?=some n:=by rw[hL];simp
 have e3:decide ((a.length:Int)<0)=false:=by simp
 rw[zk.2 h,h.idx hL,Int.toNat_natCast,e2,e3];rfl
noncomputable def aeF(f:aA)(p:List aT)(n:aT):Bool:=(bif decide (n.Seq=0)then(noA,false)else pU f n n.Seq).2&&((eZ n.Database n.af).2&&(o4 (bif decide (n.Seq=0)then(noA,false)else pU f n n.Seq).1 (eZ n.Database n.af).1&&p.all (λe=>!pS (bx f) e.af n.af||x3 e.Database n.Database)))
noncomputable def agx(f:aA):Bool:=qN f&&(!decide ((0:Int)<(f.aF.length:Int))&&yd (aeF f) [] f.aB)
theorem abO(h:SmF f):eS f=some (agx f):=by
 unfold eS agx
 simp only[jn,aba h,zi h,aK]
 cases hv:qN f
 ·rfl
 ·have hf:=zk.1 hv
  simp only[cond_true,decide_true,Bool.not_true,cond_false,Bool.true_and]
  have hnr:(bx f).aG.length≤1000000:=by have:=hf.t.nr;omega
  cases decide ((0:Int)<(f.aF.length:Int))
  ·simp only[cond_false,Bool.not_false,Bool.true_and]
   rw[ahB (aeF f) (some false)]
   ·cases yd (aeF f) [] f.aB<;>rfl
   ·intro p n r Z hL
    have hn:n∈f.aB:=by rw[hL];simp
    have hlen:=hf.len
    have hp:p.length<f.aB.length:=by rw[hL];simp
    have hsm:=(hf.n n hn).2.2.sm
    simp only[abN hf hn,afx hsm,aK,acC]
    have hsl:sE f.aB 0 (p.length:Int)=some p:=by
     unfold sE
     rw[if_pos ⟨by omega,by omega,by omega⟩,hL]
     simp
    unfold aeF
    rw[hsl,aK]
    have hin:(bJ p 0 (λ(j2:Int) (e2:aT) (Z2:Unit→Option Bool) (sg:Unit)=>bnd (gU (bx f) e2.af n.af) λ(cc:Bool)=>(bif cc then bnd (kM e2.Database n.Database) λ(de:Bool)=>(bif !de then some false else Z2 ())else(bif false then some false else Z2 ()))) (λ(sg:Unit)=>Z ()) ()) =
      bif p.all (λe=>!pS (bx f) e.af n.af||x3 e.Database n.Database)then Z ()else some false:=by
     refine vR _ (some false) p (λj x hx W=>?_) 0
     rw[adq _ _ _ hnr,aK,amA,aK]
     cases pS (bx f) x.af n.af<;>cases x3 x.Database n.Database<;>rfl
    generalize (bif decide (n.Seq=0)then(noA,false)else pU f n n.Seq)=o
    generalize eZ n.Database n.af=q
    cases o.2
    ·rfl
    ·cases q.2
     ·rfl
     ·simp only[Bool.not_true,cond_false,Bool.true_and]
      cases o4 o.1 q.1
      ·rfl
      ·simp only[Bool.not_true,cond_false,Bool.true_and]
       exact hin
  ·rfl
def SzF(f:aA)(n:Nat):Prop:=f.Links.length≤100∧f.aB.length≤n∧f.aF.length≤n
theorem SzF.sm{n:Nat}(h:SzF f n)(hn:n≤1000):SmF f:=⟨by have:=h.1;omega,by have:=h.2.1;omega⟩
end Go.Proofs.YtjdopimopgpagaaGreat
namespace Go.Proofs.YtjdopimopgpagaaGreat
set_option linter.all false
open Go
theorem acO{d:aH}(hd:SmD d):eM d=some d:=by
 refine Ok.eq ?_
 unfold eM
 refine Ok.pQ (λP (m:List ai)=>m=P) ?_ _ rfl (λm hm=>Ok.s (by rw[hm]))
 rintro P x r m Z hL rfl hZ
 have hx:x∈d.ay:=by rw[hL];simp
 have hl:m.length<d.ay.length:=by rw[hL];simp
 have:=hd.1
 rw[ahn (hd.2 x hx).1,aK,aes (hd.2 x hx).2,aK,dP (by simp;omega),aK]
 exact hZ _ rfl
variable {f:aA}
theorem ajh(h:Vf f):iF f=some f:=by
 refine Ok.eq ?_
 unfold iF
 have hs:=h.sm
 rw[afC hs.1,aK]
 refine Ok.pQ (λP (m:List aT)=>m=P) ?_ _ rfl ?_
 ·rintro P x r m Z hL rfl hZ
  have hx:x∈f.aB:=by rw[hL];simp
  have hl:m.length<f.aB.length:=by rw[hL];simp
  have h1:=hs.2
  have hn:=h.n x hx
  rw[aes (abM hn.2.1),aK,acO hn.2.2.sm,aK,dP (by simp;omega),aK]
  exact hZ _ rfl
 ·rintro m rfl
  refine Ok.pQ (λP (m:List bB)=>m=P) ?_ _ rfl (λm hm=>Ok.s (by rw[hm]))
  rintro P x r m Z hL rfl hZ
  have hx:x∈f.aF:=by rw[hL];simp
  have hl:m.length<f.aF.length:=by rw[hL];simp
  have h1:=h.m
  rw[acO (h.g x hx).2.2.2.sm,aK,dP (by simp;omega),aK]
  exact hZ _ rfl
def fN(f:aA)(a:List aT)(n:aT)(b:List aT):aA:=aA.mk f.Links (a++n::b) f.aF
variable {a b:List aT}{n':aT}
theorem pV{n:aT}(hL:f.aB=a++n::b)(hr:n'.af=n.af)(hc:n'.aW=n.aW):bx (fN f a n' b)=bx f:=by
 unfold bx fN
 rw[hL];simp[hr,hc]
theorem aeG(r:Int):∀(l m:List aT) (j:Nat),l.map (·.af)=m.map (·.af)→uJ r l j=uJ r m j
 |[],[],_,_=>rfl
 |[],_::_,_,h=>by simp at h
 |_::_,[],_,h=>by simp at h
 |x::l,y::m,j,h=>by
  simp only[List.map_cons,List.cons.injEq]at h
  simp only[uJ,h.1,aeG r l m (j+1) h.2]
theorem aeH{n:aT}(hL:f.aB=a++n::b)(hr:n'.af=n.af)(r:Int):iA (fN f a n' b) r=iA f r:=by
 unfold iA fN
 exact aeG r _ _ 0 (by rw[hL];simp[hr])
theorem Vf.fN{f:aA}(h:Vf f){a b:List aT}{n n':aT}(hL:f.aB=a++n::b)(hr:n'.af=n.af)(hc:n'.aW=n.aW)(hn:(0≤n'.Seq∧n'.Seq≤1000000)∧jN n'.Claims=true∧Vd n'.Database):Vf (fN f a n' b):=by
 refine⟨by rw[pV hL hr hc];exact h.t,h.m,λx hx=>?_,λm hm=>?_⟩
 ·have hx:x∈a++n'::b:=hx
  rcases List.mem_append.1 hx with hx|hx
  ·exact h.n x (by rw[hL];simp[hx])
  ·rcases List.mem_cons.1 hx with rfl|hx
   ·exact hn
   ·exact h.n x (by rw[hL];simp[hx])
 ·have:=h.g m hm
  rw[aeH hL hr,aeH hL hr];exact this
theorem wI(f:aA)(a b:List aT)(n n':aT):Go.Proofs.YtjdopimopgpagaaGreat.fN (Go.Proofs.YtjdopimopgpagaaGreat.fN f a n b) a n' b=Go.Proofs.YtjdopimopgpagaaGreat.fN f a n' b:=rfl
variable {α:Type}
theorem uW(p:List α)(x y:α)(r:List α):iT (p++x::r) (p.length:Int) y=some (p++y::r):=by
 unfold iT
 rw[if_pos ⟨by omega,by simp;omega⟩]
 simp
def vS(f:aA)(n:aT):aT:=aT.mk n.af n.Seq n.aW n.Claims (rL n.Database (ofA (bx f) n.af n.Seq n.Claims)).1
theorem abP(h:Vf f){n:aT}(hn:n∈f.aB){seq:Int}(hs:1≤seq∧seq≤1000000):bZ (ofA (bx f) n.af seq n.Claims)=true:=by
 rw[zl h hn];simp[inB];omega
theorem apS(h:Vf f){n:aT}(hL:f.aB=a++n::b)(hs:1≤n.Seq):dI (aM.mk f) (a.length:Int)=some (aM.mk (fN f a (vS f n) b)):=by
 have hn:n∈f.aB:=by rw[hL];simp
 have hno:=h.n n hn
 have hv:=abP h hn (seq:=n.Seq) ⟨hs,hno.1.2⟩
 unfold dI
 have e0:decide (n.Seq=0)=false:=by simp;omega
 have e1:inB n.Seq 1 1000000=true:=by simp[inB];omega
 simp only[hL,kr,aK]
 simp only[abN h hn,e0,cond_false,pU,e1,cond_true,aK]
 rw[apK hno.2.2.sm (Va.sm hv),if_pos ⟨iY.2 hno.2.2,hv⟩,aK,uW,aK]
 rfl
theorem ye{n:aT}(hL:f.aB=a++n::b)(hl:f.aB.length≤100000)(n':aT):sS f (a.length:Int) n'=some (fN f a n' b):=by
 unfold sS
 rw[dP (by simp;omega),aK,List.nil_append,hL,kr,aK,uW,aK];rfl
theorem aat(h:Vf f){n:aT}(hL:f.aB=a++n::b){seq:Int}(hs:1≤seq∧seq≤1000000):me f (a.length:Int) seq=some (fN f a (vS f (aT.mk n.af seq n.aW n.Claims n.Database)) b):=by
 have hn:n∈f.aB:=by rw[hL];simp
 have hno:=h.n n hn
 have hv:=abP h hn hs
 have e1:inB seq 1 1000000=true:=by simp[inB];omega
 unfold me
 rw[show elO f.aB (a.length:Int)=some n by rw[hL];exact kr a n b,aK,wG h hL,aK]
 simp only[pU,e1,cond_true]
 rw[adg,if_pos ⟨iY.2 hno.2.2,hv⟩,aK,ye hL (by have:=h.len;omega),aK]
 rfl
theorem Vf.pub(h:Vf f){n n0:aT}(hL:f.aB=a++n0::b)(hr:n.af=n0.af)(hc:n.aW=n0.aW)(hs:1≤n.Seq∧n.Seq≤1000000)(hcl:jN n.Claims=true)(hd:Vd n.Database):Vf (Go.Proofs.YtjdopimopgpagaaGreat.fN f a (vS f n) b):=by
 refine h.fN hL hr hc ⟨⟨by have:=hs.1;show 0≤n.Seq;omega,hs.2⟩,hcl,?_⟩
 refine hd.put ?_
 have hn0:n0∈f.aB:=by rw[hL];simp
 rw[hr,adi h.t (nN hn0)]
 have e1:inB n.Seq 1 1000000=true:=by simp[inB];omega
 unfold jN at hcl
 rw[e1,hcl];rfl
def z7(f:aA)(n:aT):List bB:=(iB (bx f) n.af).map λx=>bB.mk n.af x n.Database
theorem amK(h:Vf f){n:aT}(hL:f.aB=a++n::b)(M:List bB)(hM:M.length≤5000):gW (aM.mk (aA.mk f.Links f.aB M)) (a.length:Int)=some (aM.mk (aA.mk f.Links f.aB (M++z7 f n))):=by
 have hn:n∈f.aB:=by rw[hL];simp
 have e1:elO f.aB (a.length:Int)=some n:=by rw[hL];exact kr a n b
 unfold gW
 have ht:dQ (aA.mk f.Links f.aB M)=some (bx f):=zi (f:=aA.mk f.Links f.aB M) h.sm
 simp only[e1,aK,ht,acy,jx.2 h.t,if_true,acO (h.n n hn).2.2.sm]
 have h23:=aa9 h.t (nN hn)
 rw[wE (λx:Int=>bB.mk n.af x n.Database) _ 0 M (by omega)]
 rfl
def gy(f:aA)(p q:List bB):aA:=aA.mk f.Links f.aB (p++q)
theorem aji{l:List α}{k:Int}(hk:0≤k∧k<l.length):∃p x q,l=p++x::q∧k=(p.length:Int):=by
 have h:k.toNat<l.length:=by omega
 refine⟨l.take k.toNat,l[k.toNat],l.drop (k.toNat+1),?_,by simp;omega⟩
 rw[←List.drop_eq_getElem_cons h,List.take_append_drop]
theorem amL(p:List α)(x:α)(q:List α)(hl:(p++x::q).length≤100000):aaG (p++x::q) (p.length:Int) (w64 ((p.length:Int)+1))=some (p++q):=by
 have hl2:p.length+q.length+1≤100000:=by simpa [Nat.add_assoc]using hl
 rw[cr (by omega) (by omega)]
 unfold aaG
 rw[if_pos ⟨by omega,by omega,by simp;omega⟩]
 rw[Int.toNat_natCast,show((p.length:Int)+1).toNat=p.length+1 by omega]
 simp
end Go.Proofs.YtjdopimopgpagaaGreat
namespace Go.Proofs.YtjdopimopgpagaaGreat
set_option linter.all false
open Go
variable {f:aA}{p q:List bB}{x:bB}
theorem Vf.drop(h:Vf f)(hL:f.aF=p++x::q):Vf (gy f p q):=by
 refine⟨h.t,?_,h.n,λm hm=>?_⟩
 ·have:=h.m;rw[hL]at this;show(p++q).length≤400;simp at this ⊢;omega
 ·have hm:m∈p++q:=hm
  exact h.g m (by rw[hL];rcases List.mem_append.1 hm with hm|hm<;>simp[hm])
theorem aeI(h:Vf f)(hL:f.aF=p++x::q):
  ∃g,eN (aM.mk f) (p.length:Int)=some (aM.mk g)∧nK (gy f p q) x=some g∧Vf g∧g.aF=p++q∧g.aB.length=f.aB.length:=by
 have hx:x∈f.aF:=by rw[hL];simp
 have hm:=h.m
 have h1:=h.drop hL
 obtain⟨g1,g2,g3,g4⟩:=h.g x hx
 have apQ:f.Links.length≤60:=h.t.nl
 have apP:=h.len
 have ht:bx (gy f p q)=bx f:=rfl
 have e1:elO f.aF (p.length:Int)=some x:=by rw[hL];exact kr p x q
 have e2:aaG f.aF (p.length:Int) (w64 ((p.length:Int)+1))=some (p++q):=by
  rw[hL];exact amL p x q (by rw[←hL];omega)
 unfold eN nK
 simp only[e1,e2,aK]
 rw[show aA.mk f.Links f.aB (p++q)=gy f p q from rfl,zi h1.sm,um h1.sm]
 have adA:kK (bx f) x.cQ x.To=some (pP (bx f) x.cQ x.To):=by
  rw[aiZ (bx f) x.cQ x.To (show f.Links.length≤1000000 by omega),jx.2 h.t];rfl
 simp only[aK,ht,adA,wz]
 cases hc:(pP (bx f) x.cQ x.To).2
 ·exact⟨_,rfl,rfl,h1,rfl,rfl⟩
 ·simp only[Bool.not_true,cond_false,acM,wF,aK]
  have hi:iA (gy f p q) x.To=iA f x.To:=rfl
  rw[hi]
  rcases qh f x.To with⟨h2,_⟩|⟨a,n,b,hN,h2,h3⟩
  ·omega
  ·have hn:n∈f.aB:=by rw[hN];simp
   have hno:=h.n n hn
   have hel:elO f.aB (a.length:Int)=some n:=by rw[hN];exact kr a n b
   have ajj:elO (gy f p q).aB (a.length:Int)=some n:=hel
   have lq:∀y,iT f.aB (a.length:Int) y=some (a++y::b):=λy=>by rw[hN];exact uW a n y b
   have hN1:(gy f p q).aB=a++n::b:=hN
   have hvd:=hno.2.2.merge g4
   simp only[h2,hel,ajj,aK,aja hno.2.2.sm,aas,iY.2 hno.2.2,iY.2 g4,and_self,if_true,lq,kr]
   rw[ye hN1 (by show f.aB.length≤_;omega),aK]
   generalize hd1:gX n.Database x.Database=d1 at hvd
   have hV2:Vf (fN (gy f p q) a (aT.mk n.af n.Seq n.aW n.Claims d1) b):=h1.fN hN1 rfl rfl ⟨hno.1,hno.2.1,hvd⟩
   have agy:(a++n::b).length=f.aB.length:=by rw[hN]
   have ny:∀n':aT,(fN (gy f p q) a n' b).aB.length=f.aB.length:=λn'=>by rw[←agy];simp[fN]
   rw[show aA.mk f.Links (a++aT.mk n.af n.Seq n.aW n.Claims d1::b) (p++q)=fN (gy f p q) a (aT.mk n.af n.Seq n.aW n.Claims d1) b from rfl]
   generalize hf2:fN (gy f p q) a (aT.mk n.af n.Seq n.aW n.Claims d1) b=f2 at hV2
   have hN2:f2.aB=a++aT.mk n.af n.Seq n.aW n.Claims d1::b:=by rw[←hf2];rfl
   have atc:aT.mk n.af n.Seq n.aW n.Claims d1∈f2.aB:=by rw[hN2];simp
   have hM2:f2.aF=p++q:=by rw[←hf2];rfl
   have apT:f2.aB.length=f.aB.length:=by rw[←hf2];exact ny _
   simp only[afx hvd.sm,sW,aK,abN hV2 atc,wG hV2 hN2,←h3,jn,acC,abF]
   rcases iC d1 n.af with⟨ha,hha,_,hfa⟩|⟨_,hfa⟩
   ·rw[hfa]
    have hav:=hvd.ok ha hha
    have ai1:1≤ha.Seq∧ha.Seq≤1000000:=by
     simp only[bZ,inB,Bool.and_eq_true,decide_eq_true_eq]at hav;omega
    simp only[cond_true,Bool.not_true,cond_false]
    rw[cr (n:=ha.Seq+1) (by omega) (by omega)]
    have akw:ha.Seq<1000000→∃g,(bnd (iT (a++aT.mk n.af n.Seq n.aW n.Claims d1::b) (a.length:Int) (aT.mk n.af (ha.Seq+1) n.aW n.Claims d1)) λ(l_3:List aT)=>bnd (dI (aM.mk (aA.mk f.Links l_3 (p++q))) (a.length:Int)) λ(di:aM)=>some di)=some (aM.mk g)∧(bnd (me f2 (a.length:Int) (ha.Seq+1)) λ(dU:aA)=>some dU)=some g∧Vf g∧g.aF=p++q∧g.aB.length=f.aB.length:=λhlt=>by
     have hV3:Vf (fN (gy f p q) a (aT.mk n.af (ha.Seq+1) n.aW n.Claims d1) b):=h1.fN hN1 rfl rfl ⟨⟨by show 0≤ha.Seq+1;omega,by show ha.Seq+1≤1000000;omega⟩,hno.2.1,hvd⟩
     have hp:=apS hV3 (a:=a) (b:=b) (n:=aT.mk n.af (ha.Seq+1) n.aW n.Claims d1) rfl (by show 1≤ha.Seq+1;omega)
     rw[uW,aK,show aA.mk f.Links (a++aT.mk n.af (ha.Seq+1) n.aW n.Claims d1::b) (p++q)=fN (gy f p q) a (aT.mk n.af (ha.Seq+1) n.aW n.Claims d1) b from rfl,hp,aK,aat hV2 hN2 (by omega),aK]
     have et3:bx (fN (gy f p q) a (aT.mk n.af (ha.Seq+1) n.aW n.Claims d1) b)=bx f:=pV hN1 rfl rfl
     have et2:bx f2=bx f:=by rw[←hf2];exact pV hN1 rfl rfl
     refine⟨_,rfl,?_,?_,rfl,ny _⟩
     ·rw[←hf2,wI,wI]
      unfold vS
      rw[et3]
      rw[hf2,et2]
     ·rw[wI]
      have:=h1.pub hN1 (n:=aT.mk n.af (ha.Seq+1) n.aW n.Claims d1) rfl rfl (by show 1≤ha.Seq+1∧ha.Seq+1≤1000000;omega) hno.2.1 hvd
      unfold vS at this ⊢
      rw[et3]
      exact this
    have stay:∃g,(some (aM.mk f2):Option aM)=some (aM.mk g)∧(some f2:Option aA)=some g∧Vf g∧g.aF=p++q∧g.aB.length=f.aB.length:=⟨f2,rfl,rfl,hV2,hM2,apT⟩
    have adB:∃g,(bif decide (ha.Seq<1000000)then(bnd (iT (a++aT.mk n.af n.Seq n.aW n.Claims d1::b) (a.length:Int) (aT.mk n.af (ha.Seq+1) n.aW n.Claims d1)) λ(l_3:List aT)=>bnd (dI (aM.mk (aA.mk f.Links l_3 (p++q))) (a.length:Int)) λ(di:aM)=>some di)else some (aM.mk f2))=some (aM.mk g)∧(bif decide ((1000000:Int)<ha.Seq+1)then some f2 else(bnd (me f2 (a.length:Int) (ha.Seq+1)) λ(dU:aA)=>some dU))=some g∧Vf g∧g.aF=p++q∧g.aB.length=f.aB.length:=by
     by_cases hlt:ha.Seq<1000000
     ·have e:¬1000000<ha.Seq+1:=by omega
      simp only[hlt,e,decide_true,decide_false,cond_true,cond_false]
      exact akw hlt
     ·have e:1000000<ha.Seq+1:=by omega
      simp only[hlt,e,decide_true,decide_false,cond_true,cond_false]
      exact stay
    by_cases hs0:n.Seq=0
    ·have e:¬0<n.Seq:=by omega
     simp only[hs0,Int.lt_irrefl,decide_true,decide_false,cond_true,cond_false,Bool.not_false]
     rw[hs0]at adB
     exact adB
    ·have e:0<n.Seq:=by omega
     simp only[hs0,e,decide_true,decide_false,cond_true,cond_false]
     generalize pU f2 (aT.mk n.af n.Seq n.aW n.Claims d1) n.Seq=ow
     cases ow.2
     ·exact adB
     ·simp only[Bool.not_true,cond_false,cond_true]
      cases o4 ha ow.1
      ·exact adB
      ·exact stay
   ·rw[hfa]
    exact⟨f2,rfl,rfl,hV2,hM2,apT⟩
end Go.Proofs.YtjdopimopgpagaaGreat
namespace Go.Proofs.YtjdopimopgpagaaGreat
set_option linter.all false
open Go
def gr(f:aA):aA:=match f.aF with
 |[]=>f
 |x::q=>(nK (gy f [] q) x).getD f
variable {f:aA}{q:List bB}{x:bB}
theorem tL(h:Vf f)(hL:f.aF=x::q):
  eN (aM.mk f) 0=some (aM.mk (gr f))∧nK (gy f [] q) x=some (gr f)∧Vf (gr f)∧(gr f).aF=q:=by
 obtain⟨g,h1,h2,h3,h4,_⟩:=aeI h (p:=[]) (q:=q) (x:=x) hL
 have e:gr f=g:=by unfold gr;rw[hL];simp only[h2];rfl
 rw[e]
 exact⟨h1,h2,h3,h4⟩
def drN:Nat→aA→aA
 |0,f=>f
 |n+1,f=>drN n (gr f)
def eU(f:aA):aA:=drN f.aF.length f
theorem afc(h:Vf f)(hL:f.aF=x::q):eU f=eU (gr f):=by
 unfold eU
 rw[hL,(tL h hL).2.2.2];rfl
theorem ahD:∀(n:Nat) (f:aA),Vf f→f.aF.length=n→Vf (drN n f)∧(drN n f).aF=[]
 |0,f,h,hn=>⟨h,List.eq_nil_of_length_eq_zero hn⟩
 |n+1,f,h,hn=>by
  cases hL:f.aF with
  |nil=>rw[hL]at hn;simp at hn
  |cons x q=>
   obtain⟨_,_,h3,h4⟩:=tL h hL
   refine ahD n (gr f) h3 ?_
   rw[h4];rw[hL]at hn;simpa using hn
theorem uo(h:Vf f):Vf (eU f)∧(eU f).aF=[]:=ahD _ f h rfl
theorem aeJ(h:Vf f):fq (aM.mk f)=some (aM.mk (eU f)):=by
 unfold fq
 have hm:=h.m
 refine gwhl (G:=λo=>o=some (aM.mk (eU f))) (λs:List aS×List aT×List bB=>Vf (aA.mk s.1 s.2.1 s.2.2)∧eU (aA.mk s.1 s.2.1 s.2.2)=eU f) (λs=>s.2.2.length) ⟨h,rfl⟩ (by simp only;omega) ?_
 rintro⟨a,b,c⟩ Z ⟨hv,he⟩ hZ
 simp only at hv he hZ ⊢
 cases c with
 |nil=>simp only[List.length_nil];rw[←he];rfl
 |cons x q=>
  have e:decide ((0:Int)<(((x::q).length:Nat):Int))=true:=by simp
  obtain⟨h1,_,h3,h4⟩:=tL hv (x:=x) (q:=q) rfl
  rw[e,cond_true,h1,aK]
  refine hZ _ ⟨h3,?_⟩ ?_
  ·rw[←afc hv rfl];exact he
  ·show(gr (aA.mk a b (x::q))).aF.length<_
   rw[h4];simp
theorem aeK(key:aS→Int):∀(l:List Int) (L:List aS),l.Nodup→(l.map λx=>(L.filter λk=>decide (key k=x)).length).sum≤L.length
 |[],L,_=>by simp
 |x::xs,L,h=>by
  rw[List.nodup_cons]at h
  have ih:=aeK key xs (L.filter λk=>!decide (key k=x)) h.2
  have e:(xs.map λy=>(L.filter λk=>decide (key k=y)).length)=xs.map λy=>((L.filter λk=>!decide (key k=x)).filter λk=>decide (key k=y)).length:=by
   refine List.map_congr_left λy hy=>?_
   rw[List.filter_filter]
   congr 1
   refine List.filter_congr λk _=>?_
   by_cases hk:key k=y
   ·have:y≠x:=λe=>h.1 (e▸hy)
    simp[hk,this]
   ·simp[hk]
  have e2:(L.filter λk=>decide (key k=x)).length+(L.filter λk=>!decide (key k=x)).length=L.length:=by
   clear ih e
   induction L with
   |nil=>rfl
   |cons k L ih=>by_cases hk:key k=x<;>simp[hk]<;>omega
  rw[List.map_cons,List.sum_cons,e]
  omega
variable {t:az}
theorem ajk(hv:Vt t)(r:Int):(iB t r).length≤(t.Links.filter λk=>decide (k.A=r)).length+(t.Links.filter λk=>decide (k.B=r)).length:=by
 have h2:(iB t r).Nodup:=(vK hv r).imp λh=>by omega
 have:=pR (a:=iB t r) (b:=((t.Links.filter λk=>decide (k.A=r)).map (·.B))++(t.Links.filter λk=>decide (k.B=r)).map (·.A)) h2 λx hx=>by
  have ha:=(fe hv).1 hx
  rw[lH]at ha
  obtain⟨l,hl,h|h⟩:=ha
  ·refine List.mem_append.2 (.inl (List.mem_map.2 ⟨l,List.mem_filter.2 ⟨hl,by simpa using h.1⟩,h.2⟩))
  ·refine List.mem_append.2 (.inr (List.mem_map.2 ⟨l,List.mem_filter.2 ⟨hl,by simpa using h.1⟩,h.2⟩))
 simpa using this
theorem sum_add{α:Type}(f g h:α→Nat):∀l:List α,(∀x∈l,f x≤g x+h x)→(l.map f).sum≤(l.map g).sum+(l.map h).sum
 |[],_=>by simp
 |x::l,hl=>by
  have:=sum_add f g h l λy hy=>hl y (by simp[hy])
  have:=hl x (by simp)
  simp only[List.map_cons,List.sum_cons];omega
theorem ajl(hv:Vt t){l:List Int}(hl:l.Nodup):(l.map λr=>(iB t r).length).sum≤120:=by
 have h1:=sum_add (λr=>(iB t r).length) (λr=>(t.Links.filter λk=>decide (k.A=r)).length) (λr=>(t.Links.filter λk=>decide (k.B=r)).length) l λr _=>ajk hv r
 have h2:=aeK (·.A) l t.Links hl
 have h3:=aeK (·.B) l t.Links hl
 have h4:=hv.nl
 omega
def qi(f:aA)(p:List aT):List bB:=p.flatMap (z7 f)
variable {p:List aT}
theorem adj(h:Vf f){q:List aT}(hL:f.aB=p++q):(qi f p).length≤120:=by
 have hn:(p.map (·.af)).Nodup:=by
  have:=h.asc
  rw[hL]at this
  have:=(List.pairwise_append.1 this).1
  exact List.pairwise_map.2 (this.imp λh=>by omega)
 have:=ajl h.t hn
 rw[List.map_map]at this
 have e:(qi f p).length=(p.map λn=>(z7 f n).length).sum:=by
  unfold qi
  rw[List.length_flatMap]
 rw[e]
 refine Nat.le_trans (Nat.le_of_eq ?_) this
 congr 1
 refine List.map_congr_left λn _=>?_
 simp[z7]
theorem aeL{r:Int}(h:r∈ids (bx f)):0≤iA f r:=by
 rcases qh f r with⟨_,h2⟩|⟨a,n,b,_,h2,_⟩
 ·exfalso
  unfold ids bx at h
  simp only[List.map_map]at h
  obtain⟨n,hn,e⟩:=List.mem_map.1 h
  exact h2 n hn e
 ·omega
theorem ahE(h:Vf f){n:aT}(hn:n∈f.aB){m:bB}(hm:m∈z7 f n):0≤iA f m.cQ∧0≤iA f m.To∧m.cQ≠m.To∧Vd m.Database:=by
 obtain⟨x,hx,rfl⟩:=List.mem_map.1 hm
 have ha:=(fe h.t).1 hx
 exact⟨aeL (nN hn),aeL (qf h.t ha),aem h.t ha,(h.n n hn).2.2⟩
theorem abQ(h:Vf f){q:List aT}(hL:f.aB=p++q):Vf (aA.mk f.Links f.aB (qi f p)):=by
 have hl:=adj h hL
 refine⟨h.t,by show(qi f p).length≤400;omega,h.n,λm hm=>?_⟩
 have hm:m∈qi f p:=hm
 obtain⟨n,hn,hm⟩:=List.mem_flatMap.1 hm
 exact ahE h (by rw[hL];simp[hn]) hm
theorem agz(h:Vf f)(hM:f.aF=[]):fP (aM.mk f)=some (aM.mk (aA.mk f.Links f.aB (qi f f.aB))):=by
 unfold fP
 refine as4 (G:=λo=>o=some (aM.mk (aA.mk f.Links f.aB (qi f f.aB)))) (λp (s:List aS×List aT×List bB)=>s=(f.Links,f.aB,qi f p)) ?_ _ (by rw[hM];rfl) (λs hs=>by rw[hs])
 rintro p n q s Z hL rfl hZ
 have hl:=adj h (p:=p) (q:=n::q) hL
 simp only
 rw[amK h hL (qi f p) (by omega),aK]
 exact hZ _ (by simp[qi])
end Go.Proofs.YtjdopimopgpagaaGreat
namespace Go.Proofs.YtjdopimopgpagaaGreat
set_option linter.all false
open Go
theorem filter_lt{α:Type}{p q:α→Bool}:∀{l:List α},(∀x∈l,p x=true→q x=true)→∀{a:α},a∈l→p a=false→q a=true→(l.filter p).length<(l.filter q).length
 |[],_,a,ha,_,_=>by cases ha
 |b::l,h,a,ha,h1,h2=>by
  have le:∀{l:List α},(∀x∈l,p x=true→q x=true)→(l.filter p).length≤(l.filter q).length:=λ{l}=>by
   induction l with
   |nil=>intro _;simp
   |cons c l ih=>
    intro hl
    have:=ih λx hx=>hl x (by simp[hx])
    cases hp:p c
    ·rw[List.filter_cons_of_neg (by simp[hp])]
     cases hq:q c
     ·rw[List.filter_cons_of_neg (by simp[hq])];exact this
     ·rw[List.filter_cons_of_pos hq,List.length_cons];omega
    ·rw[List.filter_cons_of_pos hp,List.filter_cons_of_pos (hl c (by simp) hp),List.length_cons,List.length_cons];omega
  have hr:∀x∈l,p x=true→q x=true:=λx hx=>h x (by simp[hx])
  have hle:=le hr
  rcases List.mem_cons.1 ha with e|ha
  ·subst e
   rw[List.filter_cons_of_neg (by simp[h1]),List.filter_cons_of_pos h2,List.length_cons];omega
  ·have ih:=filter_lt hr ha h1 h2
   cases hp:p b
   ·rw[List.filter_cons_of_neg (by simp[hp])]
    cases hq:q b
    ·rw[List.filter_cons_of_neg (by simp[hq])];exact ih
    ·rw[List.filter_cons_of_pos hq,List.length_cons];omega
   ·rw[List.filter_cons_of_pos hp,List.filter_cons_of_pos (h b (by simp) hp),List.length_cons,List.length_cons];omega
theorem amM{T:az}{Q:Int→Prop}{a b:Int}(h:Cn T [] a b)(ha:Q a)(hb:¬Q b):∃x y,Cn T [] a x∧Q x∧eT T x y=true∧¬Q y:=by
 induction h with
 |refl _=>exact absurd ha hb
 |@step x y hx hxy _ ih=>
  by_cases hq:Q x
  ·exact⟨x,y,hx,hq,hxy,hb⟩
  ·exact ih hq
theorem spread{T:az}(hv:Vt T)(P:Nat→Int→Prop)(h1:∀k i,P k i→P (k+1) i)(h2:∀k i j,P k i→eT T i j=true→P (k+1) j){i0:Int}(hi:i0∈ids T)(h0:P 0 i0):∀j,Cn T [] i0 j→P (ids T).length j:=by
 classical
 have hm:∀k,P k i0:=λk=>by
  induction k with
  |zero=>exact h0
  |succ k ih=>exact h1 k _ ih
 have key:∀k,(∀j,Cn T [] i0 j→P k j)∨k+1≤((ids T).filter λi=>decide (P k i)).length:=λk=>by
  induction k with
  |zero=>
   right
   exact List.length_pos_iff.2 (List.ne_nil_of_mem (List.mem_filter.2 ⟨hi,by simpa using h0⟩))
  |succ k ih=>
   rcases ih with ih|ih
   ·exact .inl λj hj=>h1 k j (ih j hj)
   ·by_cases hall:∀j,Cn T [] i0 j→P k j
    ·exact .inl λj hj=>h1 k j (hall j hj)
    ·right
     obtain⟨j,hj⟩:=Classical.not_forall.1 hall
     obtain⟨hj1,hj2⟩:=Classical.not_imp.1 hj
     obtain⟨x,y,hx,hxp,hxy,hyp⟩:=amM (Q:=P k) hj1 (hm k) hj2
     have hy:y∈ids T:=qf hv hxy
     have:=filter_lt (l:=ids T) (p:=λi=>decide (P k i)) (q:=λi=>decide (P (k+1) i)) (λz _ hz=>by
      have hz:P k z:=by simpa using hz
      simpa using h1 k z hz) hy (by simpa using hyp) (by simpa using h2 k x y hxp hxy)
     omega
 intro j hj
 rcases key (ids T).length with h|h
 ·exact h j hj
 ·have:=List.length_filter_le (λi=>decide (P (ids T).length i)) (ids T)
  omega
end Go.Proofs.YtjdopimopgpagaaGreat
namespace Go.Proofs.YtjdopimopgpagaaGreat
set_option linter.all false
open Go
noncomputable def vT(f:aA)(n:aT)(x:bB):aT:=match look (gX n.Database x.Database) n.af with
 |some a=>@ite _ ((n.Seq≠0∧a=ofA (bx f) n.af n.Seq n.Claims)∨1000000≤a.Seq) (Classical.propDecidable _) (aT.mk n.af n.Seq n.aW n.Claims (gX n.Database x.Database)) (vS f (aT.mk n.af (a.Seq+1) n.aW n.Claims (gX n.Database x.Database)))
 |none=>aT.mk n.af n.Seq n.aW n.Claims (gX n.Database x.Database)
variable {f:aA}{q:List bB}{x:bB}
theorem ahF(h:Vf f)(hL:f.aF=x::q):Vf (gr f)∧(gr f).aF=q:=
 ⟨(tL h hL).2.2.1,(tL h hL).2.2.2⟩
theorem apV(h:Vf f)(hL:f.aF=x::q):(eT (bx f) x.cQ x.To=false→gr f=gy f [] q)∧(eT (bx f) x.cQ x.To=true→∃a n b,f.aB=a++n::b∧n.af=x.To∧gr f=fN (gy f [] q) a (vT f n x) b):=by
 have hx:x∈f.aF:=by rw[hL];simp
 have h1:=h.drop (p:=[]) hL
 obtain⟨g1,g2,g3,g4⟩:=h.g x hx
 have apP:=h.len
 have ht:bx (gy f [] q)=bx f:=rfl
 have hA:=(tL h hL).2.1
 unfold nK at hA
 rw[um h1.sm,aK]at hA
 simp only[ht,wz,aK]at hA
 have hp:(pP (bx f) x.cQ x.To).2=eT (bx f) x.cQ x.To:=ac5 _ _ _
 rw[hp]at hA
 constructor
 ·intro hc
  rw[hc,Bool.not_false,cond_true]at hA
  exact(some_inj hA).symm
 ·intro hc
  rw[hc,Bool.not_true,cond_false]at hA
  simp only[wF,aK]at hA
  have hi:iA (gy f [] q) x.To=iA f x.To:=rfl
  rw[hi]at hA
  rcases qh f x.To with⟨h2,_⟩|⟨a,n,b,hN,h2,h3⟩
  ·omega
  ·have hn:n∈f.aB:=by rw[hN];simp
   have hno:=h.n n hn
   refine⟨a,n,b,hN,h3,?_⟩
   have ajj:elO (gy f [] q).aB (a.length:Int)=some n:=by show elO f.aB _=_;rw[hN];exact kr a n b
   have hN1:(gy f [] q).aB=a++n::b:=hN
   have hvd:=hno.2.2.merge g4
   simp only[h2,ajj,aK,aas,iY.2 hno.2.2,iY.2 g4,and_self,if_true]at hA
   rw[ye hN1 (by show f.aB.length≤_;omega),aK]at hA
   unfold vT
   generalize hd1:gX n.Database x.Database=d1 at hvd hA ⊢
   have hV2:Vf (fN (gy f [] q) a (aT.mk n.af n.Seq n.aW n.Claims d1) b):=h1.fN hN1 rfl rfl ⟨hno.1,hno.2.1,hvd⟩
   generalize hf2:fN (gy f [] q) a (aT.mk n.af n.Seq n.aW n.Claims d1) b=f2 at hV2 hA
   have hN2:f2.aB=a++aT.mk n.af n.Seq n.aW n.Claims d1::b:=by rw[←hf2];rfl
   have et2:bx f2=bx f:=by rw[←hf2];exact pV hN1 rfl rfl
   simp only[sW,aK,wG hV2 hN2,←h3,jn,abF]at hA
   unfold look
   rcases iC d1 n.af with⟨ha,hha,_,hfa⟩|⟨_,hfa⟩
   ·rw[hfa]at hA ⊢
    have hav:=hvd.ok ha hha
    have ai1:1≤ha.Seq∧ha.Seq≤1000000:=by
     simp only[bZ,inB,Bool.and_eq_true,decide_eq_true_eq]at hav;omega
    simp only[cond_true,Bool.not_true,cond_false]at hA ⊢
    rw[cr (n:=ha.Seq+1) (by omega) (by omega)]at hA
    have e1:(decide ((1000000:Int)<ha.Seq+1))=decide (1000000≤ha.Seq):=decide_eq_decide.2 (by omega)
    rw[e1]at hA
    have apW:ha.Seq<1000000→me f2 (a.length:Int) (ha.Seq+1)=some (fN (gy f [] q) a (vS f (aT.mk n.af (ha.Seq+1) n.aW n.Claims d1)) b):=λhlt=>by
     rw[aat hV2 hN2 (by omega)]
     rw[←hf2,wI]
     unfold vS
     rw[hf2,et2]
    have own2:pU f2 (aT.mk n.af n.Seq n.aW n.Claims d1) n.Seq=(bif inB n.Seq 1 1000000 then(ofA (bx f) n.af n.Seq n.Claims,true)else(noA,false)):=by
     unfold pU;rw[et2]
    rw[own2]at hA
    by_cases hs0:n.Seq=0
    ·by_cases hlt:1000000≤ha.Seq
     ·rw[if_pos (.inr hlt)]
      simp only[hs0,Int.lt_irrefl,decide_false,decide_true,cond_false,cond_true,hlt]at hA
      have:=some_inj hA
      rw[←this,←hf2]
     ·rw[if_neg (by rintro(⟨h5,_⟩|h5);exact h5 hs0;exact hlt h5)]
      simp only[hs0,Int.lt_irrefl,decide_false,decide_true,cond_false,cond_true,hlt]at hA
      rw[apW (by omega),aK]at hA
      exact(some_inj hA).symm
    ·have e2:0<n.Seq:=by have:=hno.1.1;omega
     have e3:inB n.Seq 1 1000000=true:=by have:=hno.1.2;simp[inB];omega
     rw[e3]at hA
     simp only[e2,decide_true,cond_true]at hA
     by_cases hsame:ha=ofA (bx f) n.af n.Seq n.Claims
     ·rw[if_pos (.inl ⟨hs0,hsame⟩)]
      rw[(wH _ _).2 hsame]at hA
      simp only[cond_true]at hA
      have:=some_inj hA
      rw[←this,←hf2]
     ·have hns:o4 ha (ofA (bx f) n.af n.Seq n.Claims)=false:=by
       cases hq:o4 ha (ofA (bx f) n.af n.Seq n.Claims)
       ·rfl
       ·exact absurd ((wH _ _).1 hq) hsame
      rw[hns]at hA
      by_cases hlt:1000000≤ha.Seq
      ·rw[if_pos (.inr hlt)]
       simp only[hlt,decide_true,cond_true,cond_false]at hA
       have:=some_inj hA
       rw[←this,←hf2]
      ·rw[if_neg (by rintro(⟨_,h5⟩|h5);exact hsame h5;exact hlt h5)]
       simp only[hlt,decide_false,cond_false]at hA
       rw[apW (by omega),aK]at hA
       exact(some_inj hA).symm
   ·rw[hfa]at hA ⊢
    simp only[Bool.not_false,cond_true,cond_false]at hA ⊢
    have:=some_inj hA
    rw[←this,←hf2]
theorem ajm(hf:Vf f):eX f=some (eU (aA.mk (eU f).Links (eU f).aB (qi (eU f) (eU f).aB)),0):=by
 unfold eX
 rw[aba hf.sm,zk.2 hf]
 obtain⟨h1,h2⟩:=uo hf
 have h3:=abQ h1 (p:=(eU f).aB) (q:=[]) (by simp)
 simp only[aK,cond_true,decide_true,Bool.not_true,cond_false,ajh hf,aeJ hf,agz h1 h2,aeJ h3]
end Go.Proofs.YtjdopimopgpagaaGreat
namespace Go.Proofs.YtjdopimopgpagaaGreat
set_option linter.all false
open Go
def leO(o p:Option ai):Prop:=match o,p with|none,_=>True|some _,none=>False|some x,some y=>iG x y=false
theorem pW(o:Option ai):leO o o:=by cases o with|none=>trivial|some x=>exact oM x
variable {o p q:Option ai}
theorem pX(h1:leO o p)(h2:leO p q):leO o q:=by
 cases o with
 |none=>trivial
 |some x=>
  cases p with
  |none=>cases h1
  |some y=>
   cases q with
   |none=>cases h2
   |some z=>exact aar h1 h2
def okO(o:Option ai):Prop:=∀a,o=some a→bZ a=true
theorem aeM(ho:okO o)(hp:okO p)(h1:leO o p)(h2:leO p o):o=p:=by
 cases o with
 |none=>
  cases p with
  |none=>rfl
  |some y=>cases h2
 |some x=>
  cases p with
  |none=>cases h1
  |some y=>rw[ajc (ho x rfl) (hp y rfl) h1 h2]
theorem akx(o p:Option ai):leO o (mxO o p):=by
 cases o with
 |none=>trivial
 |some x=>
  cases p with
  |none=>exact oM x
  |some y=>
   show iG x (mxA x y)=false
   unfold mxA
   cases h:iG y x
   ·exact oM x
   ·exact sZ h
theorem agA(o p:Option ai):leO p (mxO o p):=by
 cases p with
 |none=>trivial
 |some y=>
  cases o with
  |none=>exact oM y
  |some x=>
   show iG y (mxA x y)=false
   unfold mxA
   cases h:iG y x
   ·exact h
   ·exact oM y
theorem abR(o p:Option ai):mxO o p=o∨mxO o p=p:=by
 cases o with
 |none=>exact .inr rfl
 |some x=>
  cases p with
  |none=>exact .inl rfl
  |some y=>
   show some (mxA x y)=some x∨some (mxA x y)=some y
   unfold mxA
   cases iG y x
   ·exact .inl rfl
   ·exact .inr rfl
theorem apY(h1:leO o q)(h2:leO p q):leO (mxO o p) q:=by
 rcases abR o p with h|h<;>rw[h]<;>assumption
variable {a b:ai}
theorem ajo(h:b.Seq<a.Seq):iG a b=true:=by simp[iG,h]
theorem apZ(h:iG a b=false):a.Seq≤b.Seq:=by
 simp only[iG,Bool.or_eq_false_iff,decide_eq_false_iff_not]at h
 omega
def yf(f:aA)(i:Int):Option aT:=f.aB.find? λn=>decide (n.af=i)
noncomputable def lkF(f:aA)(i s:Int):Option ai:=match yf f i with|some n=>look n.Database s|none=>none
variable {f:aA}{i:Int}
theorem mJ(h:Vf f){n:aT}:yf f i=some n↔n∈f.aB∧n.af=i:=by
 constructor
 ·intro hf
  exact⟨List.mem_of_find?_eq_some hf,by simpa using List.find?_some hf⟩
 ·rintro⟨h1,h2⟩
  have zf:=h.asc
  have:∀l:List aT,l.Pairwise (λa b=>a.af<b.af)→n∈l→l.find? (λn=>decide (n.af=i))=some n:=λl=>by
   induction l with
   |nil=>intro _ h;cases h
   |cons b l ih=>
    intro hp hm
    rw[List.pairwise_cons]at hp
    rcases List.mem_cons.1 hm with e|hm
    ·subst e;rw[List.find?_cons_of_pos (by simpa using h2)]
    ·have:=hp.1 n hm
     rw[List.find?_cons_of_neg (by simp;omega),ih hp.2 hm]
  exact this _ zf h1
theorem qj(h:Vf f){n:aT}(hn:n∈f.aB)(s:Int):lkF f n.af s=look n.Database s:=by
 unfold lkF
 rw[(mJ h).2 ⟨hn,rfl⟩]
theorem adC(h:Vf f)(i s:Int):okO (lkF f i s):=by
 intro a ha
 unfold lkF at ha
 cases hn:yf f i with
 |none=>rw[hn]at ha;cases ha
 |some n=>
  rw[hn]at ha
  obtain⟨h1,_⟩:=(mJ h).1 hn
  have hd:=(h.n n h1).2.2
  exact hd.ok a ((fE hd).1 ha).1
theorem aeN(h:Vf f){n m:aT}(hn:n∈f.aB)(hm:m∈f.aB)(he:n.af=m.af):n=m:=by
 have h1:=(mJ h (i:=m.af)).2 ⟨hn,he⟩
 have h2:=(mJ h (i:=m.af)).2 ⟨hm,rfl⟩
 rw[h1]at h2
 exact Option.some.inj h2
theorem afE(hi:i∈ids (bx f)):∃n∈f.aB,n.af=i:=by
 simp only[ids,bx,List.map_map,List.mem_map]at hi
 obtain⟨n,hn,h⟩:=hi
 exact⟨n,hn,h⟩
noncomputable def rM(f:aA)(n:aT):ai:=ofA (bx f) n.af n.Seq n.Claims
def Old(B:Int)(f:aA)(a:ai):Prop:=a.Seq≤B∨∃n∈f.aB,a=ofA (bx f) n.af a.Seq n.Claims∧a.Seq≤n.Seq
structure Rdy(B:Int)(f:aA):Prop where
 bd:0≤B∧B≤900000
 v:Vf f
 own:∀n∈f.aB,1≤n.Seq∧n.Seq≤B+1∧look n.Database n.af=some (rM f n)
 old:∀n∈f.aB,∀s a,look n.Database s=some a→Old B f a
 mol:∀m∈f.aF,∀s a,look m.Database s=some a→Old B f a
variable {B:Int}
theorem Rdy.ate(h:Rdy B f){n:aT}(hn:n∈f.aB):lkF f n.af n.af=some (rM f n):=by
 rw[qj h.v hn];exact(h.own n hn).2.2
structure Dl(B:Int)(f g:aA)(x:bB):Prop where
 rd:Rdy B g
 top:bx g=bx f
 len:g.aB.length=f.aB.length
 far:∀i s,i≠x.To→lkF g i s=lkF f i s
 off:eT (bx f) x.cQ x.To=false→∀i s,lkF g i s=lkF f i s
 on:eT (bx f) x.cQ x.To=true→∀s,s≠x.To→lkF g x.To s=mxO (lkF f x.To s) (look x.Database s)
 self:eT (bx f) x.cQ x.To=true→leO (look x.Database x.To) (lkF f x.To x.To)→lkF g x.To x.To=lkF f x.To x.To
 bump:eT (bx f) x.cQ x.To=true→leO (lkF f x.To x.To) (lkF g x.To x.To)∧leO (look x.Database x.To) (lkF g x.To x.To)
theorem aeO(h:Rdy B f){x:bB}{q:List bB}(hL:f.aF=x::q):Dl B f (gr f) x∧(gr f).aF=q:=by
 obtain⟨hv1,hm1⟩:=ahF h.v hL
 have hbd:=h.bd
 obtain⟨d1,d2⟩:=apV h.v hL
 have hx:x∈f.aF:=by rw[hL];simp
 obtain⟨_,_,_,hxd⟩:=h.v.g x hx
 refine⟨?_,hm1⟩
 cases hc:eT (bx f) x.cQ x.To
 ·have e:=d1 hc
  have ht:bx (gy f [] q)=bx f:=rfl
  have hlk:∀i s,lkF (gy f [] q) i s=lkF f i s:=λi s=>rfl
  rw[e]at hv1 ⊢
  refine⟨⟨h.bd,hv1,h.own,h.old,λm hm=>h.mol m (by rw[hL];exact List.mem_cons_of_mem _ hm)⟩,rfl,rfl,λi s _=>rfl,λ_ i s=>rfl,λhh=>?_,λhh=>?_,λhh=>?_⟩<;>rw[hc]at hh<;>cases hh
 ·obtain⟨a,n,b,hN,hnr,e⟩:=d2 hc
  have hn:n∈f.aB:=by rw[hN];simp
  obtain⟨o1,o2,o3⟩:=h.own n hn
  have hnd:=(h.v.n n hn).2.2
  have hD:Vd (gX n.Database x.Database):=hnd.merge hxd
  have acP:∀s,look (gX n.Database x.Database) s=mxO (look n.Database s) (look x.Database s):=λs=>amI hnd hxd s
  have ap0:look (gX n.Database x.Database) n.af=some (rM f n)∨∃y,look x.Database n.af=some y∧look (gX n.Database x.Database) n.af=some y∧iG y (rM f n)=true:=by
   rw[acP,o3]
   cases hy:look x.Database n.af with
   |none=>exact .inl rfl
   |some y=>
    show some (mxA (rM f n) y)=_∨_
    unfold mxA
    cases hv:iG y (rM f n)
    ·exact .inl rfl
    ·exact .inr ⟨y,rfl,by show some (mxA (rM f n) y)=some y;unfold mxA;rw[hv];rfl,hv⟩
  have gen:∀(n':aT),vT f n x=n'→n'.af=n.af→n'.aW=n.aW→n'.Claims=n.Claims→n.Seq≤n'.Seq→n'.Seq≤B+1→look n'.Database n.af=some (ofA (bx f) n.af n'.Seq n.Claims)→
    (∀s,s≠n.af→look n'.Database s=mxO (look n.Database s) (look x.Database s))→
    Rdy B (gr f)∧bx (gr f)=bx f∧(gr f).aB.length=f.aB.length∧(∀i s,i≠x.To→lkF (gr f) i s=lkF f i s)∧∀s,lkF (gr f) x.To s=look n'.Database s:=by
   intro n' hh r1 r2 r3 r4 r5 r6 r7
   rw[hh]at e
   have hN1:(gy f [] q).aB=a++n::b:=hN
   have zm:bx (gr f)=bx f:=by rw[e];exact pV hN1 r1 r2
   have ahG:(gr f).aB=a++n'::b:=by rw[e];rfl
   have hin:∀m,m∈(gr f).aB↔m=n'∨(m∈f.aB∧m.af≠n.af):=λm=>by
    rw[ahG]
    have zf:=h.v.asc
    rw[hN]at zf
    obtain⟨p1,p2,p3⟩:=List.pairwise_append.1 zf
    rw[List.pairwise_cons]at p2
    simp only[List.mem_append,List.mem_cons]
    rw[hN]
    simp only[List.mem_append,List.mem_cons]
    constructor
    ·rintro(hm|hm|hm)
     ·exact .inr ⟨.inl hm,by have:=p3 m hm n (by simp);omega⟩
     ·exact .inl hm
     ·exact .inr ⟨.inr (.inr hm),by have:=p2.1 m hm;omega⟩
    ·rintro(hm|⟨hm|hm|hm,hr⟩)
     ·exact .inr (.inl hm)
     ·exact .inl hm
     ·rw[hm]at hr;exact absurd rfl hr
     ·exact .inr (.inr hm)
   have hold:∀y,Old B f y→Old B (gr f) y:=λy hy=>by
    rcases hy with hy|⟨m,hm,hy1,hy2⟩
    ·exact .inl hy
    ·right
     by_cases hr:m.af=n.af
     ·have:=aeN h.v hm hn hr
      subst this
      exact⟨n',(hin n').2 (.inl rfl),by rw[zm,r1,r3];exact hy1,by omega⟩
     ·exact⟨m,(hin m).2 (.inr ⟨hm,hr⟩),by rw[zm];exact hy1,hy2⟩
   have hn'd:Vd n'.Database:=(hv1.n n' ((hin n').2 (.inl rfl))).2.2
   refine⟨⟨h.bd,hv1,λm hm=>?_,λm hm s y hy=>?_,λm hm s y hy=>?_⟩,zm,by rw[ahG,hN];simp,λi s hi=>?_,λs=>?_⟩
   ·rcases(hin m).1 hm with rfl|⟨hm,_⟩
    ·refine⟨by omega,r5,?_⟩
     unfold rM
     rw[zm,r1,r3];exact r6
    ·obtain⟨q1,q2,q3⟩:=h.own m hm
     refine⟨q1,q2,?_⟩
     unfold rM
     rw[zm];exact q3
   ·rcases(hin m).1 hm with rfl|⟨hm,_⟩
    ·by_cases hs:s=n.af
     ·rw[hs,r6]at hy
      have:=Option.some.inj hy
      subst this
      exact .inr ⟨m,hm,by rw[zm,r1,r3];rfl,by show m.Seq≤m.Seq;omega⟩
     ·rw[r7 s hs]at hy
      rcases abR (look n.Database s) (look x.Database s)with h1|h1
      ·rw[h1]at hy;exact hold y (h.old n hn s y hy)
      ·rw[h1]at hy;exact hold y (h.mol x hx s y hy)
    ·exact hold y (h.old m hm s y hy)
   ·rw[hm1]at hm
    exact hold y (h.mol m (by rw[hL];exact List.mem_cons_of_mem _ hm) s y hy)
   ·have:yf (gr f) i=yf f i:=by
     cases hq:yf f i with
     |some m=>
      obtain⟨m1,m2⟩:=(mJ h.v).1 hq
      exact(mJ hv1).2 ⟨(hin m).2 (.inr ⟨m1,by rw[m2,hnr];exact hi⟩),m2⟩
     |none=>
      cases hq2:yf (gr f) i with
      |none=>rfl
      |some m=>
       exfalso
       obtain⟨m1,m2⟩:=(mJ hv1).1 hq2
       rcases(hin m).1 m1 with rfl|⟨m3,_⟩
       ·rw[r1,hnr]at m2;exact hi m2.symm
       ·rw[(mJ h.v).2 ⟨m3,m2⟩]at hq;cases hq
    unfold lkF
    rw[this]
   ·have:=qj hv1 ((hin n').2 (.inl rfl)) s
    rw[r1,hnr]at this;exact this
  have acQ:∀s,lkF f x.To s=look n.Database s:=λs=>by rw[←hnr];exact qj h.v hn s
  have ap1:eT (bx f) x.cQ x.To=false→∀i s,lkF (gr f) i s=lkF f i s:=λhh=>by rw[hc]at hh;cases hh
  rcases ap0 with hme|⟨y,hy1,hy2,hy3⟩
  ·have hh:vT f n x=aT.mk n.af n.Seq n.aW n.Claims (gX n.Database x.Database):=by
    unfold vT
    rw[hme]
    exact if_pos (.inl ⟨by omega,rfl⟩)
   obtain⟨g1,g2,g3,g4,g5⟩:=gen _ hh rfl rfl rfl (Int.le_refl _) o2 hme λs _=>acP s
   have hsame:lkF (gr f) x.To x.To=lkF f x.To x.To:=by
    rw[g5,acQ,←hnr]
    exact hme.trans o3.symm
   refine⟨g1,g2,g3,g4,ap1,λ_ s hs=>by rw[g5,acQ];exact acP s,λ_ _=>hsame,λ_=>?_⟩
   rw[hsame]
   refine⟨pW _,?_⟩
   have h1:=agA (look n.Database n.af) (look x.Database n.af)
   rw[←acP,hme,←o3,hnr,←acQ]at h1
   exact h1
  ·have hyv:bZ y=true:=hxd.ok y ((fE hxd).1 hy1).1
   have hyr:y.af=n.af:=((fE hxd).1 hy1).2
   have hne:y≠rM f n:=λhe=>by rw[he,oM]at hy3;cases hy3
   have hge:n.Seq≤y.Seq:=by
    have:=apZ (sZ hy3)
    exact this
   have hys:y.Seq≤B:=by
    rcases h.mol x hx _ _ hy1 with h1|⟨m,hm,h1,h2⟩
    ·exact h1
    ·exfalso
     have hmr:m.af=n.af:=by rw[←hyr,h1];rfl
     have:=aeN h.v hm hn hmr
     subst this
     have hsq:y.Seq=m.Seq:=by omega
     rw[hsq]at h1
     exact hne h1
   have hV2:bZ (ofA (bx f) n.af (y.Seq+1) n.Claims)=true:=abP h.v hn (by omega)
   have hh:vT f n x=vS f (aT.mk n.af (y.Seq+1) n.aW n.Claims (gX n.Database x.Database)):=by
    unfold vT
    rw[hy2]
    refine if_neg ?_
    rintro(⟨_,h1⟩|h1)
    ·exact hne h1
    ·omega
   have hlp:∀s,look (vS f (aT.mk n.af (y.Seq+1) n.aW n.Claims (gX n.Database x.Database))).Database s=if s=n.af then some (mx (look (gX n.Database x.Database) s) (ofA (bx f) n.af (y.Seq+1) n.Claims))else look (gX n.Database x.Database) s:=λs=>aeB hD hV2 s
   have hnew:iG (ofA (bx f) n.af (y.Seq+1) n.Claims) y=true:=ajo (by show y.Seq<y.Seq+1;omega)
   have hown:look (vS f (aT.mk n.af (y.Seq+1) n.aW n.Claims (gX n.Database x.Database))).Database n.af=some (ofA (bx f) n.af (y.Seq+1) n.Claims):=by
    rw[hlp,if_pos rfl,hy2]
    have hnw:mI (ofA (bx f) n.af (y.Seq+1) n.Claims) y=true:=by
     unfold mI
     rw[hV2,hyv,hnew,hyr]
     simp[ofA]
    show some (bif mI (ofA (bx f) n.af (y.Seq+1) n.Claims) y then _ else y)=_
    rw[hnw];rfl
   obtain⟨g1,g2,g3,g4,g5⟩:=gen _ hh rfl rfl rfl (by show n.Seq≤y.Seq+1;omega) (by show y.Seq+1≤B+1;omega) hown λs hs=>by rw[hlp,if_neg hs];exact acP s
   refine⟨g1,g2,g3,g4,ap1,λ_ s hs=>by rw[g5,hlp,if_neg (by rw[hnr];exact hs),acQ];exact acP s,λ_ hle=>?_,λ_=>?_⟩
   ·exfalso
    rw[acQ,←hnr,hy1,o3]at hle
    have hle:iG y (rM f n)=false:=hle
    rw[hy3]at hle;cases hle
   ·rw[g5,acQ,←hnr,hown,hy1,o3]
    constructor
    ·exact aar (sZ hy3) (sZ hnew)
    ·exact sZ hnew
end Go.Proofs.YtjdopimopgpagaaGreat
namespace Go.Proofs.YtjdopimopgpagaaGreat
set_option linter.all false
open Go
variable {B:Int}
section
variable {f g:aA}{x:bB}
theorem Dl.mono(h:Dl B f g x)(i s:Int):leO (lkF f i s) (lkF g i s):=by
 by_cases hi:i=x.To
 ·cases hc:eT (bx f) x.cQ x.To
  ·rw[h.off hc];exact pW _
  ·by_cases hs:s=x.To
   ·rw[hi,hs];exact(h.bump hc).1
   ·rw[hi,h.on hc s hs];exact akx _ _
 ·rw[h.far i s hi];exact pW _
theorem Dl.ur(h:Dl B f g x)(hc:eT (bx f) x.cQ x.To=true)(s:Int):leO (look x.Database s) (lkF g x.To s):=by
 by_cases hs:s=x.To
 ·rw[hs];exact(h.bump hc).2
 ·rw[h.on hc s hs];exact agA _ _
end
theorem zn(I:aA→Prop)(hI:∀f x q,Rdy B f→f.aF=x::q→Dl B f (gr f) x→(gr f).aF=q→I f→I (gr f)):∀(n:Nat) (f:aA),Rdy B f→f.aF.length=n→I f→Rdy B (drN n f)∧I (drN n f)
 |0,f,h,_,hi=>⟨h,hi⟩
 |n+1,f,h,hn,hi=>by
  cases hL:f.aF with
  |nil=>rw[hL]at hn;simp at hn
  |cons x q=>
   obtain⟨h1,h2⟩:=aeO h hL
   refine zn I hI n (gr f) h1.rd ?_ (hI f x q h hL h1 h2 hi)
   rw[h2];rw[hL]at hn;simpa using hn
theorem qO{f:aA}(h:Rdy B f)(I:aA→Prop)(hI:∀f x q,Rdy B f→f.aF=x::q→Dl B f (gr f) x→(gr f).aF=q→I f→I (gr f))(hi:I f):I (eU f):=(zn I hI _ f h rfl hi).2
theorem abc{f:aA}(h:Rdy B f):Rdy B (eU f):=(zn (λ_=>True) (λ_ _ _ _ _ _ _ _=>trivial) _ f h rfl trivial).1
theorem adk{f:aA}(h:Rdy B f):bx (eU f)=bx f:=qO h (λg=>bx g=bx f) (λ_ _ _ _ _ d _ hi=>by rw[d.top];exact hi) rfl
theorem agB{f:aA}(h:Rdy B f)(i s:Int):leO (lkF f i s) (lkF (eU f) i s):=qO h (λg=>leO (lkF f i s) (lkF g i s)) (λ_ _ _ _ _ d _ hi=>pX hi (d.mono i s)) (pW _)
theorem agC{f:aA}(h:Rdy B f){m:bB}(hm:m∈f.aF)(hc:eT (bx f) m.cQ m.To=true)(s:Int):leO (look m.Database s) (lkF (eU f) m.To s):=by
 have:=qO h (λg=>bx g=bx f∧(m∈g.aF∨leO (look m.Database s) (lkF g m.To s))) (λg x q _ hL d hq hi=>by
  refine⟨by rw[d.top];exact hi.1,?_⟩
  rcases hi.2 with h1|h1
  ·rw[hL]at h1
   rcases List.mem_cons.1 h1 with h1|h1
   ·subst h1
    right
    exact d.ur (by rw[hi.1];exact hc) s
   ·left;rw[hq];exact h1
  ·exact .inr (pX h1 (d.mono _ _))) ⟨rfl,.inl hm⟩
 rcases this.2 with h1|h1
 ·rw[(uo h.v).2]at h1;cases h1
 ·exact h1
structure Bd(T:az)(c s:Int)(W:Option ai)(f:aA):Prop where
 t:bx f=T
 n:∀i,Cn T [] c i→leO (lkF f i s) W
 m:∀m∈f.aF,Cn T [] c m.cQ→leO (look m.Database s) W
 o:Cn T [] c s→lkF f s s=W
theorem Bd.step{T:az}{c s:Int}{W:Option ai}{f g:aA}{x:bB}{q:List bB}(h:Bd T c s W f)(hL:f.aF=x::q)(d:Dl B f g x)(hq:g.aF=q):Bd T c s W g:=by
 have hx:x∈f.aF:=by rw[hL];simp
 have key:∀i,Cn T [] c i→leO (lkF g i s) W∧(i=s→lkF g i s=W):=λi hi=>by
  by_cases hix:i=x.To
  ·cases hc:eT (bx f) x.cQ x.To
   ·rw[d.off hc];exact⟨h.n i hi,λhe=>by rw[he];exact h.o (by rw[←he];exact hi)⟩
   ·have hf:Cn T [] c x.cQ:=by
     rw[h.t]at hc
     exact .step hi (by rw[hix];exact rK hc) (by simp)
    by_cases hs:s=x.To
    ·have hcs:Cn T [] c s:=by rw[hs,←hix];exact hi
     have hle:leO (look x.Database x.To) (lkF f x.To x.To):=by
      rw[←hs,h.o hcs];exact h.m x hx hf
     have:lkF g i s=W:=by
      rw[hix,hs,d.self hc hle,←hs];exact h.o hcs
     exact⟨by rw[this];exact pW _,λ_=>this⟩
    ·refine⟨?_,λhe=>absurd (he.symm.trans hix) hs⟩
     rw[hix,d.on hc s hs]
     exact apY (h.n _ (by rw[←hix];exact hi)) (h.m x hx hf)
  ·rw[d.far i s hix];exact⟨h.n i hi,λhe=>by rw[he];exact h.o (by rw[←he];exact hi)⟩
 exact⟨by rw[d.top];exact h.t,λi hi=>(key i hi).1,λm hm hc=>h.m m (by rw[hL];rw[hq]at hm;exact List.mem_cons_of_mem _ hm) hc,λhcs=>(key s hcs).2 rfl⟩
structure Be(T:az)(c s:Int)(M:Option ai)(f:aA):Prop where
 t:bx f=T
 n:∀i,Cn T [] c i→leO (lkF f i s) M∨leO (lkF f i s) (lkF f s s)
 m:∀m∈f.aF,Cn T [] c m.cQ→leO (look m.Database s) M∨leO (look m.Database s) (lkF f s s)
theorem Be.step{T:az}{c s:Int}{M:Option ai}{f g:aA}{x:bB}{q:List bB}(h:Be T c s M f)(hL:f.aF=x::q)(d:Dl B f g x)(hq:g.aF=q):Be T c s M g:=by
 have hx:x∈f.aF:=by rw[hL];simp
 have up:∀{o:Option ai},leO o M∨leO o (lkF f s s)→leO o M∨leO o (lkF g s s):=λho=>ho.imp id λh1=>pX h1 (d.mono s s)
 refine⟨by rw[d.top];exact h.t,λi hi=>?_,λm hm hc=>up (h.m m (by rw[hL];rw[hq]at hm;exact List.mem_cons_of_mem _ hm) hc)⟩
 by_cases hix:i=x.To
 ·cases hc:eT (bx f) x.cQ x.To
  ·have:=up (h.n i hi)
   rw[d.off hc i s];exact this
  ·have hf:Cn T [] c x.cQ:=by
    rw[h.t]at hc
    exact .step hi (by rw[hix];exact rK hc) (by simp)
   by_cases hs:s=x.To
   ·rw[hix,←hs];exact .inr (pW _)
   ·rw[hix,d.on hc s hs]
    rcases abR (lkF f x.To s) (look x.Database s)with h1|h1
    ·rw[h1];exact up (h.n _ (by rw[←hix];exact hi))
    ·rw[h1];exact up (h.m x hx hf)
 ·rw[d.far i s hix];exact up (h.n i hi)
def ajp(f:aA):aA:=aA.mk f.Links f.aB (qi f f.aB)
noncomputable def prT(f:aA):aA:=eU (ajp f)
theorem z8{f:aA}{m:bB}(hv:Vf f):m∈(ajp f).aF↔∃n∈f.aB,m.cQ=n.af∧m.Database=n.Database∧eT (bx f) n.af m.To=true:=by
 show m∈f.aB.flatMap (z7 f)↔_
 rw[List.mem_flatMap]
 constructor
 ·rintro⟨n,hn,hm⟩
  obtain⟨y,hy,rfl⟩:=List.mem_map.1 hm
  exact⟨n,hn,rfl,rfl,(fe hv.t).1 hy⟩
 ·rintro⟨n,hn,h1,h2,h3⟩
  refine⟨n,hn,List.mem_map.2 ⟨m.To,(fe hv.t).2 h3,?_⟩⟩
  rw[←h1,←h2]
theorem vU{f:aA}(h:Rdy B f):Rdy B (ajp f):=by
 refine⟨h.bd,abQ h.v (p:=f.aB) (q:=[]) (by simp),h.own,h.old,λm hm s a ha=>?_⟩
 obtain⟨n,hn,_,h2,_⟩:=(z8 h.v).1 hm
 rw[h2]at ha
 exact h.old n hn s a ha
theorem atf{f:aA}(h:Rdy B f):Rdy B (prT f):=abc (vU h)
theorem ap2{f:aA}(h:Rdy B f):bx (prT f)=bx f:=(adk (vU h)).trans rfl
theorem amN{f:aA}(h:Rdy B f)(i s:Int):leO (lkF f i s) (lkF (prT f) i s):=agB (vU h) i s
theorem amO{f:aA}(h:Rdy B f):(prT f).aF=[]:=(uo (vU h).v).2
theorem amP{f:aA}(h:Rdy B f){i j:Int}(hc:eT (bx f) i j=true)(s:Int):leO (lkF f i s) (lkF (prT f) j s):=by
 obtain⟨n,hn,hni⟩:=afE (qf h.v.t (rK hc))
 have:=agC (vU h) (m:=bB.mk n.af j n.Database) ((z8 h.v).2 ⟨n,hn,rfl,rfl,by rw[hni];exact hc⟩) (by show eT (bx f) n.af j=true;rw[hni];exact hc) s
 rw[←hni,qj h.v hn];exact this
variable {T:az}{W:Option ai}
theorem Bd.round{c s:Int}{f:aA}(hr:Rdy B f)(h:Bd T c s W f):Bd T c s W (prT f):=by
 refine qO (vU hr) (Bd T c s W) (λg x q _ hL d hq hi=>hi.step hL d hq) ⟨h.t,h.n,λm hm hc=>?_,h.o⟩
 obtain⟨n,hn,h1,h2,_⟩:=(z8 hr.v).1 hm
 rw[h2,←qj hr.v hn,←h1];exact h.n _ hc
theorem Be.round{c s:Int}{M:Option ai}{f:aA}(hr:Rdy B f)(h:Be T c s M f):Be T c s M (prT f):=by
 refine qO (vU hr) (Be T c s M) (λg x q _ hL d hq hi=>hi.step hL d hq) ⟨h.t,h.n,λm hm hc=>?_⟩
 obtain⟨n,hn,h1,h2,_⟩:=(z8 hr.v).1 hm
 rw[h2,←qj hr.v hn,←h1];exact h.n _ hc
noncomputable def itT:Nat→aA→aA
 |0,f=>f
 |k+1,f=>prT (itT k f)
theorem nq{f:aA}(h:Rdy B f):∀k,Rdy B (itT k f)
 |0=>h
 |k+1=>atf (nq h k)
theorem uq{f:aA}(h:Rdy B f):∀k,bx (itT k f)=bx f
 |0=>rfl
 |k+1=>(ap2 (nq h k)).trans (uq h k)
theorem ahH(f:aA)(k:Nat):∀l,itT (k+l) f=itT l (itT k f)
 |0=>rfl
 |l+1=>by
  show prT (itT (k+l) f)=prT (itT l (itT k f))
  rw[ahH f k l]
theorem acR{f:aA}(h:Rdy B f)(hM:f.aF=[]):∀k,(itT k f).aF=[]
 |0=>hM
 |k+1=>amO (nq h k)
theorem agD{T:az}{c s:Int}{W:Option ai}{f:aA}(hr:Rdy B f)(h:Bd T c s W f):∀k,Bd T c s W (itT k f)
 |0=>h
 |k+1=>(agD hr h k).round (nq hr k)
theorem aky{T:az}{c s:Int}{M:Option ai}{f:aA}(hr:Rdy B f)(h:Be T c s M f):∀k,Be T c s M (itT k f)
 |0=>h
 |k+1=>(aky hr h k).round (nq hr k)
theorem zo{f:aA}(h:Rdy B f){i0 s:Int}(hi:i0∈ids (bx f))(h0:leO W (lkF f i0 s)):∀k,(ids (bx f)).length≤k→∀j,Cn (bx f) [] i0 j→leO W (lkF (itT k f) j s):=by
 have h1:∀k j,leO W (lkF (itT k f) j s)→leO W (lkF (itT (k+1) f) j s):=λk j hk=>pX hk (amN (nq h k) j s)
 have base:=spread h.v.t (λk j=>leO W (lkF (itT k f) j s)) h1 (λk i j hk hc=>pX hk (amP (nq h k) (by rw[uq h k];exact hc) s)) hi h0
 intro k hk j hj
 obtain⟨l,rfl⟩:∃l,k=(ids (bx f)).length+l:=⟨k-(ids (bx f)).length,by omega⟩
 clear hk
 induction l with
 |zero=>exact base j hj
 |succ l ih=>exact h1 _ j ih
noncomputable def s5:List (Option ai)→Option ai:=List.foldr mxO none
theorem afF:∀(l:List (Option ai)) (o:Option ai),o∈l→leO o (s5 l)
 |a::l,o,h=>by
  show leO o (mxO a (s5 l))
  rcases List.mem_cons.1 h with rfl|h
  ·exact akx _ _
  ·exact pX (afF l o h) (agA _ _)
theorem acS:∀l:List (Option ai),s5 l=none∨s5 l∈l
 |[]=>.inl rfl
 |a::l=>by
  show mxO a (s5 l)=none∨mxO a (s5 l)∈a::l
  rcases abR a (s5 l)with h|h
  ·rw[h];exact .inr (by simp)
  ·rw[h]
   rcases acS l with h1|h1
   ·exact .inl h1
   ·exact .inr (List.mem_cons_of_mem _ h1)
theorem aeP{f:aA}(h:Rdy B f)(hM:f.aF=[]){c:Int}(hc:c∈ids (bx f)){k:Nat}(hk:2*(ids (bx f)).length≤k){i:Int}(hi:Cn (bx f) [] c i)(s:Int):lkF (itT k f) i s=lkF (itT k f) c s:=by
 classical
 have key:∃V,∀j,Cn (bx f) [] c j→lkF (itT k f) j s=V:=by
  generalize hl:((ids (bx f)).filter λi=>decide (Cn (bx f) [] c i)).map (λi=>lkF f i s)=l
  have hm:∀j,Cn (bx f) [] c j→leO (lkF f j s) (s5 l):=λj hj=>afF l _ (by
   rw[←hl]
   exact List.mem_map.2 ⟨j,List.mem_filter.2 ⟨hj.ids h.v.t hc,by simpa using hj⟩,rfl⟩)
  have hok:okO (s5 l):=λa ha=>by
   rcases acS l with h1|h1
   ·rw[h1]at ha;cases ha
   ·rw[←hl]at h1
    obtain⟨j,_,hj⟩:=List.mem_map.1 h1
    rw[←hl,←hj]at ha
    exact adC h.v j s a ha
  obtain⟨i0,hi0,hle⟩:∃i0,Cn (bx f) [] c i0∧leO (s5 l) (lkF f i0 s):=by
   rcases acS l with h1|h1
   ·exact⟨c,.refl (by simp),by rw[h1];trivial⟩
   ·rw[←hl]at h1
    obtain⟨j,hj,hje⟩:=List.mem_map.1 h1
    refine⟨j,by simpa using (List.mem_filter.1 hj).2,?_⟩
    rw[hl]at hje
    rw[hje];exact pW _
  have ap3:i0∈ids (bx f):=hi0.ids h.v.t hc
  by_cases hcs:Cn (bx f) [] c s
  ·
   have hsd:s∈ids (bx f):=hcs.ids h.v.t hc
   have hs0:=zo h ap3 hle _ (Nat.le_refl _) s (hi0.symm.trans hcs)
   have be:=aky (T:=bx f) (c:=c) (s:=s) (M:=s5 l) h ⟨rfl,λj hj=>.inl (hm j hj),λm hm _=>by rw[hM]at hm;cases hm⟩ (ids (bx f)).length
   generalize hf':itT (ids (bx f)).length f=f' at hs0 be
   have hr':Rdy B f':=by rw[←hf'];exact nq h _
   have ht':bx f'=bx f:=by rw[←hf'];exact uq h _
   have hM':f'.aF=[]:=by rw[←hf'];exact acR h hM _
   have up:∀{o:Option ai},leO o (s5 l)∨leO o (lkF f' s s)→leO o (lkF f' s s):=λho=>ho.elim (λh1=>pX h1 hs0) id
   have bd:Bd (bx f) c s (lkF f' s s) f':=⟨ht',λj hj=>up (be.n j hj),λm hm _=>(by rw[hM']at hm;cases hm),λ_=>rfl⟩
   refine⟨lkF f' s s,λj hj=>?_⟩
   have ek:itT k f=itT (k-(ids (bx f)).length) f':=by
    rw[←hf',←ahH]
    congr 1;omega
   rw[ek]
   have h1:=zo hr' (W:=lkF f' s s) (i0:=s) (s:=s) (by rw[ht'];exact hsd) (pW _) (k-(ids (bx f)).length) (by rw[ht'];omega) j (by rw[ht'];exact hcs.symm.trans hj)
   exact aeM (adC (nq hr' _).v _ _) (adC hr'.v _ _) ((agD hr' bd _).n j hj) h1
  ·have bd:Bd (bx f) c s (s5 l) f:=⟨rfl,hm,λm hm _=>(by rw[hM]at hm;cases hm),λh=>absurd h hcs⟩
   refine⟨s5 l,λj hj=>?_⟩
   have h1:=zo h ap3 hle k (by omega) j (hi0.symm.trans hj)
   exact aeM (adC (nq h _).v _ _) hok ((agD h bd _).n j hj) h1
 obtain⟨V,hV⟩:=key
 rw[hV i hi,hV c (.refl (by simp))]
end Go.Proofs.YtjdopimopgpagaaGreat
namespace Go.Proofs.YtjdopimopgpagaaGreat
set_option linter.all false
open Go
structure nO(g:az)(d:aH)(at1:Int):Prop where
 v:Vd d
 a:∀r,Cn g [] at1 r→∃x∈d.ay,x.af=r∧∃seq cl,x=ofA g r seq cl
section
variable {g:az}{d:aH}{at1:Int}
theorem nO.get(h:nO g d at1){x:ai}(hx:x∈d.ay)(hc:Cn g [] at1 x.af):∃seq cl,x=ofA g x.af seq cl:=by
 obtain⟨y,hy,hyr,seq,cl,he⟩:=h.a _ hc
 have:=h.v.uniq hy hx hyr
 subst this
 exact⟨seq,cl,he⟩
theorem nO.links(h:nO g d at1){x:ai}(hx:x∈d.ay)(hc:Cn g [] at1 x.af):x.Links=(iB g x.af).map (kO g x.af):=by
 obtain⟨seq,cl,e⟩:=h.get hx hc
 exact(congrArg ai.Links e).trans rfl
theorem nO.nb(h:nO g d at1)(hv:Vt g){x:ai}(hx:x∈d.ay)(hc:Cn g [] at1 x.af)(n:Int):(∃p∈x.Links,p.bq=n)↔eT g x.af n=true:=by
 rw[h.links hx hc,←fe hv]
 constructor
 ·rintro⟨p,hp,rfl⟩
  obtain⟨m,hm,rfl⟩:=List.mem_map.1 hp
  rw[rW];exact hm
 ·intro hn;exact⟨_,List.mem_map.2 ⟨n,hn,rfl⟩,rW _ _ _⟩
theorem nO.lk(h:nO g d at1)(hv:Vt g){a b:Int}(ha:Cn g [] at1 a):LkD d a b↔eT g a b=true:=by
 constructor
 ·rintro⟨x,hx,y,hy,rfl,rfl,p,q⟩
  exact(h.nb hv hx ha _).1 p
 ·intro hab
  obtain⟨x,hx,e1,_⟩:=h.a a ha
  have hb:Cn g [] at1 b:=.step ha hab (by simp)
  obtain⟨y,hy,e2,_⟩:=h.a b hb
  subst e1 e2
  exact⟨x,hx,y,hy,rfl,rfl,(h.nb hv hx ha _).2 hab,(h.nb hv hy hb _).2 (rK hab)⟩
theorem nO.rd(h:nO g d at1)(hv:Vt g){b:Int}:Rd d at1 b↔Cn g [] at1 b:=by
 constructor
 ·intro q
  induction q with
  |refl=>exact .refl (by simp)
  |step _ hl ih=>exact .step ih ((h.lk hv ih).1 hl) (by simp)
 ·intro q
  induction q with
  |refl _=>exact .refl
  |step hq hl _ ih=>exact .step ih ((h.lk hv hq).2 hl)
theorem nO.view(h:nO g d at1)(hv:Vt g)(hat:at1∈ids g){out:List Int}(ho:∀x,x∈ids g→(x∉out↔Cn g [] at1 x)):abG d at1 (woT g (fk.mk [] out)):=by
 obtain⟨x0,hx0,e0,_⟩:=h.a at1 (.refl (by simp))
 have hw:=hv.wo (fk.mk [] out)
 have atg:∀l:aS,zU (fk.mk [] out) l=(decide (l.A∈out)||decide (l.B∈out)):=λl=>by simp[zU,uG]
 refine .inr ⟨⟨⟨x0,hx0,e0⟩,h.v⟩,woT g (fk.mk [] out),⟨hw.asc,λr=>?_,hw.y9,λl=>?_⟩,by rw[if_pos (jx.2 hw)]⟩
 ·show r∈g.aG.filter _↔_
  rw[List.mem_filter]
  simp only[Bool.not_eq_true',decide_eq_false_iff_not]
  constructor
  ·rintro⟨hr,hno⟩
   have hri:r.ID∈ids g:=List.mem_map.2 ⟨r,hr,rfl⟩
   have hc:=(ho _ hri).1 hno
   obtain⟨a,ha,e,seq,cl,ea⟩:=h.a _ hc
   refine⟨a,ha,(h.rd hv).2 (by rw[e];exact hc),?_⟩
   have ec:a.aW=r.aW:=by
    rw[ea];show zh g r.ID=_;exact afB hv hr
   rw[ec,e]
  ·rintro⟨a,ha,hrd,rfl⟩
   have hc:=(h.rd hv).1 hrd
   have hi:=hc.ids hv hat
   obtain⟨r,hr,e⟩:=List.mem_map.1 hi
   obtain⟨seq,cl,ea⟩:=h.get ha hc
   have ec:a.aW=r.aW:=by
    rw[ea];show zh g a.af=_;rw[←e];exact afB hv hr
   have:aU.mk a.af a.aW=r:=by rw[ec,←e]
   rw[this]
   exact⟨hr,by rw[e];exact(ho _ hi).2 hc⟩
 ·show l∈g.Links.filter _↔_
  rw[List.mem_filter]
  simp only[atg,Bool.not_or,Bool.and_eq_true,Bool.not_eq_true',decide_eq_false_iff_not]
  have lk:∀l∈g.Links,∀x∈d.ay,∀y∈d.ay,Cn g [] at1 l.A→Cn g [] at1 l.B→x.af=l.A→y.af=l.B→kO g l.A l.B∈x.Links∧kO g l.B l.A∈y.Links∧l=mkL x (kO g l.A l.B) y (kO g l.B l.A):=λl hl x hx y hy cx cy ex ey=>by
   have oq:eT g l.A l.B=true:=lH.2 ⟨l,hl,.inl ⟨rfl,rfl⟩⟩
   have l1:=h.links hx (by rw[ex];exact cx)
   have l2:=h.links hy (by rw[ey];exact cy)
   refine⟨?_,?_,?_⟩
   ·rw[l1,ex];exact List.mem_map.2 ⟨l.B,(fe hv).2 oq,rfl⟩
   ·rw[l2,ey];exact List.mem_map.2 ⟨l.A,(fe hv).2 (rK oq),rfl⟩
   ·rw[acI hv hl,acJ hv hl]
    simp[mkL,ex,ey]
  constructor
  ·rintro⟨hl,hA,hB⟩
   have oq:eT g l.A l.B=true:=lH.2 ⟨l,hl,.inl ⟨rfl,rfl⟩⟩
   have cA:=(ho _ (qf hv (rK oq))).1 hA
   have cB:=(ho _ (qf hv oq)).1 hB
   obtain⟨x,hx,ex,_⟩:=h.a _ cA
   obtain⟨y,hy,ey,_⟩:=h.a _ cB
   obtain⟨k1,k2,k3⟩:=lk l hl x hx y hy cA cB ex ey
   refine⟨x,hx,(h.rd hv).2 (by rw[ex];exact cA),y,hy,_,k1,_,k2,by rw[ex,ey];exact hv.lt l hl,by rw[rW,ey],by rw[rW,ex],k3⟩
  ·rintro⟨x,hx,hrd,y,hy,p,hp,q,hq,hlt,ep,eq,e⟩
   have cx:=(h.rd hv).1 hrd
   have oq:eT g x.af y.af=true:=(h.nb hv hx cx _).1 ⟨p,hp,ep⟩
   have cy:Cn g [] at1 y.af:=.step cx oq (by simp)
   obtain⟨l0,hl0,hc⟩:=lH.1 oq
   have hlt0:=hv.lt l0 hl0
   have eA:x.af=l0.A:=by omega
   have eB:y.af=l0.B:=by omega
   obtain⟨k1,k2,k3⟩:=lk l0 hl0 x hx y hy (by rw[←eA];exact cx) (by rw[←eB];exact cy) eA eB
   have vx:=wC (h.v.ok x hx)
   have vy:=wC (h.v.ok y hy)
   have e1:p=kO g l0.A l0.B:=vx.uniq hp k1 (by rw[ep,rW,eB])
   have e2:q=kO g l0.B l0.A:=vy.uniq hq k2 (by rw[eq,rW,eA])
   have el:l=l0:=by rw[e,e1,e2,←k3]
   subst el
   refine⟨hl0,?_,?_⟩
   ·rw[←eA];exact(ho _ (cx.ids hv hat)).2 cx
   ·rw[←eB];exact(ho _ (cy.ids hv hat)).2 cy
end
variable {f:aA}{k:Nat}
theorem seen{B:Int}(h:Rdy B f)(hM:f.aF=[])(hk:2*(ids (bx f)).length≤k){n:aT}(hn:n∈(itT k f).aB):nO (bx f) n.Database n.af:=by
 have hr:=nq h k
 have ht:=uq h k
 refine⟨(hr.v.n n hn).2.2,λr hc=>?_⟩
 have hid:n.af∈ids (bx f):=by rw[←ht];exact nN hn
 have hrd:=hc.ids h.v.t hid
 rw[←ht]at hrd
 obtain⟨m,hm,hmr⟩:=afE hrd
 have h1:=aeP h hM hid hk hc r
 rw[←hmr,hr.ate hm,hmr,qj hr.v hn]at h1
 have hd:=(hr.v.n n hn).2.2
 obtain⟨q1,q2⟩:=(fE hd).1 h1.symm
 refine⟨_,q1,q2,m.Seq,m.Claims,?_⟩
 unfold rM
 rw[ht,hmr]
theorem ahI{B:Int}(h:Rdy B f)(hM:f.aF=[])(hk:2*(ids (bx f)).length≤k){n m:aT}(hn:n∈(itT k f).aB)(hm:m∈(itT k f).aB)(hc:Cn (bx f) [] n.af m.af):n.Database=m.Database:=by
 have hr:=nq h k
 have hid:n.af∈ids (bx f):=by rw[←uq h k];exact nN hn
 refine ai9 (hr.v.n n hn).2.2 (hr.v.n m hm).2.2 λs=>?_
 rw[←qj hr.v hn,←qj hr.v hm]
 exact(aeP h hM hid hk hc s).symm
end Go.Proofs.YtjdopimopgpagaaGreat
namespace Go.Proofs.YtjdopimopgpagaaGreat
set_option linter.all false
open Go
theorem ap4{x n:Int}(hx:0≤x)(hn:1≤n∧n≤9223372036854775807):pF x n=some (x%n):=by
 unfold pF
 have e1:decide (n<1)=false:=by simp;omega
 have e2:Int.tmod x n=x%n:=Int.tmod_eq_emod_of_nonneg hx
 have h0:0≤x%n:=Int.emod_nonneg _ (by omega)
 have e3:decide (x%n<0)=false:=by simp;omega
 have e4:n≠0:=by omega
 have e5:decide (n≠0)=true:=by simp;omega
 simp only[e1,cond_false,e2,jn,e3,chk,e5,cond_true]
theorem ap5{a k n:Int}(ha:0≤a∧a<n)(hk:1≤k∧k≤n-1):(a+k)%n≠a:=by
 by_cases h:a+k<n
 ·rw[Int.emod_eq_of_lt (by omega) h];omega
 ·have:(a+k)%n=a+k-n:=by
   have h1:(a+k-n)%n=(a+k)%n:=by simp
   rw[←h1,Int.emod_eq_of_lt (by omega) (by omega)]
  omega
def Sm(most:Int)(d:aH):Prop:=Vd d∧∀a∈d.ay,a.Seq≤most
theorem Sm.nil(most:Int):Sm most (aH.mk []):=⟨⟨by simp,by simp,by simp⟩,by simp⟩
variable {most:Int}{t:aX}
theorem adl(h:cR t)(hm:1≤most):Ok (mg t most) (λp=>Sm most p.1∧cR p.2):=by
 unfold mg
 refine Ok.bnd (jM h (by omega)) λp hp=>?_
 refine Ok.cs (λ_=>Ok.s ⟨Sm.nil most,hp.2⟩) λ_=>?_
 refine Ok.bnd (ae3 (n:=0) hp.2 (by omega)) λd hd=>?_
 obtain⟨⟨_,hl,h0⟩,ht⟩:=hd
 have hv:=iY.1 (h0 rfl).1
 refine Ok.whl (λs:Int×List ai=>(0≤s.1∧s.1≤s.2.length)∧s.2.length≤7∧Vd (aH.mk s.2)∧∀(k:Nat) (a:ai),(k:Int)<s.1→s.2[k]?=some a→a.Seq≤most) (λs=>((s.2.length:Int)-s.1).toNat) ⟨⟨by simp,by simp⟩,hl,hv,λk a hk=>by simp only at hk;omega⟩ (by simp only;omega) ?_
 rintro⟨i,m⟩ Z ⟨⟨h0,h1⟩,h2,h3,h4⟩ hZ
 simp only at h0 h1 h2 h3 h4
 refine Ok.cs (λhc=>?_) λhc=>?_
 ·have hc:i<m.length:=by simpa using hc
  refine Ok.bnd (pK h0 hc) λa ha=>?_
  refine Ok.bnd (ahf h0 hc) λl hl=>?_
  rw[cr (by omega) (by omega)]
  have hav:=h3.ok a ha.1
  have hnew:bZ (ai.mk a.af (if most<a.Seq then most else a.Seq) a.aW a.Links a.Claims)=true:=by
   have hv2:=hav
   unfold bZ at hv2 ⊢
   simp only[Bool.and_eq_true]at hv2 ⊢
   refine⟨⟨⟨⟨hv2.1.1.1.1,?_⟩,hv2.1.1.2⟩,hv2.1.2⟩,hv2.2⟩
   have h5:=hv2.1.1.1.2
   simp only[inB,Bool.and_eq_true,decide_eq_true_eq]at h5 ⊢
   split<;>omega
  have lq:l=m.set i.toNat (ai.mk a.af (if most<a.Seq then most else a.Seq) a.aW a.Links a.Claims):=hl.1
  refine hZ _ ⟨⟨by simp only;omega,by simp only;omega⟩,by simp only;omega,?_,λk b hk hb=>?_⟩ (by simp only;omega)
  ·show Vd (aH.mk l)
   have hmap:l.map (·.af)=m.map (·.af):=by
    rw[lq,List.map_set]
    refine List.ext_getElem? λk=>?_
    rw[List.getElem?_set]
    split
    ·rename_i hk
     subst hk
     split
     ·rw[List.getElem?_map,ha.2];rfl
     ·rename_i hlt;rw[List.getElem?_eq_none (by omega)]
    ·rfl
   refine⟨by show l.length≤99;omega,λb hb=>?_,?_⟩
   ·have hb:b∈l:=hb
    rw[lq]at hb
    rcases List.mem_or_eq_of_mem_set hb with hb|rfl
    ·exact h3.ok b hb
    ·exact hnew
   ·have:=List.pairwise_map.2 h3.asc
    have this:(m.map (·.af)).Pairwise (·<·):=this
    rw[←hmap]at this
    exact List.pairwise_map.1 this
  ·have hk:(k:Int)<i+1:=hk
   have hb:l[k]?=some b:=hb
   rw[lq,List.getElem?_set]at hb
   split at hb
   ·split at hb
    ·have:=Option.some.inj hb
     rw[←this]
     show(if most<a.Seq then most else a.Seq)≤most
     split<;>omega
    ·cases hb
   ·rename_i hne
    exact h4 k b (by omega) hb
 ·have hc:¬i<m.length:=by simpa using hc
  refine Ok.s ⟨⟨h3,λa ha=>?_⟩,ht⟩
  obtain⟨k,hk⟩:=List.getElem?_of_mem ha
  have hlt:=(List.getElem?_eq_some_iff.1 hk).1
  have hk:m[k]?=some a:=hk
  have hlt:k<m.length:=hlt
  exact h4 k a (by omega) hk
structure Fd(most:Int)(f:aA):Prop where
 v:Vf f
 n:1≤f.aB.length∧f.aB.length≤8
 s:∀n∈f.aB,n.Seq≤most∧Sm most n.Database
 m:∀m∈f.aF,Sm most m.Database
variable {f:aA}{r:Int}
theorem ahJ(h:∃n∈f.aB,n.af=r):0≤iA f r:=by
 obtain⟨n,hn,hr⟩:=h
 rcases qh f r with⟨_,h2⟩|⟨a,m,b,_,h2,_⟩
 ·exact absurd hr (h2 n hn)
 ·omega
theorem afd{ga:Int}(h:cR t)(hr:1≤ga∧ga≤8)(hm:1≤most∧most≤1000000):Ok (mH t ga most) (λp=>Fd most p.1∧cR p.2):=by
 unfold mH
 refine Ok.bnd (ae9 h hr) λg hg=>?_
 obtain⟨⟨hv,hn,_⟩,ht⟩:=hg
 have apQ:=hv.nl
 refine Ok.pQ (λP (s:List aT×List Int×Int)=>(s.1.map (·.af)=P.map (·.ID)∧∀n∈s.1,(0≤n.Seq∧n.Seq≤most)∧jN n.Claims=true∧Sm most n.Database)∧cR (aX.mk s.2.1 s.2.2)) ?_ _ ⟨⟨rfl,by simp⟩,ht⟩ ?_
 ·rintro P r rest ⟨m,L,At⟩ Z hL ⟨⟨i1,i3⟩,i2⟩ hZ
  have hP:P.length<g.1.aG.length:=by rw[hL];simp
  simp only at i1 i2 i3
  have hml:m.length=P.length:=by have:=congrArg List.length i1;simpa using this
  refine Ok.bnd (mh i2 (by decide) (by decide)) λp2 h2=>?_
  have h2s:=h2.1
  simp only[List.mem_cons,List.not_mem_nil,or_false]at h2s
  refine Ok.bnd (jM h2.2 (by omega)) λp3 h3=>?_
  refine Ok.bnd (adl h3.2 hm.1) λp4 h4=>?_
  refine Ok.gz (λj (s:List bH×List Int×Int)=>((s.1.length:Int)≤j∧s.1.all iN=true∧qy s.1=true∧∀c∈s.1,c.bV<j)∧cR (aX.mk s.2.1 s.2.2)) 0 2 ?_ ?_ _ _ _ rfl (by omega) (by omega) ⟨⟨by simp,by simp,rfl,by simp⟩,h4.2⟩
  ·rintro j ⟨m4,m5,m6⟩ Z2 hj1 hj2 ⟨⟨q1,q3,q4,q5⟩,q2⟩ hZ2
   simp only at q1 q2 q3 q4 q5
   refine Ok.jn (λs:List Int×Int×List bH=>((s.2.2.length:Int)≤j+1∧s.2.2.all iN=true∧qy s.2.2=true∧∀c∈s.2.2,c.bV<j+1)∧cR (aX.mk s.1 s.2.1)) (λs hs=>hZ2 _ ⟨hs.1,hs.2⟩) λJ hJ=>?_
   refine Ok.bnd (jM q2 (by omega)) λp5 h5=>?_
   refine Ok.cs (λ_=>?_) λ_=>hJ _ ⟨⟨by simp only;omega,q3,q4,λc hc=>by have:=q5 c hc;omega⟩,h5.2⟩
   refine Ok.bnd (pO h5.2) λp6 h6=>?_
   refine Ok.bnd (ac7 h6.2) λp7 h7=>?_
   have h61:=h6.1 (by omega) (by omega) (by omega)
   refine Ok.bnd (jv (by simp;omega)) λl hl=>hJ _ ⟨⟨by simp only;rw[hl.2];simp;omega,?_,?_,λc hc=>?_⟩,h7.2⟩
   ·show l.all iN=true
    rw[hl.1]
    refine zW q3 ?_
    simp only[iN,inB,Bool.and_eq_true,decide_eq_true_eq]
    exact⟨⟨by omega,by omega⟩,h7.1⟩
   ·show qy l=true
    rw[hl.1]
    exact xo q4 λy hy=>by simpa using q5 y hy
   ·have hc:c∈l:=hc
    rw[hl.1]at hc
    rcases List.mem_append.1 hc with hc|hc
    ·have:=q5 c hc;omega
    ·rw[List.mem_singleton]at hc;subst hc;show j<j+1;omega
  ·rintro j ⟨m4,m5,m6⟩ hj1 hj2 ⟨⟨q1,q3,q4,q5⟩,q2⟩
   have hj:j=2:=hj2 (by omega)
   refine Ok.bnd (jv (by simp;omega)) λl hl=>hZ _ ⟨⟨?_,λn hn2=>?_⟩,q2⟩
   ·show l.map (·.af)=_
    rw[hl.1,List.map_append,i1,List.map_append];rfl
   ·have hn2:n∈l:=hn2
    rw[hl.1]at hn2
    rcases List.mem_append.1 hn2 with hn2|hn2
    ·exact i3 n hn2
    ·rw[List.mem_singleton]at hn2
     subst hn2
     refine⟨⟨?_,?_⟩,?_,h4.1⟩
     ·show 0≤(if p2.1<most then p2.1 else most);split<;>omega
     ·show(if p2.1<most then p2.1 else most)≤most;split<;>omega
     ·show jN m4=true
      have q1:(m4.length:Int)≤j:=q1
      unfold jN
      rw[q3,q4];simp;omega
 ·rintro⟨m,L,At⟩ ⟨⟨i1,i3⟩,i2⟩
  simp only at i1 i2 i3
  have hml:m.length=g.1.aG.length:=by have:=congrArg List.length i1;simpa using this
  refine Ok.bnd (jM i2 (by omega)) λp8 h8=>?_
  have h84:=h8.1.2.1 (by omega)
  have mem:∀x∈g.1.aG,∃n∈m,n.af=x.ID:=λx hx=>by
   have:x.ID∈m.map (·.af):=by rw[i1];exact List.mem_map.2 ⟨x,hx,rfl⟩
   obtain⟨n,hn1,hn2⟩:=List.mem_map.1 this
   exact⟨n,hn1,hn2⟩
  refine Ok.whl (λs:Int×List bB×List Int×Int=>((s.2.1.length:Int)+s.1≤4∧s.1≤4∧(0≤s.1∨s.1≤0))∧(s.2.1.length≤8∧∀x∈s.2.1,(∃n∈m,n.af=x.cQ)∧(∃n∈m,n.af=x.To)∧x.cQ≠x.To∧Sm most x.Database)∧cR (aX.mk s.2.2.1 s.2.2.2)) (λs=>s.1.toNat) ⟨⟨by simp;omega,by simp only;omega,by simp only;omega⟩,⟨by simp,by simp⟩,h8.2⟩ (by simp only;omega) ?_
  rintro⟨i,m10,m11,m12⟩ Z ⟨⟨q1,q1',_⟩,⟨q2,q4⟩,q3⟩ hZ
  simp only at q1 q1' q2 q3 q4
  refine Ok.cs (λhc=>?_) λ_=>?_
  rotate_left
  ·have zm:Vt (bx (aA.mk g.1.Links m m10)):=hv.aje (by show(m.map λn=>aU.mk n.af n.aW).map (·.ID)=_;rw[List.map_map];exact i1) rfl
   refine Ok.s ⟨⟨⟨zm,by show m10.length≤400;omega,λn hn2=>?_,λx hx=>?_⟩,⟨by show 1≤m.length;omega,by show m.length≤8;omega⟩,λn hn2=>?_,λx hx=>(q4 x hx).2.2.2⟩,q3⟩
   ·obtain⟨r1,r2,r3⟩:=i3 n hn2
    exact⟨⟨r1.1,by omega⟩,r2,r3.1⟩
   ·obtain⟨r1,r2,r3,r4⟩:=q4 x hx
    exact⟨ahJ r1,ahJ r2,r3,r4.1⟩
   ·obtain⟨r1,r2,r3⟩:=i3 n hn2
    exact⟨r1.2,r3⟩
  simp only[Bool.and_eq_true,decide_eq_true_eq]at hc
  refine Ok.bnd (jM q3 (by omega)) λp9 h9=>?_
  have h9n:=h9.1.2.1 (by omega)
  have h90:=h9.1.1
  refine Ok.bnd (pO h9.2) λp10 h10=>?_
  rw[cr (n:=(g.1.aG.length:Int)-1) (by omega) (by omega)]at h10
  have h10:=And.intro (h10.1 (by omega) (by omega) (by omega)) h10.2
  have hw:w64 (p9.1+p10.1)=p9.1+p10.1:=cr (by omega) (by omega)
  rw[hw,ap4 (by omega) (by omega),aK]
  have hne:=ap5 (a:=p9.1) (k:=p10.1) (n:=(g.1.aG.length:Int)) ⟨h90,h9n⟩ h10.1
  have hb0:0≤(p9.1+p10.1)%(g.1.aG.length:Int):=Int.emod_nonneg _ (by omega)
  have hb1:(p9.1+p10.1)%(g.1.aG.length:Int)<(g.1.aG.length:Int):=Int.emod_lt_of_pos _ (by omega)
  generalize (p9.1+p10.1)%(g.1.aG.length:Int)=bb at hne hb0 hb1 ⊢
  refine Ok.bnd (pK h90 h9n) λe1 he1=>?_
  refine Ok.bnd (pK hb0 hb1) λe2 he2=>?_
  refine Ok.bnd (adl h10.2 hm.1) λp12 h12=>?_
  refine Ok.bnd (jv (by simp;omega)) λl hl=>?_
  rw[cr (by omega) (by omega)]
  have hl2:=hl.2
  simp only[List.length_cons,List.length_nil]at hl2
  have ajq:e1.ID≠e2.ID:=λhe=>by
   have:=ahl hv he1.1 he2.1 he
   subst this
   have hnd:g.1.aG.Nodup:=hv.asc.imp λ{a b} hab e=>by subst e;omega
   obtain⟨k1,k2⟩:=List.getElem?_eq_some_iff.1 he1.2
   obtain⟨k3,k4⟩:=List.getElem?_eq_some_iff.1 he2.2
   have:=(List.getElem_inj hnd).1 (k2.trans k4.symm)
   omega
  refine hZ _ ⟨⟨by simp only;omega,by simp only;omega,by simp only;omega⟩,⟨by simp only;omega,λx hx=>?_⟩,h12.2⟩ (by simp only;omega)
  have hx:x∈l:=hx
  rw[hl.1]at hx
  rcases List.mem_append.1 hx with hx|hx
  ·exact q4 x hx
  ·rw[List.mem_singleton]at hx
   subst hx
   exact⟨mem e1 he1.1,mem e2 he2.1,ajq,h12.1⟩
theorem ahK(hM:f.aF=[]):eU f=f:=by
 unfold eU
 rw[hM];rfl
variable {B:Int}
theorem round_eq(h:Rdy B f):eX f=some (prT (eU f),0):=ajm h.v
theorem aeQ(h:Rdy B f)(hM:f.aF=[])(k:Nat):eX (itT k f)=some (itT (k+1) f,0):=by
 rw[round_eq (nq h k),ahK (acR h hM k)];rfl
variable {k:Nat}
theorem ahL(h:Rdy B f)(hk:1≤k∧k≤100000):lG f (k:Int)=some (itT k (eU f)):=by
 have hd:=abc h
 have hn:=(uo h.v).2
 unfold lG
 refine Ok.eq (Ok.chk (by simp;omega) ?_)
 refine Ok.gz (λj (s:List aS×List aT×List bB)=>(j=0∧aA.mk s.1 s.2.1 s.2.2=f)∨(1≤j∧aA.mk s.1 s.2.1 s.2.2=itT j.toNat (eU f))) 0 (k:Int) ?_ ?_ _ _ _ (by omega) (by omega) (by omega) (.inl ⟨rfl,rfl⟩)
 ·rintro j ⟨a,b,c⟩ Z j0 j1 hI hZ
  dsimp only at hI ⊢
  rcases hI with⟨rfl,he⟩|⟨hj,he⟩
  ·rw[he,round_eq h,aK]
   exact hZ _ (.inr ⟨by omega,rfl⟩)
  ·rw[he,aeQ hd hn,aK]
   refine hZ _ (.inr ⟨by omega,?_⟩)
   have:(j+1).toNat=j.toNat+1:=by omega
   rw[this]
 ·rintro j ⟨a,b,c⟩ j0 j1 hI
  have hj:j=(k:Int):=j1 (by omega)
  dsimp only at hI ⊢
  rcases hI with⟨h1,_⟩|⟨_,he⟩
  ·omega
  ·rw[he,hj];exact⟨_,rfl,by simp⟩
theorem aeR{α:Type}{P:List α→α→Bool}:∀(l p:List α),(∀a x b,p++l=a++x::b→P a x=true)→yd P p l=true
 |[],_,_=>rfl
 |x::l,p,h=>by
  rw[yd,h p x l rfl,Bool.true_and]
  exact aeR l (p++[x]) λa y b e=>h a y b (by rw[←e];simp)
theorem ahM{d:aH}{a:ai}(h:look d r=some a):eZ d r=(a,true):=by
 unfold look at h
 cases hq:(eZ d r).2
 ·rw[hq]at h;cases h
 ·rw[hq]at h
  have:=Option.some.inj h
  rw[←this,←hq]
theorem settled(h:Rdy B f)(hM:f.aF=[])(hk:2*(ids (bx f)).length≤k):agx (itT k f)=true:=by
 have hr:=nq h k
 unfold agx
 rw[zk.2 hr.v,acR h hM k]
 simp only[List.length_nil,Int.natCast_zero,Int.lt_irrefl,decide_false,Bool.not_false,Bool.true_and]
 refine aeR _ [] λa n b e=>?_
 rw[List.nil_append]at e
 have hn:n∈(itT k f).aB:=by rw[e];simp
 obtain⟨o1,o2,o3⟩:=hr.own n hn
 have hb:=hr.bd
 have hs0:decide (n.Seq=0)=false:=by simp;omega
 have hin:inB n.Seq 1 1000000=true:=by simp[inB];omega
 have hown:(bif decide (n.Seq=0)then(noA,false)else pU (itT k f) n n.Seq)=(rM (itT k f) n,true):=by
  rw[hs0,cond_false]
  unfold pU
  rw[hin];rfl
 unfold aeF
 rw[hown,ahM o3,(wH _ _).2 rfl]
 simp only[Bool.true_and]
 rw[List.all_eq_true]
 intro m hm
 have hmn:m∈(itT k f).aB:=by rw[e];simp[hm]
 cases hc:pS (bx (itT k f)) m.af n.af
 ·rfl
 ·have hcn:Cn (bx f) [] m.af n.af:=by
   unfold pS at hc
   simp only[Bool.and_eq_true,decide_eq_true_eq]at hc
   rw[←uq h k];exact hc.2
  have:=ahI h hM hk hmn hn hcn
  rw[this]
  simp[(ahA _ _).2 rfl]
theorem ahN(h:Rdy B f)(hM:f.aF=[])(hk:2*(ids (bx f)).length≤k){n:aT}(hn:n∈(itT k f).aB){out:List Int}(ho:∀y,y∈ids (bx f)→(y∉out↔Cn (bx f) [] n.af y)):lM n.Database n.af=some (woT (bx f) (fk.mk [] out)):=by
 have hid:n.af∈ids (bx f):=by rw[←uq h k];exact nN hn
 obtain⟨U,h1,h2⟩:=agq n.Database n.af
 rw[h1,h2.unique ((seen h hM hk hn).view h.v.t hid ho)]
end Go.Proofs.YtjdopimopgpagaaGreat
