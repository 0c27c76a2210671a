/- Several texts in one. No condition but those that stand in each. -/
import Derived.Test.YtjdopimopgpagaaGreatPM
import GoSem.Extern.BytealgCompare
import Derived.Lib.Strings
import Derived.Test.YtjdopimopgpagaaGreatDLS
namespace Go.Proofs.YtjdopimopgpagaaGreat
set_option linter.all false
open Go
theorem yq{α σ β:Type}{B:Int→α→(σ→Option β)→σ→Option β}{K:σ→Option β}{L:List α}(g:α→Bool)(p:α→α→Bool)(a:Option β)(h0:∀x Z s,B ((0:Nat):Int) x Z s=bif g x then Z s else a)
  (hB:∀(j:Nat) x y r q s Z,L=q++y::x::r→j=q.length+1→B (j:Int) x Z s=bif g x&&p y x then Z s else a) (s:σ):bN L 0 B K s=bif L.all g&&gd p L then K s else a:=by
 have key:∀(r q:List α) (y:α) (s:σ),L=q++y::r→bN r (q.length+1) B K s=bif r.all g&&gd p (y::r)then K s else a:=by
  intro r
  induction r with
  |nil=>intro q y s _;rfl
  |cons x r ih=>
   intro q y s h
   simp only[bN]
   rw[hB (q.length+1) x y r q s _ h rfl]
   have:=ih (q++[y]) x s (by simpa using h)
   simp only[List.length_append,List.length_cons,List.length_nil]at this
   rw[this]
   simp only[gd,List.all_cons]
   cases g x<;>cases p y x<;>simp
 cases L with
 |nil=>rfl
 |cons y r=>
  simp only[bN]
  rw[h0]
  have:=key r [] y s rfl
  simp only[List.length_nil]at this
  rw[this,List.all_cons]
  cases g y<;>simp
theorem vW{α γ β:Type}{B:Int→α→(Unit→Option β)→Unit→Option β}{K:Unit→Option β}(e:α→γ→Bool)(a:Option β){m:List γ}(hB:∀j x Z s,B j x Z s=bnd (elO m j) λy=>bif !(e x y)then a else Z s):
  ∀(l:List α),l.length=m.length→bN l 0 B K ()=bif (l.zip m).all (λp=>e p.1 p.2)then K ()else a:=by
 have key:∀(l:List α) (q r:List γ),m=q++r→l.length=r.length→bN l q.length B K ()=bif (l.zip r).all (λp=>e p.1 p.2)then K ()else a:=by
  intro l
  induction l with
  |nil=>intro q r _ h;rfl
  |cons x l ih=>
   intro q r hm hl
   cases r with
   |nil=>simp at hl
   |cons y r=>
    simp only[bN,hB,hm,iy,aL]
    have:=ih (q++[y]) r (by simpa using hm) (by simpa using hl)
    simp only[List.length_append,List.length_cons,List.length_nil]at this
    rw[this,List.zip_cons_cons,List.all_cons]
    cases e x y<;>rfl
 intro l h
 exact key l [] m rfl h
def inB(n lo hi:Int):Bool:=decide (lo≤n)&&decide (n≤hi)
def lQ(a:ai)(x:bw):Bool:=inB x.bu 1 99&&!decide (x.bu=a.af)&&inB x.lq 1 1000&&inB x.cg 0 1000
def nJ(n:Int):Bool:=decide (n=8)||(decide (n=16)||(decide (n=32)||decide (n=64)))
def iY(c:bG):Bool:=inB c.bZ 0 7&&inB c.ID 1 256&&nJ c.Length
def vX(l:List bw):Bool:=gd (λa b=>decide (a.bu<b.bu)) l
def qO(l:List bG):Bool:=gd (λa b=>decide (a.bZ<b.bZ)) l
def cc(a:ai):Bool:=(inB a.af 1 99&&inB a.Seq 1 1000000&&decide ((a.Links.length:Int)≤23))&&(a.Links.all (lQ a)&&vX a.Links)&&(decide ((a.Claims.length:Int)≤8)&&(a.Claims.all iY&&qO a.Claims))
theorem xE{x y:Int}:decide (x≤y)=!decide (y<x):=by
 by_cases h:y<x
 ·simp[h]
 ·simp[h];omega
theorem acM(n lo hi:Int):gj n lo hi=some (inB n lo hi):=rfl
theorem akN(n:Int):mj n=some (nJ n):=rfl
theorem inE(n lo hi:Int):je n lo hi=some (inB n lo hi):=rfl
theorem akO(n:Int):jq n=some (nJ n):=by
 unfold jq nJ
 cases decide (n=8)<;>cases decide (n=16)<;>cases decide (n=32)<;>cases decide (n=64)<;>rfl
theorem zA(l:List bG):iI l=some (decide ((l.length:Int)≤8)&&(l.all iY&&qO l)):=by
 unfold iI
 by_cases h:(8:Int)<l.length
 ·have h':¬(l.length:Int)≤8:=by omega
  simp[h,h']
 ·have h':(l.length:Int)≤8:=by omega
  simp only[h,decide_false,cond_false,h',decide_true,Bool.true_and]
  refine(yq iY (λa b=>decide (a.bZ<b.bZ)) (some false) ?_ ?_ _).trans ?_
  ·intro x Z s
   simp only[jn,acM,akN,aL,iY]
   cases inB x.bZ 0 7<;>cases inB x.ID 1 256<;>cases nJ x.Length<;>rfl
  ·intro j x y r q s Z hL hj
   have:decide ((0:Int)<(j:Int))=true:=by simp;omega
   simp only[jn,acM,akN,aL,iY,nH hL hj (by omega),xE,this]
   cases inB x.bZ 0 7<;>cases inB x.ID 1 256<;>cases nJ x.Length<;>cases decide (y.bZ<x.bZ)<;>rfl
  ·unfold qO;cases l.all iY&&gd _ l<;>rfl
theorem ru(a:ai):ic a=some (cc a):=by
 unfold ic cc
 simp only[jn,acM,aL]
 by_cases h:(a.Links.length:Int)≤23
 ·have h':¬(23:Int)<a.Links.length:=by omega
  simp only[h,h',decide_true,decide_false,Bool.and_true]
  cases inB a.af 1 99<;>cases inB a.Seq 1 1000000<;>simp only[Bool.not_true,Bool.not_false,cond_true,cond_false,Bool.false_and,Bool.true_and,Bool.and_self]
  refine(yq (lQ a) (λa b=>decide (a.bu<b.bu)) (some false) ?_ ?_ _).trans ?_
  ·intro x Z s
   simp only[aL,lQ]
   cases inB x.bu 1 99<;>cases decide (x.bu=a.af)<;>cases inB x.lq 1 1000<;>cases inB x.cg 0 1000<;>rfl
  ·intro j x y r q s Z hL hj
   have:decide ((0:Int)<(j:Int))=true:=by simp;omega
   simp only[aL,lQ,nH hL hj (by omega),xE,this]
   cases inB x.bu 1 99<;>cases decide (x.bu=a.af)<;>cases inB x.lq 1 1000<;>cases inB x.cg 0 1000<;>cases decide (y.bu<x.bu)<;>rfl
  ·simp only[zA,aL]
   unfold vX
   cases a.Links.all (lQ a)&&gd _ a.Links<;>rfl
 ·have h':(23:Int)<a.Links.length:=by omega
  simp only[h,h',decide_true,decide_false,Bool.and_false,Bool.false_and]
  cases inB a.af 1 99<;>cases inB a.Seq 1 1000000<;>rfl
theorem tT(a:ai):iu a=some (cc a):=by
 unfold iu cc
 simp only[jn,inE,aL]
 by_cases h:(a.Links.length:Int)≤23
 ·have h':¬(23:Int)<a.Links.length:=by omega
  by_cases hc:(a.Claims.length:Int)≤8
  ·have hc':¬(8:Int)<a.Claims.length:=by omega
   simp only[h,h',hc,hc',decide_true,decide_false,Bool.and_true,Bool.true_and]
   cases inB a.af 1 99<;>cases inB a.Seq 1 1000000<;>simp only[Bool.not_true,Bool.not_false,cond_true,cond_false,Bool.false_and,Bool.true_and,Bool.and_self]
   refine(yq (lQ a) (λa b=>decide (a.bu<b.bu)) (some false) ?_ ?_ _).trans ?_
   ·intro x Z s
    simp only[aL,lQ]
    cases inB x.bu 1 99<;>cases decide (x.bu=a.af)<;>cases inB x.lq 1 1000<;>cases inB x.cg 0 1000<;>rfl
   ·intro j x y r q s Z hL hj
    have:decide ((0:Int)<(j:Int))=true:=by simp;omega
    simp only[aL,lQ,nH hL hj (by omega),xE,this]
    cases inB x.bu 1 99<;>cases decide (x.bu=a.af)<;>cases inB x.lq 1 1000<;>cases inB x.cg 0 1000<;>cases decide (y.bu<x.bu)<;>rfl
   ·refine Eq.trans (b:=bif a.Links.all (lQ a)&&vX a.Links then(bif a.Claims.all iY&&qO a.Claims then some true else some false)else some false) ?_ ?_
    ·unfold vX
     congr 1
     refine(yq iY (λa b=>decide (a.bZ<b.bZ)) (some false) ?_ ?_ _).trans ?_
     ·intro x Z s
      simp only[akO,aL,iY]
      cases inB x.bZ 0 7<;>cases inB x.ID 1 256<;>cases nJ x.Length<;>rfl
     ·intro j x y r q s Z hL hj
      have:decide ((0:Int)<(j:Int))=true:=by simp;omega
      simp only[akO,aL,iY,nH hL hj (by omega),xE,this]
      cases inB x.bZ 0 7<;>cases inB x.ID 1 256<;>cases nJ x.Length<;>cases decide (y.bZ<x.bZ)<;>rfl
     ·rfl
    ·cases a.Links.all (lQ a)&&vX a.Links<;>cases a.Claims.all iY&&qO a.Claims<;>rfl
  ·have hc':(8:Int)<a.Claims.length:=by omega
   simp only[h,h',hc,hc',decide_true,decide_false,Bool.and_false,Bool.false_and]
   cases inB a.af 1 99<;>cases inB a.Seq 1 1000000<;>rfl
 ·have h':(23:Int)<a.Links.length:=by omega
  simp only[h,h',decide_true,decide_false,Bool.and_false,Bool.false_and]
  cases inB a.af 1 99<;>cases inB a.Seq 1 1000000<;>rfl
def aeL(d:aF):Bool:=gd (λa b=>decide (a.af<b.af)) d.aG
def dbC(d:aF):Int:=bif decide ((99:Int)<(d.aG.length:Int))then 3 else bif d.aG.all cc then(bif aeL d then 0 else 25)else 1
theorem uc(d:aF):iM d=some (dbC d):=by
 unfold iM dbC
 by_cases h:(99:Int)<d.aG.length
 ·simp[h]
 simp only[h,decide_false,cond_false]
 refine(qi (λa=>!cc a) (some 1) ?_ _ _ _).trans ?_
 ·intro j x Z s;simp only[ru,aL]
 rw[←List.not_all_eq_any_not]
 cases d.aG.all cc
 ·rfl
 simp only[Bool.not_true,cond_false,cond_true]
 refine(zu (λa b:ai=>decide (a.af<b.af)) (some 25) ?_ _).trans ?_
 ·intro j x y r q s Z hL hj
  simp only[nH hL hj (by omega),aL,xE]
  cases decide (y.af<x.af)<;>rfl
 ·unfold aeL;cases gd _ d.aG<;>rfl
theorem cfA(l:List ai)(f:ai→Option Bool)(p:ai→Bool)(hf:∀x,f x=some (p x)):dx l f=some (l.any p):=by
 unfold dx ez
 obtain⟨r,h1,h2⟩:=vQ (B:=λ(j1:Int) (e1:ai) (Z1:Unit→Option Int) (sg:Unit)=>match sg with|()=>bnd (f e1) λ(ah:Bool)=>bif ah then some (j1:Int)else Z1 ()) (K:=λ(sg:Unit)=>match sg with|()=>some (-1:Int)) p (λj x Z s=>by simp only[hf,aL]) (λ_=>rfl) l 0 ()
 simp only[h1,aL,h2]
theorem yt(d:aF):fU d=some (dbC d):=by
 unfold fU dbC
 by_cases h:(99:Int)<d.aG.length
 ·simp[h]
 simp only[h,decide_false,cond_false]
 rw[cfA d.aG _ (λa=>!cc a) (λx=>by simp only[mV,tT,aL]),aL]
 rw[←List.not_all_eq_any_not]
 cases d.aG.all cc
 ·rfl
 simp only[Bool.not_true,cond_false,cond_true]
 refine(zv (λa b:ai=>decide (a.af<b.af)) (some 25) ?_ ?_ _).trans ?_
 ·intros;rfl
 ·intro j x y r q s Z hL hj
  have:decide ((0:Int)<(j:Int))=true:=by simp;omega
  simp only[jn,nH hL hj (by omega),aL,xE,this]
  cases decide (y.af<x.af)<;>rfl
 ·unfold aeL;cases gd _ d.aG<;>rfl
def acN(l m:List bw):Bool:=decide ((l.length:Int)=m.length)&&(l.zip m).all (λp=>nv p.1 p.2)
def acO(l m:List bG):Bool:=decide ((l.length:Int)=m.length)&&(l.zip m).all (λp=>nu p.1 p.2)
def nP(a b:ai):Bool:=decide (a.af=b.af)&&(decide (a.Seq=b.Seq)&&((a.aY==b.aY)&&(acN a.Links b.Links&&acO a.Claims b.Claims)))
theorem ap0(l m:List bw):gV l m=some (acN l m):=by
 unfold gV acN
 by_cases h:(l.length:Int)=m.length
 ·simp only[h,decide_true,Bool.not_true,cond_false,Bool.true_and]
  rw[vW nv (some false) (λj x Z s=>rfl) l (by omega)]
  cases(l.zip m).all _<;>rfl
 ·simp[h]
theorem ap1(l m:List bG):gW l m=some (acO l m):=by
 unfold gW acO
 by_cases h:(l.length:Int)=m.length
 ·simp only[h,decide_true,Bool.not_true,cond_false,Bool.true_and]
  rw[vW nu (some false) (λj x Z s=>rfl) l (by omega)]
  cases(l.zip m).all _<;>rfl
 ·simp[h]
theorem aag(a b:ai):jB a b=some (nP a b):=by
 unfold jB nP
 simp only[ap0,ap1,aL]
 cases decide (a.af=b.af)<;>cases decide (a.Seq=b.Seq)<;>cases(a.aY==b.aY)<;>cases acN a.Links b.Links<;>cases acO a.Claims b.Claims<;>rfl
theorem abX(a b:ai):vJ a b=some (nP a b):=by
 unfold vJ nP acN acO
 by_cases hl:(a.Links.length:Int)=b.Links.length
 ·by_cases hc:(a.Claims.length:Int)=b.Claims.length
  ·simp only[hl,hc,decide_true,Bool.not_true,Bool.or_false,Bool.true_and]
   rw[vW nv (some false) (λj x Z s=>rfl) a.Links (by omega),vW nu (some false) (λj x Z s=>rfl) a.Claims (by omega)]
   cases decide (a.af=b.af)<;>cases decide (a.Seq=b.Seq)<;>cases(a.aY==b.aY)<;>cases(a.Links.zip b.Links).all _<;>cases(a.Claims.zip b.Claims).all _<;>rfl
  ·simp[hc]
 ·simp[hl]
def yu(a b:aF):Bool:=decide ((a.aG.length:Int)=b.aG.length)&&(a.aG.zip b.aG).all (λp=>nP p.1 p.2)
theorem amY(a b:aF):kU a b=some (yu a b):=by
 unfold kU cI yu
 by_cases h:(a.aG.length:Int)=b.aG.length
 ·simp only[h,decide_true,Bool.not_true,cond_false,Bool.true_and]
  rw[vW (m:=b.aG) nP (some false) (λj x Z s=>by simp only[aag,aL]) a.aG (by omega)]
  cases(a.aG.zip b.aG).all _<;>rfl
 ·simp[h,aL]
def noA:ai:=ai.mk 0 0 false [] []
def fN(d:aF)(r:Int):ai×Bool:=match d.aG.find? (λa=>decide (a.af=r))with|some a=>(a,true)|none=>(noA,false)
theorem yw(d:aF)(r:Int):sR d r=some (fN d r):=by
 unfold sR
 rw[uB (λa:ai=>decide (a.af=r)) (λa=>some (a,true)) (λj x Z s=>rfl)]
 unfold fN
 cases d.aG.find? _<;>rfl
def SmA(a:ai):Prop:=a.Links.length≤100000∧a.Claims.length≤100000
def SmD(d:aF):Prop:=d.aG.length≤100000∧∀a∈d.aG,SmA a
theorem ahN{l:List bw}(h:l.length≤100000):dI l=some l:=by
 unfold dI dV
 rw[eB (by simp;omega)];rfl
theorem abY{l:List bG}(h:l.length≤100000):dh l=some l:=by
 unfold dh dU
 rw[eB (by simp;omega)];rfl
theorem wK{a:ai}(h:SmA a):fE a=some a:=by
 unfold fE
 rw[ahN h.1,aL,abY h.2,aL]
theorem afP{d:aF}(h:SmD d)(r:Int):kV d r=some (fN d r):=by
 unfold kV
 rw[uB (λa:ai=>decide (a.af=r)) (λa=>bnd (fE a) λ(ah:ai)=>some (ah,true)) (λj x Z s=>rfl)]
 unfold fN
 cases hf:d.aG.find? (λa=>decide (a.af=r))with
 |none=>rfl
 |some a=>simp only[wK (h.2 a (List.mem_of_find?_eq_some hf)),aL]
end Go.Proofs.YtjdopimopgpagaaGreat
namespace Go.Proofs.YtjdopimopgpagaaGreat
set_option linter.all false
open Go
variable {t:aU}
theorem adm(h:cA t):Ok (jQ t) (λp=>nJ p.1=true∧cA p.2):=by
 unfold jQ
 refine Ok.bnd (mK h (by decide) (by decide)) λp hp=>Ok.s ⟨?_,hp.2⟩
 have:=hp.1
 simp only[List.mem_cons,List.not_mem_nil,or_false]at this
 show nJ p.1=true
 simp only[nJ,Bool.or_eq_true,decide_eq_true_eq];omega
theorem xF{α:Type}{p:α→α→Bool}:∀{l:List α} {x:α},gd p l=true→(∀y∈l,p y x=true)→gd p (l++[x])=true
 |[],_,_,_=>rfl
 |[a],x,_,h=>by simp[gd,h a (by simp)]
 |a::b::r,x,h,hx=>by
  simp only[gd,Bool.and_eq_true]at h
  simp only[List.cons_append,gd,Bool.and_eq_true]
  exact⟨h.1,xF h.2 λy hy=>hx y (by simp[hy])⟩
theorem aah{α:Type}{p:α→Bool}{l:List α}{x:α}(h:l.all p=true)(hx:p x=true):(l++[x]).all p=true:=by simp[h,hx]
theorem adn{r n:Int}(h:cA t)(hn:n≤9223372036854775807):Ok (jU t r n) (λp=>SmA p.1∧(n=0→1≤r→r≤99→cc p.1=true∧p.1.af=r∧∀l∈p.1.Links,l.bu≤6)∧cA p.2):=by
 unfold jU
 refine Ok.bnd (mK h (by decide) (by decide)) λp1 h1=>?_
 have ajn:inB p1.1 1 1000000=true:=by
  have:=h1.1
  simp only[List.mem_cons,List.not_mem_nil,or_false]at this
  simp only[inB,Bool.and_eq_true,decide_eq_true_eq];omega
 refine Ok.bnd (fJ h1.2 (by omega)) λp2 h2=>?_
 refine Ok.gO (λj (s:List bw×List Int×Int)=>((s.1.length:Int)≤j-1∧(1≤r→s.1.all (lQ (ai.mk r 0 false [] []))=true)∧vX s.1=true∧(∀x∈s.1,x.bu<j))∧cA (aU.mk s.2.1 s.2.2)) 1 7 ?_ ?_ _ _ _ rfl (by omega) (by omega) ⟨by simp[vX,gd],h2.2⟩
 ·intro j s Z hj1 hj2 hI hZ
  obtain⟨ls,L,At⟩:=s
  obtain⟨⟨q1,q2,q3,q4⟩,ht⟩:=hI
  simp only at q1 q2 q3 q4
  refine Ok.jn (λs:List Int×Int×List bw=>((s.2.2.length:Int)≤j∧(1≤r→s.2.2.all (lQ (ai.mk r 0 false [] []))=true)∧vX s.2.2=true∧(∀x∈s.2.2,x.bu<j+1))∧cA (aU.mk s.1 s.2.1)) (λs hs=>hZ _ ⟨⟨by have:=hs.1.1;obtain⟨_,_,_⟩:=s;simp only at this ⊢;omega,hs.1.2.1,hs.1.2.2⟩,hs.2⟩) λJ1 hJ1=>?_
  have stay:∀L At,cA (aU.mk L At)→Ok (J1 (L,At,ls)) _:=λL At ht=>hJ1 _ ⟨⟨by show(ls.length:Int)≤j;omega,q2,q3,λx hx=>by have:=q4 x hx;omega⟩,ht⟩
  refine Ok.jn (λs:Bool×List Int×Int=>(s.1=true→j≠r)∧cA (aU.mk s.2.1 s.2.2)) (λs hs=>?_) λJ2 hJ2=>?_
  ·obtain⟨v,L2,At2⟩:=s
   refine Ok.cs (λhv=>?_) λ_=>stay _ _ hs.2
   refine Ok.bnd (nI hs.2) λp4 h4=>?_
   refine Ok.bnd (fJ h4.2 (by omega)) λp5 h5=>?_
   refine Ok.bnd (mb (by simp;omega)) λl1 hl1=>?_
   obtain⟨hl1,hl2⟩:=hl1
   have hc:=h4.1 (by omega) (by omega) (by omega)
   have hcap:=h5.1
   refine hJ1 _ ⟨⟨by simp only;rw[hl2];simp;omega,λhr=>?_,?_,?_⟩,h5.2⟩
   ·simp only[hl1]
    refine aah (q2 hr) ?_
    have hne:=hs.1 hv
    simp only[lQ,inB,Bool.and_eq_true,decide_eq_true_eq,Bool.not_eq_true',decide_eq_false_iff_not]
    have:=hcap.2.1 (by omega)
    omega
   ·simp only[hl1,vX]
    exact xF q3 λy hy=>by simpa using q4 y hy
   ·simp only[hl1]
    intro x hx
    rcases List.mem_append.1 hx with hx|hx
    ·have:=q4 x hx;omega
    ·simp at hx;subst hx;show j<j+1;omega
  ·refine Ok.cs (λhc=>?_) λ_=>hJ2 _ ⟨by simp,ht⟩
   refine Ok.bnd (fJ ht (by omega)) λp3 h3=>hJ2 _ ⟨λ_=>by simpa using hc,h3.2⟩
 intro j s hj1 hj2 hI
 obtain⟨ls,L,At⟩:=s
 obtain⟨⟨q1,q2,q3,q4⟩,ht⟩:=hI
 have hj:=hj2 (by omega)
 subst hj
 simp only at q1 q2 q3 q4
 refine Ok.gO (λk (s:List bG×List Int×Int)=>((s.1.length:Int)≤k∧s.1.all iY=true∧qO s.1=true∧(∀x∈s.1,x.bZ<k))∧cA (aU.mk s.2.1 s.2.2)) 0 2 ?_ ?_ _ _ _ rfl (by omega) (by omega) ⟨by simp[qO,gd],ht⟩
 ·intro k s Z hk1 hk2 hI hZ
  obtain⟨cs,L,At⟩:=s
  obtain⟨⟨r1,r2,r3,r4⟩,ht⟩:=hI
  simp only at r1 r2 r3 r4
  refine Ok.jn (λs:List Int×Int×List bG=>((s.2.2.length:Int)≤k+1∧s.2.2.all iY=true∧qO s.2.2=true∧(∀x∈s.2.2,x.bZ<k+1))∧cA (aU.mk s.1 s.2.1)) (λs hs=>hZ _ ⟨hs.1,hs.2⟩) λJ3 hJ3=>?_
  refine Ok.bnd (fJ ht (by omega)) λp6 h6=>?_
  refine Ok.cs (λ_=>?_) λ_=>hJ3 _ ⟨⟨by show(cs.length:Int)≤_;omega,r2,r3,λx hx=>by have:=r4 x hx;omega⟩,h6.2⟩
  refine Ok.bnd (nI h6.2) λp7 h7=>?_
  refine Ok.bnd (adm h7.2) λp8 h8=>?_
  refine Ok.bnd (mb (by simp;omega)) λl2 hl2=>?_
  obtain⟨hl1,hl2⟩:=hl2
  have hid:=h7.1 (by omega) (by omega) (by omega)
  refine hJ3 _ ⟨⟨by simp only;rw[hl2];simp;omega,?_,?_,?_⟩,h8.2⟩
  ·simp only[hl1]
   refine aah r2 ?_
   simp only[iY,inB,h8.1,Bool.and_true,Bool.and_eq_true,decide_eq_true_eq]
   omega
  ·simp only[hl1,qO]
   exact xF r3 λy hy=>by simpa using r4 y hy
  ·simp only[hl1]
   intro x hx
   rcases List.mem_append.1 hx with hx|hx
   ·have:=r4 x hx;omega
   ·simp at hx;subst hx;show k<k+1;omega
 intro k s hk1 hk2 hI
 obtain⟨cs,L,At⟩:=s
 obtain⟨⟨r1,r2,r3,r4⟩,ht⟩:=hI
 have hk:=hk2 (by omega)
 subst hk
 simp only at r1 r2 r3 r4
 refine Ok.jn (λs:List Int×Int×Int×Int×List bw×List bG=>(s.2.2.2.2.1.length≤100000∧s.2.2.2.2.2.length≤100000)∧(n=0→s.2.2=(r,p1.1,ls,cs))∧cA (aU.mk s.1 s.2.1)) (λs hs=>?_) λJ4 hJ4=>?_
 ·obtain⟨a1,a2,a3,a4,a5,a6⟩:=s
  refine Ok.s ⟨hs.1,λhn hr1 hr2=>?_,hs.2.2⟩
  have:=hs.2.1 hn
  simp only[Prod.mk.injEq]at this
  obtain⟨rfl,rfl,rfl,rfl⟩:=this
  refine⟨?_,rfl,λl hl=>by have:=q4 l hl;omega⟩
  have g1:a5.all (lQ (ai.mk a3 p1.1 (decide ((0:Int)<p2.1)) a5 a6))=true:=q2 hr1
  simp only[inB,Bool.and_eq_true,decide_eq_true_eq]at ajn
  simp only[cc,g1,q3,r2,r3,Bool.and_true,Bool.true_and,Bool.and_eq_true,decide_eq_true_eq,inB]
  omega
 refine Ok.jn (λs:Bool×List Int×Int=>(n=0→s.1=false)∧cA (aU.mk s.2.1 s.2.2)) (λs hs=>?_) λJ5 hJ5=>?_
 ·obtain⟨v,L2,At2⟩:=s
  have base:∀L At a b (l:List bw) (c:List bG),n≠0→l.length≤100000→c.length≤100000→cA (aU.mk L At)→Ok (J4 (L,At,a,b,l,c)) _:=λL At a b l c hn h1 h2 h3=>hJ4 _ ⟨⟨h1,h2⟩,λh=>absurd h hn,h3⟩
  refine Ok.cs (λhv=>?_) λ_=>hJ4 _ ⟨⟨by show ls.length≤_;omega,by show cs.length≤_;omega⟩,λ_=>rfl,hs.2⟩
  have hn0:n≠0:=λe=>by have:=hs.1 e;simp only at hv this;rw[hv]at this;cases this
  refine Ok.bnd (fJ hs.2 (by omega)) λp10 h10=>?_
  refine Ok.cs (λ_=>Ok.bnd (acH h10.2) λq hq=>base _ _ _ _ _ _ hn0 (by omega) (by omega) hq) λ_=>?_
  refine Ok.cs (λ_=>Ok.bnd (acH h10.2) λq hq=>base _ _ _ _ _ _ hn0 (by omega) (by omega) hq) λ_=>?_
  refine Ok.cs (λ_=>?_) λ_=>?_
  ·refine Ok.bnd (mK h10.2 (by simp) (by simp)) λq1' g1=>Ok.bnd (mK g1.2 (by decide) (by decide)) λq2' g2=>Ok.bnd (mK g2.2 (by decide) (by decide)) λq3' g3=>?_
   exact Ok.bnd (mb (by simp;omega)) λl hl=>base _ _ _ _ _ _ hn0 (by rw[hl.2];simp;omega) (by omega) g3.2
  refine Ok.cs (λ_=>?_) λ_=>?_
  ·refine Ok.bnd (mK h10.2 (by decide) (by decide)) λq1' g1=>Ok.bnd (mK g1.2 (by decide) (by decide)) λq2' g2=>Ok.bnd (mK g2.2 (by decide) (by decide)) λq3' g3=>?_
   exact Ok.bnd (mb (by simp;omega)) λl hl=>base _ _ _ _ _ _ hn0 (by omega) (by rw[hl.2];simp;omega) g3.2
  refine Ok.cs (λ_=>?_) λ_=>?_
  ·refine Ok.gO (λj (m:List bw)=>(m.length:Int)≤ls.length+(j-30)) 30 54 ?_ ?_ _ _ _ rfl (by omega) (by omega) (by omega)
   ·intro j m Z hj1 hj2 hI hZ
    exact Ok.bnd (mb (by simp;omega)) λl hl=>hZ _ (by rw[hl.2];simp;omega)
   ·intro j m hj1 hj2 hI
    have:=hj2 (by omega)
    exact base _ _ _ _ _ _ hn0 (by omega) (by omega) h10.2
  refine Ok.cs (λhl0=>?_) λ_=>base _ _ _ _ _ _ hn0 (by omega) (by omega) h10.2
  refine Ok.bnd (acH h10.2) λq hq=>?_
  simp at hl0
  refine Ok.bnd (rj (by omega) (by omega)) λe he=>?_
  exact Ok.bnd (ahG (by omega) (by omega)) λl hl=>base _ _ _ _ _ _ hn0 (by rw[hl.2];omega) (by omega) hq
 ·refine Ok.cs (λhc=>?_) λ_=>hJ5 _ ⟨λ_=>rfl,ht⟩
  have:n≠0:=by simp at hc;omega
  exact Ok.bnd (zx ht hn) λq hq=>hJ5 _ ⟨λe=>absurd e this,hq⟩
theorem afk{n:Int}(h:cA t)(hn:n≤9223372036854775807):Ok (kG t n) (λp=>(SmD p.1∧p.1.aG.length≤7∧(n=0→dbC p.1=0∧(∀a∈p.1.aG,a.af≤6)∧∀a∈p.1.aG,∀l∈a.Links,l.bu≤6) )∧cA p.2):=by
 unfold kG
 refine Ok.gO (λj (s:List ai×List Int×Int)=>((s.1.length:Int)≤j-1∧(∀a∈s.1,SmA a)∧s.1.all cc=true∧gd (λa b:ai=>decide (a.af<b.af)) s.1=true∧(∀a∈s.1,a.af<j)∧∀a∈s.1,∀l∈a.Links,l.bu≤6)∧cA (aU.mk s.2.1 s.2.2)) 1 7 ?_ ?_ _ _ _ rfl (by omega) (by omega) ⟨by simp[gd],h⟩
 ·intro j s Z hj1 hj2 hI hZ
  obtain⟨ads,L,At⟩:=s
  obtain⟨⟨q1,q2,q3,q4,q5,q6⟩,ht⟩:=hI
  simp only at q1 q2 q3 q4 q5 q6
  refine Ok.jn (λs:List Int×Int×List ai=>((s.2.2.length:Int)≤j∧(∀a∈s.2.2,SmA a)∧s.2.2.all cc=true∧gd (λa b:ai=>decide (a.af<b.af)) s.2.2=true∧(∀a∈s.2.2,a.af<j+1)∧∀a∈s.2.2,∀l∈a.Links,l.bu≤6)∧cA (aU.mk s.1 s.2.1)) (λs hs=>hZ _ ⟨⟨by have:=hs.1.1;obtain⟨_,_,_⟩:=s;simp only at this ⊢;omega,hs.1.2⟩,hs.2⟩) λJ1 hJ1=>?_
  refine Ok.bnd (fJ ht (by omega)) λp1 h1=>?_
  refine Ok.cs (λ_=>?_) λ_=>hJ1 _ ⟨⟨by show(ads.length:Int)≤j;omega,q2,q3,q4,λa ha=>by have:=q5 a ha;omega,q6⟩,h1.2⟩
  refine Ok.bnd (adn (n:=0) h1.2 (by omega)) λp2 h2=>?_
  obtain⟨g1,g2,g3⟩:=h2
  have g2:=g2 rfl (by omega) (by omega)
  refine Ok.bnd (mb (by simp;omega)) λl hl=>?_
  obtain⟨hl,hl2⟩:=hl
  refine hJ1 _ ⟨⟨by simp only;rw[hl2];simp;omega,?_,?_,?_,?_,?_⟩,g3⟩
  ·simp only[hl];intro a ha
   rcases List.mem_append.1 ha with ha|ha
   ·exact q2 a ha
   ·simp at ha;subst ha;exact g1
  ·simp only[hl];exact aah q3 g2.1
  ·simp only[hl];exact xF q4 λy hy=>by have:=q5 y hy;simp[g2.2.1];omega
  ·simp only[hl];intro a ha
   rcases List.mem_append.1 ha with ha|ha
   ·have:=q5 a ha;omega
   ·simp at ha;subst ha;rw[g2.2.1];omega
  ·simp only[hl];intro a ha
   rcases List.mem_append.1 ha with ha|ha
   ·exact q6 a ha
   ·simp at ha;subst ha;exact g2.2.2
 intro j s hj1 hj2 hI
 obtain⟨ads,L,At⟩:=s
 obtain⟨⟨q1,q2,q3,q4,q5,q6⟩,ht⟩:=hI
 have hj:=hj2 (by omega)
 subst hj
 simp only at q1 q2 q3 q4 q5 q6
 refine Ok.jn (λs:List Int×Int×List ai=>(s.2.2.length≤7∧(∀a∈s.2.2,SmA a)∧(n=0→s.2.2=ads))∧cA (aU.mk s.1 s.2.1)) (λs hs=>?_) λJ2 hJ2=>?_
 ·obtain⟨a1,a2,a3⟩:=s
  obtain⟨⟨g1,g2,g3⟩,g4⟩:=hs
  simp only at g1 g2 g3
  refine Ok.s ⟨⟨⟨by show a3.length≤_;omega,g2⟩,g1,λh0=>?_⟩,g4⟩
  have:=g3 h0
  subst this
  refine⟨?_,λa ha=>by have:=q5 a ha;omega,q6⟩
  have e:¬(99:Int)<a3.length:=by omega
  simp only[dbC,q3,aeL,q4,e,decide_false,cond_true,cond_false]
 refine Ok.jn (λs:Bool×List Int×Int=>(n=0→s.1=false)∧cA (aU.mk s.2.1 s.2.2)) (λs hs=>?_) λJ3 hJ3=>?_
 ·obtain⟨v,L2,At2⟩:=s
  refine Ok.cs (λhv=>?_) λ_=>hJ2 _ ⟨⟨by show ads.length≤_;omega,q2,λ_=>rfl⟩,hs.2⟩
  have hn0:n≠0:=λe=>by have:=hs.1 e;simp only at hv this;rw[hv]at this;cases this
  refine Ok.bnd (mK hs.2 (by decide) (by decide)) λp4 h4=>?_
  refine Ok.bnd (adn h4.2 (by omega)) λp5 h5=>?_
  refine Ok.bnd (mb (by simp;omega)) λl hl=>?_
  obtain⟨hl,hl2⟩:=hl
  refine hJ2 _ ⟨⟨by simp only;rw[hl2];simp;omega,?_,λe=>absurd e hn0⟩,h5.2.2⟩
  simp only[hl];intro a ha
  rcases List.mem_append.1 ha with ha|ha
  ·exact q2 a ha
  ·simp at ha;subst ha;exact h5.1
 ·refine Ok.cs (λhc=>?_) λ_=>hJ3 _ ⟨λ_=>rfl,ht⟩
  have:n≠0:=by simp at hc;omega
  exact Ok.bnd (zx ht hn) λq hq=>hJ3 _ ⟨λe=>absurd e this,hq⟩
end Go.Proofs.YtjdopimopgpagaaGreat
namespace Go.Proofs.YtjdopimopgpagaaGreat
set_option linter.all false
open Go
structure Vd(d:aF):Prop where
 n:d.aG.length≤99
 ok:∀a∈d.aG,cc a=true
 asc:d.aG.Pairwise (λa b=>a.af<b.af)
variable {d:aF}
theorem jL:dbC d=0↔Vd d:=by
 unfold dbC aeL
 constructor
 ·intro h
  by_cases h1:(99:Int)<d.aG.length
  ·simp[h1]at h
  cases h2:d.aG.all cc
  ·simp[h1,h2]at h
  cases h3:gd (λa b:ai=>decide (a.af<b.af)) d.aG
  ·simp[h1,h2,h3]at h
  refine⟨by omega,λa ha=>List.all_eq_true.1 h2 a ha,?_⟩
  have:=qj (p:=λa b:ai=>decide (a.af<b.af)) (λa b c h1 h2=>by simp at h1 h2 ⊢;omega) h3
  exact this.imp (λh=>by simpa using h)
 ·intro h
  have h1:¬(99:Int)<d.aG.length:=by have:=h.n;omega
  have h2:d.aG.all cc=true:=List.all_eq_true.2 h.ok
  have h3:gd (λa b:ai=>decide (a.af<b.af)) d.aG=true:=og (h.asc.imp λh=>by simpa using h)
  simp[h1,h2,h3]
structure Va(a:ai):Prop where
 r:1≤a.af∧a.af≤99
 n:a.Links.length≤23
 nc:a.Claims.length≤8
 g:∀x∈a.Links,(1≤x.bu∧x.bu≤99)∧x.bu≠a.af∧(1≤x.lq∧x.lq≤1000)∧0≤x.cg∧x.cg≤1000
 asc:a.Links.Pairwise (λx y=>x.bu<y.bu)
variable {a:ai}
theorem adS(h:cc a=true):Va a:=by
 simp only[cc,Bool.and_eq_true,decide_eq_true_eq,inB]at h
 obtain⟨⟨⟨⟨h1,_⟩,h2⟩,h3,h4⟩,h5,_⟩:=h
 refine⟨h1,by omega,by omega,λx hx=>?_,?_⟩
 ·have:=List.all_eq_true.1 h3 x hx
  simp only[lQ,inB,Bool.and_eq_true,decide_eq_true_eq,Bool.not_eq_true',decide_eq_false_iff_not]at this
  exact⟨this.1.1.1,this.1.1.2,this.1.2,this.2⟩
 ·have:=qj (p:=λa b:bw=>decide (a.bu<b.bu)) (λa b c h1 h2=>by simp at h1 h2 ⊢;omega) h4
  exact this.imp (λh=>by simpa using h)
theorem Vd.sm(h:Vd d):SmD d:=⟨by have:=h.n;omega,λa ha=>by have:=adS (h.ok a ha);exact⟨by have:=this.n;omega,by have:=this.nc;omega⟩⟩
theorem abm{α:Type}{f:α→Int}:∀{l:List α},l.Pairwise (λa b=>f a<f b)→∀{a b:α},a∈l→b∈l→f a=f b→a=b
 |[],_,_,_,h,_,_=>by simp at h
 |x::r,hp,a,b,ha,hb,he=>by
  rw[List.pairwise_cons]at hp
  rcases List.mem_cons.1 ha with ea|ha'
  ·rcases List.mem_cons.1 hb with eb|hb'
   ·rw[ea,eb]
   ·have:=hp.1 b hb';rw[ea]at he;omega
  ·rcases List.mem_cons.1 hb with eb|hb'
   ·have:=hp.1 a ha';rw[eb]at he;omega
   ·exact abm hp.2 ha' hb' he
theorem Vd.uniq(h:Vd d){b:ai}(ha:a∈d.aG)(hb:b∈d.aG)(he:a.af=b.af):a=b:=abm h.asc ha hb he
theorem Va.uniq(h:Va a){x y:bw}(hx:x∈a.Links)(hy:y∈a.Links)(he:x.bu=y.bu):x=y:=abm h.asc hx hy he
theorem lR(d:aF)(r:Int):(∃a∈d.aG,a.af=r∧fN d r=(a,true))∨((∀a∈d.aG,a.af≠r)∧fN d r=(noA,false)):=by
 unfold fN
 cases h:d.aG.find? (λa=>decide (a.af=r))with
 |some a=>exact .inl ⟨a,List.mem_of_find?_eq_some h,by simpa using List.find?_some h,rfl⟩
 |none=>exact .inr ⟨λa ha=>by simpa using List.find?_eq_none.1 h a ha,rfl⟩
theorem amZ(h:Vd d)(ha:a∈d.aG):fN d a.af=(a,true):=by
 rcases lR d a.af with⟨b,hb,he,hf⟩|⟨hn,_⟩
 ·rw[hf,h.uniq hb ha he]
 ·exact absurd rfl (hn a ha)
def LkD(d:aF)(a b:Int):Prop:=∃x∈d.aG,∃y∈d.aG,x.af=a∧y.af=b∧(∃p∈x.Links,p.bu=b)∧∃q∈y.Links,q.bu=a
variable {b:Int}
theorem LkD.symm{a:Int}(h:LkD d a b):LkD d b a:=by
 obtain⟨x,hx,y,hy,e1,e2,p,q⟩:=h
 exact⟨y,hy,x,hx,e2,e1,q,p⟩
def mkL(x:ai)(p:bw)(y:ai)(q:bw):aV:=aV.mk x.af y.af p.lq q.lq (if q.cg<p.cg then q.cg else p.cg)
def IsLy(x y:ai)(l:aV):Prop:=∃p∈x.Links,∃q∈y.Links,x.af<y.af∧p.bu=y.af∧q.bu=x.af∧l=mkL x p y q
inductive Rd(d:aF)(at1:Int):Int→Prop
 |refl:Rd d at1 at1
 |step {a b:Int} (h:Rd d at1 a) (hl:LkD d a b):Rd d at1 b
structure IsV(d:aF)(at1:Int)(T:aB):Prop where
 ap2:T.aI.Pairwise (λa b=>a.ID<b.ID)
 ap3:∀r,r∈T.aI↔∃a∈d.aG,Rd d at1 a.af∧r=bf.mk a.af a.aY
 ap4:T.Links.Pairwise (λa b=>ltL a b=true)
 ap5:∀l,l∈T.Links↔∃x∈d.aG,Rd d at1 x.af∧∃y∈d.aG,IsLy x y l
theorem s7{α:Type}{r:α→α→Prop}(hi:∀a,¬r a a)(ht:∀a b c,r a b→r b c→r a c):∀{l m:List α},l.Pairwise r→m.Pairwise r→(∀x,x∈l↔x∈m)→l=m
 |[],[],_,_,_=>rfl
 |[],y::m,_,_,h=>by have:=(h y).2 (by simp);simp at this
 |x::l,[],_,_,h=>by have:=(h x).1 (by simp);simp at this
 |x::l,y::m,h1,h2,h=>by
  rw[List.pairwise_cons]at h1 h2
  have hxy:x=y:=by
   rcases List.mem_cons.1 ((h x).1 (by simp))with e|e
   ·exact e
   rcases List.mem_cons.1 ((h y).2 (by simp))with e'|e'
   ·exact e'.symm
   ·exact absurd (ht _ _ _ (h1.1 y e') (h2.1 x e)) (hi x)
  subst hxy
  congr 1
  refine s7 hi ht h1.2 h2.2 λz=>?_
  have:=h z
  simp only[List.mem_cons]at this
  constructor
  ·intro hz
   rcases this.1 (.inr hz)with q|q
   ·subst q;exact absurd (h1.1 _ hz) (hi _)
   ·exact q
  ·intro hz
   rcases this.2 (.inr hz)with q|q
   ·subst q;exact absurd (h2.1 _ hz) (hi _)
   ·exact q
theorem IsV.unique{at1:Int}{T U:aB}(h1:IsV d at1 T)(h2:IsV d at1 U):T=U:=by
 obtain⟨r1,l1⟩:=T
 obtain⟨r2,l2⟩:=U
 have e1:r1=r2:=s7 (r:=λa b:bf=>a.ID<b.ID) (λa h=>by omega) (λa b c h h'=>by omega) h1.ap2 h2.ap2 λx=>(h1.ap3 x).trans (h2.ap3 x).symm
 have e2:l1=l2:=s7 (r:=λa b:aV=>ltL a b=true) (λa h=>by simp[ltL]at h) (λa b c h h'=>wH a b c h h') h1.ap4 h2.ap4 λx=>(h1.ap5 x).trans (h2.ap5 x).symm
 rw[e1,e2]
def ap6:aB:=aB.mk [] []
def agP(d:aF)(at1:Int)(T:aB):Prop:=(¬((∃a∈d.aG,a.af=at1)∧Vd d)∧T=ap6)∨(((∃a∈d.aG,a.af=at1)∧Vd d)∧∃T0,IsV d at1 T0∧T=if lz T0=0 then T0 else ap6)
theorem agP.unique{d:aF}{at1:Int}{T U:aB}(h1:agP d at1 T)(h2:agP d at1 U):T=U:=by
 rcases h1 with⟨a,b⟩|⟨a,T0,b,c⟩<;>rcases h2 with⟨a',b'⟩|⟨a',U0,b',c'⟩
 ·rw[b,b']
 ·exact absurd a' a
 ·exact absurd a a'
 ·rw[c,c',b.unique b']
def rts(d:aF):List Int:=d.aG.map (·.af)
theorem LkD.mem{a:Int}(h:LkD d a b):b∈rts d:=by
 obtain⟨x,hx,y,hy,e1,e2,_⟩:=h
 exact List.mem_map.2 ⟨y,hy,e2⟩
theorem Vd.key(h:Vd d){r:Int}(ha:a∈d.aG)(he:a.af=r):fN d r=(a,true):=by subst he;exact amZ h ha
theorem am0{a b:aV}:ltL a b=true↔a.A<b.A∨a.A=b.A∧a.B<b.B:=by simp[ltL]
end Go.Proofs.YtjdopimopgpagaaGreat
namespace Go.Proofs.YtjdopimopgpagaaGreat
set_option linter.all false
open Go
def uS:List Int→Nat:=List.foldl (λa b=>a*256+b.toNat) 0
theorem vZ(l:List Int)(b:Int):uS (l++[b])=uS l*256+b.toNat:=by simp[uS]
variable {α:Type}
theorem acP:∀{l:List α},l≠[]→∃i b,l=i++[b]:=λ{l} h=>⟨l.dropLast,l.getLast h,(List.dropLast_concat_getLast h).symm⟩
theorem aeM:∀(n:Nat) (l m:List Int),l.length=n→m.length=n→(∀b∈l,0≤b∧b<256)→(∀b∈m,0≤b∧b<256)→uS l=uS m→l=m
 |0,l,m,h1,h2,_,_,_=>by simp at h1 h2;rw[h1,h2]
 |n+1,l,m,h1,h2,hl,hm,h=>by
  obtain⟨i,b,rfl⟩:=acP (l:=l) (by intro e;simp[e]at h1)
  obtain⟨j,c,rfl⟩:=acP (l:=m) (by intro e;simp[e]at h2)
  rw[vZ,vZ]at h
  have hb:=hl b (by simp)
  have hc:=hm c (by simp)
  have e1:b=c:=by omega
  have e2:uS i=uS j:=by omega
  subst e1
  rw[aeM n i j (by simpa using h1) (by simpa using h2) (λx hx=>hl x (by simp[hx])) (λx hx=>hm x (by simp[hx])) e2]
structure SR(D:List Int)(B V:Nat):Prop where
 by_:∀b∈D,0≤b∧b<256
 le:B≤8*D.length
 hi:8*D.length≤B+8
 num:uS D=V*2 ^ (8*D.length-B)
variable {B V:Nat}
theorem SR.unique{D E:List Int}(h1:SR D B V)(h2:SR E B V)(a:8*D.length<B+8)(b:8*E.length<B+8):D=E:=by
 have e:D.length=E.length:=by have:=h1.le;have:=h2.le;omega
 exact aeM _ D E rfl e.symm h1.by_ h2.by_ (by rw[h1.num,h2.num,e])
theorem SR.nil:SR [] 0 0:=⟨by simp,by simp,by simp,by simp[uS]⟩
theorem SR.more{D:List Int}(h:SR D B V)(h8:8*D.length=B):SR (D++[0]) B V:=by
 refine⟨?_,by simp;omega,by simp;omega,?_⟩
 ·intro b hb
  rcases List.mem_append.1 hb with hb|hb
  ·exact h.by_ b hb
  ·simp at hb;omega
 ·rw[vZ,h.num]
  have e:8*(D++[(0:Int)]).length-B=8:=by simp;omega
  rw[e]
  have e2:8*D.length-B=0:=by omega
  rw[e2];simp
theorem SR.last{D:List Int}{b:Int}(h:SR (D++[b]) B V)(hf:B<8*(D.length+1)):0≤b∧b<256∧b.toNat%2 ^ (8*(D.length+1)-B)=0:=by
 have hb:=h.by_ b (by simp)
 refine⟨hb.1,hb.2,?_⟩
 have hn:=h.num
 have hh:=h.hi
 simp only[List.length_append,List.length_cons,List.length_nil,Nat.zero_add]at hn hh
 rw[vZ]at hn
 generalize hk:8*(D.length+1)-B=k at hn ⊢
 have h1:(256:Nat)=2 ^ k*2 ^ (8-k):=by rw[←Nat.pow_add,show k+(8-k)=8 by omega]
 have h2:(uS D*256+b.toNat)%2 ^ k=0:=by rw[hn];exact Nat.mul_mod_left _ _
 rw[h1,←Nat.mul_assoc,Nat.mul_right_comm,Nat.mul_add_mod']at h2
 exact h2
variable {k:Nat}
theorem SR.push{D:List Int}{b:Int}{x:Nat}(h:SR (D++[b]) B V)(hk:1≤k)(hf:B+k≤8*(D.length+1))(hx:x<2 ^ k):
  SR (D++[b+(x*2 ^ (8*(D.length+1)-B-k):Nat)]) (B+k) (V*2 ^ k+x)∧b.toNat+x*2 ^ (8*(D.length+1)-B-k)<256∧x*2 ^ (8*(D.length+1)-B-k)<2 ^ (8*(D.length+1)-B):=by
 obtain⟨b0,b1,b2⟩:=h.last (by omega)
 have hh:=h.hi
 simp only[List.length_append,List.length_cons,List.length_nil,Nat.zero_add]at hh
 generalize hf0:8*(D.length+1)-B=f at b2 ⊢
 have hx2:x*2 ^ (f-k)<2 ^ f:=by
  have:2 ^ f=2 ^ k*2 ^ (f-k):=by rw[←Nat.pow_add,show k+(f-k)=f by omega]
  rw[this];exact Nat.mul_lt_mul_of_pos_right hx (Nat.two_pow_pos _)
 have hlt:b.toNat+x*2 ^ (f-k)<256:=by
  have e1:(256:Nat)=2 ^ f*2 ^ (8-f):=by rw[←Nat.pow_add,show f+(8-f)=8 by omega]
  obtain⟨q,hq⟩:=Nat.dvd_of_mod_eq_zero b2
  have hb8:b.toNat<2 ^ f*2 ^ (8-f):=by rw[←e1];omega
  rw[hq]at hb8 ⊢
  have hq8:q<2 ^ (8-f):=Nat.lt_of_mul_lt_mul_left hb8
  rw[e1]
  have s1:2 ^ f*(q+1)≤2 ^ f*2 ^ (8-f):=Nat.mul_le_mul_left _ hq8
  rw[Nat.mul_add,Nat.mul_one]at s1
  omega
 refine⟨⟨?_,by simp;omega,by simp;omega,?_⟩,hlt,hx2⟩
 ·intro y hy
  rcases List.mem_append.1 hy with hy|hy
  ·exact h.by_ y (by simp[hy])
  ·simp only[List.mem_singleton]at hy;omega
 ·have hn:=h.num
  simp only[List.length_append,List.length_cons,List.length_nil,Nat.zero_add]at hn ⊢
  rw[vZ]at hn ⊢
  rw[hf0]at hn
  rw[show 8*(D.length+1)-(B+k)=f-k by omega]
  have e:(b+(x*2 ^ (f-k):Nat)).toNat=b.toNat+x*2 ^ (f-k):=by omega
  rw[e,Nat.add_mul,Nat.mul_assoc,←Nat.pow_add,show k+(f-k)=f by omega]
  omega
variable {b:Nat}
theorem ahO{y f:Nat}(hb:b%2 ^ f=0)(hy:y<2 ^ f):b ||| y=b+y:=by
 obtain⟨q,rfl⟩:=Nat.dvd_of_mod_eq_zero hb
 rw[Nat.mul_comm,←Nat.shiftLeft_eq,Nat.shiftLeft_add_eq_or_of_lt hy]
theorem ahP(n:Int):IntKind.wrap .u8 n=n%256:=rfl
theorem am1(n:Int):IntKind.wrap .u64 n=n%18446744073709551616:=rfl
theorem wU8{n:Nat}(h:n<256):IntKind.wrap .u8 (n:Int)=n:=by rw[ahP];omega
theorem qP{n:Nat}(h:n<18446744073709551616):IntKind.wrap .u64 (n:Int)=n:=by rw[am1];omega
variable {a:Nat}
theorem or8(ha:a<256)(hb:b<256):dR .or .u8 a b=((a ||| b:Nat):Int):=by
 show IntKind.wrap .u8 ((BitVec.ofNat 8 a ||| BitVec.ofNat 8 b).toNat:Int)=_
 rw[BitVec.toNat_or,BitVec.toNat_ofNat,BitVec.toNat_ofNat,Nat.mod_eq_of_lt (show a<2 ^ 8 from ha),Nat.mod_eq_of_lt (show b<2 ^ 8 from hb)]
 exact wU8 (Nat.or_lt_two_pow (n:=8) ha hb)
theorem and8(ha:a<256)(hb:b<256):dR .and .u8 a b=((a &&& b:Nat):Int):=by
 show IntKind.wrap .u8 ((BitVec.ofNat 8 a &&& BitVec.ofNat 8 b).toNat:Int)=_
 rw[BitVec.toNat_and,BitVec.toNat_ofNat,BitVec.toNat_ofNat,Nat.mod_eq_of_lt (show a<2 ^ 8 from ha),Nat.mod_eq_of_lt (show b<2 ^ 8 from hb)]
 exact wU8 (Nat.lt_of_le_of_lt Nat.and_le_left ha)
theorem akP(ha:a<2 ^ 64)(hb:b<2 ^ 64):dR .and .u64 a b=((a &&& b:Nat):Int):=by
 show IntKind.wrap .u64 ((BitVec.ofNat 64 a &&& BitVec.ofNat 64 b).toNat:Int)=_
 rw[BitVec.toNat_and,BitVec.toNat_ofNat,BitVec.toNat_ofNat,Nat.mod_eq_of_lt ha,Nat.mod_eq_of_lt hb]
 exact qP (Nat.lt_of_le_of_lt Nat.and_le_left ha)
theorem ap7(ha:a<256):dR .and .u8 a 1=((a%2:Nat):Int):=by
 have:=and8 ha (show 1<256 by decide)
 rw[Nat.and_one_is_mod]at this;exact this
theorem acQ(ha:a<2 ^ 64):dR .and .u64 a 1=((a%2:Nat):Int):=by
 have:=akP ha (show 1<2 ^ 64 by decide)
 rw[Nat.and_one_is_mod]at this;exact this
theorem ap8(ha:a<2 ^ 64)(hk:k<64):dR .and .u64 a ((2 ^ k-1:Nat):Int)=((a%2 ^ k:Nat):Int):=by
 have hb:2 ^ k-1<2 ^ 64:=by have:=Nat.pow_lt_pow_right (show 1<2 by decide) hk;omega
 rw[akP ha hb,Nat.and_two_pow_sub_one_eq_mod]
theorem aai(a k:Nat):Int.fdiv (a:Int) (2 ^ k)=((a / 2 ^ k:Nat):Int):=by
 have:((2:Int) ^ k)=((2 ^ k:Nat):Int):=by norm_cast
 rw[this,Int.fdiv_eq_ediv_of_nonneg _ (Int.natCast_nonneg _)];rfl
def fW:List UInt8→List UInt8→Int
 |[],[]=>0
 |[],_::_=>-1
 |_::_,[]=>1
 |a::x,b::y=>if a=b then fW x y else if a<b then -1 else 1
theorem ap9(l:List UInt8)(i:Nat):(⟨l.toArray⟩:ByteArray)[i]! = l[i]!:=by
 by_cases h:i<l.length
 ·rw[getElem!_pos l i h,getElem!_pos (⟨l.toArray⟩:ByteArray) i (by show i<l.toArray.size;simpa using h)];rfl
 ·rw[getElem!_neg l i h,getElem!_neg (⟨l.toArray⟩:ByteArray) i (by show ¬i<l.toArray.size;simpa using h)]
theorem ajo:∀(x y:List UInt8),Go.Extern.BytealgCompare.cmp ⟨x.toArray⟩ ⟨y.toArray⟩=fW x y:=by
 intro x y
 unfold Go.Extern.BytealgCompare.cmp
 simp only[ap9]
 show(match(List.range (min x.length y.length)).find? λi=>x[i]! != y[i]! with
  |some i=>if x[i]!<y[i]! then -1 else 1
  |none=>if x.length<y.length then -1 else if x.length>y.length then 1 else 0)=fW x y
 induction x generalizing y with
 |nil=>cases y<;>simp[fW]
 |cons a x ih=>
  cases y with
  |nil=>simp[fW]
  |cons b y=>
   simp only[fW,List.length_cons]
   rw[show min (x.length+1) (y.length+1)=min x.length y.length+1 by omega,List.range_succ_eq_map,List.find?_cons]
   by_cases h:a=b
   ·subst h
    rw[if_pos rfl,←ih]
    simp only[List.getElem!_cons_zero,bne_self_eq_false,List.find?_map,Function.comp_def,Nat.succ_eq_add_one,List.getElem!_cons_succ]
    cases(List.range (min x.length y.length)).find? (λi=>x[i]! != y[i]!)<;>simp
   ·rw[if_neg h]
    have e:((a::x)[0]! != (b::y)[0]!)=true:=by simpa using h
    simp only[e]
    simp
theorem aeN:∀(x y:List UInt8),0<fW x y↔(Go.Op.bytesLess x y=false∧x≠y)
 |[],[]=>by simp[Go.Op.bytesLess,fW]
 |[],_::_=>by simp[Go.Op.bytesLess,fW]
 |_::_,[]=>by simp[Go.Op.bytesLess,fW]
 |a::x,b::y=>by
  simp only[Go.Op.bytesLess,fW]
  by_cases h:a=b
  ·subst h
   rw[if_pos rfl,aeN x y]
   have:¬a<a:=UInt8.lt_irrefl a
   simp[this]
  ·rw[if_neg h]
   by_cases h2:a<b
   ·simp[h2]
   ·simp[h2,h]
theorem ahQ(x y:List UInt8):(!(Go.Op.bytesLess x y||x==y))=decide (0<fW x y):=by
 rw[Bool.eq_iff_iff,decide_eq_true_iff,aeN]
 cases Go.Op.bytesLess x y<;>simp
theorem ado:∀x:List UInt8,fW x x=0
 |[]=>rfl
 |a::x=>by simp[fW,ado x]
theorem wL:∀x y:List UInt8,fW y x =-fW x y
 |[],[]=>rfl
 |[],_::_=>rfl
 |_::_,[]=>rfl
 |a::x,b::y=>by
  simp only[fW]
  by_cases h:a=b
  ·subst h;simp[wL x y]
  ·rw[if_neg h,if_neg (Ne.symm h)]
   by_cases h2:a<b
   ·rw[if_pos h2,if_neg (by intro h3;exact UInt8.lt_irrefl _ (UInt8.lt_trans h2 h3))];rfl
   ·rw[if_neg h2,if_pos (by
     rcases Nat.lt_trichotomy a.toNat b.toNat with h3|h3|h3
     ·exact absurd (UInt8.lt_iff_toNat_lt.2 h3) h2
     ·exact absurd (UInt8.toNat_inj.1 h3) h
     ·exact UInt8.lt_iff_toNat_lt.2 h3)]
theorem acR:∀{x y:List UInt8},fW x y=0→x=y
 |[],[],_=>rfl
 |[],_::_,h=>by simp[fW]at h
 |_::_,[],h=>by simp[fW]at h
 |a::x,b::y,h=>by
  simp only[fW]at h
  by_cases e:a=b
  ·rw[if_pos e]at h;rw[e,acR h]
  ·rw[if_neg e]at h;split at h<;>simp at h
theorem abZ:∀{x y z:List UInt8},0<fW x y→0<fW y z→0<fW x z
 |[],[],_,h,_=>by simp[fW]at h
 |[],_::_,_,h,_=>by simp[fW]at h
 |_::_,[],z,_,h=>by cases z<;>simp[fW]at h
 |_::_,_::_,[],_,_=>by simp[fW]
 |a::x,b::y,c::z,h1,h2=>by
  simp only[fW]at h1 h2 ⊢
  by_cases e1:a=b
  ·subst e1
   rw[if_pos rfl]at h1
   by_cases e2:a=c
   ·rw[if_pos e2]at h2 ⊢;exact abZ h1 h2
   ·rw[if_neg e2]at h2 ⊢;exact h2
  ·rw[if_neg e1]at h1
   have g1:¬a<b:=by intro h;rw[if_pos h]at h1;omega
   by_cases e2:b=c
   ·subst e2
    rw[if_neg e1,if_neg g1];omega
   ·rw[if_neg e2]at h2
    have g2:¬b<c:=by intro h;rw[if_pos h]at h2;omega
    simp only[UInt8.lt_iff_toNat_lt]at g1 g2
    have n1:a.toNat≠b.toNat:=λh=>e1 (UInt8.toNat_inj.1 h)
    have n2:b.toNat≠c.toNat:=λh=>e2 (UInt8.toNat_inj.1 h)
    rw[if_neg (by rintro rfl;omega),if_neg (by rw[UInt8.lt_iff_toNat_lt];omega)];omega
structure Str(s:bp)(B V:Nat):Prop where
 b:s.Bits=B
 r:SR s.Data B V
 t:8*s.Data.length<B+8
theorem Str.nil:Str (bp.mk [] 0) 0 0:=⟨rfl,SR.nil,by simp⟩
theorem Str.unique{s u:bp}{B V:Nat}(h1:Str s B V)(h2:Str u B V):s=u:=by
 have:=h1.r.unique h2.r h1.t h2.t
 obtain⟨d,n⟩:=s
 obtain⟨e,m⟩:=u
 have a:=h1.b;have b:=h2.b
 simp only at this a b
 subst this;rw[a,b]
theorem Str.split{s:bp}(h:Str s B V)(hf:8*s.Data.length≠B):∃i b,s.Data=i++[b]∧8*(i.length+1)=8*s.Data.length:=by
 have:=h.r.le
 obtain⟨i,b,e⟩:=acP (l:=s.Data) (by intro e;simp[e]at *;omega)
 exact⟨i,b,e,by rw[e];simp⟩
theorem yx(i:List α)(b:α){n:Int}(h:n=i.length):elO (i++[b]) n=some b:=by subst h;exact iy i b []
theorem adp(i:List α)(b c:α){n:Int}(h:n=i.length):gF (i++[b]) n c=some (i++[c]):=by
 subst h
 unfold gF
 rw[if_pos ⟨by omega,by simp;omega⟩]
 simp
theorem afl{n:Nat}(h:n≤100000):oV n=some (((n+7) / 8:Nat):Int):=by
 unfold oV
 have e:Int.tdiv ((n:Int)+7) 8=(((n+7) / 8:Nat):Int):=by rw[Int.tdiv_eq_ediv_of_nonneg (by omega)];omega
 rw[cw (n:=(n:Int)+7) (by omega) (by omega),e,cw (by omega) (by omega)]
theorem aaC{s:bp}(h:Str s B V)(hB:B≤8192):mF s=some true:=by
 have hle:=h.r.le;have ht:=h.t;have hb:=h.b
 refine Ok.eq ?_
 unfold mF
 refine Ok.jn (λv=>v=false) (λv hv=>?_) (λJ hJ=>?_)
 ·subst hv
  rw[cond_false,hb,cw (n:=8*(s.Data.length:Int)) (by omega) (by omega),cw (n:=8*(s.Data.length:Int)-B) (by omega) (by omega)]
  refine Ok.cs (λ_=>Ok.s rfl) λhc=>?_
  have hc:8*(s.Data.length:Int)-B≠0:=by simpa using hc
  obtain⟨i,b,hD,hi⟩:=h.split (by omega)
  have hl:=h.r
  rw[hD]at hl
  obtain⟨b0,b1,b2⟩:=hl.last (by omega)
  rw[cw (n:=(s.Data.length:Int)-1) (by omega) (by omega),hD,yx i b (by simp),aL]
  have e:8*((i++[b]).length:Int)-B=((8*(i.length+1)-B:Nat):Int):=by simp;omega
  rw[e]
  generalize hf:8*(i.length+1)-B=f at b2 ⊢
  rw[cw (n:=(8:Int)-(f:Int)) (by omega) (by omega)]
  refine Ok.chk (by simp;omega) (Ok.s ?_)
  obtain⟨q,hq⟩:=Nat.dvd_of_mod_eq_zero b2
  have e2:min ((8:Int)-f).toNat 8=8-f:=by omega
  rw[e2,show b=((b.toNat:Nat):Int)by omega,hq]
  have e3:(((2 ^ f*q:Nat):Int)*2 ^ (8-f))=((256*q:Nat):Int):=by
   have e1:(256:Nat)=2 ^ f*2 ^ (8-f):=by rw[←Nat.pow_add,show f+(8-f)=8 by omega]
   rw[e1,Nat.mul_assoc,Nat.mul_comm (2 ^ (8-f)) q,←Nat.mul_assoc]
   push_cast;rfl
  rw[e3,ahP]
  simp
 ·rw[hb,afl (by omega)]
  refine Ok.cs (λhc=>by simp at hc;omega) λ_=>?_
  refine Ok.cs (λhc=>by simp at hc;omega) λ_=>?_
  rw[aL]
  exact hJ _ (by simp;omega)
theorem afm{s:bp}{v n:Nat}(h:Str s B V)(hn:n≤64)(hv:v<2 ^ n)(hB:B+n≤8192):Ok (oW s v n) (λu=>Str u (B+n) (V*2 ^ n+v)):=by
 unfold oW
 have agQ:v<2 ^ 64:=Nat.lt_of_lt_of_le hv (Nat.pow_le_pow_right (by decide) hn)
 refine Ok.whl (λsg:Int×List Int×Int=>∃(r k:Nat) (D:List Int),sg=((r:Int),D,((B+k:Nat):Int))∧r+k=n∧SR D (B+k) (V*2 ^ k+v / 2 ^ r)∧8*D.length<B+k+8) (λsg=>sg.1.toNat) ⟨n,0,s.Data,by rw[h.b];rfl,by simp,by
   rw[Nat.div_eq_of_lt hv];simpa using h.r,by simpa using h.t⟩ (by simp only;omega) ?_
 rintro _ Z ⟨r,k,D,rfl,hrk,hr,ht⟩ hZ
 have hle:=hr.le
 simp only
 refine Ok.cs (λhc=>?_) λhc=>?_
 ·have hr0:0<r:=by simpa using hc
  rw[cw (n:=8*(D.length:Int)) (by omega) (by omega),cw (n:=8*(D.length:Int)-((B+k:Nat):Int)) (by omega) (by omega)]
  refine Ok.jn (λsg:Int×List Int=>∃(i:List Int) (b:Int) (f:Nat),sg=((f:Int),i++[b])∧SR (i++[b]) (B+k) (V*2 ^ k+v / 2 ^ r)∧8*(i.length+1)-(B+k)=f∧1≤f∧f≤8) ?_ ?_
  ·rintro _ ⟨i,b,f,rfl,hs,hf,hf1,hf8⟩
   simp only
   obtain⟨m,hm⟩:∃m:Nat,(if(f:Int)<r then(f:Int)else r)=m∧1≤m∧m≤f∧m≤r:=by
    by_cases h:(f:Int)<r
    ·exact⟨f,by rw[if_pos h],by omega,by omega,by omega⟩
    ·exact⟨r,by rw[if_neg h],by omega,by omega,by omega⟩
   obtain⟨hm,hm1,hmf,hmr⟩:=hm
   rw[hm]
   have e1:w64 ((r:Int)-m)=((r-m:Nat):Int):=by rw[cw (by omega) (by omega)];omega
   have e2:w64 ((f:Int)-m)=((f-m:Nat):Int):=by rw[cw (by omega) (by omega)];omega
   have e3:w64 (((i++[b]).length:Int)-1)=i.length:=by
    have:=hs.le;have:=hs.hi
    simp at *
    rw[cw (by omega) (by omega)]
   have e4:w64 (((B+k:Nat):Int)+m)=((B+(k+m):Nat):Int):=by rw[cw (by omega) (by omega)];omega
   rw[e1,e2,e3,e4]
   refine Ok.chk (by simp) (Ok.chk (by simp) ?_)
   rw[yx i b rfl,aL]
   refine Ok.chk (by simp) ?_
   have hsl:=hs.last (by omega)
   have e5:Int.fdiv (v:Int) (2 ^ min ((r-m:Nat):Int).toNat 64)=((v / 2 ^ (r-m):Nat):Int):=by
    rw[show min ((r-m:Nat):Int).toNat 64=r-m by omega,aai]
   have e6:IntKind.wrap .u64 (IntKind.wrap .u64 ((1:Int)*2 ^ min (m:Int).toNat 64)-1)=((2 ^ m-1:Nat):Int):=by
    rw[show min (m:Int).toNat 64=m by omega]
    have hp:2 ^ m≤2 ^ 8:=Nat.pow_le_pow_right (by decide) (by omega)
    have hp0:0<2 ^ m:=Nat.two_pow_pos m
    have:(1:Int)*2 ^ m=((2 ^ m:Nat):Int):=by push_cast;omega
    rw[this,qP (by omega),show((2 ^ m:Nat):Int)-1=((2 ^ m-1:Nat):Int)by omega,qP (by omega)]
   rw[e5,e6,ap8 (Nat.lt_of_le_of_lt (Nat.div_le_self _ _) agQ) (by omega)]
   obtain⟨hp1,hp2,hp3⟩:=hs.push (k:=m) (x:=v / 2 ^ (r-m)%2 ^ m) hm1 (by omega) (Nat.mod_lt _ (Nat.two_pow_pos _))
   rw[hf]at hp1 hp2 hp3
   generalize hx:v / 2 ^ (r-m)%2 ^ m=x at hp1 hp2 hp3 ⊢
   have e7:(x:Int)*2 ^ min ((f-m:Nat):Int).toNat 64=((x*2 ^ (f-m):Nat):Int):=by
    rw[show min ((f-m:Nat):Int).toNat 64=f-m by omega];push_cast;rfl
   have hy:x*2 ^ (f-m)<256:=by omega
   rw[e7,qP (by omega),wU8 (by omega)]
   rw[hf]at hsl
   have e8:dR .or .u8 b ((x*2 ^ (f-m):Nat):Int)=b+((x*2 ^ (f-m):Nat):Int):=by
    obtain⟨hb0,hb1,hb2⟩:=hsl
    have:=or8 (a:=b.toNat) (b:=x*2 ^ (f-m)) (by omega) hy
    rw[show((b.toNat:Nat):Int)=b by omega]at this
    rw[this,ahO hb2 hp3];omega
   rw[e8,adp i b _ rfl,aL]
   refine hZ _ ⟨r-m,k+m,_,rfl,by omega,?_,?_⟩ (by simp only;omega)
   ·rw[←Nat.add_assoc]
    have e9:(V*2 ^ k+v / 2 ^ r)*2 ^ m+x=V*2 ^ (k+m)+v / 2 ^ (r-m):=by
     have d1:v / 2 ^ r=v / 2 ^ (r-m) / 2 ^ m:=by rw[Nat.div_div_eq_div_mul,←Nat.pow_add,show r-m+m=r by omega]
     rw[Nat.add_mul,Nat.mul_assoc,←Nat.pow_add,d1,←hx]
     have:=Nat.div_add_mod (v / 2 ^ (r-m)) (2 ^ m)
     rw[Nat.mul_comm (2 ^ m)]at this
     omega
    rw[←e9];exact hp1
   ·simp;omega
  ·intro J hJ
   refine Ok.cs (λhc=>?_) λhc=>?_
   ·have hc:8*(D.length:Int)-((B+k:Nat):Int)=0:=by simpa using hc
    rw[eB (by simp;omega),aL]
    exact hJ _ ⟨D,0,8,rfl,hr.more (by omega),by omega,by omega,by omega⟩
   ·have hc:8*(D.length:Int)-((B+k:Nat):Int)≠0:=by simpa using hc
    have hst:Str (bp.mk D ((B+k:Nat):Int)) (B+k) (V*2 ^ k+v / 2 ^ r):=⟨rfl,hr,ht⟩
    obtain⟨i,b,hD,hi⟩:=hst.split (by simp only;omega)
    simp only at hD hi
    refine hJ _ ⟨i,b,8*D.length-(B+k),?_,by rw[←hD];exact hr,by omega,by omega,by omega⟩
    rw[←hD];simp;omega
 ·have hr0:r=0:=by simpa using hc
  subst hr0
  obtain rfl:k=n:=by omega
  refine Ok.s ⟨rfl,?_,by simpa using ht⟩
  simpa using hr
theorem aeO{s:bp}{v n:Nat}(h:Str s B V)(hn:n≤64)(hv:v<2 ^ n)(hB:B+n≤8192):Ok (n4 s v n) (λu=>Str u.1 (B+n) (V*2 ^ n+v)∧u.2=0):=by
 unfold n4
 have hle:=h.r.le;have ht:=h.t;have hb:=h.b
 rw[aaC h (by omega),aL]
 simp only[Bool.not_true,cond_false]
 refine Ok.jn (λv=>v=false) (λv1 hv1=>?_) λJ hJ=>?_
 ·subst hv1
  rw[cond_false,hb,cw (by omega) (by omega)]
  refine Ok.cs (λhc=>by simp at hc;omega) λ_=>?_
  unfold rI
  rw[eB (by simp;omega),aL,aL]
  refine Ok.bnd (afm (B:=B) (V:=V) (s:=bp.mk ([]++s.Data) s.Bits) ⟨hb,by simpa using h.r,by simpa using ht⟩ hn hv hB) λu hu=>Ok.s ⟨hu,rfl⟩
 ·refine Ok.cs (λhc=>by simp at hc;omega) λ_=>?_
  refine Ok.cs (λhc=>by simp at hc;omega) λ_=>?_
  refine Ok.cs (λhc=>?_) λ_=>hJ _ rfl
  have hn2:n<64:=by simp at hc;omega
  refine Ok.chk (by simp) (hJ _ ?_)
  rw[show min ((n:Nat):Int).toNat 64=n by omega,aai,Nat.div_eq_of_lt hv];simp
theorem aeP{i:List Int}{b:Int}(h0:0≤b)(h1:b<256)(hk:8*i.length≤k)(hk2:k<8*(i.length+1))(hl:k≤100000):pq (i++[b]) (k:Int)=some ((b.toNat / 2 ^ (7-k%8)%2:Nat):Int):=by
 unfold pq
 have e1:Int.tdiv (k:Int) 8=i.length:=by rw[Int.tdiv_eq_ediv_of_nonneg (by omega)];omega
 have e2:Int.tmod (k:Int) 8=((k%8:Nat):Int):=by rw[Int.tmod_eq_emod_of_nonneg (by omega)];omega
 have e3:(7:Int)-((k%8:Nat):Int)=((7-k%8:Nat):Int):=by omega
 rw[e1,e2,e3,cw (by omega) (by omega),yx i b rfl,aL,cw (by omega) (by omega),qP (by omega)]
 rw[ng (by simp)]
 have e4:min ((7-k%8:Nat):Int).toNat 8=7-k%8:=by omega
 have hlt:b.toNat / 2 ^ (7-k%8)<256:=Nat.lt_of_le_of_lt (Nat.div_le_self _ _) (by omega)
 have e5:Int.fdiv b (2 ^ (7-k%8))=((b.toNat / 2 ^ (7-k%8):Nat):Int):=by
  rw[←aai,show((b.toNat:Nat):Int)=b by omega]
 rw[e4,e5,qP (by omega),acQ (by omega)]
theorem ud{s:bp}(h:Str s B V)(hB:B≤8192):oZ s=some true:=by
 have hle:=h.r.le;have ht:=h.t;have hb:=h.b
 refine Ok.eq ?_
 unfold oZ
 rw[hb]
 have e1:Int.tdiv (w64 ((B:Int)+7)) 8=((s.Data.length:Nat):Int):=by rw[cw (by omega) (by omega),Int.tdiv_eq_ediv_of_nonneg (by omega)];omega
 rw[e1,cw (n:=(s.Data.length:Int)) (by omega) (by omega),cw (n:=8*(s.Data.length:Int)) (by omega) (by omega)]
 refine Ok.cs (λhc=>by simp at hc;omega) λ_=>?_
 refine Ok.whl (λi:Int=>(B:Int)≤i∧i≤8*s.Data.length) (λi=>(8*(s.Data.length:Int)-i).toNat) ⟨by omega,by omega⟩ (by omega) ?_
 rintro i Z ⟨h1,h2⟩ hZ
 refine Ok.cs (λhc=>?_) λ_=>Ok.s rfl
 have hc:i<8*(s.Data.length:Int):=by simpa using hc
 obtain⟨p,b,hD,hi⟩:=h.split (by omega)
 have hl:=h.r
 rw[hD]at hl
 obtain⟨b0,b1,b2⟩:=hl.last (by omega)
 obtain⟨k,rfl⟩:∃k:Nat,i=k:=⟨i.toNat,by omega⟩
 rw[hD,aeP b0 b1 (by omega) (by omega) (by omega),aL]
 have hbit:b.toNat / 2 ^ (7-k%8)%2=0:=by
  obtain⟨q,hq⟩:=Nat.dvd_of_mod_eq_zero b2
  generalize hf:8*(p.length+1)-B=f at hq
  have:2 ^ f=2 ^ (7-k%8)*(2*2 ^ (f-(7-k%8)-1)):=by
   rw[←Nat.pow_succ',←Nat.pow_add];congr 1;omega
  rw[hq,this,Nat.mul_assoc,Nat.mul_div_cancel_left _ (Nat.two_pow_pos _),Nat.mul_assoc]
  exact Nat.mul_mod_right _ _
 rw[hbit]
 refine Ok.cs (λhc=>by simp at hc) λ_=>?_
 rw[cw (by omega) (by omega)]
 exact hZ _ ⟨by omega,by omega⟩ (by omega)
theorem adq{s:bp}(h:Str s B V)(hb1:b<2)(hB:B+1≤8192):Ok (tZ s b) (λu=>Str u (B+1) (V*2+b)):=by
 have hle:=h.r.le;have ht:=h.t;have hb:=h.b
 unfold tZ
 rw[hb]
 have e1:Int.tdiv (B:Int) 8=((B / 8:Nat):Int):=by rw[Int.tdiv_eq_ediv_of_nonneg (by omega)];omega
 have e2:Int.tmod (B:Int) 8=((B%8:Nat):Int):=by rw[Int.tmod_eq_emod_of_nonneg (by omega)];omega
 have e3:(7:Int)-((B%8:Nat):Int)=((7-B%8:Nat):Int):=by omega
 rw[e1,e2,e3,cw (by omega) (by omega),cw (by omega) (by omega),cw (by omega) (by omega),qP (by omega)]
 refine Ok.bnd (P:=λl=>l=s.Data) ⟨_,eB (by simp;omega),by simp⟩ ?_
 rintro _ rfl
 refine Ok.jn (λl=>∃(i:List Int) (c:Int),l=i++[c]∧SR (i++[c]) B V∧i.length=B / 8) ?_ ?_
 ·rintro _ ⟨i,c,rfl,hs,hi⟩
  refine Ok.jn (λl=>SR l (B+1) (V*2+b)∧8*l.length<B+1+8) (λl hl=>Ok.s ⟨rfl,hl.1,hl.2⟩) λJ hJ=>?_
  obtain⟨hp1,hp2,hp3⟩:=hs.push (k:=1) (x:=b) (by omega) (by omega) (by omega)
  refine Ok.cs (λhc=>?_) λhc=>?_
  ·have hc:b=1:=by simp at hc;omega
   subst hc
   rw[yx i c (by omega),aL,ng (by simp)]
   obtain⟨c0,c1,c2⟩:=hs.last (by omega)
   have e5:min ((7-B%8:Nat):Int).toNat 8=8*(i.length+1)-B-1:=by omega
   have e6:(1:Int)*2 ^ (8*(i.length+1)-B-1)=((1*2 ^ (8*(i.length+1)-B-1):Nat):Int):=by push_cast;rfl
   rw[e5,e6,wU8 (by omega)]
   have e8:dR .or .u8 c ((1*2 ^ (8*(i.length+1)-B-1):Nat):Int)=c+((1*2 ^ (8*(i.length+1)-B-1):Nat):Int):=by
    have:=or8 (a:=c.toNat) (b:=1*2 ^ (8*(i.length+1)-B-1)) (by omega) (by omega)
    rw[show((c.toNat:Nat):Int)=c by omega]at this
    rw[this,ahO c2 hp3];omega
   rw[e8,adp i c _ (by omega),aL]
   exact hJ _ ⟨by simpa using hp1,by simp;omega⟩
  ·have hc:b=0:=by simp at hc;omega
   subst hc
   refine hJ _ ⟨by simpa using hp1,by simp;omega⟩
 ·intro J hJ
  refine Ok.cs (λhc=>?_) λhc=>?_
  ·have hc:B%8=0:=by simp at hc;omega
   rw[eB (by simp;omega),aL]
   exact hJ _ ⟨s.Data,0,rfl,h.r.more (by omega),by omega⟩
  ·have hc:B%8≠0:=by simp at hc;omega
   obtain⟨i,c,hD,hi⟩:=h.split (by omega)
   exact hJ _ ⟨i,c,hD,hD▸h.r,by omega⟩
theorem aeQ{s:bp}{v n:Nat}(h:Str s B V)(hn:n≤64)(hv:v<2 ^ n)(hB:B+n≤8192):Ok (tM s v n) (λu=>Str u.1 (B+n) (V*2 ^ n+v)∧u.2=0):=by
 unfold tM
 have hb:=h.b
 have agQ:v<2 ^ 64:=Nat.lt_of_lt_of_le hv (Nat.pow_le_pow_right (by decide) hn)
 rw[ud h (by omega),aL]
 simp only[Bool.not_true,cond_false]
 refine Ok.jn (λv=>v=false) (λv1 hv1=>?_) λJ hJ=>?_
 ·subst hv1
  rw[cond_false,hb,cw (n:=(B:Int)+n) (by omega) (by omega)]
  refine Ok.cs (λhc=>by simp at hc;omega) λ_=>?_
  refine Ok.whl (λsg:Int×List Int×Int=>∃(r k:Nat),sg.1=(r:Int)-1∧r+k=n∧Str (bp.mk sg.2.1 sg.2.2) (B+k) (V*2 ^ k+v / 2 ^ r)) (λsg=>(sg.1+1).toNat) ⟨n,0,by simp only;rw[cw (by omega) (by omega)],by simp,by
   rw[Nat.div_eq_of_lt hv];simp only[Nat.add_zero,Nat.pow_zero,Nat.mul_one];rw[←hb];exact h⟩ (by simp only;rw[cw (by omega) (by omega)];omega) ?_
  rintro⟨i,D,N⟩ Z ⟨r,k,hi,hrk,hs⟩ hZ
  simp only at hi hs ⊢
  subst hi
  refine Ok.cs (λhc=>?_) λhc=>?_
  ·have hr:1≤r:=by simp at hc;omega
   have e:((r:Int)-1)=((r-1:Nat):Int):=by omega
   rw[e,qP (by omega)]
   refine Ok.chk (by simp) ?_
   rw[show min ((r-1:Nat):Int).toNat 64=r-1 by omega,aai,acQ (Nat.lt_of_le_of_lt (Nat.div_le_self _ _) agQ)]
   refine Ok.bnd (adq hs (Nat.mod_lt _ (by omega)) (by omega)) λu hu=>?_
   rw[cw (by omega) (by omega)]
   refine hZ _ ⟨r-1,k+1,rfl,by omega,?_⟩ (by simp only;omega)
   have e9:(V*2 ^ k+v / 2 ^ r)*2+v / 2 ^ (r-1)%2=V*2 ^ (k+1)+v / 2 ^ (r-1):=by
    have d1:v / 2 ^ r=v / 2 ^ (r-1) / 2:=by
     rw[Nat.div_div_eq_div_mul,←Nat.pow_succ];congr 2;omega
    rw[Nat.pow_succ,d1,Nat.add_mul,Nat.mul_assoc]
    omega
   rw[←Nat.add_assoc,←e9];exact hu
  ·have hr:r=0:=by simp at hc;omega
   subst hr
   obtain rfl:k=n:=by omega
   refine Ok.s ⟨by simpa using hs,rfl⟩
 ·refine Ok.cs (λhc=>by simp at hc;omega) λ_=>?_
  refine Ok.cs (λhc=>by simp at hc;omega) λ_=>?_
  refine Ok.cs (λhc=>?_) λ_=>hJ _ rfl
  have hn2:n<64:=by simp at hc;omega
  rw[qP (by omega)]
  refine Ok.chk (by simp) (hJ _ ?_)
  rw[show min ((n:Nat):Int).toNat 64=n by omega,aai,Nat.div_eq_of_lt hv];simp
theorem ab0{σ β:Type}{B B':Int→(σ→Option β)→σ→Option β}{K K':Int→σ→Option β}:∀(n:Nat) (i:Int) (s:σ),(∀(j:Int) s Z Z',i≤j→j<i+n→(∀s,Z s=Z' s)→B j Z s=B' j Z' s)→(∀s,K (i+n) s=K' (i+n) s)→gO n i B K s=gO n i B' K' s
 |0,i,s,_,hk=>by simpa [gO]using hk s
 |n+1,i,s,hb,hk=>by
  simp only[gO]
  refine hb i s _ _ (by omega) (by omega) λs'=>?_
  refine ab0 n (i+1) s' (λj s Z Z' h1 h2 hz=>hb j s Z Z' (by omega) (by omega) hz) λs=>?_
  have:=hk s
  rw[show i+1+(n:Int)=i+((n+1:Nat):Int)by omega];exact this
theorem ahR{s:bp}{i:Nat}(hb:∀b∈s.Data,0≤b∧b<256)(hi:i<8*s.Data.length)(hl:i≤100000):∃x:Int,qZ s (i:Int)=some x∧pq s.Data (i:Int)=some x:=by
 have e1:Int.tdiv (i:Int) 8=((i / 8:Nat):Int):=by rw[Int.tdiv_eq_ediv_of_nonneg (by omega)];omega
 have e2:Int.tmod (i:Int) 8=((i%8:Nat):Int):=by rw[Int.tmod_eq_emod_of_nonneg (by omega)];omega
 have e3:(7:Int)-((i%8:Nat):Int)=((7-i%8:Nat):Int):=by omega
 obtain⟨e,he,hm,_⟩:=(rj (l:=s.Data) (i:=((i / 8:Nat):Int)) (by omega) (by omega)).get
 have hbe:=hb e hm
 have e4:min ((7-i%8:Nat):Int).toNat 8=7-i%8:=by omega
 have hlt:e.toNat / 2 ^ (7-i%8)<256:=Nat.lt_of_le_of_lt (Nat.div_le_self _ _) (by omega)
 have e5:Int.fdiv e (2 ^ (7-i%8))=((e.toNat / 2 ^ (7-i%8):Nat):Int):=by
  rw[←aai,show((e.toNat:Nat):Int)=e by omega]
 refine⟨((e.toNat / 2 ^ (7-i%8)%2:Nat):Int),?_,?_⟩
 ·unfold qZ
  rw[e1,e2,e3,cw (by omega) (by omega),he,aL,cw (by omega) (by omega),ng (by simp),e4,e5,ap7 hlt,qP (by omega)]
 ·unfold pq
  rw[e1,e2,e3,cw (by omega) (by omega),he,aL,cw (by omega) (by omega),qP (by omega),ng (by simp),e4,e5,qP (by omega),acQ (by omega)]
theorem atv(x:Int):∃n:Nat,dR .and .u64 x 65535=n∧n<65536:=by
 refine⟨(BitVec.ofInt 64 x &&& BitVec.ofInt 64 65535).toNat,?_,?_⟩
 ·show IntKind.wrap .u64 _=_
  exact qP (BitVec.isLt _)
 ·rw[BitVec.toNat_and]
  exact Nat.lt_of_le_of_lt Nat.and_le_right (by decide)
theorem atw{n:Nat}(h:n<65536):∃m:Nat,dR .xor .u64 n 4129=m∧m<65536:=by
 refine⟨n ^^^ 4129,?_,Nat.xor_lt_two_pow (n:=16) h (by decide)⟩
 show IntKind.wrap .u64 ((BitVec.ofNat 64 n ^^^ BitVec.ofNat 64 4129).toNat:Int)=_
 rw[BitVec.toNat_xor,BitVec.toNat_ofNat,BitVec.toNat_ofNat,Nat.mod_eq_of_lt (show n<2 ^ 64 by omega),Nat.mod_eq_of_lt (show 4129<2 ^ 64 by decide)]
 exact qP (Nat.lt_trans (Nat.xor_lt_two_pow (n:=16) h (by decide)) (by decide))
theorem agR{s:bp}(h:Str s B V)(hB:B≤8192):∃c:Nat,c<65536∧mG s=some ((c:Int),0)∧mH s=some ((c:Int),0):=by
 have hle:=h.r.le;have ht:=h.t;have hb:=h.b
 have key:mG s=mH s:=by
  unfold mG mH
  rw[aaC h hB,ud h hB]
  simp only[aL,Bool.not_true,cond_false]
  congr 1
  refine ab0 _ _ _ ?_ λs=>rfl
  intro j r Z Z' h1 h2 hz
  obtain⟨x,hx1,hx2⟩:=ahR (s:=s) (i:=j.toNat) h.r.by_ (by omega) (by omega)
  rw[show((j.toNat:Nat):Int)=j by omega]at hx1 hx2
  simp only[jn,hx1,hx2,aL,hz]
  by_cases hc:Int.fdiv r (2 ^ min (15:Int).toNat 64)=x<;>simp[hc]
 rw[key]
 have:Ok (mH s) (λp=>∃c:Nat,c<65536∧p=((c:Int),0)):=by
  unfold mH
  rw[ud h hB,aL]
  simp only[Bool.not_true,cond_false]
  refine Ok.chk (by simp;omega) ?_
  refine Ok.gO (λ_ (r:Int)=>∃c:Nat,c<65536∧r=c) 0 s.Bits ?_ ?_ _ _ _ (by simp) (by omega) (by omega) ⟨65535,by decide,rfl⟩
  ·rintro i r Z h1 h2 ⟨c,hc,rfl⟩ hZ
   refine Ok.jn (λr=>∃c:Nat,c<65536∧r=c) (λr hr=>hZ _ hr) λJ hJ=>?_
   obtain⟨x,hx1,hx2⟩:=ahR (s:=s) (i:=i.toNat) h.r.by_ (by omega) (by omega)
   rw[show((i.toNat:Nat):Int)=i by omega]at hx2
   rw[hx2,aL]
   obtain⟨n,hn,hn2⟩:=atv (IntKind.wrap .u64 ((c:Int)*2 ^ min (1:Int).toNat 64))
   rw[hn]
   refine Ok.cs (λ_=>?_) λ_=>hJ _ ⟨n,hn2,rfl⟩
   obtain⟨m,hm,hm2⟩:=atw hn2
   rw[hm]
   exact hJ _ ⟨m,hm2,rfl⟩
  ·rintro i r h1 h2 ⟨c,hc,rfl⟩
   exact Ok.s ⟨c,hc,rfl⟩
 obtain⟨_,hp,c,hc,rfl⟩:=this
 exact⟨c,hc,hp,hp⟩
theorem ajp{s:bp}{v n:Nat}(h:Str s B V)(hn:n≤64)(hv:v<2 ^ n)(hB:B+n≤8192):∃u,b9 (bP.mk s) v n=some (bP.mk u)∧dJ s v n=some u∧Str u (B+n) (V*2 ^ n+v):=by
 have agQ:v<2 ^ 64:=Nat.lt_of_lt_of_le hv (Nat.pow_le_pow_right (by decide) hn)
 obtain⟨p,hp,hs,_⟩:=aeO h hn hv hB
 obtain⟨q,hq,ht,_⟩:=aeQ h hn hv hB
 have e:=hs.unique ht
 refine⟨p.1,?_,?_,hs⟩
 ·unfold b9
  rw[qP (by omega),hp];rfl
 ·unfold dJ
  rw[qP (by omega),hq,e];rfl
variable {β σ:Type}
theorem adr{γ:Type}{B1:Int→α→(σ→Option β)→σ→Option β}{B2:Int→α→(σ→Option γ)→σ→Option γ}{L:List α}(I:Nat→σ→Prop)
  (hc:∀(j:Nat) x s,L[j]?=some x→I j s→∃s',I (j+1) s'∧(∀Z,B1 (j:Int) x Z s=Z s')∧∀Z,B2 (j:Int) x Z s=Z s') (s:σ) (h:I 0 s) :
  ∃s',I L.length s'∧(∀K,bN L 0 B1 K s=K s')∧∀K,bN L 0 B2 K s=K s':=by
 have key:∀(l p:List α) (s:σ),L=p++l→I p.length s→∃s',I L.length s'∧(∀K,bN l p.length B1 K s=K s')∧∀K,bN l p.length B2 K s=K s':=by
  intro l
  induction l with
  |nil=>intro p s hj h;rw[List.append_nil]at hj;subst hj;exact⟨s,h,λ_=>rfl,λ_=>rfl⟩
  |cons x r ih=>
   intro p s hj h
   obtain⟨s1,h1,e1,e2⟩:=hc p.length x s (by rw[hj];simp) h
   obtain⟨s2,h2,e3,e4⟩:=ih (p++[x]) s1 (by simp[hj]) (by simpa using h1)
   simp only[List.length_append,List.length_cons,List.length_nil]at e3 e4
   exact⟨s2,h2,λK=>by simp only[bN];rw[e1];exact e3 K,λK=>by simp only[bN];rw[e2];exact e4 K⟩
 exact key L [] s rfl h
def nK:Nat→List (Nat×Nat)→Nat
 |a,[]=>a
 |a,(v,w)::r=>nK (a*2 ^ w+v) r
def gH:List (Nat×Nat)→Nat
 |[]=>0
 |(_,w)::r=>w+gH r
theorem we:∀(a:Nat) (F G:List (Nat×Nat)),nK a (F++G)=nK (nK a F) G
 |_,[],_=>rfl
 |a,(v,w)::r,G=>we _ r G
theorem tU:∀(F G:List (Nat×Nat)),gH (F++G)=gH F+gH G
 |[],G=>by simp[gH]
 |(v,w)::r,G=>by simp only[List.cons_append,gH,tU r G];omega
def rJ(l:Int):Nat:=if l=8 then 0 else if l=16 then 1 else if l=32 then 2 else 3
variable {l:Int}
theorem agS(h:nJ l=true):vN l=some (rJ l:Int):=by
 simp only[nJ,Bool.or_eq_true,decide_eq_true_eq]at h
 rcases h with rfl|rfl|rfl|rfl<;>decide +kernel
theorem ry(F:(σ→Option β)→σ→Option β)(n:Nat)(s:σ):iter F (n+1) s=F (iter F n) s:=rfl
theorem ahS(h:nJ l=true)(R:Int→Option β):whl (λ(Z:Int→Option β) (c:Int)=>chk (decide (0≤c))<|bif decide (IntKind.wrap .i64 ((8:Int)*2 ^ min c.toNat 64)<l)then Z (w64 (c+1))else R c) 0=R (rJ l:Int):=by
 simp only[nJ,Bool.or_eq_true,decide_eq_true_eq]at h
 show iter _ (1099511627772+4) 0=_
 have e1:w64 (0+1)=1:=by decide
 have e2:w64 (1+1)=2:=by decide
 have e3:w64 (2+1)=3:=by decide
 have p0:IntKind.wrap .i64 ((8:Int)*2 ^ min (0:Int).toNat 64)=8:=by decide
 have p1:IntKind.wrap .i64 ((8:Int)*2 ^ min (1:Int).toNat 64)=16:=by decide
 have p2:IntKind.wrap .i64 ((8:Int)*2 ^ min (2:Int).toNat 64)=32:=by decide
 have p3:IntKind.wrap .i64 ((8:Int)*2 ^ min (3:Int).toNat 64)=64:=by decide
 rcases h with rfl|rfl|rfl|rfl
 ·rw[ry,ng (by decide),p0];rfl
 ·rw[ry,ng (by decide),p0,e1]
  simp only[show decide ((8:Int)<16)=true from rfl,cond_true]
  rw[ry,ng (by decide),p1];rfl
 ·rw[ry,ng (by decide),p0,e1]
  simp only[show decide ((8:Int)<32)=true from rfl,cond_true]
  rw[ry,ng (by decide),p1,e2]
  simp only[show decide ((16:Int)<32)=true from rfl,cond_true]
  rw[ry,ng (by decide),p2];rfl
 ·rw[ry,ng (by decide),p0,e1]
  simp only[show decide ((8:Int)<64)=true from rfl,cond_true]
  rw[ry,ng (by decide),p1,e2]
  simp only[show decide ((16:Int)<64)=true from rfl,cond_true]
  rw[ry,ng (by decide),p2,e3]
  simp only[show decide ((32:Int)<64)=true from rfl,cond_true]
  rw[ry,ng (by decide),p3];rfl
theorem uT{s:bp}{n:Nat}{v:Int}(h:Str s B V)(h0:0≤v)(hn:n≤64)(hv:v<2 ^ n)(hB:B+n≤8192):∃u,b9 (bP.mk s) v n=some (bP.mk u)∧dJ s v n=some u∧Str u (B+n) (V*2 ^ n+v.toNat):=by
 have hv':v.toNat<2 ^ n:=by
  have:((2:Int) ^ n)=((2 ^ n:Nat):Int):=by push_cast;rfl
  omega
 obtain⟨u,h1,h2,h3⟩:=ajp h hn hv' hB
 rw[show((v.toNat:Nat):Int)=v by omega]at h1 h2
 exact⟨u,h1,h2,h3⟩
theorem ahT{s:bp}(h:Str s B V)(hB:B+8≤8192):Ok (uP s) (λp=>p.1.Data=s.Data):=by
 unfold uP
 rw[ud h (by omega),aL]
 simp only[Bool.not_true,cond_false]
 have hle:=h.r.le;have ht:=h.t
 refine Ok.whl (λsg:List Int×Int=>∃k:Nat,B+k≤8*s.Data.length∧sg.1=s.Data∧Str (bp.mk sg.1 sg.2) (B+k) (V*2 ^ k)) (λsg=>((8*s.Data.length:Nat)-sg.2).toNat) ⟨0,by omega,rfl,by simpa using h⟩ (by simp only;rw[h.b];omega) ?_
 rintro⟨D,N⟩ Z ⟨k,hk,hD,hs⟩ hZ
 simp only at hD hs ⊢
 have hN:N=((B+k:Nat):Int):=hs.b
 subst hD
 have e2:Int.tmod N 8=(((B+k)%8:Nat):Int):=by rw[hN,Int.tmod_eq_emod_of_nonneg (by omega)];omega
 rw[e2]
 refine Ok.cs (λhc=>?_) λ_=>Ok.s rfl
 have hm:(B+k)%8≠0:=by simp at hc;omega
 obtain⟨u,hu,hus⟩:=(adq (b:=0) hs (by omega) (by omega)).get
 have huD:u.Data=s.Data:=by
  have hx:SR s.Data (B+k+1) (V*2 ^ k*2):=by
   refine⟨h.r.by_,by omega,by omega,?_⟩
   have e:2 ^ (8*s.Data.length-B)=2 ^ k*2*2 ^ (8*s.Data.length-(B+k+1)):=by
    rw[←Nat.pow_succ,←Nat.pow_add];congr 1;omega
   rw[h.r.num,e];simp only[Nat.mul_assoc]
  exact hus.r.unique hx hus.t (by omega)
 refine Ok.bnd (P:=λx=>x=u) ⟨u,hu,rfl⟩ ?_
 rintro _ rfl
 refine hZ _ ⟨k+1,by omega,huD,?_⟩ (by simp only;rw[hus.b,hN];omega)
 rw[←Nat.add_assoc,Nat.pow_succ,←Nat.mul_assoc];exact hus
theorem aqa(c:Bool)(K:Int→Option β):jn K (λJ=>bif c then J 1 else J 0)=K (bif c then 1 else 0):=by cases c<;>rfl
def qy(x:bw):List (Nat×Nat):=[(x.bu.toNat,7),(x.lq.toNat,10),(x.cg.toNat,10)]
def tV(x:bG):List (Nat×Nat):=[(x.bZ.toNat,3),(x.ID.toNat,9),(rJ x.Length,2)]
def yy(a:ai):List (Nat×Nat):=[(a.af.toNat,7),(a.Seq.toNat,20),((bif a.aY then 1 else 0),1),(a.Links.length,5)]
def s9(a:ai):List (Nat×Nat):=(yy a++a.Links.flatMap qy)++(a.Claims.length,4)::a.Claims.flatMap tV
theorem adt{l:List α}{j:Nat}{x:α}(h:l[j]?=some x):l.take (j+1)=l.take j++[x]:=by
 obtain⟨h1,rfl⟩:=List.getElem?_eq_some_iff.1 h
 rw[List.take_succ_eq_append_getElem h1]
theorem akQ:∀l:List bw,gH (l.flatMap qy)=27*l.length
 |[]=>rfl
 |x::l=>by rw[List.flatMap_cons,tU,akQ l,List.length_cons];simp only[qy,gH];omega
theorem akR:∀l:List bG,gH (l.flatMap tV)=14*l.length
 |[]=>rfl
 |x::l=>by rw[List.flatMap_cons,tU,akR l,List.length_cons];simp only[tV,gH];omega
theorem abn{a:ai}(h:cc a=true):∃l c,fe a=some (l,0)∧lU a=some (l,0)∧c<65536∧SR l (gH (s9 a++[(c,16)])) (nK 0 (s9 a++[(c,16)])):=by
 have hv:=adS h
 have hb:=h
 simp only[cc,inB,Bool.and_eq_true,decide_eq_true_eq,List.all_eq_true]at hb
 obtain⟨⟨⟨⟨⟨r1,r2⟩,⟨q1,q2⟩⟩,l1⟩,⟨gl,_⟩⟩,⟨c1,gc,_⟩⟩:=hb
 unfold fe lU
 rw[tT,ru,h]
 obtain⟨s1,a1,b1,t1⟩:=uT (v:=a.af) (n:=7) Str.nil (by omega) (by omega) (by omega) (by omega)
 obtain⟨s2,a2,b2,t2⟩:=uT (v:=a.Seq) (n:=20) t1 (by omega) (by omega) (by omega) (by omega)
 rw[show((7:Nat):Int)=7 from rfl]at a1 b1
 rw[show((20:Nat):Int)=20 from rfl]at a2 b2
 simp only[a1,b1,a2,b2,aL,Bool.not_true,cond_false,aqa]
 have hcp:(0≤(bif a.aY then(1:Int)else 0)∧(bif a.aY then(1:Int)else 0)<2)∧(bif a.aY then(1:Int)else 0).toNat=(bif a.aY then 1 else 0):=by cases a.aY<;>decide
 generalize (bif a.aY then(1:Int)else 0)=cp at hcp ⊢
 obtain⟨hcp,hcpn⟩:=hcp
 obtain⟨s3,a3,b3,t3⟩:=uT (v:=cp) (n:=1) t2 (by omega) (by omega) (by omega) (by omega)
 obtain⟨s4,a4,b4,t4⟩:=uT (v:=(a.Links.length:Int)) (n:=5) t3 (by omega) (by omega) (by omega) (by omega)
 rw[show((1:Nat):Int)=1 from rfl]at a3 b3
 rw[show((5:Nat):Int)=5 from rfl]at a4 b4
 simp only[a3,b3,a4,b4,aL]
 obtain⟨⟨D1,N1⟩,t5,e1,e2⟩:=adr (L:=a.Links)
  (B1:=λ(j1:Int) (e1:bw) (Z1:((List Int)×Int)→Option (List Int×Int)) (sg:(List Int)×Int)=>bnd (b9 (bP.mk (bp.mk sg.1 sg.2)) e1.bu (7:Int)) λ(cq:bP)=>bnd (b9 cq e1.lq (10:Int)) λ(cU:bP)=>bnd (b9 cU e1.cg (10:Int)) λ(dz:bP)=>Z1 (dz.s_.Data,dz.s_.Bits))
  (B2:=λ(j1:Int) (e1:bw) (Z1:((List Int)×Int)→Option (List Int×Int)) (sg:(List Int)×Int)=>bnd (dJ (bp.mk sg.1 sg.2) e1.bu (7:Int)) λ(cq:bp)=>bnd (dJ cq e1.lq (10:Int)) λ(cU:bp)=>bnd (dJ cU e1.cg (10:Int)) λ(dz:bp)=>Z1 (dz.Data,dz.Bits))
  (λj sg=>Str (bp.mk sg.1 sg.2) (33+27*j) (nK 0 (yy a++(a.Links.take j).flatMap qy))) (by
   rintro j x ⟨D,N⟩ hx t
   have hj:j<a.Links.length:=(List.getElem?_eq_some_iff.1 hx).1
   have g:=gl x (List.mem_of_getElem? hx)
   simp only[lQ,inB,Bool.and_eq_true,decide_eq_true_eq]at g
   obtain⟨u1,c1,d1,f1⟩:=uT (v:=x.bu) (n:=7) t (by omega) (by omega) (by omega) (by omega)
   obtain⟨u2,c2,d2,f2⟩:=uT (v:=x.lq) (n:=10) f1 (by omega) (by omega) (by omega) (by omega)
   obtain⟨u3,c3,d3,f3⟩:=uT (v:=x.cg) (n:=10) f2 (by omega) (by omega) (by omega) (by omega)
   rw[show((7:Nat):Int)=7 from rfl]at c1 d1
   rw[show((10:Nat):Int)=10 from rfl]at c2 d2 c3 d3
   refine⟨(u3.Data,u3.Bits),?_,λZ=>?_,λZ=>?_⟩
   ·rw[show 33+27*(j+1)=33+27*j+7+10+10 by omega,adt hx,List.flatMap_append,←List.append_assoc,we]
    exact f3
   ·simp only[c1,c2,c3,aL]
   ·simp only[d1,d2,d3,aL]) (s4.Data,s4.Bits) (by
   have:nK 0 (yy a++(a.Links.take 0).flatMap qy)=(((0*2 ^ 7+a.af.toNat)*2 ^ 20+a.Seq.toNat)*2 ^ 1+cp.toNat)*2 ^ 5+a.Links.length:=by rw[hcpn];rfl
   rw[this];exact t4)
 rw[e1,e2]
 simp only[List.take_length]at t5 ⊢
 obtain⟨s6,a6,b6,t6⟩:=uT (v:=(a.Claims.length:Int)) (n:=4) t5 (by omega) (by omega) (by omega) (by omega)
 rw[show((4:Nat):Int)=4 from rfl]at a6 b6
 simp only[a6,b6,aL]
 obtain⟨⟨D2,N2⟩,t7,e3,e4⟩:=adr (L:=a.Claims)
  (B1:=λ(j2:Int) (e2:bG) (Z2:((List Int)×Int)→Option (List Int×Int)) (sg:(List Int)×Int)=>whl (λ(Z3:Int→Option (List Int×Int)) (kH:Int)=>chk (decide (0≤kH))<|bif decide (IntKind.wrap .i64 ((8:Int)*2 ^ min kH.toNat 64)<e2.Length)then Z3 (w64 (kH+(1:Int)))else bnd (b9 (bP.mk (bp.mk sg.1 sg.2)) e2.bZ (3:Int)) λ(bJ:bP)=>bnd (b9 bJ e2.ID (9:Int)) λ(dM:bP)=>bnd (b9 dM kH (2:Int)) λ(ck:bP)=>Z2 (ck.s_.Data,ck.s_.Bits)) (0:Int))
  (B2:=λ(j2:Int) (e2:bG) (Z2:((List Int)×Int)→Option (List Int×Int)) (sg:(List Int)×Int)=>bnd (dJ (bp.mk sg.1 sg.2) e2.bZ (3:Int)) λ(bJ:bp)=>bnd (dJ bJ e2.ID (9:Int)) λ(dM:bp)=>bnd (vN e2.Length) λ(ck:Int)=>bnd (dJ dM ck (2:Int)) λ(fD:bp)=>Z2 (fD.Data,fD.Bits))
  (λj sg=>Str (bp.mk sg.1 sg.2) (37+27*a.Links.length+14*j) (nK 0 ((yy a++a.Links.flatMap qy)++(a.Claims.length,4)::(a.Claims.take j).flatMap tV))) (by
   rintro j x ⟨D,N⟩ hx t
   have hj:j<a.Claims.length:=(List.getElem?_eq_some_iff.1 hx).1
   have g:=gc x (List.mem_of_getElem? hx)
   simp only[iY,inB,Bool.and_eq_true,decide_eq_true_eq]at g
   have hcd:rJ x.Length<4:=by unfold rJ;split;omega;split;omega;split<;>omega
   obtain⟨u1,c1,d1,f1⟩:=uT (v:=x.bZ) (n:=3) t (by omega) (by omega) (by omega) (by omega)
   obtain⟨u2,c2,d2,f2⟩:=uT (v:=x.ID) (n:=9) f1 (by omega) (by omega) (by omega) (by omega)
   obtain⟨u3,c3,d3,f3⟩:=uT (v:=(rJ x.Length:Int)) (n:=2) f2 (by omega) (by omega) (by omega) (by omega)
   rw[show((3:Nat):Int)=3 from rfl]at c1 d1
   rw[show((9:Nat):Int)=9 from rfl]at c2 d2
   rw[show((2:Nat):Int)=2 from rfl]at c3 d3
   refine⟨(u3.Data,u3.Bits),?_,λZ=>?_,λZ=>?_⟩
   ·rw[show 37+27*a.Links.length+14*(j+1)=37+27*a.Links.length+14*j+3+9+2 by omega,adt hx,List.flatMap_append,←List.cons_append,←List.append_assoc,we]
    exact f3
   ·simp only
    rw[ahS g.2]
    simp only[c1,c2,c3,aL]
   ·simp only[d1,d2,d3,aL,agS g.2]) (s6.Data,s6.Bits) (by
    rw[show 37+27*a.Links.length+14*0=33+27*a.Links.length+4 by omega,we];exact t6)
 rw[e3,e4]
 simp only[List.take_length]at t7 ⊢
 obtain⟨c,hc,k1,k2⟩:=agR t7 (by omega)
 simp only[k1,k2,aL]
 rw[cw (by omega) (by omega)]
 obtain⟨s8,a8,b8,t8⟩:=uT (v:=(c:Int)) (n:=16) t7 (by omega) (by omega) (by omega) (by omega)
 rw[show((16:Nat):Int)=16 from rfl]at a8 b8
 simp only[a8,b8,aL]
 obtain⟨p,hp,hd⟩:=ahT t8 (by omega)
 rw[hp,aL,hd]
 have hw:gH (s9 a++[(c,16)])=37+27*a.Links.length+14*a.Claims.length+16:=by
  rw[tU,s9,tU,tU,akQ]
  simp only[gH,akR,yy];omega
 refine⟨_,c,rfl,rfl,hc,?_⟩
 rw[hw,we]
 exact t8.r
theorem aeR{a:ai}(h:cc a=true):∃l,fe a=some (l,0)∧lU a=some (l,0):=by
 obtain⟨l,c,h1,h2,_⟩:=abn h
 exact⟨l,h1,h2⟩
end Go.Proofs.YtjdopimopgpagaaGreat
namespace Go.Proofs.YtjdopimopgpagaaGreat
set_option linter.all false
open Go
def kM(l:List Int):List UInt8:=l.map λn=>UInt8.ofNat n.toNat
def mc(a:ai):List Int:=match fe a with|some p=>p.1|none=>[]
def iK(a b:ai):Bool:=decide (b.Seq<a.Seq)||(decide (a.Seq=b.Seq)&&decide (0<fW (kM (mc a)) (kM (mc b))))
def lG(a b:ai):Bool:=cc a&&(cc b&&(decide (a.af=b.af)&&iK a b))
variable {a:ai}
theorem am2(h:cc a=true):fe a=some (mc a,0):=by
 obtain⟨l,h1,h2⟩:=aeR h
 unfold mc;rw[h1]
theorem aeS(h:cc a=true):lU a=some (mc a,0):=by
 obtain⟨l,h1,h2⟩:=aeR h
 unfold mc;rw[h1,h2]
theorem ajq(x y:List Int):aoe .gtr (y9 x) (y9 y)=decide (0<fW (kM x) (kM y)):=by
 show(!(Go.Op.bytesLess (y9 x).toList (y9 y).toList||(y9 x).toList==(y9 y).toList))=_
 rw[Lib.toList_data,Lib.toList_data]
 exact ahQ (kM x) (kM y)
theorem am3(x y:List Int):apM x y=fW (kM x) (kM y):=ajo _ _
theorem afn(a b:ai):uQ a b=some (lG a b):=by
 unfold uQ lG
 simp only[jn,ru,aL]
 cases ha:cc a
 ·simp
 cases hb:cc b
 ·simp
 by_cases hr:a.af=b.af
 ·simp only[hr,Bool.not_true,cond_false,decide_true,aeS ha,aeS hb,aL,ajq,iK,Bool.true_and]
 ·simp[hr]
theorem ajr(a b:ai):n5 a b=some (lG a b):=by
 unfold n5 lG
 have hx:∀a,∃p,fe a=some p∧(cc a=true→p=(mc a,0))∧(cc a=false→p.2=1):=λa=>by
  cases h:cc a
  ·refine⟨([],1),?_,λh=>by simp at h,λ_=>rfl⟩
   unfold fe;rw[tT,h];rfl
  ·exact⟨_,am2 h,λ_=>rfl,λh=>by simp at h⟩
 obtain⟨p,hp,hp1,hp2⟩:=hx a
 obtain⟨q,hq,hq1,hq2⟩:=hx b
 simp only[hp,hq,aL]
 cases ha:cc a
 ·simp[hp2 ha]
 cases hb:cc b
 ·simp[hq2 hb]
 rw[hp1 ha,hq1 hb]
 by_cases hr:a.af=b.af
 ·simp only[hr,decide_true,Bool.not_true,Bool.or_self,cond_false,Bool.true_and,iK]
  by_cases h1:b.Seq<a.Seq
  ·simp[h1]
  ·by_cases h2:a.Seq=b.Seq
   ·simp only[h2,decide_true,cond_true,sS,aL,am3];simp
   ·simp[h1,h2]
 ·simp[hr]
def ltR(r:Int)(l:List ai):List ai:=l.filter λx=>decide (x.af<r)
def gtR(r:Int)(l:List ai):List ai:=l.filter λx=>decide (r<x.af)
def oL(d:aF)(a:ai):aF:=aF.mk (ltR a.af d.aG++a::gtR a.af d.aG)
theorem aaj(r:Int)(l m:List ai):ltR r (l++m)=ltR r l++ltR r m:=List.filter_append ..
theorem aak(r:Int)(l m:List ai):gtR r (l++m)=gtR r l++gtR r m:=List.filter_append ..
variable {l:List ai}{r:Int}
theorem aal(h:∀x∈l,x.af<r):ltR r l=l:=List.filter_eq_self.2 λx hx=>by simpa using h x hx
theorem yz(h:∀x∈l,r≤x.af):ltR r l=[]:=List.filter_eq_nil_iff.2 λx hx=>by simpa using h x hx
theorem acS(h:∀x∈l,r<x.af):gtR r l=l:=List.filter_eq_self.2 λx hx=>by simpa using h x hx
theorem wg(h:∀x∈l,x.af≤r):gtR r l=[]:=List.filter_eq_nil_iff.2 λx hx=>by simpa using h x hx
def yA(d:aF):Prop:=d.aG.Pairwise (λa b=>a.af<b.af)
variable {d:aF}
theorem yB(hd:yA d)(hl:d.aG.length≤100000)(a:ai):l8 d a=some (oL d a):=by
 refine Ok.eq ?_
 unfold l8
 refine Ok.qN (λP (sg:Bool×List ai)=>(sg.1=false→(∀x∈P,x.af<a.af)∧sg.2=P)∧(sg.1=true→(∃x∈P,a.af≤x.af)∧sg.2=ltR a.af P++a::gtR a.af P)∧sg.2.length≤P.length+1) ?_ _ ⟨λ_=>⟨by simp,rfl⟩,λh=>by simp at h,by simp⟩ ?_
 ·rintro P e rest ⟨dn,m⟩ Z hL ⟨h1,h2,h3⟩ hZ
  simp only at h1 h2 h3 ⊢
  have hP:P.length<d.aG.length:=by rw[hL];simp
  have zB:∀x∈P,x.af<e.af:=λx hx=>by
   have:=hd;unfold yA at this;rw[hL]at this
   exact(List.pairwise_append.1 this).2.2 x hx e (by simp)
  simp only[jn]
  cases hdn:dn
  ·obtain⟨g1,rfl⟩:=h1 hdn
   subst hdn
   by_cases hr:a.af≤e.af
   ·simp only[hr,decide_true,Bool.not_false,Bool.and_self,cond_true]
    rw[eB (by simp;omega),aL]
    by_cases he:e.af=a.af
    ·simp only[he,decide_true,Bool.not_true,cond_false]
     refine hZ _ ⟨λh=>by simp at h,λ_=>⟨⟨e,by simp,hr⟩,?_⟩,by simp<;>omega⟩
     rw[aaj,aak,aal g1,wg (l:=m) (λx hx=>by have:=g1 x hx;omega),yz (l:=[e]) (by simp;omega),wg (l:=[e]) (by simp;omega)]
     simp
    ·simp only[he,decide_false,Bool.not_false,cond_true]
     rw[eB (by simp;omega),aL]
     refine hZ _ ⟨λh=>by simp at h,λ_=>⟨⟨e,by simp,hr⟩,?_⟩,by simp<;>omega⟩
     rw[aaj,aak,aal g1,wg (l:=m) (λx hx=>by have:=g1 x hx;omega),yz (l:=[e]) (by simp;omega),acS (l:=[e]) (by simp;omega)]
     simp
   ·have he:e.af≠a.af:=by omega
    simp only[hr,decide_false,Bool.and_false,cond_false,he,Bool.not_false,cond_true]
    rw[eB (by simp;omega),aL]
    refine hZ _ ⟨λ_=>⟨?_,rfl⟩,λh=>by simp at h,by simp<;>omega⟩
    intro x hx
    rcases List.mem_append.1 hx with hx|hx
    ·exact g1 x hx
    ·simp at hx;subst hx;omega
  ·subst hdn
   obtain⟨⟨x,hx,hxr⟩,hm⟩:=h2 rfl
   have her:a.af<e.af:=by have:=zB x hx;omega
   have he:e.af≠a.af:=by omega
   simp only[Bool.not_true,Bool.false_and,cond_false,he,decide_false,Bool.not_false,cond_true]
   rw[eB (by simp;omega),aL]
   refine hZ _ ⟨λh=>by simp at h,λ_=>⟨⟨x,by simp[hx],hxr⟩,?_⟩,by simp<;>omega⟩
   rw[aaj,aak,yz (l:=[e]) (by simp;omega),acS (l:=[e]) (by simp;omega),hm]
   simp
 ·rintro⟨dn,m⟩ ⟨h1,h2,h3⟩
  simp only at h1 h2 h3 ⊢
  simp only[jn]
  unfold oL
  cases dn
  ·obtain⟨g1,rfl⟩:=h1 rfl
   simp only[Bool.not_false,cond_true]
   rw[eB (by simp;omega),aL]
   exact Ok.s (by rw[aal g1,wg (λx hx=>by have:=g1 x hx;omega)])
  ·obtain⟨_,hm⟩:=h2 rfl
   exact Ok.s (by rw[hm])
def mD(d:aF)(a:ai):aF×Bool:=
 bif (fN d a.af).2&&!lG a (fN d a.af).1 then(d,false)else(oL d a,true)
theorem adu(d:aF)(a:ai):ua d a=some (if dbC d=0∧cc a=true then mD d a else(d,false)):=by
 unfold ua
 simp only[jn,uc,ru,yw,aL]
 by_cases h:dbC d=0
 ·cases hv:cc a
  ·simp[h]
  ·have hd:=jL.1 h
   simp only[h,decide_true,Bool.not_true,cond_false,and_self,if_true,mD]
   cases hf:(fN d a.af).2
   ·simp only[cond_false,Bool.false_and]
    rw[yB hd.asc (by have:=hd.n;omega),aL]
   ·simp only[cond_true,afn,aL,Bool.true_and]
    cases lG a (fN d a.af).1
    ·rfl
    ·simp only[Bool.not_true,cond_false]
     rw[yB hd.asc (by have:=hd.n;omega),aL]
 ·simp[h]
theorem bsAd(l:List ai)(x:Int)(c:ai→Int→Option Int)(f:ai→Int)(hl:l.length≤1000000)(hc:∀r,c r x=some (f r)):cO l x c=some ((bsR f l:Int),bsT f l):=by
 unfold cO
 refine acF l f hl λi j Z hj=>?_
 by_cases hij:i<j
 ·rw[dif_pos hij]
  simp only[acE (i:=i) (j:=j) (by omega),uz (show(i+j) / 2<l.length by omega),aL,hc,o8]
  rw[if_pos (by omega),cw (by omega) (by omega)]
  rfl
 ·rw[dif_neg hij]
  simp only[o8]
  rw[if_neg (by omega)]
  by_cases hi:i<l.length
  ·rw[if_pos (by omega),uz hi];simp only[aL,hc];simp[hi]
  ·rw[if_neg (by omega)];simp[hi]
theorem am4(x:ai)(r:Int):l6 x r=some (eF x.af r):=by
 unfold l6;rw[acC,aL]
theorem abo(x y:Int):(eF x y<0↔x<y)∧(eF x y=0↔x=y):=by
 unfold eF;split
 ·exact⟨by omega,by omega⟩
 ·split
  ·exact⟨by omega,by omega⟩
  ·exact⟨by omega,by omega⟩
theorem afQ(hd:yA d)(r:Int):∀a b:Nat,a≤b→b<d.aG.length→eF (el d.aG a).af r≤eF (el d.aG b).af r:=
 rS (f:=λx:ai=>eF x.af r) (hd.imp λh=>by
  unfold eF;split<;>split<;>(try split)<;>(try split)<;>omega)
theorem ajs(hd:yA d)(r:Int):d.aG.take (bsR (λx:ai=>eF x.af r) d.aG)=ltR r d.aG∧
  (bsT (λx:ai=>eF x.af r) d.aG=(fN d r).2)∧bsR (λx:ai=>eF x.af r) d.aG≤d.aG.length∧
  ((fN d r).2=false→d.aG.drop (bsR (λx:ai=>eF x.af r) d.aG)=gtR r d.aG)∧
  ((fN d r).2=true→d.aG.drop (bsR (λx:ai=>eF x.af r) d.aG)=(fN d r).1::gtR r d.aG):=by
 obtain⟨h1,h2,h3⟩:=aeC (f:=λx:ai=>eF x.af r) (afQ hd r)
 have hT:=acG (f:=λx:ai=>eF x.af r) (afQ hd r)
 generalize bsR (λx:ai=>eF x.af r) d.aG=n at h1 h2 h3 ⊢
 have ht:∀x∈d.aG.take n,x.af<r:=λx hx=>by
  obtain⟨i,hi,rfl⟩:=List.getElem_of_mem hx
  rw[List.length_take]at hi
  have:=h2 i (by omega)
  rw[vR (by omega)]at this
  rw[List.getElem_take]
  exact(abo _ _).1.1 this
 have hg:∀x∈d.aG.drop n,r≤x.af:=λx hx=>by
  obtain⟨i,hi,rfl⟩:=List.getElem_of_mem hx
  rw[List.length_drop]at hi
  have:=h3 (n+i) (by omega) (by omega)
  rw[vR (by omega)]at this
  rw[List.getElem_drop]
  have q:=(abo (d.aG[n+i]).af r).1
  have q2:¬eF (d.aG[n+i]).af r<0:=by omega
  rw[q]at q2;omega
 have hs:=List.take_append_drop n d.aG
 have e1:ltR r d.aG=d.aG.take n:=by
  conv=>lhs;rw[←hs]
  rw[aaj,aal ht,yz hg,List.append_nil]
 have e2:gtR r d.aG=gtR r (d.aG.drop n):=by
  conv=>lhs;rw[←hs]
  rw[aak,wg (l:=d.aG.take n) (λx hx=>by have:=ht x hx;omega),List.nil_append]
 have e3:bsT (λx:ai=>eF x.af r) d.aG=(fN d r).2:=by
  rw[Bool.eq_iff_iff,hT]
  simp only[(abo _ _).2]
  rcases lR d r with⟨a,ha,he,hf⟩|⟨hn,hf⟩
  ·rw[hf];exact⟨λ_=>rfl,λ_=>⟨a,ha,he⟩⟩
  ·rw[hf];exact⟨λ⟨a,ha,he⟩=>absurd he (hn a ha),λh=>by simp at h⟩
 refine⟨e1.symm,e3,h1,λhf=>?_,λhf=>?_⟩
 ·rw[e2,acS]
  intro x hx
  rcases lR d r with⟨a,ha,he,hf2⟩|⟨hn,hf2⟩
  ·rw[hf2]at hf;simp at hf
  ·have:=hg x hx;have:=hn x (List.mem_of_mem_drop hx);omega
 ·rcases lR d r with⟨a,ha,he,hf2⟩|⟨hn,hf2⟩
  ·rw[hf2,e2]
   have hmem:a∈d.aG.drop n:=by
    have:a∈d.aG.take n++d.aG.drop n:=by rw[hs];exact ha
    rcases List.mem_append.1 this with q|q
    ·have:=ht a q;omega
    ·exact q
   have hp:(d.aG.drop n).Pairwise (λa b=>a.af<b.af):=List.Pairwise.sublist (List.drop_sublist n _) hd
   cases hD:d.aG.drop n with
   |nil=>rw[hD]at hmem;simp at hmem
   |cons y t=>
    rw[hD]at hp hmem hg
    rw[List.pairwise_cons]at hp
    rcases List.mem_cons.1 hmem with q|q
    ·subst q
     show _=a::(a::t).filter _
     rw[List.filter_cons_of_neg (by simp[he])]
     congr 1
     exact(List.filter_eq_self.2 λx hx=>by have:=hp.1 x hx;simp;omega).symm
    ·have:=hp.1 a q;have:=hg y (by simp);omega
  ·rw[hf2]at hf;simp at hf
theorem ahU(hd:yA d)(hl:d.aG.length≤100000)(ha:SmA a):lV d a=some ((mD d a).2,(mD d a).1):=by
 unfold lV
 rw[bsAd d.aG a.af _ (λx=>eF x.af a.af) (by omega) (λx=>am4 x _),aL]
 obtain⟨p1,p2,p3,p4,p5⟩:=ajs hd a.af
 simp only[jn,p2]
 generalize bsR (λx:ai=>eF x.af a.af) d.aG=n at *
 unfold mD oL
 cases hf:(fN d a.af).2
 ·simp only[Bool.not_false,cond_true,Bool.false_and,cond_false,wK ha,aL]
  have:acf d.aG (n:Int) a=some (ltR a.af d.aG++a::gtR a.af d.aG):=by
   unfold acf
   rw[if_pos ⟨⟨by omega,by omega⟩,by unfold cap;omega⟩,Int.toNat_natCast,p1,p4 hf]
  rw[this,aL]
 ·have hD:=p5 hf
  have hn:n<d.aG.length:=by
   have:=congrArg List.length hD
   rw[List.length_drop,List.length_cons]at this;omega
  have he:d.aG[n]=(fN d a.af).1:=by
   rw[List.drop_eq_getElem_cons hn]at hD
   exact(List.cons.inj hD).1
  have hel:elO d.aG (n:Int)=some (fN d a.af).1:=by
   rw[←he];unfold elO;rw[if_pos (by omega)];simp[hn]
  simp only[Bool.not_true,cond_false,hel,aL,ajr,Bool.true_and]
  cases hnw:lG a (fN d a.af).1
  ·rfl
  ·simp only[cond_true,wK ha,aL,Bool.not_true,cond_false]
   have:gF d.aG (n:Int) a=some (ltR a.af d.aG++a::gtR a.af d.aG):=by
    unfold gF
    rw[if_pos ⟨by omega,by omega⟩,Int.toNat_natCast,List.set_eq_take_append_cons_drop,if_pos hn,p1]
    rw[List.drop_eq_getElem_cons hn]at hD
    rw[(List.cons.inj hD).2]
   rw[this,aL]
theorem aeT(hd:SmD d):jV d=some d:=by
 refine Ok.eq ?_
 unfold jV
 refine Ok.qN (λP (m:List ai)=>m=P) ?_ _ rfl (λm hm=>Ok.s (by rw[hm]))
 rintro P x r m Z hL rfl hZ
 have hx:x∈d.aG:=by rw[hL];simp
 have hl:m.length<d.aG.length:=by rw[hL];simp
 have:=hd.1
 rw[wK (hd.2 x hx),aL,eB (by simp;omega),aL]
 exact hZ _ rfl
theorem aqb(hd:SmD d)(ha:SmA a):n9 d a=some (if dbC d=0∧cc a=true then mD d a else(d,false)):=by
 unfold n9
 simp only[jn,aeT hd,yt,tT,aL]
 by_cases h:dbC d=0
 ·cases hv:cc a
  ·simp[h]
  ·simp only[h,decide_true,Bool.not_true,cond_false,and_self,if_true]
   rw[ahU (jL.1 h).asc hd.1 ha,aL]
 ·simp[h]
end Go.Proofs.YtjdopimopgpagaaGreat
namespace Go.Proofs.YtjdopimopgpagaaGreat
set_option linter.all false
open Go
theorem afR:∀(l:List ai) (lo:Int),l.Pairwise (λa b=>a.af<b.af)→(∀x∈l,lo≤x.af∧x.af≤99)→(l.length:Int)≤max 0 (100-lo)
 |[],lo,_,_=>by simp;omega
 |x::r,lo,h,hb=>by
  rw[List.pairwise_cons]at h
  have h1:=hb x (by simp)
  have:=afR r (x.af+1) h.2 λy hy=>⟨by have:=h.1 y hy;omega,(hb y (by simp[hy])).2⟩
  simp only[List.length_cons]
  omega
variable {d:aF}
theorem atx(h1:∀a∈d.aG,cc a=true)(h2:yA d):Vd d:=by
 refine⟨?_,h1,h2⟩
 have:=afR d.aG 1 h2 λx hx=>(adS (h1 x hx)).r
 omega
variable {a:ai}
theorem qk{x:ai}:x∈(oL d a).aG↔x=a∨(x∈d.aG∧x.af≠a.af):=by
 simp only[oL,List.mem_append,List.mem_cons,ltR,gtR,List.mem_filter,decide_eq_true_eq]
 constructor
 ·rintro(⟨h1,h2⟩|rfl|⟨h1,h2⟩)
  ·exact .inr ⟨h1,by omega⟩
  ·exact .inl rfl
  ·exact .inr ⟨h1,by omega⟩
 ·rintro(rfl|⟨h1,h2⟩)
  ·exact .inr (.inl rfl)
  ·rcases Int.lt_or_gt_of_ne h2 with h|h
   ·exact .inl ⟨h1,h⟩
   ·exact .inr (.inr ⟨h1,h⟩)
theorem ajt(h:yA d)(a:ai):yA (oL d a):=by
 unfold yA oL
 simp only
 refine List.pairwise_append.2 ⟨List.Pairwise.sublist List.filter_sublist h,List.pairwise_cons.2 ⟨λy hy=>by simpa [gtR]using (List.mem_filter.1 hy).2,List.Pairwise.sublist List.filter_sublist h⟩,λx hx y hy=>?_⟩
 have h1:x.af<a.af:=by simpa using (List.mem_filter.1 hx).2
 rcases List.mem_cons.1 hy with rfl|hy
 ·exact h1
 ·have:a.af<y.af:=by simpa using (List.mem_filter.1 hy).2
  omega
theorem Vd.with{d:aF}(h:Vd d){a:ai}(ha:cc a=true):Vd (oL d a):=
 atx (λx hx=>by rcases qk.1 hx with rfl|⟨h1,_⟩;exact ha;exact h.ok x h1) (ajt h.asc a)
theorem Vd.put(h:Vd d)(ha:cc a=true):Vd (mD d a).1:=by
 unfold mD
 cases(fN d a.af).2&&!lG a (fN d a.af).1
 ·exact h.with ha
 ·exact h
def look(d:aF)(r:Int):Option ai:=bif (fN d r).2 then some (fN d r).1 else none
variable {r:Int}
theorem fC(h:Vd d):look d r=some a↔a∈d.aG∧a.af=r:=by
 unfold look
 constructor
 ·intro q
  rcases lR d r with⟨b,hb,he,hf⟩|⟨hn,hf⟩
  ·rw[hf]at q;simp at q;subst q;exact⟨hb,he⟩
  ·rw[hf]at q;simp at q
 ·rintro⟨h1,h2⟩
  rw[h.key h1 h2];rfl
theorem zC:look d r=none↔∀a∈d.aG,a.af≠r:=by
 unfold look
 rcases lR d r with⟨b,hb,he,hf⟩|⟨hn,hf⟩
 ·rw[hf];simp;exact⟨b,hb,he⟩
 ·rw[hf];simp;exact hn
theorem aju{e:aF}(h1:Vd d)(h2:Vd e)(h:∀r,look d r=look e r):d=e:=by
 have:d.aG=e.aG:=s7 (r:=λa b:ai=>a.af<b.af) (λa=>Int.lt_irrefl _) (λa b c=>Int.lt_trans) h1.asc h2.asc λx=>by
  have a1:=fC h1 (r:=x.af) (a:=x)
  have a2:=fC h2 (r:=x.af) (a:=x)
  rw[h]at a1
  simp only[and_true]at a1 a2
  exact a1.symm.trans a2
 cases d;cases e;simp only at this;rw[this]
def mx(o:Option ai)(a:ai):ai:=match o with|none=>a|some x=>bif lG a x then a else x
theorem abp(h:Vd d)(ha:cc a=true)(r:Int):look (mD d a).1 r=if r=a.af then some (mx (look d r) a)else look d r:=by
 have hw:∀r,look (oL d a) r=if r=a.af then some a else look d r:=λr=>by
  by_cases hr:r=a.af
  ·rw[if_pos hr]
   exact(fC (h.with ha)).2 ⟨qk.2 (.inl rfl),hr.symm⟩
  ·rw[if_neg hr]
   cases hl:look d r with
   |none=>
    rw[zC]at hl ⊢
    intro x hx
    rcases qk.1 hx with rfl|⟨h1,_⟩
    ·exact λe=>hr e.symm
    ·exact hl x h1
   |some x=>
    obtain⟨h1,h2⟩:=(fC h).1 hl
    exact(fC (h.with ha)).2 ⟨qk.2 (.inr ⟨h1,by omega⟩),h2⟩
 unfold mD
 rcases lR d a.af with⟨b,hb,he,hf⟩|⟨hn,hf⟩
 ·rw[hf]
  have hlk:look d a.af=some b:=(fC h).2 ⟨hb,he⟩
  cases hnw:lG a b
  ·simp only[Bool.not_false,Bool.and_self,cond_true]
   by_cases hr:r=a.af
   ·subst hr;rw[if_pos rfl,hlk];simp[mx,hnw]
   ·rw[if_neg hr]
  ·simp only[Bool.not_true,Bool.and_false,cond_false]
   rw[hw]
   by_cases hr:r=a.af
   ·subst hr;rw[if_pos rfl,if_pos rfl,hlk];simp[mx,hnw]
   ·rw[if_neg hr,if_neg hr]
 ·rw[hf]
  simp only[Bool.false_and,cond_false]
  rw[hw]
  by_cases hr:r=a.af
  ·subst hr;rw[if_pos rfl,if_pos rfl,zC.2 hn];rfl
  ·rw[if_neg hr,if_neg hr]
theorem afo{x y z:List UInt8}(h1:¬0<fW x y)(h2:¬0<fW y z):¬0<fW x z:=by
 intro h
 rcases Int.lt_trichotomy (fW x y) 0 with g|g|g
 ·have:0<fW y x:=by rw[wL];omega
  exact h2 (abZ this h)
 ·rw[acR g]at h;exact h2 h
 ·exact h1 g
theorem pG(a:ai):iK a a=false:=by simp[iK,ado]
variable {b:ai}
theorem ta(h:iK a b=true):iK b a=false:=by
 simp only[iK,Bool.or_eq_true,Bool.and_eq_true,decide_eq_true_eq]at h
 simp only[iK,Bool.or_eq_false_iff,Bool.and_eq_false_iff,decide_eq_false_iff_not]
 rcases h with h|⟨h1,h2⟩
 ·exact⟨by omega,.inl (by omega)⟩
 ·exact⟨by omega,.inr (by rw[wL];omega)⟩
theorem aaD{c:ai}(h1:iK a b=false)(h2:iK b c=false):iK a c=false:=by
 simp only[iK,Bool.or_eq_false_iff,Bool.and_eq_false_iff,decide_eq_false_iff_not]at *
 refine⟨by omega,?_⟩
 by_cases e:a.Seq=c.Seq
 ·right
  have e1:a.Seq=b.Seq:=by omega
  have e2:b.Seq=c.Seq:=by omega
  rcases h1.2 with g|g
  ·exact absurd e1 g
  rcases h2.2 with g'|g'
  ·exact absurd e2 g'
  exact afo g g'
 ·exact .inl e
def iz(a b:aF):aF:=b.aG.foldl (λm e=>(mD m e).1) a
theorem adv{α β:Type}{f:β→α→β}{P:β→Prop}:∀(l:List α) (b:β),P b→(∀b x,x∈l→P b→P (f b x))→P (l.foldl f b)
 |[],b,h,_=>h
 |x::l,b,h,hs=>by
  simp only[List.foldl_cons]
  exact adv l _ (hs b x (by simp) h) λb y hy=>hs b y (by simp[hy])
theorem Vd.merge{a b:aF}(ha:Vd a)(hb:Vd b):Vd (iz a b):=
 adv (P:=Vd) b.aG a ha λd x hx h=>h.put (hb.ok x hx)
theorem agU{a b:aF}(ha:Vd a)(hb:Vd b)(r:Int):look (iz a b) r=match look b r with|none=>look a r|some y=>some (mx (look a r) y):=by
 have key:∀(l:List ai) (d:aF),Vd d→(∀x∈l,cc x=true)→l.Pairwise (λa b=>a.af<b.af)→
   look (l.foldl (λm e=>(mD m e).1) d) r=match l.find? (λx=>decide (x.af=r))with|none=>look d r|some y=>some (mx (look d r) y):=by
  intro l
  induction l with
  |nil=>intro d _ _ _;rfl
  |cons x l ih=>
   intro d hd hv hp
   rw[List.pairwise_cons]at hp
   simp only[List.foldl_cons]
   rw[ih _ (hd.put (hv x (by simp))) (λy hy=>hv y (by simp[hy])) hp.2,abp hd (hv x (by simp)),List.find?_cons]
   by_cases hr:r=x.af
   ·rw[if_pos hr]
    have:l.find? (λx=>decide (x.af=r))=none:=List.find?_eq_none.2 λy hy=>by have:=hp.1 y hy;simp;omega
    rw[this];simp[hr]
   ·rw[if_neg hr]
    have:decide (x.af=r)=false:=by simp;omega
    rw[this]
 unfold iz
 rw[key b.aG a ha hb.ok hb.asc]
 unfold look fN
 cases b.aG.find? (λx=>decide (x.af=r))<;>rfl
theorem aaE(a b:aF):uR a b=some (if dbC a=0∧dbC b=0 then(iz a b,0)else(aF.mk [],1)):=by
 unfold uR
 simp only[jn,uc,aL]
 by_cases h1:dbC a=0
 ·by_cases h2:dbC b=0
  ·simp only[h1,h2,decide_true,Bool.not_true,cond_false,and_self,if_true]
   refine Ok.eq ?_
   refine Ok.qN (λP (m:List ai)=>aF.mk m=P.foldl (λm e=>(mD m e).1) a∧Vd (aF.mk m)) ?_ _ ⟨rfl,jL.1 h1⟩ (λm hm=>Ok.s (by rw[hm.1];rfl))
   rintro P x r m Z hL ⟨hm,hv⟩ hZ
   have hx:=(jL.1 h2).ok x (by rw[hL];simp)
   rw[adu,if_pos ⟨jL.2 hv,hx⟩,aL]
   exact hZ _ ⟨by rw[List.foldl_append,←hm];rfl,hv.put hx⟩
  ·simp[h1,h2]
 ·simp[h1]
theorem Va.sm(h:cc a=true):SmA a:=by have:=adS h;exact⟨by have:=this.n;omega,by have:=this.nc;omega⟩
theorem ajv{a:aF}(hs:SmD a)(b:aF):l7 a b=some (if dbC a=0∧dbC b=0 then(iz a b,0)else(aF.mk [],1)):=by
 unfold l7
 simp only[jn,yt,aeT hs,aL]
 by_cases h1:dbC a=0
 ·by_cases h2:dbC b=0
  ·simp only[h1,h2,decide_true,Bool.not_true,cond_false,and_self,if_true]
   refine Ok.eq ?_
   refine Ok.qN (λP (m:List ai)=>aF.mk m=P.foldl (λm e=>(mD m e).1) a∧Vd (aF.mk m)) ?_ _ ⟨rfl,jL.1 h1⟩ (λm hm=>Ok.s (by rw[hm.1];rfl))
   rintro P x r m Z hL ⟨hm,hv⟩ hZ
   have hx:=(jL.1 h2).ok x (by rw[hL];simp)
   rw[ahU hv.asc (by have:=hv.n;omega) (Va.sm hx),aL]
   exact hZ _ ⟨by rw[List.foldl_append,←hm];rfl,hv.put hx⟩
  ·simp[h1,h2]
 ·simp[h1]
end Go.Proofs.YtjdopimopgpagaaGreat
namespace Go.Proofs.YtjdopimopgpagaaGreat
set_option linter.all false
open Go
structure Holds(N T:Nat)(F:List (Nat×Nat)):Prop where
 w:gH F≤T
 b:∀p∈F,p.1<2 ^ p.2
 v:N=nK 0 F*2 ^ (T-gH F)
theorem yC:∀(a:Nat) (F:List (Nat×Nat)),nK a F=a*2 ^ gH F+nK 0 F
 |a,[]=>by simp[nK,gH]
 |a,(v,w)::r=>by
  simp only[nK,gH]
  rw[yC (a*2 ^ w+v) r,yC (0*2 ^ w+v) r,Nat.add_mul,Nat.mul_assoc,←Nat.pow_add,Nat.zero_mul,Nat.zero_add]
  omega
theorem afS:∀(F:List (Nat×Nat)),(∀p∈F,p.1<2 ^ p.2)→nK 0 F<2 ^ gH F
 |[],_=>by simp[nK,gH]
 |(v,w)::r,h=>by
  simp only[nK,gH]
  rw[yC]
  have h1:=afS r λp hp=>h p (by simp[hp])
  have h2:v<2 ^ w:=h (v,w) (by simp)
  have h3:(v+1)*2 ^ gH r≤2 ^ w*2 ^ gH r:=Nat.mul_le_mul_right _ h2
  rw[Nat.add_mul,Nat.one_mul,←Nat.pow_add]at h3
  simp only[Nat.zero_mul,Nat.zero_add]
  omega
theorem Holds.aqc{N T v w:Nat}{r:List (Nat×Nat)}(h:Holds N T ((v,w)::r)):v=N / 2 ^ (T-w)∧Holds (N%2 ^ (T-w)) (T-w) r:=by
 have hw:w+gH r≤T:=h.w
 have hr:∀p∈r,p.1<2 ^ p.2:=λp hp=>h.b p (by simp[hp])
 have hv:=h.v
 have e:nK 0 ((v,w)::r)=v*2 ^ gH r+nK 0 r:=by
  show nK (0*2 ^ w+v) r=_
  rw[yC,Nat.zero_mul,Nat.zero_add]
 have hx:=afS r hr
 have e2:T-gH ((v,w)::r)=T-w-gH r:=by show T-(w+gH r)=_;omega
 rw[e,e2,Nat.add_mul,Nat.mul_assoc,←Nat.pow_add,show gH r+(T-w-gH r)=T-w by omega]at hv
 have hlt:nK 0 r*2 ^ (T-w-gH r)<2 ^ (T-w):=by
  have:2 ^ (T-w)=2 ^ gH r*2 ^ (T-w-gH r):=by rw[←Nat.pow_add,show gH r+(T-w-gH r)=T-w by omega]
  rw[this];exact Nat.mul_lt_mul_of_pos_right hx (Nat.two_pow_pos _)
 refine⟨?_,⟨by omega,hr,?_⟩⟩
 ·rw[hv,Nat.mul_comm,Nat.mul_add_div (Nat.two_pow_pos _),Nat.div_eq_of_lt hlt,Nat.add_zero]
 ·rw[hv,Nat.mul_comm,Nat.mul_add_mod,Nat.mod_eq_of_lt hlt]
theorem Holds.same{N T v v' w:Nat}{r r':List (Nat×Nat)}(h:Holds N T ((v,w)::r))(h':Holds N T ((v',w)::r')):v=v'∧∃N' T',Holds N' T' r∧Holds N' T' r':=by
 obtain⟨a,b⟩:=h.aqc
 obtain⟨c,d⟩:=h'.aqc
 exact⟨a.trans c.symm,_,_,b,d⟩
theorem ahV:∀(l m:List bw) (r r':List (Nat×Nat)) (N T:Nat),l.length=m.length→(∀x∈l,0≤x.bu∧0≤x.lq∧0≤x.cg)→(∀x∈m,0≤x.bu∧0≤x.lq∧0≤x.cg)→
  Holds N T (l.flatMap qy++r)→Holds N T (m.flatMap qy++r')→l=m∧∃N' T',Holds N' T' r∧Holds N' T' r'
 |[],[],r,r',N,T,_,_,_,h,h'=>⟨rfl,N,T,h,h'⟩
 |[],_::_,_,_,_,_,h,_,_,_,_=>by simp at h
 |_::_,[],_,_,_,_,h,_,_,_,_=>by simp at h
 |x::l,y::m,r,r',N,T,hl,hx,hy,h,h'=>by
  obtain⟨e1,_,_,h,h'⟩:=Holds.same h h'
  obtain⟨e2,_,_,h,h'⟩:=Holds.same h h'
  obtain⟨e3,_,_,h,h'⟩:=Holds.same h h'
  obtain⟨e,q⟩:=ahV l m r r' _ _ (by simpa using hl) (λz hz=>hx z (by simp[hz])) (λz hz=>hy z (by simp[hz])) h h'
  refine⟨?_,q⟩
  have a1:=hx x (by simp);have a2:=hy y (by simp)
  rw[e];congr 1
  obtain⟨xn,xc,xp⟩:=x
  obtain⟨yn,yc,yp⟩:=y
  simp only at *
  rw[bw.mk.injEq];omega
theorem ahW{a b:Int}(ha:nJ a=true)(hb:nJ b=true)(h:rJ a=rJ b):a=b:=by
 simp only[nJ,Bool.or_eq_true,decide_eq_true_eq]at ha hb
 rcases ha with rfl|rfl|rfl|rfl<;>rcases hb with rfl|rfl|rfl|rfl<;>simp[rJ]at h ⊢
theorem ahX:∀(l m:List bG) (r r':List (Nat×Nat)) (N T:Nat),l.length=m.length→(∀x∈l,0≤x.bZ∧0≤x.ID∧nJ x.Length=true)→(∀x∈m,0≤x.bZ∧0≤x.ID∧nJ x.Length=true)→
  Holds N T (l.flatMap tV++r)→Holds N T (m.flatMap tV++r')→l=m
 |[],[],_,_,_,_,_,_,_,_,_=>rfl
 |[],_::_,_,_,_,_,h,_,_,_,_=>by simp at h
 |_::_,[],_,_,_,_,h,_,_,_,_=>by simp at h
 |x::l,y::m,r,r',N,T,hl,hx,hy,h,h'=>by
  obtain⟨e1,_,_,h,h'⟩:=Holds.same h h'
  obtain⟨e2,_,_,h,h'⟩:=Holds.same h h'
  obtain⟨e3,_,_,h,h'⟩:=Holds.same h h'
  have e:=ahX l m r r' _ _ (by simpa using hl) (λz hz=>hx z (by simp[hz])) (λz hz=>hy z (by simp[hz])) h h'
  have a1:=hx x (by simp);have a2:=hy y (by simp)
  have e4:=ahW a1.2.2 a2.2.2 e3
  rw[e];congr 1
  obtain⟨xn,xc,xp⟩:=x
  obtain⟨yn,yc,yp⟩:=y
  simp only at *
  rw[bG.mk.injEq];omega
theorem ajw(l:Int):rJ l<4:=by unfold rJ;split;omega;split;omega;split<;>omega
theorem am5{a b:ai}(ha:cc a=true)(hb:cc b=true)(h:mc a=mc b):a=b:=by
 have facts:∀{a:ai},cc a=true→∃c,c<65536∧SR (mc a) (gH (s9 a++[(c,16)])) (nK 0 (s9 a++[(c,16)]))∧(0≤a.af∧0≤a.Seq)∧
   (∀x∈a.Links,0≤x.bu∧0≤x.lq∧0≤x.cg)∧(∀x∈a.Claims,0≤x.bZ∧0≤x.ID∧nJ x.Length=true)∧∀p∈s9 a++[(c,16)],p.1<2 ^ p.2:=by
  intro a ha
  obtain⟨l,c,h1,_,hc,h3⟩:=abn ha
  have hl:mc a=l:=by unfold mc;rw[h1]
  have hb:=ha
  simp only[cc,inB,Bool.and_eq_true,decide_eq_true_eq,List.all_eq_true,lQ,iY]at hb
  obtain⟨⟨⟨⟨⟨r1,r2⟩,⟨q1,q2⟩⟩,l1⟩,⟨gl,_⟩⟩,⟨c1,gc,_⟩⟩:=hb
  refine⟨c,hc,hl▸h3,by omega,λx hx=>?_,λx hx=>?_,?_⟩
  ·have:=gl x hx;omega
  ·have:=gc x hx;exact⟨by omega,by omega,this.2⟩
  ·intro p hp
   simp only[s9,yy,List.mem_append,List.mem_cons,List.not_mem_nil,or_false,List.mem_flatMap]at hp
   rcases hp with(((rfl|rfl|rfl|rfl)|⟨x,hx,hp⟩)|rfl|⟨x,hx,hp⟩)|rfl
   ·show a.af.toNat<128;omega
   ·show a.Seq.toNat<1048576;omega
   ·show(bif a.aY then 1 else 0)<2;cases a.aY<;>decide
   ·show a.Links.length<32;omega
   ·have:=gl x hx
    simp only[qy,List.mem_cons,List.not_mem_nil,or_false]at hp
    rcases hp with rfl|rfl|rfl
    ·show x.bu.toNat<128;omega
    ·show x.lq.toNat<1024;omega
    ·show x.cg.toNat<1024;omega
   ·show a.Claims.length<16;omega
   ·have:=gc x hx
    simp only[tV,List.mem_cons,List.not_mem_nil,or_false]at hp
    rcases hp with rfl|rfl|rfl
    ·show x.bZ.toNat<8;omega
    ·show x.ID.toNat<512;omega
    ·show rJ x.Length<4;exact ajw _
   ·exact hc
 obtain⟨c,hc,s1,n1,l1,k1,b1⟩:=facts ha
 obtain⟨d,hd,s2,n2,l2,k2,b2⟩:=facts hb
 rw[←h]at s2
 have H1:Holds (uS (mc a)) (8*(mc a).length) (s9 a++[(c,16)]):=⟨s1.le,b1,s1.num⟩
 have H2:Holds (uS (mc a)) (8*(mc a).length) (s9 b++[(d,16)]):=⟨s2.le,b2,s2.num⟩
 unfold s9 yy at H1 H2
 simp only[List.append_assoc,List.cons_append,List.nil_append]at H1 H2
 obtain⟨e1,_,_,H1,H2⟩:=H1.same H2
 obtain⟨e2,_,_,H1,H2⟩:=H1.same H2
 obtain⟨e3,_,_,H1,H2⟩:=H1.same H2
 obtain⟨e4,_,_,H1,H2⟩:=H1.same H2
 obtain⟨e5,_,_,H1,H2⟩:=ahV _ _ _ _ _ _ e4 l1 l2 H1 H2
 obtain⟨e6,_,_,H1,H2⟩:=H1.same H2
 have e7:=ahX _ _ _ _ _ _ e6 k1 k2 H1 H2
 obtain⟨ar,as_,ac,al,ak⟩:=a
 obtain⟨br,bs_,bc,bl,bk⟩:=b
 simp only at *
 rw[ai.mk.injEq]
 refine⟨by omega,by omega,?_,e5,e7⟩
 cases ac<;>cases bc<;>simp at e3<;>rfl
theorem ab1:∀{l m:List Int},(∀b∈l,0≤b∧b<256)→(∀b∈m,0≤b∧b<256)→kM l=kM m→l=m
 |[],[],_,_,_=>rfl
 |[],_::_,_,_,h=>by simp[kM]at h
 |_::_,[],_,_,h=>by simp[kM]at h
 |x::l,y::m,hl,hm,h=>by
  simp only[kM,List.map_cons,List.cons.injEq]at h
  have h1:=hl x (by simp);have h2:=hm y (by simp)
  have e:x.toNat=y.toNat:=by
   have:=congrArg UInt8.toNat h.1
   simp only[UInt8.toNat_ofNat']at this
   omega
  rw[ab1 (λb hb=>hl b (by simp[hb])) (λb hb=>hm b (by simp[hb])) h.2,show x=y by omega]
theorem ab2{a:ai}(h:cc a=true):∀b∈mc a,0≤b∧b<256:=by
 obtain⟨l,c,h1,_,hc,h3⟩:=abn h
 have hl:mc a=l:=by unfold mc;rw[h1]
 rw[hl];exact h3.by_
theorem ajx{a b:ai}(ha:cc a=true)(hb:cc b=true)(h1:iK a b=false)(h2:iK b a=false):a=b:=by
 simp only[iK,Bool.or_eq_false_iff,Bool.and_eq_false_iff,decide_eq_false_iff_not]at h1 h2
 have hs:a.Seq=b.Seq:=by omega
 have g1:¬0<fW (kM (mc a)) (kM (mc b)):=by rcases h1.2 with q|q;exact absurd hs q;exact q
 have g2:¬0<fW (kM (mc b)) (kM (mc a)):=by rcases h2.2 with q|q;exact absurd hs.symm q;exact q
 rw[wL]at g2
 exact am5 ha hb (ab1 (ab2 ha) (ab2 hb) (acR (by omega)))
def mxA(x y:ai):ai:=bif iK y x then y else x
theorem aty{d e:aF}(hd:Vd d)(he:Vd e){r:Int}{x y:ai}(h1:look d r=some x)(h2:look e r=some y):mx (some x) y=mxA x y:=by
 obtain⟨a1,a2⟩:=(fC hd).1 h1
 obtain⟨b1,b2⟩:=(fC he).1 h2
 simp only[mx,mxA,lG,hd.ok x a1,he.ok y b1,Bool.true_and]
 rw[a2,b2];simp
def mxO(o p:Option ai):Option ai:=match o,p with|some x,some y=>some (mxA x y)|some x,none=>some x|none,p=>p
theorem am6{a b:aF}(ha:Vd a)(hb:Vd b)(r:Int):look (iz a b) r=mxO (look a r) (look b r):=by
 rw[agU ha hb]
 cases h1:look a r with
 |none=>cases h2:look b r<;>rfl
 |some x=>
  cases h2:look b r with
  |none=>rfl
  |some y=>simp only[aty ha hb h1 h2,mxO]
end Go.Proofs.YtjdopimopgpagaaGreat
namespace Go.Proofs.YtjdopimopgpagaaGreat
set_option linter.all false
open Go
def pR(t:aB)(r n:Int):bw:=match t.Links.find? (λl=>fS l r n)with|some l=>bw.mk n (mL r n l).1 l.cg|none=>bw.mk n 0 0
def agV(t:aB)(r:Int):Bool:=match t.aI.find? (λx=>decide (x.ID=r))with|some x=>x.aY|none=>false
def ofA(t:aB)(r seq:Int)(cl:List bG):ai:=ai.mk r seq (agV t r) ((iN t r).map (pR t r)) cl
theorem aam(t:aB)(r n:Int):(pR t r n).bu=n:=by unfold pR;split<;>rfl
variable {l:aV}{t:aB}
theorem yD(hv:Vt t){a b:Int}(hl:l∈t.Links)(he:fS l a b=true):pR t a b=bw.mk b (mL a b l).1 l.cg:=by
 unfold pR
 cases hf:t.Links.find? (λl=>fS l a b)with
 |none=>exact absurd he (List.find?_eq_none.1 hf l hl)
 |some x=>
  have hx:=List.mem_of_find?_eq_some hf
  have hp:=List.find?_some hf
  have h1:=hv.lt _ hl
  have h2:=hv.lt _ hx
  simp[fS]at he hp
  rw[aeF hv hx hl (by omega) (by omega)]
theorem afT(hv:Vt t)(hl:l∈t.Links):pR t l.A l.B=bw.mk l.B l.lK l.cg:=by
 rw[yD hv hl (by simp[fS])];simp[mL]
theorem afU(hv:Vt t)(hl:l∈t.Links):pR t l.B l.A=bw.mk l.A l.kP l.cg:=by
 have:=hv.lt _ hl
 rw[yD hv hl (by simp[fS])]
 have e:(decide (l.A=l.B)&&decide (l.B=l.A))=false:=by simp;omega
 simp only[mL,e,cond_false]
theorem aeU(hv:Vt t)(r:Int):jk t r=some (agV t r):=by
 unfold jk
 simp only[si,aL,kL.2 hv,decide_true,Bool.not_true,cond_false]
 refine(uB (λx:bf=>decide (x.ID=r)) (λx=>some x.aY) (λ_ _ _ _=>rfl) _ _ _).trans ?_
 unfold agV
 cases t.aI.find? (λx=>decide (x.ID=r))<;>rfl
variable {r:Int}
theorem abq(hv:Vt t)(hr:r∈ids t):(iN t r).length≤23:=by
 have h1:r∉iN t r:=λh=>aeJ hv ((iF hv).1 h) rfl
 have h2:(iN t r).Nodup:=(vV hv r).imp λh=>by omega
 have:=uC (a:=r::iN t r) (b:=ids t) (List.nodup_cons.2 ⟨h1,h2⟩) λx hx=>by
  rcases List.mem_cons.1 hx with rfl|hx
  ·exact hr
  ·exact(List.mem_filter.1 hx).1
 have h3:=acL hv
 simp only[List.length_cons]at this
 omega
theorem ajy(hv:Vt t)(hr:r∈ids t)(seq:Int)(cl:List bG):sW t r seq cl=some (bif cc (ofA t r seq cl)then(ofA t r seq cl,0)else(noA,2)):=by
 refine Ok.eq ?_
 unfold sW
 simp only[si,amU,aeU hv,ajj hv,aL,kL.2 hv,tP.1 hr,decide_true,Bool.not_true,cond_false,Bool.true_and]
 refine Ok.qN (λP (m:List bw)=>m=P.map (pR t r)) ?_ _ rfl ?_
 ·rintro P n rest m Z hL rfl hZ
  have zz:fV t r n=true:=(iF hv).1 (by rw[hL];simp)
  have hlen:P.length<(iN t r).length:=by rw[hL];simp
  have hl23:=abq hv hr
  obtain⟨l,hl,hc⟩:=pE.1 zz
  have hlt:=hv.lt l hl
  have he:fS l r n=true:=by simp[fS];omega
  rw[wJ,aL]
  refine Ok.qN (λP2 (m2:Int)=>l∈P2→m2=l.cg) ?_ _ (by simp) ?_
  ·rintro P2 x rest2 m2 Z2 hL2 hm2 hZ2
   have hx:x∈t.Links:=by rw[hL2];simp
   have hmin:(if n<r then n else r)=l.A:=by split<;>omega
   have hmax:(if n>r then n else r)=l.B:=by split<;>omega
   rw[hmin,hmax]
   simp only[jn]
   refine Ok.cs (λh=>?_) λh=>?_
   ·simp at h
    refine hZ2 _ λ_=>?_
    rw[aeF hv hx hl h.1 h.2]
   ·refine hZ2 _ λhm=>?_
    rcases List.mem_append.1 hm with hm|hm
    ·exact hm2 hm
    ·simp at hm;subst hm;simp at h
  ·intro m2 hm2
   rw[eB (by simp;omega),aL]
   refine hZ _ ?_
   rw[List.map_append,hm2 hl,List.map_cons,List.map_nil,yD hv hl he,aeG hv hl he]
 ·rintro m rfl
  rw[ru,aL]
  show Ok (bif !cc (ofA t r seq cl)then _ else _) _
  cases cc (ofA t r seq cl)
  ·exact Ok.s rfl
  ·exact Ok.s rfl
theorem aqd{α:Type}{p:α→α→Bool}{l:List α}(h:l.Pairwise λa b=>p a b=true):gd p l=true:=og h
theorem adw(hv:Vt t)(hr:r∈ids t)(seq:Int)(cl:List bG):cc (ofA t r seq cl)=(inB seq 1 1000000&&(decide ((cl.length:Int)≤8)&&(cl.all iY&&qO cl))):=by
 have h23:=abq hv hr
 have hr99:inB r 1 99=true:=by
  obtain⟨x,hx,e⟩:=List.mem_map.1 hr
  have:=hv.idr x hx
  simp only[inB,Bool.and_eq_true,decide_eq_true_eq];omega
 have xW:((iN t r).map (pR t r)).all (lQ (ofA t r seq cl))=true:=by
  rw[List.all_eq_true]
  intro x hx
  obtain⟨n,hn,rfl⟩:=List.mem_map.1 hx
  have zz:=(iF hv).1 hn
  obtain⟨y,hy,e⟩:=List.mem_map.1 (tQ hv zz)
  have hid:=hv.idr y hy
  obtain⟨l,hl,hc⟩:=pE.1 zz
  have hlt:=hv.lt l hl
  have hb:=hv.okl l hl
  simp only[wY,s5,Bool.or_eq_false_iff,Bool.not_eq_false',Bool.and_eq_true,decide_eq_true_eq,decide_eq_false_iff_not]at hb
  have hne:=aeJ hv zz
  rw[yD hv hl (by simp[fS];omega)]
  have hp:1≤(mL r n l).1∧(mL r n l).1≤1000:=by
   unfold mL
   simp only
   cases(decide (l.A=r)&&decide (l.B=n))<;>simp<;>omega
  have er:(ofA t r seq cl).af=r:=rfl
  simp only[lQ,inB,er,Bool.and_eq_true,decide_eq_true_eq,Bool.not_eq_true',decide_eq_false_iff_not]
  exact⟨⟨⟨⟨by omega,by omega⟩,λh=>hne h.symm⟩,hp⟩,by omega,by omega⟩
 have zB:vX ((iN t r).map (pR t r))=true:=by
  refine aqd (List.pairwise_map.2 ((vV hv r).imp λh=>?_))
  simp only[aam,decide_eq_true_eq];exact h
 have e1:(ofA t r seq cl).Links=(iN t r).map (pR t r):=rfl
 unfold cc
 rw[e1,xW,zB]
 have e2:decide ((((iN t r).map (pR t r)).length:Int)≤23)=true:=by simp;omega
 rw[e2]
 show(inB r 1 99&&inB seq 1 1000000&&true&&(true&&true)&&(decide ((cl.length:Int)≤8)&&(cl.all iY&&qO cl)))=_
 rw[hr99];simp
end Go.Proofs.YtjdopimopgpagaaGreat
namespace Go.Proofs.YtjdopimopgpagaaGreat
set_option linter.all false
open Go
def coL(l m:aV):Prop:=l.B<m.B∨(l.B=m.B∧l.A<m.A)
theorem ahY{l:List aV}(hl:l.length≤1000000)(hd:l.Pairwise coL):Ok (sO l) (λm=>m.Pairwise (λa b=>ltL a b=true)∧(∀x,x∈m↔x∈l)∧m.length=l.length):=by
 unfold sO
 refine Ok.qN (λP m=>m.Pairwise (λa b=>ltL a b=true)∧(∀x,x∈m↔x∈P)∧m.length=P.length) ?_ _ ⟨by simp,by simp,rfl⟩ λs hs=>Ok.s hs
 rintro P x r s Z hL ⟨i1,i2,i3⟩ hZ
 have hP:P.length<l.length:=by rw[hL];simp
 have hne:∀y∈s,ltL y x=false→ltL x y=true:=λy hy h=>by
  rw[hL]at hd
  have:=(List.pairwise_append.1 hd).2.2 y ((i2 y).1 hy) x (by simp)
  simp only[ltL,Bool.or_eq_false_iff,Bool.and_eq_false_iff,decide_eq_false_iff_not,Bool.or_eq_true,Bool.and_eq_true,decide_eq_true_eq]at *
  unfold coL at this
  omega
 refine Ok.whl (λat1:Int=>(0≤at1∧at1≤s.length)∧∀y∈s.take at1.toNat,ltL y x=true) (λat1=>((s.length:Int)-at1).toNat) ⟨by omega,by simp⟩ (by omega) ?_
 rintro a Z2 ⟨⟨ha0,ha1⟩,hlt⟩ hZ2
 refine Ok.jn (λv:Bool=>(v=true→∃h:a.toNat<s.length,ltL s[a.toNat] x=true)∧(v=false→∀h:a.toNat<s.length,ltL s[a.toNat] x=false)) ?_ ?_
 ·rintro v ⟨hv,hv2⟩
  refine Ok.cs (λh=>?_) λh=>?_
  ·obtain⟨h1,h2⟩:=hv h
   rw[cw (by omega) (by omega)]
   refine hZ2 _ ⟨by omega,λy hy=>?_⟩ (by omega)
   rw[show(a+1).toNat=a.toNat+1 by omega,List.take_succ_eq_append_getElem h1]at hy
   rcases List.mem_append.1 hy with hy|hy
   ·exact hlt y hy
   ·simp at hy;subst hy;exact h2
  ·have hv2:=hv2 h
   refine Ok.bnd (aey ⟨by omega,by omega,by omega⟩) λl1 h1=>?_
   refine Ok.bnd (mb (by simp;omega)) λl2 h2=>?_
   refine Ok.bnd (mb (by simp at h2 ⊢;omega)) λl3 h3=>?_
   refine Ok.bnd (aey ⟨by omega,by omega,by omega⟩) λl4 h4=>?_
   refine Ok.bnd (mb (by simp at h2 h3 ⊢;omega)) λl5 h5=>?_
   have e5:l5=s.take a.toNat++x::s.drop a.toNat:=by
    rw[h5.1,h3.1,h2.1,h1.1,h4.1];simp
   have hgt:∀y∈s.drop a.toNat,ltL x y=true:=λy hy=>by
    have hlen:a.toNat<s.length:=by
     have:=List.length_pos_of_mem hy
     rw[List.length_drop]at this;omega
    rw[List.drop_eq_getElem_cons hlen]at hy
    have h0:=hne _ (List.getElem_mem hlen) (hv2 hlen)
    rcases List.mem_cons.1 hy with rfl|hy
    ·exact h0
    ·have hp:(s.drop a.toNat).Pairwise (λa b=>ltL a b=true):=i1.sublist (List.drop_sublist _ _)
     rw[List.drop_eq_getElem_cons hlen,List.pairwise_cons]at hp
     exact wH _ _ _ h0 (hp.1 y hy)
   refine hZ _ ⟨?_,λy=>?_,?_⟩
   ·rw[e5]
    refine List.pairwise_append.2 ⟨i1.sublist (List.take_sublist _ _),List.pairwise_cons.2 ⟨hgt,i1.sublist (List.drop_sublist _ _)⟩,λy hy z hz=>?_⟩
    rcases List.mem_cons.1 hz with rfl|hz
    ·exact hlt y hy
    ·exact wH _ _ _ (hlt y hy) (hgt z hz)
   ·have hs:=List.take_append_drop a.toNat s
    have:y∈s↔y∈s.take a.toNat∨y∈s.drop a.toNat:=by rw[←List.mem_append,hs]
    rw[e5,List.mem_append,List.mem_cons,List.mem_append,List.mem_singleton,←i2 y,this]
    constructor
    ·rintro(h|h|h);exact .inl (.inl h);exact .inr h;exact .inl (.inr h)
    ·rintro((h|h)|h);exact .inl h;exact .inr (.inr h);exact .inr (.inl h)
   ·rw[e5];simp;omega
 ·intro J hJ
  refine Ok.cs (λh=>?_) λh=>hJ _ ⟨by simp,λ_ h2=>by simp at h;omega⟩
  simp at h
  refine Ok.bnd (rj ha0 h) λe he=>?_
  obtain⟨h1,h2⟩:=List.getElem?_eq_some_iff.1 he.2
  subst h2
  refine Ok.cs (λg=>hJ _ ⟨λ_=>⟨h1,by simp[ltL];simp at g;omega⟩,by simp⟩) λg=>?_
  refine Ok.cs (λg2=>?_) λg2=>hJ _ ⟨by simp,λ_ _=>by simp[ltL];simp at g g2;omega⟩
  refine hJ _ ⟨λhd=>⟨h1,?_⟩,λhd _=>?_⟩
  ·simp at g g2 hd;simp[ltL];omega
  ·simp at g g2 hd;simp[ltL];omega
def acT(l:aV):Prop:=1≤l.A∧l.A<l.B∧(1≤l.lK∧l.lK≤5)∧(1≤l.kP∧l.kP≤5)∧0≤l.cg∧l.cg≤3
structure Vg(g:aB)(most:Int):Prop where
 v:Vt g
 n:1≤g.aI.length∧(g.aI.length:Int)≤most
 i:∀r∈g.aI,r.ID≤most
theorem afp{t:aU}{most:Int}(h:cA t)(hm:1≤most∧most≤8):Ok (kj t most 0) (λp=>Vg p.1 most∧cA p.2):=by
 unfold kj
 refine Ok.bnd (nI h) λp hp=>?_
 obtain⟨hk,hp⟩:=hp
 have hk:=hk (by omega) (by omega) (by omega)
 refine Ok.chk (by simp;omega) ?_
 refine Ok.gO (λj (m:List bf)=>(m.length:Int)=j-1∧m.Pairwise (λa b=>a.ID<b.ID)∧(∀r∈m,1≤r.ID∧r.ID<j)∧∀i,1≤i→i<j→∃r∈m,r.ID=i) 1 (p.1+1) ?_ ?_ _ _ _ rfl (by omega) (by omega) ⟨by simp,by simp,by simp,λi h1 h2=>by omega⟩
 ·rintro i s Z h1 h2 ⟨hI,hI2,hI3,hI4⟩ hZ
  refine Ok.bnd (mb (by simp;omega)) λl1 hl1=>hZ _ ⟨by have:=hl1.2;simp at this;omega,?_,?_,?_⟩
  ·rw[hl1.1]
   refine List.pairwise_append.2 ⟨hI2,by simp,λa ha b hb=>?_⟩
   have:=hI3 a ha
   simp at hb;subst hb;exact this.2
  ·rw[hl1.1];intro r hr
   rcases List.mem_append.1 hr with hr|hr
   ·have:=hI3 r hr;omega
   ·simp at hr;subst hr;simp only;omega
  ·rw[hl1.1];intro j h3 h4
   by_cases e:j=i
   ·exact⟨bf.mk i true,List.mem_append_right _ (by simp),e.symm⟩
   ·obtain⟨r,hr,e2⟩:=hI4 j h3 (by omega)
    exact⟨r,List.mem_append_left _ hr,e2⟩
 rintro i rs hi1 hi2 ⟨hrs,hrs2,aqe,aqf⟩
 have hi2:=hi2 (by omega)
 subst hi2
 refine Ok.bnd (mK hp (by decide) (by decide)) λc hc=>?_
 have adT:1≤c.1∧c.1≤5:=by have:=hc.1;simp at this;omega
 refine Ok.chk (by simp;omega) ?_
 refine Ok.gO (λj (s:List aV×List Int×Int)=>((s.1.length:Int)≤8*(j-2)∧(∀l∈s.1,acT l∧l.B<j)∧s.1.Pairwise coL)∧cA (aU.mk s.2.1 s.2.2)) 2 (if 2≤p.1+1 then p.1+1 else 2) ?_ ?_ _ _ _ ?_ (by omega) ?_ ⟨by simp,hc.2⟩
 ·intro b s Z hb1 hb2 hI hZ
  have hb3:b<p.1+1:=by split at hb2<;>omega
  obtain⟨ms,L,At⟩:=s
  obtain⟨⟨hlen,hok,hpw⟩,ht⟩:=hI
  simp only at hlen hok hpw
  refine Ok.bnd (nI ht) λtr htr=>?_
  refine Ok.bnd (zx htr.2 (by omega)) λsk hsk=>?_
  refine Ok.chk (by simp;omega) ?_
  refine Ok.gO (λa (s:List aV×List Int×Int)=>((s.1.length:Int)≤8*(b-2)+(a-1)∧(∀l∈s.1,acT l∧(l.B<b∨l.B=b∧l.A<a))∧s.1.Pairwise coL)∧cA (aU.mk s.2.1 s.2.2)) 1 b ?_ ?_ _ _ _ rfl (by omega) (by omega) ⟨⟨by simp only;omega,λl hl=>⟨(hok l hl).1,.inl (hok l hl).2⟩,hpw⟩,hsk⟩
  ·intro a s Z3 ha1 ha2 hI3 hZ3
   obtain⟨m5,m6,m7⟩:=s
   obtain⟨⟨hl5,wZ,acU⟩,ht5⟩:=hI3
   simp only at hl5 wZ acU
   refine Ok.jn (λs:List Int×Int×List aV=>((s.2.2.length:Int)≤8*(b-2)+a∧(∀l∈s.2.2,acT l∧(l.B<b∨l.B=b∧l.A<a+1))∧s.2.2.Pairwise coL)∧cA (aU.mk s.1 s.2.1)) (λs hs=>hZ3 _ ⟨by have h:=hs.1;obtain⟨_,_,_⟩:=s;simp only at h ⊢;exact⟨by omega,h.2⟩,hs.2⟩) λJ1 hJ1=>?_
   refine Ok.jn (λs:Bool×List Int×Int=>cA (aU.mk s.2.1 s.2.2)) (λs hs=>?_) λJ2 hJ2=>?_
   ·obtain⟨v,m11,m12⟩:=s
    refine Ok.cs (λ_=>?_) λ_=>hJ1 _ ⟨⟨by simp only;omega,λl hl=>⟨(wZ l hl).1,by have:=(wZ l hl).2;omega⟩,acU⟩,hs⟩
    refine Ok.bnd (nI hs) λq7 h7=>?_
    refine Ok.bnd (nI h7.2) λq8 h8=>?_
    refine Ok.bnd (fJ h8.2 (by omega)) λq9 h9=>?_
    have c7:=h7.1 (by omega) (by omega) (by omega)
    have c8:=h8.1 (by omega) (by omega) (by omega)
    have c9:=h9.1.2.1 (by omega)
    have c90:=h9.1.1
    refine Ok.bnd (mb (by simp;omega)) λl2 hl2=>hJ1 _ ⟨⟨by have:=hl2.2;rw[List.length_cons,List.length_nil]at this;simp only;omega,?_,?_⟩,h9.2⟩
    ·simp only[hl2.1];intro l hl
     rcases List.mem_append.1 hl with hl|hl
     ·exact⟨(wZ l hl).1,by have:=(wZ l hl).2;omega⟩
     ·simp only[List.mem_singleton]at hl;subst hl
      exact⟨⟨ha1,ha2,⟨c7.1,Int.le_trans c7.2 adT.2⟩,⟨c8.1,Int.le_trans c8.2 adT.2⟩,c90,by show q9.1≤3;omega⟩,.inr ⟨rfl,by show a<a+1;omega⟩⟩
    ·simp only[hl2.1]
     refine List.pairwise_append.2 ⟨acU,by simp,λl hl m hm=>?_⟩
     have:=(wZ l hl).2
     simp at hm;subst hm;unfold coL;simp only;omega
   ·refine Ok.cs (λ_=>?_) λ_=>Ok.bnd (zx ht5 (by omega)) λq h=>hJ2 _ h
    exact Ok.cs (λ_=>hJ2 _ ht5) λ_=>Ok.bnd (zx ht5 (by omega)) λq h=>hJ2 _ h
  ·intro a s ha1 ha2 hI3
   have ha2:=ha2 (by omega)
   obtain⟨m5,m6,m7⟩:=s
   obtain⟨⟨hl5,wZ,acU⟩,ht5⟩:=hI3
   simp only at hl5 wZ acU
   exact hZ _ ⟨⟨by simp only;omega,λl hl=>⟨(wZ l hl).1,by have:=(wZ l hl).2;omega⟩,acU⟩,ht5⟩
 ·intro b s hb1 hb2 hI
  have hb2:=hb2 (by split<;>omega)
  have hb3:b≤9:=by split at hb2<;>omega
  obtain⟨m2,m3,m4⟩:=s
  obtain⟨⟨hlen,hok,hpw⟩,ht⟩:=hI
  simp only at hlen hok hpw
  refine Ok.bnd (ahY (by omega) hpw) λl hl=>?_
  obtain⟨hl1,hl2,hl3⟩:=hl
  have hV:Vg (aB.mk rs l) most:=by
   have hb4:b=p.1+1:=by split at hb2<;>omega
   have agW:∀x∈l,acT x∧x.B<p.1+1:=λx hx=>by
    have:=hok x ((hl2 x).1 hx)
    exact⟨this.1,by omega⟩
   refine⟨⟨by simp only;omega,by simp only;omega,λr hr=>by have:=aqe r hr;omega,hrs2,λx hx=>?_,λx hx=>?_,λx hx=>(agW x hx).1.2.1,hl1⟩,by simp only;omega,λr hr=>by have:=aqe r hr;omega⟩
   ·have:=(agW x hx).1
    unfold acT at this
    have c1:s5 x.lK=true:=by simp[s5];omega
    have c2:s5 x.kP=true:=by simp[s5];omega
    simp only[wY,c1,c2,Bool.not_true,Bool.or_self,Bool.false_or,Bool.or_eq_false_iff,decide_eq_false_iff_not]
    omega
   ·have:=agW x hx
    unfold acT at this
    obtain⟨r1,g1,g2⟩:=aqf x.A (by omega) (by omega)
    obtain⟨r2,g3,g4⟩:=aqf x.B (by omega) (by omega)
    exact⟨tO.2 ⟨r1,g1,g2⟩,tO.2 ⟨r2,g3,g4⟩⟩
  simp only[jn]
  exact Ok.s ⟨hV,ht⟩
 ·split<;>omega
 ·split<;>omega
theorem Vt.ajz{g h:aB}(hv:Vt g)(h1:h.aI.map (·.ID)=g.aI.map (·.ID))(h2:h.Links=g.Links):Vt h:=by
 have hl:h.aI.length=g.aI.length:=by have:=congrArg List.length h1;simpa using this
 have hh:∀x,hasB h x=true↔hasB g x=true:=λx=>by
  rw[←tP,←tP];unfold ids;rw[h1]
 refine⟨by rw[hl];exact hv.nr,by rw[h2];exact hv.nl,λr hr=>?_,?_,by rw[h2];exact hv.okl,by rw[h2];simp only[hh];exact hv.ends,by rw[h2];exact hv.lt,by rw[h2];exact hv.abk⟩
 ·have:r.ID∈g.aI.map (·.ID):=by rw[←h1];exact List.mem_map.2 ⟨r,hr,rfl⟩
  obtain⟨x,hx,e⟩:=List.mem_map.1 this
  rw[←e];exact hv.idr x hx
 ·have:=aeI hv
  unfold ids at this
  rw[←h1]at this
  exact List.pairwise_map.1 this
end Go.Proofs.YtjdopimopgpagaaGreat
namespace Go.Proofs.YtjdopimopgpagaaGreat
set_option linter.all false
open Go
def ofE(r:Int)(l:aV):Option bw:=if r=l.A then some (bw.mk l.B l.lK l.cg)else if r=l.B then some (bw.mk l.A l.kP l.cg)else none
theorem ajA{t:aB}(hv:Vt t)(r:Int):t.Links.filterMap (ofE r)=(iN t r).map (pR t r):=by
 have hne:∀l∈t.Links,l.A<l.B:=λl hl=>hv.lt l hl
 refine s7 (r:=λa b:bw=>a.bu<b.bu) (λa=>Int.lt_irrefl _) (λa b c=>Int.lt_trans) ?_ ?_ λx=>?_
 ·rw[List.pairwise_filterMap]
  refine List.Pairwise.imp_of_mem (λ{l m} hl hm hlt x hx y hy=>?_) hv.abk
  have h1:=hne l hl;have h2:=hne m hm
  have h3:=am0.1 hlt
  unfold ofE at hx hy
  split at hx
  ·cases hx
   split at hy
   ·cases hy;simp only;omega
   ·split at hy
    ·cases hy;simp only;omega
    ·cases hy
  ·split at hx
   ·cases hx
    split at hy
    ·cases hy;simp only;omega
    ·split at hy
     ·cases hy;simp only;omega
     ·cases hy
   ·cases hx
 ·exact List.pairwise_map.2 ((vV hv r).imp λh=>by simp only[aam];exact h)
 ·rw[List.mem_filterMap,List.mem_map]
  constructor
  ·rintro⟨l,hl,hx⟩
   have h1:=hne l hl
   unfold ofE at hx
   split at hx
   ·cases hx;rename_i e;subst e
    exact⟨l.B,(iF hv).2 (pE.2 ⟨l,hl,.inl ⟨rfl,rfl⟩⟩),afT hv hl⟩
   ·split at hx
    ·cases hx;rename_i e;subst e
     exact⟨l.A,(iF hv).2 (pE.2 ⟨l,hl,.inr ⟨rfl,rfl⟩⟩),afU hv hl⟩
    ·cases hx
  ·rintro⟨n,hn,rfl⟩
   obtain⟨l,hl,hc⟩:=pE.1 ((iF hv).1 hn)
   have h1:=hne l hl
   refine⟨l,hl,?_⟩
   unfold ofE
   rcases hc with⟨rfl,rfl⟩|⟨rfl,rfl⟩
   ·rw[if_pos rfl,afT hv hl]
   ·rw[if_neg (by omega),if_pos rfl,afU hv hl]
end Go.Proofs.YtjdopimopgpagaaGreat
namespace Go.Proofs.YtjdopimopgpagaaGreat
set_option linter.all false
open Go
theorem wM{α γ β:Type}(f:α→γ){K:List γ→Option β}:∀(l:List α) (j:Nat) (s:List γ),s.length+l.length≤1000000→bN l j (λ(_:Int) (e:α) (Z:List γ→Option β) (o:List γ)=>bnd (dy o ([f e]:List γ)) λl=>Z l) K s=K (s++l.map f)
 |[],_,s,_=>by simp[bN]
 |x::r,j,s,h=>by
  simp only[bN]
  simp only[List.length_cons]at h
  rw[eB (by simp;omega),aL,wM f r (j+1) _ (by simp;omega)]
  simp
def aW(f:aj):aB:=aB.mk (f.aA.map λn=>bf.mk n.af n.aY) f.Links
def SmF(f:aj):Prop:=f.Links.length≤100000∧f.aA.length≤100000
variable {f:aj}
theorem uD(h:SmF f):eE f=some (aW f):=by
 unfold eE
 rw[wM (λn:aO=>bf.mk n.af n.aY) f.aA 0 [] (by have:=h.2;simp;omega)]
 rfl
theorem xH{l:List aV}(h:l.length≤100000):cV l=some l:=by
 unfold cV ec
 rw[eB (by simp;omega)];rfl
theorem xI(h:SmF f):dO f=some (aW f):=by
 unfold dO
 rw[xH h.1,aL,wM (λn:aO=>bf.mk n.af n.aY) f.aA 0 [] (by have:=h.2;simp;omega)]
 rfl
def uU(r:Int):List aO→Nat→Int
 |[],_=>-1
 |x::l,j=>bif decide (x.af=r)then(j:Int)else uU r l (j+1)
theorem zD{B:Int→aO→(Unit→Option Int)→Unit→Option Int}{K:Unit→Option Int}{r:Int}(hB:∀j x Z s,B j x Z s=bif decide (x.af=r)then some j else Z s)(hK:∀s,K s=some (-1)):∀(l:List aO) (j:Nat) (s:Unit),bN l j B K s=some (uU r l j)
 |[],_,s=>hK s
 |x::l,j,s=>by
  simp only[bN,hB,uU,zD hB hK l (j+1) s]
  cases decide (x.af=r)<;>rfl
def iD(f:aj)(r:Int):Int:=uU r f.aA 0
theorem wN(f:aj)(r:Int):jC f r=some (iD f r):=by
 unfold jC
 exact zD (λj x Z s=>rfl) (λs=>rfl) f.aA 0 ()
theorem xJ(f:aj)(r:Int):fM f r=some (iD f r,decide (0≤iD f r)):=by
 unfold fM eV
 rw[zD (r:=r) (λj x Z s=>by simp only[nO,aL]) (λs=>rfl)]
 rfl
theorem afV(r:Int):∀(l p:List aO),(uU r l p.length = -1∧∀x∈l,x.af≠r)∨∃a x b,l=a++x::b∧uU r l p.length=((p.length+a.length:Nat):Int)∧x.af=r
 |[],_=>.inl ⟨rfl,by simp⟩
 |x::l,p=>by
  by_cases h:x.af=r
  ·exact .inr ⟨[],x,l,rfl,by simp[uU,h],h⟩
  ·have:=afV r l (p++[x])
   simp only[List.length_append,List.length_cons,List.length_nil]at this
   rcases this with⟨h1,h2⟩|⟨a,y,b,h1,h2,h3⟩
   ·exact .inl ⟨by simp only[uU,h,decide_false,cond_false];exact h1,λz hz=>by
     rcases List.mem_cons.1 hz with rfl|hz
     ·exact h
     ·exact h2 z hz⟩
   ·exact .inr ⟨x::a,y,b,by rw[h1];rfl,by simp only[uU,h,decide_false,cond_false];rw[h2];simp;omega,h3⟩
theorem nh(f:aj)(r:Int):(iD f r = -1∧∀x∈f.aA,x.af≠r)∨∃a x b,f.aA=a++x::b∧iD f r=(a.length:Int)∧x.af=r:=by
 have:=afV r f.aA []
 simpa [iD]using this
def jW(l:List bG):Bool:=decide ((l.length:Int)≤8)&&(l.all iY&&qO l)
def okN(n:aO):Bool:=decide (0≤n.Seq)&&(decide (n.Seq≤1000000)&&(jW n.Claims&&decide (dbC n.Database=0)))
def okM(f:aj)(m:aR):Bool:=decide (0≤iD f m.cD)&&(decide (0≤iD f m.To)&&(!decide (m.cD=m.To)&&decide (dbC m.Database=0)))
def ql(f:aj):Bool:=decide (lz (aW f)=0)&&(!decide ((400:Int)<(f.aq.length:Int))&&(f.aA.all okN&&f.aq.all (okM f)))
variable {α:Type}
theorem wh{β:Type}{B:Int→α→(Unit→Option β)→Unit→Option β}{K:Unit→Option β}(p:α→Bool)(a:Option β)(l:List α)(hB:∀j,∀x∈l,∀Z,B j x Z ()=bif p x then Z ()else a):∀(j:Nat),bN l j B K ()=bif l.all p then K ()else a:=by
 induction l with
 |nil=>intro j;rfl
 |cons x r ih=>
  intro j
  simp only[bN]
  rw[hB _ x (by simp),ih (λj y hy=>hB j y (by simp[hy])),List.all_cons]
  cases p x<;>rfl
theorem afq(h:SmF f):o5 f=some (ql f):=by
 unfold o5 ql
 simp only[jn,uD h,si,aL]
 by_cases h1:lz (aW f)=0
 ·by_cases h2:(400:Int)<(f.aq.length:Int)
  ·simp[h1,h2]
  ·simp only[h1,h2,decide_true,decide_false,Bool.not_true,Bool.not_false,cond_false,Bool.true_and]
   rw[wh okN (some false) f.aA]
   ·rw[wh (okM f) (some false) f.aq]
    ·cases f.aA.all okN<;>cases f.aq.all (okM f)<;>rfl
    ·intro j x hx Z
     simp only[wN,uc,aL,okM]
     by_cases a1:iD f x.cD<0
     ·simp[a1,show ¬0≤iD f x.cD by omega]
     by_cases a2:iD f x.To<0
     ·simp[a1,a2,show ¬0≤iD f x.To by omega]
     by_cases a3:x.cD=x.To
     ·simp[a1,a2,a3]
     ·cases h4:decide (dbC x.Database=0)<;>simp[a1,a2,a3,h4,show 0≤iD f x.cD by omega,show 0≤iD f x.To by omega]
   ·intro j x hx Z
    simp only[zA,uc,aL,okN,jW]
    by_cases a1:x.Seq<0
    ·simp[a1,show ¬0≤x.Seq by omega]
    by_cases a2:1000000<x.Seq
    ·simp[a1,a2,show ¬x.Seq≤1000000 by omega]
    ·simp only[a1,a2,decide_false,cond_false,show 0≤x.Seq by omega,show x.Seq≤1000000 by omega,decide_true,Bool.true_and]
     cases(decide ((x.Claims.length:Int)≤8)&&(x.Claims.all iY&&qO x.Claims))<;>cases h4:decide (dbC x.Database=0)<;>simp
 ·simp[h1]
theorem qz{n:aO}(hn:n∈f.aA):n.af∈ids (aW f):=by
 unfold ids aW
 simp only[List.map_map]
 exact List.mem_map.2 ⟨n,hn,rfl⟩
variable {r:Int}{t:aB}
theorem afr(hv:Vt t)(hr:r∈ids t):inB r 1 99=true:=by
 obtain⟨x,hx,rfl⟩:=List.mem_map.1 hr
 have:=hv.idr x hx
 simp[inB];omega
theorem lB(h:SmF f):di f=some (bif ql f then 0 else 1):=by
 unfold di ql
 simp only[jn,xI h,zw,aL]
 by_cases h1:lz (aW f)=0
 ·have hv:=kL.1 h1
  by_cases h2:(400:Int)<(f.aq.length:Int)
  ·simp[h1,h2]
  ·simp only[h1,h2,decide_true,decide_false,Bool.not_true,Bool.not_false,cond_false,Bool.true_and]
   rw[wh okN (some 1) f.aA]
   ·rw[wh (okM f) (some 1) f.aq]
    ·cases f.aA.all okN<;>cases f.aq.all (okM f)<;>rfl
    ·intro j x hx Z
     simp only[xJ,yt,aL,okM]
     cases a1:decide (0≤iD f x.cD)<;>cases a2:decide (0≤iD f x.To)<;>cases a3:decide (x.cD=x.To)<;>cases h4:decide (dbC x.Database=0)<;>simp
   ·intro j x hx Z
    have hr:=afr hv (qz hx)
    have hval:cc (ai.mk x.af 1 false [] x.Claims)=jW x.Claims:=by
     simp only[cc,hr,jW,List.all_nil,vX,gd,List.length_nil,Bool.true_and,Bool.and_true]
     rfl
    simp only[tT,hval,yt,aL,okN]
    by_cases a1:x.Seq<0
    ·simp[a1,show ¬0≤x.Seq by omega]
    by_cases a2:1000000<x.Seq
    ·simp[a1,a2,show ¬x.Seq≤1000000 by omega]
    ·simp only[a1,a2,decide_false,cond_false,show 0≤x.Seq by omega,show x.Seq≤1000000 by omega,decide_true,Bool.true_and]
     cases jW x.Claims<;>cases h4:decide (dbC x.Database=0)<;>simp
 ·simp[h1]
structure Vf(f:aj):Prop where
 t:Vt (aW f)
 m:f.aq.length≤400
 n:∀n∈f.aA,(0≤n.Seq∧n.Seq≤1000000)∧jW n.Claims=true∧Vd n.Database
 g:∀m∈f.aq,0≤iD f m.cD∧0≤iD f m.To∧m.cD≠m.To∧Vd m.Database
theorem ni:ql f=true↔Vf f:=by
 unfold ql
 simp only[Bool.and_eq_true,decide_eq_true_eq,Bool.not_eq_true',decide_eq_false_iff_not,List.all_eq_true,okN,okM]
 constructor
 ·rintro⟨h1,h2,h3,h4⟩
  exact⟨kL.1 h1,by omega,λn hn=>by have:=h3 n hn;exact⟨⟨this.1,this.2.1⟩,this.2.2.1,jL.1 this.2.2.2⟩,λm hm=>by have:=h4 m hm;exact⟨this.1,this.2.1,this.2.2.1,jL.1 this.2.2.2⟩⟩
 ·intro h
  exact⟨kL.2 h.t,by have:=h.m;omega,λn hn=>by have:=h.n n hn;exact⟨this.1.1,this.1.2,this.2.1,jL.2 this.2.2⟩,λm hm=>by have:=h.g m hm;exact⟨this.1,this.2.1,this.2.2.1,jL.2 this.2.2.2⟩⟩
theorem Vf.len(h:Vf f):f.aA.length≤24:=by have:=h.t.nr;simpa [aW]using this
theorem Vf.asc{f:aj}(h:Vf f):f.aA.Pairwise λa b=>a.af<b.af:=by
 have:=h.t.asc
 simp only[aW,List.pairwise_map]at this
 exact this
variable {a b:List aO}
theorem Vf.idx(h:Vf f){n:aO}(hL:f.aA=a++n::b):iD f n.af=(a.length:Int):=by
 have hp:=h.asc
 rw[hL]at hp
 rcases nh f n.af with⟨_,h2⟩|⟨a',x,b',h1,h2,h3⟩
 ·exact absurd rfl (h2 n (by rw[hL];simp))
 ·rw[h2]
  have hl:a'.length=a.length:=by
   have q1:=List.pairwise_iff_getElem.1 h.asc
   have e1:∀(h:a.length<f.aA.length),f.aA[a.length]=n:=λh=>by simp[hL]
   have e2:∀(h:a'.length<f.aA.length),f.aA[a'.length]=x:=λh=>by simp[h1]
   have l1:a.length<f.aA.length:=by rw[hL];simp
   have l2:a'.length<f.aA.length:=by rw[h1];simp
   rcases Nat.lt_trichotomy a.length a'.length with q|q|q
   ·have:=q1 _ _ l1 l2 q;rw[e1,e2]at this;omega
   ·exact q.symm
   ·have:=q1 _ _ l2 l1 q;rw[e1,e2]at this;omega
  rw[hl]
theorem atz(hv:Vt t)(hr:r∈ids t)(seq:Int){cl:List bG}(hc:cl.length≤100000):ri t r seq cl=some (bif cc (ofA t r seq cl)then(ofA t r seq cl,0)else(noA,2)):=by
 have aqg:=hv.nr;have aqh:=hv.nl
 obtain⟨b,hb1,hb2⟩:=agO t r (by omega)
 have hcap:b=agV t r:=some_inj (hb2.symm.trans (aeU hv r))
 subst hcap
 refine Ok.eq ?_
 unfold ri
 simp only[zw,afO t r (show t.aI.length≤1000000 by omega),hb1,aL,kL.2 hv,tP.1 hr,decide_true,Bool.not_true,cond_false,Bool.true_and]
 rw[eB (by simp;omega),aL]
 refine Ok.qN (λP (m:List bw)=>m=P.filterMap (ofE r)∧m.length≤P.length) ?_ _ ⟨rfl,by simp⟩ ?_
 ·rintro P x rest m Z hL ⟨hm,hml⟩ hZ
  have hP:P.length<t.Links.length:=by rw[hL];simp
  simp only[jn]
  refine Ok.cs (λh=>?_) λh=>?_
  ·have h:r=x.A:=by simpa using h
   rw[eB (by simp;omega),aL]
   refine hZ _ ⟨?_,by simp;omega⟩
   rw[List.filterMap_append,hm];simp[ofE,h]
  ·have h:r≠x.A:=by simpa using h
   refine Ok.cs (λh2=>?_) λh2=>?_
   ·have h2:r=x.B:=by simpa using h2
    rw[eB (by simp;omega),aL]
    refine hZ _ ⟨?_,by simp;omega⟩
    have e:ofE r x=some (bw.mk x.A x.kP x.cg):=by unfold ofE;rw[if_neg h,if_pos h2]
    rw[List.filterMap_append,hm,List.filterMap_cons,e];rfl
   ·have h2:r≠x.B:=by simpa using h2
    refine hZ _ ⟨?_,by simp;omega⟩
    have e:ofE r x=none:=by unfold ofE;rw[if_neg h,if_neg h2]
    rw[List.filterMap_append,hm,List.filterMap_cons,e];simp
 ·rintro m ⟨hm,_⟩
  rw[ajA hv]at hm
  subst hm
  rw[tT,aL]
  show Ok (bif !cc (ofA t r seq cl)then _ else _) _
  cases cc (ofA t r seq cl)
  ·exact Ok.s rfl
  ·exact Ok.s rfl
def oM(f:aj)(n:aO)(seq:Int):ai×Bool:=bif inB seq 1 1000000 then(ofA (aW f) n.af seq n.Claims,true)else(noA,false)
theorem zF(h:Vf f){n:aO}(hn:n∈f.aA)(seq:Int):cc (ofA (aW f) n.af seq n.Claims)=inB seq 1 1000000:=by
 rw[adw h.t (qz hn)]
 have:=(h.n n hn).2.1
 unfold jW at this
 rw[this,Bool.and_true]
theorem Vf.sm(h:Vf f):SmF f:=by have h1:=h.len;have h2:=h.t.nl;exact⟨by have:f.Links.length≤60:=h2;omega,by omega⟩
theorem wO(h:Vf f){n:aO}(hL:f.aA=a++n::b)(seq:Int):nG f (a.length:Int) seq=some (oM f n seq):=by
 have hn:n∈f.aA:=by rw[hL];simp
 unfold nG
 rw[uD h.sm,aL,hL,iy,aL,ajy h.t (qz hn),zF h hn,aL]
 unfold oM
 cases inB seq 1 1000000<;>rfl
theorem yF{l:List bG}(h:jW l=true):l.length≤100000:=by
 simp only[jW,Bool.and_eq_true,decide_eq_true_eq]at h;omega
theorem xK(h:Vf f){n:aO}(hn:n∈f.aA):gm f n=some (bif decide (n.Seq=0)then(noA,false)else oM f n n.Seq):=by
 unfold gm
 cases hs:decide (n.Seq=0)
 ·simp only[cond_false]
  rw[xI h.sm,aL,atz h.t (qz hn) n.Seq (yF (h.n n hn).2.1),zF h hn,aL]
  unfold oM
  cases inB n.Seq 1 1000000<;>rfl
 ·rfl
def abr(f:aj)(r:Int):ai×Bool:=bif ql f then(bif decide (iD f r<0)then(noA,false)else match f.aA[(iD f r).toNat]? with|some n=>(bif decide (n.Seq=0)then(noA,false)else oM f n n.Seq)|none=>(noA,false))else(noA,false)
theorem ajB(h:SmF f)(r:Int):xA f r=some (abr f r)∧pz f r=some (abr f r):=by
 unfold xA pz abr
 simp only[jn,xJ,lB h,wN,afq h,aL]
 cases hv:ql f
 ·exact⟨rfl,rfl⟩
 ·have hf:=ni.1 hv
  rcases nh f r with⟨h1,_⟩|⟨a,n,b,h1,h2,h3⟩
  ·rw[h1];exact⟨rfl,rfl⟩
  ·have hn:n∈f.aA:=by rw[h1];simp
   have e1:elO f.aA (a.length:Int)=some n:=by rw[h1];exact iy a n b
   have e2:f.aA[a.length]?=some n:=by rw[h1];simp
   have e3:decide ((a.length:Int)<0)=false:=by simp
   have e4:decide (0≤(a.length:Int))=true:=by simp
   simp only[h2,e1,e3,e4,Int.toNat_natCast,e2,xK hf hn,wO hf h1,aL,cond_true,cond_false,decide_true,Bool.not_true]
   cases decide (n.Seq=0)<;>simp[noA]
theorem acV(e:α→α→Bool)(he:∀a b,e a b=true↔a=b):∀(l m:List α),(decide ((l.length:Int)=m.length)&&(l.zip m).all (λp=>e p.1 p.2))=true↔l=m:=by
 intro l
 induction l with
 |nil=>intro m;cases m<;>simp;omega
 |cons x l ih=>
  intro m
  cases m with
  |nil=>simp;omega
  |cons y m=>
   have:=ih m
   simp only[Bool.and_eq_true,decide_eq_true_eq]at this
   simp only[List.length_cons,List.zip_cons_cons,List.all_cons,Bool.and_eq_true,decide_eq_true_eq,List.cons.injEq,he,←this]
   constructor
   ·rintro⟨h1,h2,h3⟩;exact⟨h2,by omega,h3⟩
   ·rintro⟨h2,h1,h3⟩;exact⟨by omega,h2,h3⟩
theorem aeV(a b:bw):nv a b=true↔a=b:=by cases a;cases b;simp[nv]
theorem aeW(a b:bG):nu a b=true↔a=b:=by cases a;cases b;simp[nu]
theorem uE(a b:ai):nP a b=true↔a=b:=by
 obtain⟨a1,a2,a3,a4,a5⟩:=a
 obtain⟨b1,b2,b3,b4,b5⟩:=b
 have h1:=acV nv aeV a4 b4
 have h2:=acV nu aeW a5 b5
 simp only[nP,acN,acO,Bool.and_eq_true]at h1 h2 ⊢
 rw[h1,h2]
 simp only[decide_eq_true_eq,beq_iff_eq,ai.mk.injEq]
theorem ahZ(a b:aF):yu a b=true↔a=b:=by
 obtain⟨a⟩:=a
 obtain⟨b⟩:=b
 have:=acV nP uE a b
 simp only[yu,aF.mk.injEq]
 exact this
end Go.Proofs.YtjdopimopgpagaaGreat
namespace Go.Proofs.YtjdopimopgpagaaGreat
set_option linter.all false
open Go
def yG{α:Type}(P:List α→α→Bool):List α→List α→Bool
 |_,[]=>true
 |p,x::r=>P p x&&yG P (p++[x]) r
theorem ah0{α β:Type}{B:Int→α→(Unit→Option β)→Unit→Option β}{K:Unit→Option β}{L:List α}(P:List α→α→Bool)(a:Option β)(hB:∀(p:List α) x r Z,L=p++x::r→B (p.length:Int) x Z ()=bif P p x then Z ()else a):bN L 0 B K ()=bif yG P [] L then K ()else a:=by
 have key:∀(l p:List α),L=p++l→bN l p.length B K ()=bif yG P p l then K ()else a:=by
  intro l
  induction l with
  |nil=>intro p _;rfl
  |cons x r ih=>
   intro p h
   simp only[bN,yG]
   rw[hB p x r _ h]
   have:=ih (p++[x]) (by simp[h])
   rw[List.length_append]at this
   have e:bN r (p.length+1) B K ()=bif yG P (p++[x]) r then K ()else a:=this
   rw[e]
   cases P p x<;>rfl
 exact key L [] rfl
variable {f:aj}
theorem am7(h:Vf f){a b:List aO}{n:aO}(hL:f.aA=a++n::b):abr f n.af=(bif decide (n.Seq=0)then(noA,false)else oM f n n.Seq):=by
 unfold abr
 have e2:f.aA[a.length]?=some n:=by rw[hL];simp
 have e3:decide ((a.length:Int)<0)=false:=by simp
 rw[ni.2 h,h.idx hL,Int.toNat_natCast,e2,e3];rfl
noncomputable def aeX(f:aj)(p:List aO)(n:aO):Bool:=(bif decide (n.Seq=0)then(noA,false)else oM f n n.Seq).2&&((fN n.Database n.af).2&&(nP (bif decide (n.Seq=0)then(noA,false)else oM f n n.Seq).1 (fN n.Database n.af).1&&p.all (λe=>!abl (aW f) e.af n.af||yu e.Database n.Database)))
noncomputable def agX(f:aj):Bool:=ql f&&(!decide ((0:Int)<(f.aq.length:Int))&&yG (aeX f) [] f.aA)
theorem agY(h:SmF f):gX f=some (agX f):=by
 unfold gX agX
 simp only[jn,lB h,xI h,aL]
 cases hv:ql f
 ·rfl
 ·have hf:=ni.1 hv
  simp only[cond_true,decide_true,Bool.not_true,cond_false,Bool.true_and]
  have hnr:(aW f).aI.length≤1000000:=by have:=hf.t.nr;omega
  cases decide ((0:Int)<(f.aq.length:Int))
  ·simp only[cond_false,Bool.not_false,Bool.true_and]
   rw[ah0 (aeX f) (some false)]
   ·cases yG (aeX f) [] f.aA<;>rfl
   ·intro p n r Z hL
    have hn:n∈f.aA:=by rw[hL];simp
    have hlen:=hf.len
    have hp:p.length<f.aA.length:=by rw[hL];simp
    have hsm:=(hf.n n hn).2.2.sm
    simp only[xK hf hn,afP hsm,aL,aag]
    have hsl:rL f.aA 0 (p.length:Int)=some p:=by
     unfold rL
     rw[if_pos ⟨by omega,by omega,by omega⟩,hL]
     simp
    unfold aeX
    rw[hsl,aL]
    have hin:(bN p 0 (λ(j2:Int) (e2:aO) (Z2:Unit→Option Bool) (sg:Unit)=>bnd (ir (aW f) e2.af n.af) λ(cq:Bool)=>(bif cq then bnd (kU e2.Database n.Database) λ(cU:Bool)=>(bif !cU then some false else Z2 ())else(bif false then some false else Z2 ()))) (λ(sg:Unit)=>Z ()) ()) =
      bif p.all (λe=>!abl (aW f) e.af n.af||yu e.Database n.Database)then Z ()else some false:=by
     refine wh _ (some false) p (λj x hx W=>?_) 0
     rw[adG _ _ _ hnr,aL,amY,aL]
     cases abl (aW f) x.af n.af<;>cases yu x.Database n.Database<;>rfl
    generalize (bif decide (n.Seq=0)then(noA,false)else oM f n n.Seq)=o
    generalize fN n.Database n.af=q
    cases o.2
    ·rfl
    ·cases q.2
     ·rfl
     ·simp only[Bool.not_true,cond_false,Bool.true_and]
      cases nP o.1 q.1
      ·rfl
      ·simp only[Bool.not_true,cond_false,Bool.true_and]
       exact hin
  ·rfl
def SzF(f:aj)(n:Nat):Prop:=f.Links.length≤100∧f.aA.length≤n∧f.aq.length≤n
theorem SzF.sm{n:Nat}(h:SzF f n)(hn:n≤1000):SmF f:=⟨by have:=h.1;omega,by have:=h.2.1;omega⟩
end Go.Proofs.YtjdopimopgpagaaGreat
namespace Go.Proofs.YtjdopimopgpagaaGreat
set_option linter.all false
open Go
theorem vh{d:aF}(hd:SmD d):dN d=some d:=by
 refine Ok.eq ?_
 unfold dN
 refine Ok.qN (λP (m:List ai)=>m=P) ?_ _ rfl (λm hm=>Ok.s (by rw[hm]))
 rintro P x r m Z hL rfl hZ
 have hx:x∈d.aG:=by rw[hL];simp
 have hl:m.length<d.aG.length:=by rw[hL];simp
 have:=hd.1
 rw[ahN (hd.2 x hx).1,aL,abY (hd.2 x hx).2,aL,eB (by simp;omega),aL]
 exact hZ _ rfl
variable {f:aj}
theorem abt(h:Vf f):en f=some f:=by
 refine Ok.eq ?_
 unfold en
 have hs:=h.sm
 rw[xH hs.1,aL]
 refine Ok.qN (λP (m:List aO)=>m=P) ?_ _ rfl ?_
 ·rintro P x r m Z hL rfl hZ
  have hx:x∈f.aA:=by rw[hL];simp
  have hl:m.length<f.aA.length:=by rw[hL];simp
  have h1:=hs.2
  have hn:=h.n x hx
  rw[abY (yF hn.2.1),aL,vh hn.2.2.sm,aL,eB (by simp;omega),aL]
  exact hZ _ rfl
 ·rintro m rfl
  refine Ok.qN (λP (m:List aR)=>m=P) ?_ _ rfl (λm hm=>Ok.s (by rw[hm]))
  rintro P x r m Z hL rfl hZ
  have hx:x∈f.aq:=by rw[hL];simp
  have hl:m.length<f.aq.length:=by rw[hL];simp
  have h1:=h.m
  rw[vh (h.g x hx).2.2.2.sm,aL,eB (by simp;omega),aL]
  exact hZ _ rfl
def dP(f:aj)(a:List aO)(n:aO)(b:List aO):aj:=aj.mk f.Links (a++n::b) f.aq
variable {a b:List aO}{n':aO}
theorem kN{n:aO}(hL:f.aA=a++n::b)(hr:n'.af=n.af)(hc:n'.aY=n.aY):aW (dP f a n' b)=aW f:=by
 unfold aW dP
 rw[hL];simp[hr,hc]
theorem aeY(r:Int):∀(l m:List aO) (j:Nat),l.map (·.af)=m.map (·.af)→uU r l j=uU r m j
 |[],[],_,_=>rfl
 |[],_::_,_,h=>by simp at h
 |_::_,[],_,h=>by simp at h
 |x::l,y::m,j,h=>by
  simp only[List.map_cons,List.cons.injEq]at h
  simp only[uU,h.1,aeY r l m (j+1) h.2]
theorem aeZ{n:aO}(hL:f.aA=a++n::b)(hr:n'.af=n.af)(r:Int):iD (dP f a n' b) r=iD f r:=by
 unfold iD dP
 exact aeY r _ _ 0 (by rw[hL];simp[hr])
theorem Vf.dP{f:aj}(h:Vf f){a b:List aO}{n n':aO}(hL:f.aA=a++n::b)(hr:n'.af=n.af)(hc:n'.aY=n.aY)(hn:(0≤n'.Seq∧n'.Seq≤1000000)∧jW n'.Claims=true∧Vd n'.Database):Vf (dP f a n' b):=by
 refine⟨by rw[kN hL hr hc];exact h.t,h.m,λx hx=>?_,λm hm=>?_⟩
 ·have hx:x∈a++n'::b:=hx
  rcases List.mem_append.1 hx with hx|hx
  ·exact h.n x (by rw[hL];simp[hx])
  ·rcases List.mem_cons.1 hx with rfl|hx
   ·exact hn
   ·exact h.n x (by rw[hL];simp[hx])
 ·have:=h.g m hm
  rw[aeZ hL hr,aeZ hL hr];exact this
theorem uF(f:aj)(a b:List aO)(n n':aO):Go.Proofs.YtjdopimopgpagaaGreat.dP (Go.Proofs.YtjdopimopgpagaaGreat.dP f a n b) a n' b=Go.Proofs.YtjdopimopgpagaaGreat.dP f a n' b:=rfl
variable {α:Type}
theorem pH(p:List α)(x y:α)(r:List α):gF (p++x::r) (p.length:Int) y=some (p++y::r):=by
 unfold gF
 rw[if_pos ⟨by omega,by simp;omega⟩]
 simp
def oN(f:aj)(n:aO):aO:=aO.mk n.af n.Seq n.aY n.Claims (mD n.Database (ofA (aW f) n.af n.Seq n.Claims)).1
theorem xL(h:Vf f){n:aO}(hn:n∈f.aA){seq:Int}(hs:1≤seq∧seq≤1000000):cc (ofA (aW f) n.af seq n.Claims)=true:=by
 rw[zF h hn];simp[inB];omega
theorem ae0(h:Vf f){n:aO}(hL:f.aA=a++n::b)(hs:1≤n.Seq):dg (aK.mk f) (a.length:Int)=some (aK.mk (dP f a (oN f n) b)):=by
 have hn:n∈f.aA:=by rw[hL];simp
 have hno:=h.n n hn
 have hv:=xL h hn (seq:=n.Seq) ⟨hs,hno.1.2⟩
 unfold dg
 have e0:decide (n.Seq=0)=false:=by simp;omega
 have e1:inB n.Seq 1 1000000=true:=by simp[inB];omega
 simp only[hL,iy,aL]
 simp only[xK h hn,e0,cond_false,oM,e1,cond_true,aL]
 rw[aqb hno.2.2.sm (Va.sm hv),if_pos ⟨jL.2 hno.2.2,hv⟩,aL,pH,aL]
 rfl
theorem yH{n:aO}(hL:f.aA=a++n::b)(hl:f.aA.length≤100000)(n':aO):sY f (a.length:Int) n'=some (dP f a n' b):=by
 unfold sY
 rw[eB (by simp;omega),aL,List.nil_append,hL,iy,aL,pH,aL];rfl
theorem aaF(h:Vf f){n:aO}(hL:f.aA=a++n::b){seq:Int}(hs:1≤seq∧seq≤1000000):mI f (a.length:Int) seq=some (dP f a (oN f (aO.mk n.af seq n.aY n.Claims n.Database)) b):=by
 have hn:n∈f.aA:=by rw[hL];simp
 have hno:=h.n n hn
 have hv:=xL h hn hs
 have e1:inB seq 1 1000000=true:=by simp[inB];omega
 unfold mI
 rw[show elO f.aA (a.length:Int)=some n by rw[hL];exact iy a n b,aL,wO h hL,aL]
 simp only[oM,e1,cond_true]
 rw[adu,if_pos ⟨jL.2 hno.2.2,hv⟩,aL,yH hL (by have:=h.len;omega),aL]
 rfl
theorem Vf.pub(h:Vf f){n n0:aO}(hL:f.aA=a++n0::b)(hr:n.af=n0.af)(hc:n.aY=n0.aY)(hs:1≤n.Seq∧n.Seq≤1000000)(hcl:jW n.Claims=true)(hd:Vd n.Database):Vf (Go.Proofs.YtjdopimopgpagaaGreat.dP f a (oN f n) b):=by
 refine h.dP hL hr hc ⟨⟨by have:=hs.1;show 0≤n.Seq;omega,hs.2⟩,hcl,?_⟩
 refine hd.put ?_
 have hn0:n0∈f.aA:=by rw[hL];simp
 rw[hr,adw h.t (qz hn0)]
 have e1:inB n.Seq 1 1000000=true:=by simp[inB];omega
 unfold jW at hcl
 rw[e1,hcl];rfl
theorem adx(h:Vf f){n:aO}(hL:f.aA=a++n::b):eC f n.af=some (aK.mk f,(a.length:Int),0):=by
 unfold eC
 have e:decide (0≤(a.length:Int))=true:=by simp
 simp only[lB h.sm,ni.2 h,xJ,h.idx hL,e,aL,cond_true,decide_true,Bool.not_true,cond_false,abt h]
theorem wP(h:Vf f){r:Int}(hr:iD f r = -1):eC f r=none∧gx f r=some (0,4):=by
 unfold eC gx
 simp only[lB h.sm,ni.2 h,xJ,hr,aL,cond_true]
 exact⟨rfl,rfl⟩
variable {k:Int}
theorem w5(h:Vf f)(hk:0≤k∧k<f.aq.length):dX f k=some (aK.mk f,0):=by
 unfold dX
 have e1:decide (k<0)=false:=by simp;omega
 have e2:decide ((f.aq.length:Int)≤k)=false:=by simp;omega
 simp only[lB h.sm,ni.2 h,e1,e2,aL,cond_true,decide_true,Bool.not_true,Bool.or_self,cond_false,abt h]
theorem pI(h:Vf f)(hk:¬(0≤k∧k<f.aq.length)):dX f k=none∧fI f k=some 4:=by
 have e:(decide (k<0)||decide ((f.aq.length:Int)≤k))=true:=by simp;omega
 unfold dX fI
 simp only[lB h.sm,ni.2 h,e,aL,cond_true]
 exact⟨rfl,rfl⟩
def wQ(f:aj)(n:aO):List aR:=(iN (aW f) n.af).map λx=>aR.mk n.af x n.Database
theorem afW(h:Vf f){n:aO}(hL:f.aA=a++n::b)(M:List aR)(hM:M.length≤5000):fR (aK.mk (aj.mk f.Links f.aA M)) (a.length:Int)=some (aK.mk (aj.mk f.Links f.aA (M++wQ f n))):=by
 have hn:n∈f.aA:=by rw[hL];simp
 have e1:elO f.aA (a.length:Int)=some n:=by rw[hL];exact iy a n b
 unfold fR
 have ht:dO (aj.mk f.Links f.aA M)=some (aW f):=xI (f:=aj.mk f.Links f.aA M) h.sm
 simp only[e1,aL,ht,acK,kL.2 h.t,if_true,vh (h.n n hn).2.2.sm]
 have h23:=abq h.t (qz hn)
 rw[wM (λx:Int=>aR.mk n.af x n.Database) _ 0 M (by omega)]
 rfl
def gf(f:aj)(p q:List aR):aj:=aj.mk f.Links f.aA (p++q)
theorem yI{l:List α}(hk:0≤k∧k<l.length):∃p x q,l=p++x::q∧k=(p.length:Int):=by
 have h:k.toNat<l.length:=by omega
 refine⟨l.take k.toNat,l[k.toNat],l.drop (k.toNat+1),?_,by simp;omega⟩
 rw[←List.drop_eq_getElem_cons h,List.take_append_drop]
theorem afX(p:List α)(x:α)(q:List α)(hl:(p++x::q).length≤100000):x2 (p++x::q) (p.length:Int) (w64 ((p.length:Int)+1))=some (p++q):=by
 have hl2:p.length+q.length+1≤100000:=by simpa [Nat.add_assoc]using hl
 rw[cw (by omega) (by omega)]
 unfold x2
 rw[if_pos ⟨by omega,by omega,by simp;omega⟩]
 rw[Int.toNat_natCast,show((p.length:Int)+1).toNat=p.length+1 by omega]
 simp
end Go.Proofs.YtjdopimopgpagaaGreat
namespace Go.Proofs.YtjdopimopgpagaaGreat
set_option linter.all false
open Go
theorem ady{α:Type}{B:Int→α→(Unit→Option Int)→Unit→Option Int}{K:Unit→Option Int}(p:α→Bool)(hK:K ()=some (-1)):∀(l:List α),(∀j,∀x∈l,∀Z,B j x Z ()=bif p x then some j else Z ())→∀j:Nat,(bN l j B K ()=some (-1)∧∀x∈l,p x=false)∨∃a x b,l=a++x::b∧bN l j B K ()=some ((j+a.length:Nat):Int)∧p x=true∧∀y∈a,p y=false
 |[],_,j=>Or.inl ⟨hK,by simp⟩
 |x::r,hB,j=>by
  have e:bN (x::r) j B K ()=bif p x then some (j:Int)else bN r (j+1) B K ():=hB _ x (by simp) _
  rw[e]
  cases hp:p x with
  |true=>exact Or.inr ⟨[],x,r,rfl,by simp,hp,by simp⟩
  |false=>
   rcases ady p hK r (λj y hy=>hB j y (by simp[hy])) (j+1)with⟨h1,h2⟩|⟨a,y,b,h1,h2,h3,h4⟩
   ·refine Or.inl ⟨h1,λy hy=>?_⟩
    rcases List.mem_cons.1 hy with rfl|hy
    ·exact hp
    ·exact h2 y hy
   ·refine Or.inr ⟨x::a,y,b,by rw[h1];rfl,?_,h3,λz hz=>?_⟩
    ·rw[show(bif false then some (j:Int)else bN r (j+1) B K ())=bN r (j+1) B K ()from rfl,h2]
     simp only[List.length_cons]
     congr 2
     omega
    ·rcases List.mem_cons.1 hz with rfl|hz
     ·exact hp
     ·exact h4 z hz
theorem ajC{l:List aR}{del:aR→Option Bool}(p:aR→Bool)(h:∀x∈l,del x=some (p x))(hl:l.length≤100000):cQ l del=some (l.filter λx=>!p x):=by
 refine Ok.eq ?_
 unfold cQ dY
 rcases ady p (B:=λ(j1:Int) (e1:aR) (Z1:Unit→Option Int) (sg:Unit)=>match sg with|()=>bnd (del e1) λ(ah:Bool)=>bif ah then some (j1:Int)else Z1 ()) (K:=λ(sg:Unit)=>match sg with|()=>some (-1:Int)) rfl l (λj x hx Z=>by simp only[h x hx,aL]) 0 with⟨h1,h2⟩|⟨a,x,b,h1,h2,h3,h4⟩
 ·rw[h1,aL,show decide ((-1:Int) = -1)=true from rfl,cond_true]
  exact Ok.s (by rw[List.filter_eq_self.2 λx hx=>by simp[h2 x hx]])
 ·rw[h2,aL]
  have hlen:l.length=a.length+(b.length+1):=by rw[h1];simp
  have e1:decide (((0+a.length:Nat):Int) = -1)=false:=decide_eq_false (by omega)
  rw[e1,cond_false,cw (by omega) (by omega)]
  refine Ok.whl (λs:List aR×Int×Int=>∃P eS rest,l=P++rest∧s.1=(P.filter λx=>!p x)++eS++rest∧s.2.1=((P.filter λx=>!p x).length:Int)∧s.2.2=(P.length:Int)∧1≤eS.length∧(P.filter λx=>!p x).length+eS.length=P.length) (λs=>l.length-s.2.2.toNat) ?_ (by simp only;omega) ?_
  ·have ea:(a.filter λx=>!p x)=a:=List.filter_eq_self.2 λy hy=>by simp[h4 y hy]
   refine⟨a++[x],[x],b,by rw[h1];simp,?_,?_,?_,by simp,?_⟩
   all_goals simp[ea,h3,h1]
  rintro⟨vs,i,j⟩ Z ⟨P,eS,rest,q1,q2,q3,q4,q5,q6⟩ hZ
  simp only at q2 q3 q4
  subst q2 q3 q4
  have hn:l.length=P.length+rest.length:=by rw[q1];simp
  have hvl:((P.filter λx=>!p x)++eS++rest).length=l.length:=by simp only[List.length_append,hn,←q6]
  refine Ok.cs (λhc=>?_) λhc=>?_
  ·have hc:P.length<l.length:=by have hc:=of_decide_eq_true hc;simp only[hvl]at hc;omega
   obtain⟨y,rest',rfl⟩:∃y r,rest=y::r:=by
    cases rest with
    |nil=>simp at hn;omega
    |cons y r=>exact⟨y,r,rfl⟩
   obtain⟨w,ue,rfl⟩:∃w r,eS=w::r:=by
    cases eS with
    |nil=>simp at q5
    |cons y r=>exact⟨y,r,rfl⟩
   have hy:y∈l:=by rw[q1];simp
   have e2:elO ((P.filter λx=>!p x)++w::ue++y::rest') (P.length:Int)=some y:=by
    have:=iy ((P.filter λx=>!p x)++w::ue) y rest'
    rwa [show(((P.filter λx=>!p x)++w::ue).length:Int)=(P.length:Int)by rw[List.length_append];omega]at this
   have e3:elO ((P.filter λx=>!p x)++w::ue++y::rest') ((P.filter λx=>!p x).length:Int)=some w:=by
    have:=iy (P.filter λx=>!p x) w (ue++y::rest')
    simpa using this
   have e4:gF ((P.filter λx=>!p x)++w::ue++y::rest') ((P.filter λx=>!p x).length:Int) y=some ((P.filter λx=>!p x)++y::(ue++y::rest')):=by
    have:=pH (P.filter λx=>!p x) w y (ue++y::rest')
    simpa using this
   have hPf:(P.filter λx=>!p x).length≤P.length:=List.length_filter_le _ _
   simp only[List.length_cons]at q6 hn
   simp only[jn,e2,aL,h y hy]
   rw[cw (n:=(P.length:Int)+1) (by omega) (by omega)]
   cases hp:p y with
   |true=>
    simp only[Bool.not_true,cond_false]
    refine hZ _ ⟨P++[y],w::ue++[y],rest',by rw[q1];simp,?_,?_,?_,by simp,?_⟩ (by simp only;omega)
    all_goals simp[hp]
    all_goals omega
   |false=>
    simp only[Bool.not_false,cond_true,e3,e4,aL]
    rw[cw (n:=((P.filter λx=>!p x).length:Int)+1) (by omega) (by omega)]
    refine hZ _ ⟨P++[y],ue++[y],rest',by rw[q1];simp,?_,?_,?_,by simp,?_⟩ (by simp only;omega)
    all_goals simp[hp]
    all_goals omega
  ·try dsimp only at hc ⊢
   have hc:¬P.length<l.length:=by have hc:=of_decide_eq_false hc;simp only[hvl]at hc;omega
   have hr:rest=[]:=by cases rest with|nil=>rfl|cons y r=>simp at hn;omega
   subst hr
   have hP:P=l:=by rw[q1];simp
   subst hP
   have e5:((P.filter λx=>!p x)++eS++[]).length=P.length:=hvl
   rw[ng (decide_eq_true (by rw[e5];omega))]
   have e6:rL (((P.filter λx=>!p x)++eS++[]).take (((P.filter λx=>!p x).length:Int)).toNat++List.replicate (((P.filter λx=>!p x)++eS++[]).length-(((P.filter λx=>!p x).length:Int)).toNat) (aR.mk (0:Int) (0:Int) (aF.mk []))) (0:Int) ((P.filter λx=>!p x).length:Int)=some (P.filter λx=>!p x):=by
    unfold rL
    rw[if_pos ⟨by omega,by omega,by simp;omega⟩]
    simp
   rw[e6,aL]
   exact Ok.s rfl
def pN(t:aB)(x:aR):Bool:=(o9 t x.cD x.To).2
def tc(n:aO):aO:=aO.mk n.af (n.Seq+1) n.aY n.Claims n.Database
def wj(t u:aB)(n:aO):Bool:=decide (1≤n.Seq)&&(decide (n.Seq<1000000)&&!nP (ofA t n.af n.Seq n.Claims) (ofA u n.af n.Seq n.Claims))
def eG(t u:aB)(n:aO):aO:=bif wj t u n then aO.mk n.af (n.Seq+1) n.aY n.Claims (mD n.Database (ofA u n.af (n.Seq+1) n.Claims)).1 else n
def cn(f:aj)(L:List aV):aj:=aj.mk L f.aA f.aq
def acW(f:aj)(L:List aV):aj:=aj.mk L (f.aA.map (eG (aW f) (aW (cn f L)))) (f.aq.filter (pN (aW (cn f L))))
variable {t:aB}
theorem am8{h:aj}{n:aO}(hc:wj t (aW h) n=true):eG t (aW h) n=oN h (tc n):=by
 unfold eG;rw[hc];rfl
theorem aqj{g:aj}{a b:List aO}{n:aO}(hg:Vf g)(hL:g.aA=a++n::b):Vf (dP g a (eG t (aW g) n) b)∧aW (dP g a (eG t (aW g) n) b)=aW g:=by
 have hn:n∈g.aA:=by rw[hL];simp
 have hno:=hg.n n hn
 cases hc:wj t (aW g) n with
 |false=>
  have e:eG t (aW g) n=n:=by unfold eG;rw[hc];rfl
  have e2:dP g a n b=g:=by unfold dP;rw[←hL]
  rw[e,e2]
  exact⟨hg,rfl⟩
 |true=>
  have e:eG t (aW g) n=oN g (tc n):=by unfold eG;rw[hc];rfl
  simp only[wj,Bool.and_eq_true,decide_eq_true_eq]at hc
  rw[e]
  exact⟨hg.pub hL (n:=tc n) rfl rfl ⟨by show 1≤n.Seq+1;omega,by show n.Seq+1≤1000000;omega⟩ hno.2.1 hno.2.2,kN hL rfl rfl⟩
def pO(f:aj)(L:List aV)(M:List aR)(p l:List aO):aj:=aj.mk L (p.map (eG (aW f) (aW (cn f L)))++l) M
theorem ae1{f:aj}{L:List aV}{M:List aR}:∀(q p l:List aO),(Vf (pO f L M p (q++l))∧aW (pO f L M p (q++l))=aW (cn f L))→Vf (pO f L M (p++q) l)∧aW (pO f L M (p++q) l)=aW (cn f L)
 |[],p,l,h=>by simpa using h
 |n::q,p,l,⟨h1,h2⟩=>by
  have:=aqj (t:=aW f) h1 (a:=p.map (eG (aW f) (aW (cn f L)))) (n:=n) (b:=q++l) rfl
  rw[h2]at this
  have e:pO f L M (p++[n]) (q++l)=dP (pO f L M p (n::q++l)) (p.map (eG (aW f) (aW (cn f L)))) (eG (aW f) (aW (cn f L)) n) (q++l):=by
   unfold pO dP;simp
  rw[←e]at this
  have:=ae1 q (p++[n]) l this
  simpa using this
variable {L:List aV}{f:aj}
theorem ah1{M:List aR}(hM:Vf (aj.mk L f.aA M))(l p:List aO)(h:f.aA=p++l):Vf (pO f L M p l)∧aW (pO f L M p l)=aW (cn f L):=by
 have:=ae1 (f:=f) (L:=L) (M:=M) p [] l ?_
 ·simpa using this
 ·rw[←h];exact⟨hM,rfl⟩
theorem Vf.af6(h:Vf f)(q:aR→Bool):Vf (aj.mk f.Links f.aA (f.aq.filter q)):=by
 refine⟨h.t,?_,h.n,λm hm=>h.g m ?_⟩
 ·have:=h.m;have h2:=List.length_filter_le q f.aq;show(f.aq.filter q).length≤400;omega
 ·exact(List.mem_filter.1 hm).1
theorem ah2(hg:Vf (cn f L)):Vf (acW f L)∧aW (acW f L)=aW (cn f L):=by
 have:=ah1 (f:=f) (L:=L) (M:=f.aq.filter (pN (aW (cn f L)))) (hg.af6 _) [] f.aA (by simp)
 unfold pO at this
 rw[List.append_nil]at this
 exact this
structure Wc(f:aj):Prop where
 s:SmF f
 m:f.aq.length≤100000
 n:∀n∈f.aA,n.Claims.length≤100000∧SmD n.Database
 g:∀x∈f.aq,SmD x.Database
theorem Vf.wc(h:Vf f):Wc f:=⟨h.sm,by have:=h.m;omega,λn hn=>⟨yF (h.n n hn).2.1,(h.n n hn).2.2.sm⟩,λx hx=>(h.g x hx).2.2.2.sm⟩
theorem ae2(h:Wc f):en f=some f:=by
 refine Ok.eq ?_
 unfold en
 have hs:=h.s
 rw[xH hs.1,aL]
 refine Ok.qN (λP (m:List aO)=>m=P) ?_ _ rfl ?_
 ·rintro P x r m Z hL rfl hZ
  have hx:x∈f.aA:=by rw[hL];simp
  have hl:m.length<f.aA.length:=by rw[hL];simp
  have h1:=hs.2
  have hn:=h.n x hx
  rw[abY hn.1,aL,vh hn.2,aL,eB (by simp;omega),aL]
  exact hZ _ rfl
 ·rintro m rfl
  refine Ok.qN (λP (m:List aR)=>m=P) ?_ _ rfl (λm hm=>Ok.s (by rw[hm]))
  rintro P x r m Z hL rfl hZ
  have hx:x∈f.aq:=by rw[hL];simp
  have hl:m.length<f.aq.length:=by rw[hL];simp
  have h1:=h.m
  rw[vh (h.g x hx),aL,eB (by simp;omega),aL]
  exact hZ _ rfl
theorem adz(h:Vf f){n:aO}(hn:n∈f.aA):(bif decide (n.Seq=0)then(noA,false)else oM f n n.Seq)=bif decide (1≤n.Seq)then(ofA (aW f) n.af n.Seq n.Claims,true)else(noA,false):=by
 obtain⟨h1,h2⟩:=(h.n n hn).1
 by_cases h0:n.Seq=0
 ·have:¬(1≤n.Seq):=by omega
  simp[h0]
 ·have e:(1≤n.Seq):=by omega
  have e1:inB n.Seq 1 1000000=true:=by simp[inB];omega
  simp[h0,e,oM,e1]
theorem ah3(hf:Vf f)(hg:Vf (cn f L)):gp f L=some (acW f L,0):=by
 unfold gp
 have hLl:L.length≤100000:=hg.sm.1
 have hm:=hf.m
 rw[ae2 hf.wc,aL,xH hLl,aL]
 simp only[jn]
 rw[show aj.mk L f.aA f.aq=cn f L from rfl,lB hf.sm,lB hg.sm,ni.2 hf,ni.2 hg]
 simp only[aL,cond_true,decide_true,Bool.not_true,cond_false]
 rw[xI hg.sm,aL]
 have hdel:cQ f.aq (λ(y0:aR)=>jK y0 (aW (cn f L)))=some (f.aq.filter (pN (aW (cn f L)))):=by
  rw[ajC (λx=>!pN (aW (cn f L)) x) (λx hx=>?_) (by omega)]
  ·simp
  ·unfold jK
   rw[aeH _ x.cD x.To (by have:(aW (cn f L)).Links.length≤60:=hg.t.nl;omega),kL.2 hg.t]
   rfl
 rw[hdel,aL]
 have hgM:Vf (aj.mk L f.aA (f.aq.filter (pN (aW (cn f L))))):=hg.af6 (pN (aW (cn f L)))
 refine Ok.eq ?_
 refine Ok.qN (λP (s:List aV×List aO×List aR)=>∃l,f.aA=P++l∧s=(L,P.map (eG (aW f) (aW (cn f L)))++l,f.aq.filter (pN (aW (cn f L))))) ?_ _ ⟨f.aA,rfl,rfl⟩ ?_
 ·rintro P n r s Z hL ⟨l,hl,rfl⟩ hZ
  have hl:l=n::r:=List.append_cancel_left (hl.symm.trans hL)
  subst hl
  have hn:n∈f.aA:=by rw[hL];simp
  obtain⟨hp,ht⟩:=ah1 hgM (n::r) P hL
  have el:(P.map (eG (aW f) (aW (cn f L)))).length=P.length:=by simp
  have e1:elO (P.map (eG (aW f) (aW (cn f L)))++n::r) (P.length:Int)=some n:=by rw[←el];exact iy _ n r
  have e2:elO f.aA (P.length:Int)=some n:=by rw[hL];exact iy P n r
  have hpL:(pO f L (f.aq.filter (pN (aW (cn f L)))) P (n::r)).aA=P.map (eG (aW f) (aW (cn f L)))++n::r:=rfl
  have hn2:n∈(pO f L (f.aq.filter (pN (aW (cn f L)))) P (n::r)).aA:=by rw[hpL];simp
  have hnext:∀n',eG (aW f) (aW (cn f L)) n=n'→Ok (Z (L,P.map (eG (aW f) (aW (cn f L)))++n'::r,f.aq.filter (pN (aW (cn f L))))) (λx=>x=(acW f L,0)):=by
   rintro n' rfl
   exact hZ _ ⟨r,by rw[hL];simp,by simp⟩
  show Ok (bnd (elO (P.map (eG (aW f) (aW (cn f L)))++n::r) (P.length:Int)) _) _
  rw[e1,aL,e2,aL,xK hf hn,aL,show aj.mk L (P.map (eG (aW f) (aW (cn f L)))++n::r) (f.aq.filter (pN (aW (cn f L))))=pO f L (f.aq.filter (pN (aW (cn f L)))) P (n::r)from rfl,xK hp hn2,aL,adz hf hn,adz hp hn2,ht]
  obtain⟨s0,s1⟩:=(hf.n n hn).1
  by_cases h1:1≤n.Seq
  ·simp only[h1,decide_true,cond_true,jn,aag,aL]
   cases hs:nP (ofA (aW f) n.af n.Seq n.Claims) (ofA (aW (cn f L)) n.af n.Seq n.Claims)with
   |true=>
    simp only[Bool.not_true,cond_false]
    exact hnext n (by unfold eG wj;rw[hs];simp)
   |false=>
    simp only[Bool.not_false,cond_true]
    by_cases h2:n.Seq<1000000
    ·have hc:wj (aW f) (aW (cn f L)) n=true:=by unfold wj;rw[hs];simp[h1,h2]
     simp only[h2,decide_true,cond_true]
     rw[cw (n:=n.Seq+1) (by omega) (by omega)]
     have hno:=hf.n n hn
     have hV3:Vf (dP (pO f L (f.aq.filter (pN (aW (cn f L)))) P (n::r)) (P.map (eG (aW f) (aW (cn f L)))) (tc n) r):=hp.dP hpL rfl rfl ⟨⟨by show 0≤n.Seq+1;omega,by show n.Seq+1≤1000000;omega⟩,hno.2.1,hno.2.2⟩
     have hpb:=ae0 hV3 (a:=P.map (eG (aW f) (aW (cn f L)))) (b:=r) (n:=tc n) rfl (by show 1≤n.Seq+1;omega)
     have jO:=pH (P.map (eG (aW f) (aW (cn f L)))) n (tc n) r
     rw[el]at jO hpb
     have ht3:aW (dP (pO f L (f.aq.filter (pN (aW (cn f L)))) P (n::r)) (P.map (eG (aW f) (aW (cn f L)))) (tc n) r)=aW (cn f L):=(kN (n':=tc n) hpL rfl rfl).trans ht
     have e7:eG (aW f) (aW (cn f L)) n=oN (dP (pO f L (f.aq.filter (pN (aW (cn f L)))) P (n::r)) (P.map (eG (aW f) (aW (cn f L)))) (tc n) r) (tc n):=by
      have:=am8 (t:=aW f) (n:=n) (h:=dP (pO f L (f.aq.filter (pN (aW (cn f L)))) P (n::r)) (P.map (eG (aW f) (aW (cn f L)))) (tc n) r) (by rw[ht3];exact hc)
      rwa [ht3]at this
     show Ok (bnd (gF (P.map (eG (aW f) (aW (cn f L)))++n::r) (P.length:Int) (tc n)) _) _
     rw[jO,aL,show aj.mk L (P.map (eG (aW f) (aW (cn f L)))++tc n::r) (f.aq.filter (pN (aW (cn f L))))=dP (pO f L (f.aq.filter (pN (aW (cn f L)))) P (n::r)) (P.map (eG (aW f) (aW (cn f L)))) (tc n) r from rfl,hpb,aL]
     exact hnext _ e7
    ·simp only[h2,decide_false,cond_false]
     exact hnext n (by unfold eG wj;simp[h2])
  ·simp only[h1,decide_false,cond_false,jn]
   exact hnext n (by unfold eG wj;simp[h1])
 ·rintro s ⟨l,hl,rfl⟩
  have hl:l=[]:=by simpa using hl
  subst hl
  refine Ok.s ?_
  unfold acW
  simp
end Go.Proofs.YtjdopimopgpagaaGreat
namespace Go.Proofs.YtjdopimopgpagaaGreat
set_option linter.all false
open Go
variable {f:aj}{p q:List aR}{x:aR}
theorem Vf.drop(h:Vf f)(hL:f.aq=p++x::q):Vf (gf f p q):=by
 refine⟨h.t,?_,h.n,λm hm=>?_⟩
 ·have:=h.m;rw[hL]at this;show(p++q).length≤400;simp at this ⊢;omega
 ·have hm:m∈p++q:=hm
  exact h.g m (by rw[hL];rcases List.mem_append.1 hm with hm|hm<;>simp[hm])
theorem zG(h:Vf f)(hL:f.aq=p++x::q):
  ∃g,eo (aK.mk f) (p.length:Int)=some (aK.mk g)∧oe (gf f p q) x=some g∧Vf g∧g.aq=p++q∧g.aA.length=f.aA.length:=by
 have hx:x∈f.aq:=by rw[hL];simp
 have hm:=h.m
 have h1:=h.drop hL
 obtain⟨g1,g2,g3,g4⟩:=h.g x hx
 have aqh:f.Links.length≤60:=h.t.nl
 have aqg:=h.len
 have ht:aW (gf f p q)=aW f:=rfl
 have e1:elO f.aq (p.length:Int)=some x:=by rw[hL];exact iy p x q
 have e2:x2 f.aq (p.length:Int) (w64 ((p.length:Int)+1))=some (p++q):=by
  rw[hL];exact afX p x q (by rw[←hL];omega)
 unfold eo oe
 simp only[e1,e2,aL]
 rw[show aj.mk f.Links f.aA (p++q)=gf f p q from rfl,xI h1.sm,uD h1.sm]
 have adT:jo (aW f) x.cD x.To=some (o9 (aW f) x.cD x.To):=by
  rw[aeH (aW f) x.cD x.To (show f.Links.length≤1000000 by omega),kL.2 h.t];rfl
 simp only[aL,ht,adT,wJ]
 cases hc:(o9 (aW f) x.cD x.To).2
 ·exact⟨_,rfl,rfl,h1,rfl,rfl⟩
 ·simp only[Bool.not_true,cond_false,xJ,wN,aL]
  have hi:iD (gf f p q) x.To=iD f x.To:=rfl
  rw[hi]
  rcases nh f x.To with⟨h2,_⟩|⟨a,n,b,hN,h2,h3⟩
  ·omega
  ·have hn:n∈f.aA:=by rw[hN];simp
   have hno:=h.n n hn
   have hel:elO f.aA (a.length:Int)=some n:=by rw[hN];exact iy a n b
   have ajD:elO (gf f p q).aA (a.length:Int)=some n:=hel
   have jO:∀y,gF f.aA (a.length:Int) y=some (a++y::b):=λy=>by rw[hN];exact pH a n y b
   have hN1:(gf f p q).aA=a++n::b:=hN
   have hvd:=hno.2.2.merge g4
   simp only[h2,hel,ajD,aL,ajv hno.2.2.sm,aaE,jL.2 hno.2.2,jL.2 g4,and_self,if_true,jO,iy]
   rw[yH hN1 (by show f.aA.length≤_;omega),aL]
   generalize hd1:iz n.Database x.Database=d1 at hvd
   have hV2:Vf (dP (gf f p q) a (aO.mk n.af n.Seq n.aY n.Claims d1) b):=h1.dP hN1 rfl rfl ⟨hno.1,hno.2.1,hvd⟩
   have atA:(a++n::b).length=f.aA.length:=by rw[hN]
   have nV:∀n':aO,(dP (gf f p q) a n' b).aA.length=f.aA.length:=λn'=>by rw[←atA];simp[dP]
   rw[show aj.mk f.Links (a++aO.mk n.af n.Seq n.aY n.Claims d1::b) (p++q)=dP (gf f p q) a (aO.mk n.af n.Seq n.aY n.Claims d1) b from rfl]
   generalize hf2:dP (gf f p q) a (aO.mk n.af n.Seq n.aY n.Claims d1) b=f2 at hV2
   have hN2:f2.aA=a++aO.mk n.af n.Seq n.aY n.Claims d1::b:=by rw[←hf2];rfl
   have atB:aO.mk n.af n.Seq n.aY n.Claims d1∈f2.aA:=by rw[hN2];simp
   have hM2:f2.aq=p++q:=by rw[←hf2];rfl
   have aqk:f2.aA.length=f.aA.length:=by rw[←hf2];exact nV _
   simp only[afP hvd.sm,yw,aL,xK hV2 atB,wO hV2 hN2,←h3,jn,aag,abX]
   rcases lR d1 n.af with⟨ha,hha,_,hfa⟩|⟨_,hfa⟩
   ·rw[hfa]
    have hav:=hvd.ok ha hha
    have ajn:1≤ha.Seq∧ha.Seq≤1000000:=by
     simp only[cc,inB,Bool.and_eq_true,decide_eq_true_eq]at hav;omega
    simp only[cond_true,Bool.not_true,cond_false]
    rw[cw (n:=ha.Seq+1) (by omega) (by omega)]
    have akT:ha.Seq<1000000→∃g,(bnd (gF (a++aO.mk n.af n.Seq n.aY n.Claims d1::b) (a.length:Int) (aO.mk n.af (ha.Seq+1) n.aY n.Claims d1)) λ(l_3:List aO)=>bnd (dg (aK.mk (aj.mk f.Links l_3 (p++q))) (a.length:Int)) λ(dz:aK)=>some dz)=some (aK.mk g)∧(bnd (mI f2 (a.length:Int) (ha.Seq+1)) λ(dW:aj)=>some dW)=some g∧Vf g∧g.aq=p++q∧g.aA.length=f.aA.length:=λhlt=>by
     have hV3:Vf (dP (gf f p q) a (aO.mk n.af (ha.Seq+1) n.aY n.Claims d1) b):=h1.dP hN1 rfl rfl ⟨⟨by show 0≤ha.Seq+1;omega,by show ha.Seq+1≤1000000;omega⟩,hno.2.1,hvd⟩
     have hp:=ae0 hV3 (a:=a) (b:=b) (n:=aO.mk n.af (ha.Seq+1) n.aY n.Claims d1) rfl (by show 1≤ha.Seq+1;omega)
     rw[pH,aL,show aj.mk f.Links (a++aO.mk n.af (ha.Seq+1) n.aY n.Claims d1::b) (p++q)=dP (gf f p q) a (aO.mk n.af (ha.Seq+1) n.aY n.Claims d1) b from rfl,hp,aL,aaF hV2 hN2 (by omega),aL]
     have et3:aW (dP (gf f p q) a (aO.mk n.af (ha.Seq+1) n.aY n.Claims d1) b)=aW f:=kN hN1 rfl rfl
     have et2:aW f2=aW f:=by rw[←hf2];exact kN hN1 rfl rfl
     refine⟨_,rfl,?_,?_,rfl,nV _⟩
     ·rw[←hf2,uF,uF]
      unfold oN
      rw[et3]
      rw[hf2,et2]
     ·rw[uF]
      have:=h1.pub hN1 (n:=aO.mk n.af (ha.Seq+1) n.aY n.Claims d1) rfl rfl (by show 1≤ha.Seq+1∧ha.Seq+1≤1000000;omega) hno.2.1 hvd
      unfold oN at this ⊢
      rw[et3]
      exact this
    have stay:∃g,(some (aK.mk f2):Option aK)=some (aK.mk g)∧(some f2:Option aj)=some g∧Vf g∧g.aq=p++q∧g.aA.length=f.aA.length:=⟨f2,rfl,rfl,hV2,hM2,aqk⟩
    have adU:∃g,(bif decide (ha.Seq<1000000)then(bnd (gF (a++aO.mk n.af n.Seq n.aY n.Claims d1::b) (a.length:Int) (aO.mk n.af (ha.Seq+1) n.aY n.Claims d1)) λ(l_3:List aO)=>bnd (dg (aK.mk (aj.mk f.Links l_3 (p++q))) (a.length:Int)) λ(dz:aK)=>some dz)else some (aK.mk f2))=some (aK.mk g)∧(bif decide ((1000000:Int)<ha.Seq+1)then some f2 else(bnd (mI f2 (a.length:Int) (ha.Seq+1)) λ(dW:aj)=>some dW))=some g∧Vf g∧g.aq=p++q∧g.aA.length=f.aA.length:=by
     by_cases hlt:ha.Seq<1000000
     ·have e:¬1000000<ha.Seq+1:=by omega
      simp only[hlt,e,decide_true,decide_false,cond_true,cond_false]
      exact akT hlt
     ·have e:1000000<ha.Seq+1:=by omega
      simp only[hlt,e,decide_true,decide_false,cond_true,cond_false]
      exact stay
    by_cases hs0:n.Seq=0
    ·have e:¬0<n.Seq:=by omega
     simp only[hs0,Int.lt_irrefl,decide_true,decide_false,cond_true,cond_false,Bool.not_false]
     rw[hs0]at adU
     exact adU
    ·have e:0<n.Seq:=by omega
     simp only[hs0,e,decide_true,decide_false,cond_true,cond_false]
     generalize oM f2 (aO.mk n.af n.Seq n.aY n.Claims d1) n.Seq=ow
     cases ow.2
     ·exact adU
     ·simp only[Bool.not_true,cond_false,cond_true]
      cases nP ha ow.1
      ·exact adU
      ·exact stay
   ·rw[hfa]
    exact⟨f2,rfl,rfl,hV2,hM2,aqk⟩
end Go.Proofs.YtjdopimopgpagaaGreat
namespace Go.Proofs.YtjdopimopgpagaaGreat
set_option linter.all false
open Go
def gI(f:aj):aj:=match f.aq with
 |[]=>f
 |x::q=>(oe (gf f [] q) x).getD f
variable {f:aj}{q:List aR}{x:aR}
theorem rT(h:Vf f)(hL:f.aq=x::q):
  eo (aK.mk f) 0=some (aK.mk (gI f))∧oe (gf f [] q) x=some (gI f)∧Vf (gI f)∧(gI f).aq=q:=by
 obtain⟨g,h1,h2,h3,h4,_⟩:=zG h (p:=[]) (q:=q) (x:=x) hL
 have e:gI f=g:=by unfold gI;rw[hL];simp only[h2];rfl
 rw[e]
 exact⟨h1,h2,h3,h4⟩
def drN:Nat→aj→aj
 |0,f=>f
 |n+1,f=>drN n (gI f)
def fK(f:aj):aj:=drN f.aq.length f
theorem afs(h:Vf f)(hL:f.aq=x::q):fK f=fK (gI f):=by
 unfold fK
 rw[hL,(rT h hL).2.2.2];rfl
theorem ah5:∀(n:Nat) (f:aj),Vf f→f.aq.length=n→Vf (drN n f)∧(drN n f).aq=[]
 |0,f,h,hn=>⟨h,List.eq_nil_of_length_eq_zero hn⟩
 |n+1,f,h,hn=>by
  cases hL:f.aq with
  |nil=>rw[hL]at hn;simp at hn
  |cons x q=>
   obtain⟨_,_,h3,h4⟩:=rT h hL
   refine ah5 n (gI f) h3 ?_
   rw[h4];rw[hL]at hn;simpa using hn
theorem uG(h:Vf f):Vf (fK f)∧(fK f).aq=[]:=ah5 _ f h rfl
theorem ae3(h:Vf f):fH (aK.mk f)=some (aK.mk (fK f)):=by
 unfold fH
 have hm:=h.m
 refine gwhl (G:=λo=>o=some (aK.mk (fK f))) (λs:List aV×List aO×List aR=>Vf (aj.mk s.1 s.2.1 s.2.2)∧fK (aj.mk s.1 s.2.1 s.2.2)=fK f) (λs=>s.2.2.length) ⟨h,rfl⟩ (by simp only;omega) ?_
 rintro⟨a,b,c⟩ Z ⟨hv,he⟩ hZ
 simp only at hv he hZ ⊢
 cases c with
 |nil=>simp only[List.length_nil];rw[←he];rfl
 |cons x q=>
  have e:decide ((0:Int)<(((x::q).length:Nat):Int))=true:=by simp
  obtain⟨h1,_,h3,h4⟩:=rT hv (x:=x) (q:=q) rfl
  rw[e,cond_true,h1,aL]
  refine hZ _ ⟨h3,?_⟩ ?_
  ·rw[←afs hv rfl];exact he
  ·show(gI (aj.mk a b (x::q))).aq.length<_
   rw[h4];simp
theorem ae4(key:aV→Int):∀(l:List Int) (L:List aV),l.Nodup→(l.map λx=>(L.filter λk=>decide (key k=x)).length).sum≤L.length
 |[],L,_=>by simp
 |x::xs,L,h=>by
  rw[List.nodup_cons]at h
  have ih:=ae4 key xs (L.filter λk=>!decide (key k=x)) h.2
  have e:(xs.map λy=>(L.filter λk=>decide (key k=y)).length)=xs.map λy=>((L.filter λk=>!decide (key k=x)).filter λk=>decide (key k=y)).length:=by
   refine List.map_congr_left λy hy=>?_
   rw[List.filter_filter]
   congr 1
   refine List.filter_congr λk _=>?_
   by_cases hk:key k=y
   ·have:y≠x:=λe=>h.1 (e▸hy)
    simp[hk,this]
   ·simp[hk]
  have e2:(L.filter λk=>decide (key k=x)).length+(L.filter λk=>!decide (key k=x)).length=L.length:=by
   clear ih e
   induction L with
   |nil=>rfl
   |cons k L ih=>by_cases hk:key k=x<;>simp[hk]<;>omega
  rw[List.map_cons,List.sum_cons,e]
  omega
variable {t:aB}
theorem ajE(hv:Vt t)(r:Int):(iN t r).length≤(t.Links.filter λk=>decide (k.A=r)).length+(t.Links.filter λk=>decide (k.B=r)).length:=by
 have h2:(iN t r).Nodup:=(vV hv r).imp λh=>by omega
 have:=uC (a:=iN t r) (b:=((t.Links.filter λk=>decide (k.A=r)).map (·.B))++(t.Links.filter λk=>decide (k.B=r)).map (·.A)) h2 λx hx=>by
  have ha:=(iF hv).1 hx
  rw[pE]at ha
  obtain⟨l,hl,h|h⟩:=ha
  ·refine List.mem_append.2 (.inl (List.mem_map.2 ⟨l,List.mem_filter.2 ⟨hl,by simpa using h.1⟩,h.2⟩))
  ·refine List.mem_append.2 (.inr (List.mem_map.2 ⟨l,List.mem_filter.2 ⟨hl,by simpa using h.1⟩,h.2⟩))
 simpa using this
theorem sum_add{α:Type}(f g h:α→Nat):∀l:List α,(∀x∈l,f x≤g x+h x)→(l.map f).sum≤(l.map g).sum+(l.map h).sum
 |[],_=>by simp
 |x::l,hl=>by
  have:=sum_add f g h l λy hy=>hl y (by simp[hy])
  have:=hl x (by simp)
  simp only[List.map_cons,List.sum_cons];omega
theorem ajF(hv:Vt t){l:List Int}(hl:l.Nodup):(l.map λr=>(iN t r).length).sum≤120:=by
 have h1:=sum_add (λr=>(iN t r).length) (λr=>(t.Links.filter λk=>decide (k.A=r)).length) (λr=>(t.Links.filter λk=>decide (k.B=r)).length) l λr _=>ajE hv r
 have h2:=ae4 (·.A) l t.Links hl
 have h3:=ae4 (·.B) l t.Links hl
 have h4:=hv.nl
 omega
def qA(f:aj)(p:List aO):List aR:=p.flatMap (wQ f)
variable {p:List aO}
theorem adA(h:Vf f){q:List aO}(hL:f.aA=p++q):(qA f p).length≤120:=by
 have hn:(p.map (·.af)).Nodup:=by
  have:=h.asc
  rw[hL]at this
  have:=(List.pairwise_append.1 this).1
  exact List.pairwise_map.2 (this.imp λh=>by omega)
 have:=ajF h.t hn
 rw[List.map_map]at this
 have e:(qA f p).length=(p.map λn=>(wQ f n).length).sum:=by
  unfold qA
  rw[List.length_flatMap]
 rw[e]
 refine Nat.le_trans (Nat.le_of_eq ?_) this
 congr 1
 refine List.map_congr_left λn _=>?_
 simp[wQ]
theorem ae5{r:Int}(h:r∈ids (aW f)):0≤iD f r:=by
 rcases nh f r with⟨_,h2⟩|⟨a,n,b,_,h2,_⟩
 ·exfalso
  unfold ids aW at h
  simp only[List.map_map]at h
  obtain⟨n,hn,e⟩:=List.mem_map.1 h
  exact h2 n hn e
 ·omega
theorem adB(h:Vf f){n:aO}(hn:n∈f.aA){m:aR}(hm:m∈wQ f n):0≤iD f m.cD∧0≤iD f m.To∧m.cD≠m.To∧Vd m.Database:=by
 obtain⟨x,hx,rfl⟩:=List.mem_map.1 hm
 have ha:=(iF h.t).1 hx
 exact⟨ae5 (qz hn),ae5 (tQ h.t ha),aeJ h.t ha,(h.n n hn).2.2⟩
theorem ab3(h:Vf f){q:List aO}(hL:f.aA=p++q):Vf (aj.mk f.Links f.aA (qA f p)):=by
 have hl:=adA h hL
 refine⟨h.t,by show(qA f p).length≤400;omega,h.n,λm hm=>?_⟩
 have hm:m∈qA f p:=hm
 obtain⟨n,hn,hm⟩:=List.mem_flatMap.1 hm
 exact adB h (by rw[hL];simp[hn]) hm
theorem agZ(h:Vf f)(hM:f.aq=[]):gb (aK.mk f)=some (aK.mk (aj.mk f.Links f.aA (qA f f.aA))):=by
 unfold gb
 refine atu (G:=λo=>o=some (aK.mk (aj.mk f.Links f.aA (qA f f.aA)))) (λp (s:List aV×List aO×List aR)=>s=(f.Links,f.aA,qA f p)) ?_ _ (by rw[hM];rfl) (λs hs=>by rw[hs])
 rintro p n q s Z hL rfl hZ
 have hl:=adA h (p:=p) (q:=n::q) hL
 simp only
 rw[afW h hL (qA f p) (by omega),aL]
 exact hZ _ (by simp[qA])
end Go.Proofs.YtjdopimopgpagaaGreat
namespace Go.Proofs.YtjdopimopgpagaaGreat
set_option linter.all false
open Go
theorem filter_lt{α:Type}{p q:α→Bool}:∀{l:List α},(∀x∈l,p x=true→q x=true)→∀{a:α},a∈l→p a=false→q a=true→(l.filter p).length<(l.filter q).length
 |[],_,a,ha,_,_=>by cases ha
 |b::l,h,a,ha,h1,h2=>by
  have le:∀{l:List α},(∀x∈l,p x=true→q x=true)→(l.filter p).length≤(l.filter q).length:=λ{l}=>by
   induction l with
   |nil=>intro _;simp
   |cons c l ih=>
    intro hl
    have:=ih λx hx=>hl x (by simp[hx])
    cases hp:p c
    ·rw[List.filter_cons_of_neg (by simp[hp])]
     cases hq:q c
     ·rw[List.filter_cons_of_neg (by simp[hq])];exact this
     ·rw[List.filter_cons_of_pos hq,List.length_cons];omega
    ·rw[List.filter_cons_of_pos hp,List.filter_cons_of_pos (hl c (by simp) hp),List.length_cons,List.length_cons];omega
  have hr:∀x∈l,p x=true→q x=true:=λx hx=>h x (by simp[hx])
  have hle:=le hr
  rcases List.mem_cons.1 ha with e|ha
  ·subst e
   rw[List.filter_cons_of_neg (by simp[h1]),List.filter_cons_of_pos h2,List.length_cons];omega
  ·have ih:=filter_lt hr ha h1 h2
   cases hp:p b
   ·rw[List.filter_cons_of_neg (by simp[hp])]
    cases hq:q b
    ·rw[List.filter_cons_of_neg (by simp[hq])];exact ih
    ·rw[List.filter_cons_of_pos hq,List.length_cons];omega
   ·rw[List.filter_cons_of_pos hp,List.filter_cons_of_pos (h b (by simp) hp),List.length_cons,List.length_cons];omega
theorem am9{T:aB}{Q:Int→Prop}{a b:Int}(h:Cn T [] a b)(ha:Q a)(hb:¬Q b):∃x y,Cn T [] a x∧Q x∧fV T x y=true∧¬Q y:=by
 induction h with
 |refl _=>exact absurd ha hb
 |@step x y hx hxy _ ih=>
  by_cases hq:Q x
  ·exact⟨x,y,hx,hq,hxy,hb⟩
  ·exact ih hq
theorem spread{T:aB}(hv:Vt T)(P:Nat→Int→Prop)(h1:∀k i,P k i→P (k+1) i)(h2:∀k i j,P k i→fV T i j=true→P (k+1) j){i0:Int}(hi:i0∈ids T)(h0:P 0 i0):∀j,Cn T [] i0 j→P (ids T).length j:=by
 classical
 have hm:∀k,P k i0:=λk=>by
  induction k with
  |zero=>exact h0
  |succ k ih=>exact h1 k _ ih
 have key:∀k,(∀j,Cn T [] i0 j→P k j)∨k+1≤((ids T).filter λi=>decide (P k i)).length:=λk=>by
  induction k with
  |zero=>
   right
   exact List.length_pos_iff.2 (List.ne_nil_of_mem (List.mem_filter.2 ⟨hi,by simpa using h0⟩))
  |succ k ih=>
   rcases ih with ih|ih
   ·exact .inl λj hj=>h1 k j (ih j hj)
   ·by_cases hall:∀j,Cn T [] i0 j→P k j
    ·exact .inl λj hj=>h1 k j (hall j hj)
    ·right
     obtain⟨j,hj⟩:=Classical.not_forall.1 hall
     obtain⟨hj1,hj2⟩:=Classical.not_imp.1 hj
     obtain⟨x,y,hx,hxp,hxy,hyp⟩:=am9 (Q:=P k) hj1 (hm k) hj2
     have hy:y∈ids T:=tQ hv hxy
     have:=filter_lt (l:=ids T) (p:=λi=>decide (P k i)) (q:=λi=>decide (P (k+1) i)) (λz _ hz=>by
      have hz:P k z:=by simpa using hz
      simpa using h1 k z hz) hy (by simpa using hyp) (by simpa using h2 k x y hxp hxy)
     omega
 intro j hj
 rcases key (ids T).length with h|h
 ·exact h j hj
 ·have:=List.length_filter_le (λi=>decide (P (ids T).length i)) (ids T)
  omega
end Go.Proofs.YtjdopimopgpagaaGreat
namespace Go.Proofs.YtjdopimopgpagaaGreat
set_option linter.all false
open Go
noncomputable def wk(f:aj)(n:aO)(x:aR):aO:=match look (iz n.Database x.Database) n.af with
 |some a=>@ite _ ((n.Seq≠0∧a=ofA (aW f) n.af n.Seq n.Claims)∨1000000≤a.Seq) (Classical.propDecidable _) (aO.mk n.af n.Seq n.aY n.Claims (iz n.Database x.Database)) (oN f (aO.mk n.af (a.Seq+1) n.aY n.Claims (iz n.Database x.Database)))
 |none=>aO.mk n.af n.Seq n.aY n.Claims (iz n.Database x.Database)
variable {f:aj}{q:List aR}{x:aR}
theorem ah6(h:Vf f)(hL:f.aq=x::q):Vf (gI f)∧(gI f).aq=q:=
 ⟨(rT h hL).2.2.1,(rT h hL).2.2.2⟩
theorem aqm(h:Vf f)(hL:f.aq=x::q):(fV (aW f) x.cD x.To=false→gI f=gf f [] q)∧(fV (aW f) x.cD x.To=true→∃a n b,f.aA=a++n::b∧n.af=x.To∧gI f=dP (gf f [] q) a (wk f n x) b):=by
 have hx:x∈f.aq:=by rw[hL];simp
 have h1:=h.drop (p:=[]) hL
 obtain⟨g1,g2,g3,g4⟩:=h.g x hx
 have aqg:=h.len
 have ht:aW (gf f [] q)=aW f:=rfl
 have hA:=(rT h hL).2.1
 unfold oe at hA
 rw[uD h1.sm,aL]at hA
 simp only[ht,wJ,aL]at hA
 have hp:(o9 (aW f) x.cD x.To).2=fV (aW f) x.cD x.To:=adj _ _ _
 rw[hp]at hA
 constructor
 ·intro hc
  rw[hc,Bool.not_false,cond_true]at hA
  exact(some_inj hA).symm
 ·intro hc
  rw[hc,Bool.not_true,cond_false]at hA
  simp only[wN,aL]at hA
  have hi:iD (gf f [] q) x.To=iD f x.To:=rfl
  rw[hi]at hA
  rcases nh f x.To with⟨h2,_⟩|⟨a,n,b,hN,h2,h3⟩
  ·omega
  ·have hn:n∈f.aA:=by rw[hN];simp
   have hno:=h.n n hn
   refine⟨a,n,b,hN,h3,?_⟩
   have ajD:elO (gf f [] q).aA (a.length:Int)=some n:=by show elO f.aA _=_;rw[hN];exact iy a n b
   have hN1:(gf f [] q).aA=a++n::b:=hN
   have hvd:=hno.2.2.merge g4
   simp only[h2,ajD,aL,aaE,jL.2 hno.2.2,jL.2 g4,and_self,if_true]at hA
   rw[yH hN1 (by show f.aA.length≤_;omega),aL]at hA
   unfold wk
   generalize hd1:iz n.Database x.Database=d1 at hvd hA ⊢
   have hV2:Vf (dP (gf f [] q) a (aO.mk n.af n.Seq n.aY n.Claims d1) b):=h1.dP hN1 rfl rfl ⟨hno.1,hno.2.1,hvd⟩
   generalize hf2:dP (gf f [] q) a (aO.mk n.af n.Seq n.aY n.Claims d1) b=f2 at hV2 hA
   have hN2:f2.aA=a++aO.mk n.af n.Seq n.aY n.Claims d1::b:=by rw[←hf2];rfl
   have et2:aW f2=aW f:=by rw[←hf2];exact kN hN1 rfl rfl
   simp only[yw,aL,wO hV2 hN2,←h3,jn,abX]at hA
   unfold look
   rcases lR d1 n.af with⟨ha,hha,_,hfa⟩|⟨_,hfa⟩
   ·rw[hfa]at hA ⊢
    have hav:=hvd.ok ha hha
    have ajn:1≤ha.Seq∧ha.Seq≤1000000:=by
     simp only[cc,inB,Bool.and_eq_true,decide_eq_true_eq]at hav;omega
    simp only[cond_true,Bool.not_true,cond_false]at hA ⊢
    rw[cw (n:=ha.Seq+1) (by omega) (by omega)]at hA
    have e1:(decide ((1000000:Int)<ha.Seq+1))=decide (1000000≤ha.Seq):=decide_eq_decide.2 (by omega)
    rw[e1]at hA
    have aqn:ha.Seq<1000000→mI f2 (a.length:Int) (ha.Seq+1)=some (dP (gf f [] q) a (oN f (aO.mk n.af (ha.Seq+1) n.aY n.Claims d1)) b):=λhlt=>by
     rw[aaF hV2 hN2 (by omega)]
     rw[←hf2,uF]
     unfold oN
     rw[hf2,et2]
    have own2:oM f2 (aO.mk n.af n.Seq n.aY n.Claims d1) n.Seq=(bif inB n.Seq 1 1000000 then(ofA (aW f) n.af n.Seq n.Claims,true)else(noA,false)):=by
     unfold oM;rw[et2]
    rw[own2]at hA
    by_cases hs0:n.Seq=0
    ·by_cases hlt:1000000≤ha.Seq
     ·rw[if_pos (.inr hlt)]
      simp only[hs0,Int.lt_irrefl,decide_false,decide_true,cond_false,cond_true,hlt]at hA
      have:=some_inj hA
      rw[←this,←hf2]
     ·rw[if_neg (by rintro(⟨h5,_⟩|h5);exact h5 hs0;exact hlt h5)]
      simp only[hs0,Int.lt_irrefl,decide_false,decide_true,cond_false,cond_true,hlt]at hA
      rw[aqn (by omega),aL]at hA
      exact(some_inj hA).symm
    ·have e2:0<n.Seq:=by have:=hno.1.1;omega
     have e3:inB n.Seq 1 1000000=true:=by have:=hno.1.2;simp[inB];omega
     rw[e3]at hA
     simp only[e2,decide_true,cond_true]at hA
     by_cases hsame:ha=ofA (aW f) n.af n.Seq n.Claims
     ·rw[if_pos (.inl ⟨hs0,hsame⟩)]
      rw[(uE _ _).2 hsame]at hA
      simp only[cond_true]at hA
      have:=some_inj hA
      rw[←this,←hf2]
     ·have hns:nP ha (ofA (aW f) n.af n.Seq n.Claims)=false:=by
       cases hq:nP ha (ofA (aW f) n.af n.Seq n.Claims)
       ·rfl
       ·exact absurd ((uE _ _).1 hq) hsame
      rw[hns]at hA
      by_cases hlt:1000000≤ha.Seq
      ·rw[if_pos (.inr hlt)]
       simp only[hlt,decide_true,cond_true,cond_false]at hA
       have:=some_inj hA
       rw[←this,←hf2]
      ·rw[if_neg (by rintro(⟨_,h5⟩|h5);exact hsame h5;exact hlt h5)]
       simp only[hlt,decide_false,cond_false]at hA
       rw[aqn (by omega),aL]at hA
       exact(some_inj hA).symm
   ·rw[hfa]at hA ⊢
    simp only[Bool.not_false,cond_true,cond_false]at hA ⊢
    have:=some_inj hA
    rw[←this,←hf2]
theorem ajG(hf:Vf f):gY f=some (fK (aj.mk (fK f).Links (fK f).aA (qA (fK f) (fK f).aA)),0):=by
 unfold gY
 rw[lB hf.sm,ni.2 hf]
 obtain⟨h1,h2⟩:=uG hf
 have h3:=ab3 h1 (p:=(fK f).aA) (q:=[]) (by simp)
 simp only[aL,cond_true,decide_true,Bool.not_true,cond_false,abt hf,ae3 hf,agZ h1 h2,ae3 h3]
end Go.Proofs.YtjdopimopgpagaaGreat
namespace Go.Proofs.YtjdopimopgpagaaGreat
set_option linter.all false
open Go
def leO(o p:Option ai):Prop:=match o,p with|none,_=>True|some _,none=>False|some x,some y=>iK x y=false
theorem qm(o:Option ai):leO o o:=by cases o with|none=>trivial|some x=>exact pG x
variable {o p q:Option ai}
theorem qn(h1:leO o p)(h2:leO p q):leO o q:=by
 cases o with
 |none=>trivial
 |some x=>
  cases p with
  |none=>cases h1
  |some y=>
   cases q with
   |none=>cases h2
   |some z=>exact aaD h1 h2
def okO(o:Option ai):Prop:=∀a,o=some a→cc a=true
theorem ae6(ho:okO o)(hp:okO p)(h1:leO o p)(h2:leO p o):o=p:=by
 cases o with
 |none=>
  cases p with
  |none=>rfl
  |some y=>cases h2
 |some x=>
  cases p with
  |none=>cases h1
  |some y=>rw[ajx (ho x rfl) (hp y rfl) h1 h2]
theorem akU(o p:Option ai):leO o (mxO o p):=by
 cases o with
 |none=>trivial
 |some x=>
  cases p with
  |none=>exact pG x
  |some y=>
   show iK x (mxA x y)=false
   unfold mxA
   cases h:iK y x
   ·exact pG x
   ·exact ta h
theorem ag0(o p:Option ai):leO p (mxO o p):=by
 cases p with
 |none=>trivial
 |some y=>
  cases o with
  |none=>exact pG y
  |some x=>
   show iK y (mxA x y)=false
   unfold mxA
   cases h:iK y x
   ·exact h
   ·exact pG y
theorem ab4(o p:Option ai):mxO o p=o∨mxO o p=p:=by
 cases o with
 |none=>exact .inr rfl
 |some x=>
  cases p with
  |none=>exact .inl rfl
  |some y=>
   show some (mxA x y)=some x∨some (mxA x y)=some y
   unfold mxA
   cases iK y x
   ·exact .inl rfl
   ·exact .inr rfl
theorem aqo(h1:leO o q)(h2:leO p q):leO (mxO o p) q:=by
 rcases ab4 o p with h|h<;>rw[h]<;>assumption
variable {a b:ai}
theorem ajJ(h:b.Seq<a.Seq):iK a b=true:=by simp[iK,h]
theorem aqp(h:iK a b=false):a.Seq≤b.Seq:=by
 simp only[iK,Bool.or_eq_false_iff,decide_eq_false_iff_not]at h
 omega
def yJ(f:aj)(i:Int):Option aO:=f.aA.find? λn=>decide (n.af=i)
noncomputable def lkF(f:aj)(i s:Int):Option ai:=match yJ f i with|some n=>look n.Database s|none=>none
variable {f:aj}{i:Int}
theorem nj(h:Vf f){n:aO}:yJ f i=some n↔n∈f.aA∧n.af=i:=by
 constructor
 ·intro hf
  exact⟨List.mem_of_find?_eq_some hf,by simpa using List.find?_some hf⟩
 ·rintro⟨h1,h2⟩
  have zB:=h.asc
  have:∀l:List aO,l.Pairwise (λa b=>a.af<b.af)→n∈l→l.find? (λn=>decide (n.af=i))=some n:=λl=>by
   induction l with
   |nil=>intro _ h;cases h
   |cons b l ih=>
    intro hp hm
    rw[List.pairwise_cons]at hp
    rcases List.mem_cons.1 hm with e|hm
    ·subst e;rw[List.find?_cons_of_pos (by simpa using h2)]
    ·have:=hp.1 n hm
     rw[List.find?_cons_of_neg (by simp;omega),ih hp.2 hm]
  exact this _ zB h1
theorem qB(h:Vf f){n:aO}(hn:n∈f.aA)(s:Int):lkF f n.af s=look n.Database s:=by
 unfold lkF
 rw[(nj h).2 ⟨hn,rfl⟩]
theorem adV(h:Vf f)(i s:Int):okO (lkF f i s):=by
 intro a ha
 unfold lkF at ha
 cases hn:yJ f i with
 |none=>rw[hn]at ha;cases ha
 |some n=>
  rw[hn]at ha
  obtain⟨h1,_⟩:=(nj h).1 hn
  have hd:=(h.n n h1).2.2
  exact hd.ok a ((fC hd).1 ha).1
theorem ae7(h:Vf f){n m:aO}(hn:n∈f.aA)(hm:m∈f.aA)(he:n.af=m.af):n=m:=by
 have h1:=(nj h (i:=m.af)).2 ⟨hn,he⟩
 have h2:=(nj h (i:=m.af)).2 ⟨hm,rfl⟩
 rw[h1]at h2
 exact Option.some.inj h2
theorem afY(hi:i∈ids (aW f)):∃n∈f.aA,n.af=i:=by
 simp only[ids,aW,List.map_map,List.mem_map]at hi
 obtain⟨n,hn,h⟩:=hi
 exact⟨n,hn,h⟩
noncomputable def oO(f:aj)(n:aO):ai:=ofA (aW f) n.af n.Seq n.Claims
def Old(B:Int)(f:aj)(a:ai):Prop:=a.Seq≤B∨∃n∈f.aA,a=ofA (aW f) n.af a.Seq n.Claims∧a.Seq≤n.Seq
structure Rdy(B:Int)(f:aj):Prop where
 bd:0≤B∧B≤900000
 v:Vf f
 own:∀n∈f.aA,1≤n.Seq∧n.Seq≤B+1∧look n.Database n.af=some (oO f n)
 old:∀n∈f.aA,∀s a,look n.Database s=some a→Old B f a
 mol:∀m∈f.aq,∀s a,look m.Database s=some a→Old B f a
variable {B:Int}
theorem Rdy.atD(h:Rdy B f){n:aO}(hn:n∈f.aA):lkF f n.af n.af=some (oO f n):=by
 rw[qB h.v hn];exact(h.own n hn).2.2
structure Dl(B:Int)(f g:aj)(x:aR):Prop where
 rd:Rdy B g
 top:aW g=aW f
 len:g.aA.length=f.aA.length
 far:∀i s,i≠x.To→lkF g i s=lkF f i s
 off:fV (aW f) x.cD x.To=false→∀i s,lkF g i s=lkF f i s
 on:fV (aW f) x.cD x.To=true→∀s,s≠x.To→lkF g x.To s=mxO (lkF f x.To s) (look x.Database s)
 self:fV (aW f) x.cD x.To=true→leO (look x.Database x.To) (lkF f x.To x.To)→lkF g x.To x.To=lkF f x.To x.To
 bump:fV (aW f) x.cD x.To=true→leO (lkF f x.To x.To) (lkF g x.To x.To)∧leO (look x.Database x.To) (lkF g x.To x.To)
theorem zH(h:Rdy B f){x:aR}{q:List aR}(hL:f.aq=x::q):Dl B f (gI f) x∧(gI f).aq=q:=by
 obtain⟨hv1,hm1⟩:=ah6 h.v hL
 have hbd:=h.bd
 obtain⟨d1,d2⟩:=aqm h.v hL
 have hx:x∈f.aq:=by rw[hL];simp
 obtain⟨_,_,_,hxd⟩:=h.v.g x hx
 refine⟨?_,hm1⟩
 cases hc:fV (aW f) x.cD x.To
 ·have e:=d1 hc
  have ht:aW (gf f [] q)=aW f:=rfl
  have hlk:∀i s,lkF (gf f [] q) i s=lkF f i s:=λi s=>rfl
  rw[e]at hv1 ⊢
  refine⟨⟨h.bd,hv1,h.own,h.old,λm hm=>h.mol m (by rw[hL];exact List.mem_cons_of_mem _ hm)⟩,rfl,rfl,λi s _=>rfl,λ_ i s=>rfl,λhh=>?_,λhh=>?_,λhh=>?_⟩<;>rw[hc]at hh<;>cases hh
 ·obtain⟨a,n,b,hN,hnr,e⟩:=d2 hc
  have hn:n∈f.aA:=by rw[hN];simp
  obtain⟨o1,o2,o3⟩:=h.own n hn
  have hnd:=(h.v.n n hn).2.2
  have hD:Vd (iz n.Database x.Database):=hnd.merge hxd
  have acX:∀s,look (iz n.Database x.Database) s=mxO (look n.Database s) (look x.Database s):=λs=>am6 hnd hxd s
  have aqq:look (iz n.Database x.Database) n.af=some (oO f n)∨∃y,look x.Database n.af=some y∧look (iz n.Database x.Database) n.af=some y∧iK y (oO f n)=true:=by
   rw[acX,o3]
   cases hy:look x.Database n.af with
   |none=>exact .inl rfl
   |some y=>
    show some (mxA (oO f n) y)=_∨_
    unfold mxA
    cases hv:iK y (oO f n)
    ·exact .inl rfl
    ·exact .inr ⟨y,rfl,by show some (mxA (oO f n) y)=some y;unfold mxA;rw[hv];rfl,hv⟩
  have gen:∀(n':aO),wk f n x=n'→n'.af=n.af→n'.aY=n.aY→n'.Claims=n.Claims→n.Seq≤n'.Seq→n'.Seq≤B+1→look n'.Database n.af=some (ofA (aW f) n.af n'.Seq n.Claims)→
    (∀s,s≠n.af→look n'.Database s=mxO (look n.Database s) (look x.Database s))→
    Rdy B (gI f)∧aW (gI f)=aW f∧(gI f).aA.length=f.aA.length∧(∀i s,i≠x.To→lkF (gI f) i s=lkF f i s)∧∀s,lkF (gI f) x.To s=look n'.Database s:=by
   intro n' hh r1 r2 r3 r4 r5 r6 r7
   rw[hh]at e
   have hN1:(gf f [] q).aA=a++n::b:=hN
   have zI:aW (gI f)=aW f:=by rw[e];exact kN hN1 r1 r2
   have ah7:(gI f).aA=a++n'::b:=by rw[e];rfl
   have hin:∀m,m∈(gI f).aA↔m=n'∨(m∈f.aA∧m.af≠n.af):=λm=>by
    rw[ah7]
    have zB:=h.v.asc
    rw[hN]at zB
    obtain⟨p1,p2,p3⟩:=List.pairwise_append.1 zB
    rw[List.pairwise_cons]at p2
    simp only[List.mem_append,List.mem_cons]
    rw[hN]
    simp only[List.mem_append,List.mem_cons]
    constructor
    ·rintro(hm|hm|hm)
     ·exact .inr ⟨.inl hm,by have:=p3 m hm n (by simp);omega⟩
     ·exact .inl hm
     ·exact .inr ⟨.inr (.inr hm),by have:=p2.1 m hm;omega⟩
    ·rintro(hm|⟨hm|hm|hm,hr⟩)
     ·exact .inr (.inl hm)
     ·exact .inl hm
     ·rw[hm]at hr;exact absurd rfl hr
     ·exact .inr (.inr hm)
   have hold:∀y,Old B f y→Old B (gI f) y:=λy hy=>by
    rcases hy with hy|⟨m,hm,hy1,hy2⟩
    ·exact .inl hy
    ·right
     by_cases hr:m.af=n.af
     ·have:=ae7 h.v hm hn hr
      subst this
      exact⟨n',(hin n').2 (.inl rfl),by rw[zI,r1,r3];exact hy1,by omega⟩
     ·exact⟨m,(hin m).2 (.inr ⟨hm,hr⟩),by rw[zI];exact hy1,hy2⟩
   have hn'd:Vd n'.Database:=(hv1.n n' ((hin n').2 (.inl rfl))).2.2
   refine⟨⟨h.bd,hv1,λm hm=>?_,λm hm s y hy=>?_,λm hm s y hy=>?_⟩,zI,by rw[ah7,hN];simp,λi s hi=>?_,λs=>?_⟩
   ·rcases(hin m).1 hm with rfl|⟨hm,_⟩
    ·refine⟨by omega,r5,?_⟩
     unfold oO
     rw[zI,r1,r3];exact r6
    ·obtain⟨q1,q2,q3⟩:=h.own m hm
     refine⟨q1,q2,?_⟩
     unfold oO
     rw[zI];exact q3
   ·rcases(hin m).1 hm with rfl|⟨hm,_⟩
    ·by_cases hs:s=n.af
     ·rw[hs,r6]at hy
      have:=Option.some.inj hy
      subst this
      exact .inr ⟨m,hm,by rw[zI,r1,r3];rfl,by show m.Seq≤m.Seq;omega⟩
     ·rw[r7 s hs]at hy
      rcases ab4 (look n.Database s) (look x.Database s)with h1|h1
      ·rw[h1]at hy;exact hold y (h.old n hn s y hy)
      ·rw[h1]at hy;exact hold y (h.mol x hx s y hy)
    ·exact hold y (h.old m hm s y hy)
   ·rw[hm1]at hm
    exact hold y (h.mol m (by rw[hL];exact List.mem_cons_of_mem _ hm) s y hy)
   ·have:yJ (gI f) i=yJ f i:=by
     cases hq:yJ f i with
     |some m=>
      obtain⟨m1,m2⟩:=(nj h.v).1 hq
      exact(nj hv1).2 ⟨(hin m).2 (.inr ⟨m1,by rw[m2,hnr];exact hi⟩),m2⟩
     |none=>
      cases hq2:yJ (gI f) i with
      |none=>rfl
      |some m=>
       exfalso
       obtain⟨m1,m2⟩:=(nj hv1).1 hq2
       rcases(hin m).1 m1 with rfl|⟨m3,_⟩
       ·rw[r1,hnr]at m2;exact hi m2.symm
       ·rw[(nj h.v).2 ⟨m3,m2⟩]at hq;cases hq
    unfold lkF
    rw[this]
   ·have:=qB hv1 ((hin n').2 (.inl rfl)) s
    rw[r1,hnr]at this;exact this
  have acY:∀s,lkF f x.To s=look n.Database s:=λs=>by rw[←hnr];exact qB h.v hn s
  have aqr:fV (aW f) x.cD x.To=false→∀i s,lkF (gI f) i s=lkF f i s:=λhh=>by rw[hc]at hh;cases hh
  rcases aqq with hme|⟨y,hy1,hy2,hy3⟩
  ·have hh:wk f n x=aO.mk n.af n.Seq n.aY n.Claims (iz n.Database x.Database):=by
    unfold wk
    rw[hme]
    exact if_pos (.inl ⟨by omega,rfl⟩)
   obtain⟨g1,g2,g3,g4,g5⟩:=gen _ hh rfl rfl rfl (Int.le_refl _) o2 hme λs _=>acX s
   have hsame:lkF (gI f) x.To x.To=lkF f x.To x.To:=by
    rw[g5,acY,←hnr]
    exact hme.trans o3.symm
   refine⟨g1,g2,g3,g4,aqr,λ_ s hs=>by rw[g5,acY];exact acX s,λ_ _=>hsame,λ_=>?_⟩
   rw[hsame]
   refine⟨qm _,?_⟩
   have h1:=ag0 (look n.Database n.af) (look x.Database n.af)
   rw[←acX,hme,←o3,hnr,←acY]at h1
   exact h1
  ·have hyv:cc y=true:=hxd.ok y ((fC hxd).1 hy1).1
   have hyr:y.af=n.af:=((fC hxd).1 hy1).2
   have hne:y≠oO f n:=λhe=>by rw[he,pG]at hy3;cases hy3
   have hge:n.Seq≤y.Seq:=by
    have:=aqp (ta hy3)
    exact this
   have hys:y.Seq≤B:=by
    rcases h.mol x hx _ _ hy1 with h1|⟨m,hm,h1,h2⟩
    ·exact h1
    ·exfalso
     have hmr:m.af=n.af:=by rw[←hyr,h1];rfl
     have:=ae7 h.v hm hn hmr
     subst this
     have hsq:y.Seq=m.Seq:=by omega
     rw[hsq]at h1
     exact hne h1
   have hV2:cc (ofA (aW f) n.af (y.Seq+1) n.Claims)=true:=xL h.v hn (by omega)
   have hh:wk f n x=oN f (aO.mk n.af (y.Seq+1) n.aY n.Claims (iz n.Database x.Database)):=by
    unfold wk
    rw[hy2]
    refine if_neg ?_
    rintro(⟨_,h1⟩|h1)
    ·exact hne h1
    ·omega
   have hlp:∀s,look (oN f (aO.mk n.af (y.Seq+1) n.aY n.Claims (iz n.Database x.Database))).Database s=if s=n.af then some (mx (look (iz n.Database x.Database) s) (ofA (aW f) n.af (y.Seq+1) n.Claims))else look (iz n.Database x.Database) s:=λs=>abp hD hV2 s
   have hnew:iK (ofA (aW f) n.af (y.Seq+1) n.Claims) y=true:=ajJ (by show y.Seq<y.Seq+1;omega)
   have hown:look (oN f (aO.mk n.af (y.Seq+1) n.aY n.Claims (iz n.Database x.Database))).Database n.af=some (ofA (aW f) n.af (y.Seq+1) n.Claims):=by
    rw[hlp,if_pos rfl,hy2]
    have hnw:lG (ofA (aW f) n.af (y.Seq+1) n.Claims) y=true:=by
     unfold lG
     rw[hV2,hyv,hnew,hyr]
     simp[ofA]
    show some (bif lG (ofA (aW f) n.af (y.Seq+1) n.Claims) y then _ else y)=_
    rw[hnw];rfl
   obtain⟨g1,g2,g3,g4,g5⟩:=gen _ hh rfl rfl rfl (by show n.Seq≤y.Seq+1;omega) (by show y.Seq+1≤B+1;omega) hown λs hs=>by rw[hlp,if_neg hs];exact acX s
   refine⟨g1,g2,g3,g4,aqr,λ_ s hs=>by rw[g5,hlp,if_neg (by rw[hnr];exact hs),acY];exact acX s,λ_ hle=>?_,λ_=>?_⟩
   ·exfalso
    rw[acY,←hnr,hy1,o3]at hle
    have hle:iK y (oO f n)=false:=hle
    rw[hy3]at hle;cases hle
   ·rw[g5,acY,←hnr,hown,hy1,o3]
    constructor
    ·exact aaD (ta hy3) (ta hnew)
    ·exact ta hnew
end Go.Proofs.YtjdopimopgpagaaGreat
namespace Go.Proofs.YtjdopimopgpagaaGreat
set_option linter.all false
open Go
variable {B:Int}
section
variable {f g:aj}{x:aR}
theorem Dl.mono(h:Dl B f g x)(i s:Int):leO (lkF f i s) (lkF g i s):=by
 by_cases hi:i=x.To
 ·cases hc:fV (aW f) x.cD x.To
  ·rw[h.off hc];exact qm _
  ·by_cases hs:s=x.To
   ·rw[hi,hs];exact(h.bump hc).1
   ·rw[hi,h.on hc s hs];exact akU _ _
 ·rw[h.far i s hi];exact qm _
theorem Dl.uH(h:Dl B f g x)(hc:fV (aW f) x.cD x.To=true)(s:Int):leO (look x.Database s) (lkF g x.To s):=by
 by_cases hs:s=x.To
 ·rw[hs];exact(h.bump hc).2
 ·rw[h.on hc s hs];exact ag0 _ _
end
theorem zJ(I:aj→Prop)(hI:∀f x q,Rdy B f→f.aq=x::q→Dl B f (gI f) x→(gI f).aq=q→I f→I (gI f)):∀(n:Nat) (f:aj),Rdy B f→f.aq.length=n→I f→Rdy B (drN n f)∧I (drN n f)
 |0,f,h,_,hi=>⟨h,hi⟩
 |n+1,f,h,hn,hi=>by
  cases hL:f.aq with
  |nil=>rw[hL]at hn;simp at hn
  |cons x q=>
   obtain⟨h1,h2⟩:=zH h hL
   refine zJ I hI n (gI f) h1.rd ?_ (hI f x q h hL h1 h2 hi)
   rw[h2];rw[hL]at hn;simpa using hn
theorem rz{f:aj}(h:Rdy B f)(I:aj→Prop)(hI:∀f x q,Rdy B f→f.aq=x::q→Dl B f (gI f) x→(gI f).aq=q→I f→I (gI f))(hi:I f):I (fK f):=(zJ I hI _ f h rfl hi).2
theorem abu{f:aj}(h:Rdy B f):Rdy B (fK f):=(zJ (λ_=>True) (λ_ _ _ _ _ _ _ _=>trivial) _ f h rfl trivial).1
theorem adC{f:aj}(h:Rdy B f):aW (fK f)=aW f:=rz h (λg=>aW g=aW f) (λ_ _ _ _ _ d _ hi=>by rw[d.top];exact hi) rfl
theorem ag3{f:aj}(h:Rdy B f)(i s:Int):leO (lkF f i s) (lkF (fK f) i s):=rz h (λg=>leO (lkF f i s) (lkF g i s)) (λ_ _ _ _ _ d _ hi=>qn hi (d.mono i s)) (qm _)
theorem ag4{f:aj}(h:Rdy B f){m:aR}(hm:m∈f.aq)(hc:fV (aW f) m.cD m.To=true)(s:Int):leO (look m.Database s) (lkF (fK f) m.To s):=by
 have:=rz h (λg=>aW g=aW f∧(m∈g.aq∨leO (look m.Database s) (lkF g m.To s))) (λg x q _ hL d hq hi=>by
  refine⟨by rw[d.top];exact hi.1,?_⟩
  rcases hi.2 with h1|h1
  ·rw[hL]at h1
   rcases List.mem_cons.1 h1 with h1|h1
   ·subst h1
    right
    exact d.uH (by rw[hi.1];exact hc) s
   ·left;rw[hq];exact h1
  ·exact .inr (qn h1 (d.mono _ _))) ⟨rfl,.inl hm⟩
 rcases this.2 with h1|h1
 ·rw[(uG h.v).2]at h1;cases h1
 ·exact h1
structure Bd(T:aB)(c s:Int)(W:Option ai)(f:aj):Prop where
 t:aW f=T
 n:∀i,Cn T [] c i→leO (lkF f i s) W
 m:∀m∈f.aq,Cn T [] c m.cD→leO (look m.Database s) W
 o:Cn T [] c s→lkF f s s=W
theorem Bd.step{T:aB}{c s:Int}{W:Option ai}{f g:aj}{x:aR}{q:List aR}(h:Bd T c s W f)(hL:f.aq=x::q)(d:Dl B f g x)(hq:g.aq=q):Bd T c s W g:=by
 have hx:x∈f.aq:=by rw[hL];simp
 have key:∀i,Cn T [] c i→leO (lkF g i s) W∧(i=s→lkF g i s=W):=λi hi=>by
  by_cases hix:i=x.To
  ·cases hc:fV (aW f) x.cD x.To
   ·rw[d.off hc];exact⟨h.n i hi,λhe=>by rw[he];exact h.o (by rw[←he];exact hi)⟩
   ·have hf:Cn T [] c x.cD:=by
     rw[h.t]at hc
     exact .step hi (by rw[hix];exact vU hc) (by simp)
    by_cases hs:s=x.To
    ·have hcs:Cn T [] c s:=by rw[hs,←hix];exact hi
     have hle:leO (look x.Database x.To) (lkF f x.To x.To):=by
      rw[←hs,h.o hcs];exact h.m x hx hf
     have:lkF g i s=W:=by
      rw[hix,hs,d.self hc hle,←hs];exact h.o hcs
     exact⟨by rw[this];exact qm _,λ_=>this⟩
    ·refine⟨?_,λhe=>absurd (he.symm.trans hix) hs⟩
     rw[hix,d.on hc s hs]
     exact aqo (h.n _ (by rw[←hix];exact hi)) (h.m x hx hf)
  ·rw[d.far i s hix];exact⟨h.n i hi,λhe=>by rw[he];exact h.o (by rw[←he];exact hi)⟩
 exact⟨by rw[d.top];exact h.t,λi hi=>(key i hi).1,λm hm hc=>h.m m (by rw[hL];rw[hq]at hm;exact List.mem_cons_of_mem _ hm) hc,λhcs=>(key s hcs).2 rfl⟩
structure Be(T:aB)(c s:Int)(M:Option ai)(f:aj):Prop where
 t:aW f=T
 n:∀i,Cn T [] c i→leO (lkF f i s) M∨leO (lkF f i s) (lkF f s s)
 m:∀m∈f.aq,Cn T [] c m.cD→leO (look m.Database s) M∨leO (look m.Database s) (lkF f s s)
theorem Be.step{T:aB}{c s:Int}{M:Option ai}{f g:aj}{x:aR}{q:List aR}(h:Be T c s M f)(hL:f.aq=x::q)(d:Dl B f g x)(hq:g.aq=q):Be T c s M g:=by
 have hx:x∈f.aq:=by rw[hL];simp
 have up:∀{o:Option ai},leO o M∨leO o (lkF f s s)→leO o M∨leO o (lkF g s s):=λho=>ho.imp id λh1=>qn h1 (d.mono s s)
 refine⟨by rw[d.top];exact h.t,λi hi=>?_,λm hm hc=>up (h.m m (by rw[hL];rw[hq]at hm;exact List.mem_cons_of_mem _ hm) hc)⟩
 by_cases hix:i=x.To
 ·cases hc:fV (aW f) x.cD x.To
  ·have:=up (h.n i hi)
   rw[d.off hc i s];exact this
  ·have hf:Cn T [] c x.cD:=by
    rw[h.t]at hc
    exact .step hi (by rw[hix];exact vU hc) (by simp)
   by_cases hs:s=x.To
   ·rw[hix,←hs];exact .inr (qm _)
   ·rw[hix,d.on hc s hs]
    rcases ab4 (lkF f x.To s) (look x.Database s)with h1|h1
    ·rw[h1];exact up (h.n _ (by rw[←hix];exact hi))
    ·rw[h1];exact up (h.m x hx hf)
 ·rw[d.far i s hix];exact up (h.n i hi)
def ajK(f:aj):aj:=aj.mk f.Links f.aA (qA f f.aA)
noncomputable def prT(f:aj):aj:=fK (ajK f)
theorem aan{f:aj}{m:aR}(hv:Vf f):m∈(ajK f).aq↔∃n∈f.aA,m.cD=n.af∧m.Database=n.Database∧fV (aW f) n.af m.To=true:=by
 show m∈f.aA.flatMap (wQ f)↔_
 rw[List.mem_flatMap]
 constructor
 ·rintro⟨n,hn,hm⟩
  obtain⟨y,hy,rfl⟩:=List.mem_map.1 hm
  exact⟨n,hn,rfl,rfl,(iF hv.t).1 hy⟩
 ·rintro⟨n,hn,h1,h2,h3⟩
  refine⟨n,hn,List.mem_map.2 ⟨m.To,(iF hv.t).2 h3,?_⟩⟩
  rw[←h1,←h2]
theorem wm{f:aj}(h:Rdy B f):Rdy B (ajK f):=by
 refine⟨h.bd,ab3 h.v (p:=f.aA) (q:=[]) (by simp),h.own,h.old,λm hm s a ha=>?_⟩
 obtain⟨n,hn,_,h2,_⟩:=(aan h.v).1 hm
 rw[h2]at ha
 exact h.old n hn s a ha
theorem atE{f:aj}(h:Rdy B f):Rdy B (prT f):=abu (wm h)
theorem aqs{f:aj}(h:Rdy B f):aW (prT f)=aW f:=(adC (wm h)).trans rfl
theorem ana{f:aj}(h:Rdy B f)(i s:Int):leO (lkF f i s) (lkF (prT f) i s):=ag3 (wm h) i s
theorem anb{f:aj}(h:Rdy B f):(prT f).aq=[]:=(uG (wm h).v).2
theorem anc{f:aj}(h:Rdy B f){i j:Int}(hc:fV (aW f) i j=true)(s:Int):leO (lkF f i s) (lkF (prT f) j s):=by
 obtain⟨n,hn,hni⟩:=afY (tQ h.v.t (vU hc))
 have:=ag4 (wm h) (m:=aR.mk n.af j n.Database) ((aan h.v).2 ⟨n,hn,rfl,rfl,by rw[hni];exact hc⟩) (by show fV (aW f) n.af j=true;rw[hni];exact hc) s
 rw[←hni,qB h.v hn];exact this
variable {T:aB}{W:Option ai}
theorem Bd.round{c s:Int}{f:aj}(hr:Rdy B f)(h:Bd T c s W f):Bd T c s W (prT f):=by
 refine rz (wm hr) (Bd T c s W) (λg x q _ hL d hq hi=>hi.step hL d hq) ⟨h.t,h.n,λm hm hc=>?_,h.o⟩
 obtain⟨n,hn,h1,h2,_⟩:=(aan hr.v).1 hm
 rw[h2,←qB hr.v hn,←h1];exact h.n _ hc
theorem Be.round{c s:Int}{M:Option ai}{f:aj}(hr:Rdy B f)(h:Be T c s M f):Be T c s M (prT f):=by
 refine rz (wm hr) (Be T c s M) (λg x q _ hL d hq hi=>hi.step hL d hq) ⟨h.t,h.n,λm hm hc=>?_⟩
 obtain⟨n,hn,h1,h2,_⟩:=(aan hr.v).1 hm
 rw[h2,←qB hr.v hn,←h1];exact h.n _ hc
noncomputable def itT:Nat→aj→aj
 |0,f=>f
 |k+1,f=>prT (itT k f)
theorem oP{f:aj}(h:Rdy B f):∀k,Rdy B (itT k f)
 |0=>h
 |k+1=>atE (oP h k)
theorem xM{f:aj}(h:Rdy B f):∀k,aW (itT k f)=aW f
 |0=>rfl
 |k+1=>(aqs (oP h k)).trans (xM h k)
theorem ah8(f:aj)(k:Nat):∀l,itT (k+l) f=itT l (itT k f)
 |0=>rfl
 |l+1=>by
  show prT (itT (k+l) f)=prT (itT l (itT k f))
  rw[ah8 f k l]
theorem acZ{f:aj}(h:Rdy B f)(hM:f.aq=[]):∀k,(itT k f).aq=[]
 |0=>hM
 |k+1=>anb (oP h k)
theorem ag5{T:aB}{c s:Int}{W:Option ai}{f:aj}(hr:Rdy B f)(h:Bd T c s W f):∀k,Bd T c s W (itT k f)
 |0=>h
 |k+1=>(ag5 hr h k).round (oP hr k)
theorem akV{T:aB}{c s:Int}{M:Option ai}{f:aj}(hr:Rdy B f)(h:Be T c s M f):∀k,Be T c s M (itT k f)
 |0=>h
 |k+1=>(akV hr h k).round (oP hr k)
theorem zK{f:aj}(h:Rdy B f){i0 s:Int}(hi:i0∈ids (aW f))(h0:leO W (lkF f i0 s)):∀k,(ids (aW f)).length≤k→∀j,Cn (aW f) [] i0 j→leO W (lkF (itT k f) j s):=by
 have h1:∀k j,leO W (lkF (itT k f) j s)→leO W (lkF (itT (k+1) f) j s):=λk j hk=>qn hk (ana (oP h k) j s)
 have base:=spread h.v.t (λk j=>leO W (lkF (itT k f) j s)) h1 (λk i j hk hc=>qn hk (anc (oP h k) (by rw[xM h k];exact hc) s)) hi h0
 intro k hk j hj
 obtain⟨l,rfl⟩:∃l,k=(ids (aW f)).length+l:=⟨k-(ids (aW f)).length,by omega⟩
 clear hk
 induction l with
 |zero=>exact base j hj
 |succ l ih=>exact h1 _ j ih
noncomputable def td:List (Option ai)→Option ai:=List.foldr mxO none
theorem afZ:∀(l:List (Option ai)) (o:Option ai),o∈l→leO o (td l)
 |a::l,o,h=>by
  show leO o (mxO a (td l))
  rcases List.mem_cons.1 h with rfl|h
  ·exact akU _ _
  ·exact qn (afZ l o h) (ag0 _ _)
theorem ac0:∀l:List (Option ai),td l=none∨td l∈l
 |[]=>.inl rfl
 |a::l=>by
  show mxO a (td l)=none∨mxO a (td l)∈a::l
  rcases ab4 a (td l)with h|h
  ·rw[h];exact .inr (by simp)
  ·rw[h]
   rcases ac0 l with h1|h1
   ·exact .inl h1
   ·exact .inr (List.mem_cons_of_mem _ h1)
theorem ae8{f:aj}(h:Rdy B f)(hM:f.aq=[]){c:Int}(hc:c∈ids (aW f)){k:Nat}(hk:2*(ids (aW f)).length≤k){i:Int}(hi:Cn (aW f) [] c i)(s:Int):lkF (itT k f) i s=lkF (itT k f) c s:=by
 classical
 have key:∃V,∀j,Cn (aW f) [] c j→lkF (itT k f) j s=V:=by
  generalize hl:((ids (aW f)).filter λi=>decide (Cn (aW f) [] c i)).map (λi=>lkF f i s)=l
  have hm:∀j,Cn (aW f) [] c j→leO (lkF f j s) (td l):=λj hj=>afZ l _ (by
   rw[←hl]
   exact List.mem_map.2 ⟨j,List.mem_filter.2 ⟨hj.ids h.v.t hc,by simpa using hj⟩,rfl⟩)
  have hok:okO (td l):=λa ha=>by
   rcases ac0 l with h1|h1
   ·rw[h1]at ha;cases ha
   ·rw[←hl]at h1
    obtain⟨j,_,hj⟩:=List.mem_map.1 h1
    rw[←hl,←hj]at ha
    exact adV h.v j s a ha
  obtain⟨i0,hi0,hle⟩:∃i0,Cn (aW f) [] c i0∧leO (td l) (lkF f i0 s):=by
   rcases ac0 l with h1|h1
   ·exact⟨c,.refl (by simp),by rw[h1];trivial⟩
   ·rw[←hl]at h1
    obtain⟨j,hj,hje⟩:=List.mem_map.1 h1
    refine⟨j,by simpa using (List.mem_filter.1 hj).2,?_⟩
    rw[hl]at hje
    rw[hje];exact qm _
  have aqt:i0∈ids (aW f):=hi0.ids h.v.t hc
  by_cases hcs:Cn (aW f) [] c s
  ·
   have hsd:s∈ids (aW f):=hcs.ids h.v.t hc
   have hs0:=zK h aqt hle _ (Nat.le_refl _) s (hi0.symm.trans hcs)
   have be:=akV (T:=aW f) (c:=c) (s:=s) (M:=td l) h ⟨rfl,λj hj=>.inl (hm j hj),λm hm _=>by rw[hM]at hm;cases hm⟩ (ids (aW f)).length
   generalize hf':itT (ids (aW f)).length f=f' at hs0 be
   have hr':Rdy B f':=by rw[←hf'];exact oP h _
   have ht':aW f'=aW f:=by rw[←hf'];exact xM h _
   have hM':f'.aq=[]:=by rw[←hf'];exact acZ h hM _
   have up:∀{o:Option ai},leO o (td l)∨leO o (lkF f' s s)→leO o (lkF f' s s):=λho=>ho.elim (λh1=>qn h1 hs0) id
   have bd:Bd (aW f) c s (lkF f' s s) f':=⟨ht',λj hj=>up (be.n j hj),λm hm _=>(by rw[hM']at hm;cases hm),λ_=>rfl⟩
   refine⟨lkF f' s s,λj hj=>?_⟩
   have ek:itT k f=itT (k-(ids (aW f)).length) f':=by
    rw[←hf',←ah8]
    congr 1;omega
   rw[ek]
   have h1:=zK hr' (W:=lkF f' s s) (i0:=s) (s:=s) (by rw[ht'];exact hsd) (qm _) (k-(ids (aW f)).length) (by rw[ht'];omega) j (by rw[ht'];exact hcs.symm.trans hj)
   exact ae6 (adV (oP hr' _).v _ _) (adV hr'.v _ _) ((ag5 hr' bd _).n j hj) h1
  ·have bd:Bd (aW f) c s (td l) f:=⟨rfl,hm,λm hm _=>(by rw[hM]at hm;cases hm),λh=>absurd h hcs⟩
   refine⟨td l,λj hj=>?_⟩
   have h1:=zK h aqt hle k (by omega) j (hi0.symm.trans hj)
   exact ae6 (adV (oP h _).v _ _) hok ((ag5 h bd _).n j hj) h1
 obtain⟨V,hV⟩:=key
 rw[hV i hi,hV c (.refl (by simp))]
end Go.Proofs.YtjdopimopgpagaaGreat
namespace Go.Proofs.YtjdopimopgpagaaGreat
set_option linter.all false
open Go
structure qo(g:aB)(d:aF)(at1:Int):Prop where
 v:Vd d
 a:∀r,Cn g [] at1 r→∃x∈d.aG,x.af=r∧∃seq cl,x=ofA g r seq cl
section
variable {g:aB}{d:aF}{at1:Int}
theorem qo.get(h:qo g d at1){x:ai}(hx:x∈d.aG)(hc:Cn g [] at1 x.af):∃seq cl,x=ofA g x.af seq cl:=by
 obtain⟨y,hy,hyr,seq,cl,he⟩:=h.a _ hc
 have:=h.v.uniq hy hx hyr
 subst this
 exact⟨seq,cl,he⟩
theorem qo.links(h:qo g d at1){x:ai}(hx:x∈d.aG)(hc:Cn g [] at1 x.af):x.Links=(iN g x.af).map (pR g x.af):=by
 obtain⟨seq,cl,e⟩:=h.get hx hc
 exact(congrArg ai.Links e).trans rfl
theorem qo.nb(h:qo g d at1)(hv:Vt g){x:ai}(hx:x∈d.aG)(hc:Cn g [] at1 x.af)(n:Int):(∃p∈x.Links,p.bu=n)↔fV g x.af n=true:=by
 rw[h.links hx hc,←iF hv]
 constructor
 ·rintro⟨p,hp,rfl⟩
  obtain⟨m,hm,rfl⟩:=List.mem_map.1 hp
  rw[aam];exact hm
 ·intro hn;exact⟨_,List.mem_map.2 ⟨n,hn,rfl⟩,aam _ _ _⟩
theorem qo.lk(h:qo g d at1)(hv:Vt g){a b:Int}(ha:Cn g [] at1 a):LkD d a b↔fV g a b=true:=by
 constructor
 ·rintro⟨x,hx,y,hy,rfl,rfl,p,q⟩
  exact(h.nb hv hx ha _).1 p
 ·intro hab
  obtain⟨x,hx,e1,_⟩:=h.a a ha
  have hb:Cn g [] at1 b:=.step ha hab (by simp)
  obtain⟨y,hy,e2,_⟩:=h.a b hb
  subst e1 e2
  exact⟨x,hx,y,hy,rfl,rfl,(h.nb hv hx ha _).2 hab,(h.nb hv hy hb _).2 (vU hab)⟩
theorem qo.rd(h:qo g d at1)(hv:Vt g){b:Int}:Rd d at1 b↔Cn g [] at1 b:=by
 constructor
 ·intro q
  induction q with
  |refl=>exact .refl (by simp)
  |step _ hl ih=>exact .step ih ((h.lk hv ih).1 hl) (by simp)
 ·intro q
  induction q with
  |refl _=>exact .refl
  |step hq hl _ ih=>exact .step ih ((h.lk hv hq).2 hl)
end
variable {f:aj}{k:Nat}
theorem seen{B:Int}(h:Rdy B f)(hM:f.aq=[])(hk:2*(ids (aW f)).length≤k){n:aO}(hn:n∈(itT k f).aA):qo (aW f) n.Database n.af:=by
 have hr:=oP h k
 have ht:=xM h k
 refine⟨(hr.v.n n hn).2.2,λr hc=>?_⟩
 have hid:n.af∈ids (aW f):=by rw[←ht];exact qz hn
 have hrd:=hc.ids h.v.t hid
 rw[←ht]at hrd
 obtain⟨m,hm,hmr⟩:=afY hrd
 have h1:=ae8 h hM hid hk hc r
 rw[←hmr,hr.atD hm,hmr,qB hr.v hn]at h1
 have hd:=(hr.v.n n hn).2.2
 obtain⟨q1,q2⟩:=(fC hd).1 h1.symm
 refine⟨_,q1,q2,m.Seq,m.Claims,?_⟩
 unfold oO
 rw[ht,hmr]
theorem ah9{B:Int}(h:Rdy B f)(hM:f.aq=[])(hk:2*(ids (aW f)).length≤k){n m:aO}(hn:n∈(itT k f).aA)(hm:m∈(itT k f).aA)(hc:Cn (aW f) [] n.af m.af):n.Database=m.Database:=by
 have hr:=oP h k
 have hid:n.af∈ids (aW f):=by rw[←xM h k];exact qz hn
 refine aju (hr.v.n n hn).2.2 (hr.v.n m hm).2.2 λs=>?_
 rw[←qB hr.v hn,←qB hr.v hm]
 exact(ae8 h hM hid hk hc s).symm
end Go.Proofs.YtjdopimopgpagaaGreat
namespace Go.Proofs.YtjdopimopgpagaaGreat
set_option linter.all false
open Go
theorem aqu{x n:Int}(hx:0≤x)(hn:1≤n∧n≤9223372036854775807):qd x n=some (x%n):=by
 unfold qd
 have e1:decide (n<1)=false:=by simp;omega
 have e2:Int.tmod x n=x%n:=Int.tmod_eq_emod_of_nonneg hx
 have h0:0≤x%n:=Int.emod_nonneg _ (by omega)
 have e3:decide (x%n<0)=false:=by simp;omega
 have e4:n≠0:=by omega
 have e5:decide (n≠0)=true:=by simp;omega
 simp only[e1,cond_false,e2,jn,e3,chk,e5,cond_true]
theorem aqv{a k n:Int}(ha:0≤a∧a<n)(hk:1≤k∧k≤n-1):(a+k)%n≠a:=by
 by_cases h:a+k<n
 ·rw[Int.emod_eq_of_lt (by omega) h];omega
 ·have:(a+k)%n=a+k-n:=by
   have h1:(a+k-n)%n=(a+k)%n:=by simp
   rw[←h1,Int.emod_eq_of_lt (by omega) (by omega)]
  omega
def Sm(most:Int)(d:aF):Prop:=Vd d∧∀a∈d.aG,a.Seq≤most
theorem Sm.nil(most:Int):Sm most (aF.mk []):=⟨⟨by simp,by simp,by simp⟩,by simp⟩
variable {most:Int}{t:aU}
theorem adD(h:cA t)(hm:1≤most):Ok (mJ t most) (λp=>Sm most p.1∧cA p.2):=by
 unfold mJ
 refine Ok.bnd (fJ h (by omega)) λp hp=>?_
 refine Ok.cs (λ_=>Ok.s ⟨Sm.nil most,hp.2⟩) λ_=>?_
 refine Ok.bnd (afk (n:=0) hp.2 (by omega)) λd hd=>?_
 obtain⟨⟨_,hl,h0⟩,ht⟩:=hd
 have hv:=jL.1 (h0 rfl).1
 refine Ok.whl (λs:Int×List ai=>(0≤s.1∧s.1≤s.2.length)∧s.2.length≤7∧Vd (aF.mk s.2)∧∀(k:Nat) (a:ai),(k:Int)<s.1→s.2[k]?=some a→a.Seq≤most) (λs=>((s.2.length:Int)-s.1).toNat) ⟨⟨by simp,by simp⟩,hl,hv,λk a hk=>by simp only at hk;omega⟩ (by simp only;omega) ?_
 rintro⟨i,m⟩ Z ⟨⟨h0,h1⟩,h2,h3,h4⟩ hZ
 simp only at h0 h1 h2 h3 h4
 refine Ok.cs (λhc=>?_) λhc=>?_
 ·have hc:i<m.length:=by simpa using hc
  refine Ok.bnd (rj h0 hc) λa ha=>?_
  refine Ok.bnd (ahG h0 hc) λl hl=>?_
  rw[cw (by omega) (by omega)]
  have hav:=h3.ok a ha.1
  have hnew:cc (ai.mk a.af (if most<a.Seq then most else a.Seq) a.aY a.Links a.Claims)=true:=by
   have hv2:=hav
   unfold cc at hv2 ⊢
   simp only[Bool.and_eq_true]at hv2 ⊢
   refine⟨⟨⟨⟨hv2.1.1.1.1,?_⟩,hv2.1.1.2⟩,hv2.1.2⟩,hv2.2⟩
   have h5:=hv2.1.1.1.2
   simp only[inB,Bool.and_eq_true,decide_eq_true_eq]at h5 ⊢
   split<;>omega
  have jO:l=m.set i.toNat (ai.mk a.af (if most<a.Seq then most else a.Seq) a.aY a.Links a.Claims):=hl.1
  refine hZ _ ⟨⟨by simp only;omega,by simp only;omega⟩,by simp only;omega,?_,λk b hk hb=>?_⟩ (by simp only;omega)
  ·show Vd (aF.mk l)
   have hmap:l.map (·.af)=m.map (·.af):=by
    rw[jO,List.map_set]
    refine List.ext_getElem? λk=>?_
    rw[List.getElem?_set]
    split
    ·rename_i hk
     subst hk
     split
     ·rw[List.getElem?_map,ha.2];rfl
     ·rename_i hlt;rw[List.getElem?_eq_none (by omega)]
    ·rfl
   refine⟨by show l.length≤99;omega,λb hb=>?_,?_⟩
   ·have hb:b∈l:=hb
    rw[jO]at hb
    rcases List.mem_or_eq_of_mem_set hb with hb|rfl
    ·exact h3.ok b hb
    ·exact hnew
   ·have:=List.pairwise_map.2 h3.asc
    have this:(m.map (·.af)).Pairwise (·<·):=this
    rw[←hmap]at this
    exact List.pairwise_map.1 this
  ·have hk:(k:Int)<i+1:=hk
   have hb:l[k]?=some b:=hb
   rw[jO,List.getElem?_set]at hb
   split at hb
   ·split at hb
    ·have:=Option.some.inj hb
     rw[←this]
     show(if most<a.Seq then most else a.Seq)≤most
     split<;>omega
    ·cases hb
   ·rename_i hne
    exact h4 k b (by omega) hb
 ·have hc:¬i<m.length:=by simpa using hc
  refine Ok.s ⟨⟨h3,λa ha=>?_⟩,ht⟩
  obtain⟨k,hk⟩:=List.getElem?_of_mem ha
  have hlt:=(List.getElem?_eq_some_iff.1 hk).1
  have hk:m[k]?=some a:=hk
  have hlt:k<m.length:=hlt
  exact h4 k a (by omega) hk
structure Fd(most:Int)(f:aj):Prop where
 v:Vf f
 n:1≤f.aA.length∧f.aA.length≤8
 s:∀n∈f.aA,n.Seq≤most∧Sm most n.Database
 m:∀m∈f.aq,Sm most m.Database
variable {f:aj}{r:Int}
theorem aia(h:∃n∈f.aA,n.af=r):0≤iD f r:=by
 obtain⟨n,hn,hr⟩:=h
 rcases nh f r with⟨_,h2⟩|⟨a,m,b,_,h2,_⟩
 ·exact absurd hr (h2 n hn)
 ·omega
theorem aft{gn:Int}(h:cA t)(hr:1≤gn∧gn≤8)(hm:1≤most∧most≤1000000):Ok (mZ t gn most) (λp=>Fd most p.1∧cA p.2):=by
 unfold mZ
 refine Ok.bnd (afp h hr) λg hg=>?_
 obtain⟨⟨hv,hn,_⟩,ht⟩:=hg
 have aqh:=hv.nl
 refine Ok.qN (λP (s:List aO×List Int×Int)=>(s.1.map (·.af)=P.map (·.ID)∧∀n∈s.1,(0≤n.Seq∧n.Seq≤most)∧jW n.Claims=true∧Sm most n.Database)∧cA (aU.mk s.2.1 s.2.2)) ?_ _ ⟨⟨rfl,by simp⟩,ht⟩ ?_
 ·rintro P r rest ⟨m,L,At⟩ Z hL ⟨⟨i1,i3⟩,i2⟩ hZ
  have hP:P.length<g.1.aI.length:=by rw[hL];simp
  simp only at i1 i2 i3
  have hml:m.length=P.length:=by have:=congrArg List.length i1;simpa using this
  refine Ok.bnd (mK i2 (by decide) (by decide)) λp2 h2=>?_
  have h2s:=h2.1
  simp only[List.mem_cons,List.not_mem_nil,or_false]at h2s
  refine Ok.bnd (fJ h2.2 (by omega)) λp3 h3=>?_
  refine Ok.bnd (adD h3.2 hm.1) λp4 h4=>?_
  refine Ok.gO (λj (s:List bG×List Int×Int)=>((s.1.length:Int)≤j∧s.1.all iY=true∧qO s.1=true∧∀c∈s.1,c.bZ<j)∧cA (aU.mk s.2.1 s.2.2)) 0 2 ?_ ?_ _ _ _ rfl (by omega) (by omega) ⟨⟨by simp,by simp,rfl,by simp⟩,h4.2⟩
  ·rintro j ⟨m4,m5,m6⟩ Z2 hj1 hj2 ⟨⟨q1,q3,q4,q5⟩,q2⟩ hZ2
   simp only at q1 q2 q3 q4 q5
   refine Ok.jn (λs:List Int×Int×List bG=>((s.2.2.length:Int)≤j+1∧s.2.2.all iY=true∧qO s.2.2=true∧∀c∈s.2.2,c.bZ<j+1)∧cA (aU.mk s.1 s.2.1)) (λs hs=>hZ2 _ ⟨hs.1,hs.2⟩) λJ hJ=>?_
   refine Ok.bnd (fJ q2 (by omega)) λp5 h5=>?_
   refine Ok.cs (λ_=>?_) λ_=>hJ _ ⟨⟨by simp only;omega,q3,q4,λc hc=>by have:=q5 c hc;omega⟩,h5.2⟩
   refine Ok.bnd (nI h5.2) λp6 h6=>?_
   refine Ok.bnd (adm h6.2) λp7 h7=>?_
   have h61:=h6.1 (by omega) (by omega) (by omega)
   refine Ok.bnd (mb (by simp;omega)) λl hl=>hJ _ ⟨⟨by simp only;rw[hl.2];simp;omega,?_,?_,λc hc=>?_⟩,h7.2⟩
   ·show l.all iY=true
    rw[hl.1]
    refine aah q3 ?_
    simp only[iY,inB,Bool.and_eq_true,decide_eq_true_eq]
    exact⟨⟨by omega,by omega⟩,h7.1⟩
   ·show qO l=true
    rw[hl.1]
    exact xF q4 λy hy=>by simpa using q5 y hy
   ·have hc:c∈l:=hc
    rw[hl.1]at hc
    rcases List.mem_append.1 hc with hc|hc
    ·have:=q5 c hc;omega
    ·rw[List.mem_singleton]at hc;subst hc;show j<j+1;omega
  ·rintro j ⟨m4,m5,m6⟩ hj1 hj2 ⟨⟨q1,q3,q4,q5⟩,q2⟩
   have hj:j=2:=hj2 (by omega)
   refine Ok.bnd (mb (by simp;omega)) λl hl=>hZ _ ⟨⟨?_,λn hn2=>?_⟩,q2⟩
   ·show l.map (·.af)=_
    rw[hl.1,List.map_append,i1,List.map_append];rfl
   ·have hn2:n∈l:=hn2
    rw[hl.1]at hn2
    rcases List.mem_append.1 hn2 with hn2|hn2
    ·exact i3 n hn2
    ·rw[List.mem_singleton]at hn2
     subst hn2
     refine⟨⟨?_,?_⟩,?_,h4.1⟩
     ·show 0≤(if p2.1<most then p2.1 else most);split<;>omega
     ·show(if p2.1<most then p2.1 else most)≤most;split<;>omega
     ·show jW m4=true
      have q1:(m4.length:Int)≤j:=q1
      unfold jW
      rw[q3,q4];simp;omega
 ·rintro⟨m,L,At⟩ ⟨⟨i1,i3⟩,i2⟩
  simp only at i1 i2 i3
  have hml:m.length=g.1.aI.length:=by have:=congrArg List.length i1;simpa using this
  refine Ok.bnd (fJ i2 (by omega)) λp8 h8=>?_
  have h84:=h8.1.2.1 (by omega)
  have mem:∀x∈g.1.aI,∃n∈m,n.af=x.ID:=λx hx=>by
   have:x.ID∈m.map (·.af):=by rw[i1];exact List.mem_map.2 ⟨x,hx,rfl⟩
   obtain⟨n,hn1,hn2⟩:=List.mem_map.1 this
   exact⟨n,hn1,hn2⟩
  refine Ok.whl (λs:Int×List aR×List Int×Int=>((s.2.1.length:Int)+s.1≤4∧s.1≤4∧(0≤s.1∨s.1≤0))∧(s.2.1.length≤8∧∀x∈s.2.1,(∃n∈m,n.af=x.cD)∧(∃n∈m,n.af=x.To)∧x.cD≠x.To∧Sm most x.Database)∧cA (aU.mk s.2.2.1 s.2.2.2)) (λs=>s.1.toNat) ⟨⟨by simp;omega,by simp only;omega,by simp only;omega⟩,⟨by simp,by simp⟩,h8.2⟩ (by simp only;omega) ?_
  rintro⟨i,m10,m11,m12⟩ Z ⟨⟨q1,q1',_⟩,⟨q2,q4⟩,q3⟩ hZ
  simp only at q1 q1' q2 q3 q4
  refine Ok.cs (λhc=>?_) λ_=>?_
  rotate_left
  ·have zI:Vt (aW (aj.mk g.1.Links m m10)):=hv.ajz (by show(m.map λn=>bf.mk n.af n.aY).map (·.ID)=_;rw[List.map_map];exact i1) rfl
   refine Ok.s ⟨⟨⟨zI,by show m10.length≤400;omega,λn hn2=>?_,λx hx=>?_⟩,⟨by show 1≤m.length;omega,by show m.length≤8;omega⟩,λn hn2=>?_,λx hx=>(q4 x hx).2.2.2⟩,q3⟩
   ·obtain⟨r1,r2,r3⟩:=i3 n hn2
    exact⟨⟨r1.1,by omega⟩,r2,r3.1⟩
   ·obtain⟨r1,r2,r3,r4⟩:=q4 x hx
    exact⟨aia r1,aia r2,r3,r4.1⟩
   ·obtain⟨r1,r2,r3⟩:=i3 n hn2
    exact⟨r1.2,r3⟩
  simp only[Bool.and_eq_true,decide_eq_true_eq]at hc
  refine Ok.bnd (fJ q3 (by omega)) λp9 h9=>?_
  have h9n:=h9.1.2.1 (by omega)
  have h90:=h9.1.1
  refine Ok.bnd (nI h9.2) λp10 h10=>?_
  rw[cw (n:=(g.1.aI.length:Int)-1) (by omega) (by omega)]at h10
  have h10:=And.intro (h10.1 (by omega) (by omega) (by omega)) h10.2
  have hw:w64 (p9.1+p10.1)=p9.1+p10.1:=cw (by omega) (by omega)
  rw[hw,aqu (by omega) (by omega),aL]
  have hne:=aqv (a:=p9.1) (k:=p10.1) (n:=(g.1.aI.length:Int)) ⟨h90,h9n⟩ h10.1
  have hb0:0≤(p9.1+p10.1)%(g.1.aI.length:Int):=Int.emod_nonneg _ (by omega)
  have hb1:(p9.1+p10.1)%(g.1.aI.length:Int)<(g.1.aI.length:Int):=Int.emod_lt_of_pos _ (by omega)
  generalize (p9.1+p10.1)%(g.1.aI.length:Int)=bb at hne hb0 hb1 ⊢
  refine Ok.bnd (rj h90 h9n) λe1 he1=>?_
  refine Ok.bnd (rj hb0 hb1) λe2 he2=>?_
  refine Ok.bnd (adD h10.2 hm.1) λp12 h12=>?_
  refine Ok.bnd (mb (by simp;omega)) λl hl=>?_
  rw[cw (by omega) (by omega)]
  have hl2:=hl.2
  simp only[List.length_cons,List.length_nil]at hl2
  have hids:e1.ID≠e2.ID:=λhe=>by
   have:=apX hv he1.1 he2.1 he
   subst this
   have hnd:g.1.aI.Nodup:=hv.asc.imp λ{a b} hab e=>by subst e;omega
   obtain⟨k1,k2⟩:=List.getElem?_eq_some_iff.1 he1.2
   obtain⟨k3,k4⟩:=List.getElem?_eq_some_iff.1 he2.2
   have:=(List.getElem_inj hnd).1 (k2.trans k4.symm)
   omega
  refine hZ _ ⟨⟨by simp only;omega,by simp only;omega,by simp only;omega⟩,⟨by simp only;omega,λx hx=>?_⟩,h12.2⟩ (by simp only;omega)
  have hx:x∈l:=hx
  rw[hl.1]at hx
  rcases List.mem_append.1 hx with hx|hx
  ·exact q4 x hx
  ·rw[List.mem_singleton]at hx
   subst hx
   exact⟨mem e1 he1.1,mem e2 he2.1,hids,h12.1⟩
theorem aib(hM:f.aq=[]):fK f=f:=by
 unfold fK
 rw[hM];rfl
variable {B:Int}
theorem round_eq(h:Rdy B f):gY f=some (prT (fK f),0):=ajG h.v
theorem ajL(h:Rdy B f)(hM:f.aq=[])(k:Nat):gY (itT k f)=some (itT (k+1) f,0):=by
 rw[round_eq (oP h k),aib (acZ h hM k)];rfl
variable {k:Nat}
theorem aic(h:Rdy B f)(hk:1≤k∧k≤100000):lW f (k:Int)=some (itT k (fK f)):=by
 have hd:=abu h
 have hn:=(uG h.v).2
 unfold lW
 refine Ok.eq (Ok.chk (by simp;omega) ?_)
 refine Ok.gO (λj (s:List aV×List aO×List aR)=>(j=0∧aj.mk s.1 s.2.1 s.2.2=f)∨(1≤j∧aj.mk s.1 s.2.1 s.2.2=itT j.toNat (fK f))) 0 (k:Int) ?_ ?_ _ _ _ (by omega) (by omega) (by omega) (.inl ⟨rfl,rfl⟩)
 ·rintro j ⟨a,b,c⟩ Z j0 j1 hI hZ
  dsimp only at hI ⊢
  rcases hI with⟨rfl,he⟩|⟨hj,he⟩
  ·rw[he,round_eq h,aL]
   exact hZ _ (.inr ⟨by omega,rfl⟩)
  ·rw[he,ajL hd hn,aL]
   refine hZ _ (.inr ⟨by omega,?_⟩)
   have:(j+1).toNat=j.toNat+1:=by omega
   rw[this]
 ·rintro j ⟨a,b,c⟩ j0 j1 hI
  have hj:j=(k:Int):=j1 (by omega)
  dsimp only at hI ⊢
  rcases hI with⟨h1,_⟩|⟨_,he⟩
  ·omega
  ·rw[he,hj];exact⟨_,rfl,by simp⟩
theorem ae9{α:Type}{P:List α→α→Bool}:∀(l p:List α),(∀a x b,p++l=a++x::b→P a x=true)→yG P p l=true
 |[],_,_=>rfl
 |x::l,p,h=>by
  rw[yG,h p x l rfl,Bool.true_and]
  exact ae9 l (p++[x]) λa y b e=>h a y b (by rw[←e];simp)
theorem aid{d:aF}{a:ai}(h:look d r=some a):fN d r=(a,true):=by
 unfold look at h
 cases hq:(fN d r).2
 ·rw[hq]at h;cases h
 ·rw[hq]at h
  have:=Option.some.inj h
  rw[←this,←hq]
theorem settled(h:Rdy B f)(hM:f.aq=[])(hk:2*(ids (aW f)).length≤k):agX (itT k f)=true:=by
 have hr:=oP h k
 unfold agX
 rw[ni.2 hr.v,acZ h hM k]
 simp only[List.length_nil,Int.natCast_zero,Int.lt_irrefl,decide_false,Bool.not_false,Bool.true_and]
 refine ae9 _ [] λa n b e=>?_
 rw[List.nil_append]at e
 have hn:n∈(itT k f).aA:=by rw[e];simp
 obtain⟨o1,o2,o3⟩:=hr.own n hn
 have hb:=hr.bd
 have hs0:decide (n.Seq=0)=false:=by simp;omega
 have hin:inB n.Seq 1 1000000=true:=by simp[inB];omega
 have hown:(bif decide (n.Seq=0)then(noA,false)else oM (itT k f) n n.Seq)=(oO (itT k f) n,true):=by
  rw[hs0,cond_false]
  unfold oM
  rw[hin];rfl
 unfold aeX
 rw[hown,aid o3,(uE _ _).2 rfl]
 simp only[Bool.true_and]
 rw[List.all_eq_true]
 intro m hm
 have hmn:m∈(itT k f).aA:=by rw[e];simp[hm]
 cases hc:abl (aW (itT k f)) m.af n.af
 ·rfl
 ·have hcn:Cn (aW f) [] m.af n.af:=by
   unfold abl at hc
   simp only[Bool.and_eq_true,decide_eq_true_eq]at hc
   rw[←xM h k];exact hc.2
  have:=ah9 h hM hk hmn hn hcn
  rw[this]
  simp[(ahZ _ _).2 rfl]
end Go.Proofs.YtjdopimopgpagaaGreat
