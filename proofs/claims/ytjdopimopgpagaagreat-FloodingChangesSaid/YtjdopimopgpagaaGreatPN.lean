/- Several texts in one. No condition but those that stand in each. -/
import Derived.Test.YtjdopimopgpagaaGreatPM
import GoSem.Extern.BytealgCompare
import Derived.Lib.Strings
import Derived.Test.YtjdopimopgpagaaGreatDL
namespace Go.Proofs.YtjdopimopgpagaaGreat
set_option linter.all false
open Go
theorem xZ{α σ β:Type}{B:Int→α→(σ→Option β)→σ→Option β}{K:σ→Option β}{L:List α}(g:α→Bool)(p:α→α→Bool)(a:Option β)(h0:∀x Z s,B ((0:Nat):Int) x Z s=bif g x then Z s else a)
  (hB:∀(j:Nat) x y r q s Z,L=q++y::x::r→j=q.length+1→B (j:Int) x Z s=bif g x&&p y x then Z s else a) (s:σ):bL L 0 B K s=bif L.all g&&fQ p L then K s else a:=by
 have key:∀(r q:List α) (y:α) (s:σ),L=q++y::r→bL r (q.length+1) B K s=bif r.all g&&fQ p (y::r)then K s else a:=by
  intro r
  induction r with
  |nil=>intro q y s _;rfl
  |cons x r ih=>
   intro q y s h
   simp only[bL]
   rw[hB (q.length+1) x y r q s _ h rfl]
   have:=ih (q++[y]) x s (by simpa using h)
   simp only[List.length_append,List.length_cons,List.length_nil]at this
   rw[this]
   simp only[fQ,List.all_cons]
   cases g x<;>cases p y x<;>simp
 cases L with
 |nil=>rfl
 |cons y r=>
  simp only[bL]
  rw[h0]
  have:=key r [] y s rfl
  simp only[List.length_nil]at this
  rw[this,List.all_cons]
  cases g y<;>simp
theorem vG{α γ β:Type}{B:Int→α→(Unit→Option β)→Unit→Option β}{K:Unit→Option β}(e:α→γ→Bool)(a:Option β){m:List γ}(hB:∀j x Z s,B j x Z s=bnd (elO m j) λy=>bif !(e x y)then a else Z s):
  ∀(l:List α),l.length=m.length→bL l 0 B K ()=bif (l.zip m).all (λp=>e p.1 p.2)then K ()else a:=by
 have key:∀(l:List α) (q r:List γ),m=q++r→l.length=r.length→bL l q.length B K ()=bif (l.zip r).all (λp=>e p.1 p.2)then K ()else a:=by
  intro l
  induction l with
  |nil=>intro q r _ h;rfl
  |cons x l ih=>
   intro q r hm hl
   cases r with
   |nil=>simp at hl
   |cons y r=>
    simp only[bL,hB,hm,iK,aO]
    have:=ih (q++[y]) r (by simpa using hm) (by simpa using hl)
    simp only[List.length_append,List.length_cons,List.length_nil]at this
    rw[this,List.zip_cons_cons,List.all_cons]
    cases e x y<;>rfl
 intro l h
 exact key l [] m rfl h
def inB(n lo hi:Int):Bool:=decide (lo≤n)&&decide (n≤hi)
def lz(a:ai)(x:bA):Bool:=inB x.bx 1 99&&!decide (x.bx=a.ah)&&inB x.kN 1 1000&&inB x.bX 0 1000
def mY(n:Int):Bool:=decide (n=8)||(decide (n=16)||(decide (n=32)||decide (n=64)))
def iN(c:bH):Bool:=inB c.b9 0 7&&inB c.ID 1 256&&mY c.Length
def vH(l:List bA):Bool:=fQ (λa b=>decide (a.bx<b.bx)) l
def qq(l:List bH):Bool:=fQ (λa b=>decide (a.b9<b.b9)) l
def cm(a:ai):Bool:=(inB a.ah 1 99&&inB a.Seq 1 1000000&&decide ((a.Links.length:Int)≤23))&&(a.Links.all (lz a)&&vH a.Links)&&(decide ((a.Claims.length:Int)≤8)&&(a.Claims.all iN&&qq a.Claims))
theorem w9{x y:Int}:decide (x≤y)=!decide (y<x):=by
 by_cases h:y<x
 ·simp[h]
 ·simp[h];omega
theorem acz(n lo hi:Int):fT n lo hi=some (inB n lo hi):=rfl
theorem aki(n:Int):lU n=some (mY n):=rfl
theorem inE(n lo hi:Int):iS n lo hi=some (inB n lo hi):=rfl
theorem akj(n:Int):jb n=some (mY n):=by
 unfold jb mY
 cases decide (n=8)<;>cases decide (n=16)<;>cases decide (n=32)<;>cases decide (n=64)<;>rfl
theorem zb(l:List bH):ia l=some (decide ((l.length:Int)≤8)&&(l.all iN&&qq l)):=by
 unfold ia
 by_cases h:(8:Int)<l.length
 ·have h':¬(l.length:Int)≤8:=by omega
  simp[h,h']
 ·have h':(l.length:Int)≤8:=by omega
  simp only[h,decide_false,cond_false,h',decide_true,Bool.true_and]
  refine(xZ iN (λa b=>decide (a.b9<b.b9)) (some false) ?_ ?_ _).trans ?_
  ·intro x Z s
   simp only[jn,acz,aki,aO,iN]
   cases inB x.b9 0 7<;>cases inB x.ID 1 256<;>cases mY x.Length<;>rfl
  ·intro j x y r q s Z hL hj
   have:decide ((0:Int)<(j:Int))=true:=by simp;omega
   simp only[jn,acz,aki,aO,iN,mX hL hj (by omega),w9,this]
   cases inB x.b9 0 7<;>cases inB x.ID 1 256<;>cases mY x.Length<;>cases decide (y.b9<x.b9)<;>rfl
  ·unfold qq;cases l.all iN&&fQ _ l<;>rfl
theorem qB(a:ai):gF a=some (cm a):=by
 unfold gF cm
 simp only[jn,acz,aO]
 by_cases h:(a.Links.length:Int)≤23
 ·have h':¬(23:Int)<a.Links.length:=by omega
  simp only[h,h',decide_true,decide_false,Bool.and_true]
  cases inB a.ah 1 99<;>cases inB a.Seq 1 1000000<;>simp only[Bool.not_true,Bool.not_false,cond_true,cond_false,Bool.false_and,Bool.true_and,Bool.and_self]
  refine(xZ (lz a) (λa b=>decide (a.bx<b.bx)) (some false) ?_ ?_ _).trans ?_
  ·intro x Z s
   simp only[aO,lz]
   cases inB x.bx 1 99<;>cases decide (x.bx=a.ah)<;>cases inB x.kN 1 1000<;>cases inB x.bX 0 1000<;>rfl
  ·intro j x y r q s Z hL hj
   have:decide ((0:Int)<(j:Int))=true:=by simp;omega
   simp only[aO,lz,mX hL hj (by omega),w9,this]
   cases inB x.bx 1 99<;>cases decide (x.bx=a.ah)<;>cases inB x.kN 1 1000<;>cases inB x.bX 0 1000<;>cases decide (y.bx<x.bx)<;>rfl
  ·simp only[zb,aO]
   unfold vH
   cases a.Links.all (lz a)&&fQ _ a.Links<;>rfl
 ·have h':(23:Int)<a.Links.length:=by omega
  simp only[h,h',decide_true,decide_false,Bool.and_false,Bool.false_and]
  cases inB a.ah 1 99<;>cases inB a.Seq 1 1000000<;>rfl
theorem td(a:ai):gJ a=some (cm a):=by
 unfold gJ cm
 simp only[jn,inE,aO]
 by_cases h:(a.Links.length:Int)≤23
 ·have h':¬(23:Int)<a.Links.length:=by omega
  by_cases hc:(a.Claims.length:Int)≤8
  ·have hc':¬(8:Int)<a.Claims.length:=by omega
   simp only[h,h',hc,hc',decide_true,decide_false,Bool.and_true,Bool.true_and]
   cases inB a.ah 1 99<;>cases inB a.Seq 1 1000000<;>simp only[Bool.not_true,Bool.not_false,cond_true,cond_false,Bool.false_and,Bool.true_and,Bool.and_self]
   refine(xZ (lz a) (λa b=>decide (a.bx<b.bx)) (some false) ?_ ?_ _).trans ?_
   ·intro x Z s
    simp only[aO,lz]
    cases inB x.bx 1 99<;>cases decide (x.bx=a.ah)<;>cases inB x.kN 1 1000<;>cases inB x.bX 0 1000<;>rfl
   ·intro j x y r q s Z hL hj
    have:decide ((0:Int)<(j:Int))=true:=by simp;omega
    simp only[aO,lz,mX hL hj (by omega),w9,this]
    cases inB x.bx 1 99<;>cases decide (x.bx=a.ah)<;>cases inB x.kN 1 1000<;>cases inB x.bX 0 1000<;>cases decide (y.bx<x.bx)<;>rfl
   ·refine Eq.trans (b:=bif a.Links.all (lz a)&&vH a.Links then(bif a.Claims.all iN&&qq a.Claims then some true else some false)else some false) ?_ ?_
    ·unfold vH
     congr 1
     refine(xZ iN (λa b=>decide (a.b9<b.b9)) (some false) ?_ ?_ _).trans ?_
     ·intro x Z s
      simp only[akj,aO,iN]
      cases inB x.b9 0 7<;>cases inB x.ID 1 256<;>cases mY x.Length<;>rfl
     ·intro j x y r q s Z hL hj
      have:decide ((0:Int)<(j:Int))=true:=by simp;omega
      simp only[akj,aO,iN,mX hL hj (by omega),w9,this]
      cases inB x.b9 0 7<;>cases inB x.ID 1 256<;>cases mY x.Length<;>cases decide (y.b9<x.b9)<;>rfl
     ·rfl
    ·cases a.Links.all (lz a)&&vH a.Links<;>cases a.Claims.all iN&&qq a.Claims<;>rfl
  ·have hc':(8:Int)<a.Claims.length:=by omega
   simp only[h,h',hc,hc',decide_true,decide_false,Bool.and_false,Bool.false_and]
   cases inB a.ah 1 99<;>cases inB a.Seq 1 1000000<;>rfl
 ·have h':(23:Int)<a.Links.length:=by omega
  simp only[h,h',decide_true,decide_false,Bool.and_false,Bool.false_and]
  cases inB a.ah 1 99<;>cases inB a.Seq 1 1000000<;>rfl
def aen(d:aG):Bool:=fQ (λa b=>decide (a.ah<b.ah)) d.aC
def dbC(d:aG):Int:=bif decide ((99:Int)<(d.aC.length:Int))then 3 else bif d.aC.all cm then(bif aen d then 0 else 25)else 1
theorem tC(d:aG):ij d=some (dbC d):=by
 unfold ij dbC
 by_cases h:(99:Int)<d.aC.length
 ·simp[h]
 simp only[h,decide_false,cond_false]
 refine(pR (λa=>!cm a) (some 1) ?_ _ _ _).trans ?_
 ·intro j x Z s;simp only[qB,aO]
 rw[←List.not_all_eq_any_not]
 cases d.aC.all cm
 ·rfl
 simp only[Bool.not_true,cond_false,cond_true]
 refine(y7 (λa b:ai=>decide (a.ah<b.ah)) (some 25) ?_ _).trans ?_
 ·intro j x y r q s Z hL hj
  simp only[mX hL hj (by omega),aO,w9]
  cases decide (y.ah<x.ah)<;>rfl
 ·unfold aen;cases fQ _ d.aC<;>rfl
theorem cfA(l:List ai)(f:ai→Option Bool)(p:ai→Bool)(hf:∀x,f x=some (p x)):dz l f=some (l.any p):=by
 unfold dz ec
 obtain⟨r,h1,h2⟩:=xU (B:=λ(j1:Int) (e1:ai) (Z1:Unit→Option Int) (sg:Unit)=>match sg with|()=>bnd (f e1) λ(af:Bool)=>bif af then some (j1:Int)else Z1 ()) (K:=λ(sg:Unit)=>match sg with|()=>some (-1:Int)) p (λj x Z s=>by simp only[hf,aO]) (λ_=>rfl) l 0 ()
 simp only[h1,aO,h2]
theorem x2(d:aG):fL d=some (dbC d):=by
 unfold fL dbC
 by_cases h:(99:Int)<d.aC.length
 ·simp[h]
 simp only[h,decide_false,cond_false]
 rw[cfA d.aC _ (λa=>!cm a) (λx=>by simp only[mH,td,aO]),aO]
 rw[←List.not_all_eq_any_not]
 cases d.aC.all cm
 ·rfl
 simp only[Bool.not_true,cond_false,cond_true]
 refine(y8 (λa b:ai=>decide (a.ah<b.ah)) (some 25) ?_ ?_ _).trans ?_
 ·intros;rfl
 ·intro j x y r q s Z hL hj
  have:decide ((0:Int)<(j:Int))=true:=by simp;omega
  simp only[jn,mX hL hj (by omega),aO,w9,this]
  cases decide (y.ah<x.ah)<;>rfl
 ·unfold aen;cases fQ _ d.aC<;>rfl
def abb(l m:List bA):Bool:=decide ((l.length:Int)=m.length)&&(l.zip m).all (λp=>iw p.1 p.2)
def abc(l m:List bH):Bool:=decide ((l.length:Int)=m.length)&&(l.zip m).all (λp=>fZ p.1 p.2)
def mL(a b:ai):Bool:=decide (a.ah=b.ah)&&(decide (a.Seq=b.Seq)&&((a.aX==b.aX)&&(abb a.Links b.Links&&abc a.Claims b.Claims)))
theorem apy(l m:List bA):gB l m=some (abb l m):=by
 unfold gB abb
 by_cases h:(l.length:Int)=m.length
 ·simp only[h,decide_true,Bool.not_true,cond_false,Bool.true_and]
  rw[vG iw (some false) (λj x Z s=>rfl) l (by omega)]
  cases(l.zip m).all _<;>rfl
 ·simp[h]
theorem apz(l m:List bH):gC l m=some (abc l m):=by
 unfold gC abc
 by_cases h:(l.length:Int)=m.length
 ·simp only[h,decide_true,Bool.not_true,cond_false,Bool.true_and]
  rw[vG fZ (some false) (λj x Z s=>rfl) l (by omega)]
  cases(l.zip m).all _<;>rfl
 ·simp[h]
theorem afn(a b:ai):jk a b=some (mL a b):=by
 unfold jk mL
 simp only[apy,apz,aO]
 cases decide (a.ah=b.ah)<;>cases decide (a.Seq=b.Seq)<;>cases(a.aX==b.aX)<;>cases abb a.Links b.Links<;>cases abc a.Claims b.Claims<;>rfl
theorem uO(a b:ai):lK a b=some (mL a b):=by
 unfold lK mL abb abc
 by_cases hl:(a.Links.length:Int)=b.Links.length
 ·by_cases hc:(a.Claims.length:Int)=b.Claims.length
  ·simp only[hl,hc,decide_true,Bool.not_true,Bool.or_false,Bool.true_and]
   rw[vG iw (some false) (λj x Z s=>rfl) a.Links (by omega),vG fZ (some false) (λj x Z s=>rfl) a.Claims (by omega)]
   cases decide (a.ah=b.ah)<;>cases decide (a.Seq=b.Seq)<;>cases(a.aX==b.aX)<;>cases(a.Links.zip b.Links).all _<;>cases(a.Claims.zip b.Claims).all _<;>rfl
  ·simp[hc]
 ·simp[hl]
def adz(a b:aG):Bool:=decide ((a.aC.length:Int)=b.aC.length)&&(a.aC.zip b.aC).all (λp=>mL p.1 p.2)
theorem abJ(a b:aG):nF a b=some (adz a b):=by
 unfold nF adz
 by_cases h:(a.aC.length:Int)=b.aC.length
 ·simp only[h,decide_true,Bool.not_true,cond_false,Bool.true_and]
  rw[vG (m:=b.aC) mL (some false) (λj x Z s=>by simp only[uO,aO]) a.aC (by omega)]
  cases(a.aC.zip b.aC).all _<;>rfl
 ·simp[h]
theorem adn(a:bA):iw a a=true:=by simp[iw]
theorem yx(a:bH):fZ a a=true:=by simp[fZ]
theorem x3{α:Type}(e:α→α→Bool)(h:∀x,e x x=true):∀l:List α,(l.zip l).all (λp=>e p.1 p.2)=true
 |[]=>rfl
 |x::r=>by simp only[List.zip_cons_cons,List.all_cons,h,x3 e h r,Bool.and_self]
theorem agt(a:ai):mL a a=true:=by
 unfold mL abb abc
 rw[x3 iw adn,x3 fZ yx];simp
def noA:ai:=ai.mk 0 0 false [] []
def gM(d:aG)(r:Int):ai×Bool:=match d.aC.find? (λa=>decide (a.ah=r))with|some a=>(a,true)|none=>(noA,false)
theorem x4(d:aG)(r:Int):nG d r=some (gM d r):=by
 unfold nG
 rw[uc (λa:ai=>decide (a.ah=r)) (λa=>some (a,true)) (λj x Z s=>rfl)]
 unfold gM
 cases d.aC.find? _<;>rfl
def SmA(a:ai):Prop:=a.Links.length≤100000∧a.Claims.length≤100000
def SmD(d:aG):Prop:=d.aC.length≤100000∧∀a∈d.aC,SmA a
theorem ahl{l:List bA}(h:l.length≤100000):dL l=some l:=by
 unfold dL dP
 rw[dQ (by simp;omega)];rfl
theorem aeo{l:List bH}(h:l.length≤100000):dg l=some l:=by
 unfold dg dO
 rw[dQ (by simp;omega)];rfl
theorem wj{a:ai}(h:SmA a):fu a=some a:=by
 unfold fu
 rw[ahl h.1,aO,aeo h.2,aO]
theorem amv{d:aG}(h:SmD d)(r:Int):kH d r=some (gM d r):=by
 unfold kH
 rw[uc (λa:ai=>decide (a.ah=r)) (λa=>bnd (fu a) λ(af:ai)=>some (af,true)) (λj x Z s=>rfl)]
 unfold gM
 cases hf:d.aC.find? (λa=>decide (a.ah=r))with
 |none=>rfl
 |some a=>simp only[wj (h.2 a (List.mem_of_find?_eq_some hf)),aO]
end Go.Proofs.YtjdopimopgpagaaGreat
namespace Go.Proofs.YtjdopimopgpagaaGreat
set_option linter.all false
open Go
variable {t:aS}
theorem ac3(h:ct t):Ok (jG t) (λp=>mY p.1=true∧ct p.2):=by
 unfold jG
 refine Ok.bnd (jM h (by decide) (by decide)) λp hp=>Ok.s ⟨?_,hp.2⟩
 have:=hp.1
 simp only[List.mem_cons,List.not_mem_nil,or_false]at this
 show mY p.1=true
 simp only[mY,Bool.or_eq_true,decide_eq_true_eq];omega
theorem xb{α:Type}{p:α→α→Bool}:∀{l:List α} {x:α},fQ p l=true→(∀y∈l,p y x=true)→fQ p (l++[x])=true
 |[],_,_,_=>rfl
 |[a],x,_,h=>by simp[fQ,h a (by simp)]
 |a::b::r,x,h,hx=>by
  simp only[fQ,Bool.and_eq_true]at h
  simp only[List.cons_append,fQ,Bool.and_eq_true]
  exact⟨h.1,xb h.2 λy hy=>hx y (by simp[hy])⟩
theorem zQ{α:Type}{p:α→Bool}{l:List α}{x:α}(h:l.all p=true)(hx:p x=true):(l++[x]).all p=true:=by simp[h,hx]
theorem ac4{r n:Int}(h:ct t)(hn:n≤9223372036854775807):Ok (jJ t r n) (λp=>SmA p.1∧(n=0→1≤r→r≤99→cm p.1=true∧p.1.ah=r∧∀l∈p.1.Links,l.bx≤6)∧ct p.2):=by
 unfold jJ
 refine Ok.bnd (jM h (by decide) (by decide)) λp1 h1=>?_
 have aiW:inB p1.1 1 1000000=true:=by
  have:=h1.1
  simp only[List.mem_cons,List.not_mem_nil,or_false]at this
  simp only[inB,Bool.and_eq_true,decide_eq_true_eq];omega
 refine Ok.bnd (dR h1.2 (by omega)) λp2 h2=>?_
 refine Ok.fV (λj (s:List bA×List Int×Int)=>((s.1.length:Int)≤j-1∧(1≤r→s.1.all (lz (ai.mk r 0 false [] []))=true)∧vH s.1=true∧(∀x∈s.1,x.bx<j))∧ct (aS.mk s.2.1 s.2.2)) 1 7 ?_ ?_ _ _ _ rfl (by omega) (by omega) ⟨by simp[vH,fQ],h2.2⟩
 ·intro j s Z hj1 hj2 hI hZ
  obtain⟨ls,L,At⟩:=s
  obtain⟨⟨q1,q2,q3,q4⟩,ht⟩:=hI
  simp only at q1 q2 q3 q4
  refine Ok.jn (λs:List Int×Int×List bA=>((s.2.2.length:Int)≤j∧(1≤r→s.2.2.all (lz (ai.mk r 0 false [] []))=true)∧vH s.2.2=true∧(∀x∈s.2.2,x.bx<j+1))∧ct (aS.mk s.1 s.2.1)) (λs hs=>hZ _ ⟨⟨by have:=hs.1.1;obtain⟨_,_,_⟩:=s;simp only at this ⊢;omega,hs.1.2.1,hs.1.2.2⟩,hs.2⟩) λJ1 hJ1=>?_
  have stay:∀L At,ct (aS.mk L At)→Ok (J1 (L,At,ls)) _:=λL At ht=>hJ1 _ ⟨⟨by show(ls.length:Int)≤j;omega,q2,q3,λx hx=>by have:=q4 x hx;omega⟩,ht⟩
  refine Ok.jn (λs:Bool×List Int×Int=>(s.1=true→j≠r)∧ct (aS.mk s.2.1 s.2.2)) (λs hs=>?_) λJ2 hJ2=>?_
  ·obtain⟨v,L2,At2⟩:=s
   refine Ok.cs (λhv=>?_) λ_=>stay _ _ hs.2
   refine Ok.bnd (kS hs.2) λp4 h4=>?_
   refine Ok.bnd (dR h4.2 (by omega)) λp5 h5=>?_
   refine Ok.bnd (gm (by simp;omega)) λl1 hl1=>?_
   obtain⟨hl1,hl2⟩:=hl1
   have hc:=h4.1 (by omega) (by omega) (by omega)
   have hcap:=h5.1
   refine hJ1 _ ⟨⟨by simp only;rw[hl2];simp;omega,λhr=>?_,?_,?_⟩,h5.2⟩
   ·simp only[hl1]
    refine zQ (q2 hr) ?_
    have hne:=hs.1 hv
    simp only[lz,inB,Bool.and_eq_true,decide_eq_true_eq,Bool.not_eq_true',decide_eq_false_iff_not]
    have:=hcap.2.1 (by omega)
    omega
   ·simp only[hl1,vH]
    exact xb q3 λy hy=>by simpa using q4 y hy
   ·simp only[hl1]
    intro x hx
    rcases List.mem_append.1 hx with hx|hx
    ·have:=q4 x hx;omega
    ·simp at hx;subst hx;show j<j+1;omega
  ·refine Ok.cs (λhc=>?_) λ_=>hJ2 _ ⟨by simp,ht⟩
   refine Ok.bnd (dR ht (by omega)) λp3 h3=>hJ2 _ ⟨λ_=>by simpa using hc,h3.2⟩
 intro j s hj1 hj2 hI
 obtain⟨ls,L,At⟩:=s
 obtain⟨⟨q1,q2,q3,q4⟩,ht⟩:=hI
 have hj:=hj2 (by omega)
 subst hj
 simp only at q1 q2 q3 q4
 refine Ok.fV (λk (s:List bH×List Int×Int)=>((s.1.length:Int)≤k∧s.1.all iN=true∧qq s.1=true∧(∀x∈s.1,x.b9<k))∧ct (aS.mk s.2.1 s.2.2)) 0 2 ?_ ?_ _ _ _ rfl (by omega) (by omega) ⟨by simp[qq,fQ],ht⟩
 ·intro k s Z hk1 hk2 hI hZ
  obtain⟨cs,L,At⟩:=s
  obtain⟨⟨r1,r2,r3,r4⟩,ht⟩:=hI
  simp only at r1 r2 r3 r4
  refine Ok.jn (λs:List Int×Int×List bH=>((s.2.2.length:Int)≤k+1∧s.2.2.all iN=true∧qq s.2.2=true∧(∀x∈s.2.2,x.b9<k+1))∧ct (aS.mk s.1 s.2.1)) (λs hs=>hZ _ ⟨hs.1,hs.2⟩) λJ3 hJ3=>?_
  refine Ok.bnd (dR ht (by omega)) λp6 h6=>?_
  refine Ok.cs (λ_=>?_) λ_=>hJ3 _ ⟨⟨by show(cs.length:Int)≤_;omega,r2,r3,λx hx=>by have:=r4 x hx;omega⟩,h6.2⟩
  refine Ok.bnd (kS h6.2) λp7 h7=>?_
  refine Ok.bnd (ac3 h7.2) λp8 h8=>?_
  refine Ok.bnd (gm (by simp;omega)) λl2 hl2=>?_
  obtain⟨hl1,hl2⟩:=hl2
  have hid:=h7.1 (by omega) (by omega) (by omega)
  refine hJ3 _ ⟨⟨by simp only;rw[hl2];simp;omega,?_,?_,?_⟩,h8.2⟩
  ·simp only[hl1]
   refine zQ r2 ?_
   simp only[iN,inB,h8.1,Bool.and_true,Bool.and_eq_true,decide_eq_true_eq]
   omega
  ·simp only[hl1,qq]
   exact xb r3 λy hy=>by simpa using r4 y hy
  ·simp only[hl1]
   intro x hx
   rcases List.mem_append.1 hx with hx|hx
   ·have:=r4 x hx;omega
   ·simp at hx;subst hx;show k<k+1;omega
 intro k s hk1 hk2 hI
 obtain⟨cs,L,At⟩:=s
 obtain⟨⟨r1,r2,r3,r4⟩,ht⟩:=hI
 have hk:=hk2 (by omega)
 subst hk
 simp only at r1 r2 r3 r4
 refine Ok.jn (λs:List Int×Int×Int×Int×List bA×List bH=>(s.2.2.2.2.1.length≤100000∧s.2.2.2.2.2.length≤100000)∧(n=0→s.2.2=(r,p1.1,ls,cs))∧ct (aS.mk s.1 s.2.1)) (λs hs=>?_) λJ4 hJ4=>?_
 ·obtain⟨a1,a2,a3,a4,a5,a6⟩:=s
  refine Ok.s ⟨hs.1,λhn hr1 hr2=>?_,hs.2.2⟩
  have:=hs.2.1 hn
  simp only[Prod.mk.injEq]at this
  obtain⟨rfl,rfl,rfl,rfl⟩:=this
  refine⟨?_,rfl,λl hl=>by have:=q4 l hl;omega⟩
  have g1:a5.all (lz (ai.mk a3 p1.1 (decide ((0:Int)<p2.1)) a5 a6))=true:=q2 hr1
  simp only[inB,Bool.and_eq_true,decide_eq_true_eq]at aiW
  simp only[cm,g1,q3,r2,r3,Bool.and_true,Bool.true_and,Bool.and_eq_true,decide_eq_true_eq,inB]
  omega
 refine Ok.jn (λs:Bool×List Int×Int=>(n=0→s.1=false)∧ct (aS.mk s.2.1 s.2.2)) (λs hs=>?_) λJ5 hJ5=>?_
 ·obtain⟨v,L2,At2⟩:=s
  have base:∀L At a b (l:List bA) (c:List bH),n≠0→l.length≤100000→c.length≤100000→ct (aS.mk L At)→Ok (J4 (L,At,a,b,l,c)) _:=λL At a b l c hn h1 h2 h3=>hJ4 _ ⟨⟨h1,h2⟩,λh=>absurd h hn,h3⟩
  refine Ok.cs (λhv=>?_) λ_=>hJ4 _ ⟨⟨by show ls.length≤_;omega,by show cs.length≤_;omega⟩,λ_=>rfl,hs.2⟩
  have hn0:n≠0:=λe=>by have:=hs.1 e;simp only at hv this;rw[hv]at this;cases this
  refine Ok.bnd (dR hs.2 (by omega)) λp10 h10=>?_
  refine Ok.cs (λ_=>Ok.bnd (w6 h10.2) λq hq=>base _ _ _ _ _ _ hn0 (by omega) (by omega) hq) λ_=>?_
  refine Ok.cs (λ_=>Ok.bnd (w6 h10.2) λq hq=>base _ _ _ _ _ _ hn0 (by omega) (by omega) hq) λ_=>?_
  refine Ok.cs (λ_=>?_) λ_=>?_
  ·refine Ok.bnd (jM h10.2 (by simp) (by simp)) λq1' g1=>Ok.bnd (jM g1.2 (by decide) (by decide)) λq2' g2=>Ok.bnd (jM g2.2 (by decide) (by decide)) λq3' g3=>?_
   exact Ok.bnd (gm (by simp;omega)) λl hl=>base _ _ _ _ _ _ hn0 (by rw[hl.2];simp;omega) (by omega) g3.2
  refine Ok.cs (λ_=>?_) λ_=>?_
  ·refine Ok.bnd (jM h10.2 (by decide) (by decide)) λq1' g1=>Ok.bnd (jM g1.2 (by decide) (by decide)) λq2' g2=>Ok.bnd (jM g2.2 (by decide) (by decide)) λq3' g3=>?_
   exact Ok.bnd (gm (by simp;omega)) λl hl=>base _ _ _ _ _ _ hn0 (by omega) (by rw[hl.2];simp;omega) g3.2
  refine Ok.cs (λ_=>?_) λ_=>?_
  ·refine Ok.fV (λj (m:List bA)=>(m.length:Int)≤ls.length+(j-30)) 30 54 ?_ ?_ _ _ _ rfl (by omega) (by omega) (by omega)
   ·intro j m Z hj1 hj2 hI hZ
    exact Ok.bnd (gm (by simp;omega)) λl hl=>hZ _ (by rw[hl.2];simp;omega)
   ·intro j m hj1 hj2 hI
    have:=hj2 (by omega)
    exact base _ _ _ _ _ _ hn0 (by omega) (by omega) h10.2
  refine Ok.cs (λhl0=>?_) λ_=>base _ _ _ _ _ _ hn0 (by omega) (by omega) h10.2
  refine Ok.bnd (w6 h10.2) λq hq=>?_
  simp at hl0
  refine Ok.bnd (mK (by omega) (by omega)) λe he=>?_
  exact Ok.bnd (aeb (by omega) (by omega)) λl hl=>base _ _ _ _ _ _ hn0 (by rw[hl.2];omega) (by omega) hq
 ·refine Ok.cs (λhc=>?_) λ_=>hJ5 _ ⟨λ_=>rfl,ht⟩
  have:n≠0:=by simp at hc;omega
  exact Ok.bnd (qA ht hn) λq hq=>hJ5 _ ⟨λe=>absurd e this,hq⟩
theorem aak{n:Int}(h:ct t)(hn:n≤9223372036854775807):Ok (iI t n) (λp=>(SmD p.1∧p.1.aC.length≤7∧(n=0→dbC p.1=0∧(∀a∈p.1.aC,a.ah≤6)∧∀a∈p.1.aC,∀l∈a.Links,l.bx≤6) )∧ct p.2):=by
 unfold iI
 refine Ok.fV (λj (s:List ai×List Int×Int)=>((s.1.length:Int)≤j-1∧(∀a∈s.1,SmA a)∧s.1.all cm=true∧fQ (λa b:ai=>decide (a.ah<b.ah)) s.1=true∧(∀a∈s.1,a.ah<j)∧∀a∈s.1,∀l∈a.Links,l.bx≤6)∧ct (aS.mk s.2.1 s.2.2)) 1 7 ?_ ?_ _ _ _ rfl (by omega) (by omega) ⟨by simp[fQ],h⟩
 ·intro j s Z hj1 hj2 hI hZ
  obtain⟨ads,L,At⟩:=s
  obtain⟨⟨q1,q2,q3,q4,q5,q6⟩,ht⟩:=hI
  simp only at q1 q2 q3 q4 q5 q6
  refine Ok.jn (λs:List Int×Int×List ai=>((s.2.2.length:Int)≤j∧(∀a∈s.2.2,SmA a)∧s.2.2.all cm=true∧fQ (λa b:ai=>decide (a.ah<b.ah)) s.2.2=true∧(∀a∈s.2.2,a.ah<j+1)∧∀a∈s.2.2,∀l∈a.Links,l.bx≤6)∧ct (aS.mk s.1 s.2.1)) (λs hs=>hZ _ ⟨⟨by have:=hs.1.1;obtain⟨_,_,_⟩:=s;simp only at this ⊢;omega,hs.1.2⟩,hs.2⟩) λJ1 hJ1=>?_
  refine Ok.bnd (dR ht (by omega)) λp1 h1=>?_
  refine Ok.cs (λ_=>?_) λ_=>hJ1 _ ⟨⟨by show(ads.length:Int)≤j;omega,q2,q3,q4,λa ha=>by have:=q5 a ha;omega,q6⟩,h1.2⟩
  refine Ok.bnd (ac4 (n:=0) h1.2 (by omega)) λp2 h2=>?_
  obtain⟨g1,g2,g3⟩:=h2
  have g2:=g2 rfl (by omega) (by omega)
  refine Ok.bnd (gm (by simp;omega)) λl hl=>?_
  obtain⟨hl,hl2⟩:=hl
  refine hJ1 _ ⟨⟨by simp only;rw[hl2];simp;omega,?_,?_,?_,?_,?_⟩,g3⟩
  ·simp only[hl];intro a ha
   rcases List.mem_append.1 ha with ha|ha
   ·exact q2 a ha
   ·simp at ha;subst ha;exact g1
  ·simp only[hl];exact zQ q3 g2.1
  ·simp only[hl];exact xb q4 λy hy=>by have:=q5 y hy;simp[g2.2.1];omega
  ·simp only[hl];intro a ha
   rcases List.mem_append.1 ha with ha|ha
   ·have:=q5 a ha;omega
   ·simp at ha;subst ha;rw[g2.2.1];omega
  ·simp only[hl];intro a ha
   rcases List.mem_append.1 ha with ha|ha
   ·exact q6 a ha
   ·simp at ha;subst ha;exact g2.2.2
 intro j s hj1 hj2 hI
 obtain⟨ads,L,At⟩:=s
 obtain⟨⟨q1,q2,q3,q4,q5,q6⟩,ht⟩:=hI
 have hj:=hj2 (by omega)
 subst hj
 simp only at q1 q2 q3 q4 q5 q6
 refine Ok.jn (λs:List Int×Int×List ai=>(s.2.2.length≤7∧(∀a∈s.2.2,SmA a)∧(n=0→s.2.2=ads))∧ct (aS.mk s.1 s.2.1)) (λs hs=>?_) λJ2 hJ2=>?_
 ·obtain⟨a1,a2,a3⟩:=s
  obtain⟨⟨g1,g2,g3⟩,g4⟩:=hs
  simp only at g1 g2 g3
  refine Ok.s ⟨⟨⟨by show a3.length≤_;omega,g2⟩,g1,λh0=>?_⟩,g4⟩
  have:=g3 h0
  subst this
  refine⟨?_,λa ha=>by have:=q5 a ha;omega,q6⟩
  have e:¬(99:Int)<a3.length:=by omega
  simp only[dbC,q3,aen,q4,e,decide_false,cond_true,cond_false]
 refine Ok.jn (λs:Bool×List Int×Int=>(n=0→s.1=false)∧ct (aS.mk s.2.1 s.2.2)) (λs hs=>?_) λJ3 hJ3=>?_
 ·obtain⟨v,L2,At2⟩:=s
  refine Ok.cs (λhv=>?_) λ_=>hJ2 _ ⟨⟨by show ads.length≤_;omega,q2,λ_=>rfl⟩,hs.2⟩
  have hn0:n≠0:=λe=>by have:=hs.1 e;simp only at hv this;rw[hv]at this;cases this
  refine Ok.bnd (jM hs.2 (by decide) (by decide)) λp4 h4=>?_
  refine Ok.bnd (ac4 h4.2 (by omega)) λp5 h5=>?_
  refine Ok.bnd (gm (by simp;omega)) λl hl=>?_
  obtain⟨hl,hl2⟩:=hl
  refine hJ2 _ ⟨⟨by simp only;rw[hl2];simp;omega,?_,λe=>absurd e hn0⟩,h5.2.2⟩
  simp only[hl];intro a ha
  rcases List.mem_append.1 ha with ha|ha
  ·exact q2 a ha
  ·simp at ha;subst ha;exact h5.1
 ·refine Ok.cs (λhc=>?_) λ_=>hJ3 _ ⟨λ_=>rfl,ht⟩
  have:n≠0:=by simp at hc;omega
  exact Ok.bnd (qA ht hn) λq hq=>hJ3 _ ⟨λe=>absurd e this,hq⟩
end Go.Proofs.YtjdopimopgpagaaGreat
namespace Go.Proofs.YtjdopimopgpagaaGreat
set_option linter.all false
open Go
structure Vd(d:aG):Prop where
 n:d.aC.length≤99
 ok:∀a∈d.aC,cm a=true
 asc:d.aC.Pairwise (λa b=>a.ah<b.ah)
variable {d:aG}
theorem jB:dbC d=0↔Vd d:=by
 unfold dbC aen
 constructor
 ·intro h
  by_cases h1:(99:Int)<d.aC.length
  ·simp[h1]at h
  cases h2:d.aC.all cm
  ·simp[h1,h2]at h
  cases h3:fQ (λa b:ai=>decide (a.ah<b.ah)) d.aC
  ·simp[h1,h2,h3]at h
  refine⟨by omega,λa ha=>List.all_eq_true.1 h2 a ha,?_⟩
  have:=pS (p:=λa b:ai=>decide (a.ah<b.ah)) (λa b c h1 h2=>by simp at h1 h2 ⊢;omega) h3
  exact this.imp (λh=>by simpa using h)
 ·intro h
  have h1:¬(99:Int)<d.aC.length:=by have:=h.n;omega
  have h2:d.aC.all cm=true:=List.all_eq_true.2 h.ok
  have h3:fQ (λa b:ai=>decide (a.ah<b.ah)) d.aC=true:=nO (h.asc.imp λh=>by simpa using h)
  simp[h1,h2,h3]
structure Va(a:ai):Prop where
 r:1≤a.ah∧a.ah≤99
 n:a.Links.length≤23
 nc:a.Claims.length≤8
 g:∀x∈a.Links,(1≤x.bx∧x.bx≤99)∧x.bx≠a.ah∧(1≤x.kN∧x.kN≤1000)∧0≤x.bX∧x.bX≤1000
 asc:a.Links.Pairwise (λx y=>x.bx<y.bx)
variable {a:ai}
theorem adA(h:cm a=true):Va a:=by
 simp only[cm,Bool.and_eq_true,decide_eq_true_eq,inB]at h
 obtain⟨⟨⟨⟨h1,_⟩,h2⟩,h3,h4⟩,h5,_⟩:=h
 refine⟨h1,by omega,by omega,λx hx=>?_,?_⟩
 ·have:=List.all_eq_true.1 h3 x hx
  simp only[lz,inB,Bool.and_eq_true,decide_eq_true_eq,Bool.not_eq_true',decide_eq_false_iff_not]at this
  exact⟨this.1.1.1,this.1.1.2,this.1.2,this.2⟩
 ·have:=pS (p:=λa b:bA=>decide (a.bx<b.bx)) (λa b c h1 h2=>by simp at h1 h2 ⊢;omega) h4
  exact this.imp (λh=>by simpa using h)
theorem Vd.sm(h:Vd d):SmD d:=⟨by have:=h.n;omega,λa ha=>by have:=adA (h.ok a ha);exact⟨by have:=this.n;omega,by have:=this.nc;omega⟩⟩
theorem abd{α:Type}{f:α→Int}:∀{l:List α},l.Pairwise (λa b=>f a<f b)→∀{a b:α},a∈l→b∈l→f a=f b→a=b
 |[],_,_,_,h,_,_=>by simp at h
 |x::r,hp,a,b,ha,hb,he=>by
  rw[List.pairwise_cons]at hp
  rcases List.mem_cons.1 ha with ea|ha'
  ·rcases List.mem_cons.1 hb with eb|hb'
   ·rw[ea,eb]
   ·have:=hp.1 b hb';rw[ea]at he;omega
  ·rcases List.mem_cons.1 hb with eb|hb'
   ·have:=hp.1 a ha';rw[eb]at he;omega
   ·exact abd hp.2 ha' hb' he
theorem Vd.uniq(h:Vd d){b:ai}(ha:a∈d.aC)(hb:b∈d.aC)(he:a.ah=b.ah):a=b:=abd h.asc ha hb he
theorem Va.uniq(h:Va a){x y:bA}(hx:x∈a.Links)(hy:y∈a.Links)(he:x.bx=y.bx):x=y:=abd h.asc hx hy he
theorem lB(d:aG)(r:Int):(∃a∈d.aC,a.ah=r∧gM d r=(a,true))∨((∀a∈d.aC,a.ah≠r)∧gM d r=(noA,false)):=by
 unfold gM
 cases h:d.aC.find? (λa=>decide (a.ah=r))with
 |some a=>exact .inl ⟨a,List.mem_of_find?_eq_some h,by simpa using List.find?_some h,rfl⟩
 |none=>exact .inr ⟨λa ha=>by simpa using List.find?_eq_none.1 h a ha,rfl⟩
theorem amw(h:Vd d)(ha:a∈d.aC):gM d a.ah=(a,true):=by
 rcases lB d a.ah with⟨b,hb,he,hf⟩|⟨hn,_⟩
 ·rw[hf,h.uniq hb ha he]
 ·exact absurd rfl (hn a ha)
def LkD(d:aG)(a b:Int):Prop:=∃x∈d.aC,∃y∈d.aC,x.ah=a∧y.ah=b∧(∃p∈x.Links,p.bx=b)∧∃q∈y.Links,q.bx=a
variable {b:Int}
theorem LkD.symm{a:Int}(h:LkD d a b):LkD d b a:=by
 obtain⟨x,hx,y,hy,e1,e2,p,q⟩:=h
 exact⟨y,hy,x,hx,e2,e1,q,p⟩
def mkL(x:ai)(p:bA)(y:ai)(q:bA):aK:=aK.mk x.ah y.ah p.kN q.kN (if q.bX<p.bX then q.bX else p.bX)
def IsLy(x y:ai)(l:aK):Prop:=∃p∈x.Links,∃q∈y.Links,x.ah<y.ah∧p.bx=y.ah∧q.bx=x.ah∧l=mkL x p y q
inductive Rd(d:aG)(at1:Int):Int→Prop
 |refl:Rd d at1 at1
 |step {a b:Int} (h:Rd d at1 a) (hl:LkD d a b):Rd d at1 b
structure IsV(d:aG)(at1:Int)(T:aA):Prop where
 apA:T.aH.Pairwise (λa b=>a.ID<b.ID)
 apB:∀r,r∈T.aH↔∃a∈d.aC,Rd d at1 a.ah∧r=bh.mk a.ah a.aX
 apC:T.Links.Pairwise (λa b=>ltL a b=true)
 apD:∀l,l∈T.Links↔∃x∈d.aC,Rd d at1 x.ah∧∃y∈d.aC,IsLy x y l
theorem uP{α:Type}{r:α→α→Prop}(hi:∀a,¬r a a)(ht:∀a b c,r a b→r b c→r a c):∀{l m:List α},l.Pairwise r→m.Pairwise r→(∀x,x∈l↔x∈m)→l=m
 |[],[],_,_,_=>rfl
 |[],y::m,_,_,h=>by have:=(h y).2 (by simp);simp at this
 |x::l,[],_,_,h=>by have:=(h x).1 (by simp);simp at this
 |x::l,y::m,h1,h2,h=>by
  rw[List.pairwise_cons]at h1 h2
  have hxy:x=y:=by
   rcases List.mem_cons.1 ((h x).1 (by simp))with e|e
   ·exact e
   rcases List.mem_cons.1 ((h y).2 (by simp))with e'|e'
   ·exact e'.symm
   ·exact absurd (ht _ _ _ (h1.1 y e') (h2.1 x e)) (hi x)
  subst hxy
  congr 1
  refine uP hi ht h1.2 h2.2 λz=>?_
  have:=h z
  simp only[List.mem_cons]at this
  constructor
  ·intro hz
   rcases this.1 (.inr hz)with q|q
   ·subst q;exact absurd (h1.1 _ hz) (hi _)
   ·exact q
  ·intro hz
   rcases this.2 (.inr hz)with q|q
   ·subst q;exact absurd (h2.1 _ hz) (hi _)
   ·exact q
theorem IsV.unique{at1:Int}{T U:aA}(h1:IsV d at1 T)(h2:IsV d at1 U):T=U:=by
 obtain⟨r1,l1⟩:=T
 obtain⟨r2,l2⟩:=U
 have e1:r1=r2:=uP (r:=λa b:bh=>a.ID<b.ID) (λa h=>by omega) (λa b c h h'=>by omega) h1.apA h2.apA λx=>(h1.apB x).trans (h2.apB x).symm
 have e2:l1=l2:=uP (r:=λa b:aK=>ltL a b=true) (λa h=>by simp[ltL]at h) (λa b c h h'=>wh a b c h h') h1.apC h2.apC λx=>(h1.apD x).trans (h2.apD x).symm
 rw[e1,e2]
def apF:aA:=aA.mk [] []
def agu(d:aG)(at1:Int)(T:aA):Prop:=(¬((∃a∈d.aC,a.ah=at1)∧Vd d)∧T=apF)∨(((∃a∈d.aC,a.ah=at1)∧Vd d)∧∃T0,IsV d at1 T0∧T=if nN T0=0 then T0 else apF)
theorem agu.unique{d:aG}{at1:Int}{T U:aA}(h1:agu d at1 T)(h2:agu d at1 U):T=U:=by
 rcases h1 with⟨a,b⟩|⟨a,T0,b,c⟩<;>rcases h2 with⟨a',b'⟩|⟨a',U0,b',c'⟩
 ·rw[b,b']
 ·exact absurd a' a
 ·exact absurd a a'
 ·rw[c,c',b.unique b']
def rts(d:aG):List Int:=d.aC.map (·.ah)
theorem LkD.mem{a:Int}(h:LkD d a b):b∈rts d:=by
 obtain⟨x,hx,y,hy,e1,e2,_⟩:=h
 exact List.mem_map.2 ⟨y,hy,e2⟩
theorem Vd.key(h:Vd d){r:Int}(ha:a∈d.aC)(he:a.ah=r):gM d r=(a,true):=by subst he;exact amw h ha
theorem amx{a b:aK}:ltL a b=true↔a.A<b.A∨a.A=b.A∧a.B<b.B:=by simp[ltL]
end Go.Proofs.YtjdopimopgpagaaGreat
namespace Go.Proofs.YtjdopimopgpagaaGreat
set_option linter.all false
open Go
def uz:List Int→Nat:=List.foldl (λa b=>a*256+b.toNat) 0
theorem vJ(l:List Int)(b:Int):uz (l++[b])=uz l*256+b.toNat:=by simp[uz]
variable {α:Type}
theorem acA:∀{l:List α},l≠[]→∃i b,l=i++[b]:=λ{l} h=>⟨l.dropLast,l.getLast h,(List.dropLast_concat_getLast h).symm⟩
theorem aep:∀(n:Nat) (l m:List Int),l.length=n→m.length=n→(∀b∈l,0≤b∧b<256)→(∀b∈m,0≤b∧b<256)→uz l=uz m→l=m
 |0,l,m,h1,h2,_,_,_=>by simp at h1 h2;rw[h1,h2]
 |n+1,l,m,h1,h2,hl,hm,h=>by
  obtain⟨i,b,rfl⟩:=acA (l:=l) (by intro e;simp[e]at h1)
  obtain⟨j,c,rfl⟩:=acA (l:=m) (by intro e;simp[e]at h2)
  rw[vJ,vJ]at h
  have hb:=hl b (by simp)
  have hc:=hm c (by simp)
  have e1:b=c:=by omega
  have e2:uz i=uz j:=by omega
  subst e1
  rw[aep n i j (by simpa using h1) (by simpa using h2) (λx hx=>hl x (by simp[hx])) (λx hx=>hm x (by simp[hx])) e2]
structure SR(D:List Int)(B V:Nat):Prop where
 by_:∀b∈D,0≤b∧b<256
 le:B≤8*D.length
 hi:8*D.length≤B+8
 num:uz D=V*2 ^ (8*D.length-B)
variable {B V:Nat}
theorem SR.unique{D E:List Int}(h1:SR D B V)(h2:SR E B V)(a:8*D.length<B+8)(b:8*E.length<B+8):D=E:=by
 have e:D.length=E.length:=by have:=h1.le;have:=h2.le;omega
 exact aep _ D E rfl e.symm h1.by_ h2.by_ (by rw[h1.num,h2.num,e])
theorem SR.nil:SR [] 0 0:=⟨by simp,by simp,by simp,by simp[uz]⟩
theorem SR.more{D:List Int}(h:SR D B V)(h8:8*D.length=B):SR (D++[0]) B V:=by
 refine⟨?_,by simp;omega,by simp;omega,?_⟩
 ·intro b hb
  rcases List.mem_append.1 hb with hb|hb
  ·exact h.by_ b hb
  ·simp at hb;omega
 ·rw[vJ,h.num]
  have e:8*(D++[(0:Int)]).length-B=8:=by simp;omega
  rw[e]
  have e2:8*D.length-B=0:=by omega
  rw[e2];simp
theorem SR.last{D:List Int}{b:Int}(h:SR (D++[b]) B V)(hf:B<8*(D.length+1)):0≤b∧b<256∧b.toNat%2 ^ (8*(D.length+1)-B)=0:=by
 have hb:=h.by_ b (by simp)
 refine⟨hb.1,hb.2,?_⟩
 have hn:=h.num
 have hh:=h.hi
 simp only[List.length_append,List.length_cons,List.length_nil,Nat.zero_add]at hn hh
 rw[vJ]at hn
 generalize hk:8*(D.length+1)-B=k at hn ⊢
 have h1:(256:Nat)=2 ^ k*2 ^ (8-k):=by rw[←Nat.pow_add,show k+(8-k)=8 by omega]
 have h2:(uz D*256+b.toNat)%2 ^ k=0:=by rw[hn];exact Nat.mul_mod_left _ _
 rw[h1,←Nat.mul_assoc,Nat.mul_right_comm,Nat.mul_add_mod']at h2
 exact h2
variable {k:Nat}
theorem SR.push{D:List Int}{b:Int}{x:Nat}(h:SR (D++[b]) B V)(hk:1≤k)(hf:B+k≤8*(D.length+1))(hx:x<2 ^ k):
  SR (D++[b+(x*2 ^ (8*(D.length+1)-B-k):Nat)]) (B+k) (V*2 ^ k+x)∧b.toNat+x*2 ^ (8*(D.length+1)-B-k)<256∧x*2 ^ (8*(D.length+1)-B-k)<2 ^ (8*(D.length+1)-B):=by
 obtain⟨b0,b1,b2⟩:=h.last (by omega)
 have hh:=h.hi
 simp only[List.length_append,List.length_cons,List.length_nil,Nat.zero_add]at hh
 generalize hf0:8*(D.length+1)-B=f at b2 ⊢
 have hx2:x*2 ^ (f-k)<2 ^ f:=by
  have:2 ^ f=2 ^ k*2 ^ (f-k):=by rw[←Nat.pow_add,show k+(f-k)=f by omega]
  rw[this];exact Nat.mul_lt_mul_of_pos_right hx (Nat.two_pow_pos _)
 have hlt:b.toNat+x*2 ^ (f-k)<256:=by
  have e1:(256:Nat)=2 ^ f*2 ^ (8-f):=by rw[←Nat.pow_add,show f+(8-f)=8 by omega]
  obtain⟨q,hq⟩:=Nat.dvd_of_mod_eq_zero b2
  have hb8:b.toNat<2 ^ f*2 ^ (8-f):=by rw[←e1];omega
  rw[hq]at hb8 ⊢
  have hq8:q<2 ^ (8-f):=Nat.lt_of_mul_lt_mul_left hb8
  rw[e1]
  have s1:2 ^ f*(q+1)≤2 ^ f*2 ^ (8-f):=Nat.mul_le_mul_left _ hq8
  rw[Nat.mul_add,Nat.mul_one]at s1
  omega
 refine⟨⟨?_,by simp;omega,by simp;omega,?_⟩,hlt,hx2⟩
 ·intro y hy
  rcases List.mem_append.1 hy with hy|hy
  ·exact h.by_ y (by simp[hy])
  ·simp only[List.mem_singleton]at hy;omega
 ·have hn:=h.num
  simp only[List.length_append,List.length_cons,List.length_nil,Nat.zero_add]at hn ⊢
  rw[vJ]at hn ⊢
  rw[hf0]at hn
  rw[show 8*(D.length+1)-(B+k)=f-k by omega]
  have e:(b+(x*2 ^ (f-k):Nat)).toNat=b.toNat+x*2 ^ (f-k):=by omega
  rw[e,Nat.add_mul,Nat.mul_assoc,←Nat.pow_add,show k+(f-k)=f by omega]
  omega
variable {b:Nat}
theorem ahm{y f:Nat}(hb:b%2 ^ f=0)(hy:y<2 ^ f):b ||| y=b+y:=by
 obtain⟨q,rfl⟩:=Nat.dvd_of_mod_eq_zero hb
 rw[Nat.mul_comm,←Nat.shiftLeft_eq,Nat.shiftLeft_add_eq_or_of_lt hy]
theorem ahn(n:Int):IntKind.wrap .u8 n=n%256:=rfl
theorem amy(n:Int):IntKind.wrap .u64 n=n%18446744073709551616:=rfl
theorem wU8{n:Nat}(h:n<256):IntKind.wrap .u8 (n:Int)=n:=by rw[ahn];omega
theorem qs{n:Nat}(h:n<18446744073709551616):IntKind.wrap .u64 (n:Int)=n:=by rw[amy];omega
variable {a:Nat}
theorem or8(ha:a<256)(hb:b<256):dx .or .u8 a b=((a ||| b:Nat):Int):=by
 show IntKind.wrap .u8 ((BitVec.ofNat 8 a ||| BitVec.ofNat 8 b).toNat:Int)=_
 rw[BitVec.toNat_or,BitVec.toNat_ofNat,BitVec.toNat_ofNat,Nat.mod_eq_of_lt (show a<2 ^ 8 from ha),Nat.mod_eq_of_lt (show b<2 ^ 8 from hb)]
 exact wU8 (Nat.or_lt_two_pow (n:=8) ha hb)
theorem and8(ha:a<256)(hb:b<256):dx .and .u8 a b=((a &&& b:Nat):Int):=by
 show IntKind.wrap .u8 ((BitVec.ofNat 8 a &&& BitVec.ofNat 8 b).toNat:Int)=_
 rw[BitVec.toNat_and,BitVec.toNat_ofNat,BitVec.toNat_ofNat,Nat.mod_eq_of_lt (show a<2 ^ 8 from ha),Nat.mod_eq_of_lt (show b<2 ^ 8 from hb)]
 exact wU8 (Nat.lt_of_le_of_lt Nat.and_le_left ha)
theorem akk(ha:a<2 ^ 64)(hb:b<2 ^ 64):dx .and .u64 a b=((a &&& b:Nat):Int):=by
 show IntKind.wrap .u64 ((BitVec.ofNat 64 a &&& BitVec.ofNat 64 b).toNat:Int)=_
 rw[BitVec.toNat_and,BitVec.toNat_ofNat,BitVec.toNat_ofNat,Nat.mod_eq_of_lt ha,Nat.mod_eq_of_lt hb]
 exact qs (Nat.lt_of_le_of_lt Nat.and_le_left ha)
theorem apG(ha:a<256):dx .and .u8 a 1=((a%2:Nat):Int):=by
 have:=and8 ha (show 1<256 by decide)
 rw[Nat.and_one_is_mod]at this;exact this
theorem acB(ha:a<2 ^ 64):dx .and .u64 a 1=((a%2:Nat):Int):=by
 have:=akk ha (show 1<2 ^ 64 by decide)
 rw[Nat.and_one_is_mod]at this;exact this
theorem apH(ha:a<2 ^ 64)(hk:k<64):dx .and .u64 a ((2 ^ k-1:Nat):Int)=((a%2 ^ k:Nat):Int):=by
 have hb:2 ^ k-1<2 ^ 64:=by have:=Nat.pow_lt_pow_right (show 1<2 by decide) hk;omega
 rw[akk ha hb,Nat.and_two_pow_sub_one_eq_mod]
theorem zR(a k:Nat):Int.fdiv (a:Int) (2 ^ k)=((a / 2 ^ k:Nat):Int):=by
 have:((2:Int) ^ k)=((2 ^ k:Nat):Int):=by norm_cast
 rw[this,Int.fdiv_eq_ediv_of_nonneg _ (Int.natCast_nonneg _)];rfl
def fM:List UInt8→List UInt8→Int
 |[],[]=>0
 |[],_::_=>-1
 |_::_,[]=>1
 |a::x,b::y=>if a=b then fM x y else if a<b then -1 else 1
theorem apI(l:List UInt8)(i:Nat):(⟨l.toArray⟩:ByteArray)[i]! = l[i]!:=by
 by_cases h:i<l.length
 ·rw[getElem!_pos l i h,getElem!_pos (⟨l.toArray⟩:ByteArray) i (by show i<l.toArray.size;simpa using h)];rfl
 ·rw[getElem!_neg l i h,getElem!_neg (⟨l.toArray⟩:ByteArray) i (by show ¬i<l.toArray.size;simpa using h)]
theorem aiX:∀(x y:List UInt8),Go.Extern.BytealgCompare.cmp ⟨x.toArray⟩ ⟨y.toArray⟩=fM x y:=by
 intro x y
 unfold Go.Extern.BytealgCompare.cmp
 simp only[apI]
 show(match(List.range (min x.length y.length)).find? λi=>x[i]! != y[i]! with
  |some i=>if x[i]!<y[i]! then -1 else 1
  |none=>if x.length<y.length then -1 else if x.length>y.length then 1 else 0)=fM x y
 induction x generalizing y with
 |nil=>cases y<;>simp[fM]
 |cons a x ih=>
  cases y with
  |nil=>simp[fM]
  |cons b y=>
   simp only[fM,List.length_cons]
   rw[show min (x.length+1) (y.length+1)=min x.length y.length+1 by omega,List.range_succ_eq_map,List.find?_cons]
   by_cases h:a=b
   ·subst h
    rw[if_pos rfl,←ih]
    simp only[List.getElem!_cons_zero,bne_self_eq_false,List.find?_map,Function.comp_def,Nat.succ_eq_add_one,List.getElem!_cons_succ]
    cases(List.range (min x.length y.length)).find? (λi=>x[i]! != y[i]!)<;>simp
   ·rw[if_neg h]
    have e:((a::x)[0]! != (b::y)[0]!)=true:=by simpa using h
    simp only[e]
    simp
theorem aeq:∀(x y:List UInt8),0<fM x y↔(Go.Op.bytesLess x y=false∧x≠y)
 |[],[]=>by simp[Go.Op.bytesLess,fM]
 |[],_::_=>by simp[Go.Op.bytesLess,fM]
 |_::_,[]=>by simp[Go.Op.bytesLess,fM]
 |a::x,b::y=>by
  simp only[Go.Op.bytesLess,fM]
  by_cases h:a=b
  ·subst h
   rw[if_pos rfl,aeq x y]
   have:¬a<a:=UInt8.lt_irrefl a
   simp[this]
  ·rw[if_neg h]
   by_cases h2:a<b
   ·simp[h2]
   ·simp[h2,h]
theorem aho(x y:List UInt8):(!(Go.Op.bytesLess x y||x==y))=decide (0<fM x y):=by
 rw[Bool.eq_iff_iff,decide_eq_true_iff,aeq]
 cases Go.Op.bytesLess x y<;>simp
theorem ac5:∀x:List UInt8,fM x x=0
 |[]=>rfl
 |a::x=>by simp[fM,ac5 x]
theorem wk:∀x y:List UInt8,fM y x =-fM x y
 |[],[]=>rfl
 |[],_::_=>rfl
 |_::_,[]=>rfl
 |a::x,b::y=>by
  simp only[fM]
  by_cases h:a=b
  ·subst h;simp[wk x y]
  ·rw[if_neg h,if_neg (Ne.symm h)]
   by_cases h2:a<b
   ·rw[if_pos h2,if_neg (by intro h3;exact UInt8.lt_irrefl _ (UInt8.lt_trans h2 h3))];rfl
   ·rw[if_neg h2,if_pos (by
     rcases Nat.lt_trichotomy a.toNat b.toNat with h3|h3|h3
     ·exact absurd (UInt8.lt_iff_toNat_lt.2 h3) h2
     ·exact absurd (UInt8.toNat_inj.1 h3) h
     ·exact UInt8.lt_iff_toNat_lt.2 h3)]
theorem acC:∀{x y:List UInt8},fM x y=0→x=y
 |[],[],_=>rfl
 |[],_::_,h=>by simp[fM]at h
 |_::_,[],h=>by simp[fM]at h
 |a::x,b::y,h=>by
  simp only[fM]at h
  by_cases e:a=b
  ·rw[if_pos e]at h;rw[e,acC h]
  ·rw[if_neg e]at h;split at h<;>simp at h
theorem abK:∀{x y z:List UInt8},0<fM x y→0<fM y z→0<fM x z
 |[],[],_,h,_=>by simp[fM]at h
 |[],_::_,_,h,_=>by simp[fM]at h
 |_::_,[],z,_,h=>by cases z<;>simp[fM]at h
 |_::_,_::_,[],_,_=>by simp[fM]
 |a::x,b::y,c::z,h1,h2=>by
  simp only[fM]at h1 h2 ⊢
  by_cases e1:a=b
  ·subst e1
   rw[if_pos rfl]at h1
   by_cases e2:a=c
   ·rw[if_pos e2]at h2 ⊢;exact abK h1 h2
   ·rw[if_neg e2]at h2 ⊢;exact h2
  ·rw[if_neg e1]at h1
   have g1:¬a<b:=by intro h;rw[if_pos h]at h1;omega
   by_cases e2:b=c
   ·subst e2
    rw[if_neg e1,if_neg g1];omega
   ·rw[if_neg e2]at h2
    have g2:¬b<c:=by intro h;rw[if_pos h]at h2;omega
    simp only[UInt8.lt_iff_toNat_lt]at g1 g2
    have n1:a.toNat≠b.toNat:=λh=>e1 (UInt8.toNat_inj.1 h)
    have n2:b.toNat≠c.toNat:=λh=>e2 (UInt8.toNat_inj.1 h)
    rw[if_neg (by rintro rfl;omega),if_neg (by rw[UInt8.lt_iff_toNat_lt];omega)];omega
structure Str(s:bp)(B V:Nat):Prop where
 b:s.Bits=B
 r:SR s.Data B V
 t:8*s.Data.length<B+8
theorem Str.nil:Str (bp.mk [] 0) 0 0:=⟨rfl,SR.nil,by simp⟩
theorem Str.unique{s u:bp}{B V:Nat}(h1:Str s B V)(h2:Str u B V):s=u:=by
 have:=h1.r.unique h2.r h1.t h2.t
 obtain⟨d,n⟩:=s
 obtain⟨e,m⟩:=u
 have a:=h1.b;have b:=h2.b
 simp only at this a b
 subst this;rw[a,b]
theorem Str.split{s:bp}(h:Str s B V)(hf:8*s.Data.length≠B):∃i b,s.Data=i++[b]∧8*(i.length+1)=8*s.Data.length:=by
 have:=h.r.le
 obtain⟨i,b,e⟩:=acA (l:=s.Data) (by intro e;simp[e]at *;omega)
 exact⟨i,b,e,by rw[e];simp⟩
theorem x5(i:List α)(b:α){n:Int}(h:n=i.length):elO (i++[b]) n=some b:=by subst h;exact iK i b []
theorem ac6(i:List α)(b c:α){n:Int}(h:n=i.length):ic (i++[b]) n c=some (i++[c]):=by
 subst h
 unfold ic
 rw[if_pos ⟨by omega,by simp;omega⟩]
 simp
theorem aeX{n:Nat}(h:n≤100000):oF n=some (((n+7) / 8:Nat):Int):=by
 unfold oF
 have e:Int.tdiv ((n:Int)+7) 8=(((n+7) / 8:Nat):Int):=by rw[Int.tdiv_eq_ediv_of_nonneg (by omega)];omega
 rw[cB (n:=(n:Int)+7) (by omega) (by omega),e,cB (by omega) (by omega)]
theorem aal{s:bp}(h:Str s B V)(hB:B≤8192):me s=some true:=by
 have hle:=h.r.le;have ht:=h.t;have hb:=h.b
 refine Ok.eq ?_
 unfold me
 refine Ok.jn (λv=>v=false) (λv hv=>?_) (λJ hJ=>?_)
 ·subst hv
  rw[cond_false,hb,cB (n:=8*(s.Data.length:Int)) (by omega) (by omega),cB (n:=8*(s.Data.length:Int)-B) (by omega) (by omega)]
  refine Ok.cs (λ_=>Ok.s rfl) λhc=>?_
  have hc:8*(s.Data.length:Int)-B≠0:=by simpa using hc
  obtain⟨i,b,hD,hi⟩:=h.split (by omega)
  have hl:=h.r
  rw[hD]at hl
  obtain⟨b0,b1,b2⟩:=hl.last (by omega)
  rw[cB (n:=(s.Data.length:Int)-1) (by omega) (by omega),hD,x5 i b (by simp),aO]
  have e:8*((i++[b]).length:Int)-B=((8*(i.length+1)-B:Nat):Int):=by simp;omega
  rw[e]
  generalize hf:8*(i.length+1)-B=f at b2 ⊢
  rw[cB (n:=(8:Int)-(f:Int)) (by omega) (by omega)]
  refine Ok.chk (by simp;omega) (Ok.s ?_)
  obtain⟨q,hq⟩:=Nat.dvd_of_mod_eq_zero b2
  have e2:min ((8:Int)-f).toNat 8=8-f:=by omega
  rw[e2,show b=((b.toNat:Nat):Int)by omega,hq]
  have e3:(((2 ^ f*q:Nat):Int)*2 ^ (8-f))=((256*q:Nat):Int):=by
   have e1:(256:Nat)=2 ^ f*2 ^ (8-f):=by rw[←Nat.pow_add,show f+(8-f)=8 by omega]
   rw[e1,Nat.mul_assoc,Nat.mul_comm (2 ^ (8-f)) q,←Nat.mul_assoc]
   push_cast;rfl
  rw[e3,ahn]
  simp
 ·rw[hb,aeX (by omega)]
  refine Ok.cs (λhc=>by simp at hc;omega) λ_=>?_
  refine Ok.cs (λhc=>by simp at hc;omega) λ_=>?_
  rw[aO]
  exact hJ _ (by simp;omega)
theorem aeY{s:bp}{v n:Nat}(h:Str s B V)(hn:n≤64)(hv:v<2 ^ n)(hB:B+n≤8192):Ok (oG s v n) (λu=>Str u (B+n) (V*2 ^ n+v)):=by
 unfold oG
 have agv:v<2 ^ 64:=Nat.lt_of_lt_of_le hv (Nat.pow_le_pow_right (by decide) hn)
 refine Ok.whl (λsg:Int×List Int×Int=>∃(r k:Nat) (D:List Int),sg=((r:Int),D,((B+k:Nat):Int))∧r+k=n∧SR D (B+k) (V*2 ^ k+v / 2 ^ r)∧8*D.length<B+k+8) (λsg=>sg.1.toNat) ⟨n,0,s.Data,by rw[h.b];rfl,by simp,by
   rw[Nat.div_eq_of_lt hv];simpa using h.r,by simpa using h.t⟩ (by simp only;omega) ?_
 rintro _ Z ⟨r,k,D,rfl,hrk,hr,ht⟩ hZ
 have hle:=hr.le
 simp only
 refine Ok.cs (λhc=>?_) λhc=>?_
 ·have hr0:0<r:=by simpa using hc
  rw[cB (n:=8*(D.length:Int)) (by omega) (by omega),cB (n:=8*(D.length:Int)-((B+k:Nat):Int)) (by omega) (by omega)]
  refine Ok.jn (λsg:Int×List Int=>∃(i:List Int) (b:Int) (f:Nat),sg=((f:Int),i++[b])∧SR (i++[b]) (B+k) (V*2 ^ k+v / 2 ^ r)∧8*(i.length+1)-(B+k)=f∧1≤f∧f≤8) ?_ ?_
  ·rintro _ ⟨i,b,f,rfl,hs,hf,hf1,hf8⟩
   simp only
   obtain⟨m,hm⟩:∃m:Nat,(if(f:Int)<r then(f:Int)else r)=m∧1≤m∧m≤f∧m≤r:=by
    by_cases h:(f:Int)<r
    ·exact⟨f,by rw[if_pos h],by omega,by omega,by omega⟩
    ·exact⟨r,by rw[if_neg h],by omega,by omega,by omega⟩
   obtain⟨hm,hm1,hmf,hmr⟩:=hm
   rw[hm]
   have e1:w64 ((r:Int)-m)=((r-m:Nat):Int):=by rw[cB (by omega) (by omega)];omega
   have e2:w64 ((f:Int)-m)=((f-m:Nat):Int):=by rw[cB (by omega) (by omega)];omega
   have e3:w64 (((i++[b]).length:Int)-1)=i.length:=by
    have:=hs.le;have:=hs.hi
    simp at *
    rw[cB (by omega) (by omega)]
   have e4:w64 (((B+k:Nat):Int)+m)=((B+(k+m):Nat):Int):=by rw[cB (by omega) (by omega)];omega
   rw[e1,e2,e3,e4]
   refine Ok.chk (by simp) (Ok.chk (by simp) ?_)
   rw[x5 i b rfl,aO]
   refine Ok.chk (by simp) ?_
   have hsl:=hs.last (by omega)
   have e5:Int.fdiv (v:Int) (2 ^ min ((r-m:Nat):Int).toNat 64)=((v / 2 ^ (r-m):Nat):Int):=by
    rw[show min ((r-m:Nat):Int).toNat 64=r-m by omega,zR]
   have e6:IntKind.wrap .u64 (IntKind.wrap .u64 ((1:Int)*2 ^ min (m:Int).toNat 64)-1)=((2 ^ m-1:Nat):Int):=by
    rw[show min (m:Int).toNat 64=m by omega]
    have hp:2 ^ m≤2 ^ 8:=Nat.pow_le_pow_right (by decide) (by omega)
    have hp0:0<2 ^ m:=Nat.two_pow_pos m
    have:(1:Int)*2 ^ m=((2 ^ m:Nat):Int):=by push_cast;omega
    rw[this,qs (by omega),show((2 ^ m:Nat):Int)-1=((2 ^ m-1:Nat):Int)by omega,qs (by omega)]
   rw[e5,e6,apH (Nat.lt_of_le_of_lt (Nat.div_le_self _ _) agv) (by omega)]
   obtain⟨hp1,hp2,hp3⟩:=hs.push (k:=m) (x:=v / 2 ^ (r-m)%2 ^ m) hm1 (by omega) (Nat.mod_lt _ (Nat.two_pow_pos _))
   rw[hf]at hp1 hp2 hp3
   generalize hx:v / 2 ^ (r-m)%2 ^ m=x at hp1 hp2 hp3 ⊢
   have e7:(x:Int)*2 ^ min ((f-m:Nat):Int).toNat 64=((x*2 ^ (f-m):Nat):Int):=by
    rw[show min ((f-m:Nat):Int).toNat 64=f-m by omega];push_cast;rfl
   have hy:x*2 ^ (f-m)<256:=by omega
   rw[e7,qs (by omega),wU8 (by omega)]
   rw[hf]at hsl
   have e8:dx .or .u8 b ((x*2 ^ (f-m):Nat):Int)=b+((x*2 ^ (f-m):Nat):Int):=by
    obtain⟨hb0,hb1,hb2⟩:=hsl
    have:=or8 (a:=b.toNat) (b:=x*2 ^ (f-m)) (by omega) hy
    rw[show((b.toNat:Nat):Int)=b by omega]at this
    rw[this,ahm hb2 hp3];omega
   rw[e8,ac6 i b _ rfl,aO]
   refine hZ _ ⟨r-m,k+m,_,rfl,by omega,?_,?_⟩ (by simp only;omega)
   ·rw[←Nat.add_assoc]
    have e9:(V*2 ^ k+v / 2 ^ r)*2 ^ m+x=V*2 ^ (k+m)+v / 2 ^ (r-m):=by
     have d1:v / 2 ^ r=v / 2 ^ (r-m) / 2 ^ m:=by rw[Nat.div_div_eq_div_mul,←Nat.pow_add,show r-m+m=r by omega]
     rw[Nat.add_mul,Nat.mul_assoc,←Nat.pow_add,d1,←hx]
     have:=Nat.div_add_mod (v / 2 ^ (r-m)) (2 ^ m)
     rw[Nat.mul_comm (2 ^ m)]at this
     omega
    rw[←e9];exact hp1
   ·simp;omega
  ·intro J hJ
   refine Ok.cs (λhc=>?_) λhc=>?_
   ·have hc:8*(D.length:Int)-((B+k:Nat):Int)=0:=by simpa using hc
    rw[dQ (by simp;omega),aO]
    exact hJ _ ⟨D,0,8,rfl,hr.more (by omega),by omega,by omega,by omega⟩
   ·have hc:8*(D.length:Int)-((B+k:Nat):Int)≠0:=by simpa using hc
    have hst:Str (bp.mk D ((B+k:Nat):Int)) (B+k) (V*2 ^ k+v / 2 ^ r):=⟨rfl,hr,ht⟩
    obtain⟨i,b,hD,hi⟩:=hst.split (by simp only;omega)
    simp only at hD hi
    refine hJ _ ⟨i,b,8*D.length-(B+k),?_,by rw[←hD];exact hr,by omega,by omega,by omega⟩
    rw[←hD];simp;omega
 ·have hr0:r=0:=by simpa using hc
  subst hr0
  obtain rfl:k=n:=by omega
  refine Ok.s ⟨rfl,?_,by simpa using ht⟩
  simpa using hr
theorem aer{s:bp}{v n:Nat}(h:Str s B V)(hn:n≤64)(hv:v<2 ^ n)(hB:B+n≤8192):Ok (nH s v n) (λu=>Str u.1 (B+n) (V*2 ^ n+v)∧u.2=0):=by
 unfold nH
 have hle:=h.r.le;have ht:=h.t;have hb:=h.b
 rw[aal h (by omega),aO]
 simp only[Bool.not_true,cond_false]
 refine Ok.jn (λv=>v=false) (λv1 hv1=>?_) λJ hJ=>?_
 ·subst hv1
  rw[cond_false,hb,cB (by omega) (by omega)]
  refine Ok.cs (λhc=>by simp at hc;omega) λ_=>?_
  unfold qV
  rw[dQ (by simp;omega),aO,aO]
  refine Ok.bnd (aeY (B:=B) (V:=V) (s:=bp.mk ([]++s.Data) s.Bits) ⟨hb,by simpa using h.r,by simpa using ht⟩ hn hv hB) λu hu=>Ok.s ⟨hu,rfl⟩
 ·refine Ok.cs (λhc=>by simp at hc;omega) λ_=>?_
  refine Ok.cs (λhc=>by simp at hc;omega) λ_=>?_
  refine Ok.cs (λhc=>?_) λ_=>hJ _ rfl
  have hn2:n<64:=by simp at hc;omega
  refine Ok.chk (by simp) (hJ _ ?_)
  rw[show min ((n:Nat):Int).toNat 64=n by omega,zR,Nat.div_eq_of_lt hv];simp
theorem aes{i:List Int}{b:Int}(h0:0≤b)(h1:b<256)(hk:8*i.length≤k)(hk2:k<8*(i.length+1))(hl:k≤100000):lD (i++[b]) (k:Int)=some ((b.toNat / 2 ^ (7-k%8)%2:Nat):Int):=by
 unfold lD
 have e1:Int.tdiv (k:Int) 8=i.length:=by rw[Int.tdiv_eq_ediv_of_nonneg (by omega)];omega
 have e2:Int.tmod (k:Int) 8=((k%8:Nat):Int):=by rw[Int.tmod_eq_emod_of_nonneg (by omega)];omega
 have e3:(7:Int)-((k%8:Nat):Int)=((7-k%8:Nat):Int):=by omega
 rw[e1,e2,e3,cB (by omega) (by omega),x5 i b rfl,aO,cB (by omega) (by omega),qs (by omega)]
 rw[oz (by simp)]
 have e4:min ((7-k%8:Nat):Int).toNat 8=7-k%8:=by omega
 have hlt:b.toNat / 2 ^ (7-k%8)<256:=Nat.lt_of_le_of_lt (Nat.div_le_self _ _) (by omega)
 have e5:Int.fdiv b (2 ^ (7-k%8))=((b.toNat / 2 ^ (7-k%8):Nat):Int):=by
  rw[←zR,show((b.toNat:Nat):Int)=b by omega]
 rw[e4,e5,qs (by omega),acB (by omega)]
theorem tD{s:bp}(h:Str s B V)(hB:B≤8192):kO s=some true:=by
 have hle:=h.r.le;have ht:=h.t;have hb:=h.b
 refine Ok.eq ?_
 unfold kO
 rw[hb]
 have e1:Int.tdiv (w64 ((B:Int)+7)) 8=((s.Data.length:Nat):Int):=by rw[cB (by omega) (by omega),Int.tdiv_eq_ediv_of_nonneg (by omega)];omega
 rw[e1,cB (n:=(s.Data.length:Int)) (by omega) (by omega),cB (n:=8*(s.Data.length:Int)) (by omega) (by omega)]
 refine Ok.cs (λhc=>by simp at hc;omega) λ_=>?_
 refine Ok.whl (λi:Int=>(B:Int)≤i∧i≤8*s.Data.length) (λi=>(8*(s.Data.length:Int)-i).toNat) ⟨by omega,by omega⟩ (by omega) ?_
 rintro i Z ⟨h1,h2⟩ hZ
 refine Ok.cs (λhc=>?_) λ_=>Ok.s rfl
 have hc:i<8*(s.Data.length:Int):=by simpa using hc
 obtain⟨p,b,hD,hi⟩:=h.split (by omega)
 have hl:=h.r
 rw[hD]at hl
 obtain⟨b0,b1,b2⟩:=hl.last (by omega)
 obtain⟨k,rfl⟩:∃k:Nat,i=k:=⟨i.toNat,by omega⟩
 rw[hD,aes b0 b1 (by omega) (by omega) (by omega),aO]
 have hbit:b.toNat / 2 ^ (7-k%8)%2=0:=by
  obtain⟨q,hq⟩:=Nat.dvd_of_mod_eq_zero b2
  generalize hf:8*(p.length+1)-B=f at hq
  have:2 ^ f=2 ^ (7-k%8)*(2*2 ^ (f-(7-k%8)-1)):=by
   rw[←Nat.pow_succ',←Nat.pow_add];congr 1;omega
  rw[hq,this,Nat.mul_assoc,Nat.mul_div_cancel_left _ (Nat.two_pow_pos _),Nat.mul_assoc]
  exact Nat.mul_mod_right _ _
 rw[hbit]
 refine Ok.cs (λhc=>by simp at hc) λ_=>?_
 rw[cB (by omega) (by omega)]
 exact hZ _ ⟨by omega,by omega⟩ (by omega)
theorem ac7{s:bp}(h:Str s B V)(hb1:b<2)(hB:B+1≤8192):Ok (oN s b) (λu=>Str u (B+1) (V*2+b)):=by
 have hle:=h.r.le;have ht:=h.t;have hb:=h.b
 unfold oN
 rw[hb]
 have e1:Int.tdiv (B:Int) 8=((B / 8:Nat):Int):=by rw[Int.tdiv_eq_ediv_of_nonneg (by omega)];omega
 have e2:Int.tmod (B:Int) 8=((B%8:Nat):Int):=by rw[Int.tmod_eq_emod_of_nonneg (by omega)];omega
 have e3:(7:Int)-((B%8:Nat):Int)=((7-B%8:Nat):Int):=by omega
 rw[e1,e2,e3,cB (by omega) (by omega),cB (by omega) (by omega),cB (by omega) (by omega),qs (by omega)]
 refine Ok.bnd (P:=λl=>l=s.Data) ⟨_,dQ (by simp;omega),by simp⟩ ?_
 rintro _ rfl
 refine Ok.jn (λl=>∃(i:List Int) (c:Int),l=i++[c]∧SR (i++[c]) B V∧i.length=B / 8) ?_ ?_
 ·rintro _ ⟨i,c,rfl,hs,hi⟩
  refine Ok.jn (λl=>SR l (B+1) (V*2+b)∧8*l.length<B+1+8) (λl hl=>Ok.s ⟨rfl,hl.1,hl.2⟩) λJ hJ=>?_
  obtain⟨hp1,hp2,hp3⟩:=hs.push (k:=1) (x:=b) (by omega) (by omega) (by omega)
  refine Ok.cs (λhc=>?_) λhc=>?_
  ·have hc:b=1:=by simp at hc;omega
   subst hc
   rw[x5 i c (by omega),aO,oz (by simp)]
   obtain⟨c0,c1,c2⟩:=hs.last (by omega)
   have e5:min ((7-B%8:Nat):Int).toNat 8=8*(i.length+1)-B-1:=by omega
   have e6:(1:Int)*2 ^ (8*(i.length+1)-B-1)=((1*2 ^ (8*(i.length+1)-B-1):Nat):Int):=by push_cast;rfl
   rw[e5,e6,wU8 (by omega)]
   have e8:dx .or .u8 c ((1*2 ^ (8*(i.length+1)-B-1):Nat):Int)=c+((1*2 ^ (8*(i.length+1)-B-1):Nat):Int):=by
    have:=or8 (a:=c.toNat) (b:=1*2 ^ (8*(i.length+1)-B-1)) (by omega) (by omega)
    rw[show((c.toNat:Nat):Int)=c by omega]at this
    rw[this,ahm c2 hp3];omega
   rw[e8,ac6 i c _ (by omega),aO]
   exact hJ _ ⟨by simpa using hp1,by simp;omega⟩
  ·have hc:b=0:=by simp at hc;omega
   subst hc
   refine hJ _ ⟨by simpa using hp1,by simp;omega⟩
 ·intro J hJ
  refine Ok.cs (λhc=>?_) λhc=>?_
  ·have hc:B%8=0:=by simp at hc;omega
   rw[dQ (by simp;omega),aO]
   exact hJ _ ⟨s.Data,0,rfl,h.r.more (by omega),by omega⟩
  ·have hc:B%8≠0:=by simp at hc;omega
   obtain⟨i,c,hD,hi⟩:=h.split (by omega)
   exact hJ _ ⟨i,c,hD,hD▸h.r,by omega⟩
theorem aet{s:bp}{v n:Nat}(h:Str s B V)(hn:n≤64)(hv:v<2 ^ n)(hB:B+n≤8192):Ok (nI s v n) (λu=>Str u.1 (B+n) (V*2 ^ n+v)∧u.2=0):=by
 unfold nI
 have hb:=h.b
 have agv:v<2 ^ 64:=Nat.lt_of_lt_of_le hv (Nat.pow_le_pow_right (by decide) hn)
 rw[tD h (by omega),aO]
 simp only[Bool.not_true,cond_false]
 refine Ok.jn (λv=>v=false) (λv1 hv1=>?_) λJ hJ=>?_
 ·subst hv1
  rw[cond_false,hb,cB (n:=(B:Int)+n) (by omega) (by omega)]
  refine Ok.cs (λhc=>by simp at hc;omega) λ_=>?_
  refine Ok.whl (λsg:Int×List Int×Int=>∃(r k:Nat),sg.1=(r:Int)-1∧r+k=n∧Str (bp.mk sg.2.1 sg.2.2) (B+k) (V*2 ^ k+v / 2 ^ r)) (λsg=>(sg.1+1).toNat) ⟨n,0,by simp only;rw[cB (by omega) (by omega)],by simp,by
   rw[Nat.div_eq_of_lt hv];simp only[Nat.add_zero,Nat.pow_zero,Nat.mul_one];rw[←hb];exact h⟩ (by simp only;rw[cB (by omega) (by omega)];omega) ?_
  rintro⟨i,D,N⟩ Z ⟨r,k,hi,hrk,hs⟩ hZ
  simp only at hi hs ⊢
  subst hi
  refine Ok.cs (λhc=>?_) λhc=>?_
  ·have hr:1≤r:=by simp at hc;omega
   have e:((r:Int)-1)=((r-1:Nat):Int):=by omega
   rw[e,qs (by omega)]
   refine Ok.chk (by simp) ?_
   rw[show min ((r-1:Nat):Int).toNat 64=r-1 by omega,zR,acB (Nat.lt_of_le_of_lt (Nat.div_le_self _ _) agv)]
   refine Ok.bnd (ac7 hs (Nat.mod_lt _ (by omega)) (by omega)) λu hu=>?_
   rw[cB (by omega) (by omega)]
   refine hZ _ ⟨r-1,k+1,rfl,by omega,?_⟩ (by simp only;omega)
   have e9:(V*2 ^ k+v / 2 ^ r)*2+v / 2 ^ (r-1)%2=V*2 ^ (k+1)+v / 2 ^ (r-1):=by
    have d1:v / 2 ^ r=v / 2 ^ (r-1) / 2:=by
     rw[Nat.div_div_eq_div_mul,←Nat.pow_succ];congr 2;omega
    rw[Nat.pow_succ,d1,Nat.add_mul,Nat.mul_assoc]
    omega
   rw[←Nat.add_assoc,←e9];exact hu
  ·have hr:r=0:=by simp at hc;omega
   subst hr
   obtain rfl:k=n:=by omega
   refine Ok.s ⟨by simpa using hs,rfl⟩
 ·refine Ok.cs (λhc=>by simp at hc;omega) λ_=>?_
  refine Ok.cs (λhc=>by simp at hc;omega) λ_=>?_
  refine Ok.cs (λhc=>?_) λ_=>hJ _ rfl
  have hn2:n<64:=by simp at hc;omega
  rw[qs (by omega)]
  refine Ok.chk (by simp) (hJ _ ?_)
  rw[show min ((n:Nat):Int).toNat 64=n by omega,zR,Nat.div_eq_of_lt hv];simp
theorem abL{σ β:Type}{B B':Int→(σ→Option β)→σ→Option β}{K K':Int→σ→Option β}:∀(n:Nat) (i:Int) (s:σ),(∀(j:Int) s Z Z',i≤j→j<i+n→(∀s,Z s=Z' s)→B j Z s=B' j Z' s)→(∀s,K (i+n) s=K' (i+n) s)→fV n i B K s=fV n i B' K' s
 |0,i,s,_,hk=>by simpa [fV]using hk s
 |n+1,i,s,hb,hk=>by
  simp only[fV]
  refine hb i s _ _ (by omega) (by omega) λs'=>?_
  refine abL n (i+1) s' (λj s Z Z' h1 h2 hz=>hb j s Z Z' (by omega) (by omega) hz) λs=>?_
  have:=hk s
  rw[show i+1+(n:Int)=i+((n+1:Nat):Int)by omega];exact this
theorem ahp{s:bp}{i:Nat}(hb:∀b∈s.Data,0≤b∧b<256)(hi:i<8*s.Data.length)(hl:i≤100000):∃x:Int,qy s (i:Int)=some x∧lD s.Data (i:Int)=some x:=by
 have e1:Int.tdiv (i:Int) 8=((i / 8:Nat):Int):=by rw[Int.tdiv_eq_ediv_of_nonneg (by omega)];omega
 have e2:Int.tmod (i:Int) 8=((i%8:Nat):Int):=by rw[Int.tmod_eq_emod_of_nonneg (by omega)];omega
 have e3:(7:Int)-((i%8:Nat):Int)=((7-i%8:Nat):Int):=by omega
 obtain⟨e,he,hm,_⟩:=(mK (l:=s.Data) (i:=((i / 8:Nat):Int)) (by omega) (by omega)).get
 have hbe:=hb e hm
 have e4:min ((7-i%8:Nat):Int).toNat 8=7-i%8:=by omega
 have hlt:e.toNat / 2 ^ (7-i%8)<256:=Nat.lt_of_le_of_lt (Nat.div_le_self _ _) (by omega)
 have e5:Int.fdiv e (2 ^ (7-i%8))=((e.toNat / 2 ^ (7-i%8):Nat):Int):=by
  rw[←zR,show((e.toNat:Nat):Int)=e by omega]
 refine⟨((e.toNat / 2 ^ (7-i%8)%2:Nat):Int),?_,?_⟩
 ·unfold qy
  rw[e1,e2,e3,cB (by omega) (by omega),he,aO,cB (by omega) (by omega),oz (by simp),e4,e5,apG hlt,qs (by omega)]
 ·unfold lD
  rw[e1,e2,e3,cB (by omega) (by omega),he,aO,cB (by omega) (by omega),qs (by omega),oz (by simp),e4,e5,qs (by omega),acB (by omega)]
theorem atf(x:Int):∃n:Nat,dx .and .u64 x 65535=n∧n<65536:=by
 refine⟨(BitVec.ofInt 64 x &&& BitVec.ofInt 64 65535).toNat,?_,?_⟩
 ·show IntKind.wrap .u64 _=_
  exact qs (BitVec.isLt _)
 ·rw[BitVec.toNat_and]
  exact Nat.lt_of_le_of_lt Nat.and_le_right (by decide)
theorem atg{n:Nat}(h:n<65536):∃m:Nat,dx .xor .u64 n 4129=m∧m<65536:=by
 refine⟨n ^^^ 4129,?_,Nat.xor_lt_two_pow (n:=16) h (by decide)⟩
 show IntKind.wrap .u64 ((BitVec.ofNat 64 n ^^^ BitVec.ofNat 64 4129).toNat:Int)=_
 rw[BitVec.toNat_xor,BitVec.toNat_ofNat,BitVec.toNat_ofNat,Nat.mod_eq_of_lt (show n<2 ^ 64 by omega),Nat.mod_eq_of_lt (show 4129<2 ^ 64 by decide)]
 exact qs (Nat.lt_trans (Nat.xor_lt_two_pow (n:=16) h (by decide)) (by decide))
theorem agw{s:bp}(h:Str s B V)(hB:B≤8192):∃c:Nat,c<65536∧mg s=some ((c:Int),0)∧jl s=some ((c:Int),0):=by
 have hle:=h.r.le;have ht:=h.t;have hb:=h.b
 have key:mg s=jl s:=by
  unfold mg jl
  rw[aal h hB,tD h hB]
  simp only[aO,Bool.not_true,cond_false]
  congr 1
  refine abL _ _ _ ?_ λs=>rfl
  intro j r Z Z' h1 h2 hz
  obtain⟨x,hx1,hx2⟩:=ahp (s:=s) (i:=j.toNat) h.r.by_ (by omega) (by omega)
  rw[show((j.toNat:Nat):Int)=j by omega]at hx1 hx2
  simp only[jn,hx1,hx2,aO,hz]
  by_cases hc:Int.fdiv r (2 ^ min (15:Int).toNat 64)=x<;>simp[hc]
 rw[key]
 have:Ok (jl s) (λp=>∃c:Nat,c<65536∧p=((c:Int),0)):=by
  unfold jl
  rw[tD h hB,aO]
  simp only[Bool.not_true,cond_false]
  refine Ok.chk (by simp;omega) ?_
  refine Ok.fV (λ_ (r:Int)=>∃c:Nat,c<65536∧r=c) 0 s.Bits ?_ ?_ _ _ _ (by simp) (by omega) (by omega) ⟨65535,by decide,rfl⟩
  ·rintro i r Z h1 h2 ⟨c,hc,rfl⟩ hZ
   refine Ok.jn (λr=>∃c:Nat,c<65536∧r=c) (λr hr=>hZ _ hr) λJ hJ=>?_
   obtain⟨x,hx1,hx2⟩:=ahp (s:=s) (i:=i.toNat) h.r.by_ (by omega) (by omega)
   rw[show((i.toNat:Nat):Int)=i by omega]at hx2
   rw[hx2,aO]
   obtain⟨n,hn,hn2⟩:=atf (IntKind.wrap .u64 ((c:Int)*2 ^ min (1:Int).toNat 64))
   rw[hn]
   refine Ok.cs (λ_=>?_) λ_=>hJ _ ⟨n,hn2,rfl⟩
   obtain⟨m,hm,hm2⟩:=atg hn2
   rw[hm]
   exact hJ _ ⟨m,hm2,rfl⟩
  ·rintro i r h1 h2 ⟨c,hc,rfl⟩
   exact Ok.s ⟨c,hc,rfl⟩
 obtain⟨_,hp,c,hc,rfl⟩:=this
 exact⟨c,hc,hp,hp⟩
theorem aiY{s:bp}{v n:Nat}(h:Str s B V)(hn:n≤64)(hv:v<2 ^ n)(hB:B+n≤8192):∃u,cc (bQ.mk s) v n=some (bQ.mk u)∧dA s v n=some u∧Str u (B+n) (V*2 ^ n+v):=by
 have agv:v<2 ^ 64:=Nat.lt_of_lt_of_le hv (Nat.pow_le_pow_right (by decide) hn)
 obtain⟨p,hp,hs,_⟩:=aer h hn hv hB
 obtain⟨q,hq,ht,_⟩:=aet h hn hv hB
 have e:=hs.unique ht
 refine⟨p.1,?_,?_,hs⟩
 ·unfold cc
  rw[qs (by omega),hp];rfl
 ·unfold dA
  rw[qs (by omega),hq,e];rfl
variable {β σ:Type}
theorem ac8{γ:Type}{B1:Int→α→(σ→Option β)→σ→Option β}{B2:Int→α→(σ→Option γ)→σ→Option γ}{L:List α}(I:Nat→σ→Prop)
  (hc:∀(j:Nat) x s,L[j]?=some x→I j s→∃s',I (j+1) s'∧(∀Z,B1 (j:Int) x Z s=Z s')∧∀Z,B2 (j:Int) x Z s=Z s') (s:σ) (h:I 0 s) :
  ∃s',I L.length s'∧(∀K,bL L 0 B1 K s=K s')∧∀K,bL L 0 B2 K s=K s':=by
 have key:∀(l p:List α) (s:σ),L=p++l→I p.length s→∃s',I L.length s'∧(∀K,bL l p.length B1 K s=K s')∧∀K,bL l p.length B2 K s=K s':=by
  intro l
  induction l with
  |nil=>intro p s hj h;rw[List.append_nil]at hj;subst hj;exact⟨s,h,λ_=>rfl,λ_=>rfl⟩
  |cons x r ih=>
   intro p s hj h
   obtain⟨s1,h1,e1,e2⟩:=hc p.length x s (by rw[hj];simp) h
   obtain⟨s2,h2,e3,e4⟩:=ih (p++[x]) s1 (by simp[hj]) (by simpa using h1)
   simp only[List.length_append,List.length_cons,List.length_nil]at e3 e4
   exact⟨s2,h2,λK=>by simp only[bL];rw[e1];exact e3 K,λK=>by simp only[bL];rw[e2];exact e4 K⟩
 exact key L [] s rfl h
def mZ:Nat→List (Nat×Nat)→Nat
 |a,[]=>a
 |a,(v,w)::r=>mZ (a*2 ^ w+v) r
def gp:List (Nat×Nat)→Nat
 |[]=>0
 |(_,w)::r=>w+gp r
theorem vK:∀(a:Nat) (F G:List (Nat×Nat)),mZ a (F++G)=mZ (mZ a F) G
 |_,[],_=>rfl
 |a,(v,w)::r,G=>vK _ r G
theorem tg:∀(F G:List (Nat×Nat)),gp (F++G)=gp F+gp G
 |[],G=>by simp[gp]
 |(v,w)::r,G=>by simp only[List.cons_append,gp,tg r G];omega
def qZ(l:Int):Nat:=if l=8 then 0 else if l=16 then 1 else if l=32 then 2 else 3
variable {l:Int}
theorem agx(h:mY l=true):pM l=some (qZ l:Int):=by
 simp only[mY,Bool.or_eq_true,decide_eq_true_eq]at h
 rcases h with rfl|rfl|rfl|rfl<;>decide +kernel
theorem qC(F:(σ→Option β)→σ→Option β)(n:Nat)(s:σ):iter F (n+1) s=F (iter F n) s:=rfl
theorem ahq(h:mY l=true)(R:Int→Option β):whl (λ(Z:Int→Option β) (c:Int)=>chk (decide (0≤c))<|bif decide (IntKind.wrap .i64 ((8:Int)*2 ^ min c.toNat 64)<l)then Z (w64 (c+1))else R c) 0=R (qZ l:Int):=by
 simp only[mY,Bool.or_eq_true,decide_eq_true_eq]at h
 show iter _ (1099511627772+4) 0=_
 have e1:w64 (0+1)=1:=by decide
 have e2:w64 (1+1)=2:=by decide
 have e3:w64 (2+1)=3:=by decide
 have p0:IntKind.wrap .i64 ((8:Int)*2 ^ min (0:Int).toNat 64)=8:=by decide
 have p1:IntKind.wrap .i64 ((8:Int)*2 ^ min (1:Int).toNat 64)=16:=by decide
 have p2:IntKind.wrap .i64 ((8:Int)*2 ^ min (2:Int).toNat 64)=32:=by decide
 have p3:IntKind.wrap .i64 ((8:Int)*2 ^ min (3:Int).toNat 64)=64:=by decide
 rcases h with rfl|rfl|rfl|rfl
 ·rw[qC,oz (by decide),p0];rfl
 ·rw[qC,oz (by decide),p0,e1]
  simp only[show decide ((8:Int)<16)=true from rfl,cond_true]
  rw[qC,oz (by decide),p1];rfl
 ·rw[qC,oz (by decide),p0,e1]
  simp only[show decide ((8:Int)<32)=true from rfl,cond_true]
  rw[qC,oz (by decide),p1,e2]
  simp only[show decide ((16:Int)<32)=true from rfl,cond_true]
  rw[qC,oz (by decide),p2];rfl
 ·rw[qC,oz (by decide),p0,e1]
  simp only[show decide ((8:Int)<64)=true from rfl,cond_true]
  rw[qC,oz (by decide),p1,e2]
  simp only[show decide ((16:Int)<64)=true from rfl,cond_true]
  rw[qC,oz (by decide),p2,e3]
  simp only[show decide ((32:Int)<64)=true from rfl,cond_true]
  rw[qC,oz (by decide),p3];rfl
theorem uA{s:bp}{n:Nat}{v:Int}(h:Str s B V)(h0:0≤v)(hn:n≤64)(hv:v<2 ^ n)(hB:B+n≤8192):∃u,cc (bQ.mk s) v n=some (bQ.mk u)∧dA s v n=some u∧Str u (B+n) (V*2 ^ n+v.toNat):=by
 have hv':v.toNat<2 ^ n:=by
  have:((2:Int) ^ n)=((2 ^ n:Nat):Int):=by push_cast;rfl
  omega
 obtain⟨u,h1,h2,h3⟩:=aiY h hn hv' hB
 rw[show((v.toNat:Nat):Int)=v by omega]at h1 h2
 exact⟨u,h1,h2,h3⟩
theorem ahr{s:bp}(h:Str s B V)(hB:B+8≤8192):Ok (oH s) (λp=>p.1.Data=s.Data):=by
 unfold oH
 rw[tD h (by omega),aO]
 simp only[Bool.not_true,cond_false]
 have hle:=h.r.le;have ht:=h.t
 refine Ok.whl (λsg:List Int×Int=>∃k:Nat,B+k≤8*s.Data.length∧sg.1=s.Data∧Str (bp.mk sg.1 sg.2) (B+k) (V*2 ^ k)) (λsg=>((8*s.Data.length:Nat)-sg.2).toNat) ⟨0,by omega,rfl,by simpa using h⟩ (by simp only;rw[h.b];omega) ?_
 rintro⟨D,N⟩ Z ⟨k,hk,hD,hs⟩ hZ
 simp only at hD hs ⊢
 have hN:N=((B+k:Nat):Int):=hs.b
 subst hD
 have e2:Int.tmod N 8=(((B+k)%8:Nat):Int):=by rw[hN,Int.tmod_eq_emod_of_nonneg (by omega)];omega
 rw[e2]
 refine Ok.cs (λhc=>?_) λ_=>Ok.s rfl
 have hm:(B+k)%8≠0:=by simp at hc;omega
 obtain⟨u,hu,hus⟩:=(ac7 (b:=0) hs (by omega) (by omega)).get
 have huD:u.Data=s.Data:=by
  have hx:SR s.Data (B+k+1) (V*2 ^ k*2):=by
   refine⟨h.r.by_,by omega,by omega,?_⟩
   have e:2 ^ (8*s.Data.length-B)=2 ^ k*2*2 ^ (8*s.Data.length-(B+k+1)):=by
    rw[←Nat.pow_succ,←Nat.pow_add];congr 1;omega
   rw[h.r.num,e];simp only[Nat.mul_assoc]
  exact hus.r.unique hx hus.t (by omega)
 refine Ok.bnd (P:=λx=>x=u) ⟨u,hu,rfl⟩ ?_
 rintro _ rfl
 refine hZ _ ⟨k+1,by omega,huD,?_⟩ (by simp only;rw[hus.b,hN];omega)
 rw[←Nat.add_assoc,Nat.pow_succ,←Nat.mul_assoc];exact hus
theorem apJ(c:Bool)(K:Int→Option β):jn K (λJ=>bif c then J 1 else J 0)=K (bif c then 1 else 0):=by cases c<;>rfl
def qh(x:bA):List (Nat×Nat):=[(x.bx.toNat,7),(x.kN.toNat,10),(x.bX.toNat,10)]
def th(x:bH):List (Nat×Nat):=[(x.b9.toNat,3),(x.ID.toNat,9),(qZ x.Length,2)]
def x6(a:ai):List (Nat×Nat):=[(a.ah.toNat,7),(a.Seq.toNat,20),((bif a.aX then 1 else 0),1),(a.Links.length,5)]
def sI(a:ai):List (Nat×Nat):=(x6 a++a.Links.flatMap qh)++(a.Claims.length,4)::a.Claims.flatMap th
theorem ac9{l:List α}{j:Nat}{x:α}(h:l[j]?=some x):l.take (j+1)=l.take j++[x]:=by
 obtain⟨h1,rfl⟩:=List.getElem?_eq_some_iff.1 h
 rw[List.take_succ_eq_append_getElem h1]
theorem akl:∀l:List bA,gp (l.flatMap qh)=27*l.length
 |[]=>rfl
 |x::l=>by rw[List.flatMap_cons,tg,akl l,List.length_cons];simp only[qh,gp];omega
theorem akm:∀l:List bH,gp (l.flatMap th)=14*l.length
 |[]=>rfl
 |x::l=>by rw[List.flatMap_cons,tg,akm l,List.length_cons];simp only[th,gp];omega
theorem abe{a:ai}(h:cm a=true):∃l c,eX a=some (l,0)∧iJ a=some (l,0)∧c<65536∧SR l (gp (sI a++[(c,16)])) (mZ 0 (sI a++[(c,16)])):=by
 have hv:=adA h
 have hb:=h
 simp only[cm,inB,Bool.and_eq_true,decide_eq_true_eq,List.all_eq_true]at hb
 obtain⟨⟨⟨⟨⟨r1,r2⟩,⟨q1,q2⟩⟩,l1⟩,⟨gl,_⟩⟩,⟨c1,gc,_⟩⟩:=hb
 unfold eX iJ
 rw[td,qB,h]
 obtain⟨s1,a1,b1,t1⟩:=uA (v:=a.ah) (n:=7) Str.nil (by omega) (by omega) (by omega) (by omega)
 obtain⟨s2,a2,b2,t2⟩:=uA (v:=a.Seq) (n:=20) t1 (by omega) (by omega) (by omega) (by omega)
 rw[show((7:Nat):Int)=7 from rfl]at a1 b1
 rw[show((20:Nat):Int)=20 from rfl]at a2 b2
 simp only[a1,b1,a2,b2,aO,Bool.not_true,cond_false,apJ]
 have hcp:(0≤(bif a.aX then(1:Int)else 0)∧(bif a.aX then(1:Int)else 0)<2)∧(bif a.aX then(1:Int)else 0).toNat=(bif a.aX then 1 else 0):=by cases a.aX<;>decide
 generalize (bif a.aX then(1:Int)else 0)=cp at hcp ⊢
 obtain⟨hcp,hcpn⟩:=hcp
 obtain⟨s3,a3,b3,t3⟩:=uA (v:=cp) (n:=1) t2 (by omega) (by omega) (by omega) (by omega)
 obtain⟨s4,a4,b4,t4⟩:=uA (v:=(a.Links.length:Int)) (n:=5) t3 (by omega) (by omega) (by omega) (by omega)
 rw[show((1:Nat):Int)=1 from rfl]at a3 b3
 rw[show((5:Nat):Int)=5 from rfl]at a4 b4
 simp only[a3,b3,a4,b4,aO]
 obtain⟨⟨D1,N1⟩,t5,e1,e2⟩:=ac8 (L:=a.Links)
  (B1:=λ(j1:Int) (e1:bA) (Z1:((List Int)×Int)→Option (List Int×Int)) (sg:(List Int)×Int)=>bnd (cc (bQ.mk (bp.mk sg.1 sg.2)) e1.bx (7:Int)) λ(cg:bQ)=>bnd (cc cg e1.kN (10:Int)) λ(cw:bQ)=>bnd (cc cw e1.bX (10:Int)) λ(cr:bQ)=>Z1 (cr.s_.Data,cr.s_.Bits))
  (B2:=λ(j1:Int) (e1:bA) (Z1:((List Int)×Int)→Option (List Int×Int)) (sg:(List Int)×Int)=>bnd (dA (bp.mk sg.1 sg.2) e1.bx (7:Int)) λ(cg:bp)=>bnd (dA cg e1.kN (10:Int)) λ(cw:bp)=>bnd (dA cw e1.bX (10:Int)) λ(cr:bp)=>Z1 (cr.Data,cr.Bits))
  (λj sg=>Str (bp.mk sg.1 sg.2) (33+27*j) (mZ 0 (x6 a++(a.Links.take j).flatMap qh))) (by
   rintro j x ⟨D,N⟩ hx t
   have hj:j<a.Links.length:=(List.getElem?_eq_some_iff.1 hx).1
   have g:=gl x (List.mem_of_getElem? hx)
   simp only[lz,inB,Bool.and_eq_true,decide_eq_true_eq]at g
   obtain⟨u1,c1,d1,f1⟩:=uA (v:=x.bx) (n:=7) t (by omega) (by omega) (by omega) (by omega)
   obtain⟨u2,c2,d2,f2⟩:=uA (v:=x.kN) (n:=10) f1 (by omega) (by omega) (by omega) (by omega)
   obtain⟨u3,c3,d3,f3⟩:=uA (v:=x.bX) (n:=10) f2 (by omega) (by omega) (by omega) (by omega)
   rw[show((7:Nat):Int)=7 from rfl]at c1 d1
   rw[show((10:Nat):Int)=10 from rfl]at c2 d2 c3 d3
   refine⟨(u3.Data,u3.Bits),?_,λZ=>?_,λZ=>?_⟩
   ·rw[show 33+27*(j+1)=33+27*j+7+10+10 by omega,ac9 hx,List.flatMap_append,←List.append_assoc,vK]
    exact f3
   ·simp only[c1,c2,c3,aO]
   ·simp only[d1,d2,d3,aO]) (s4.Data,s4.Bits) (by
   have:mZ 0 (x6 a++(a.Links.take 0).flatMap qh)=(((0*2 ^ 7+a.ah.toNat)*2 ^ 20+a.Seq.toNat)*2 ^ 1+cp.toNat)*2 ^ 5+a.Links.length:=by rw[hcpn];rfl
   rw[this];exact t4)
 rw[e1,e2]
 simp only[List.take_length]at t5 ⊢
 obtain⟨s6,a6,b6,t6⟩:=uA (v:=(a.Claims.length:Int)) (n:=4) t5 (by omega) (by omega) (by omega) (by omega)
 rw[show((4:Nat):Int)=4 from rfl]at a6 b6
 simp only[a6,b6,aO]
 obtain⟨⟨D2,N2⟩,t7,e3,e4⟩:=ac8 (L:=a.Claims)
  (B1:=λ(j2:Int) (e2:bH) (Z2:((List Int)×Int)→Option (List Int×Int)) (sg:(List Int)×Int)=>whl (λ(Z3:Int→Option (List Int×Int)) (j9:Int)=>chk (decide (0≤j9))<|bif decide (IntKind.wrap .i64 ((8:Int)*2 ^ min j9.toNat 64)<e2.Length)then Z3 (w64 (j9+(1:Int)))else bnd (cc (bQ.mk (bp.mk sg.1 sg.2)) e2.b9 (3:Int)) λ(bK:bQ)=>bnd (cc bK e2.ID (9:Int)) λ(ei:bQ)=>bnd (cc ei j9 (2:Int)) λ(cn:bQ)=>Z2 (cn.s_.Data,cn.s_.Bits)) (0:Int))
  (B2:=λ(j2:Int) (e2:bH) (Z2:((List Int)×Int)→Option (List Int×Int)) (sg:(List Int)×Int)=>bnd (dA (bp.mk sg.1 sg.2) e2.b9 (3:Int)) λ(bK:bp)=>bnd (dA bK e2.ID (9:Int)) λ(ei:bp)=>bnd (pM e2.Length) λ(cn:Int)=>bnd (dA ei cn (2:Int)) λ(gY:bp)=>Z2 (gY.Data,gY.Bits))
  (λj sg=>Str (bp.mk sg.1 sg.2) (37+27*a.Links.length+14*j) (mZ 0 ((x6 a++a.Links.flatMap qh)++(a.Claims.length,4)::(a.Claims.take j).flatMap th))) (by
   rintro j x ⟨D,N⟩ hx t
   have hj:j<a.Claims.length:=(List.getElem?_eq_some_iff.1 hx).1
   have g:=gc x (List.mem_of_getElem? hx)
   simp only[iN,inB,Bool.and_eq_true,decide_eq_true_eq]at g
   have hcd:qZ x.Length<4:=by unfold qZ;split;omega;split;omega;split<;>omega
   obtain⟨u1,c1,d1,f1⟩:=uA (v:=x.b9) (n:=3) t (by omega) (by omega) (by omega) (by omega)
   obtain⟨u2,c2,d2,f2⟩:=uA (v:=x.ID) (n:=9) f1 (by omega) (by omega) (by omega) (by omega)
   obtain⟨u3,c3,d3,f3⟩:=uA (v:=(qZ x.Length:Int)) (n:=2) f2 (by omega) (by omega) (by omega) (by omega)
   rw[show((3:Nat):Int)=3 from rfl]at c1 d1
   rw[show((9:Nat):Int)=9 from rfl]at c2 d2
   rw[show((2:Nat):Int)=2 from rfl]at c3 d3
   refine⟨(u3.Data,u3.Bits),?_,λZ=>?_,λZ=>?_⟩
   ·rw[show 37+27*a.Links.length+14*(j+1)=37+27*a.Links.length+14*j+3+9+2 by omega,ac9 hx,List.flatMap_append,←List.cons_append,←List.append_assoc,vK]
    exact f3
   ·simp only
    rw[ahq g.2]
    simp only[c1,c2,c3,aO]
   ·simp only[d1,d2,d3,aO,agx g.2]) (s6.Data,s6.Bits) (by
    rw[show 37+27*a.Links.length+14*0=33+27*a.Links.length+4 by omega,vK];exact t6)
 rw[e3,e4]
 simp only[List.take_length]at t7 ⊢
 obtain⟨c,hc,k1,k2⟩:=agw t7 (by omega)
 simp only[k1,k2,aO]
 rw[cB (by omega) (by omega)]
 obtain⟨s8,a8,b8,t8⟩:=uA (v:=(c:Int)) (n:=16) t7 (by omega) (by omega) (by omega) (by omega)
 rw[show((16:Nat):Int)=16 from rfl]at a8 b8
 simp only[a8,b8,aO]
 obtain⟨p,hp,hd⟩:=ahr t8 (by omega)
 rw[hp,aO,hd]
 have hw:gp (sI a++[(c,16)])=37+27*a.Links.length+14*a.Claims.length+16:=by
  rw[tg,sI,tg,tg,akl]
  simp only[gp,akm,x6];omega
 refine⟨_,c,rfl,rfl,hc,?_⟩
 rw[hw,vK]
 exact t8.r
theorem aeu{a:ai}(h:cm a=true):∃l,eX a=some (l,0)∧iJ a=some (l,0):=by
 obtain⟨l,c,h1,h2,_⟩:=abe h
 exact⟨l,h1,h2⟩
end Go.Proofs.YtjdopimopgpagaaGreat
namespace Go.Proofs.YtjdopimopgpagaaGreat
set_option linter.all false
open Go
def ki(l:List Int):List UInt8:=l.map λn=>UInt8.ofNat n.toNat
def lP(a:ai):List Int:=match eX a with|some p=>p.1|none=>[]
def iD(a b:ai):Bool:=decide (b.Seq<a.Seq)||(decide (a.Seq=b.Seq)&&decide (0<fM (ki (lP a)) (ki (lP b))))
def mM(a b:ai):Bool:=cm a&&(cm b&&(decide (a.ah=b.ah)&&iD a b))
variable {a:ai}
theorem amz(h:cm a=true):eX a=some (lP a,0):=by
 obtain⟨l,h1,h2⟩:=aeu h
 unfold lP;rw[h1]
theorem aev(h:cm a=true):iJ a=some (lP a,0):=by
 obtain⟨l,h1,h2⟩:=aeu h
 unfold lP;rw[h1,h2]
theorem aiZ(x y:List Int):vk .gtr (iW x) (iW y)=decide (0<fM (ki x) (ki y)):=by
 show(!(Go.Op.bytesLess (iW x).toList (iW y).toList||(iW x).toList==(iW y).toList))=_
 rw[Lib.toList_data,Lib.toList_data]
 exact aho (ki x) (ki y)
theorem amA(x y:List Int):apj x y=fM (ki x) (ki y):=aiX _ _
theorem aeZ(a b:ai):oI a b=some (mM a b):=by
 unfold oI mM
 simp only[jn,qB,aO]
 cases ha:cm a
 ·simp
 cases hb:cm b
 ·simp
 by_cases hr:a.ah=b.ah
 ·simp only[hr,Bool.not_true,cond_false,decide_true,aev ha,aev hb,aO,aiZ,iD,Bool.true_and]
 ·simp[hr]
theorem ai0(a b:ai):nJ a b=some (mM a b):=by
 unfold nJ mM
 have hx:∀a,∃p,eX a=some p∧(cm a=true→p=(lP a,0))∧(cm a=false→p.2=1):=λa=>by
  cases h:cm a
  ·refine⟨([],1),?_,λh=>by simp at h,λ_=>rfl⟩
   unfold eX;rw[td,h];rfl
  ·exact⟨_,amz h,λ_=>rfl,λh=>by simp at h⟩
 obtain⟨p,hp,hp1,hp2⟩:=hx a
 obtain⟨q,hq,hq1,hq2⟩:=hx b
 simp only[hp,hq,aO]
 cases ha:cm a
 ·simp[hp2 ha]
 cases hb:cm b
 ·simp[hq2 hb]
 rw[hp1 ha,hq1 hb]
 by_cases hr:a.ah=b.ah
 ·simp only[hr,decide_true,Bool.not_true,Bool.or_self,cond_false,Bool.true_and,iD]
  by_cases h1:b.Seq<a.Seq
  ·simp[h1]
  ·by_cases h2:a.Seq=b.Seq
   ·simp only[h2,decide_true,cond_true,sC,aO,amA];simp
   ·simp[h1,h2]
 ·simp[hr]
def ltR(r:Int)(l:List ai):List ai:=l.filter λx=>decide (x.ah<r)
def gtR(r:Int)(l:List ai):List ai:=l.filter λx=>decide (r<x.ah)
def tE(d:aG)(a:ai):aG:=aG.mk (ltR a.ah d.aC++a::gtR a.ah d.aC)
theorem zS(r:Int)(l m:List ai):ltR r (l++m)=ltR r l++ltR r m:=List.filter_append ..
theorem zT(r:Int)(l m:List ai):gtR r (l++m)=gtR r l++gtR r m:=List.filter_append ..
variable {l:List ai}{r:Int}
theorem zU(h:∀x∈l,x.ah<r):ltR r l=l:=List.filter_eq_self.2 λx hx=>by simpa using h x hx
theorem x7(h:∀x∈l,r≤x.ah):ltR r l=[]:=List.filter_eq_nil_iff.2 λx hx=>by simpa using h x hx
theorem acD(h:∀x∈l,r<x.ah):gtR r l=l:=List.filter_eq_self.2 λx hx=>by simpa using h x hx
theorem vL(h:∀x∈l,x.ah≤r):gtR r l=[]:=List.filter_eq_nil_iff.2 λx hx=>by simpa using h x hx
def x8(d:aG):Prop:=d.aC.Pairwise (λa b=>a.ah<b.ah)
variable {d:aG}
theorem abM(hd:x8 d)(hl:d.aC.length≤100000)(a:ai):pN d a=some (tE d a):=by
 refine Ok.eq ?_
 unfold pN
 refine Ok.pT (λP (sg:Bool×List ai)=>(sg.1=false→(∀x∈P,x.ah<a.ah)∧sg.2=P)∧(sg.1=true→(∃x∈P,a.ah≤x.ah)∧sg.2=ltR a.ah P++a::gtR a.ah P)∧sg.2.length≤P.length+1) ?_ _ ⟨λ_=>⟨by simp,rfl⟩,λh=>by simp at h,by simp⟩ ?_
 ·rintro P e rest ⟨dn,m⟩ Z hL ⟨h1,h2,h3⟩ hZ
  simp only at h1 h2 h3 ⊢
  have hP:P.length<d.aC.length:=by rw[hL];simp
  have zc:∀x∈P,x.ah<e.ah:=λx hx=>by
   have:=hd;unfold x8 at this;rw[hL]at this
   exact(List.pairwise_append.1 this).2.2 x hx e (by simp)
  simp only[jn]
  cases hdn:dn
  ·obtain⟨g1,rfl⟩:=h1 hdn
   subst hdn
   by_cases hr:a.ah≤e.ah
   ·simp only[hr,decide_true,Bool.not_false,Bool.and_self,cond_true]
    rw[dQ (by simp;omega),aO]
    by_cases he:e.ah=a.ah
    ·simp only[he,decide_true,Bool.not_true,cond_false]
     refine hZ _ ⟨λh=>by simp at h,λ_=>⟨⟨e,by simp,hr⟩,?_⟩,by simp<;>omega⟩
     rw[zS,zT,zU g1,vL (l:=m) (λx hx=>by have:=g1 x hx;omega),x7 (l:=[e]) (by simp;omega),vL (l:=[e]) (by simp;omega)]
     simp
    ·simp only[he,decide_false,Bool.not_false,cond_true]
     rw[dQ (by simp;omega),aO]
     refine hZ _ ⟨λh=>by simp at h,λ_=>⟨⟨e,by simp,hr⟩,?_⟩,by simp<;>omega⟩
     rw[zS,zT,zU g1,vL (l:=m) (λx hx=>by have:=g1 x hx;omega),x7 (l:=[e]) (by simp;omega),acD (l:=[e]) (by simp;omega)]
     simp
   ·have he:e.ah≠a.ah:=by omega
    simp only[hr,decide_false,Bool.and_false,cond_false,he,Bool.not_false,cond_true]
    rw[dQ (by simp;omega),aO]
    refine hZ _ ⟨λ_=>⟨?_,rfl⟩,λh=>by simp at h,by simp<;>omega⟩
    intro x hx
    rcases List.mem_append.1 hx with hx|hx
    ·exact g1 x hx
    ·simp at hx;subst hx;omega
  ·subst hdn
   obtain⟨⟨x,hx,hxr⟩,hm⟩:=h2 rfl
   have her:a.ah<e.ah:=by have:=zc x hx;omega
   have he:e.ah≠a.ah:=by omega
   simp only[Bool.not_true,Bool.false_and,cond_false,he,decide_false,Bool.not_false,cond_true]
   rw[dQ (by simp;omega),aO]
   refine hZ _ ⟨λh=>by simp at h,λ_=>⟨⟨x,by simp[hx],hxr⟩,?_⟩,by simp<;>omega⟩
   rw[zS,zT,x7 (l:=[e]) (by simp;omega),acD (l:=[e]) (by simp;omega),hm]
   simp
 ·rintro⟨dn,m⟩ ⟨h1,h2,h3⟩
  simp only at h1 h2 h3 ⊢
  simp only[jn]
  unfold tE
  cases dn
  ·obtain⟨g1,rfl⟩:=h1 rfl
   simp only[Bool.not_false,cond_true]
   rw[dQ (by simp;omega),aO]
   exact Ok.s (by rw[zU g1,vL (λx hx=>by have:=g1 x hx;omega)])
  ·obtain⟨_,hm⟩:=h2 rfl
   exact Ok.s (by rw[hm])
def qt(d:aG)(a:ai):aG×Bool:=
 bif (gM d a.ah).2&&!mM a (gM d a.ah).1 then(d,false)else(tE d a,true)
theorem ada(d:aG)(a:ai):oO d a=some (if dbC d=0∧cm a=true then qt d a else(d,false)):=by
 unfold oO
 simp only[jn,tC,qB,x4,aO]
 by_cases h:dbC d=0
 ·cases hv:cm a
  ·simp[h]
  ·have hd:=jB.1 h
   simp only[h,decide_true,Bool.not_true,cond_false,and_self,if_true,qt]
   cases hf:(gM d a.ah).2
   ·simp only[cond_false,Bool.false_and]
    rw[abM hd.asc (by have:=hd.n;omega),aO]
   ·simp only[cond_true,aeZ,aO,Bool.true_and]
    cases mM a (gM d a.ah).1
    ·rfl
    ·simp only[Bool.not_true,cond_false]
     rw[abM hd.asc (by have:=hd.n;omega),aO]
 ·simp[h]
theorem bsAd(l:List ai)(x:Int)(c:ai→Int→Option Int)(f:ai→Int)(hl:l.length≤1000000)(hc:∀r,c r x=some (f r)):cR l x c=some ((bsR f l:Int),bsT f l):=by
 unfold cR
 refine acu l f hl λi j Z hj=>?_
 by_cases hij:i<j
 ·rw[dif_pos hij]
  simp only[acs (i:=i) (j:=j) (by omega),tZ (show(i+j) / 2<l.length by omega),aO,hc,oK]
  rw[if_pos (by omega),cB (by omega) (by omega)]
  rfl
 ·rw[dif_neg hij]
  simp only[oK]
  rw[if_neg (by omega)]
  by_cases hi:i<l.length
  ·rw[if_pos (by omega),tZ hi];simp only[aO,hc];simp[hi]
  ·rw[if_neg (by omega)];simp[hi]
theorem amB(x:ai)(r:Int):lM x r=some (eo x.ah r):=by
 unfold lM;rw[acq,aO]
theorem abf(x y:Int):(eo x y<0↔x<y)∧(eo x y=0↔x=y):=by
 unfold eo;split
 ·exact⟨by omega,by omega⟩
 ·split
  ·exact⟨by omega,by omega⟩
  ·exact⟨by omega,by omega⟩
theorem afo(hd:x8 d)(r:Int):∀a b:Nat,a≤b→b<d.aC.length→eo (el d.aC a).ah r≤eo (el d.aC b).ah r:=
 rC (f:=λx:ai=>eo x.ah r) (hd.imp λh=>by
  unfold eo;split<;>split<;>(try split)<;>(try split)<;>omega)
theorem ai1(hd:x8 d)(r:Int):d.aC.take (bsR (λx:ai=>eo x.ah r) d.aC)=ltR r d.aC∧
  (bsT (λx:ai=>eo x.ah r) d.aC=(gM d r).2)∧bsR (λx:ai=>eo x.ah r) d.aC≤d.aC.length∧
  ((gM d r).2=false→d.aC.drop (bsR (λx:ai=>eo x.ah r) d.aC)=gtR r d.aC)∧
  ((gM d r).2=true→d.aC.drop (bsR (λx:ai=>eo x.ah r) d.aC)=(gM d r).1::gtR r d.aC):=by
 obtain⟨h1,h2,h3⟩:=aef (f:=λx:ai=>eo x.ah r) (afo hd r)
 have hT:=acv (f:=λx:ai=>eo x.ah r) (afo hd r)
 generalize bsR (λx:ai=>eo x.ah r) d.aC=n at h1 h2 h3 ⊢
 have ht:∀x∈d.aC.take n,x.ah<r:=λx hx=>by
  obtain⟨i,hi,rfl⟩:=List.getElem_of_mem hx
  rw[List.length_take]at hi
  have:=h2 i (by omega)
  rw[vC (by omega)]at this
  rw[List.getElem_take]
  exact(abf _ _).1.1 this
 have hg:∀x∈d.aC.drop n,r≤x.ah:=λx hx=>by
  obtain⟨i,hi,rfl⟩:=List.getElem_of_mem hx
  rw[List.length_drop]at hi
  have:=h3 (n+i) (by omega) (by omega)
  rw[vC (by omega)]at this
  rw[List.getElem_drop]
  have q:=(abf (d.aC[n+i]).ah r).1
  have q2:¬eo (d.aC[n+i]).ah r<0:=by omega
  rw[q]at q2;omega
 have hs:=List.take_append_drop n d.aC
 have e1:ltR r d.aC=d.aC.take n:=by
  conv=>lhs;rw[←hs]
  rw[zS,zU ht,x7 hg,List.append_nil]
 have e2:gtR r d.aC=gtR r (d.aC.drop n):=by
  conv=>lhs;rw[←hs]
  rw[zT,vL (l:=d.aC.take n) (λx hx=>by have:=ht x hx;omega),List.nil_append]
 have e3:bsT (λx:ai=>eo x.ah r) d.aC=(gM d r).2:=by
  rw[Bool.eq_iff_iff,hT]
  simp only[(abf _ _).2]
  rcases lB d r with⟨a,ha,he,hf⟩|⟨hn,hf⟩
  ·rw[hf];exact⟨λ_=>rfl,λ_=>⟨a,ha,he⟩⟩
  ·rw[hf];exact⟨λ⟨a,ha,he⟩=>absurd he (hn a ha),λh=>by simp at h⟩
 refine⟨e1.symm,e3,h1,λhf=>?_,λhf=>?_⟩
 ·rw[e2,acD]
  intro x hx
  rcases lB d r with⟨a,ha,he,hf2⟩|⟨hn,hf2⟩
  ·rw[hf2]at hf;simp at hf
  ·have:=hg x hx;have:=hn x (List.mem_of_mem_drop hx);omega
 ·rcases lB d r with⟨a,ha,he,hf2⟩|⟨hn,hf2⟩
  ·rw[hf2,e2]
   have hmem:a∈d.aC.drop n:=by
    have:a∈d.aC.take n++d.aC.drop n:=by rw[hs];exact ha
    rcases List.mem_append.1 this with q|q
    ·have:=ht a q;omega
    ·exact q
   have hp:(d.aC.drop n).Pairwise (λa b=>a.ah<b.ah):=List.Pairwise.sublist (List.drop_sublist n _) hd
   cases hD:d.aC.drop n with
   |nil=>rw[hD]at hmem;simp at hmem
   |cons y t=>
    rw[hD]at hp hmem hg
    rw[List.pairwise_cons]at hp
    rcases List.mem_cons.1 hmem with q|q
    ·subst q
     show _=a::(a::t).filter _
     rw[List.filter_cons_of_neg (by simp[he])]
     congr 1
     exact(List.filter_eq_self.2 λx hx=>by have:=hp.1 x hx;simp;omega).symm
    ·have:=hp.1 a q;have:=hg y (by simp);omega
  ·rw[hf2]at hf;simp at hf
theorem ahs(hd:x8 d)(hl:d.aC.length≤100000)(ha:SmA a):lG d a=some ((qt d a).2,(qt d a).1):=by
 unfold lG
 rw[bsAd d.aC a.ah _ (λx=>eo x.ah a.ah) (by omega) (λx=>amB x _),aO]
 obtain⟨p1,p2,p3,p4,p5⟩:=ai1 hd a.ah
 simp only[jn,p2]
 generalize bsR (λx:ai=>eo x.ah a.ah) d.aC=n at *
 unfold qt tE
 cases hf:(gM d a.ah).2
 ·simp only[Bool.not_false,cond_true,Bool.false_and,cond_false,wj ha,aO]
  have:ab5 d.aC (n:Int) a=some (ltR a.ah d.aC++a::gtR a.ah d.aC):=by
   unfold ab5
   rw[if_pos ⟨⟨by omega,by omega⟩,by unfold cap;omega⟩,Int.toNat_natCast,p1,p4 hf]
  rw[this,aO]
 ·have hD:=p5 hf
  have hn:n<d.aC.length:=by
   have:=congrArg List.length hD
   rw[List.length_drop,List.length_cons]at this;omega
  have he:d.aC[n]=(gM d a.ah).1:=by
   rw[List.drop_eq_getElem_cons hn]at hD
   exact(List.cons.inj hD).1
  have hel:elO d.aC (n:Int)=some (gM d a.ah).1:=by
   rw[←he];unfold elO;rw[if_pos (by omega)];simp[hn]
  simp only[Bool.not_true,cond_false,hel,aO,ai0,Bool.true_and]
  cases hnw:mM a (gM d a.ah).1
  ·rfl
  ·simp only[cond_true,wj ha,aO,Bool.not_true,cond_false]
   have:ic d.aC (n:Int) a=some (ltR a.ah d.aC++a::gtR a.ah d.aC):=by
    unfold ic
    rw[if_pos ⟨by omega,by omega⟩,Int.toNat_natCast,List.set_eq_take_append_cons_drop,if_pos hn,p1]
    rw[List.drop_eq_getElem_cons hn]at hD
    rw[(List.cons.inj hD).2]
   rw[this,aO]
theorem aew(hd:SmD d):jK d=some d:=by
 refine Ok.eq ?_
 unfold jK
 refine Ok.pT (λP (m:List ai)=>m=P) ?_ _ rfl (λm hm=>Ok.s (by rw[hm]))
 rintro P x r m Z hL rfl hZ
 have hx:x∈d.aC:=by rw[hL];simp
 have hl:m.length<d.aC.length:=by rw[hL];simp
 have:=hd.1
 rw[wj (hd.2 x hx),aO,dQ (by simp;omega),aO]
 exact hZ _ rfl
theorem apK(hd:SmD d)(ha:SmA a):nK d a=some (if dbC d=0∧cm a=true then qt d a else(d,false)):=by
 unfold nK
 simp only[jn,aew hd,x2,td,aO]
 by_cases h:dbC d=0
 ·cases hv:cm a
  ·simp[h]
  ·simp only[h,decide_true,Bool.not_true,cond_false,and_self,if_true]
   rw[ahs (jB.1 h).asc hd.1 ha,aO]
 ·simp[h]
end Go.Proofs.YtjdopimopgpagaaGreat
namespace Go.Proofs.YtjdopimopgpagaaGreat
set_option linter.all false
open Go
theorem afp:∀(l:List ai) (lo:Int),l.Pairwise (λa b=>a.ah<b.ah)→(∀x∈l,lo≤x.ah∧x.ah≤99)→(l.length:Int)≤max 0 (100-lo)
 |[],lo,_,_=>by simp;omega
 |x::r,lo,h,hb=>by
  rw[List.pairwise_cons]at h
  have h1:=hb x (by simp)
  have:=afp r (x.ah+1) h.2 λy hy=>⟨by have:=h.1 y hy;omega,(hb y (by simp[hy])).2⟩
  simp only[List.length_cons]
  omega
variable {d:aG}
theorem ath(h1:∀a∈d.aC,cm a=true)(h2:x8 d):Vd d:=by
 refine⟨?_,h1,h2⟩
 have:=afp d.aC 1 h2 λx hx=>(adA (h1 x hx)).r
 omega
variable {a:ai}
theorem x9{x:ai}:x∈(tE d a).aC↔x=a∨(x∈d.aC∧x.ah≠a.ah):=by
 simp only[tE,List.mem_append,List.mem_cons,ltR,gtR,List.mem_filter,decide_eq_true_eq]
 constructor
 ·rintro(⟨h1,h2⟩|rfl|⟨h1,h2⟩)
  ·exact .inr ⟨h1,by omega⟩
  ·exact .inl rfl
  ·exact .inr ⟨h1,by omega⟩
 ·rintro(rfl|⟨h1,h2⟩)
  ·exact .inr (.inl rfl)
  ·rcases Int.lt_or_gt_of_ne h2 with h|h
   ·exact .inl ⟨h1,h⟩
   ·exact .inr (.inr ⟨h1,h⟩)
theorem ai2(h:x8 d)(a:ai):x8 (tE d a):=by
 unfold x8 tE
 simp only
 refine List.pairwise_append.2 ⟨List.Pairwise.sublist List.filter_sublist h,List.pairwise_cons.2 ⟨λy hy=>by simpa [gtR]using (List.mem_filter.1 hy).2,List.Pairwise.sublist List.filter_sublist h⟩,λx hx y hy=>?_⟩
 have h1:x.ah<a.ah:=by simpa using (List.mem_filter.1 hx).2
 rcases List.mem_cons.1 hy with rfl|hy
 ·exact h1
 ·have:a.ah<y.ah:=by simpa using (List.mem_filter.1 hy).2
  omega
theorem Vd.with{d:aG}(h:Vd d){a:ai}(ha:cm a=true):Vd (tE d a):=
 ath (λx hx=>by rcases x9.1 hx with rfl|⟨h1,_⟩;exact ha;exact h.ok x h1) (ai2 h.asc a)
theorem Vd.put(h:Vd d)(ha:cm a=true):Vd (qt d a).1:=by
 unfold qt
 cases(gM d a.ah).2&&!mM a (gM d a.ah).1
 ·exact h.with ha
 ·exact h
def look(d:aG)(r:Int):Option ai:=bif (gM d r).2 then some (gM d r).1 else none
variable {r:Int}
theorem lE(h:Vd d):look d r=some a↔a∈d.aC∧a.ah=r:=by
 unfold look
 constructor
 ·intro q
  rcases lB d r with⟨b,hb,he,hf⟩|⟨hn,hf⟩
  ·rw[hf]at q;simp at q;subst q;exact⟨hb,he⟩
  ·rw[hf]at q;simp at q
 ·rintro⟨h1,h2⟩
  rw[h.key h1 h2];rfl
theorem adb:look d r=none↔∀a∈d.aC,a.ah≠r:=by
 unfold look
 rcases lB d r with⟨b,hb,he,hf⟩|⟨hn,hf⟩
 ·rw[hf];simp;exact⟨b,hb,he⟩
 ·rw[hf];simp;exact hn
def mx(o:Option ai)(a:ai):ai:=match o with|none=>a|some x=>bif mM a x then a else x
theorem aex(h:Vd d)(ha:cm a=true)(r:Int):look (qt d a).1 r=if r=a.ah then some (mx (look d r) a)else look d r:=by
 have hw:∀r,look (tE d a) r=if r=a.ah then some a else look d r:=λr=>by
  by_cases hr:r=a.ah
  ·rw[if_pos hr]
   exact(lE (h.with ha)).2 ⟨x9.2 (.inl rfl),hr.symm⟩
  ·rw[if_neg hr]
   cases hl:look d r with
   |none=>
    rw[adb]at hl ⊢
    intro x hx
    rcases x9.1 hx with rfl|⟨h1,_⟩
    ·exact λe=>hr e.symm
    ·exact hl x h1
   |some x=>
    obtain⟨h1,h2⟩:=(lE h).1 hl
    exact(lE (h.with ha)).2 ⟨x9.2 (.inr ⟨h1,by omega⟩),h2⟩
 unfold qt
 rcases lB d a.ah with⟨b,hb,he,hf⟩|⟨hn,hf⟩
 ·rw[hf]
  have hlk:look d a.ah=some b:=(lE h).2 ⟨hb,he⟩
  cases hnw:mM a b
  ·simp only[Bool.not_false,Bool.and_self,cond_true]
   by_cases hr:r=a.ah
   ·subst hr;rw[if_pos rfl,hlk];simp[mx,hnw]
   ·rw[if_neg hr]
  ·simp only[Bool.not_true,Bool.and_false,cond_false]
   rw[hw]
   by_cases hr:r=a.ah
   ·subst hr;rw[if_pos rfl,if_pos rfl,hlk];simp[mx,hnw]
   ·rw[if_neg hr,if_neg hr]
 ·rw[hf]
  simp only[Bool.false_and,cond_false]
  rw[hw]
  by_cases hr:r=a.ah
  ·subst hr;rw[if_pos rfl,if_pos rfl,adb.2 hn];rfl
  ·rw[if_neg hr,if_neg hr]
theorem ae0{x y z:List UInt8}(h1:¬0<fM x y)(h2:¬0<fM y z):¬0<fM x z:=by
 intro h
 rcases Int.lt_trichotomy (fM x y) 0 with g|g|g
 ·have:0<fM y x:=by rw[wk];omega
  exact h2 (abK this h)
 ·rw[acC g]at h;exact h2 h
 ·exact h1 g
theorem oQ(a:ai):iD a a=false:=by simp[iD,ac5]
variable {b:ai}
theorem sJ(h:iD a b=true):iD b a=false:=by
 simp only[iD,Bool.or_eq_true,Bool.and_eq_true,decide_eq_true_eq]at h
 simp only[iD,Bool.or_eq_false_iff,Bool.and_eq_false_iff,decide_eq_false_iff_not]
 rcases h with h|⟨h1,h2⟩
 ·exact⟨by omega,.inl (by omega)⟩
 ·exact⟨by omega,.inr (by rw[wk];omega)⟩
theorem aam{c:ai}(h1:iD a b=false)(h2:iD b c=false):iD a c=false:=by
 simp only[iD,Bool.or_eq_false_iff,Bool.and_eq_false_iff,decide_eq_false_iff_not]at *
 refine⟨by omega,?_⟩
 by_cases e:a.Seq=c.Seq
 ·right
  have e1:a.Seq=b.Seq:=by omega
  have e2:b.Seq=c.Seq:=by omega
  rcases h1.2 with g|g
  ·exact absurd e1 g
  rcases h2.2 with g'|g'
  ·exact absurd e2 g'
  exact ae0 g g'
 ·exact .inl e
def gP(a b:aG):aG:=b.aC.foldl (λm e=>(qt m e).1) a
theorem ade{α β:Type}{f:β→α→β}{P:β→Prop}:∀(l:List α) (b:β),P b→(∀b x,x∈l→P b→P (f b x))→P (l.foldl f b)
 |[],b,h,_=>h
 |x::l,b,h,hs=>by
  simp only[List.foldl_cons]
  exact ade l _ (hs b x (by simp) h) λb y hy=>hs b y (by simp[hy])
theorem Vd.merge{a b:aG}(ha:Vd a)(hb:Vd b):Vd (gP a b):=
 ade (P:=Vd) b.aC a ha λd x hx h=>h.put (hb.ok x hx)
theorem agy{a b:aG}(ha:Vd a)(hb:Vd b)(r:Int):look (gP a b) r=match look b r with|none=>look a r|some y=>some (mx (look a r) y):=by
 have key:∀(l:List ai) (d:aG),Vd d→(∀x∈l,cm x=true)→l.Pairwise (λa b=>a.ah<b.ah)→
   look (l.foldl (λm e=>(qt m e).1) d) r=match l.find? (λx=>decide (x.ah=r))with|none=>look d r|some y=>some (mx (look d r) y):=by
  intro l
  induction l with
  |nil=>intro d _ _ _;rfl
  |cons x l ih=>
   intro d hd hv hp
   rw[List.pairwise_cons]at hp
   simp only[List.foldl_cons]
   rw[ih _ (hd.put (hv x (by simp))) (λy hy=>hv y (by simp[hy])) hp.2,aex hd (hv x (by simp)),List.find?_cons]
   by_cases hr:r=x.ah
   ·rw[if_pos hr]
    have:l.find? (λx=>decide (x.ah=r))=none:=List.find?_eq_none.2 λy hy=>by have:=hp.1 y hy;simp;omega
    rw[this];simp[hr]
   ·rw[if_neg hr]
    have:decide (x.ah=r)=false:=by simp;omega
    rw[this]
 unfold gP
 rw[key b.aC a ha hb.ok hb.asc]
 unfold look gM
 cases b.aC.find? (λx=>decide (x.ah=r))<;>rfl
theorem aan(a b:aG):uw a b=some (if dbC a=0∧dbC b=0 then(gP a b,0)else(aG.mk [],1)):=by
 unfold uw
 simp only[jn,tC,aO]
 by_cases h1:dbC a=0
 ·by_cases h2:dbC b=0
  ·simp only[h1,h2,decide_true,Bool.not_true,cond_false,and_self,if_true]
   refine Ok.eq ?_
   refine Ok.pT (λP (m:List ai)=>aG.mk m=P.foldl (λm e=>(qt m e).1) a∧Vd (aG.mk m)) ?_ _ ⟨rfl,jB.1 h1⟩ (λm hm=>Ok.s (by rw[hm.1];rfl))
   rintro P x r m Z hL ⟨hm,hv⟩ hZ
   have hx:=(jB.1 h2).ok x (by rw[hL];simp)
   rw[ada,if_pos ⟨jB.2 hv,hx⟩,aO]
   exact hZ _ ⟨by rw[List.foldl_append,←hm];rfl,hv.put hx⟩
  ·simp[h1,h2]
 ·simp[h1]
theorem Va.sm(h:cm a=true):SmA a:=by have:=adA h;exact⟨by have:=this.n;omega,by have:=this.nc;omega⟩
theorem ai3{a:aG}(hs:SmD a)(b:aG):lN a b=some (if dbC a=0∧dbC b=0 then(gP a b,0)else(aG.mk [],1)):=by
 unfold lN
 simp only[jn,x2,aew hs,aO]
 by_cases h1:dbC a=0
 ·by_cases h2:dbC b=0
  ·simp only[h1,h2,decide_true,Bool.not_true,cond_false,and_self,if_true]
   refine Ok.eq ?_
   refine Ok.pT (λP (m:List ai)=>aG.mk m=P.foldl (λm e=>(qt m e).1) a∧Vd (aG.mk m)) ?_ _ ⟨rfl,jB.1 h1⟩ (λm hm=>Ok.s (by rw[hm.1];rfl))
   rintro P x r m Z hL ⟨hm,hv⟩ hZ
   have hx:=(jB.1 h2).ok x (by rw[hL];simp)
   rw[ahs hv.asc (by have:=hv.n;omega) (Va.sm hx),aO]
   exact hZ _ ⟨by rw[List.foldl_append,←hm];rfl,hv.put hx⟩
  ·simp[h1,h2]
 ·simp[h1]
theorem abN(a:aG):adz a a=true:=by unfold adz;rw[x3 mL agt];simp
end Go.Proofs.YtjdopimopgpagaaGreat
namespace Go.Proofs.YtjdopimopgpagaaGreat
set_option linter.all false
open Go
structure Holds(N T:Nat)(F:List (Nat×Nat)):Prop where
 w:gp F≤T
 b:∀p∈F,p.1<2 ^ p.2
 v:N=mZ 0 F*2 ^ (T-gp F)
theorem ya:∀(a:Nat) (F:List (Nat×Nat)),mZ a F=a*2 ^ gp F+mZ 0 F
 |a,[]=>by simp[mZ,gp]
 |a,(v,w)::r=>by
  simp only[mZ,gp]
  rw[ya (a*2 ^ w+v) r,ya (0*2 ^ w+v) r,Nat.add_mul,Nat.mul_assoc,←Nat.pow_add,Nat.zero_mul,Nat.zero_add]
  omega
theorem afq:∀(F:List (Nat×Nat)),(∀p∈F,p.1<2 ^ p.2)→mZ 0 F<2 ^ gp F
 |[],_=>by simp[mZ,gp]
 |(v,w)::r,h=>by
  simp only[mZ,gp]
  rw[ya]
  have h1:=afq r λp hp=>h p (by simp[hp])
  have h2:v<2 ^ w:=h (v,w) (by simp)
  have h3:(v+1)*2 ^ gp r≤2 ^ w*2 ^ gp r:=Nat.mul_le_mul_right _ h2
  rw[Nat.add_mul,Nat.one_mul,←Nat.pow_add]at h3
  simp only[Nat.zero_mul,Nat.zero_add]
  omega
theorem Holds.apL{N T v w:Nat}{r:List (Nat×Nat)}(h:Holds N T ((v,w)::r)):v=N / 2 ^ (T-w)∧Holds (N%2 ^ (T-w)) (T-w) r:=by
 have hw:w+gp r≤T:=h.w
 have hr:∀p∈r,p.1<2 ^ p.2:=λp hp=>h.b p (by simp[hp])
 have hv:=h.v
 have e:mZ 0 ((v,w)::r)=v*2 ^ gp r+mZ 0 r:=by
  show mZ (0*2 ^ w+v) r=_
  rw[ya,Nat.zero_mul,Nat.zero_add]
 have hx:=afq r hr
 have e2:T-gp ((v,w)::r)=T-w-gp r:=by show T-(w+gp r)=_;omega
 rw[e,e2,Nat.add_mul,Nat.mul_assoc,←Nat.pow_add,show gp r+(T-w-gp r)=T-w by omega]at hv
 have hlt:mZ 0 r*2 ^ (T-w-gp r)<2 ^ (T-w):=by
  have:2 ^ (T-w)=2 ^ gp r*2 ^ (T-w-gp r):=by rw[←Nat.pow_add,show gp r+(T-w-gp r)=T-w by omega]
  rw[this];exact Nat.mul_lt_mul_of_pos_right hx (Nat.two_pow_pos _)
 refine⟨?_,⟨by omega,hr,?_⟩⟩
 ·rw[hv,Nat.mul_comm,Nat.mul_add_div (Nat.two_pow_pos _),Nat.div_eq_of_lt hlt,Nat.add_zero]
 ·rw[hv,Nat.mul_comm,Nat.mul_add_mod,Nat.mod_eq_of_lt hlt]
theorem Holds.same{N T v v' w:Nat}{r r':List (Nat×Nat)}(h:Holds N T ((v,w)::r))(h':Holds N T ((v',w)::r')):v=v'∧∃N' T',Holds N' T' r∧Holds N' T' r':=by
 obtain⟨a,b⟩:=h.apL
 obtain⟨c,d⟩:=h'.apL
 exact⟨a.trans c.symm,_,_,b,d⟩
theorem aht:∀(l m:List bA) (r r':List (Nat×Nat)) (N T:Nat),l.length=m.length→(∀x∈l,0≤x.bx∧0≤x.kN∧0≤x.bX)→(∀x∈m,0≤x.bx∧0≤x.kN∧0≤x.bX)→
  Holds N T (l.flatMap qh++r)→Holds N T (m.flatMap qh++r')→l=m∧∃N' T',Holds N' T' r∧Holds N' T' r'
 |[],[],r,r',N,T,_,_,_,h,h'=>⟨rfl,N,T,h,h'⟩
 |[],_::_,_,_,_,_,h,_,_,_,_=>by simp at h
 |_::_,[],_,_,_,_,h,_,_,_,_=>by simp at h
 |x::l,y::m,r,r',N,T,hl,hx,hy,h,h'=>by
  obtain⟨e1,_,_,h,h'⟩:=Holds.same h h'
  obtain⟨e2,_,_,h,h'⟩:=Holds.same h h'
  obtain⟨e3,_,_,h,h'⟩:=Holds.same h h'
  obtain⟨e,q⟩:=aht l m r r' _ _ (by simpa using hl) (λz hz=>hx z (by simp[hz])) (λz hz=>hy z (by simp[hz])) h h'
  refine⟨?_,q⟩
  have a1:=hx x (by simp);have a2:=hy y (by simp)
  rw[e];congr 1
  obtain⟨xn,xc,xp⟩:=x
  obtain⟨yn,yc,yp⟩:=y
  simp only at *
  rw[bA.mk.injEq];omega
theorem ahu{a b:Int}(ha:mY a=true)(hb:mY b=true)(h:qZ a=qZ b):a=b:=by
 simp only[mY,Bool.or_eq_true,decide_eq_true_eq]at ha hb
 rcases ha with rfl|rfl|rfl|rfl<;>rcases hb with rfl|rfl|rfl|rfl<;>simp[qZ]at h ⊢
theorem ahv:∀(l m:List bH) (r r':List (Nat×Nat)) (N T:Nat),l.length=m.length→(∀x∈l,0≤x.b9∧0≤x.ID∧mY x.Length=true)→(∀x∈m,0≤x.b9∧0≤x.ID∧mY x.Length=true)→
  Holds N T (l.flatMap th++r)→Holds N T (m.flatMap th++r')→l=m
 |[],[],_,_,_,_,_,_,_,_,_=>rfl
 |[],_::_,_,_,_,_,h,_,_,_,_=>by simp at h
 |_::_,[],_,_,_,_,h,_,_,_,_=>by simp at h
 |x::l,y::m,r,r',N,T,hl,hx,hy,h,h'=>by
  obtain⟨e1,_,_,h,h'⟩:=Holds.same h h'
  obtain⟨e2,_,_,h,h'⟩:=Holds.same h h'
  obtain⟨e3,_,_,h,h'⟩:=Holds.same h h'
  have e:=ahv l m r r' _ _ (by simpa using hl) (λz hz=>hx z (by simp[hz])) (λz hz=>hy z (by simp[hz])) h h'
  have a1:=hx x (by simp);have a2:=hy y (by simp)
  have e4:=ahu a1.2.2 a2.2.2 e3
  rw[e];congr 1
  obtain⟨xn,xc,xp⟩:=x
  obtain⟨yn,yc,yp⟩:=y
  simp only at *
  rw[bH.mk.injEq];omega
theorem ai4(l:Int):qZ l<4:=by unfold qZ;split;omega;split;omega;split<;>omega
theorem amC{a b:ai}(ha:cm a=true)(hb:cm b=true)(h:lP a=lP b):a=b:=by
 have facts:∀{a:ai},cm a=true→∃c,c<65536∧SR (lP a) (gp (sI a++[(c,16)])) (mZ 0 (sI a++[(c,16)]))∧(0≤a.ah∧0≤a.Seq)∧
   (∀x∈a.Links,0≤x.bx∧0≤x.kN∧0≤x.bX)∧(∀x∈a.Claims,0≤x.b9∧0≤x.ID∧mY x.Length=true)∧∀p∈sI a++[(c,16)],p.1<2 ^ p.2:=by
  intro a ha
  obtain⟨l,c,h1,_,hc,h3⟩:=abe ha
  have hl:lP a=l:=by unfold lP;rw[h1]
  have hb:=ha
  simp only[cm,inB,Bool.and_eq_true,decide_eq_true_eq,List.all_eq_true,lz,iN]at hb
  obtain⟨⟨⟨⟨⟨r1,r2⟩,⟨q1,q2⟩⟩,l1⟩,⟨gl,_⟩⟩,⟨c1,gc,_⟩⟩:=hb
  refine⟨c,hc,hl▸h3,by omega,λx hx=>?_,λx hx=>?_,?_⟩
  ·have:=gl x hx;omega
  ·have:=gc x hx;exact⟨by omega,by omega,this.2⟩
  ·intro p hp
   simp only[sI,x6,List.mem_append,List.mem_cons,List.not_mem_nil,or_false,List.mem_flatMap]at hp
   rcases hp with(((rfl|rfl|rfl|rfl)|⟨x,hx,hp⟩)|rfl|⟨x,hx,hp⟩)|rfl
   ·show a.ah.toNat<128;omega
   ·show a.Seq.toNat<1048576;omega
   ·show(bif a.aX then 1 else 0)<2;cases a.aX<;>decide
   ·show a.Links.length<32;omega
   ·have:=gl x hx
    simp only[qh,List.mem_cons,List.not_mem_nil,or_false]at hp
    rcases hp with rfl|rfl|rfl
    ·show x.bx.toNat<128;omega
    ·show x.kN.toNat<1024;omega
    ·show x.bX.toNat<1024;omega
   ·show a.Claims.length<16;omega
   ·have:=gc x hx
    simp only[th,List.mem_cons,List.not_mem_nil,or_false]at hp
    rcases hp with rfl|rfl|rfl
    ·show x.b9.toNat<8;omega
    ·show x.ID.toNat<512;omega
    ·show qZ x.Length<4;exact ai4 _
   ·exact hc
 obtain⟨c,hc,s1,n1,l1,k1,b1⟩:=facts ha
 obtain⟨d,hd,s2,n2,l2,k2,b2⟩:=facts hb
 rw[←h]at s2
 have H1:Holds (uz (lP a)) (8*(lP a).length) (sI a++[(c,16)]):=⟨s1.le,b1,s1.num⟩
 have H2:Holds (uz (lP a)) (8*(lP a).length) (sI b++[(d,16)]):=⟨s2.le,b2,s2.num⟩
 unfold sI x6 at H1 H2
 simp only[List.append_assoc,List.cons_append,List.nil_append]at H1 H2
 obtain⟨e1,_,_,H1,H2⟩:=H1.same H2
 obtain⟨e2,_,_,H1,H2⟩:=H1.same H2
 obtain⟨e3,_,_,H1,H2⟩:=H1.same H2
 obtain⟨e4,_,_,H1,H2⟩:=H1.same H2
 obtain⟨e5,_,_,H1,H2⟩:=aht _ _ _ _ _ _ e4 l1 l2 H1 H2
 obtain⟨e6,_,_,H1,H2⟩:=H1.same H2
 have e7:=ahv _ _ _ _ _ _ e6 k1 k2 H1 H2
 obtain⟨ar,as_,ac,al,ak⟩:=a
 obtain⟨br,bs_,bc,bl,bk⟩:=b
 simp only at *
 rw[ai.mk.injEq]
 refine⟨by omega,by omega,?_,e5,e7⟩
 cases ac<;>cases bc<;>simp at e3<;>rfl
theorem abO:∀{l m:List Int},(∀b∈l,0≤b∧b<256)→(∀b∈m,0≤b∧b<256)→ki l=ki m→l=m
 |[],[],_,_,_=>rfl
 |[],_::_,_,_,h=>by simp[ki]at h
 |_::_,[],_,_,h=>by simp[ki]at h
 |x::l,y::m,hl,hm,h=>by
  simp only[ki,List.map_cons,List.cons.injEq]at h
  have h1:=hl x (by simp);have h2:=hm y (by simp)
  have e:x.toNat=y.toNat:=by
   have:=congrArg UInt8.toNat h.1
   simp only[UInt8.toNat_ofNat']at this
   omega
  rw[abO (λb hb=>hl b (by simp[hb])) (λb hb=>hm b (by simp[hb])) h.2,show x=y by omega]
theorem abP{a:ai}(h:cm a=true):∀b∈lP a,0≤b∧b<256:=by
 obtain⟨l,c,h1,_,hc,h3⟩:=abe h
 have hl:lP a=l:=by unfold lP;rw[h1]
 rw[hl];exact h3.by_
theorem ai5{a b:ai}(ha:cm a=true)(hb:cm b=true)(h1:iD a b=false)(h2:iD b a=false):a=b:=by
 simp only[iD,Bool.or_eq_false_iff,Bool.and_eq_false_iff,decide_eq_false_iff_not]at h1 h2
 have hs:a.Seq=b.Seq:=by omega
 have g1:¬0<fM (ki (lP a)) (ki (lP b)):=by rcases h1.2 with q|q;exact absurd hs q;exact q
 have g2:¬0<fM (ki (lP b)) (ki (lP a)):=by rcases h2.2 with q|q;exact absurd hs.symm q;exact q
 rw[wk]at g2
 exact amC ha hb (abO (abP ha) (abP hb) (acC (by omega)))
def mxA(x y:ai):ai:=bif iD y x then y else x
theorem ati{d e:aG}(hd:Vd d)(he:Vd e){r:Int}{x y:ai}(h1:look d r=some x)(h2:look e r=some y):mx (some x) y=mxA x y:=by
 obtain⟨a1,a2⟩:=(lE hd).1 h1
 obtain⟨b1,b2⟩:=(lE he).1 h2
 simp only[mx,mxA,mM,hd.ok x a1,he.ok y b1,Bool.true_and]
 rw[a2,b2];simp
def mxO(o p:Option ai):Option ai:=match o,p with|some x,some y=>some (mxA x y)|some x,none=>some x|none,p=>p
theorem amD{a b:aG}(ha:Vd a)(hb:Vd b)(r:Int):look (gP a b) r=mxO (look a r) (look b r):=by
 rw[agy ha hb]
 cases h1:look a r with
 |none=>cases h2:look b r<;>rfl
 |some x=>
  cases h2:look b r with
  |none=>rfl
  |some y=>simp only[ati ha hb h1 h2,mxO]
end Go.Proofs.YtjdopimopgpagaaGreat
namespace Go.Proofs.YtjdopimopgpagaaGreat
set_option linter.all false
open Go
def o4(t:aA)(r n:Int):bA:=match t.Links.find? (λl=>fI l r n)with|some l=>bA.mk n (mm r n l).1 l.bX|none=>bA.mk n 0 0
def agz(t:aA)(r:Int):Bool:=match t.aH.find? (λx=>decide (x.ID=r))with|some x=>x.aX|none=>false
def ofA(t:aA)(r seq:Int)(cl:List bH):ai:=ai.mk r seq (agz t r) ((jd t r).map (o4 t r)) cl
theorem zV(t:aA)(r n:Int):(o4 t r n).bx=n:=by unfold o4;split<;>rfl
variable {l:aK}{t:aA}
theorem yb(hv:Vt t){a b:Int}(hl:l∈t.Links)(he:fI l a b=true):o4 t a b=bA.mk b (mm a b l).1 l.bX:=by
 unfold o4
 cases hf:t.Links.find? (λl=>fI l a b)with
 |none=>exact absurd he (List.find?_eq_none.1 hf l hl)
 |some x=>
  have hx:=List.mem_of_find?_eq_some hf
  have hp:=List.find?_some hf
  have h1:=hv.lt _ hl
  have h2:=hv.lt _ hx
  simp[fI]at he hp
  rw[aej hv hx hl (by omega) (by omega)]
theorem afr(hv:Vt t)(hl:l∈t.Links):o4 t l.A l.B=bA.mk l.B l.iX l.bX:=by
 rw[yb hv hl (by simp[fI])];simp[mm]
theorem afs(hv:Vt t)(hl:l∈t.Links):o4 t l.B l.A=bA.mk l.A l.iL l.bX:=by
 have:=hv.lt _ hl
 rw[yb hv hl (by simp[fI])]
 have e:(decide (l.A=l.B)&&decide (l.B=l.A))=false:=by simp;omega
 simp only[mm,e,cond_false]
theorem aey(hv:Vt t)(r:Int):iZ t r=some (agz t r):=by
 unfold iZ
 simp only[rM,aO,oL.2 hv,decide_true,Bool.not_true,cond_false]
 refine(uc (λx:bh=>decide (x.ID=r)) (λx=>some x.aX) (λ_ _ _ _=>rfl) _ _ _).trans ?_
 unfold agz
 cases t.aH.find? (λx=>decide (x.ID=r))<;>rfl
variable {r:Int}
theorem aez(hv:Vt t)(hr:r∈ids t):(jd t r).length≤23:=by
 have h1:r∉jd t r:=λh=>aem hv ((kg hv).1 h) rfl
 have h2:(jd t r).Nodup:=(xY hv r).imp λh=>by omega
 have:=ac1 (a:=r::jd t r) (b:=ids t) (List.nodup_cons.2 ⟨h1,h2⟩) λx hx=>by
  rcases List.mem_cons.1 hx with rfl|hx
  ·exact hr
  ·exact(List.mem_filter.1 hx).1
 have h3:=amt hv
 simp only[List.length_cons]at this
 omega
theorem ai6(hv:Vt t)(hr:r∈ids t)(seq:Int)(cl:List bH):sF t r seq cl=some (bif cm (ofA t r seq cl)then(ofA t r seq cl,0)else(noA,2)):=by
 refine Ok.eq ?_
 unfold sF
 simp only[rM,amp,aey hv,aiU hv,aO,oL.2 hv,w8.1 hr,decide_true,Bool.not_true,cond_false,Bool.true_and]
 refine Ok.pT (λP (m:List bA)=>m=P.map (o4 t r)) ?_ _ rfl ?_
 ·rintro P n rest m Z hL rfl hZ
  have aeA:gL t r n=true:=(kg hv).1 (by rw[hL];simp)
  have hlen:P.length<(jd t r).length:=by rw[hL];simp
  have hl23:=aez hv hr
  obtain⟨l,hl,hc⟩:=qg.1 aeA
  have hlt:=hv.lt l hl
  have he:fI l r n=true:=by simp[fI];omega
  rw[ud,aO]
  refine Ok.pT (λP2 (m2:Int)=>l∈P2→m2=l.bX) ?_ _ (by simp) ?_
  ·rintro P2 x rest2 m2 Z2 hL2 hm2 hZ2
   have hx:x∈t.Links:=by rw[hL2];simp
   have hmin:(if n<r then n else r)=l.A:=by split<;>omega
   have hmax:(if n>r then n else r)=l.B:=by split<;>omega
   rw[hmin,hmax]
   simp only[jn]
   refine Ok.cs (λh=>?_) λh=>?_
   ·simp at h
    refine hZ2 _ λ_=>?_
    rw[aej hv hx hl h.1 h.2]
   ·refine hZ2 _ λhm=>?_
    rcases List.mem_append.1 hm with hm|hm
    ·exact hm2 hm
    ·simp at hm;subst hm;simp at h
  ·intro m2 hm2
   rw[dQ (by simp;omega),aO]
   refine hZ _ ?_
   rw[List.map_append,hm2 hl,List.map_cons,List.map_nil,yb hv hl he,aek hv hl he]
 ·rintro m rfl
  rw[qB,aO]
  show Ok (bif !cm (ofA t r seq cl)then _ else _) _
  cases cm (ofA t r seq cl)
  ·exact Ok.s rfl
  ·exact Ok.s rfl
theorem apM{α:Type}{p:α→α→Bool}{l:List α}(h:l.Pairwise λa b=>p a b=true):fQ p l=true:=nO h
theorem adf(hv:Vt t)(hr:r∈ids t)(seq:Int)(cl:List bH):cm (ofA t r seq cl)=(inB seq 1 1000000&&(decide ((cl.length:Int)≤8)&&(cl.all iN&&qq cl))):=by
 have h23:=aez hv hr
 have hr99:inB r 1 99=true:=by
  obtain⟨x,hx,e⟩:=List.mem_map.1 hr
  have:=hv.idr x hx
  simp only[inB,Bool.and_eq_true,decide_eq_true_eq];omega
 have xx:((jd t r).map (o4 t r)).all (lz (ofA t r seq cl))=true:=by
  rw[List.all_eq_true]
  intro x hx
  obtain⟨n,hn,rfl⟩:=List.mem_map.1 hx
  have aeA:=(kg hv).1 hn
  obtain⟨y,hy,e⟩:=List.mem_map.1 (uU hv aeA)
  have hid:=hv.idr y hy
  obtain⟨l,hl,hc⟩:=qg.1 aeA
  have hlt:=hv.lt l hl
  have hb:=hv.okl l hl
  simp only[wE,sH,Bool.or_eq_false_iff,Bool.not_eq_false',Bool.and_eq_true,decide_eq_true_eq,decide_eq_false_iff_not]at hb
  have hne:=aem hv aeA
  rw[yb hv hl (by simp[fI];omega)]
  have hp:1≤(mm r n l).1∧(mm r n l).1≤1000:=by
   unfold mm
   simp only
   cases(decide (l.A=r)&&decide (l.B=n))<;>simp<;>omega
  have er:(ofA t r seq cl).ah=r:=rfl
  simp only[lz,inB,er,Bool.and_eq_true,decide_eq_true_eq,Bool.not_eq_true',decide_eq_false_iff_not]
  exact⟨⟨⟨⟨by omega,by omega⟩,λh=>hne h.symm⟩,hp⟩,by omega,by omega⟩
 have zc:vH ((jd t r).map (o4 t r))=true:=by
  refine apM (List.pairwise_map.2 ((xY hv r).imp λh=>?_))
  simp only[zV,decide_eq_true_eq];exact h
 have e1:(ofA t r seq cl).Links=(jd t r).map (o4 t r):=rfl
 unfold cm
 rw[e1,xx,zc]
 have e2:decide ((((jd t r).map (o4 t r)).length:Int)≤23)=true:=by simp;omega
 rw[e2]
 show(inB r 1 99&&inB seq 1 1000000&&true&&(true&&true)&&(decide ((cl.length:Int)≤8)&&(cl.all iN&&qq cl)))=_
 rw[hr99];simp
end Go.Proofs.YtjdopimopgpagaaGreat
namespace Go.Proofs.YtjdopimopgpagaaGreat
set_option linter.all false
open Go
def coL(l m:aK):Prop:=l.B<m.B∨(l.B=m.B∧l.A<m.A)
theorem ahw{l:List aK}(hl:l.length≤1000000)(hd:l.Pairwise coL):Ok (n4 l) (λm=>m.Pairwise (λa b=>ltL a b=true)∧(∀x,x∈m↔x∈l)∧m.length=l.length):=by
 unfold n4
 refine Ok.pT (λP m=>m.Pairwise (λa b=>ltL a b=true)∧(∀x,x∈m↔x∈P)∧m.length=P.length) ?_ _ ⟨by simp,by simp,rfl⟩ λs hs=>Ok.s hs
 rintro P x r s Z hL ⟨i1,i2,i3⟩ hZ
 have hP:P.length<l.length:=by rw[hL];simp
 have hne:∀y∈s,ltL y x=false→ltL x y=true:=λy hy h=>by
  rw[hL]at hd
  have:=(List.pairwise_append.1 hd).2.2 y ((i2 y).1 hy) x (by simp)
  simp only[ltL,Bool.or_eq_false_iff,Bool.and_eq_false_iff,decide_eq_false_iff_not,Bool.or_eq_true,Bool.and_eq_true,decide_eq_true_eq]at *
  unfold coL at this
  omega
 refine Ok.whl (λat1:Int=>(0≤at1∧at1≤s.length)∧∀y∈s.take at1.toNat,ltL y x=true) (λat1=>((s.length:Int)-at1).toNat) ⟨by omega,by simp⟩ (by omega) ?_
 rintro a Z2 ⟨⟨ha0,ha1⟩,hlt⟩ hZ2
 refine Ok.jn (λv:Bool=>(v=true→∃h:a.toNat<s.length,ltL s[a.toNat] x=true)∧(v=false→∀h:a.toNat<s.length,ltL s[a.toNat] x=false)) ?_ ?_
 ·rintro v ⟨hv,hv2⟩
  refine Ok.cs (λh=>?_) λh=>?_
  ·obtain⟨h1,h2⟩:=hv h
   rw[cB (by omega) (by omega)]
   refine hZ2 _ ⟨by omega,λy hy=>?_⟩ (by omega)
   rw[show(a+1).toNat=a.toNat+1 by omega,List.take_succ_eq_append_getElem h1]at hy
   rcases List.mem_append.1 hy with hy|hy
   ·exact hlt y hy
   ·simp at hy;subst hy;exact h2
  ·have hv2:=hv2 h
   refine Ok.bnd (y5 ⟨by omega,by omega,by omega⟩) λl1 h1=>?_
   refine Ok.bnd (gm (by simp;omega)) λl2 h2=>?_
   refine Ok.bnd (gm (by simp at h2 ⊢;omega)) λl3 h3=>?_
   refine Ok.bnd (y5 ⟨by omega,by omega,by omega⟩) λl4 h4=>?_
   refine Ok.bnd (gm (by simp at h2 h3 ⊢;omega)) λl5 h5=>?_
   have e5:l5=s.take a.toNat++x::s.drop a.toNat:=by
    rw[h5.1,h3.1,h2.1,h1.1,h4.1];simp
   have hgt:∀y∈s.drop a.toNat,ltL x y=true:=λy hy=>by
    have hlen:a.toNat<s.length:=by
     have:=List.length_pos_of_mem hy
     rw[List.length_drop]at this;omega
    rw[List.drop_eq_getElem_cons hlen]at hy
    have h0:=hne _ (List.getElem_mem hlen) (hv2 hlen)
    rcases List.mem_cons.1 hy with rfl|hy
    ·exact h0
    ·have hp:(s.drop a.toNat).Pairwise (λa b=>ltL a b=true):=i1.sublist (List.drop_sublist _ _)
     rw[List.drop_eq_getElem_cons hlen,List.pairwise_cons]at hp
     exact wh _ _ _ h0 (hp.1 y hy)
   refine hZ _ ⟨?_,λy=>?_,?_⟩
   ·rw[e5]
    refine List.pairwise_append.2 ⟨i1.sublist (List.take_sublist _ _),List.pairwise_cons.2 ⟨hgt,i1.sublist (List.drop_sublist _ _)⟩,λy hy z hz=>?_⟩
    rcases List.mem_cons.1 hz with rfl|hz
    ·exact hlt y hy
    ·exact wh _ _ _ (hlt y hy) (hgt z hz)
   ·have hs:=List.take_append_drop a.toNat s
    have:y∈s↔y∈s.take a.toNat∨y∈s.drop a.toNat:=by rw[←List.mem_append,hs]
    rw[e5,List.mem_append,List.mem_cons,List.mem_append,List.mem_singleton,←i2 y,this]
    constructor
    ·rintro(h|h|h);exact .inl (.inl h);exact .inr h;exact .inl (.inr h)
    ·rintro((h|h)|h);exact .inl h;exact .inr (.inr h);exact .inr (.inl h)
   ·rw[e5];simp;omega
 ·intro J hJ
  refine Ok.cs (λh=>?_) λh=>hJ _ ⟨by simp,λ_ h2=>by simp at h;omega⟩
  simp at h
  refine Ok.bnd (mK ha0 h) λe he=>?_
  obtain⟨h1,h2⟩:=List.getElem?_eq_some_iff.1 he.2
  subst h2
  refine Ok.cs (λg=>hJ _ ⟨λ_=>⟨h1,by simp[ltL];simp at g;omega⟩,by simp⟩) λg=>?_
  refine Ok.cs (λg2=>?_) λg2=>hJ _ ⟨by simp,λ_ _=>by simp[ltL];simp at g g2;omega⟩
  refine hJ _ ⟨λhd=>⟨h1,?_⟩,λhd _=>?_⟩
  ·simp at g g2 hd;simp[ltL];omega
  ·simp at g g2 hd;simp[ltL];omega
def acE(l:aK):Prop:=1≤l.A∧l.A<l.B∧(1≤l.iX∧l.iX≤5)∧(1≤l.iL∧l.iL≤5)∧0≤l.bX∧l.bX≤3
structure Vg(g:aA)(most:Int):Prop where
 v:Vt g
 n:1≤g.aH.length∧(g.aH.length:Int)≤most
 i:∀r∈g.aH,r.ID≤most
theorem ae1{t:aS}{most:Int}(h:ct t)(hm:1≤most∧most≤8):Ok (fH t most 0) (λp=>Vg p.1 most∧ct p.2):=by
 unfold fH
 refine Ok.bnd (kS h) λp hp=>?_
 obtain⟨hk,hp⟩:=hp
 have hk:=hk (by omega) (by omega) (by omega)
 refine Ok.chk (by simp;omega) ?_
 refine Ok.fV (λj (m:List bh)=>(m.length:Int)=j-1∧m.Pairwise (λa b=>a.ID<b.ID)∧(∀r∈m,1≤r.ID∧r.ID<j)∧∀i,1≤i→i<j→∃r∈m,r.ID=i) 1 (p.1+1) ?_ ?_ _ _ _ rfl (by omega) (by omega) ⟨by simp,by simp,by simp,λi h1 h2=>by omega⟩
 ·rintro i s Z h1 h2 ⟨hI,hI2,hI3,hI4⟩ hZ
  refine Ok.bnd (gm (by simp;omega)) λl1 hl1=>hZ _ ⟨by have:=hl1.2;simp at this;omega,?_,?_,?_⟩
  ·rw[hl1.1]
   refine List.pairwise_append.2 ⟨hI2,by simp,λa ha b hb=>?_⟩
   have:=hI3 a ha
   simp at hb;subst hb;exact this.2
  ·rw[hl1.1];intro r hr
   rcases List.mem_append.1 hr with hr|hr
   ·have:=hI3 r hr;omega
   ·simp at hr;subst hr;simp only;omega
  ·rw[hl1.1];intro j h3 h4
   by_cases e:j=i
   ·exact⟨bh.mk i true,List.mem_append_right _ (by simp),e.symm⟩
   ·obtain⟨r,hr,e2⟩:=hI4 j h3 (by omega)
    exact⟨r,List.mem_append_left _ hr,e2⟩
 rintro i rs hi1 hi2 ⟨hrs,hrs2,apN,apO⟩
 have hi2:=hi2 (by omega)
 subst hi2
 refine Ok.bnd (jM hp (by decide) (by decide)) λc hc=>?_
 have abI:1≤c.1∧c.1≤5:=by have:=hc.1;simp at this;omega
 refine Ok.chk (by simp;omega) ?_
 refine Ok.fV (λj (s:List aK×List Int×Int)=>((s.1.length:Int)≤8*(j-2)∧(∀l∈s.1,acE l∧l.B<j)∧s.1.Pairwise coL)∧ct (aS.mk s.2.1 s.2.2)) 2 (if 2≤p.1+1 then p.1+1 else 2) ?_ ?_ _ _ _ ?_ (by omega) ?_ ⟨by simp,hc.2⟩
 ·intro b s Z hb1 hb2 hI hZ
  have hb3:b<p.1+1:=by split at hb2<;>omega
  obtain⟨ms,L,At⟩:=s
  obtain⟨⟨hlen,hok,hpw⟩,ht⟩:=hI
  simp only at hlen hok hpw
  refine Ok.bnd (kS ht) λtr htr=>?_
  refine Ok.bnd (qA htr.2 (by omega)) λsk hsk=>?_
  refine Ok.chk (by simp;omega) ?_
  refine Ok.fV (λa (s:List aK×List Int×Int)=>((s.1.length:Int)≤8*(b-2)+(a-1)∧(∀l∈s.1,acE l∧(l.B<b∨l.B=b∧l.A<a))∧s.1.Pairwise coL)∧ct (aS.mk s.2.1 s.2.2)) 1 b ?_ ?_ _ _ _ rfl (by omega) (by omega) ⟨⟨by simp only;omega,λl hl=>⟨(hok l hl).1,.inl (hok l hl).2⟩,hpw⟩,hsk⟩
  ·intro a s Z3 ha1 ha2 hI3 hZ3
   obtain⟨m5,m6,m7⟩:=s
   obtain⟨⟨hl5,wF,acF⟩,ht5⟩:=hI3
   simp only at hl5 wF acF
   refine Ok.jn (λs:List Int×Int×List aK=>((s.2.2.length:Int)≤8*(b-2)+a∧(∀l∈s.2.2,acE l∧(l.B<b∨l.B=b∧l.A<a+1))∧s.2.2.Pairwise coL)∧ct (aS.mk s.1 s.2.1)) (λs hs=>hZ3 _ ⟨by have h:=hs.1;obtain⟨_,_,_⟩:=s;simp only at h ⊢;exact⟨by omega,h.2⟩,hs.2⟩) λJ1 hJ1=>?_
   refine Ok.jn (λs:Bool×List Int×Int=>ct (aS.mk s.2.1 s.2.2)) (λs hs=>?_) λJ2 hJ2=>?_
   ·obtain⟨v,m11,m12⟩:=s
    refine Ok.cs (λ_=>?_) λ_=>hJ1 _ ⟨⟨by simp only;omega,λl hl=>⟨(wF l hl).1,by have:=(wF l hl).2;omega⟩,acF⟩,hs⟩
    refine Ok.bnd (kS hs) λq7 h7=>?_
    refine Ok.bnd (kS h7.2) λq8 h8=>?_
    refine Ok.bnd (dR h8.2 (by omega)) λq9 h9=>?_
    have c7:=h7.1 (by omega) (by omega) (by omega)
    have c8:=h8.1 (by omega) (by omega) (by omega)
    have c9:=h9.1.2.1 (by omega)
    have c90:=h9.1.1
    refine Ok.bnd (gm (by simp;omega)) λl2 hl2=>hJ1 _ ⟨⟨by have:=hl2.2;rw[List.length_cons,List.length_nil]at this;simp only;omega,?_,?_⟩,h9.2⟩
    ·simp only[hl2.1];intro l hl
     rcases List.mem_append.1 hl with hl|hl
     ·exact⟨(wF l hl).1,by have:=(wF l hl).2;omega⟩
     ·simp only[List.mem_singleton]at hl;subst hl
      exact⟨⟨ha1,ha2,⟨c7.1,Int.le_trans c7.2 abI.2⟩,⟨c8.1,Int.le_trans c8.2 abI.2⟩,c90,by show q9.1≤3;omega⟩,.inr ⟨rfl,by show a<a+1;omega⟩⟩
    ·simp only[hl2.1]
     refine List.pairwise_append.2 ⟨acF,by simp,λl hl m hm=>?_⟩
     have:=(wF l hl).2
     simp at hm;subst hm;unfold coL;simp only;omega
   ·refine Ok.cs (λ_=>?_) λ_=>Ok.bnd (qA ht5 (by omega)) λq h=>hJ2 _ h
    exact Ok.cs (λ_=>hJ2 _ ht5) λ_=>Ok.bnd (qA ht5 (by omega)) λq h=>hJ2 _ h
  ·intro a s ha1 ha2 hI3
   have ha2:=ha2 (by omega)
   obtain⟨m5,m6,m7⟩:=s
   obtain⟨⟨hl5,wF,acF⟩,ht5⟩:=hI3
   simp only at hl5 wF acF
   exact hZ _ ⟨⟨by simp only;omega,λl hl=>⟨(wF l hl).1,by have:=(wF l hl).2;omega⟩,acF⟩,ht5⟩
 ·intro b s hb1 hb2 hI
  have hb2:=hb2 (by split<;>omega)
  have hb3:b≤9:=by split at hb2<;>omega
  obtain⟨m2,m3,m4⟩:=s
  obtain⟨⟨hlen,hok,hpw⟩,ht⟩:=hI
  simp only at hlen hok hpw
  refine Ok.bnd (ahw (by omega) hpw) λl hl=>?_
  obtain⟨hl1,hl2,hl3⟩:=hl
  have hV:Vg (aA.mk rs l) most:=by
   have hb4:b=p.1+1:=by split at hb2<;>omega
   have agA:∀x∈l,acE x∧x.B<p.1+1:=λx hx=>by
    have:=hok x ((hl2 x).1 hx)
    exact⟨this.1,by omega⟩
   refine⟨⟨by simp only;omega,by simp only;omega,λr hr=>by have:=apN r hr;omega,hrs2,λx hx=>?_,λx hx=>?_,λx hx=>(agA x hx).1.2.1,hl1⟩,by simp only;omega,λr hr=>by have:=apN r hr;omega⟩
   ·have:=(agA x hx).1
    unfold acE at this
    have c1:sH x.iX=true:=by simp[sH];omega
    have c2:sH x.iL=true:=by simp[sH];omega
    simp only[wE,c1,c2,Bool.not_true,Bool.or_self,Bool.false_or,Bool.or_eq_false_iff,decide_eq_false_iff_not]
    omega
   ·have:=agA x hx
    unfold acE at this
    obtain⟨r1,g1,g2⟩:=apO x.A (by omega) (by omega)
    obtain⟨r2,g3,g4⟩:=apO x.B (by omega) (by omega)
    exact⟨xW.2 ⟨r1,g1,g2⟩,xW.2 ⟨r2,g3,g4⟩⟩
  simp only[jn]
  exact Ok.s ⟨hV,ht⟩
 ·split<;>omega
 ·split<;>omega
theorem Vt.ai7{g h:aA}(hv:Vt g)(h1:h.aH.map (·.ID)=g.aH.map (·.ID))(h2:h.Links=g.Links):Vt h:=by
 have hl:h.aH.length=g.aH.length:=by have:=congrArg List.length h1;simpa using this
 have hh:∀x,hasB h x=true↔hasB g x=true:=λx=>by
  rw[←w8,←w8];unfold ids;rw[h1]
 refine⟨by rw[hl];exact hv.nr,by rw[h2];exact hv.nl,λr hr=>?_,?_,by rw[h2];exact hv.okl,by rw[h2];simp only[hh];exact hv.ends,by rw[h2];exact hv.lt,by rw[h2];exact hv.aeh⟩
 ·have:r.ID∈g.aH.map (·.ID):=by rw[←h1];exact List.mem_map.2 ⟨r,hr,rfl⟩
  obtain⟨x,hx,e⟩:=List.mem_map.1 this
  rw[←e];exact hv.idr x hx
 ·have:=ahk hv
  unfold ids at this
  rw[←h1]at this
  exact List.pairwise_map.1 this
end Go.Proofs.YtjdopimopgpagaaGreat
namespace Go.Proofs.YtjdopimopgpagaaGreat
set_option linter.all false
open Go
def ofE(r:Int)(l:aK):Option bA:=if r=l.A then some (bA.mk l.B l.iX l.bX)else if r=l.B then some (bA.mk l.A l.iL l.bX)else none
theorem ai8{t:aA}(hv:Vt t)(r:Int):t.Links.filterMap (ofE r)=(jd t r).map (o4 t r):=by
 have hne:∀l∈t.Links,l.A<l.B:=λl hl=>hv.lt l hl
 refine uP (r:=λa b:bA=>a.bx<b.bx) (λa=>Int.lt_irrefl _) (λa b c=>Int.lt_trans) ?_ ?_ λx=>?_
 ·rw[List.pairwise_filterMap]
  refine List.Pairwise.imp_of_mem (λ{l m} hl hm hlt x hx y hy=>?_) hv.aeh
  have h1:=hne l hl;have h2:=hne m hm
  have h3:=amx.1 hlt
  unfold ofE at hx hy
  split at hx
  ·cases hx
   split at hy
   ·cases hy;simp only;omega
   ·split at hy
    ·cases hy;simp only;omega
    ·cases hy
  ·split at hx
   ·cases hx
    split at hy
    ·cases hy;simp only;omega
    ·split at hy
     ·cases hy;simp only;omega
     ·cases hy
   ·cases hx
 ·exact List.pairwise_map.2 ((xY hv r).imp λh=>by simp only[zV];exact h)
 ·rw[List.mem_filterMap,List.mem_map]
  constructor
  ·rintro⟨l,hl,hx⟩
   have h1:=hne l hl
   unfold ofE at hx
   split at hx
   ·cases hx;rename_i e;subst e
    exact⟨l.B,(kg hv).2 (qg.2 ⟨l,hl,.inl ⟨rfl,rfl⟩⟩),afr hv hl⟩
   ·split at hx
    ·cases hx;rename_i e;subst e
     exact⟨l.A,(kg hv).2 (qg.2 ⟨l,hl,.inr ⟨rfl,rfl⟩⟩),afs hv hl⟩
    ·cases hx
  ·rintro⟨n,hn,rfl⟩
   obtain⟨l,hl,hc⟩:=qg.1 ((kg hv).1 hn)
   have h1:=hne l hl
   refine⟨l,hl,?_⟩
   unfold ofE
   rcases hc with⟨rfl,rfl⟩|⟨rfl,rfl⟩
   ·rw[if_pos rfl,afr hv hl]
   ·rw[if_neg (by omega),if_pos rfl,afs hv hl]
end Go.Proofs.YtjdopimopgpagaaGreat
namespace Go.Proofs.YtjdopimopgpagaaGreat
set_option linter.all false
open Go
theorem zd{α γ β:Type}(f:α→γ){K:List γ→Option β}:∀(l:List α) (j:Nat) (s:List γ),s.length+l.length≤1000000→bL l j (λ(_:Int) (e:α) (Z:List γ→Option β) (o:List γ)=>bnd (dh o ([f e]:List γ)) λl=>Z l) K s=K (s++l.map f)
 |[],_,s,_=>by simp[bL]
 |x::r,j,s,h=>by
  simp only[bL]
  simp only[List.length_cons]at h
  rw[dQ (by simp;omega),aO,zd f r (j+1) _ (by simp;omega)]
  simp
def aY(f:aB):aA:=aA.mk (f.aF.map λn=>bh.mk n.ah n.aX) f.Links
def SmF(f:aB):Prop:=f.Links.length≤100000∧f.aF.length≤100000
variable {f:aB}
theorem pU(h:SmF f):dM f=some (aY f):=by
 unfold dM
 rw[zd (λn:aW=>bh.mk n.ah n.aX) f.aF 0 [] (by have:=h.2;simp;omega)]
 rfl
theorem zW{l:List aK}(h:l.length≤100000):cV l=some l:=by
 unfold cV dV
 rw[dQ (by simp;omega)];rfl
theorem abQ(h:SmF f):dW f=some (aY f):=by
 unfold dW
 rw[zW h.1,aO,zd (λn:aW=>bh.mk n.ah n.aX) f.aF 0 [] (by have:=h.2;simp;omega)]
 rfl
def uB(r:Int):List aW→Nat→Int
 |[],_=>-1
 |x::l,j=>bif decide (x.ah=r)then(j:Int)else uB r l (j+1)
theorem zf{B:Int→aW→(Unit→Option Int)→Unit→Option Int}{K:Unit→Option Int}{r:Int}(hB:∀j x Z s,B j x Z s=bif decide (x.ah=r)then some j else Z s)(hK:∀s,K s=some (-1)):∀(l:List aW) (j:Nat) (s:Unit),bL l j B K s=some (uB r l j)
 |[],_,s=>hK s
 |x::l,j,s=>by
  simp only[bL,hB,uB,zf hB hK l (j+1) s]
  cases decide (x.ah=r)<;>rfl
def je(f:aB)(r:Int):Int:=uB r f.aF 0
theorem zg(f:aB)(r:Int):kR f r=some (je f r):=by
 unfold kR
 exact zf (λj x Z s=>rfl) (λs=>rfl) f.aF 0 ()
theorem aft(f:aB)(r:Int):gj f r=some (je f r,decide (0≤je f r)):=by
 unfold gj eM
 rw[zf (r:=r) (λj x Z s=>by simp only[nk,aO]) (λs=>rfl)]
 rfl
theorem afu(r:Int):∀(l p:List aW),(uB r l p.length = -1∧∀x∈l,x.ah≠r)∨∃a x b,l=a++x::b∧uB r l p.length=((p.length+a.length:Nat):Int)∧x.ah=r
 |[],_=>.inl ⟨rfl,by simp⟩
 |x::l,p=>by
  by_cases h:x.ah=r
  ·exact .inr ⟨[],x,l,rfl,by simp[uB,h],h⟩
  ·have:=afu r l (p++[x])
   simp only[List.length_append,List.length_cons,List.length_nil]at this
   rcases this with⟨h1,h2⟩|⟨a,y,b,h1,h2,h3⟩
   ·exact .inl ⟨by simp only[uB,h,decide_false,cond_false];exact h1,λz hz=>by
     rcases List.mem_cons.1 hz with rfl|hz
     ·exact h
     ·exact h2 z hz⟩
   ·exact .inr ⟨x::a,y,b,by rw[h1];rfl,by simp only[uB,h,decide_false,cond_false];rw[h2];simp;omega,h3⟩
theorem uQ(f:aB)(r:Int):(je f r = -1∧∀x∈f.aF,x.ah≠r)∨∃a x b,f.aF=a++x::b∧je f r=(a.length:Int)∧x.ah=r:=by
 have:=afu r f.aF []
 simpa [je]using this
def jN(l:List bH):Bool:=decide ((l.length:Int)≤8)&&(l.all iN&&qq l)
def okN(n:aW):Bool:=decide (0≤n.Seq)&&(decide (n.Seq≤1000000)&&(jN n.Claims&&decide (dbC n.Database=0)))
def okM(f:aB)(m:aR):Bool:=decide (0≤je f m.cD)&&(decide (0≤je f m.To)&&(!decide (m.cD=m.To)&&decide (dbC m.Database=0)))
def qH(f:aB):Bool:=decide (nN (aY f)=0)&&(!decide ((400:Int)<(f.ay.length:Int))&&(f.aF.all okN&&f.ay.all (okM f)))
variable {α:Type}
theorem yd{β:Type}{B:Int→α→(Unit→Option β)→Unit→Option β}{K:Unit→Option β}(p:α→Bool)(a:Option β)(l:List α)(hB:∀j,∀x∈l,∀Z,B j x Z ()=bif p x then Z ()else a):∀(j:Nat),bL l j B K ()=bif l.all p then K ()else a:=by
 induction l with
 |nil=>intro j;rfl
 |cons x r ih=>
  intro j
  simp only[bL]
  rw[hB _ x (by simp),ih (λj y hy=>hB j y (by simp[hy])),List.all_cons]
  cases p x<;>rfl
theorem tF(h:SmF f):mh f=some (qH f):=by
 unfold mh qH
 simp only[jn,pU h,rM,aO]
 by_cases h1:nN (aY f)=0
 ·by_cases h2:(400:Int)<(f.ay.length:Int)
  ·simp[h1,h2]
  ·simp only[h1,h2,decide_true,decide_false,Bool.not_true,Bool.not_false,cond_false,Bool.true_and]
   rw[yd okN (some false) f.aF]
   ·rw[yd (okM f) (some false) f.ay]
    ·cases f.aF.all okN<;>cases f.ay.all (okM f)<;>rfl
    ·intro j x hx Z
     simp only[zg,tC,aO,okM]
     by_cases a1:je f x.cD<0
     ·simp[a1,show ¬0≤je f x.cD by omega]
     by_cases a2:je f x.To<0
     ·simp[a1,a2,show ¬0≤je f x.To by omega]
     by_cases a3:x.cD=x.To
     ·simp[a1,a2,a3]
     ·cases h4:decide (dbC x.Database=0)<;>simp[a1,a2,a3,h4,show 0≤je f x.cD by omega,show 0≤je f x.To by omega]
   ·intro j x hx Z
    simp only[zb,tC,aO,okN,jN]
    by_cases a1:x.Seq<0
    ·simp[a1,show ¬0≤x.Seq by omega]
    by_cases a2:1000000<x.Seq
    ·simp[a1,a2,show ¬x.Seq≤1000000 by omega]
    ·simp only[a1,a2,decide_false,cond_false,show 0≤x.Seq by omega,show x.Seq≤1000000 by omega,decide_true,Bool.true_and]
     cases(decide ((x.Claims.length:Int)≤8)&&(x.Claims.all iN&&qq x.Claims))<;>cases h4:decide (dbC x.Database=0)<;>simp
 ·simp[h1]
theorem tj{n:aW}(hn:n∈f.aF):n.ah∈ids (aY f):=by
 unfold ids aY
 simp only[List.map_map]
 exact List.mem_map.2 ⟨n,hn,rfl⟩
variable {r:Int}{t:aA}
theorem ae2(hv:Vt t)(hr:r∈ids t):inB r 1 99=true:=by
 obtain⟨x,hx,rfl⟩:=List.mem_map.1 hr
 have:=hv.idr x hx
 simp[inB];omega
theorem ye(h:SmF f):en f=some (bif qH f then 0 else 1):=by
 unfold en qH
 simp only[jn,abQ h,y9,aO]
 by_cases h1:nN (aY f)=0
 ·have hv:=oL.1 h1
  by_cases h2:(400:Int)<(f.ay.length:Int)
  ·simp[h1,h2]
  ·simp only[h1,h2,decide_true,decide_false,Bool.not_true,Bool.not_false,cond_false,Bool.true_and]
   rw[yd okN (some 1) f.aF]
   ·rw[yd (okM f) (some 1) f.ay]
    ·cases f.aF.all okN<;>cases f.ay.all (okM f)<;>rfl
    ·intro j x hx Z
     simp only[aft,x2,aO,okM]
     cases a1:decide (0≤je f x.cD)<;>cases a2:decide (0≤je f x.To)<;>cases a3:decide (x.cD=x.To)<;>cases h4:decide (dbC x.Database=0)<;>simp
   ·intro j x hx Z
    have hr:=ae2 hv (tj hx)
    have hval:cm (ai.mk x.ah 1 false [] x.Claims)=jN x.Claims:=by
     simp only[cm,hr,jN,List.all_nil,vH,fQ,List.length_nil,Bool.true_and,Bool.and_true]
     rfl
    simp only[td,hval,x2,aO,okN]
    by_cases a1:x.Seq<0
    ·simp[a1,show ¬0≤x.Seq by omega]
    by_cases a2:1000000<x.Seq
    ·simp[a1,a2,show ¬x.Seq≤1000000 by omega]
    ·simp only[a1,a2,decide_false,cond_false,show 0≤x.Seq by omega,show x.Seq≤1000000 by omega,decide_true,Bool.true_and]
     cases jN x.Claims<;>cases h4:decide (dbC x.Database=0)<;>simp
 ·simp[h1]
structure Vf(f:aB):Prop where
 t:Vt (aY f)
 m:f.ay.length≤400
 n:∀n∈f.aF,(0≤n.Seq∧n.Seq≤1000000)∧jN n.Claims=true∧Vd n.Database
 g:∀m∈f.ay,0≤je f m.cD∧0≤je f m.To∧m.cD≠m.To∧Vd m.Database
theorem ue:qH f=true↔Vf f:=by
 unfold qH
 simp only[Bool.and_eq_true,decide_eq_true_eq,Bool.not_eq_true',decide_eq_false_iff_not,List.all_eq_true,okN,okM]
 constructor
 ·rintro⟨h1,h2,h3,h4⟩
  exact⟨oL.1 h1,by omega,λn hn=>by have:=h3 n hn;exact⟨⟨this.1,this.2.1⟩,this.2.2.1,jB.1 this.2.2.2⟩,λm hm=>by have:=h4 m hm;exact⟨this.1,this.2.1,this.2.2.1,jB.1 this.2.2.2⟩⟩
 ·intro h
  exact⟨oL.2 h.t,by have:=h.m;omega,λn hn=>by have:=h.n n hn;exact⟨this.1.1,this.1.2,this.2.1,jB.2 this.2.2⟩,λm hm=>by have:=h.g m hm;exact⟨this.1,this.2.1,this.2.2.1,jB.2 this.2.2.2⟩⟩
theorem Vf.len(h:Vf f):f.aF.length≤24:=by have:=h.t.nr;simpa [aY]using this
theorem Vf.asc{f:aB}(h:Vf f):f.aF.Pairwise λa b=>a.ah<b.ah:=by
 have:=h.t.asc
 simp only[aY,List.pairwise_map]at this
 exact this
theorem atj(hv:Vt t)(hr:r∈ids t)(seq:Int){cl:List bH}(hc:cl.length≤100000):qz t r seq cl=some (bif cm (ofA t r seq cl)then(ofA t r seq cl,0)else(noA,2)):=by
 have apP:=hv.nr;have apQ:=hv.nl
 obtain⟨b,hb1,hb2⟩:=agr t r (by omega)
 have hcap:b=agz t r:=some_inj (hb2.symm.trans (aey hv r))
 subst hcap
 refine Ok.eq ?_
 unfold qz
 simp only[y9,amq t r (show t.aH.length≤1000000 by omega),hb1,aO,oL.2 hv,w8.1 hr,decide_true,Bool.not_true,cond_false,Bool.true_and]
 rw[dQ (by simp;omega),aO]
 refine Ok.pT (λP (m:List bA)=>m=P.filterMap (ofE r)∧m.length≤P.length) ?_ _ ⟨rfl,by simp⟩ ?_
 ·rintro P x rest m Z hL ⟨hm,hml⟩ hZ
  have hP:P.length<t.Links.length:=by rw[hL];simp
  simp only[jn]
  refine Ok.cs (λh=>?_) λh=>?_
  ·have h:r=x.A:=by simpa using h
   rw[dQ (by simp;omega),aO]
   refine hZ _ ⟨?_,by simp;omega⟩
   rw[List.filterMap_append,hm];simp[ofE,h]
  ·have h:r≠x.A:=by simpa using h
   refine Ok.cs (λh2=>?_) λh2=>?_
   ·have h2:r=x.B:=by simpa using h2
    rw[dQ (by simp;omega),aO]
    refine hZ _ ⟨?_,by simp;omega⟩
    have e:ofE r x=some (bA.mk x.A x.iL x.bX):=by unfold ofE;rw[if_neg h,if_pos h2]
    rw[List.filterMap_append,hm,List.filterMap_cons,e];rfl
   ·have h2:r≠x.B:=by simpa using h2
    refine hZ _ ⟨?_,by simp;omega⟩
    have e:ofE r x=none:=by unfold ofE;rw[if_neg h,if_neg h2]
    rw[List.filterMap_append,hm,List.filterMap_cons,e];simp
 ·rintro m ⟨hm,_⟩
  rw[ai8 hv]at hm
  subst hm
  rw[td,aO]
  show Ok (bif !cm (ofA t r seq cl)then _ else _) _
  cases cm (ofA t r seq cl)
  ·exact Ok.s rfl
  ·exact Ok.s rfl
def uC(f:aB)(n:aW)(seq:Int):ai×Bool:=bif inB seq 1 1000000 then(ofA (aY f) n.ah seq n.Claims,true)else(noA,false)
theorem zh(h:Vf f){n:aW}(hn:n∈f.aF)(seq:Int):cm (ofA (aY f) n.ah seq n.Claims)=inB seq 1 1000000:=by
 rw[adf h.t (tj hn)]
 have:=(h.n n hn).2.1
 unfold jN at this
 rw[this,Bool.and_true]
theorem Vf.sm(h:Vf f):SmF f:=by have h1:=h.len;have h2:=h.t.nl;exact⟨by have:f.Links.length≤60:=h2;omega,by omega⟩
theorem uf(h:Vf f){a b:List aW}{n:aW}(hL:f.aF=a++n::b)(seq:Int):jS f (a.length:Int) seq=some (uC f n seq):=by
 have hn:n∈f.aF:=by rw[hL];simp
 unfold jS
 rw[pU h.sm,aO,hL,iK,aO,ai6 h.t (tj hn),zh h hn,aO]
 unfold uC
 cases inB seq 1 1000000<;>rfl
theorem abR{l:List bH}(h:jN l=true):l.length≤100000:=by
 simp only[jN,Bool.and_eq_true,decide_eq_true_eq]at h;omega
theorem abS(h:Vf f){n:aW}(hn:n∈f.aF):gK f n=some (bif decide (n.Seq=0)then(noA,false)else uC f n n.Seq):=by
 unfold gK
 cases hs:decide (n.Seq=0)
 ·simp only[cond_false]
  rw[abQ h.sm,aO,atj h.t (tj hn) n.Seq (abR (h.n n hn).2.1),zh h hn,aO]
  unfold uC
  cases inB n.Seq 1 1000000<;>rfl
 ·rfl
theorem afv(e:α→α→Bool)(he:∀a b,e a b=true↔a=b):∀(l m:List α),(decide ((l.length:Int)=m.length)&&(l.zip m).all (λp=>e p.1 p.2))=true↔l=m:=by
 intro l
 induction l with
 |nil=>intro m;cases m<;>simp;omega
 |cons x l ih=>
  intro m
  cases m with
  |nil=>simp;omega
  |cons y m=>
   have:=ih m
   simp only[Bool.and_eq_true,decide_eq_true_eq]at this
   simp only[List.length_cons,List.zip_cons_cons,List.all_cons,Bool.and_eq_true,decide_eq_true_eq,List.cons.injEq,he,←this]
   constructor
   ·rintro⟨h1,h2,h3⟩;exact⟨h2,by omega,h3⟩
   ·rintro⟨h2,h1,h3⟩;exact⟨by omega,h2,h3⟩
theorem aeB(a b:bA):iw a b=true↔a=b:=by cases a;cases b;simp[iw]
theorem aeC(a b:bH):fZ a b=true↔a=b:=by cases a;cases b;simp[fZ]
theorem adg(a b:ai):mL a b=true↔a=b:=by
 obtain⟨a1,a2,a3,a4,a5⟩:=a
 obtain⟨b1,b2,b3,b4,b5⟩:=b
 have h1:=afv iw aeB a4 b4
 have h2:=afv fZ aeC a5 b5
 simp only[mL,abb,abc,Bool.and_eq_true]at h1 h2 ⊢
 rw[h1,h2]
 simp only[decide_eq_true_eq,beq_iff_eq,ai.mk.injEq]
end Go.Proofs.YtjdopimopgpagaaGreat
namespace Go.Proofs.YtjdopimopgpagaaGreat
set_option linter.all false
open Go
def SzF(f:aB)(n:Nat):Prop:=f.Links.length≤100∧f.aF.length≤n∧f.ay.length≤n
theorem SzF.sm{f:aB}{n:Nat}(h:SzF f n)(hn:n≤1000):SmF f:=⟨by have:=h.1;omega,by have:=h.2.1;omega⟩
end Go.Proofs.YtjdopimopgpagaaGreat
namespace Go.Proofs.YtjdopimopgpagaaGreat
set_option linter.all false
open Go
theorem afw{d:aG}(hd:SmD d):eP d=some d:=by
 refine Ok.eq ?_
 unfold eP
 refine Ok.pT (λP (m:List ai)=>m=P) ?_ _ rfl (λm hm=>Ok.s (by rw[hm]))
 rintro P x r m Z hL rfl hZ
 have hx:x∈d.aC:=by rw[hL];simp
 have hl:m.length<d.aC.length:=by rw[hL];simp
 have:=hd.1
 rw[ahl (hd.2 x hx).1,aO,aeo (hd.2 x hx).2,aO,dQ (by simp;omega),aO]
 exact hZ _ rfl
def fC(f:aB)(a:List aW)(n:aW)(b:List aW):aB:=aB.mk f.Links (a++n::b) f.ay
variable {a b:List aW}{f:aB}{n':aW}
theorem pV{n:aW}(hL:f.aF=a++n::b)(hr:n'.ah=n.ah)(hc:n'.aX=n.aX):aY (fC f a n' b)=aY f:=by
 unfold aY fC
 rw[hL];simp[hr,hc]
theorem aeD(r:Int):∀(l m:List aW) (j:Nat),l.map (·.ah)=m.map (·.ah)→uB r l j=uB r m j
 |[],[],_,_=>rfl
 |[],_::_,_,h=>by simp at h
 |_::_,[],_,h=>by simp at h
 |x::l,y::m,j,h=>by
  simp only[List.map_cons,List.cons.injEq]at h
  simp only[uB,h.1,aeD r l m (j+1) h.2]
theorem aeE{n:aW}(hL:f.aF=a++n::b)(hr:n'.ah=n.ah)(r:Int):je (fC f a n' b) r=je f r:=by
 unfold je fC
 exact aeD r _ _ 0 (by rw[hL];simp[hr])
theorem Vf.fC{f:aB}(h:Vf f){a b:List aW}{n n':aW}(hL:f.aF=a++n::b)(hr:n'.ah=n.ah)(hc:n'.aX=n.aX)(hn:(0≤n'.Seq∧n'.Seq≤1000000)∧jN n'.Claims=true∧Vd n'.Database):Vf (fC f a n' b):=by
 refine⟨by rw[pV hL hr hc];exact h.t,h.m,λx hx=>?_,λm hm=>?_⟩
 ·have hx:x∈a++n'::b:=hx
  rcases List.mem_append.1 hx with hx|hx
  ·exact h.n x (by rw[hL];simp[hx])
  ·rcases List.mem_cons.1 hx with rfl|hx
   ·exact hn
   ·exact h.n x (by rw[hL];simp[hx])
 ·have:=h.g m hm
  rw[aeE hL hr,aeE hL hr];exact this
theorem wm(f:aB)(a b:List aW)(n n':aW):Go.Proofs.YtjdopimopgpagaaGreat.fC (Go.Proofs.YtjdopimopgpagaaGreat.fC f a n b) a n' b=Go.Proofs.YtjdopimopgpagaaGreat.fC f a n' b:=rfl
variable {α:Type}
theorem uV(p:List α)(x y:α)(r:List α):ic (p++x::r) (p.length:Int) y=some (p++y::r):=by
 unfold ic
 rw[if_pos ⟨by omega,by simp;omega⟩]
 simp
def sK(f:aB)(n:aW):aW:=aW.mk n.ah n.Seq n.aX n.Claims (qt n.Database (ofA (aY f) n.ah n.Seq n.Claims)).1
theorem aeF(h:Vf f){n:aW}(hn:n∈f.aF){seq:Int}(hs:1≤seq∧seq≤1000000):cm (ofA (aY f) n.ah seq n.Claims)=true:=by
 rw[zh h hn];simp[inB];omega
theorem ahx(h:Vf f){n:aW}(hL:f.aF=a++n::b)(hs:1≤n.Seq):dB (aV.mk f) (a.length:Int)=some (aV.mk (fC f a (sK f n) b)):=by
 have hn:n∈f.aF:=by rw[hL];simp
 have hno:=h.n n hn
 have hv:=aeF h hn (seq:=n.Seq) ⟨hs,hno.1.2⟩
 unfold dB
 have e0:decide (n.Seq=0)=false:=by simp;omega
 have e1:inB n.Seq 1 1000000=true:=by simp[inB];omega
 simp only[hL,iK,aO]
 simp only[abS h hn,e0,cond_false,uC,e1,cond_true,aO]
 rw[apK hno.2.2.sm (Va.sm hv),if_pos ⟨jB.2 hno.2.2,hv⟩,aO,uV,aO]
 rfl
theorem yf{n:aW}(hL:f.aF=a++n::b)(hl:f.aF.length≤100000)(n':aW):nL f (a.length:Int) n'=some (fC f a n' b):=by
 unfold nL
 rw[dQ (by simp;omega),aO,List.nil_append,hL,iK,aO,uV,aO];rfl
theorem wG(h:Vf f){n:aW}(hL:f.aF=a++n::b){seq:Int}(hs:1≤seq∧seq≤1000000):iq f (a.length:Int) seq=some (fC f a (sK f (aW.mk n.ah seq n.aX n.Claims n.Database)) b):=by
 have hn:n∈f.aF:=by rw[hL];simp
 have hno:=h.n n hn
 have hv:=aeF h hn hs
 have e1:inB seq 1 1000000=true:=by simp[inB];omega
 unfold iq
 rw[show elO f.aF (a.length:Int)=some n by rw[hL];exact iK a n b,aO,uf h hL,aO]
 simp only[uC,e1,cond_true]
 rw[ada,if_pos ⟨jB.2 hno.2.2,hv⟩,aO,yf hL (by have:=h.len;omega),aO]
 rfl
theorem Vf.pub(h:Vf f){n n0:aW}(hL:f.aF=a++n0::b)(hr:n.ah=n0.ah)(hc:n.aX=n0.aX)(hs:1≤n.Seq∧n.Seq≤1000000)(hcl:jN n.Claims=true)(hd:Vd n.Database):Vf (Go.Proofs.YtjdopimopgpagaaGreat.fC f a (sK f n) b):=by
 refine h.fC hL hr hc ⟨⟨by have:=hs.1;show 0≤n.Seq;omega,hs.2⟩,hcl,?_⟩
 refine hd.put ?_
 have hn0:n0∈f.aF:=by rw[hL];simp
 rw[hr,adf h.t (tj hn0)]
 have e1:inB n.Seq 1 1000000=true:=by simp[inB];omega
 unfold jN at hcl
 rw[e1,hcl];rfl
theorem atk:SmF (aB.mk [] [] []):=⟨by simp,by simp⟩
def abT(f:aB)(n:aW):List aR:=(jd (aY f) n.ah).map λx=>aR.mk n.ah x n.Database
def gv(f:aB)(p q:List aR):aB:=aB.mk f.Links f.aF (p++q)
theorem amE(p:List α)(x:α)(q:List α)(hl:(p++x::q).length≤100000):aaC (p++x::q) (p.length:Int) (w64 ((p.length:Int)+1))=some (p++q):=by
 have hl2:p.length+q.length+1≤100000:=by simpa [Nat.add_assoc]using hl
 rw[cB (by omega) (by omega)]
 unfold aaC
 rw[if_pos ⟨by omega,by omega,by simp;omega⟩]
 rw[Int.toNat_natCast,show((p.length:Int)+1).toNat=p.length+1 by omega]
 simp
theorem agB(f:aB)(h:SmF f):pQ f f=some true:=by
 unfold pQ
 simp only[jn,pU h,aO,ahj,Bool.not_true,cond_false,decide_true]
 refine Ok.eq ?_
 refine Ok.pT (λ_ _=>True) ?_ _ trivial λ_ _=>?_
 ·intro p n r s Z hL _ hZ
  rw[show elO f.aF (p.length:Int)=some n by rw[hL];exact iK p n r]
  simp only[aO,decide_true,abJ,abN,Bool.not_true,cond_false]
  refine Ok.pT (λ_ _=>True) ?_ _ trivial λ_ _=>hZ _ trivial
  intro p2 c r2 s2 Z2 hL2 _ hZ2
  rw[show elO n.Claims (p2.length:Int)=some c by rw[hL2];exact iK p2 c r2,aO,yx]
  exact hZ2 _ trivial
 ·refine Ok.pT (λ_ _=>True) ?_ _ trivial λ_ _=>Ok.s rfl
  intro p m r s Z hL _ hZ
  rw[show elO f.ay (p.length:Int)=some m by rw[hL];exact iK p m r]
  simp only[aO,decide_true,abJ,abN,Bool.not_true,cond_false]
  exact hZ _ trivial
end Go.Proofs.YtjdopimopgpagaaGreat
namespace Go.Proofs.YtjdopimopgpagaaGreat
set_option linter.all false
open Go
theorem adh{α:Type}{B:Int→α→(Unit→Option Int)→Unit→Option Int}{K:Unit→Option Int}(p:α→Bool)(hK:K ()=some (-1)):∀(l:List α),(∀j,∀x∈l,∀Z,B j x Z ()=bif p x then some j else Z ())→∀j:Nat,(bL l j B K ()=some (-1)∧∀x∈l,p x=false)∨∃a x b,l=a++x::b∧bL l j B K ()=some ((j+a.length:Nat):Int)∧p x=true∧∀y∈a,p y=false
 |[],_,j=>Or.inl ⟨hK,by simp⟩
 |x::r,hB,j=>by
  have e:bL (x::r) j B K ()=bif p x then some (j:Int)else bL r (j+1) B K ():=hB _ x (by simp) _
  rw[e]
  cases hp:p x with
  |true=>exact Or.inr ⟨[],x,r,rfl,by simp,hp,by simp⟩
  |false=>
   rcases adh p hK r (λj y hy=>hB j y (by simp[hy])) (j+1)with⟨h1,h2⟩|⟨a,y,b,h1,h2,h3,h4⟩
   ·refine Or.inl ⟨h1,λy hy=>?_⟩
    rcases List.mem_cons.1 hy with rfl|hy
    ·exact hp
    ·exact h2 y hy
   ·refine Or.inr ⟨x::a,y,b,by rw[h1];rfl,?_,h3,λz hz=>?_⟩
    ·rw[show(bif false then some (j:Int)else bL r (j+1) B K ())=bL r (j+1) B K ()from rfl,h2]
     simp only[List.length_cons]
     congr 2
     omega
    ·rcases List.mem_cons.1 hz with rfl|hz
     ·exact hp
     ·exact h4 z hz
theorem ai9{l:List aR}{del:aR→Option Bool}(p:aR→Bool)(h:∀x∈l,del x=some (p x))(hl:l.length≤100000):cS l del=some (l.filter λx=>!p x):=by
 refine Ok.eq ?_
 unfold cS dS
 rcases adh p (B:=λ(j1:Int) (e1:aR) (Z1:Unit→Option Int) (sg:Unit)=>match sg with|()=>bnd (del e1) λ(af:Bool)=>bif af then some (j1:Int)else Z1 ()) (K:=λ(sg:Unit)=>match sg with|()=>some (-1:Int)) rfl l (λj x hx Z=>by simp only[h x hx,aO]) 0 with⟨h1,h2⟩|⟨a,x,b,h1,h2,h3,h4⟩
 ·rw[h1,aO,show decide ((-1:Int) = -1)=true from rfl,cond_true]
  exact Ok.s (by rw[List.filter_eq_self.2 λx hx=>by simp[h2 x hx]])
 ·rw[h2,aO]
  have hlen:l.length=a.length+(b.length+1):=by rw[h1];simp
  have e1:decide (((0+a.length:Nat):Int) = -1)=false:=decide_eq_false (by omega)
  rw[e1,cond_false,cB (by omega) (by omega)]
  refine Ok.whl (λs:List aR×Int×Int=>∃P eE rest,l=P++rest∧s.1=(P.filter λx=>!p x)++eE++rest∧s.2.1=((P.filter λx=>!p x).length:Int)∧s.2.2=(P.length:Int)∧1≤eE.length∧(P.filter λx=>!p x).length+eE.length=P.length) (λs=>l.length-s.2.2.toNat) ?_ (by simp only;omega) ?_
  ·have ea:(a.filter λx=>!p x)=a:=List.filter_eq_self.2 λy hy=>by simp[h4 y hy]
   refine⟨a++[x],[x],b,by rw[h1];simp,?_,?_,?_,by simp,?_⟩
   all_goals simp[ea,h3,h1]
  rintro⟨vs,i,j⟩ Z ⟨P,eE,rest,q1,q2,q3,q4,q5,q6⟩ hZ
  simp only at q2 q3 q4
  subst q2 q3 q4
  have hn:l.length=P.length+rest.length:=by rw[q1];simp
  have hvl:((P.filter λx=>!p x)++eE++rest).length=l.length:=by simp only[List.length_append,hn,←q6]
  refine Ok.cs (λhc=>?_) λhc=>?_
  ·have hc:P.length<l.length:=by have hc:=of_decide_eq_true hc;simp only[hvl]at hc;omega
   obtain⟨y,rest',rfl⟩:∃y r,rest=y::r:=by
    cases rest with
    |nil=>simp at hn;omega
    |cons y r=>exact⟨y,r,rfl⟩
   obtain⟨w,tG,rfl⟩:∃w r,eE=w::r:=by
    cases eE with
    |nil=>simp at q5
    |cons y r=>exact⟨y,r,rfl⟩
   have hy:y∈l:=by rw[q1];simp
   have e2:elO ((P.filter λx=>!p x)++w::tG++y::rest') (P.length:Int)=some y:=by
    have:=iK ((P.filter λx=>!p x)++w::tG) y rest'
    rwa [show(((P.filter λx=>!p x)++w::tG).length:Int)=(P.length:Int)by rw[List.length_append];omega]at this
   have e3:elO ((P.filter λx=>!p x)++w::tG++y::rest') ((P.filter λx=>!p x).length:Int)=some w:=by
    have:=iK (P.filter λx=>!p x) w (tG++y::rest')
    simpa using this
   have e4:ic ((P.filter λx=>!p x)++w::tG++y::rest') ((P.filter λx=>!p x).length:Int) y=some ((P.filter λx=>!p x)++y::(tG++y::rest')):=by
    have:=uV (P.filter λx=>!p x) w y (tG++y::rest')
    simpa using this
   have hPf:(P.filter λx=>!p x).length≤P.length:=List.length_filter_le _ _
   simp only[List.length_cons]at q6 hn
   simp only[jn,e2,aO,h y hy]
   rw[cB (n:=(P.length:Int)+1) (by omega) (by omega)]
   cases hp:p y with
   |true=>
    simp only[Bool.not_true,cond_false]
    refine hZ _ ⟨P++[y],w::tG++[y],rest',by rw[q1];simp,?_,?_,?_,by simp,?_⟩ (by simp only;omega)
    all_goals simp[hp]
    all_goals omega
   |false=>
    simp only[Bool.not_false,cond_true,e3,e4,aO]
    rw[cB (n:=((P.filter λx=>!p x).length:Int)+1) (by omega) (by omega)]
    refine hZ _ ⟨P++[y],tG++[y],rest',by rw[q1];simp,?_,?_,?_,by simp,?_⟩ (by simp only;omega)
    all_goals simp[hp]
    all_goals omega
  ·try dsimp only at hc ⊢
   have hc:¬P.length<l.length:=by have hc:=of_decide_eq_false hc;simp only[hvl]at hc;omega
   have hr:rest=[]:=by cases rest with|nil=>rfl|cons y r=>simp at hn;omega
   subst hr
   have hP:P=l:=by rw[q1];simp
   subst hP
   have e5:((P.filter λx=>!p x)++eE++[]).length=P.length:=hvl
   rw[oz (decide_eq_true (by rw[e5];omega))]
   have e6:nw (((P.filter λx=>!p x)++eE++[]).take (((P.filter λx=>!p x).length:Int)).toNat++List.replicate (((P.filter λx=>!p x)++eE++[]).length-(((P.filter λx=>!p x).length:Int)).toNat) (aR.mk (0:Int) (0:Int) (aG.mk []))) (0:Int) ((P.filter λx=>!p x).length:Int)=some (P.filter λx=>!p x):=by
    unfold nw
    rw[if_pos ⟨by omega,by omega,by simp;omega⟩]
    simp
   rw[e6,aO]
   exact Ok.s rfl
def jt(t:aA)(x:aR):Bool:=(nP t x.cD x.To).2
def sL(n:aW):aW:=aW.mk n.ah (n.Seq+1) n.aX n.Claims n.Database
def sM(t u:aA)(n:aW):Bool:=decide (1≤n.Seq)&&(decide (n.Seq<1000000)&&!mL (ofA t n.ah n.Seq n.Claims) (ofA u n.ah n.Seq n.Claims))
def fe(t u:aA)(n:aW):aW:=bif sM t u n then aW.mk n.ah (n.Seq+1) n.aX n.Claims (qt n.Database (ofA u n.ah (n.Seq+1) n.Claims)).1 else n
def cq(f:aB)(L:List aK):aB:=aB.mk L f.aF f.ay
def zi(f:aB)(L:List aK):aB:=aB.mk L (f.aF.map (fe (aY f) (aY (cq f L)))) (f.ay.filter (jt (aY (cq f L))))
variable {t:aA}
theorem afx{h:aB}{n:aW}(hc:sM t (aY h) n=true):fe t (aY h) n=sK h (sL n):=by
 unfold fe;rw[hc];rfl
theorem apS{g:aB}{a b:List aW}{n:aW}(hg:Vf g)(hL:g.aF=a++n::b):Vf (fC g a (fe t (aY g) n) b)∧aY (fC g a (fe t (aY g) n) b)=aY g:=by
 have hn:n∈g.aF:=by rw[hL];simp
 have hno:=hg.n n hn
 cases hc:sM t (aY g) n with
 |false=>
  have e:fe t (aY g) n=n:=by unfold fe;rw[hc];rfl
  have e2:fC g a n b=g:=by unfold fC;rw[←hL]
  rw[e,e2]
  exact⟨hg,rfl⟩
 |true=>
  have e:fe t (aY g) n=sK g (sL n):=by unfold fe;rw[hc];rfl
  simp only[sM,Bool.and_eq_true,decide_eq_true_eq]at hc
  rw[e]
  exact⟨hg.pub hL (n:=sL n) rfl rfl ⟨by show 1≤n.Seq+1;omega,by show n.Seq+1≤1000000;omega⟩ hno.2.1 hno.2.2,pV hL rfl rfl⟩
def ng(f:aB)(L:List aK)(M:List aR)(p l:List aW):aB:=aB.mk L (p.map (fe (aY f) (aY (cq f L)))++l) M
theorem aeG{f:aB}{L:List aK}{M:List aR}:∀(q p l:List aW),(Vf (ng f L M p (q++l))∧aY (ng f L M p (q++l))=aY (cq f L))→Vf (ng f L M (p++q) l)∧aY (ng f L M (p++q) l)=aY (cq f L)
 |[],p,l,h=>by simpa using h
 |n::q,p,l,⟨h1,h2⟩=>by
  have:=apS (t:=aY f) h1 (a:=p.map (fe (aY f) (aY (cq f L)))) (n:=n) (b:=q++l) rfl
  rw[h2]at this
  have e:ng f L M (p++[n]) (q++l)=fC (ng f L M p (n::q++l)) (p.map (fe (aY f) (aY (cq f L)))) (fe (aY f) (aY (cq f L)) n) (q++l):=by
   unfold ng fC;simp
  rw[←e]at this
  have:=aeG q (p++[n]) l this
  simpa using this
variable {L:List aK}{f:aB}
theorem aeH{M:List aR}(hM:Vf (aB.mk L f.aF M))(l p:List aW)(h:f.aF=p++l):Vf (ng f L M p l)∧aY (ng f L M p l)=aY (cq f L):=by
 have:=aeG (f:=f) (L:=L) (M:=M) p [] l ?_
 ·simpa using this
 ·rw[←h];exact⟨hM,rfl⟩
theorem Vf.adt(h:Vf f)(q:aR→Bool):Vf (aB.mk f.Links f.aF (f.ay.filter q)):=by
 refine⟨h.t,?_,h.n,λm hm=>h.g m ?_⟩
 ·have:=h.m;have h2:=List.length_filter_le q f.ay;show(f.ay.filter q).length≤400;omega
 ·exact(List.mem_filter.1 hm).1
theorem ahy(hg:Vf (cq f L)):Vf (zi f L)∧aY (zi f L)=aY (cq f L):=by
 have:=aeH (f:=f) (L:=L) (M:=f.ay.filter (jt (aY (cq f L)))) (hg.adt _) [] f.aF (by simp)
 unfold ng at this
 rw[List.append_nil]at this
 exact this
structure Wc(f:aB):Prop where
 s:SmF f
 m:f.ay.length≤100000
 n:∀n∈f.aF,n.Claims.length≤100000∧SmD n.Database
 g:∀x∈f.ay,SmD x.Database
theorem Vf.wc(h:Vf f):Wc f:=⟨h.sm,by have:=h.m;omega,λn hn=>⟨abR (h.n n hn).2.1,(h.n n hn).2.2.sm⟩,λx hx=>(h.g x hx).2.2.2.sm⟩
theorem aeI(h:Wc f):gD f=some f:=by
 refine Ok.eq ?_
 unfold gD
 have hs:=h.s
 rw[zW hs.1,aO]
 refine Ok.pT (λP (m:List aW)=>m=P) ?_ _ rfl ?_
 ·rintro P x r m Z hL rfl hZ
  have hx:x∈f.aF:=by rw[hL];simp
  have hl:m.length<f.aF.length:=by rw[hL];simp
  have h1:=hs.2
  have hn:=h.n x hx
  rw[aeo hn.1,aO,afw hn.2,aO,dQ (by simp;omega),aO]
  exact hZ _ rfl
 ·rintro m rfl
  refine Ok.pT (λP (m:List aR)=>m=P) ?_ _ rfl (λm hm=>Ok.s (by rw[hm]))
  rintro P x r m Z hL rfl hZ
  have hx:x∈f.ay:=by rw[hL];simp
  have hl:m.length<f.ay.length:=by rw[hL];simp
  have h1:=h.m
  rw[afw (h.g x hx),aO,dQ (by simp;omega),aO]
  exact hZ _ rfl
theorem zj{β:Type}{B:Int→aR→(List aR→Option β)→List aR→Option β}{K:List aR→Option β}{p:aR→Bool}(hB:∀j x Z s,s.length≤100000→B j x Z s=bif p x then Z (s++[x])else Z s):∀(l:List aR) (j:Nat) (s:List aR),s.length+l.length≤100000→bL l j B K s=K (s++l.filter p)
 |[],_,s,_=>by simp[bL]
 |x::r,j,s,h=>by
  simp only[List.length_cons]at h
  have e:bL (x::r) j B K s=bif p x then bL r (j+1) B K (s++[x])else bL r (j+1) B K s:=hB _ x _ s (by omega)
  rw[e]
  cases hp:p x with
  |true=>rw[cond_true,zj hB r (j+1) (s++[x]) (by simp;omega)];simp[List.filter,hp]
  |false=>rw[cond_false,zj hB r (j+1) s (by omega)];simp[List.filter,hp]
theorem adi(h:Vf f){n:aW}(hn:n∈f.aF):(bif decide (n.Seq=0)then(noA,false)else uC f n n.Seq)=bif decide (1≤n.Seq)then(ofA (aY f) n.ah n.Seq n.Claims,true)else(noA,false):=by
 obtain⟨h1,h2⟩:=(h.n n hn).1
 by_cases h0:n.Seq=0
 ·have:¬(1≤n.Seq):=by omega
  simp[h0]
 ·have e:(1≤n.Seq):=by omega
  have e1:inB n.Seq 1 1000000=true:=by simp[inB];omega
  simp[h0,e,uC,e1]
theorem ahz(hf:Vf f)(hg:Vf (cq f L)):gW f L=some (zi f L,0):=by
 unfold gW
 have hLl:L.length≤100000:=hg.sm.1
 have hm:=hf.m
 rw[aeI hf.wc,aO,zW hLl,aO]
 simp only[jn]
 rw[show aB.mk L f.aF f.ay=cq f L from rfl,ye hf.sm,ye hg.sm,ue.2 hf,ue.2 hg]
 simp only[aO,cond_true,decide_true,Bool.not_true,cond_false]
 rw[abQ hg.sm,aO]
 have hdel:cS f.ay (λ(y0:aR)=>jA y0 (aY (cq f L)))=some (f.ay.filter (jt (aY (cq f L)))):=by
  rw[ai9 (λx=>!jt (aY (cq f L)) x) (λx hx=>?_) (by omega)]
  ·simp
  ·unfold jA
   rw[ael _ x.cD x.To (by have:(aY (cq f L)).Links.length≤60:=hg.t.nl;omega),oL.2 hg.t]
   rfl
 rw[hdel,aO]
 have hgM:Vf (aB.mk L f.aF (f.ay.filter (jt (aY (cq f L))))):=hg.adt (jt (aY (cq f L)))
 refine Ok.eq ?_
 refine Ok.pT (λP (s:List aK×List aW×List aR)=>∃l,f.aF=P++l∧s=(L,P.map (fe (aY f) (aY (cq f L)))++l,f.ay.filter (jt (aY (cq f L))))) ?_ _ ⟨f.aF,rfl,rfl⟩ ?_
 ·rintro P n r s Z hL ⟨l,hl,rfl⟩ hZ
  have hl:l=n::r:=List.append_cancel_left (hl.symm.trans hL)
  subst hl
  have hn:n∈f.aF:=by rw[hL];simp
  obtain⟨hp,ht⟩:=aeH hgM (n::r) P hL
  have el:(P.map (fe (aY f) (aY (cq f L)))).length=P.length:=by simp
  have e1:elO (P.map (fe (aY f) (aY (cq f L)))++n::r) (P.length:Int)=some n:=by rw[←el];exact iK _ n r
  have e2:elO f.aF (P.length:Int)=some n:=by rw[hL];exact iK P n r
  have hpL:(ng f L (f.ay.filter (jt (aY (cq f L)))) P (n::r)).aF=P.map (fe (aY f) (aY (cq f L)))++n::r:=rfl
  have hn2:n∈(ng f L (f.ay.filter (jt (aY (cq f L)))) P (n::r)).aF:=by rw[hpL];simp
  have hnext:∀n',fe (aY f) (aY (cq f L)) n=n'→Ok (Z (L,P.map (fe (aY f) (aY (cq f L)))++n'::r,f.ay.filter (jt (aY (cq f L))))) (λx=>x=(zi f L,0)):=by
   rintro n' rfl
   exact hZ _ ⟨r,by rw[hL];simp,by simp⟩
  show Ok (bnd (elO (P.map (fe (aY f) (aY (cq f L)))++n::r) (P.length:Int)) _) _
  rw[e1,aO,e2,aO,abS hf hn,aO,show aB.mk L (P.map (fe (aY f) (aY (cq f L)))++n::r) (f.ay.filter (jt (aY (cq f L))))=ng f L (f.ay.filter (jt (aY (cq f L)))) P (n::r)from rfl,abS hp hn2,aO,adi hf hn,adi hp hn2,ht]
  obtain⟨s0,s1⟩:=(hf.n n hn).1
  by_cases h1:1≤n.Seq
  ·simp only[h1,decide_true,cond_true,jn,afn,aO]
   cases hs:mL (ofA (aY f) n.ah n.Seq n.Claims) (ofA (aY (cq f L)) n.ah n.Seq n.Claims)with
   |true=>
    simp only[Bool.not_true,cond_false]
    exact hnext n (by unfold fe sM;rw[hs];simp)
   |false=>
    simp only[Bool.not_false,cond_true]
    by_cases h2:n.Seq<1000000
    ·have hc:sM (aY f) (aY (cq f L)) n=true:=by unfold sM;rw[hs];simp[h1,h2]
     simp only[h2,decide_true,cond_true]
     rw[cB (n:=n.Seq+1) (by omega) (by omega)]
     have hno:=hf.n n hn
     have hV3:Vf (fC (ng f L (f.ay.filter (jt (aY (cq f L)))) P (n::r)) (P.map (fe (aY f) (aY (cq f L)))) (sL n) r):=hp.fC hpL rfl rfl ⟨⟨by show 0≤n.Seq+1;omega,by show n.Seq+1≤1000000;omega⟩,hno.2.1,hno.2.2⟩
     have hpb:=ahx hV3 (a:=P.map (fe (aY f) (aY (cq f L)))) (b:=r) (n:=sL n) rfl (by show 1≤n.Seq+1;omega)
     have jE:=uV (P.map (fe (aY f) (aY (cq f L)))) n (sL n) r
     rw[el]at jE hpb
     have ht3:aY (fC (ng f L (f.ay.filter (jt (aY (cq f L)))) P (n::r)) (P.map (fe (aY f) (aY (cq f L)))) (sL n) r)=aY (cq f L):=(pV (n':=sL n) hpL rfl rfl).trans ht
     have e7:fe (aY f) (aY (cq f L)) n=sK (fC (ng f L (f.ay.filter (jt (aY (cq f L)))) P (n::r)) (P.map (fe (aY f) (aY (cq f L)))) (sL n) r) (sL n):=by
      have:=afx (t:=aY f) (n:=n) (h:=fC (ng f L (f.ay.filter (jt (aY (cq f L)))) P (n::r)) (P.map (fe (aY f) (aY (cq f L)))) (sL n) r) (by rw[ht3];exact hc)
      rwa [ht3]at this
     show Ok (bnd (ic (P.map (fe (aY f) (aY (cq f L)))++n::r) (P.length:Int) (sL n)) _) _
     rw[jE,aO,show aB.mk L (P.map (fe (aY f) (aY (cq f L)))++sL n::r) (f.ay.filter (jt (aY (cq f L))))=fC (ng f L (f.ay.filter (jt (aY (cq f L)))) P (n::r)) (P.map (fe (aY f) (aY (cq f L)))) (sL n) r from rfl,hpb,aO]
     exact hnext _ e7
    ·simp only[h2,decide_false,cond_false]
     exact hnext n (by unfold fe sM;simp[h2])
  ·simp only[h1,decide_false,cond_false,jn]
   exact hnext n (by unfold fe sM;simp[h1])
 ·rintro s ⟨l,hl,rfl⟩
  have hl:l=[]:=by simpa using hl
  subst hl
  refine Ok.s ?_
  unfold zi
  simp
theorem agC(hf:Vf f)(hg:Vf (cq f L)):jL f L=some (zi f L,0):=by
 unfold jL
 have hLl:L.length≤100000:=hg.sm.1
 have hNl:f.aF.length≤100000:=hf.sm.2
 have hm:=hf.m
 rw[show aB.mk L f.aF f.ay=cq f L from rfl,tF hf.sm,tF hg.sm,ue.2 hf,ue.2 hg]
 simp only[aO,Bool.not_true,cond_false]
 rw[zj (p:=jt (aY (cq f L))) (λj x Z s hs=>?_) f.ay 0 [] (by simp;omega)]
 rotate_left
 ·simp only[jn,pU (f:=aB.mk L f.aF s) ⟨hLl,hNl⟩,aO,show aY (aB.mk L f.aF s)=aY (cq f L)from rfl,ud,jt]
  cases(nP (aY (cq f L)) x.cD x.To).2
  ·rfl
  ·simp only[cond_true]
   rw[dQ (by simp;omega),aO]
 rw[List.nil_append]
 have hgM:Vf (aB.mk L f.aF (f.ay.filter (jt (aY (cq f L))))):=hg.adt (jt (aY (cq f L)))
 refine Ok.eq ?_
 refine Ok.pT (λP (s:List aK×List aW×List aR)=>∃l,f.aF=P++l∧s=(L,P.map (fe (aY f) (aY (cq f L)))++l,f.ay.filter (jt (aY (cq f L))))) ?_ _ ⟨f.aF,rfl,rfl⟩ ?_
 ·rintro P n r s Z hL ⟨l,hl,rfl⟩ hZ
  have hl:l=n::r:=List.append_cancel_left (hl.symm.trans hL)
  subst hl
  have hn:n∈f.aF:=by rw[hL];simp
  obtain⟨hp,ht⟩:=aeH hgM (n::r) P hL
  have el:(P.map (fe (aY f) (aY (cq f L)))).length=P.length:=by simp
  have hpL:(ng f L (f.ay.filter (jt (aY (cq f L)))) P (n::r)).aF=P.map (fe (aY f) (aY (cq f L)))++n::r:=rfl
  have hnext:∀n',fe (aY f) (aY (cq f L)) n=n'→Ok (Z (L,P.map (fe (aY f) (aY (cq f L)))++n'::r,f.ay.filter (jt (aY (cq f L))))) (λx=>x=(zi f L,0)):=by
   rintro n' rfl
   exact hZ _ ⟨r,by rw[hL];simp,by simp⟩
  have ho2:=uf hp hpL (if(1:Int)>n.Seq then(1:Int)else n.Seq)
  rw[el]at ho2
  show Ok (bnd (jS f (P.length:Int) (if(1:Int)>n.Seq then(1:Int)else n.Seq)) _) _
  rw[uf hf hL,aO,show aB.mk L (P.map (fe (aY f) (aY (cq f L)))++n::r) (f.ay.filter (jt (aY (cq f L))))=ng f L (f.ay.filter (jt (aY (cq f L)))) P (n::r)from rfl,ho2,aO]
  obtain⟨s0,s1⟩:=(hf.n n hn).1
  simp only[jn]
  by_cases h1:1≤n.Seq
  ·have h1':0<n.Seq:=by omega
   have h1n:¬(1>n.Seq):=by omega
   have e1:inB n.Seq 1 1000000=true:=by simp[inB];omega
   simp only[h1',h1n,decide_true,cond_true,if_false,uC,e1,ht]
   by_cases h2:n.Seq<1000000
   ·simp only[h2,decide_true,cond_true,uO,aO]
    cases hs:mL (ofA (aY f) n.ah n.Seq n.Claims) (ofA (aY (cq f L)) n.ah n.Seq n.Claims)with
    |true=>
     simp only[Bool.not_true,cond_false]
     exact hnext n (by unfold fe sM;rw[hs];simp)
    |false=>
     have hc:sM (aY f) (aY (cq f L)) n=true:=by unfold sM;rw[hs];simp[h1,h2]
     simp only[Bool.not_false,cond_true]
     rw[cB (n:=n.Seq+1) (by omega) (by omega)]
     have hi:=wG hp hpL (seq:=n.Seq+1) (by omega)
     rw[el]at hi
     rw[hi,aO]
     exact hnext _ (by have:=afx (t:=aY f) (n:=n) (h:=ng f L (f.ay.filter (jt (aY (cq f L)))) P (n::r)) (by rw[ht];exact hc);rwa [ht]at this)
   ·simp only[h2,decide_false,cond_false]
    exact hnext n (by unfold fe sM;simp[h2])
  ·have h1':¬0<n.Seq:=by omega
   simp only[h1',decide_false,cond_false]
   exact hnext n (by unfold fe sM;simp[h1])
 ·rintro s ⟨l,hl,rfl⟩
  have hl:l=[]:=by simpa using hl
  subst hl
  refine Ok.s ?_
  unfold zi
  simp
theorem ae3(h:Wc f)(hL:L.length≤100000):∃p,gW f L=some p∧jL f L=some p∧SmF p.1:=by
 have hg:SmF (cq f L):=⟨hL,h.s.2⟩
 by_cases hv:Vf f∧Vf (cq f L)
 ·exact⟨_,ahz hv.1 hv.2,agC hv.1 hv.2,(ahy hv.2).1.sm⟩
 ·refine⟨(aB.mk [] [] [],1),?_,?_,atk⟩
  ·unfold gW
   rw[aeI h,aO,zW hL,aO]
   simp only[jn]
   rw[show aB.mk L f.aF f.ay=cq f L from rfl,ye h.s,ye hg]
   cases h1:qH f
   ·rfl
   ·cases h2:qH (cq f L)
    ·rfl
    ·exact absurd ⟨ue.1 h1,ue.1 h2⟩ hv
  ·unfold jL
   rw[show aB.mk L f.aF f.ay=cq f L from rfl,tF h.s,tF hg]
   cases h1:qH f
   ·rfl
   ·cases h2:qH (cq f L)
    ·rfl
    ·exact absurd ⟨ue.1 h1,ue.1 h2⟩ hv
end Go.Proofs.YtjdopimopgpagaaGreat
namespace Go.Proofs.YtjdopimopgpagaaGreat
set_option linter.all false
open Go
variable {f:aB}{p q:List aR}{x:aR}
theorem Vf.drop(h:Vf f)(hL:f.ay=p++x::q):Vf (gv f p q):=by
 refine⟨h.t,?_,h.n,λm hm=>?_⟩
 ·have:=h.m;rw[hL]at this;show(p++q).length≤400;simp at this ⊢;omega
 ·have hm:m∈p++q:=hm
  exact h.g m (by rw[hL];rcases List.mem_append.1 hm with hm|hm<;>simp[hm])
theorem aeJ(h:Vf f)(hL:f.ay=p++x::q):
  ∃g,eT (aV.mk f) (p.length:Int)=some (aV.mk g)∧nM (gv f p q) x=some g∧Vf g∧g.ay=p++q∧g.aF.length=f.aF.length:=by
 have hx:x∈f.ay:=by rw[hL];simp
 have hm:=h.m
 have h1:=h.drop hL
 obtain⟨g1,g2,g3,g4⟩:=h.g x hx
 have apQ:f.Links.length≤60:=h.t.nl
 have apP:=h.len
 have ht:aY (gv f p q)=aY f:=rfl
 have e1:elO f.ay (p.length:Int)=some x:=by rw[hL];exact iK p x q
 have e2:aaC f.ay (p.length:Int) (w64 ((p.length:Int)+1))=some (p++q):=by
  rw[hL];exact amE p x q (by rw[←hL];omega)
 unfold eT nM
 simp only[e1,e2,aO]
 rw[show aB.mk f.Links f.aF (p++q)=gv f p q from rfl,abQ h1.sm,pU h1.sm]
 have abI:ja (aY f) x.cD x.To=some (nP (aY f) x.cD x.To):=by
  rw[ael (aY f) x.cD x.To (show f.Links.length≤1000000 by omega),oL.2 h.t];rfl
 simp only[aO,ht,abI,ud]
 cases hc:(nP (aY f) x.cD x.To).2
 ·exact⟨_,rfl,rfl,h1,rfl,rfl⟩
 ·simp only[Bool.not_true,cond_false,aft,zg,aO]
  have hi:je (gv f p q) x.To=je f x.To:=rfl
  rw[hi]
  rcases uQ f x.To with⟨h2,_⟩|⟨a,n,b,hN,h2,h3⟩
  ·omega
  ·have hn:n∈f.aF:=by rw[hN];simp
   have hno:=h.n n hn
   have hel:elO f.aF (a.length:Int)=some n:=by rw[hN];exact iK a n b
   have aja:elO (gv f p q).aF (a.length:Int)=some n:=hel
   have jE:∀y,ic f.aF (a.length:Int) y=some (a++y::b):=λy=>by rw[hN];exact uV a n y b
   have hN1:(gv f p q).aF=a++n::b:=hN
   have hvd:=hno.2.2.merge g4
   simp only[h2,hel,aja,aO,ai3 hno.2.2.sm,aan,jB.2 hno.2.2,jB.2 g4,and_self,if_true,jE,iK]
   rw[yf hN1 (by show f.aF.length≤_;omega),aO]
   generalize hd1:gP n.Database x.Database=d1 at hvd
   have hV2:Vf (fC (gv f p q) a (aW.mk n.ah n.Seq n.aX n.Claims d1) b):=h1.fC hN1 rfl rfl ⟨hno.1,hno.2.1,hvd⟩
   have atl:(a++n::b).length=f.aF.length:=by rw[hN]
   have ny:∀n':aW,(fC (gv f p q) a n' b).aF.length=f.aF.length:=λn'=>by rw[←atl];simp[fC]
   rw[show aB.mk f.Links (a++aW.mk n.ah n.Seq n.aX n.Claims d1::b) (p++q)=fC (gv f p q) a (aW.mk n.ah n.Seq n.aX n.Claims d1) b from rfl]
   generalize hf2:fC (gv f p q) a (aW.mk n.ah n.Seq n.aX n.Claims d1) b=f2 at hV2
   have hN2:f2.aF=a++aW.mk n.ah n.Seq n.aX n.Claims d1::b:=by rw[←hf2];rfl
   have atm:aW.mk n.ah n.Seq n.aX n.Claims d1∈f2.aF:=by rw[hN2];simp
   have hM2:f2.ay=p++q:=by rw[←hf2];rfl
   have apT:f2.aF.length=f.aF.length:=by rw[←hf2];exact ny _
   simp only[amv hvd.sm,x4,aO,abS hV2 atm,uf hV2 hN2,←h3,jn,afn,uO]
   rcases lB d1 n.ah with⟨ha,hha,_,hfa⟩|⟨_,hfa⟩
   ·rw[hfa]
    have hav:=hvd.ok ha hha
    have aiW:1≤ha.Seq∧ha.Seq≤1000000:=by
     simp only[cm,inB,Bool.and_eq_true,decide_eq_true_eq]at hav;omega
    simp only[cond_true,Bool.not_true,cond_false]
    rw[cB (n:=ha.Seq+1) (by omega) (by omega)]
    have akp:ha.Seq<1000000→∃g,(bnd (ic (a++aW.mk n.ah n.Seq n.aX n.Claims d1::b) (a.length:Int) (aW.mk n.ah (ha.Seq+1) n.aX n.Claims d1)) λ(l_3:List aW)=>bnd (dB (aV.mk (aB.mk f.Links l_3 (p++q))) (a.length:Int)) λ(cr:aV)=>some cr)=some (aV.mk g)∧(bnd (iq f2 (a.length:Int) (ha.Seq+1)) λ(dJ:aB)=>some dJ)=some g∧Vf g∧g.ay=p++q∧g.aF.length=f.aF.length:=λhlt=>by
     have hV3:Vf (fC (gv f p q) a (aW.mk n.ah (ha.Seq+1) n.aX n.Claims d1) b):=h1.fC hN1 rfl rfl ⟨⟨by show 0≤ha.Seq+1;omega,by show ha.Seq+1≤1000000;omega⟩,hno.2.1,hvd⟩
     have hp:=ahx hV3 (a:=a) (b:=b) (n:=aW.mk n.ah (ha.Seq+1) n.aX n.Claims d1) rfl (by show 1≤ha.Seq+1;omega)
     rw[uV,aO,show aB.mk f.Links (a++aW.mk n.ah (ha.Seq+1) n.aX n.Claims d1::b) (p++q)=fC (gv f p q) a (aW.mk n.ah (ha.Seq+1) n.aX n.Claims d1) b from rfl,hp,aO,wG hV2 hN2 (by omega),aO]
     have et3:aY (fC (gv f p q) a (aW.mk n.ah (ha.Seq+1) n.aX n.Claims d1) b)=aY f:=pV hN1 rfl rfl
     have et2:aY f2=aY f:=by rw[←hf2];exact pV hN1 rfl rfl
     refine⟨_,rfl,?_,?_,rfl,ny _⟩
     ·rw[←hf2,wm,wm]
      unfold sK
      rw[et3]
      rw[hf2,et2]
     ·rw[wm]
      have:=h1.pub hN1 (n:=aW.mk n.ah (ha.Seq+1) n.aX n.Claims d1) rfl rfl (by show 1≤ha.Seq+1∧ha.Seq+1≤1000000;omega) hno.2.1 hvd
      unfold sK at this ⊢
      rw[et3]
      exact this
    have stay:∃g,(some (aV.mk f2):Option aV)=some (aV.mk g)∧(some f2:Option aB)=some g∧Vf g∧g.ay=p++q∧g.aF.length=f.aF.length:=⟨f2,rfl,rfl,hV2,hM2,apT⟩
    have adC:∃g,(bif decide (ha.Seq<1000000)then(bnd (ic (a++aW.mk n.ah n.Seq n.aX n.Claims d1::b) (a.length:Int) (aW.mk n.ah (ha.Seq+1) n.aX n.Claims d1)) λ(l_3:List aW)=>bnd (dB (aV.mk (aB.mk f.Links l_3 (p++q))) (a.length:Int)) λ(cr:aV)=>some cr)else some (aV.mk f2))=some (aV.mk g)∧(bif decide ((1000000:Int)<ha.Seq+1)then some f2 else(bnd (iq f2 (a.length:Int) (ha.Seq+1)) λ(dJ:aB)=>some dJ))=some g∧Vf g∧g.ay=p++q∧g.aF.length=f.aF.length:=by
     by_cases hlt:ha.Seq<1000000
     ·have e:¬1000000<ha.Seq+1:=by omega
      simp only[hlt,e,decide_true,decide_false,cond_true,cond_false]
      exact akp hlt
     ·have e:1000000<ha.Seq+1:=by omega
      simp only[hlt,e,decide_true,decide_false,cond_true,cond_false]
      exact stay
    by_cases hs0:n.Seq=0
    ·have e:¬0<n.Seq:=by omega
     simp only[hs0,Int.lt_irrefl,decide_true,decide_false,cond_true,cond_false,Bool.not_false]
     rw[hs0]at adC
     exact adC
    ·have e:0<n.Seq:=by omega
     simp only[hs0,e,decide_true,decide_false,cond_true,cond_false]
     generalize uC f2 (aW.mk n.ah n.Seq n.aX n.Claims d1) n.Seq=ow
     cases ow.2
     ·exact adC
     ·simp only[Bool.not_true,cond_false,cond_true]
      cases mL ha ow.1
      ·exact adC
      ·exact stay
   ·rw[hfa]
    exact⟨f2,rfl,rfl,hV2,hM2,apT⟩
end Go.Proofs.YtjdopimopgpagaaGreat
namespace Go.Proofs.YtjdopimopgpagaaGreat
set_option linter.all false
open Go
def gN(f:aB):aB:=match f.ay with
 |[]=>f
 |x::q=>(nM (gv f [] q) x).getD f
variable {f:aB}
theorem yg(h:Vf f){x:aR}{q:List aR}(hL:f.ay=x::q):
  eT (aV.mk f) 0=some (aV.mk (gN f))∧nM (gv f [] q) x=some (gN f)∧Vf (gN f)∧(gN f).ay=q:=by
 obtain⟨g,h1,h2,h3,h4,_⟩:=aeJ h (p:=[]) (q:=q) (x:=x) hL
 have e:gN f=g:=by unfold gN;rw[hL];simp only[h2];rfl
 rw[e]
 exact⟨h1,h2,h3,h4⟩
def drN:Nat→aB→aB
 |0,f=>f
 |n+1,f=>drN n (gN f)
def ug(f:aB):aB:=drN f.ay.length f
theorem ahB:∀(n:Nat) (f:aB),Vf f→f.ay.length=n→Vf (drN n f)∧(drN n f).ay=[]
 |0,f,h,hn=>⟨h,List.eq_nil_of_length_eq_zero hn⟩
 |n+1,f,h,hn=>by
  cases hL:f.ay with
  |nil=>rw[hL]at hn;simp at hn
  |cons x q=>
   obtain⟨_,_,h3,h4⟩:=yg h hL
   refine ahB n (gN f) h3 ?_
   rw[h4];rw[hL]at hn;simpa using hn
theorem adj(h:Vf f):Vf (ug f)∧(ug f).ay=[]:=ahB _ f h rfl
theorem aeK(key:aK→Int):∀(l:List Int) (L:List aK),l.Nodup→(l.map λx=>(L.filter λk=>decide (key k=x)).length).sum≤L.length
 |[],L,_=>by simp
 |x::xs,L,h=>by
  rw[List.nodup_cons]at h
  have ih:=aeK key xs (L.filter λk=>!decide (key k=x)) h.2
  have e:(xs.map λy=>(L.filter λk=>decide (key k=y)).length)=xs.map λy=>((L.filter λk=>!decide (key k=x)).filter λk=>decide (key k=y)).length:=by
   refine List.map_congr_left λy hy=>?_
   rw[List.filter_filter]
   congr 1
   refine List.filter_congr λk _=>?_
   by_cases hk:key k=y
   ·have:y≠x:=λe=>h.1 (e▸hy)
    simp[hk,this]
   ·simp[hk]
  have e2:(L.filter λk=>decide (key k=x)).length+(L.filter λk=>!decide (key k=x)).length=L.length:=by
   clear ih e
   induction L with
   |nil=>rfl
   |cons k L ih=>by_cases hk:key k=x<;>simp[hk]<;>omega
  rw[List.map_cons,List.sum_cons,e]
  omega
variable {t:aA}
theorem ajb(hv:Vt t)(r:Int):(jd t r).length≤(t.Links.filter λk=>decide (k.A=r)).length+(t.Links.filter λk=>decide (k.B=r)).length:=by
 have h2:(jd t r).Nodup:=(xY hv r).imp λh=>by omega
 have:=ac1 (a:=jd t r) (b:=((t.Links.filter λk=>decide (k.A=r)).map (·.B))++(t.Links.filter λk=>decide (k.B=r)).map (·.A)) h2 λx hx=>by
  have ha:=(kg hv).1 hx
  rw[qg]at ha
  obtain⟨l,hl,h|h⟩:=ha
  ·refine List.mem_append.2 (.inl (List.mem_map.2 ⟨l,List.mem_filter.2 ⟨hl,by simpa using h.1⟩,h.2⟩))
  ·refine List.mem_append.2 (.inr (List.mem_map.2 ⟨l,List.mem_filter.2 ⟨hl,by simpa using h.1⟩,h.2⟩))
 simpa using this
theorem sum_add{α:Type}(f g h:α→Nat):∀l:List α,(∀x∈l,f x≤g x+h x)→(l.map f).sum≤(l.map g).sum+(l.map h).sum
 |[],_=>by simp
 |x::l,hl=>by
  have:=sum_add f g h l λy hy=>hl y (by simp[hy])
  have:=hl x (by simp)
  simp only[List.map_cons,List.sum_cons];omega
theorem ajc(hv:Vt t){l:List Int}(hl:l.Nodup):(l.map λr=>(jd t r).length).sum≤120:=by
 have h1:=sum_add (λr=>(jd t r).length) (λr=>(t.Links.filter λk=>decide (k.A=r)).length) (λr=>(t.Links.filter λk=>decide (k.B=r)).length) l λr _=>ajb hv r
 have h2:=aeK (·.A) l t.Links hl
 have h3:=aeK (·.B) l t.Links hl
 have h4:=hv.nl
 omega
def yh(f:aB)(p:List aW):List aR:=p.flatMap (abT f)
variable {p q:List aW}
theorem ahC(h:Vf f)(hL:f.aF=p++q):(yh f p).length≤120:=by
 have hn:(p.map (·.ah)).Nodup:=by
  have:=h.asc
  rw[hL]at this
  have:=(List.pairwise_append.1 this).1
  exact List.pairwise_map.2 (this.imp λh=>by omega)
 have:=ajc h.t hn
 rw[List.map_map]at this
 have e:(yh f p).length=(p.map λn=>(abT f n).length).sum:=by
  unfold yh
  rw[List.length_flatMap]
 rw[e]
 refine Nat.le_trans (Nat.le_of_eq ?_) this
 congr 1
 refine List.map_congr_left λn _=>?_
 simp[abT]
theorem aeL{r:Int}(h:r∈ids (aY f)):0≤je f r:=by
 rcases uQ f r with⟨_,h2⟩|⟨a,n,b,_,h2,_⟩
 ·exfalso
  unfold ids aY at h
  simp only[List.map_map]at h
  obtain⟨n,hn,e⟩:=List.mem_map.1 h
  exact h2 n hn e
 ·omega
theorem ahD(h:Vf f){n:aW}(hn:n∈f.aF){m:aR}(hm:m∈abT f n):0≤je f m.cD∧0≤je f m.To∧m.cD≠m.To∧Vd m.Database:=by
 obtain⟨x,hx,rfl⟩:=List.mem_map.1 hm
 have ha:=(kg h.t).1 hx
 exact⟨aeL (tj hn),aeL (uU h.t ha),aem h.t ha,(h.n n hn).2.2⟩
theorem agD(h:Vf f)(hL:f.aF=p++q):Vf (aB.mk f.Links f.aF (yh f p)):=by
 have hl:=ahC h hL
 refine⟨h.t,by show(yh f p).length≤400;omega,h.n,λm hm=>?_⟩
 have hm:m∈yh f p:=hm
 obtain⟨n,hn,hm⟩:=List.mem_flatMap.1 hm
 exact ahD h (by rw[hL];simp[hn]) hm
end Go.Proofs.YtjdopimopgpagaaGreat
namespace Go.Proofs.YtjdopimopgpagaaGreat
set_option linter.all false
open Go
theorem filter_lt{α:Type}{p q:α→Bool}:∀{l:List α},(∀x∈l,p x=true→q x=true)→∀{a:α},a∈l→p a=false→q a=true→(l.filter p).length<(l.filter q).length
 |[],_,a,ha,_,_=>by cases ha
 |b::l,h,a,ha,h1,h2=>by
  have le:∀{l:List α},(∀x∈l,p x=true→q x=true)→(l.filter p).length≤(l.filter q).length:=λ{l}=>by
   induction l with
   |nil=>intro _;simp
   |cons c l ih=>
    intro hl
    have:=ih λx hx=>hl x (by simp[hx])
    cases hp:p c
    ·rw[List.filter_cons_of_neg (by simp[hp])]
     cases hq:q c
     ·rw[List.filter_cons_of_neg (by simp[hq])];exact this
     ·rw[List.filter_cons_of_pos hq,List.length_cons];omega
    ·rw[List.filter_cons_of_pos hp,List.filter_cons_of_pos (hl c (by simp) hp),List.length_cons,List.length_cons];omega
  have hr:∀x∈l,p x=true→q x=true:=λx hx=>h x (by simp[hx])
  have hle:=le hr
  rcases List.mem_cons.1 ha with e|ha
  ·subst e
   rw[List.filter_cons_of_neg (by simp[h1]),List.filter_cons_of_pos h2,List.length_cons];omega
  ·have ih:=filter_lt hr ha h1 h2
   cases hp:p b
   ·rw[List.filter_cons_of_neg (by simp[hp])]
    cases hq:q b
    ·rw[List.filter_cons_of_neg (by simp[hq])];exact ih
    ·rw[List.filter_cons_of_pos hq,List.length_cons];omega
   ·rw[List.filter_cons_of_pos hp,List.filter_cons_of_pos (h b (by simp) hp),List.length_cons,List.length_cons];omega
theorem amF{T:aA}{Q:Int→Prop}{a b:Int}(h:Cn T [] a b)(ha:Q a)(hb:¬Q b):∃x y,Cn T [] a x∧Q x∧gL T x y=true∧¬Q y:=by
 induction h with
 |refl _=>exact absurd ha hb
 |@step x y hx hxy _ ih=>
  by_cases hq:Q x
  ·exact⟨x,y,hx,hq,hxy,hb⟩
  ·exact ih hq
theorem spread{T:aA}(hv:Vt T)(P:Nat→Int→Prop)(h1:∀k i,P k i→P (k+1) i)(h2:∀k i j,P k i→gL T i j=true→P (k+1) j){i0:Int}(hi:i0∈ids T)(h0:P 0 i0):∀j,Cn T [] i0 j→P (ids T).length j:=by
 classical
 have hm:∀k,P k i0:=λk=>by
  induction k with
  |zero=>exact h0
  |succ k ih=>exact h1 k _ ih
 have key:∀k,(∀j,Cn T [] i0 j→P k j)∨k+1≤((ids T).filter λi=>decide (P k i)).length:=λk=>by
  induction k with
  |zero=>
   right
   exact List.length_pos_iff.2 (List.ne_nil_of_mem (List.mem_filter.2 ⟨hi,by simpa using h0⟩))
  |succ k ih=>
   rcases ih with ih|ih
   ·exact .inl λj hj=>h1 k j (ih j hj)
   ·by_cases hall:∀j,Cn T [] i0 j→P k j
    ·exact .inl λj hj=>h1 k j (hall j hj)
    ·right
     obtain⟨j,hj⟩:=Classical.not_forall.1 hall
     obtain⟨hj1,hj2⟩:=Classical.not_imp.1 hj
     obtain⟨x,y,hx,hxp,hxy,hyp⟩:=amF (Q:=P k) hj1 (hm k) hj2
     have hy:y∈ids T:=uU hv hxy
     have:=filter_lt (l:=ids T) (p:=λi=>decide (P k i)) (q:=λi=>decide (P (k+1) i)) (λz _ hz=>by
      have hz:P k z:=by simpa using hz
      simpa using h1 k z hz) hy (by simpa using hyp) (by simpa using h2 k x y hxp hxy)
     omega
 intro j hj
 rcases key (ids T).length with h|h
 ·exact h j hj
 ·have:=List.length_filter_le (λi=>decide (P (ids T).length i)) (ids T)
  omega
end Go.Proofs.YtjdopimopgpagaaGreat
namespace Go.Proofs.YtjdopimopgpagaaGreat
set_option linter.all false
open Go
noncomputable def vM(f:aB)(n:aW)(x:aR):aW:=match look (gP n.Database x.Database) n.ah with
 |some a=>@ite _ ((n.Seq≠0∧a=ofA (aY f) n.ah n.Seq n.Claims)∨1000000≤a.Seq) (Classical.propDecidable _) (aW.mk n.ah n.Seq n.aX n.Claims (gP n.Database x.Database)) (sK f (aW.mk n.ah (a.Seq+1) n.aX n.Claims (gP n.Database x.Database)))
 |none=>aW.mk n.ah n.Seq n.aX n.Claims (gP n.Database x.Database)
variable {f:aB}{q:List aR}{x:aR}
theorem ahE(h:Vf f)(hL:f.ay=x::q):Vf (gN f)∧(gN f).ay=q:=
 ⟨(yg h hL).2.2.1,(yg h hL).2.2.2⟩
theorem apV(h:Vf f)(hL:f.ay=x::q):(gL (aY f) x.cD x.To=false→gN f=gv f [] q)∧(gL (aY f) x.cD x.To=true→∃a n b,f.aF=a++n::b∧n.ah=x.To∧gN f=fC (gv f [] q) a (vM f n x) b):=by
 have hx:x∈f.ay:=by rw[hL];simp
 have h1:=h.drop (p:=[]) hL
 obtain⟨g1,g2,g3,g4⟩:=h.g x hx
 have apP:=h.len
 have ht:aY (gv f [] q)=aY f:=rfl
 have hA:=(yg h hL).2.1
 unfold nM at hA
 rw[pU h1.sm,aO]at hA
 simp only[ht,ud,aO]at hA
 have hp:(nP (aY f) x.cD x.To).2=gL (aY f) x.cD x.To:=ac0 _ _ _
 rw[hp]at hA
 constructor
 ·intro hc
  rw[hc,Bool.not_false,cond_true]at hA
  exact(some_inj hA).symm
 ·intro hc
  rw[hc,Bool.not_true,cond_false]at hA
  simp only[zg,aO]at hA
  have hi:je (gv f [] q) x.To=je f x.To:=rfl
  rw[hi]at hA
  rcases uQ f x.To with⟨h2,_⟩|⟨a,n,b,hN,h2,h3⟩
  ·omega
  ·have hn:n∈f.aF:=by rw[hN];simp
   have hno:=h.n n hn
   refine⟨a,n,b,hN,h3,?_⟩
   have aja:elO (gv f [] q).aF (a.length:Int)=some n:=by show elO f.aF _=_;rw[hN];exact iK a n b
   have hN1:(gv f [] q).aF=a++n::b:=hN
   have hvd:=hno.2.2.merge g4
   simp only[h2,aja,aO,aan,jB.2 hno.2.2,jB.2 g4,and_self,if_true]at hA
   rw[yf hN1 (by show f.aF.length≤_;omega),aO]at hA
   unfold vM
   generalize hd1:gP n.Database x.Database=d1 at hvd hA ⊢
   have hV2:Vf (fC (gv f [] q) a (aW.mk n.ah n.Seq n.aX n.Claims d1) b):=h1.fC hN1 rfl rfl ⟨hno.1,hno.2.1,hvd⟩
   generalize hf2:fC (gv f [] q) a (aW.mk n.ah n.Seq n.aX n.Claims d1) b=f2 at hV2 hA
   have hN2:f2.aF=a++aW.mk n.ah n.Seq n.aX n.Claims d1::b:=by rw[←hf2];rfl
   have et2:aY f2=aY f:=by rw[←hf2];exact pV hN1 rfl rfl
   simp only[x4,aO,uf hV2 hN2,←h3,jn,uO]at hA
   unfold look
   rcases lB d1 n.ah with⟨ha,hha,_,hfa⟩|⟨_,hfa⟩
   ·rw[hfa]at hA ⊢
    have hav:=hvd.ok ha hha
    have aiW:1≤ha.Seq∧ha.Seq≤1000000:=by
     simp only[cm,inB,Bool.and_eq_true,decide_eq_true_eq]at hav;omega
    simp only[cond_true,Bool.not_true,cond_false]at hA ⊢
    rw[cB (n:=ha.Seq+1) (by omega) (by omega)]at hA
    have e1:(decide ((1000000:Int)<ha.Seq+1))=decide (1000000≤ha.Seq):=decide_eq_decide.2 (by omega)
    rw[e1]at hA
    have apW:ha.Seq<1000000→iq f2 (a.length:Int) (ha.Seq+1)=some (fC (gv f [] q) a (sK f (aW.mk n.ah (ha.Seq+1) n.aX n.Claims d1)) b):=λhlt=>by
     rw[wG hV2 hN2 (by omega)]
     rw[←hf2,wm]
     unfold sK
     rw[hf2,et2]
    have own2:uC f2 (aW.mk n.ah n.Seq n.aX n.Claims d1) n.Seq=(bif inB n.Seq 1 1000000 then(ofA (aY f) n.ah n.Seq n.Claims,true)else(noA,false)):=by
     unfold uC;rw[et2]
    rw[own2]at hA
    by_cases hs0:n.Seq=0
    ·by_cases hlt:1000000≤ha.Seq
     ·rw[if_pos (.inr hlt)]
      simp only[hs0,Int.lt_irrefl,decide_false,decide_true,cond_false,cond_true,hlt]at hA
      have:=some_inj hA
      rw[←this,←hf2]
     ·rw[if_neg (by rintro(⟨h5,_⟩|h5);exact h5 hs0;exact hlt h5)]
      simp only[hs0,Int.lt_irrefl,decide_false,decide_true,cond_false,cond_true,hlt]at hA
      rw[apW (by omega),aO]at hA
      exact(some_inj hA).symm
    ·have e2:0<n.Seq:=by have:=hno.1.1;omega
     have e3:inB n.Seq 1 1000000=true:=by have:=hno.1.2;simp[inB];omega
     rw[e3]at hA
     simp only[e2,decide_true,cond_true]at hA
     by_cases hsame:ha=ofA (aY f) n.ah n.Seq n.Claims
     ·rw[if_pos (.inl ⟨hs0,hsame⟩)]
      rw[(adg _ _).2 hsame]at hA
      simp only[cond_true]at hA
      have:=some_inj hA
      rw[←this,←hf2]
     ·have hns:mL ha (ofA (aY f) n.ah n.Seq n.Claims)=false:=by
       cases hq:mL ha (ofA (aY f) n.ah n.Seq n.Claims)
       ·rfl
       ·exact absurd ((adg _ _).1 hq) hsame
      rw[hns]at hA
      by_cases hlt:1000000≤ha.Seq
      ·rw[if_pos (.inr hlt)]
       simp only[hlt,decide_true,cond_true,cond_false]at hA
       have:=some_inj hA
       rw[←this,←hf2]
      ·rw[if_neg (by rintro(⟨_,h5⟩|h5);exact hsame h5;exact hlt h5)]
       simp only[hlt,decide_false,cond_false]at hA
       rw[apW (by omega),aO]at hA
       exact(some_inj hA).symm
   ·rw[hfa]at hA ⊢
    simp only[Bool.not_false,cond_true,cond_false]at hA ⊢
    have:=some_inj hA
    rw[←this,←hf2]
end Go.Proofs.YtjdopimopgpagaaGreat
namespace Go.Proofs.YtjdopimopgpagaaGreat
set_option linter.all false
open Go
def leO(o p:Option ai):Prop:=match o,p with|none,_=>True|some _,none=>False|some x,some y=>iD x y=false
theorem pW(o:Option ai):leO o o:=by cases o with|none=>trivial|some x=>exact oQ x
variable {o p q:Option ai}
theorem pX(h1:leO o p)(h2:leO p q):leO o q:=by
 cases o with
 |none=>trivial
 |some x=>
  cases p with
  |none=>cases h1
  |some y=>
   cases q with
   |none=>cases h2
   |some z=>exact aam h1 h2
def okO(o:Option ai):Prop:=∀a,o=some a→cm a=true
theorem aeM(ho:okO o)(hp:okO p)(h1:leO o p)(h2:leO p o):o=p:=by
 cases o with
 |none=>
  cases p with
  |none=>rfl
  |some y=>cases h2
 |some x=>
  cases p with
  |none=>cases h1
  |some y=>rw[ai5 (ho x rfl) (hp y rfl) h1 h2]
theorem akq(o p:Option ai):leO o (mxO o p):=by
 cases o with
 |none=>trivial
 |some x=>
  cases p with
  |none=>exact oQ x
  |some y=>
   show iD x (mxA x y)=false
   unfold mxA
   cases h:iD y x
   ·exact oQ x
   ·exact sJ h
theorem agE(o p:Option ai):leO p (mxO o p):=by
 cases p with
 |none=>trivial
 |some y=>
  cases o with
  |none=>exact oQ y
  |some x=>
   show iD y (mxA x y)=false
   unfold mxA
   cases h:iD y x
   ·exact h
   ·exact oQ y
theorem abU(o p:Option ai):mxO o p=o∨mxO o p=p:=by
 cases o with
 |none=>exact .inr rfl
 |some x=>
  cases p with
  |none=>exact .inl rfl
  |some y=>
   show some (mxA x y)=some x∨some (mxA x y)=some y
   unfold mxA
   cases iD y x
   ·exact .inl rfl
   ·exact .inr rfl
theorem apY(h1:leO o q)(h2:leO p q):leO (mxO o p) q:=by
 rcases abU o p with h|h<;>rw[h]<;>assumption
variable {a b:ai}
theorem aje(h:b.Seq<a.Seq):iD a b=true:=by simp[iD,h]
theorem apZ(h:iD a b=false):a.Seq≤b.Seq:=by
 simp only[iD,Bool.or_eq_false_iff,decide_eq_false_iff_not]at h
 omega
def yj(f:aB)(i:Int):Option aW:=f.aF.find? λn=>decide (n.ah=i)
noncomputable def lkF(f:aB)(i s:Int):Option ai:=match yj f i with|some n=>look n.Database s|none=>none
variable {f:aB}{i:Int}
theorem mN(h:Vf f){n:aW}:yj f i=some n↔n∈f.aF∧n.ah=i:=by
 constructor
 ·intro hf
  exact⟨List.mem_of_find?_eq_some hf,by simpa using List.find?_some hf⟩
 ·rintro⟨h1,h2⟩
  have zc:=h.asc
  have:∀l:List aW,l.Pairwise (λa b=>a.ah<b.ah)→n∈l→l.find? (λn=>decide (n.ah=i))=some n:=λl=>by
   induction l with
   |nil=>intro _ h;cases h
   |cons b l ih=>
    intro hp hm
    rw[List.pairwise_cons]at hp
    rcases List.mem_cons.1 hm with e|hm
    ·subst e;rw[List.find?_cons_of_pos (by simpa using h2)]
    ·have:=hp.1 n hm
     rw[List.find?_cons_of_neg (by simp;omega),ih hp.2 hm]
  exact this _ zc h1
theorem tq(h:Vf f){n:aW}(hn:n∈f.aF)(s:Int):lkF f n.ah s=look n.Database s:=by
 unfold lkF
 rw[(mN h).2 ⟨hn,rfl⟩]
theorem adD(h:Vf f)(i s:Int):okO (lkF f i s):=by
 intro a ha
 unfold lkF at ha
 cases hn:yj f i with
 |none=>rw[hn]at ha;cases ha
 |some n=>
  rw[hn]at ha
  obtain⟨h1,_⟩:=(mN h).1 hn
  have hd:=(h.n n h1).2.2
  exact hd.ok a ((lE hd).1 ha).1
theorem aeN(h:Vf f){n m:aW}(hn:n∈f.aF)(hm:m∈f.aF)(he:n.ah=m.ah):n=m:=by
 have h1:=(mN h (i:=m.ah)).2 ⟨hn,he⟩
 have h2:=(mN h (i:=m.ah)).2 ⟨hm,rfl⟩
 rw[h1]at h2
 exact Option.some.inj h2
theorem afy(hi:i∈ids (aY f)):∃n∈f.aF,n.ah=i:=by
 simp only[ids,aY,List.map_map,List.mem_map]at hi
 obtain⟨n,hn,h⟩:=hi
 exact⟨n,hn,h⟩
noncomputable def uD(f:aB)(n:aW):ai:=ofA (aY f) n.ah n.Seq n.Claims
def Old(B:Int)(f:aB)(a:ai):Prop:=a.Seq≤B∨∃n∈f.aF,a=ofA (aY f) n.ah a.Seq n.Claims∧a.Seq≤n.Seq
structure Rdy(B:Int)(f:aB):Prop where
 bd:0≤B∧B≤900000
 v:Vf f
 own:∀n∈f.aF,1≤n.Seq∧n.Seq≤B+1∧look n.Database n.ah=some (uD f n)
 old:∀n∈f.aF,∀s a,look n.Database s=some a→Old B f a
 mol:∀m∈f.ay,∀s a,look m.Database s=some a→Old B f a
variable {B:Int}
theorem Rdy.ato(h:Rdy B f){n:aW}(hn:n∈f.aF):lkF f n.ah n.ah=some (uD f n):=by
 rw[tq h.v hn];exact(h.own n hn).2.2
structure Dl(B:Int)(f g:aB)(x:aR):Prop where
 rd:Rdy B g
 top:aY g=aY f
 len:g.aF.length=f.aF.length
 far:∀i s,i≠x.To→lkF g i s=lkF f i s
 off:gL (aY f) x.cD x.To=false→∀i s,lkF g i s=lkF f i s
 on:gL (aY f) x.cD x.To=true→∀s,s≠x.To→lkF g x.To s=mxO (lkF f x.To s) (look x.Database s)
 self:gL (aY f) x.cD x.To=true→leO (look x.Database x.To) (lkF f x.To x.To)→lkF g x.To x.To=lkF f x.To x.To
 bump:gL (aY f) x.cD x.To=true→leO (lkF f x.To x.To) (lkF g x.To x.To)∧leO (look x.Database x.To) (lkF g x.To x.To)
theorem aeO(h:Rdy B f){x:aR}{q:List aR}(hL:f.ay=x::q):Dl B f (gN f) x∧(gN f).ay=q:=by
 obtain⟨hv1,hm1⟩:=ahE h.v hL
 have hbd:=h.bd
 obtain⟨d1,d2⟩:=apV h.v hL
 have hx:x∈f.ay:=by rw[hL];simp
 obtain⟨_,_,_,hxd⟩:=h.v.g x hx
 refine⟨?_,hm1⟩
 cases hc:gL (aY f) x.cD x.To
 ·have e:=d1 hc
  have ht:aY (gv f [] q)=aY f:=rfl
  have hlk:∀i s,lkF (gv f [] q) i s=lkF f i s:=λi s=>rfl
  rw[e]at hv1 ⊢
  refine⟨⟨h.bd,hv1,h.own,h.old,λm hm=>h.mol m (by rw[hL];exact List.mem_cons_of_mem _ hm)⟩,rfl,rfl,λi s _=>rfl,λ_ i s=>rfl,λhh=>?_,λhh=>?_,λhh=>?_⟩<;>rw[hc]at hh<;>cases hh
 ·obtain⟨a,n,b,hN,hnr,e⟩:=d2 hc
  have hn:n∈f.aF:=by rw[hN];simp
  obtain⟨o1,o2,o3⟩:=h.own n hn
  have hnd:=(h.v.n n hn).2.2
  have hD:Vd (gP n.Database x.Database):=hnd.merge hxd
  have acG:∀s,look (gP n.Database x.Database) s=mxO (look n.Database s) (look x.Database s):=λs=>amD hnd hxd s
  have ap0:look (gP n.Database x.Database) n.ah=some (uD f n)∨∃y,look x.Database n.ah=some y∧look (gP n.Database x.Database) n.ah=some y∧iD y (uD f n)=true:=by
   rw[acG,o3]
   cases hy:look x.Database n.ah with
   |none=>exact .inl rfl
   |some y=>
    show some (mxA (uD f n) y)=_∨_
    unfold mxA
    cases hv:iD y (uD f n)
    ·exact .inl rfl
    ·exact .inr ⟨y,rfl,by show some (mxA (uD f n) y)=some y;unfold mxA;rw[hv];rfl,hv⟩
  have gen:∀(n':aW),vM f n x=n'→n'.ah=n.ah→n'.aX=n.aX→n'.Claims=n.Claims→n.Seq≤n'.Seq→n'.Seq≤B+1→look n'.Database n.ah=some (ofA (aY f) n.ah n'.Seq n.Claims)→
    (∀s,s≠n.ah→look n'.Database s=mxO (look n.Database s) (look x.Database s))→
    Rdy B (gN f)∧aY (gN f)=aY f∧(gN f).aF.length=f.aF.length∧(∀i s,i≠x.To→lkF (gN f) i s=lkF f i s)∧∀s,lkF (gN f) x.To s=look n'.Database s:=by
   intro n' hh r1 r2 r3 r4 r5 r6 r7
   rw[hh]at e
   have hN1:(gv f [] q).aF=a++n::b:=hN
   have zk:aY (gN f)=aY f:=by rw[e];exact pV hN1 r1 r2
   have ahF:(gN f).aF=a++n'::b:=by rw[e];rfl
   have hin:∀m,m∈(gN f).aF↔m=n'∨(m∈f.aF∧m.ah≠n.ah):=λm=>by
    rw[ahF]
    have zc:=h.v.asc
    rw[hN]at zc
    obtain⟨p1,p2,p3⟩:=List.pairwise_append.1 zc
    rw[List.pairwise_cons]at p2
    simp only[List.mem_append,List.mem_cons]
    rw[hN]
    simp only[List.mem_append,List.mem_cons]
    constructor
    ·rintro(hm|hm|hm)
     ·exact .inr ⟨.inl hm,by have:=p3 m hm n (by simp);omega⟩
     ·exact .inl hm
     ·exact .inr ⟨.inr (.inr hm),by have:=p2.1 m hm;omega⟩
    ·rintro(hm|⟨hm|hm|hm,hr⟩)
     ·exact .inr (.inl hm)
     ·exact .inl hm
     ·rw[hm]at hr;exact absurd rfl hr
     ·exact .inr (.inr hm)
   have hold:∀y,Old B f y→Old B (gN f) y:=λy hy=>by
    rcases hy with hy|⟨m,hm,hy1,hy2⟩
    ·exact .inl hy
    ·right
     by_cases hr:m.ah=n.ah
     ·have:=aeN h.v hm hn hr
      subst this
      exact⟨n',(hin n').2 (.inl rfl),by rw[zk,r1,r3];exact hy1,by omega⟩
     ·exact⟨m,(hin m).2 (.inr ⟨hm,hr⟩),by rw[zk];exact hy1,hy2⟩
   have hn'd:Vd n'.Database:=(hv1.n n' ((hin n').2 (.inl rfl))).2.2
   refine⟨⟨h.bd,hv1,λm hm=>?_,λm hm s y hy=>?_,λm hm s y hy=>?_⟩,zk,by rw[ahF,hN];simp,λi s hi=>?_,λs=>?_⟩
   ·rcases(hin m).1 hm with rfl|⟨hm,_⟩
    ·refine⟨by omega,r5,?_⟩
     unfold uD
     rw[zk,r1,r3];exact r6
    ·obtain⟨q1,q2,q3⟩:=h.own m hm
     refine⟨q1,q2,?_⟩
     unfold uD
     rw[zk];exact q3
   ·rcases(hin m).1 hm with rfl|⟨hm,_⟩
    ·by_cases hs:s=n.ah
     ·rw[hs,r6]at hy
      have:=Option.some.inj hy
      subst this
      exact .inr ⟨m,hm,by rw[zk,r1,r3];rfl,by show m.Seq≤m.Seq;omega⟩
     ·rw[r7 s hs]at hy
      rcases abU (look n.Database s) (look x.Database s)with h1|h1
      ·rw[h1]at hy;exact hold y (h.old n hn s y hy)
      ·rw[h1]at hy;exact hold y (h.mol x hx s y hy)
    ·exact hold y (h.old m hm s y hy)
   ·rw[hm1]at hm
    exact hold y (h.mol m (by rw[hL];exact List.mem_cons_of_mem _ hm) s y hy)
   ·have:yj (gN f) i=yj f i:=by
     cases hq:yj f i with
     |some m=>
      obtain⟨m1,m2⟩:=(mN h.v).1 hq
      exact(mN hv1).2 ⟨(hin m).2 (.inr ⟨m1,by rw[m2,hnr];exact hi⟩),m2⟩
     |none=>
      cases hq2:yj (gN f) i with
      |none=>rfl
      |some m=>
       exfalso
       obtain⟨m1,m2⟩:=(mN hv1).1 hq2
       rcases(hin m).1 m1 with rfl|⟨m3,_⟩
       ·rw[r1,hnr]at m2;exact hi m2.symm
       ·rw[(mN h.v).2 ⟨m3,m2⟩]at hq;cases hq
    unfold lkF
    rw[this]
   ·have:=tq hv1 ((hin n').2 (.inl rfl)) s
    rw[r1,hnr]at this;exact this
  have acH:∀s,lkF f x.To s=look n.Database s:=λs=>by rw[←hnr];exact tq h.v hn s
  have ap1:gL (aY f) x.cD x.To=false→∀i s,lkF (gN f) i s=lkF f i s:=λhh=>by rw[hc]at hh;cases hh
  rcases ap0 with hme|⟨y,hy1,hy2,hy3⟩
  ·have hh:vM f n x=aW.mk n.ah n.Seq n.aX n.Claims (gP n.Database x.Database):=by
    unfold vM
    rw[hme]
    exact if_pos (.inl ⟨by omega,rfl⟩)
   obtain⟨g1,g2,g3,g4,g5⟩:=gen _ hh rfl rfl rfl (Int.le_refl _) o2 hme λs _=>acG s
   have hsame:lkF (gN f) x.To x.To=lkF f x.To x.To:=by
    rw[g5,acH,←hnr]
    exact hme.trans o3.symm
   refine⟨g1,g2,g3,g4,ap1,λ_ s hs=>by rw[g5,acH];exact acG s,λ_ _=>hsame,λ_=>?_⟩
   rw[hsame]
   refine⟨pW _,?_⟩
   have h1:=agE (look n.Database n.ah) (look x.Database n.ah)
   rw[←acG,hme,←o3,hnr,←acH]at h1
   exact h1
  ·have hyv:cm y=true:=hxd.ok y ((lE hxd).1 hy1).1
   have hyr:y.ah=n.ah:=((lE hxd).1 hy1).2
   have hne:y≠uD f n:=λhe=>by rw[he,oQ]at hy3;cases hy3
   have hge:n.Seq≤y.Seq:=by
    have:=apZ (sJ hy3)
    exact this
   have hys:y.Seq≤B:=by
    rcases h.mol x hx _ _ hy1 with h1|⟨m,hm,h1,h2⟩
    ·exact h1
    ·exfalso
     have hmr:m.ah=n.ah:=by rw[←hyr,h1];rfl
     have:=aeN h.v hm hn hmr
     subst this
     have hsq:y.Seq=m.Seq:=by omega
     rw[hsq]at h1
     exact hne h1
   have hV2:cm (ofA (aY f) n.ah (y.Seq+1) n.Claims)=true:=aeF h.v hn (by omega)
   have hh:vM f n x=sK f (aW.mk n.ah (y.Seq+1) n.aX n.Claims (gP n.Database x.Database)):=by
    unfold vM
    rw[hy2]
    refine if_neg ?_
    rintro(⟨_,h1⟩|h1)
    ·exact hne h1
    ·omega
   have hlp:∀s,look (sK f (aW.mk n.ah (y.Seq+1) n.aX n.Claims (gP n.Database x.Database))).Database s=if s=n.ah then some (mx (look (gP n.Database x.Database) s) (ofA (aY f) n.ah (y.Seq+1) n.Claims))else look (gP n.Database x.Database) s:=λs=>aex hD hV2 s
   have hnew:iD (ofA (aY f) n.ah (y.Seq+1) n.Claims) y=true:=aje (by show y.Seq<y.Seq+1;omega)
   have hown:look (sK f (aW.mk n.ah (y.Seq+1) n.aX n.Claims (gP n.Database x.Database))).Database n.ah=some (ofA (aY f) n.ah (y.Seq+1) n.Claims):=by
    rw[hlp,if_pos rfl,hy2]
    have hnw:mM (ofA (aY f) n.ah (y.Seq+1) n.Claims) y=true:=by
     unfold mM
     rw[hV2,hyv,hnew,hyr]
     simp[ofA]
    show some (bif mM (ofA (aY f) n.ah (y.Seq+1) n.Claims) y then _ else y)=_
    rw[hnw];rfl
   obtain⟨g1,g2,g3,g4,g5⟩:=gen _ hh rfl rfl rfl (by show n.Seq≤y.Seq+1;omega) (by show y.Seq+1≤B+1;omega) hown λs hs=>by rw[hlp,if_neg hs];exact acG s
   refine⟨g1,g2,g3,g4,ap1,λ_ s hs=>by rw[g5,hlp,if_neg (by rw[hnr];exact hs),acH];exact acG s,λ_ hle=>?_,λ_=>?_⟩
   ·exfalso
    rw[acH,←hnr,hy1,o3]at hle
    have hle:iD y (uD f n)=false:=hle
    rw[hy3]at hle;cases hle
   ·rw[g5,acH,←hnr,hown,hy1,o3]
    constructor
    ·exact aam (sJ hy3) (sJ hnew)
    ·exact sJ hnew
end Go.Proofs.YtjdopimopgpagaaGreat
namespace Go.Proofs.YtjdopimopgpagaaGreat
set_option linter.all false
open Go
variable {B:Int}
section
variable {f g:aB}{x:aR}
theorem Dl.mono(h:Dl B f g x)(i s:Int):leO (lkF f i s) (lkF g i s):=by
 by_cases hi:i=x.To
 ·cases hc:gL (aY f) x.cD x.To
  ·rw[h.off hc];exact pW _
  ·by_cases hs:s=x.To
   ·rw[hi,hs];exact(h.bump hc).1
   ·rw[hi,h.on hc s hs];exact akq _ _
 ·rw[h.far i s hi];exact pW _
theorem Dl.uh(h:Dl B f g x)(hc:gL (aY f) x.cD x.To=true)(s:Int):leO (look x.Database s) (lkF g x.To s):=by
 by_cases hs:s=x.To
 ·rw[hs];exact(h.bump hc).2
 ·rw[h.on hc s hs];exact agE _ _
end
theorem zl(I:aB→Prop)(hI:∀f x q,Rdy B f→f.ay=x::q→Dl B f (gN f) x→(gN f).ay=q→I f→I (gN f)):∀(n:Nat) (f:aB),Rdy B f→f.ay.length=n→I f→Rdy B (drN n f)∧I (drN n f)
 |0,f,h,_,hi=>⟨h,hi⟩
 |n+1,f,h,hn,hi=>by
  cases hL:f.ay with
  |nil=>rw[hL]at hn;simp at hn
  |cons x q=>
   obtain⟨h1,h2⟩:=aeO h hL
   refine zl I hI n (gN f) h1.rd ?_ (hI f x q h hL h1 h2 hi)
   rw[h2];rw[hL]at hn;simpa using hn
theorem qI{f:aB}(h:Rdy B f)(I:aB→Prop)(hI:∀f x q,Rdy B f→f.ay=x::q→Dl B f (gN f) x→(gN f).ay=q→I f→I (gN f))(hi:I f):I (ug f):=(zl I hI _ f h rfl hi).2
theorem ajf{f:aB}(h:Rdy B f):Rdy B (ug f):=(zl (λ_=>True) (λ_ _ _ _ _ _ _ _=>trivial) _ f h rfl trivial).1
theorem ahG{f:aB}(h:Rdy B f):aY (ug f)=aY f:=qI h (λg=>aY g=aY f) (λ_ _ _ _ _ d _ hi=>by rw[d.top];exact hi) rfl
theorem agF{f:aB}(h:Rdy B f)(i s:Int):leO (lkF f i s) (lkF (ug f) i s):=qI h (λg=>leO (lkF f i s) (lkF g i s)) (λ_ _ _ _ _ d _ hi=>pX hi (d.mono i s)) (pW _)
theorem agG{f:aB}(h:Rdy B f){m:aR}(hm:m∈f.ay)(hc:gL (aY f) m.cD m.To=true)(s:Int):leO (look m.Database s) (lkF (ug f) m.To s):=by
 have:=qI h (λg=>aY g=aY f∧(m∈g.ay∨leO (look m.Database s) (lkF g m.To s))) (λg x q _ hL d hq hi=>by
  refine⟨by rw[d.top];exact hi.1,?_⟩
  rcases hi.2 with h1|h1
  ·rw[hL]at h1
   rcases List.mem_cons.1 h1 with h1|h1
   ·subst h1
    right
    exact d.uh (by rw[hi.1];exact hc) s
   ·left;rw[hq];exact h1
  ·exact .inr (pX h1 (d.mono _ _))) ⟨rfl,.inl hm⟩
 rcases this.2 with h1|h1
 ·rw[(adj h.v).2]at h1;cases h1
 ·exact h1
structure Bd(T:aA)(c s:Int)(W:Option ai)(f:aB):Prop where
 t:aY f=T
 n:∀i,Cn T [] c i→leO (lkF f i s) W
 m:∀m∈f.ay,Cn T [] c m.cD→leO (look m.Database s) W
 o:Cn T [] c s→lkF f s s=W
theorem Bd.step{T:aA}{c s:Int}{W:Option ai}{f g:aB}{x:aR}{q:List aR}(h:Bd T c s W f)(hL:f.ay=x::q)(d:Dl B f g x)(hq:g.ay=q):Bd T c s W g:=by
 have hx:x∈f.ay:=by rw[hL];simp
 have key:∀i,Cn T [] c i→leO (lkF g i s) W∧(i=s→lkF g i s=W):=λi hi=>by
  by_cases hix:i=x.To
  ·cases hc:gL (aY f) x.cD x.To
   ·rw[d.off hc];exact⟨h.n i hi,λhe=>by rw[he];exact h.o (by rw[←he];exact hi)⟩
   ·have hf:Cn T [] c x.cD:=by
     rw[h.t]at hc
     exact .step hi (by rw[hix];exact vF hc) (by simp)
    by_cases hs:s=x.To
    ·have hcs:Cn T [] c s:=by rw[hs,←hix];exact hi
     have hle:leO (look x.Database x.To) (lkF f x.To x.To):=by
      rw[←hs,h.o hcs];exact h.m x hx hf
     have:lkF g i s=W:=by
      rw[hix,hs,d.self hc hle,←hs];exact h.o hcs
     exact⟨by rw[this];exact pW _,λ_=>this⟩
    ·refine⟨?_,λhe=>absurd (he.symm.trans hix) hs⟩
     rw[hix,d.on hc s hs]
     exact apY (h.n _ (by rw[←hix];exact hi)) (h.m x hx hf)
  ·rw[d.far i s hix];exact⟨h.n i hi,λhe=>by rw[he];exact h.o (by rw[←he];exact hi)⟩
 exact⟨by rw[d.top];exact h.t,λi hi=>(key i hi).1,λm hm hc=>h.m m (by rw[hL];rw[hq]at hm;exact List.mem_cons_of_mem _ hm) hc,λhcs=>(key s hcs).2 rfl⟩
structure Be(T:aA)(c s:Int)(M:Option ai)(f:aB):Prop where
 t:aY f=T
 n:∀i,Cn T [] c i→leO (lkF f i s) M∨leO (lkF f i s) (lkF f s s)
 m:∀m∈f.ay,Cn T [] c m.cD→leO (look m.Database s) M∨leO (look m.Database s) (lkF f s s)
theorem Be.step{T:aA}{c s:Int}{M:Option ai}{f g:aB}{x:aR}{q:List aR}(h:Be T c s M f)(hL:f.ay=x::q)(d:Dl B f g x)(hq:g.ay=q):Be T c s M g:=by
 have hx:x∈f.ay:=by rw[hL];simp
 have up:∀{o:Option ai},leO o M∨leO o (lkF f s s)→leO o M∨leO o (lkF g s s):=λho=>ho.imp id λh1=>pX h1 (d.mono s s)
 refine⟨by rw[d.top];exact h.t,λi hi=>?_,λm hm hc=>up (h.m m (by rw[hL];rw[hq]at hm;exact List.mem_cons_of_mem _ hm) hc)⟩
 by_cases hix:i=x.To
 ·cases hc:gL (aY f) x.cD x.To
  ·have:=up (h.n i hi)
   rw[d.off hc i s];exact this
  ·have hf:Cn T [] c x.cD:=by
    rw[h.t]at hc
    exact .step hi (by rw[hix];exact vF hc) (by simp)
   by_cases hs:s=x.To
   ·rw[hix,←hs];exact .inr (pW _)
   ·rw[hix,d.on hc s hs]
    rcases abU (lkF f x.To s) (look x.Database s)with h1|h1
    ·rw[h1];exact up (h.n _ (by rw[←hix];exact hi))
    ·rw[h1];exact up (h.m x hx hf)
 ·rw[d.far i s hix];exact up (h.n i hi)
def ajg(f:aB):aB:=aB.mk f.Links f.aF (yh f f.aF)
noncomputable def prT(f:aB):aB:=ug (ajg f)
theorem zX{f:aB}{m:aR}(hv:Vf f):m∈(ajg f).ay↔∃n∈f.aF,m.cD=n.ah∧m.Database=n.Database∧gL (aY f) n.ah m.To=true:=by
 show m∈f.aF.flatMap (abT f)↔_
 rw[List.mem_flatMap]
 constructor
 ·rintro⟨n,hn,hm⟩
  obtain⟨y,hy,rfl⟩:=List.mem_map.1 hm
  exact⟨n,hn,rfl,rfl,(kg hv.t).1 hy⟩
 ·rintro⟨n,hn,h1,h2,h3⟩
  refine⟨n,hn,List.mem_map.2 ⟨m.To,(kg hv.t).2 h3,?_⟩⟩
  rw[←h1,←h2]
theorem vN{f:aB}(h:Rdy B f):Rdy B (ajg f):=by
 refine⟨h.bd,agD h.v (p:=f.aF) (q:=[]) (by simp),h.own,h.old,λm hm s a ha=>?_⟩
 obtain⟨n,hn,_,h2,_⟩:=(zX h.v).1 hm
 rw[h2]at ha
 exact h.old n hn s a ha
theorem atp{f:aB}(h:Rdy B f):Rdy B (prT f):=ajf (vN h)
theorem ap2{f:aB}(h:Rdy B f):aY (prT f)=aY f:=(ahG (vN h)).trans rfl
theorem amG{f:aB}(h:Rdy B f)(i s:Int):leO (lkF f i s) (lkF (prT f) i s):=agF (vN h) i s
theorem amH{f:aB}(h:Rdy B f):(prT f).ay=[]:=(adj (vN h).v).2
theorem amI{f:aB}(h:Rdy B f){i j:Int}(hc:gL (aY f) i j=true)(s:Int):leO (lkF f i s) (lkF (prT f) j s):=by
 obtain⟨n,hn,hni⟩:=afy (uU h.v.t (vF hc))
 have:=agG (vN h) (m:=aR.mk n.ah j n.Database) ((zX h.v).2 ⟨n,hn,rfl,rfl,by rw[hni];exact hc⟩) (by show gL (aY f) n.ah j=true;rw[hni];exact hc) s
 rw[←hni,tq h.v hn];exact this
variable {T:aA}{W:Option ai}
theorem Bd.round{c s:Int}{f:aB}(hr:Rdy B f)(h:Bd T c s W f):Bd T c s W (prT f):=by
 refine qI (vN hr) (Bd T c s W) (λg x q _ hL d hq hi=>hi.step hL d hq) ⟨h.t,h.n,λm hm hc=>?_,h.o⟩
 obtain⟨n,hn,h1,h2,_⟩:=(zX hr.v).1 hm
 rw[h2,←tq hr.v hn,←h1];exact h.n _ hc
theorem Be.round{c s:Int}{M:Option ai}{f:aB}(hr:Rdy B f)(h:Be T c s M f):Be T c s M (prT f):=by
 refine qI (vN hr) (Be T c s M) (λg x q _ hL d hq hi=>hi.step hL d hq) ⟨h.t,h.n,λm hm hc=>?_⟩
 obtain⟨n,hn,h1,h2,_⟩:=(zX hr.v).1 hm
 rw[h2,←tq hr.v hn,←h1];exact h.n _ hc
noncomputable def itT:Nat→aB→aB
 |0,f=>f
 |k+1,f=>prT (itT k f)
theorem sN{f:aB}(h:Rdy B f):∀k,Rdy B (itT k f)
 |0=>h
 |k+1=>atp (sN h k)
theorem abV{f:aB}(h:Rdy B f):∀k,aY (itT k f)=aY f
 |0=>rfl
 |k+1=>(ap2 (sN h k)).trans (abV h k)
theorem ahH(f:aB)(k:Nat):∀l,itT (k+l) f=itT l (itT k f)
 |0=>rfl
 |l+1=>by
  show prT (itT (k+l) f)=prT (itT l (itT k f))
  rw[ahH f k l]
theorem amJ{f:aB}(h:Rdy B f)(hM:f.ay=[]):∀k,(itT k f).ay=[]
 |0=>hM
 |k+1=>amH (sN h k)
theorem agH{T:aA}{c s:Int}{W:Option ai}{f:aB}(hr:Rdy B f)(h:Bd T c s W f):∀k,Bd T c s W (itT k f)
 |0=>h
 |k+1=>(agH hr h k).round (sN hr k)
theorem akr{T:aA}{c s:Int}{M:Option ai}{f:aB}(hr:Rdy B f)(h:Be T c s M f):∀k,Be T c s M (itT k f)
 |0=>h
 |k+1=>(akr hr h k).round (sN hr k)
theorem zm{f:aB}(h:Rdy B f){i0 s:Int}(hi:i0∈ids (aY f))(h0:leO W (lkF f i0 s)):∀k,(ids (aY f)).length≤k→∀j,Cn (aY f) [] i0 j→leO W (lkF (itT k f) j s):=by
 have h1:∀k j,leO W (lkF (itT k f) j s)→leO W (lkF (itT (k+1) f) j s):=λk j hk=>pX hk (amG (sN h k) j s)
 have base:=spread h.v.t (λk j=>leO W (lkF (itT k f) j s)) h1 (λk i j hk hc=>pX hk (amI (sN h k) (by rw[abV h k];exact hc) s)) hi h0
 intro k hk j hj
 obtain⟨l,rfl⟩:∃l,k=(ids (aY f)).length+l:=⟨k-(ids (aY f)).length,by omega⟩
 clear hk
 induction l with
 |zero=>exact base j hj
 |succ l ih=>exact h1 _ j ih
noncomputable def sO:List (Option ai)→Option ai:=List.foldr mxO none
theorem afz:∀(l:List (Option ai)) (o:Option ai),o∈l→leO o (sO l)
 |a::l,o,h=>by
  show leO o (mxO a (sO l))
  rcases List.mem_cons.1 h with rfl|h
  ·exact akq _ _
  ·exact pX (afz l o h) (agE _ _)
theorem acI:∀l:List (Option ai),sO l=none∨sO l∈l
 |[]=>.inl rfl
 |a::l=>by
  show mxO a (sO l)=none∨mxO a (sO l)∈a::l
  rcases abU a (sO l)with h|h
  ·rw[h];exact .inr (by simp)
  ·rw[h]
   rcases acI l with h1|h1
   ·exact .inl h1
   ·exact .inr (List.mem_cons_of_mem _ h1)
theorem ajh{f:aB}(h:Rdy B f)(hM:f.ay=[]){c:Int}(hc:c∈ids (aY f)){k:Nat}(hk:2*(ids (aY f)).length≤k){i:Int}(hi:Cn (aY f) [] c i)(s:Int):lkF (itT k f) i s=lkF (itT k f) c s:=by
 classical
 have key:∃V,∀j,Cn (aY f) [] c j→lkF (itT k f) j s=V:=by
  generalize hl:((ids (aY f)).filter λi=>decide (Cn (aY f) [] c i)).map (λi=>lkF f i s)=l
  have hm:∀j,Cn (aY f) [] c j→leO (lkF f j s) (sO l):=λj hj=>afz l _ (by
   rw[←hl]
   exact List.mem_map.2 ⟨j,List.mem_filter.2 ⟨hj.ids h.v.t hc,by simpa using hj⟩,rfl⟩)
  have hok:okO (sO l):=λa ha=>by
   rcases acI l with h1|h1
   ·rw[h1]at ha;cases ha
   ·rw[←hl]at h1
    obtain⟨j,_,hj⟩:=List.mem_map.1 h1
    rw[←hl,←hj]at ha
    exact adD h.v j s a ha
  obtain⟨i0,hi0,hle⟩:∃i0,Cn (aY f) [] c i0∧leO (sO l) (lkF f i0 s):=by
   rcases acI l with h1|h1
   ·exact⟨c,.refl (by simp),by rw[h1];trivial⟩
   ·rw[←hl]at h1
    obtain⟨j,hj,hje⟩:=List.mem_map.1 h1
    refine⟨j,by simpa using (List.mem_filter.1 hj).2,?_⟩
    rw[hl]at hje
    rw[hje];exact pW _
  have ap3:i0∈ids (aY f):=hi0.ids h.v.t hc
  by_cases hcs:Cn (aY f) [] c s
  ·
   have hsd:s∈ids (aY f):=hcs.ids h.v.t hc
   have hs0:=zm h ap3 hle _ (Nat.le_refl _) s (hi0.symm.trans hcs)
   have be:=akr (T:=aY f) (c:=c) (s:=s) (M:=sO l) h ⟨rfl,λj hj=>.inl (hm j hj),λm hm _=>by rw[hM]at hm;cases hm⟩ (ids (aY f)).length
   generalize hf':itT (ids (aY f)).length f=f' at hs0 be
   have hr':Rdy B f':=by rw[←hf'];exact sN h _
   have ht':aY f'=aY f:=by rw[←hf'];exact abV h _
   have hM':f'.ay=[]:=by rw[←hf'];exact amJ h hM _
   have up:∀{o:Option ai},leO o (sO l)∨leO o (lkF f' s s)→leO o (lkF f' s s):=λho=>ho.elim (λh1=>pX h1 hs0) id
   have bd:Bd (aY f) c s (lkF f' s s) f':=⟨ht',λj hj=>up (be.n j hj),λm hm _=>(by rw[hM']at hm;cases hm),λ_=>rfl⟩
   refine⟨lkF f' s s,λj hj=>?_⟩
   have ek:itT k f=itT (k-(ids (aY f)).length) f':=by
    rw[←hf',←ahH]
    congr 1;omega
   rw[ek]
   have h1:=zm hr' (W:=lkF f' s s) (i0:=s) (s:=s) (by rw[ht'];exact hsd) (pW _) (k-(ids (aY f)).length) (by rw[ht'];omega) j (by rw[ht'];exact hcs.symm.trans hj)
   exact aeM (adD (sN hr' _).v _ _) (adD hr'.v _ _) ((agH hr' bd _).n j hj) h1
  ·have bd:Bd (aY f) c s (sO l) f:=⟨rfl,hm,λm hm _=>(by rw[hM]at hm;cases hm),λh=>absurd h hcs⟩
   refine⟨sO l,λj hj=>?_⟩
   have h1:=zm h ap3 hle k (by omega) j (hi0.symm.trans hj)
   exact aeM (adD (sN h _).v _ _) hok ((agH h bd _).n j hj) h1
 obtain⟨V,hV⟩:=key
 rw[hV i hi,hV c (.refl (by simp))]
end Go.Proofs.YtjdopimopgpagaaGreat
namespace Go.Proofs.YtjdopimopgpagaaGreat
set_option linter.all false
open Go
structure pY(g:aA)(d:aG)(at1:Int):Prop where
 v:Vd d
 a:∀r,Cn g [] at1 r→∃x∈d.aC,x.ah=r∧∃seq cl,x=ofA g r seq cl
section
variable {g:aA}{d:aG}{at1:Int}
theorem pY.get(h:pY g d at1){x:ai}(hx:x∈d.aC)(hc:Cn g [] at1 x.ah):∃seq cl,x=ofA g x.ah seq cl:=by
 obtain⟨y,hy,hyr,seq,cl,he⟩:=h.a _ hc
 have:=h.v.uniq hy hx hyr
 subst this
 exact⟨seq,cl,he⟩
theorem pY.links(h:pY g d at1){x:ai}(hx:x∈d.aC)(hc:Cn g [] at1 x.ah):x.Links=(jd g x.ah).map (o4 g x.ah):=by
 obtain⟨seq,cl,e⟩:=h.get hx hc
 exact(congrArg ai.Links e).trans rfl
theorem pY.nb(h:pY g d at1)(hv:Vt g){x:ai}(hx:x∈d.aC)(hc:Cn g [] at1 x.ah)(n:Int):(∃p∈x.Links,p.bx=n)↔gL g x.ah n=true:=by
 rw[h.links hx hc,←kg hv]
 constructor
 ·rintro⟨p,hp,rfl⟩
  obtain⟨m,hm,rfl⟩:=List.mem_map.1 hp
  rw[zV];exact hm
 ·intro hn;exact⟨_,List.mem_map.2 ⟨n,hn,rfl⟩,zV _ _ _⟩
theorem pY.lk(h:pY g d at1)(hv:Vt g){a b:Int}(ha:Cn g [] at1 a):LkD d a b↔gL g a b=true:=by
 constructor
 ·rintro⟨x,hx,y,hy,rfl,rfl,p,q⟩
  exact(h.nb hv hx ha _).1 p
 ·intro hab
  obtain⟨x,hx,e1,_⟩:=h.a a ha
  have hb:Cn g [] at1 b:=.step ha hab (by simp)
  obtain⟨y,hy,e2,_⟩:=h.a b hb
  subst e1 e2
  exact⟨x,hx,y,hy,rfl,rfl,(h.nb hv hx ha _).2 hab,(h.nb hv hy hb _).2 (vF hab)⟩
theorem pY.rd(h:pY g d at1)(hv:Vt g){b:Int}:Rd d at1 b↔Cn g [] at1 b:=by
 constructor
 ·intro q
  induction q with
  |refl=>exact .refl (by simp)
  |step _ hl ih=>exact .step ih ((h.lk hv ih).1 hl) (by simp)
 ·intro q
  induction q with
  |refl _=>exact .refl
  |step hq hl _ ih=>exact .step ih ((h.lk hv hq).2 hl)
end
theorem seen{B:Int}{f:aB}(h:Rdy B f)(hM:f.ay=[]){k:Nat}(hk:2*(ids (aY f)).length≤k){n:aW}(hn:n∈(itT k f).aF):pY (aY f) n.Database n.ah:=by
 have hr:=sN h k
 have ht:=abV h k
 refine⟨(hr.v.n n hn).2.2,λr hc=>?_⟩
 have hid:n.ah∈ids (aY f):=by rw[←ht];exact tj hn
 have hrd:=hc.ids h.v.t hid
 rw[←ht]at hrd
 obtain⟨m,hm,hmr⟩:=afy hrd
 have h1:=ajh h hM hid hk hc r
 rw[←hmr,hr.ato hm,hmr,tq hr.v hn]at h1
 have hd:=(hr.v.n n hn).2.2
 obtain⟨q1,q2⟩:=(lE hd).1 h1.symm
 refine⟨_,q1,q2,m.Seq,m.Claims,?_⟩
 unfold uD
 rw[ht,hmr]
end Go.Proofs.YtjdopimopgpagaaGreat
namespace Go.Proofs.YtjdopimopgpagaaGreat
set_option linter.all false
open Go
theorem ap4{x n:Int}(hx:0≤x)(hn:1≤n∧n≤9223372036854775807):pG x n=some (x%n):=by
 unfold pG
 have e1:decide (n<1)=false:=by simp;omega
 have e2:Int.tmod x n=x%n:=Int.tmod_eq_emod_of_nonneg hx
 have h0:0≤x%n:=Int.emod_nonneg _ (by omega)
 have e3:decide (x%n<0)=false:=by simp;omega
 have e4:n≠0:=by omega
 have e5:decide (n≠0)=true:=by simp;omega
 simp only[e1,cond_false,e2,jn,e3,chk,e5,cond_true]
theorem ap5{a k n:Int}(ha:0≤a∧a<n)(hk:1≤k∧k≤n-1):(a+k)%n≠a:=by
 by_cases h:a+k<n
 ·rw[Int.emod_eq_of_lt (by omega) h];omega
 ·have:(a+k)%n=a+k-n:=by
   have h1:(a+k-n)%n=(a+k)%n:=by simp
   rw[←h1,Int.emod_eq_of_lt (by omega) (by omega)]
  omega
def Sm(most:Int)(d:aG):Prop:=Vd d∧∀a∈d.aC,a.Seq≤most
theorem Sm.nil(most:Int):Sm most (aG.mk []):=⟨⟨by simp,by simp,by simp⟩,by simp⟩
variable {most:Int}{t:aS}
theorem adk(h:ct t)(hm:1≤most):Ok (mj t most) (λp=>Sm most p.1∧ct p.2):=by
 unfold mj
 refine Ok.bnd (dR h (by omega)) λp hp=>?_
 refine Ok.cs (λ_=>Ok.s ⟨Sm.nil most,hp.2⟩) λ_=>?_
 refine Ok.bnd (aak (n:=0) hp.2 (by omega)) λd hd=>?_
 obtain⟨⟨_,hl,h0⟩,ht⟩:=hd
 have hv:=jB.1 (h0 rfl).1
 refine Ok.whl (λs:Int×List ai=>(0≤s.1∧s.1≤s.2.length)∧s.2.length≤7∧Vd (aG.mk s.2)∧∀(k:Nat) (a:ai),(k:Int)<s.1→s.2[k]?=some a→a.Seq≤most) (λs=>((s.2.length:Int)-s.1).toNat) ⟨⟨by simp,by simp⟩,hl,hv,λk a hk=>by simp only at hk;omega⟩ (by simp only;omega) ?_
 rintro⟨i,m⟩ Z ⟨⟨h0,h1⟩,h2,h3,h4⟩ hZ
 simp only at h0 h1 h2 h3 h4
 refine Ok.cs (λhc=>?_) λhc=>?_
 ·have hc:i<m.length:=by simpa using hc
  refine Ok.bnd (mK h0 hc) λa ha=>?_
  refine Ok.bnd (aeb h0 hc) λl hl=>?_
  rw[cB (by omega) (by omega)]
  have hav:=h3.ok a ha.1
  have hnew:cm (ai.mk a.ah (if most<a.Seq then most else a.Seq) a.aX a.Links a.Claims)=true:=by
   have hv2:=hav
   unfold cm at hv2 ⊢
   simp only[Bool.and_eq_true]at hv2 ⊢
   refine⟨⟨⟨⟨hv2.1.1.1.1,?_⟩,hv2.1.1.2⟩,hv2.1.2⟩,hv2.2⟩
   have h5:=hv2.1.1.1.2
   simp only[inB,Bool.and_eq_true,decide_eq_true_eq]at h5 ⊢
   split<;>omega
  have jE:l=m.set i.toNat (ai.mk a.ah (if most<a.Seq then most else a.Seq) a.aX a.Links a.Claims):=hl.1
  refine hZ _ ⟨⟨by simp only;omega,by simp only;omega⟩,by simp only;omega,?_,λk b hk hb=>?_⟩ (by simp only;omega)
  ·show Vd (aG.mk l)
   have hmap:l.map (·.ah)=m.map (·.ah):=by
    rw[jE,List.map_set]
    refine List.ext_getElem? λk=>?_
    rw[List.getElem?_set]
    split
    ·rename_i hk
     subst hk
     split
     ·rw[List.getElem?_map,ha.2];rfl
     ·rename_i hlt;rw[List.getElem?_eq_none (by omega)]
    ·rfl
   refine⟨by show l.length≤99;omega,λb hb=>?_,?_⟩
   ·have hb:b∈l:=hb
    rw[jE]at hb
    rcases List.mem_or_eq_of_mem_set hb with hb|rfl
    ·exact h3.ok b hb
    ·exact hnew
   ·have:=List.pairwise_map.2 h3.asc
    have this:(m.map (·.ah)).Pairwise (·<·):=this
    rw[←hmap]at this
    exact List.pairwise_map.1 this
  ·have hk:(k:Int)<i+1:=hk
   have hb:l[k]?=some b:=hb
   rw[jE,List.getElem?_set]at hb
   split at hb
   ·split at hb
    ·have:=Option.some.inj hb
     rw[←this]
     show(if most<a.Seq then most else a.Seq)≤most
     split<;>omega
    ·cases hb
   ·rename_i hne
    exact h4 k b (by omega) hb
 ·have hc:¬i<m.length:=by simpa using hc
  refine Ok.s ⟨⟨h3,λa ha=>?_⟩,ht⟩
  obtain⟨k,hk⟩:=List.getElem?_of_mem ha
  have hlt:=(List.getElem?_eq_some_iff.1 hk).1
  have hk:m[k]?=some a:=hk
  have hlt:k<m.length:=hlt
  exact h4 k a (by omega) hk
structure Fd(most:Int)(f:aB):Prop where
 v:Vf f
 n:1≤f.aF.length∧f.aF.length≤8
 s:∀n∈f.aF,n.Seq≤most∧Sm most n.Database
 m:∀m∈f.ay,Sm most m.Database
theorem ahI{f:aB}{r:Int}(h:∃n∈f.aF,n.ah=r):0≤je f r:=by
 obtain⟨n,hn,hr⟩:=h
 rcases uQ f r with⟨_,h2⟩|⟨a,m,b,_,h2,_⟩
 ·exact absurd hr (h2 n hn)
 ·omega
theorem ae4{kI:Int}(h:ct t)(hr:1≤kI∧kI≤8)(hm:1≤most∧most≤1000000):Ok (mJ t kI most) (λp=>Fd most p.1∧ct p.2):=by
 unfold mJ
 refine Ok.bnd (ae1 h hr) λg hg=>?_
 obtain⟨⟨hv,hn,_⟩,ht⟩:=hg
 have apQ:=hv.nl
 refine Ok.pT (λP (s:List aW×List Int×Int)=>(s.1.map (·.ah)=P.map (·.ID)∧∀n∈s.1,(0≤n.Seq∧n.Seq≤most)∧jN n.Claims=true∧Sm most n.Database)∧ct (aS.mk s.2.1 s.2.2)) ?_ _ ⟨⟨rfl,by simp⟩,ht⟩ ?_
 ·rintro P r rest ⟨m,L,At⟩ Z hL ⟨⟨i1,i3⟩,i2⟩ hZ
  have hP:P.length<g.1.aH.length:=by rw[hL];simp
  simp only at i1 i2 i3
  have hml:m.length=P.length:=by have:=congrArg List.length i1;simpa using this
  refine Ok.bnd (jM i2 (by decide) (by decide)) λp2 h2=>?_
  have h2s:=h2.1
  simp only[List.mem_cons,List.not_mem_nil,or_false]at h2s
  refine Ok.bnd (dR h2.2 (by omega)) λp3 h3=>?_
  refine Ok.bnd (adk h3.2 hm.1) λp4 h4=>?_
  refine Ok.fV (λj (s:List bH×List Int×Int)=>((s.1.length:Int)≤j∧s.1.all iN=true∧qq s.1=true∧∀c∈s.1,c.b9<j)∧ct (aS.mk s.2.1 s.2.2)) 0 2 ?_ ?_ _ _ _ rfl (by omega) (by omega) ⟨⟨by simp,by simp,rfl,by simp⟩,h4.2⟩
  ·rintro j ⟨m4,m5,m6⟩ Z2 hj1 hj2 ⟨⟨q1,q3,q4,q5⟩,q2⟩ hZ2
   simp only at q1 q2 q3 q4 q5
   refine Ok.jn (λs:List Int×Int×List bH=>((s.2.2.length:Int)≤j+1∧s.2.2.all iN=true∧qq s.2.2=true∧∀c∈s.2.2,c.b9<j+1)∧ct (aS.mk s.1 s.2.1)) (λs hs=>hZ2 _ ⟨hs.1,hs.2⟩) λJ hJ=>?_
   refine Ok.bnd (dR q2 (by omega)) λp5 h5=>?_
   refine Ok.cs (λ_=>?_) λ_=>hJ _ ⟨⟨by simp only;omega,q3,q4,λc hc=>by have:=q5 c hc;omega⟩,h5.2⟩
   refine Ok.bnd (kS h5.2) λp6 h6=>?_
   refine Ok.bnd (ac3 h6.2) λp7 h7=>?_
   have h61:=h6.1 (by omega) (by omega) (by omega)
   refine Ok.bnd (gm (by simp;omega)) λl hl=>hJ _ ⟨⟨by simp only;rw[hl.2];simp;omega,?_,?_,λc hc=>?_⟩,h7.2⟩
   ·show l.all iN=true
    rw[hl.1]
    refine zQ q3 ?_
    simp only[iN,inB,Bool.and_eq_true,decide_eq_true_eq]
    exact⟨⟨by omega,by omega⟩,h7.1⟩
   ·show qq l=true
    rw[hl.1]
    exact xb q4 λy hy=>by simpa using q5 y hy
   ·have hc:c∈l:=hc
    rw[hl.1]at hc
    rcases List.mem_append.1 hc with hc|hc
    ·have:=q5 c hc;omega
    ·rw[List.mem_singleton]at hc;subst hc;show j<j+1;omega
  ·rintro j ⟨m4,m5,m6⟩ hj1 hj2 ⟨⟨q1,q3,q4,q5⟩,q2⟩
   have hj:j=2:=hj2 (by omega)
   refine Ok.bnd (gm (by simp;omega)) λl hl=>hZ _ ⟨⟨?_,λn hn2=>?_⟩,q2⟩
   ·show l.map (·.ah)=_
    rw[hl.1,List.map_append,i1,List.map_append];rfl
   ·have hn2:n∈l:=hn2
    rw[hl.1]at hn2
    rcases List.mem_append.1 hn2 with hn2|hn2
    ·exact i3 n hn2
    ·rw[List.mem_singleton]at hn2
     subst hn2
     refine⟨⟨?_,?_⟩,?_,h4.1⟩
     ·show 0≤(if p2.1<most then p2.1 else most);split<;>omega
     ·show(if p2.1<most then p2.1 else most)≤most;split<;>omega
     ·show jN m4=true
      have q1:(m4.length:Int)≤j:=q1
      unfold jN
      rw[q3,q4];simp;omega
 ·rintro⟨m,L,At⟩ ⟨⟨i1,i3⟩,i2⟩
  simp only at i1 i2 i3
  have hml:m.length=g.1.aH.length:=by have:=congrArg List.length i1;simpa using this
  refine Ok.bnd (dR i2 (by omega)) λp8 h8=>?_
  have h84:=h8.1.2.1 (by omega)
  have mem:∀x∈g.1.aH,∃n∈m,n.ah=x.ID:=λx hx=>by
   have:x.ID∈m.map (·.ah):=by rw[i1];exact List.mem_map.2 ⟨x,hx,rfl⟩
   obtain⟨n,hn1,hn2⟩:=List.mem_map.1 this
   exact⟨n,hn1,hn2⟩
  refine Ok.whl (λs:Int×List aR×List Int×Int=>((s.2.1.length:Int)+s.1≤4∧s.1≤4∧(0≤s.1∨s.1≤0))∧(s.2.1.length≤8∧∀x∈s.2.1,(∃n∈m,n.ah=x.cD)∧(∃n∈m,n.ah=x.To)∧x.cD≠x.To∧Sm most x.Database)∧ct (aS.mk s.2.2.1 s.2.2.2)) (λs=>s.1.toNat) ⟨⟨by simp;omega,by simp only;omega,by simp only;omega⟩,⟨by simp,by simp⟩,h8.2⟩ (by simp only;omega) ?_
  rintro⟨i,m10,m11,m12⟩ Z ⟨⟨q1,q1',_⟩,⟨q2,q4⟩,q3⟩ hZ
  simp only at q1 q1' q2 q3 q4
  refine Ok.cs (λhc=>?_) λ_=>?_
  rotate_left
  ·have zk:Vt (aY (aB.mk g.1.Links m m10)):=hv.ai7 (by show(m.map λn=>bh.mk n.ah n.aX).map (·.ID)=_;rw[List.map_map];exact i1) rfl
   refine Ok.s ⟨⟨⟨zk,by show m10.length≤400;omega,λn hn2=>?_,λx hx=>?_⟩,⟨by show 1≤m.length;omega,by show m.length≤8;omega⟩,λn hn2=>?_,λx hx=>(q4 x hx).2.2.2⟩,q3⟩
   ·obtain⟨r1,r2,r3⟩:=i3 n hn2
    exact⟨⟨r1.1,by omega⟩,r2,r3.1⟩
   ·obtain⟨r1,r2,r3,r4⟩:=q4 x hx
    exact⟨ahI r1,ahI r2,r3,r4.1⟩
   ·obtain⟨r1,r2,r3⟩:=i3 n hn2
    exact⟨r1.2,r3⟩
  simp only[Bool.and_eq_true,decide_eq_true_eq]at hc
  refine Ok.bnd (dR q3 (by omega)) λp9 h9=>?_
  have h9n:=h9.1.2.1 (by omega)
  have h90:=h9.1.1
  refine Ok.bnd (kS h9.2) λp10 h10=>?_
  rw[cB (n:=(g.1.aH.length:Int)-1) (by omega) (by omega)]at h10
  have h10:=And.intro (h10.1 (by omega) (by omega) (by omega)) h10.2
  have hw:w64 (p9.1+p10.1)=p9.1+p10.1:=cB (by omega) (by omega)
  rw[hw,ap4 (by omega) (by omega),aO]
  have hne:=ap5 (a:=p9.1) (k:=p10.1) (n:=(g.1.aH.length:Int)) ⟨h90,h9n⟩ h10.1
  have hb0:0≤(p9.1+p10.1)%(g.1.aH.length:Int):=Int.emod_nonneg _ (by omega)
  have hb1:(p9.1+p10.1)%(g.1.aH.length:Int)<(g.1.aH.length:Int):=Int.emod_lt_of_pos _ (by omega)
  generalize (p9.1+p10.1)%(g.1.aH.length:Int)=bb at hne hb0 hb1 ⊢
  refine Ok.bnd (mK h90 h9n) λe1 he1=>?_
  refine Ok.bnd (mK hb0 hb1) λe2 he2=>?_
  refine Ok.bnd (adk h10.2 hm.1) λp12 h12=>?_
  refine Ok.bnd (gm (by simp;omega)) λl hl=>?_
  rw[cB (by omega) (by omega)]
  have hl2:=hl.2
  simp only[List.length_cons,List.length_nil]at hl2
  have hids:e1.ID≠e2.ID:=λhe=>by
   have:=apx hv he1.1 he2.1 he
   subst this
   have hnd:g.1.aH.Nodup:=hv.asc.imp λ{a b} hab e=>by subst e;omega
   obtain⟨k1,k2⟩:=List.getElem?_eq_some_iff.1 he1.2
   obtain⟨k3,k4⟩:=List.getElem?_eq_some_iff.1 he2.2
   have:=(List.getElem_inj hnd).1 (k2.trans k4.symm)
   omega
  refine hZ _ ⟨⟨by simp only;omega,by simp only;omega,by simp only;omega⟩,⟨by simp only;omega,λx hx=>?_⟩,h12.2⟩ (by simp only;omega)
  have hx:x∈l:=hx
  rw[hl.1]at hx
  rcases List.mem_append.1 hx with hx|hx
  ·exact q4 x hx
  ·rw[List.mem_singleton]at hx
   subst hx
   exact⟨mem e1 he1.1,mem e2 he2.1,hids,h12.1⟩
end Go.Proofs.YtjdopimopgpagaaGreat
