/- Plain: ad7: the two texts of Validate, Fits, Own, Find, Same. No condition but bK bn stand in each. -/
import Derived.Test.YtdjeacigeegklaaGreatPYA
import Derived.Test.YtdjeacigeegklaaGreatPYB
namespace Go.Proofs.YtdjeacigeegklaaGreat
set_option linter.all false
open Go
theorem jQ{α σ β:Type}{B:Int→α→(σ→Option β)→σ→Option β}{K:σ→Option β}{L:List α}(I:List α→σ→Prop)(f:List α→List α→Option β)(hn:∀s,I L s→K s=f L [])
  (hc:∀p x r s Z,p++x::r=L→I p s→(∀s',I (p++[x]) s'→Z s'=f (p++[x]) r)→B (p.length:Int) x Z s=f p (x::r)):∀(l p:List α) (s:σ),p++l=L→I p s→bD l p.length B K s=f p l
 |[],p,s,h,hi=>by rw[List.append_nil]at h;subst h;exact hn s hi
 |x::r,p,s,h,hi=>hc p x r s _ h hi λs' hs=>by
   have:=jQ (B:=B) (K:=K) I f hn hc r (p++[x]) s' (by simpa using h) hs
   rw[List.length_append]at this
   exact this
variable {α:Type}{L:List α}
theorem ahn{p r:List α}{x:α}(h:p++x::r=L):nO L 0 (p.length:Int)=some p:=by
 unfold nO
 rw[if_pos ⟨by omega,by omega,by rw[←h];simp;omega⟩,←h]
 simp
def kU(n:Int):Bool:=decide (n=8)||(decide (n=16)||(decide (n=32)||decide (n=64)))
def rtB(n:Int):Bool:=decide (1≤n)&&decide (n≤99)
def rP(n:Int)(a:ay):Bool:=decide (a.Bit<0)||(decide (n≤a.Bit)||(!rtB a.aK||!rtB a.To))
def zb(a:ay):Bool:=decide (a.Kind<1)||decide (3<a.Kind)
def zd(a:ay):Bool:=!(decide (a.To=a.aK)==decide (a.Kind=3))
def ltA(a b:ay):Bool:=decide (a.Bit<b.Bit)
def pT(a b:ay):Bool:=decide (a.aK=b.aK)&&(decide (a.Kind=b.Kind)&&decide (a.To=b.To))
def tD{α:Type}(q:α→α→Bool):List α→List α→Bool
 |_,[]=>false
 |p,x::r=>p.any (q x)||tD q (p++[x]) r
def l8(e:aC):Int:=
 bif !kU e.Length||e.List.any (rP e.Length)then 2 else bif e.List.any zb then 1 else bif e.List.any zd then 8 else bif kg ltA e.List then(bif tD pT [] e.List then 5 else 0)else 25
variable {β:Type}
theorem acp{B:Int→α→(Bool→Option β)→Bool→Option β}{K:Bool→Option β}(p:α→Bool)(hB:∀j x Z s,B j x Z s=Z (s&&!p x))(l:List α)(j:Nat)(s:Bool):bD l j B K s=K (s&&!l.any p):=
 yg (f:=λl s=>K (s&&!l.any p)) (λs=>by simp) (λj x r s Z hZ=>by
  rw[hB,hZ,List.any_cons];cases s<;>cases p x<;>simp) l j s
theorem al3(q:α→α→Bool)(a:Option β){B:Int→α→(Unit→Option β)→Unit→Option β}{K:Unit→Option β}
  (hB:∀p x r Z,p++x::r=L→B (p.length:Int) x Z ()=bif p.any (q x)then a else Z ()):bD L 0 B K ()=bif tD q [] L then a else K ():=
 jQ (L:=L) (λ_ _=>True) (λp l=>bif tD q p l then a else K ()) (λs _=>rfl) (λp x r s Z h _ hZ=>by
  rw[hB p x r Z h,hZ () trivial,tD];cases p.any (q x)<;>rfl) L [] () rfl trivial
theorem iy(e:aC)(hl:e.List.length≤1000000):fW e=some (l8 e):=by
 unfold fW mG ir
 simp only[aM]
 refine(acp (rP e.Length) (λj x Z s=>by
  unfold rP rtB
  cases s
  ·rfl
  by_cases h1:x.Bit<0
  ·have:¬(0≤x.Bit):=by omega
   simp[h1,this]
  have h1':0≤x.Bit:=by omega
  by_cases h2:e.Length≤x.Bit
  ·have:¬(x.Bit<e.Length):=by omega
   simp[h1',h2,this]
  have h2':x.Bit<e.Length:=by omega
  simp only[h1',h2',decide_true,cond_true,h1,h2,decide_false,Bool.false_or,Bool.true_and]
  cases decide (1≤x.aK)&&decide (x.aK≤99)<;>simp) _ _ _).trans ?_
 unfold l8 kU
 have hgo:∀{b:Bool} {x y z:Option Int},b=true→(bif b then x else y)=x:=λh=>by subst h;rfl
 cases hb:(decide (e.Length=8)||(decide (e.Length=16)||(decide (e.Length=32)||decide (e.Length=64))))&&!e.List.any (rP e.Length)
 ·have:(!(decide (e.Length=8)||(decide (e.Length=16)||(decide (e.Length=32)||decide (e.Length=64))))||e.List.any (rP e.Length))=true:=by
   revert hb;cases(decide (e.Length=8)||(decide (e.Length=16)||(decide (e.Length=32)||decide (e.Length=64))))<;>cases e.List.any (rP e.Length)<;>simp
  rw[this];rfl
 ·have:(!(decide (e.Length=8)||(decide (e.Length=16)||(decide (e.Length=32)||decide (e.Length=64))))||e.List.any (rP e.Length))=false:=by
   revert hb;cases(decide (e.Length=8)||(decide (e.Length=16)||(decide (e.Length=32)||decide (e.Length=64))))<;>cases e.List.any (rP e.Length)<;>simp
  rw[this]
  simp only[Bool.not_true,cond_false]
  refine(gO zb (some 1) (by intros;rfl) _ _ _).trans ?_
  cases e.List.any zb
  ·simp only[cond_false]
   refine(gO zd (some 8) (by intros;rfl) _ _ _).trans ?_
   cases e.List.any zd
   ·simp only[cond_false]
    refine(sx ltA (some 25) (λj x y r q s Z hL hj=>by
     simp only[qi hL hj (by omega),aM,ltA]
     by_cases h:y.Bit<x.Bit
     ·have:¬x.Bit≤y.Bit:=by omega
      simp[h,this]
     ·have:x.Bit≤y.Bit:=by omega
      simp[h,this]) _).trans ?_
    cases kg ltA e.List
    ·rfl
    ·simp only[cond_true]
     refine(al3 pT (some 5) (λp x r Z h=>by
      simp only[ahn h,aM]
      exact gO (pT x) (some 5) (by intros;rfl) _ _ _)).trans ?_
     cases tD pT [] e.List<;>rfl
   ·rfl
  ·rfl
theorem al4{κ:Type}{q:κ→κ→Bool}(hq:∀a b,q a b=true↔a=b)(l:List (κ×α))(n m:κ)(b:α):kL q (qA q l n b) m=bif q m n then some b else kL q l m:=by
 induction l with
 |nil=>simp only[qA,kL,List.find?];cases q m n<;>rfl
 |cons p r ih=>
  simp only[qA]
  cases h1:q n p.1
  ·simp only[cond_false,kL,List.find?]at ih ⊢
   cases h2:q m p.1
   ·simpa using ih
   ·have e:=(hq _ _).1 h2
    have:q m n=false:=by
     cases h3:q m n
     ·rfl
     ·have:=(hq _ _).1 h3;subst this;subst e;rw[(hq _ _).2 rfl]at h1;cases h1
    simp[this]
  ·have e:=(hq _ _).1 h1
   simp only[cond_true,kL,List.find?]at ih ⊢
   subst e
   cases q m p.1<;>simp
theorem al5(a b:bP):eD a b=true↔a=b:=by
 cases a;cases b;simp[eD]
def tgA(a:ay):bP:=bP.mk a.aK a.Kind a.To
variable {a:ay}
theorem xk{b:ay}:pT a b=true↔tgA a=tgA b:=by simp[pT,tgA]
theorem wE(e:aC)(hl:e.List.length≤1000000):gF e=some (l8 e):=by
 unfold gF iu lJ
 simp only[aM]
 unfold l8
 show(bif !kU e.Length then _ else _)=_
 cases kU e.Length
 ·rfl
 simp only[Bool.not_true,cond_false,Bool.false_or]
 refine(gO (rP e.Length) (some 2) (λj x Z s=>by
  unfold rP rtB jn
  cases decide (x.Bit<0)
  ·cases decide (e.Length≤x.Bit)
   ·cases decide (1≤x.aK)&&decide (x.aK≤99)<;>rfl
   ·rfl
  ·rfl) _ _ _).trans ?_
 cases e.List.any (rP e.Length)
 ·simp only[cond_false]
  refine(gO zb (some 1) (by intros;rfl) _ _ _).trans ?_
  cases e.List.any zb
  ·simp only[cond_false]
   refine(gO zd (some 8) (by intros;rfl) _ _ _).trans ?_
   cases e.List.any zd
   ·simp only[cond_false]
    refine(sx ltA (some 25) (λj x y r q s Z hL hj=>by
     simp only[qi hL hj (by omega),aM,ltA]
     by_cases h:y.Bit<x.Bit
     ·have:¬x.Bit≤y.Bit:=by omega
      simp[h,this]
     ·have:x.Bit≤y.Bit:=by omega
      simp[h,this]) _).trans ?_
    cases kg ltA e.List
    ·rfl
    ·simp only[cond_true,oz,aM]
     refine(jQ (L:=e.List) (λp m=>∀t,(kL eD m t).getD false=true↔∃a∈p,tgA a=t) (λp l=>bif tD pT p l then some 5 else some 0) (λs _=>rfl) (λp x r s Z h hi hZ=>?_) e.List [] [] rfl (λt=>by simp[kL])).trans ?_
     ·have hx:=hi (tgA x)
      rw[tD]
      cases hc:(kL eD s (bP.mk x.aK x.Kind x.To)).getD false
      ·have hno:p.any (pT x)=false:=by
        rw[any_false]
        intro a ha
        cases hs:pT x a
        ·rfl
        ·have h1:=hx.2 ⟨a,ha,(xk.1 hs).symm⟩
         exact absurd (hc.symm.trans h1) (by simp)
       rw[hno,cond_false,Bool.false_or]
       refine hZ _ λt=>?_
       rw[al4 al5]
       cases ht:eD t (bP.mk x.aK x.Kind x.To)
       ·rw[cond_false,hi t]
        constructor
        ·rintro⟨a,ha,e⟩;exact⟨a,by simp[ha],e⟩
        ·rintro⟨a,ha,e⟩
         rcases List.mem_append.1 ha with ha|ha
         ·exact⟨a,ha,e⟩
         ·simp at ha;subst ha;exact absurd (ht.symm.trans ((al5 t (tgA a)).2 e.symm)) (by simp)
       ·have:=(al5 _ _).1 ht
        subst this
        simp only[cond_true,Option.getD_some,true_iff]
        exact⟨x,by simp,rfl⟩
      ·obtain⟨a,ha,e⟩:=hx.1 hc
       have:p.any (pT x)=true:=List.any_eq_true.2 ⟨a,ha,xk.2 e.symm⟩
       rw[this];rfl
     ·cases tD pT [] e.List<;>rfl
   ·rfl
  ·rfl
 ·rfl
structure Ve(e:aC):Prop where
 len:e.Length=8∨e.Length=16∨e.Length=32∨e.Length=64
 rng:∀a∈e.List,0≤a.Bit∧a.Bit<e.Length∧(1≤a.aK∧a.aK≤99)∧1≤a.To∧a.To≤99
 kind:∀a∈e.List,1≤a.Kind∧a.Kind≤3
 acq:∀a∈e.List,a.To=a.aK↔a.Kind=3
 asc:e.List.Pairwise λa b=>a.Bit<b.Bit
 dup:e.List.Pairwise λa b=>tgA a≠tgA b
theorem acr{α:Type}{q:α→α→Bool}:∀{l p:List α},tD q p l=false↔(∀a∈p,∀b∈l,q b a=false)∧l.Pairwise λa b=>q b a=false
 |[],p=>by simp[tD]
 |x::r,p=>by
  rw[tD,Bool.or_eq_false_iff,acr,any_false,List.pairwise_cons]
  constructor
  ·rintro⟨h1,h2,h3⟩
   refine⟨λa ha b hb=>?_,λb hb=>h2 x (by simp) b hb,h3⟩
   rcases List.mem_cons.1 hb with rfl|hb
   ·exact h1 a ha
   ·exact h2 a (by simp[ha]) b hb
  ·rintro⟨h1,h2,h3⟩
   refine⟨λa ha=>h1 a ha x (by simp),λa ha b hb=>?_,h3⟩
   rcases List.mem_append.1 ha with ha|ha
   ·exact h1 a ha b (by simp[hb])
   ·simp at ha;subst ha;exact h2 b hb
theorem ajD(a b c:ay)(h1:ltA a b=true)(h2:ltA b c=true):ltA a c=true:=by simp[ltA]at *;omega
theorem agd{n:Int}:rP n a=false↔0≤a.Bit∧a.Bit<n∧(1≤a.aK∧a.aK≤99)∧1≤a.To∧a.To≤99:=by
 simp[rP,rtB]
theorem age:zb a=false↔1≤a.Kind∧a.Kind≤3:=by simp[zb]
theorem agf:zd a=false↔(a.To=a.aK↔a.Kind=3):=by
 unfold zd
 by_cases h1:a.To=a.aK<;>by_cases h2:a.Kind=3<;>simp[h1,h2]
theorem iX{e:aC}:l8 e=0↔Ve e:=by
 unfold l8
 constructor
 ·intro h
  cases h1:kU e.Length with
  |false=>simp[h1]at h
  |true=>
  cases h2:e.List.any (rP e.Length)with
  |true=>simp[h1,h2]at h
  |false=>
  cases h3:e.List.any zb with
  |true=>simp[h1,h2,h3]at h
  |false=>
  cases h4:e.List.any zd with
  |true=>simp[h1,h2,h3,h4]at h
  |false=>
  cases h5:kg ltA e.List with
  |false=>simp[h1,h2,h3,h4,h5]at h
  |true=>
  cases h6:tD pT [] e.List with
  |true=>simp[h1,h2,h3,h4,h5,h6]at h
  |false=>
  rw[any_false]at h2 h3 h4
  refine⟨by simpa [kU]using h1,λa ha=>agd.1 (h2 a ha),λa ha=>age.1 (h3 a ha),λa ha=>agf.1 (h4 a ha),?_,?_⟩
  ·exact(qj ajD h5).imp (λh=>by simpa [ltA]using h)
  ·exact(acr.1 h6).2.imp (λ{a b} h e=>by rw[xk.2 e.symm]at h;cases h)
 ·intro h
  have h1:kU e.Length=true:=by simpa [kU]using h.len
  have h2:e.List.any (rP e.Length)=false:=any_false.2 λa ha=>agd.2 (h.rng a ha)
  have h3:e.List.any zb=false:=any_false.2 λa ha=>age.2 (h.kind a ha)
  have h4:e.List.any zd=false:=any_false.2 λa ha=>agf.2 (h.acq a ha)
  have h5:kg ltA e.List=true:=mS (h.asc.imp λh=>by simpa [ltA]using h)
  have h6:tD pT [] e.List=false:=acr.2 ⟨by simp,h.dup.imp λ{a b} h=>by
   cases hs:pT b a
   ·rfl
   ·exact absurd (xk.1 hs).symm h⟩
  simp[h1,h2,h3,h4,h5,h6]
def wF(r:Int)(a:Int)(x:ay):Int:=if x.aK=r then aS .or .u64 a (uN x.Bit.toNat)else a
def qK(e:aC)(r:Int):Int:=if l8 e=0 then e.List.foldl (wF r) 0 else 0
theorem aeS{σ:Type}{B:Int→α→(σ→Option β)→σ→Option β}{K:σ→Option β}(g:σ→α→σ)(hB:∀j x,x∈L→∀Z s,B j x Z s=Z (g s x))(s:σ):bD L 0 B K s=K (L.foldl g s):=by
 have key:∀(l:List α) (j:Nat) (s:σ),(∀x∈l,x∈L)→bD l j B K s=K (l.foldl g s):=by
  intro l
  induction l with
  |nil=>intro j s _;rfl
  |cons x r ih=>
   intro j s h
   simp only[bD]
   rw[hB _ x (h x (by simp)),ih (j+1) _ (λy hy=>h y (by simp[hy])),List.foldl_cons]
 exact key L 0 s (λ_ h=>h)
theorem Ve.bit{e:aC}(h:Ve e)(ha:a∈e.List):0≤a.Bit∧a.Bit<64:=by
 have:=h.rng a ha;have:=h.len;omega
theorem aho(e:aC)(r:Int)(hl:e.List.length≤1000000):lS e r=some (qK e r):=by
 unfold lS qK
 simp only[wE e hl,aM,jn]
 by_cases h:l8 e=0
 ·have hv:=iX.1 h
  simp only[h,decide_true,cond_true,if_true]
  refine aeS (wF r) (λj x hx Z s=>?_) 0
  obtain⟨b1,b2⟩:=hv.bit hx
  unfold wF
  by_cases hr:x.aK=r
  ·simp only[hr,decide_true,cond_true,if_true,b1,chk,wD b1 b2]
  ·simp[hr]
 ·simp[h]
theorem aeT(e:aC)(r:Int)(hl:e.List.length≤1000000):pE e r=some (qK e r):=by
 unfold pE qK
 simp only[iy e hl,aM,jn]
 by_cases h:l8 e=0
 ·have hv:=iX.1 h
  simp only[h,decide_true,cond_true,if_true]
  refine aeS (wF r) (λj x hx Z s=>?_) 0
  obtain⟨b1,b2⟩:=hv.bit hx
  unfold wF
  by_cases hr:x.aK=r
  ·have e1:IntKind.wrap .u64 x.Bit=x.Bit:=wrap_u64 b1 (by omega)
   simp only[hr,decide_true,cond_true,if_true,e1,b1,chk,wD b1 b2]
  ·simp[hr]
 ·simp[h]
def xm(e:aC)(r k t:Int):Int×Bool:=match e.List.find? (λa=>decide (a.aK=r)&&(decide (a.Kind=k)&&decide (a.To=t)))with|some a=>(a.Bit,true)|none=>(0,false)
def nk(e:aC)(r k t:Int):Int×Bool:=if l8 e=0 then xm e r k t else(0,false)
theorem vi(e:aC)(r k t:Int)(hl:e.List.length≤1000000):mO e r k t=some (nk e r k t):=by
 unfold mO nk xm
 simp only[iy e hl,aM,jn]
 by_cases h:l8 e=0
 ·simp only[h,decide_true,cond_true,if_true]
  refine(aeI (λa:ay=>decide (a.aK=r)&&(decide (a.Kind=k)&&decide (a.To=t))) (λa=>some (a.Bit,true)) (by intros;rfl) _ _ _).trans ?_
  cases e.List.find? (λa=>decide (a.aK=r)&&(decide (a.Kind=k)&&decide (a.To=t)))<;>rfl
 ·simp[h]
end Go.Proofs.YtdjeacigeegklaaGreat
