/- Plain: ady: the two texts of Validate, Fits, Own, Find, Same. No condition but bO bx stand in each. -/
import Derived.Test.YtdjeacigeegklaaGreatPYA
import Derived.Test.YtdjeacigeegklaaGreatPYB
namespace Go.Proofs.YtdjeacigeegklaaGreat
set_option linter.all false
open Go
theorem jM{α σ β:Type}{B:Int→α→(σ→Option β)→σ→Option β}{K:σ→Option β}{L:List α}(I:List α→σ→Prop)(f:List α→List α→Option β)(hn:∀s,I L s→K s=f L [])
  (hc:∀p x r s Z,p++x::r=L→I p s→(∀s',I (p++[x]) s'→Z s'=f (p++[x]) r)→B (p.length:Int) x Z s=f p (x::r)):∀(l p:List α) (s:σ),p++l=L→I p s→bJ l p.length B K s=f p l
 |[],p,s,h,hi=>by rw[List.append_nil]at h;subst h;exact hn s hi
 |x::r,p,s,h,hi=>hc p x r s _ h hi λs' hs=>by
   have:=jM (B:=B) (K:=K) I f hn hc r (p++[x]) s' (by simpa using h) hs
   rw[List.length_append]at this
   exact this
variable {α:Type}{L:List α}
theorem apP{p r:List α}{x:α}(h:p++x::r=L):nP L 0 (p.length:Int)=some p:=by
 unfold nP
 rw[if_pos ⟨by omega,by omega,by rw[←h];simp;omega⟩,←h]
 simp
def lX(n:Int):Bool:=decide (n=8)||(decide (n=16)||(decide (n=32)||decide (n=64)))
def rtB(n:Int):Bool:=decide (1≤n)&&decide (n≤99)
def rQ(n:Int)(a:az):Bool:=decide (a.Bit<0)||(decide (n≤a.Bit)||(!rtB a.br||!rtB a.To))
def zb(a:az):Bool:=decide (a.Kind<1)||decide (3<a.Kind)
def zd(a:az):Bool:=!(decide (a.To=a.br)==decide (a.Kind=3))
def ltA(a b:az):Bool:=decide (a.Bit<b.Bit)
def pT(a b:az):Bool:=decide (a.br=b.br)&&(decide (a.Kind=b.Kind)&&decide (a.To=b.To))
def tr{α:Type}(q:α→α→Bool):List α→List α→Bool
 |_,[]=>false
 |p,x::r=>p.any (q x)||tr q (p++[x]) r
def rR(e:aF):Int:=
 bif !lX e.Length||e.List.any (rQ e.Length)then 2 else bif e.List.any zb then 1 else bif e.List.any zd then 8 else bif o6 ltA e.List then(bif tr pT [] e.List then 5 else 0)else 25
variable {β:Type}
theorem alb{B:Int→α→(Bool→Option β)→Bool→Option β}{K:Bool→Option β}(p:α→Bool)(hB:∀j x Z s,B j x Z s=Z (s&&!p x))(l:List α)(j:Nat)(s:Bool):bJ l j B K s=K (s&&!l.any p):=
 yg (f:=λl s=>K (s&&!l.any p)) (λs=>by simp) (λj x r s Z hZ=>by
  rw[hB,hZ,List.any_cons];cases s<;>cases p x<;>simp) l j s
theorem alc(q:α→α→Bool)(a:Option β){B:Int→α→(Unit→Option β)→Unit→Option β}{K:Unit→Option β}
  (hB:∀p x r Z,p++x::r=L→B (p.length:Int) x Z ()=bif p.any (q x)then a else Z ()):bJ L 0 B K ()=bif tr q [] L then a else K ():=
 jM (L:=L) (λ_ _=>True) (λp l=>bif tr q p l then a else K ()) (λs _=>rfl) (λp x r s Z h _ hZ=>by
  rw[hB p x r Z h,hZ () trivial,tr];cases p.any (q x)<;>rfl) L [] () rfl trivial
theorem uf(e:aF)(hl:e.List.length≤1000000):gy e=some (rR e):=by
 unfold gy mC jf
 simp only[aN]
 refine(alb (rQ e.Length) (λj x Z s=>by
  unfold rQ rtB
  cases s
  ·rfl
  by_cases h1:x.Bit<0
  ·have:¬(0≤x.Bit):=by omega
   simp[h1,this]
  have h1':0≤x.Bit:=by omega
  by_cases h2:e.Length≤x.Bit
  ·have:¬(x.Bit<e.Length):=by omega
   simp[h1',h2,this]
  have h2':x.Bit<e.Length:=by omega
  simp only[h1',h2',decide_true,cond_true,h1,h2,decide_false,Bool.false_or,Bool.true_and]
  cases decide (1≤x.br)&&decide (x.br≤99)<;>simp) _ _ _).trans ?_
 unfold rR lX
 have hgo:∀{b:Bool} {x y z:Option Int},b=true→(bif b then x else y)=x:=λh=>by subst h;rfl
 cases hb:(decide (e.Length=8)||(decide (e.Length=16)||(decide (e.Length=32)||decide (e.Length=64))))&&!e.List.any (rQ e.Length)
 ·have:(!(decide (e.Length=8)||(decide (e.Length=16)||(decide (e.Length=32)||decide (e.Length=64))))||e.List.any (rQ e.Length))=true:=by
   revert hb;cases(decide (e.Length=8)||(decide (e.Length=16)||(decide (e.Length=32)||decide (e.Length=64))))<;>cases e.List.any (rQ e.Length)<;>simp
  rw[this];rfl
 ·have:(!(decide (e.Length=8)||(decide (e.Length=16)||(decide (e.Length=32)||decide (e.Length=64))))||e.List.any (rQ e.Length))=false:=by
   revert hb;cases(decide (e.Length=8)||(decide (e.Length=16)||(decide (e.Length=32)||decide (e.Length=64))))<;>cases e.List.any (rQ e.Length)<;>simp
  rw[this]
  simp only[Bool.not_true,cond_false]
  refine(iU zb (some 1) (by intros;rfl) _ _ _).trans ?_
  cases e.List.any zb
  ·simp only[cond_false]
   refine(iU zd (some 8) (by intros;rfl) _ _ _).trans ?_
   cases e.List.any zd
   ·simp only[cond_false]
    refine(xu ltA (some 25) (λj x y r q s Z hL hj=>by
     simp only[tX hL hj (by omega),aN,ltA]
     by_cases h:y.Bit<x.Bit
     ·have:¬x.Bit≤y.Bit:=by omega
      simp[h,this]
     ·have:x.Bit≤y.Bit:=by omega
      simp[h,this]) _).trans ?_
    cases o6 ltA e.List
    ·rfl
    ·simp only[cond_true]
     refine(alc pT (some 5) (λp x r Z h=>by
      simp only[apP h,aN]
      exact iU (pT x) (some 5) (by intros;rfl) _ _ _)).trans ?_
     cases tr pT [] e.List<;>rfl
   ·rfl
  ·rfl
theorem ald{κ:Type}{q:κ→κ→Bool}(hq:∀a b,q a b=true↔a=b)(l:List (κ×α))(n m:κ)(b:α):kr q (qJ q l n b) m=bif q m n then some b else kr q l m:=by
 induction l with
 |nil=>simp only[qJ,kr,List.find?];cases q m n<;>rfl
 |cons p r ih=>
  simp only[qJ]
  cases h1:q n p.1
  ·simp only[cond_false,kr,List.find?]at ih ⊢
   cases h2:q m p.1
   ·simpa using ih
   ·have e:=(hq _ _).1 h2
    have:q m n=false:=by
     cases h3:q m n
     ·rfl
     ·have:=(hq _ _).1 h3;subst this;subst e;rw[(hq _ _).2 rfl]at h1;cases h1
    simp[this]
  ·have e:=(hq _ _).1 h1
   simp only[cond_true,kr,List.find?]at ih ⊢
   subst e
   cases q m p.1<;>simp
theorem ale(a b:cO):eC a b=true↔a=b:=by
 cases a;cases b;simp[eC]
def tgA(a:az):cO:=cO.mk a.br a.Kind a.To
variable {a:az}
theorem xz{b:az}:pT a b=true↔tgA a=tgA b:=by simp[pT,tgA]
theorem wO(e:aF)(hl:e.List.length≤1000000):gz e=some (rR e):=by
 unfold gz ig lD
 simp only[aN]
 unfold rR
 show(bif !lX e.Length then _ else _)=_
 cases lX e.Length
 ·rfl
 simp only[Bool.not_true,cond_false,Bool.false_or]
 refine(iU (rQ e.Length) (some 2) (λj x Z s=>by
  unfold rQ rtB jn
  cases decide (x.Bit<0)
  ·cases decide (e.Length≤x.Bit)
   ·cases decide (1≤x.br)&&decide (x.br≤99)<;>rfl
   ·rfl
  ·rfl) _ _ _).trans ?_
 cases e.List.any (rQ e.Length)
 ·simp only[cond_false]
  refine(iU zb (some 1) (by intros;rfl) _ _ _).trans ?_
  cases e.List.any zb
  ·simp only[cond_false]
   refine(iU zd (some 8) (by intros;rfl) _ _ _).trans ?_
   cases e.List.any zd
   ·simp only[cond_false]
    refine(xu ltA (some 25) (λj x y r q s Z hL hj=>by
     simp only[tX hL hj (by omega),aN,ltA]
     by_cases h:y.Bit<x.Bit
     ·have:¬x.Bit≤y.Bit:=by omega
      simp[h,this]
     ·have:x.Bit≤y.Bit:=by omega
      simp[h,this]) _).trans ?_
    cases o6 ltA e.List
    ·rfl
    ·simp only[cond_true,oJ,aN]
     refine(jM (L:=e.List) (λp m=>∀t,(kr eC m t).getD false=true↔∃a∈p,tgA a=t) (λp l=>bif tr pT p l then some 5 else some 0) (λs _=>rfl) (λp x r s Z h hi hZ=>?_) e.List [] [] rfl (λt=>by simp[kr])).trans ?_
     ·have hx:=hi (tgA x)
      rw[tr]
      cases hc:(kr eC s (cO.mk x.br x.Kind x.To)).getD false
      ·have hno:p.any (pT x)=false:=by
        rw[any_false]
        intro a ha
        cases hs:pT x a
        ·rfl
        ·have h1:=hx.2 ⟨a,ha,(xz.1 hs).symm⟩
         exact absurd (hc.symm.trans h1) (by simp)
       rw[hno,cond_false,Bool.false_or]
       refine hZ _ λt=>?_
       rw[ald ale]
       cases ht:eC t (cO.mk x.br x.Kind x.To)
       ·rw[cond_false,hi t]
        constructor
        ·rintro⟨a,ha,e⟩;exact⟨a,by simp[ha],e⟩
        ·rintro⟨a,ha,e⟩
         rcases List.mem_append.1 ha with ha|ha
         ·exact⟨a,ha,e⟩
         ·simp at ha;subst ha;exact absurd (ht.symm.trans ((ale t (tgA a)).2 e.symm)) (by simp)
       ·have:=(ale _ _).1 ht
        subst this
        simp only[cond_true,Option.getD_some,true_iff]
        exact⟨x,by simp,rfl⟩
      ·obtain⟨a,ha,e⟩:=hx.1 hc
       have:p.any (pT x)=true:=List.any_eq_true.2 ⟨a,ha,xz.2 e.symm⟩
       rw[this];rfl
     ·cases tr pT [] e.List<;>rfl
   ·rfl
  ·rfl
 ·rfl
structure Ve(e:aF):Prop where
 len:e.Length=8∨e.Length=16∨e.Length=32∨e.Length=64
 rng:∀a∈e.List,0≤a.Bit∧a.Bit<e.Length∧(1≤a.br∧a.br≤99)∧1≤a.To∧a.To≤99
 kind:∀a∈e.List,1≤a.Kind∧a.Kind≤3
 ahO:∀a∈e.List,a.To=a.br↔a.Kind=3
 asc:e.List.Pairwise λa b=>a.Bit<b.Bit
 dup:e.List.Pairwise λa b=>tgA a≠tgA b
theorem abR{α:Type}{q:α→α→Bool}:∀{l p:List α},tr q p l=false↔(∀a∈p,∀b∈l,q b a=false)∧l.Pairwise λa b=>q b a=false
 |[],p=>by simp[tr]
 |x::r,p=>by
  rw[tr,Bool.or_eq_false_iff,abR,any_false,List.pairwise_cons]
  constructor
  ·rintro⟨h1,h2,h3⟩
   refine⟨λa ha b hb=>?_,λb hb=>h2 x (by simp) b hb,h3⟩
   rcases List.mem_cons.1 hb with rfl|hb
   ·exact h1 a ha
   ·exact h2 a (by simp[ha]) b hb
  ·rintro⟨h1,h2,h3⟩
   refine⟨λa ha=>h1 a ha x (by simp),λa ha b hb=>?_,h3⟩
   rcases List.mem_append.1 ha with ha|ha
   ·exact h1 a ha b (by simp[hb])
   ·simp at ha;subst ha;exact h2 b hb
theorem aiT(a b c:az)(h1:ltA a b=true)(h2:ltA b c=true):ltA a c=true:=by simp[ltA]at *;omega
theorem afB{n:Int}:rQ n a=false↔0≤a.Bit∧a.Bit<n∧(1≤a.br∧a.br≤99)∧1≤a.To∧a.To≤99:=by
 simp[rQ,rtB]
theorem afC:zb a=false↔1≤a.Kind∧a.Kind≤3:=by simp[zb]
theorem afD:zd a=false↔(a.To=a.br↔a.Kind=3):=by
 unfold zd
 by_cases h1:a.To=a.br<;>by_cases h2:a.Kind=3<;>simp[h1,h2]
theorem tu{e:aF}:rR e=0↔Ve e:=by
 unfold rR
 constructor
 ·intro h
  cases h1:lX e.Length with
  |false=>simp[h1]at h
  |true=>
  cases h2:e.List.any (rQ e.Length)with
  |true=>simp[h1,h2]at h
  |false=>
  cases h3:e.List.any zb with
  |true=>simp[h1,h2,h3]at h
  |false=>
  cases h4:e.List.any zd with
  |true=>simp[h1,h2,h3,h4]at h
  |false=>
  cases h5:o6 ltA e.List with
  |false=>simp[h1,h2,h3,h4,h5]at h
  |true=>
  cases h6:tr pT [] e.List with
  |true=>simp[h1,h2,h3,h4,h5,h6]at h
  |false=>
  rw[any_false]at h2 h3 h4
  refine⟨by simpa [lX]using h1,λa ha=>afB.1 (h2 a ha),λa ha=>afC.1 (h3 a ha),λa ha=>afD.1 (h4 a ha),?_,?_⟩
  ·exact(tj aiT h5).imp (λh=>by simpa [ltA]using h)
  ·exact(abR.1 h6).2.imp (λ{a b} h e=>by rw[xz.2 e.symm]at h;cases h)
 ·intro h
  have h1:lX e.Length=true:=by simpa [lX]using h.len
  have h2:e.List.any (rQ e.Length)=false:=any_false.2 λa ha=>afB.2 (h.rng a ha)
  have h3:e.List.any zb=false:=any_false.2 λa ha=>afC.2 (h.kind a ha)
  have h4:e.List.any zd=false:=any_false.2 λa ha=>afD.2 (h.ahO a ha)
  have h5:o6 ltA e.List=true:=qo (h.asc.imp λh=>by simpa [ltA]using h)
  have h6:tr pT [] e.List=false:=abR.2 ⟨by simp,h.dup.imp λ{a b} h=>by
   cases hs:pT b a
   ·rfl
   ·exact absurd (xz.1 hs).symm h⟩
  simp[h1,h2,h3,h4,h5,h6]
def afE(r:Int)(a:Int)(x:az):Int:=if x.br=r then aU .or .u64 a (wN x.Bit.toNat)else a
def uQ(e:aF)(r:Int):Int:=if rR e=0 then e.List.foldl (afE r) 0 else 0
theorem aee{σ:Type}{B:Int→α→(σ→Option β)→σ→Option β}{K:σ→Option β}(g:σ→α→σ)(hB:∀j x,x∈L→∀Z s,B j x Z s=Z (g s x))(s:σ):bJ L 0 B K s=K (L.foldl g s):=by
 have key:∀(l:List α) (j:Nat) (s:σ),(∀x∈l,x∈L)→bJ l j B K s=K (l.foldl g s):=by
  intro l
  induction l with
  |nil=>intro j s _;rfl
  |cons x r ih=>
   intro j s h
   simp only[bJ]
   rw[hB _ x (h x (by simp)),ih (j+1) _ (λy hy=>h y (by simp[hy])),List.foldl_cons]
 exact key L 0 s (λ_ h=>h)
theorem Ve.bit{e:aF}(h:Ve e)(ha:a∈e.List):0≤a.Bit∧a.Bit<64:=by
 have:=h.rng a ha;have:=h.len;omega
theorem agG(e:aF)(r:Int)(hl:e.List.length≤1000000):lJ e r=some (uQ e r):=by
 unfold lJ uQ
 simp only[wO e hl,aN,jn]
 by_cases h:rR e=0
 ·have hv:=tu.1 h
  simp only[h,decide_true,cond_true,if_true]
  refine aee (afE r) (λj x hx Z s=>?_) 0
  obtain⟨b1,b2⟩:=hv.bit hx
  unfold afE
  by_cases hr:x.br=r
  ·simp only[hr,decide_true,cond_true,if_true,b1,chk,za b1 b2]
  ·simp[hr]
 ·simp[h]
theorem aef(e:aF)(r:Int)(hl:e.List.length≤1000000):pF e r=some (uQ e r):=by
 unfold pF uQ
 simp only[uf e hl,aN,jn]
 by_cases h:rR e=0
 ·have hv:=tu.1 h
  simp only[h,decide_true,cond_true,if_true]
  refine aee (afE r) (λj x hx Z s=>?_) 0
  obtain⟨b1,b2⟩:=hv.bit hx
  unfold afE
  by_cases hr:x.br=r
  ·have e1:IntKind.wrap .u64 x.Bit=x.Bit:=wrap_u64 b1 (by omega)
   simp only[hr,decide_true,cond_true,if_true,e1,b1,chk,za b1 b2]
  ·simp[hr]
 ·simp[h]
end Go.Proofs.YtdjeacigeegklaaGreat
