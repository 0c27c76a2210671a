/- Plain: acJ: the two texts of Validate, Fits, Own, Find, Same. No condition but bU bx stand in each. -/
import Derived.Test.YtdjeacigeegklaaGreatPYA
import Derived.Test.YtdjeacigeegklaaGreatPYB
import Derived.Test.YtdjeacigeegklaaGreatPM
import Derived.Test.YtdjeacigeegklaaGreatDA
namespace Go.Proofs.YtdjeacigeegklaaGreat
set_option linter.all false
open Go
theorem jX{α σ β:Type}{B:Int→α→(σ→Option β)→σ→Option β}{K:σ→Option β}{L:List α}(I:List α→σ→Prop)(f:List α→List α→Option β)(hn:∀s,I L s→K s=f L [])
  (hc:∀p x r s Z,p++x::r=L→I p s→(∀s',I (p++[x]) s'→Z s'=f (p++[x]) r)→B (p.length:Int) x Z s=f p (x::r)):∀(l p:List α) (s:σ),p++l=L→I p s→bF l p.length B K s=f p l
 |[],p,s,h,hi=>by rw[List.append_nil]at h;subst h;exact hn s hi
 |x::r,p,s,h,hi=>hc p x r s _ h hi λs' hs=>by
   have:=jX (B:=B) (K:=K) I f hn hc r (p++[x]) s' (by simpa using h) hs
   rw[List.length_append]at this
   exact this
variable {α:Type}{L:List α}
theorem afq{p r:List α}{x:α}(h:p++x::r=L):oZ L 0 (p.length:Int)=some p:=by
 unfold oZ
 rw[if_pos ⟨by omega,by omega,by rw[←h];simp;omega⟩,←h]
 simp
def kX(n:Int):Bool:=decide (n=8)||(decide (n=16)||(decide (n=32)||decide (n=64)))
def rtB(n:Int):Bool:=decide (1≤n)&&decide (n≤99)
def qO(n:Int)(a:ak):Bool:=decide (a.Bit<0)||(decide (n≤a.Bit)||(!rtB a.aN||!rtB a.To))
def xT(a:ak):Bool:=decide (a.Kind<1)||decide (3<a.Kind)
def xU(a:ak):Bool:=!(decide (a.To=a.aN)==decide (a.Kind=3))
def ltA(a b:ak):Bool:=decide (a.Bit<b.Bit)
def oP(a b:ak):Bool:=decide (a.aN=b.aN)&&(decide (a.Kind=b.Kind)&&decide (a.To=b.To))
def sH{α:Type}(q:α→α→Bool):List α→List α→Bool
 |_,[]=>false
 |p,x::r=>p.any (q x)||sH q (p++[x]) r
def jY(e:aG):Int:=
 bif !kX e.Length||e.List.any (qO e.Length)then 2 else bif e.List.any xT then 1 else bif e.List.any xU then 8 else bif jc ltA e.List then(bif sH oP [] e.List then 5 else 0)else 25
variable {β:Type}
theorem aeu{B:Int→α→(Bool→Option β)→Bool→Option β}{K:Bool→Option β}(p:α→Bool)(hB:∀j x Z s,B j x Z s=Z (s&&!p x))(l:List α)(j:Nat)(s:Bool):bF l j B K s=K (s&&!l.any p):=
 wU (f:=λl s=>K (s&&!l.any p)) (λs=>by simp) (λj x r s Z hZ=>by
  rw[hB,hZ,List.any_cons];cases s<;>cases p x<;>simp) l j s
theorem al3(q:α→α→Bool)(a:Option β){B:Int→α→(Unit→Option β)→Unit→Option β}{K:Unit→Option β}
  (hB:∀p x r Z,p++x::r=L→B (p.length:Int) x Z ()=bif p.any (q x)then a else Z ()):bF L 0 B K ()=bif sH q [] L then a else K ():=
 jX (L:=L) (λ_ _=>True) (λp l=>bif sH q p l then a else K ()) (λs _=>rfl) (λp x r s Z h _ hZ=>by
  rw[hB p x r Z h,hZ () trivial,sH];cases p.any (q x)<;>rfl) L [] () rfl trivial
theorem iY(e:aG)(hl:e.List.length≤1000000):gy e=some (jY e):=by
 unfold gy lJ gU
 simp only[aV]
 refine(aeu (qO e.Length) (λj x Z s=>by
  unfold qO rtB
  cases s
  ·rfl
  by_cases h1:x.Bit<0
  ·have:¬(0≤x.Bit):=by omega
   simp[h1,this]
  have h1':0≤x.Bit:=by omega
  by_cases h2:e.Length≤x.Bit
  ·have:¬(x.Bit<e.Length):=by omega
   simp[h1',h2,this]
  have h2':x.Bit<e.Length:=by omega
  simp only[h1',h2',decide_true,cond_true,h1,h2,decide_false,Bool.false_or,Bool.true_and]
  cases decide (1≤x.aN)&&decide (x.aN≤99)<;>simp) _ _ _).trans ?_
 unfold jY kX
 have hgo:∀{b:Bool} {x y z:Option Int},b=true→(bif b then x else y)=x:=λh=>by subst h;rfl
 cases hb:(decide (e.Length=8)||(decide (e.Length=16)||(decide (e.Length=32)||decide (e.Length=64))))&&!e.List.any (qO e.Length)
 ·have:(!(decide (e.Length=8)||(decide (e.Length=16)||(decide (e.Length=32)||decide (e.Length=64))))||e.List.any (qO e.Length))=true:=by
   revert hb;cases(decide (e.Length=8)||(decide (e.Length=16)||(decide (e.Length=32)||decide (e.Length=64))))<;>cases e.List.any (qO e.Length)<;>simp
  rw[this];rfl
 ·have:(!(decide (e.Length=8)||(decide (e.Length=16)||(decide (e.Length=32)||decide (e.Length=64))))||e.List.any (qO e.Length))=false:=by
   revert hb;cases(decide (e.Length=8)||(decide (e.Length=16)||(decide (e.Length=32)||decide (e.Length=64))))<;>cases e.List.any (qO e.Length)<;>simp
  rw[this]
  simp only[Bool.not_true,cond_false]
  refine(gP xT (some 1) (by intros;rfl) _ _ _).trans ?_
  cases e.List.any xT
  ·simp only[cond_false]
   refine(gP xU (some 8) (by intros;rfl) _ _ _).trans ?_
   cases e.List.any xU
   ·simp only[cond_false]
    refine(nS ltA (some 25) (λj x y r q s Z hL hj=>by
     simp only[mX hL hj (by omega),aV,ltA]
     by_cases h:y.Bit<x.Bit
     ·have:¬x.Bit≤y.Bit:=by omega
      simp[h,this]
     ·have:x.Bit≤y.Bit:=by omega
      simp[h,this]) _).trans ?_
    cases jc ltA e.List
    ·rfl
    ·simp only[cond_true]
     refine(al3 oP (some 5) (λp x r Z h=>by
      simp only[afq h,aV]
      exact gP (oP x) (some 5) (by intros;rfl) _ _ _)).trans ?_
     cases sH oP [] e.List<;>rfl
   ·rfl
  ·rfl
theorem al4{κ:Type}{q:κ→κ→Bool}(hq:∀a b,q a b=true↔a=b)(l:List (κ×α))(n m:κ)(b:α):jK q (pW q l n b) m=bif q m n then some b else jK q l m:=by
 induction l with
 |nil=>simp only[pW,jK,List.find?];cases q m n<;>rfl
 |cons p r ih=>
  simp only[pW]
  cases h1:q n p.1
  ·simp only[cond_false,jK,List.find?]at ih ⊢
   cases h2:q m p.1
   ·simpa using ih
   ·have e:=(hq _ _).1 h2
    have:q m n=false:=by
     cases h3:q m n
     ·rfl
     ·have:=(hq _ _).1 h3;subst this;subst e;rw[(hq _ _).2 rfl]at h1;cases h1
    simp[this]
  ·have e:=(hq _ _).1 h1
   simp only[cond_true,jK,List.find?]at ih ⊢
   subst e
   cases q m p.1<;>simp
theorem al5(a b:aS):cO a b=true↔a=b:=by
 cases a;cases b;simp[cO]
def tgA(a:ak):aS:=aS.mk a.aN a.Kind a.To
variable {a:ak}
theorem vN{b:ak}:oP a b=true↔tgA a=tgA b:=by simp[oP,tgA]
theorem lY(e:aG)(hl:e.List.length≤1000000):fL e=some (jY e):=by
 unfold fL gV fK
 simp only[aV]
 unfold jY
 show(bif !kX e.Length then _ else _)=_
 cases kX e.Length
 ·rfl
 simp only[Bool.not_true,cond_false,Bool.false_or]
 refine(gP (qO e.Length) (some 2) (λj x Z s=>by
  unfold qO rtB jn
  cases decide (x.Bit<0)
  ·cases decide (e.Length≤x.Bit)
   ·cases decide (1≤x.aN)&&decide (x.aN≤99)<;>rfl
   ·rfl
  ·rfl) _ _ _).trans ?_
 cases e.List.any (qO e.Length)
 ·simp only[cond_false]
  refine(gP xT (some 1) (by intros;rfl) _ _ _).trans ?_
  cases e.List.any xT
  ·simp only[cond_false]
   refine(gP xU (some 8) (by intros;rfl) _ _ _).trans ?_
   cases e.List.any xU
   ·simp only[cond_false]
    refine(nS ltA (some 25) (λj x y r q s Z hL hj=>by
     simp only[mX hL hj (by omega),aV,ltA]
     by_cases h:y.Bit<x.Bit
     ·have:¬x.Bit≤y.Bit:=by omega
      simp[h,this]
     ·have:x.Bit≤y.Bit:=by omega
      simp[h,this]) _).trans ?_
    cases jc ltA e.List
    ·rfl
    ·simp only[cond_true,jQ,aV]
     refine(jX (L:=e.List) (λp m=>∀t,(jK cO m t).getD false=true↔∃a∈p,tgA a=t) (λp l=>bif sH oP p l then some 5 else some 0) (λs _=>rfl) (λp x r s Z h hi hZ=>?_) e.List [] [] rfl (λt=>by simp[jK])).trans ?_
     ·have hx:=hi (tgA x)
      rw[sH]
      cases hc:(jK cO s (aS.mk x.aN x.Kind x.To)).getD false
      ·have hno:p.any (oP x)=false:=by
        rw[any_false]
        intro a ha
        cases hs:oP x a
        ·rfl
        ·have h1:=hx.2 ⟨a,ha,(vN.1 hs).symm⟩
         exact absurd (hc.symm.trans h1) (by simp)
       rw[hno,cond_false,Bool.false_or]
       refine hZ _ λt=>?_
       rw[al4 al5]
       cases ht:cO t (aS.mk x.aN x.Kind x.To)
       ·rw[cond_false,hi t]
        constructor
        ·rintro⟨a,ha,e⟩;exact⟨a,by simp[ha],e⟩
        ·rintro⟨a,ha,e⟩
         rcases List.mem_append.1 ha with ha|ha
         ·exact⟨a,ha,e⟩
         ·simp at ha;subst ha;exact absurd (ht.symm.trans ((al5 t (tgA a)).2 e.symm)) (by simp)
       ·have:=(al5 _ _).1 ht
        subst this
        simp only[cond_true,Option.getD_some,true_iff]
        exact⟨x,by simp,rfl⟩
      ·obtain⟨a,ha,e⟩:=hx.1 hc
       have:p.any (oP x)=true:=List.any_eq_true.2 ⟨a,ha,vN.2 e.symm⟩
       rw[this];rfl
     ·cases sH oP [] e.List<;>rfl
   ·rfl
  ·rfl
 ·rfl
structure Ve(e:aG):Prop where
 len:e.Length=8∨e.Length=16∨e.Length=32∨e.Length=64
 rng:∀a∈e.List,0≤a.Bit∧a.Bit<e.Length∧(1≤a.aN∧a.aN≤99)∧1≤a.To∧a.To≤99
 kind:∀a∈e.List,1≤a.Kind∧a.Kind≤3
 awh:∀a∈e.List,a.To=a.aN↔a.Kind=3
 asc:e.List.Pairwise λa b=>a.Bit<b.Bit
 dup:e.List.Pairwise λa b=>tgA a≠tgA b
theorem abc{α:Type}{q:α→α→Bool}:∀{l p:List α},sH q p l=false↔(∀a∈p,∀b∈l,q b a=false)∧l.Pairwise λa b=>q b a=false
 |[],p=>by simp[sH]
 |x::r,p=>by
  rw[sH,Bool.or_eq_false_iff,abc,any_false,List.pairwise_cons]
  constructor
  ·rintro⟨h1,h2,h3⟩
   refine⟨λa ha b hb=>?_,λb hb=>h2 x (by simp) b hb,h3⟩
   rcases List.mem_cons.1 hb with rfl|hb
   ·exact h1 a ha
   ·exact h2 a (by simp[ha]) b hb
  ·rintro⟨h1,h2,h3⟩
   refine⟨λa ha=>h1 a ha x (by simp),λa ha b hb=>?_,h3⟩
   rcases List.mem_append.1 ha with ha|ha
   ·exact h1 a ha b (by simp[hb])
   ·simp at ha;subst ha;exact h2 b hb
theorem ahW(a b c:ak)(h1:ltA a b=true)(h2:ltA b c=true):ltA a c=true:=by simp[ltA]at *;omega
theorem aev{n:Int}:qO n a=false↔0≤a.Bit∧a.Bit<n∧(1≤a.aN∧a.aN≤99)∧1≤a.To∧a.To≤99:=by
 simp[qO,rtB]
theorem aew:xT a=false↔1≤a.Kind∧a.Kind≤3:=by simp[xT]
theorem aex:xU a=false↔(a.To=a.aN↔a.Kind=3):=by
 unfold xU
 by_cases h1:a.To=a.aN<;>by_cases h2:a.Kind=3<;>simp[h1,h2]
theorem mK{e:aG}:jY e=0↔Ve e:=by
 unfold jY
 constructor
 ·intro h
  cases h1:kX e.Length with
  |false=>simp[h1]at h
  |true=>
  cases h2:e.List.any (qO e.Length)with
  |true=>simp[h1,h2]at h
  |false=>
  cases h3:e.List.any xT with
  |true=>simp[h1,h2,h3]at h
  |false=>
  cases h4:e.List.any xU with
  |true=>simp[h1,h2,h3,h4]at h
  |false=>
  cases h5:jc ltA e.List with
  |false=>simp[h1,h2,h3,h4,h5]at h
  |true=>
  cases h6:sH oP [] e.List with
  |true=>simp[h1,h2,h3,h4,h5,h6]at h
  |false=>
  rw[any_false]at h2 h3 h4
  refine⟨by simpa [kX]using h1,λa ha=>aev.1 (h2 a ha),λa ha=>aew.1 (h3 a ha),λa ha=>aex.1 (h4 a ha),?_,?_⟩
  ·exact(pF ahW h5).imp (λh=>by simpa [ltA]using h)
  ·exact(abc.1 h6).2.imp (λ{a b} h e=>by rw[vN.2 e.symm]at h;cases h)
 ·intro h
  have h1:kX e.Length=true:=by simpa [kX]using h.len
  have h2:e.List.any (qO e.Length)=false:=any_false.2 λa ha=>aev.2 (h.rng a ha)
  have h3:e.List.any xT=false:=any_false.2 λa ha=>aew.2 (h.kind a ha)
  have h4:e.List.any xU=false:=any_false.2 λa ha=>aex.2 (h.awh a ha)
  have h5:jc ltA e.List=true:=nO (h.asc.imp λh=>by simpa [ltA]using h)
  have h6:sH oP [] e.List=false:=abc.2 ⟨by simp,h.dup.imp λ{a b} h=>by
   cases hs:oP b a
   ·rfl
   ·exact absurd (vN.1 hs).symm h⟩
  simp[h1,h2,h3,h4,h5,h6]
def aey(r:Int)(a:Int)(x:ak):Int:=if x.aN=r then bB .or .u64 a (tP x.Bit.toNat)else a
def tT(e:aG)(r:Int):Int:=if jY e=0 then e.List.foldl (aey r) 0 else 0
theorem adq{σ:Type}{B:Int→α→(σ→Option β)→σ→Option β}{K:σ→Option β}(g:σ→α→σ)(hB:∀j x,x∈L→∀Z s,B j x Z s=Z (g s x))(s:σ):bF L 0 B K s=K (L.foldl g s):=by
 have key:∀(l:List α) (j:Nat) (s:σ),(∀x∈l,x∈L)→bF l j B K s=K (l.foldl g s):=by
  intro l
  induction l with
  |nil=>intro j s _;rfl
  |cons x r ih=>
   intro j s h
   simp only[bF]
   rw[hB _ x (h x (by simp)),ih (j+1) _ (λy hy=>h y (by simp[hy])),List.foldl_cons]
 exact key L 0 s (λ_ h=>h)
theorem Ve.bit{e:aG}(h:Ve e)(ha:a∈e.List):0≤a.Bit∧a.Bit<64:=by
 have:=h.rng a ha;have:=h.len;omega
theorem arS(e:aG)(r:Int)(hl:e.List.length≤1000000):mE e r=some (tT e r):=by
 unfold mE tT
 simp only[lY e hl,aV,jn]
 by_cases h:jY e=0
 ·have hv:=mK.1 h
  simp only[h,decide_true,cond_true,if_true]
  refine adq (aey r) (λj x hx Z s=>?_) 0
  obtain⟨b1,b2⟩:=hv.bit hx
  unfold aey
  by_cases hr:x.aN=r
  ·simp only[hr,decide_true,cond_true,if_true,b1,chk,tQ b1 b2]
  ·simp[hr]
 ·simp[h]
theorem ahX(e:aG)(r:Int)(hl:e.List.length≤1000000):qj e r=some (tT e r):=by
 unfold qj tT
 simp only[iY e hl,aV,jn]
 by_cases h:jY e=0
 ·have hv:=mK.1 h
  simp only[h,decide_true,cond_true,if_true]
  refine adq (aey r) (λj x hx Z s=>?_) 0
  obtain⟨b1,b2⟩:=hv.bit hx
  unfold aey
  by_cases hr:x.aN=r
  ·have e1:IntKind.wrap .u64 x.Bit=x.Bit:=wrap_u64 b1 (by omega)
   simp only[hr,decide_true,cond_true,if_true,e1,b1,chk,tQ b1 b2]
  ·simp[hr]
 ·simp[h]
def vO(e:aG)(r k t:Int):Int×Bool:=match e.List.find? (λa=>decide (a.aN=r)&&(decide (a.Kind=k)&&decide (a.To=t)))with|some a=>(a.Bit,true)|none=>(0,false)
def uy(e:aG)(r k t:Int):Int×Bool:=if jY e=0 then vO e r k t else(0,false)
theorem uj(e:aG)(r k t:Int)(hl:e.List.length≤1000000):lS e r k t=some (uy e r k t):=by
 unfold lS uy vO
 simp only[iY e hl,aV,jn]
 by_cases h:jY e=0
 ·simp only[h,decide_true,cond_true,if_true]
  refine(adh (λa:ak=>decide (a.aN=r)&&(decide (a.Kind=k)&&decide (a.To=t))) (λa=>some (a.Bit,true)) (by intros;rfl) _ _ _).trans ?_
  cases e.List.find? (λa=>decide (a.aN=r)&&(decide (a.Kind=k)&&decide (a.To=t)))<;>rfl
 ·simp[h]
theorem al6{B:Int→α→(Unit→Option Int)→Unit→Option Int}{K:Unit→Option Int}(p:α→Bool)(hB:∀j x Z s,B j x Z s=bif p x then some j else Z s)(hK:∀s,K s=some (-1))(g:α→β)(z:β):
  ∃r,bF L 0 B K ()=some r∧(bif decide (r<0)then some z else bnd (elO L r) λx=>some (g x))=some (match L.find? p with|some x=>g x|none=>z):=by
 have key:∀(l q:List α),q++l=L→∃r,bF l q.length B K ()=some r∧(bif decide (r<0)then some z else bnd (elO L r) λx=>some (g x))=some (match l.find? p with|some x=>g x|none=>z):=by
  intro l
  induction l with
  |nil=>intro q h;exact⟨-1,hK (),rfl⟩
  |cons x r ih=>
   intro q h
   simp only[bF]
   rw[hB,List.find?]
   cases hp:p x
   ·obtain⟨v,h1,h2⟩:=ih (q++[x]) (by simpa using h)
    simp only[List.length_append,List.length_singleton]at h1
    exact⟨v,h1,h2⟩
   ·refine⟨(q.length:Int),rfl,?_⟩
    have:¬((q.length:Int)<0):=by omega
    rw[decide_eq_false this,cond_false,←h,y8];rfl
 exact key L [] rfl
theorem ahY(e:aG)(t:aS):lT e t=some (vO e t.bY t.qs t.to_):=by
 unfold lT eo vO
 simp only[mF,jQ,aV]
 obtain⟨v,h1,h2⟩:=al6 (L:=e.List) (B:=λ(j1:Int) (e1:ak) (Z1:Unit→Option Int) (sg:Unit)=>bif cO {bY:=e1.aN,qs:=e1.Kind,to_:=e1.To} t then some j1 else Z1 ()) (K:=λ_=>some (-1)) (λa:ak=>decide (a.aN=t.bY)&&(decide (a.Kind=t.qs)&&decide (a.To=t.to_))) (λj x Z s=>by
  unfold cO;simp) (λs=>rfl) (λa:ak=>(a.Bit,true)) ((0:Int),false)
 rw[show bF e.List 0 _ _ ()=some v from h1,aV]
 refine Eq.trans h2 ?_
 cases List.find? (λa:ak=>decide (a.aN=t.bY)&&(decide (a.Kind=t.qs)&&decide (a.To=t.to_))) e.List<;>rfl
end Go.Proofs.YtdjeacigeegklaaGreat
