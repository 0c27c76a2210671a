/- Plain: aaV: the two texts of Validate, Fits, Own, Find, Same. No condition but bB aX stand in each. -/
import Derived.Test.YtdjeacigeegklaaGreatPYA
import Derived.Test.YtdjeacigeegklaaGreatPYB
import Derived.Test.YtdjeacigeegklaaGreatPM
import Derived.Test.YtdjeacigeegklaaGreatDA
namespace Go.Proofs.YtdjeacigeegklaaGreat
set_option linter.all false
open Go
theorem kg{α σ β:Type}{B:Int→α→(σ→Option β)→σ→Option β}{K:σ→Option β}{L:List α}(I:List α→σ→Prop)(f:List α→List α→Option β)(hn:∀s,I L s→K s=f L [])
  (hc:∀p x r s Z,p++x::r=L→I p s→(∀s',I (p++[x]) s'→Z s'=f (p++[x]) r)→B (p.length:Int) x Z s=f p (x::r)):∀(l p:List α) (s:σ),p++l=L→I p s→bJ l p.length B K s=f p l
 |[],p,s,h,hi=>by rw[List.append_nil]at h;subst h;exact hn s hi
 |x::r,p,s,h,hi=>hc p x r s _ h hi λs' hs=>by
   have:=kg (B:=B) (K:=K) I f hn hc r (p++[x]) s' (by simpa using h) hs
   rw[List.length_append]at this
   exact this
variable {α:Type}{L:List α}
theorem ap0{p r:List α}{x:α}(h:p++x::r=L):lq L 0 (p.length:Int)=some p:=by
 unfold lq
 rw[if_pos ⟨by omega,by omega,by rw[←h];simp;omega⟩,←h]
 simp
def jj(n:Int):Bool:=decide (n=8)||(decide (n=16)||(decide (n=32)||decide (n=64)))
def rtB(n:Int):Bool:=decide (1≤n)&&decide (n≤99)
def oC(n:Int)(a:aj):Bool:=decide (a.Bit<0)||(decide (n≤a.Bit)||(!rtB a.bx||!rtB a.To))
def vY(a:aj):Bool:=decide (a.Kind<1)||decide (3<a.Kind)
def vZ(a:aj):Bool:=!(decide (a.To=a.bx)==decide (a.Kind=3))
def ltA(a b:aj):Bool:=decide (a.Bit<b.Bit)
def mW(a b:aj):Bool:=decide (a.bx=b.bx)&&(decide (a.Kind=b.Kind)&&decide (a.To=b.To))
def pZ{α:Type}(q:α→α→Bool):List α→List α→Bool
 |_,[]=>false
 |p,x::r=>p.any (q x)||pZ q (p++[x]) r
def oD(e:aK):Int:=
 bif !jj e.Length||e.List.any (oC e.Length)then 2 else bif e.List.any vY then 1 else bif e.List.any vZ then 8 else bif mB ltA e.List then(bif pZ mW [] e.List then 5 else 0)else 25
variable {β:Type}
theorem akb{B:Int→α→(Bool→Option β)→Bool→Option β}{K:Bool→Option β}(p:α→Bool)(hB:∀j x Z s,B j x Z s=Z (s&&!p x))(l:List α)(j:Nat)(s:Bool):bJ l j B K s=K (s&&!l.any p):=
 u0 (f:=λl s=>K (s&&!l.any p)) (λs=>by simp) (λj x r s Z hZ=>by
  rw[hB,hZ,List.any_cons];cases s<;>cases p x<;>simp) l j s
theorem akc(q:α→α→Bool)(a:Option β){B:Int→α→(Unit→Option β)→Unit→Option β}{K:Unit→Option β}
  (hB:∀p x r Z,p++x::r=L→B (p.length:Int) x Z ()=bif p.any (q x)then a else Z ()):bJ L 0 B K ()=bif pZ q [] L then a else K ():=
 kg (L:=L) (λ_ _=>True) (λp l=>bif pZ q p l then a else K ()) (λs _=>rfl) (λp x r s Z h _ hZ=>by
  rw[hB p x r Z h,hZ () trivial,pZ];cases p.any (q x)<;>rfl) L [] () rfl trivial
theorem qA(e:aK)(hl:e.List.length≤1000000):fF e=some (oD e):=by
 unfold fF jR gM
 simp only[aR]
 refine(akb (oC e.Length) (λj x Z s=>by
  unfold oC rtB
  cases s
  ·rfl
  by_cases h1:x.Bit<0
  ·have:¬(0≤x.Bit):=by omega
   simp[h1,this]
  have h1':0≤x.Bit:=by omega
  by_cases h2:e.Length≤x.Bit
  ·have:¬(x.Bit<e.Length):=by omega
   simp[h1',h2,this]
  have h2':x.Bit<e.Length:=by omega
  simp only[h1',h2',decide_true,cond_true,h1,h2,decide_false,Bool.false_or,Bool.true_and]
  cases decide (1≤x.bx)&&decide (x.bx≤99)<;>simp) _ _ _).trans ?_
 unfold oD jj
 have hgo:∀{b:Bool} {x y z:Option Int},b=true→(bif b then x else y)=x:=λh=>by subst h;rfl
 cases hb:(decide (e.Length=8)||(decide (e.Length=16)||(decide (e.Length=32)||decide (e.Length=64))))&&!e.List.any (oC e.Length)
 ·have:(!(decide (e.Length=8)||(decide (e.Length=16)||(decide (e.Length=32)||decide (e.Length=64))))||e.List.any (oC e.Length))=true:=by
   revert hb;cases(decide (e.Length=8)||(decide (e.Length=16)||(decide (e.Length=32)||decide (e.Length=64))))<;>cases e.List.any (oC e.Length)<;>simp
  rw[this];rfl
 ·have:(!(decide (e.Length=8)||(decide (e.Length=16)||(decide (e.Length=32)||decide (e.Length=64))))||e.List.any (oC e.Length))=false:=by
   revert hb;cases(decide (e.Length=8)||(decide (e.Length=16)||(decide (e.Length=32)||decide (e.Length=64))))<;>cases e.List.any (oC e.Length)<;>simp
  rw[this]
  simp only[Bool.not_true,cond_false]
  refine(gA vY (some 1) (by intros;rfl) _ _ _).trans ?_
  cases e.List.any vY
  ·simp only[cond_false]
   refine(gA vZ (some 8) (by intros;rfl) _ _ _).trans ?_
   cases e.List.any vZ
   ·simp only[cond_false]
    refine(ug ltA (some 25) (λj x y r q s Z hL hj=>by
     simp only[qw hL hj (by omega),aR,ltA]
     by_cases h:y.Bit<x.Bit
     ·have:¬x.Bit≤y.Bit:=by omega
      simp[h,this]
     ·have:x.Bit≤y.Bit:=by omega
      simp[h,this]) _).trans ?_
    cases mB ltA e.List
    ·rfl
    ·simp only[cond_true]
     refine(akc mW (some 5) (λp x r Z h=>by
      simp only[ap0 h,aR]
      exact gA (mW x) (some 5) (by intros;rfl) _ _ _)).trans ?_
     cases pZ mW [] e.List<;>rfl
   ·rfl
  ·rfl
theorem akd{κ:Type}{q:κ→κ→Bool}(hq:∀a b,q a b=true↔a=b)(l:List (κ×α))(n m:κ)(b:α):iK q (nM q l n b) m=bif q m n then some b else iK q l m:=by
 induction l with
 |nil=>simp only[nM,iK,List.find?];cases q m n<;>rfl
 |cons p r ih=>
  simp only[nM]
  cases h1:q n p.1
  ·simp only[cond_false,iK,List.find?]at ih ⊢
   cases h2:q m p.1
   ·simpa using ih
   ·have e:=(hq _ _).1 h2
    have:q m n=false:=by
     cases h3:q m n
     ·rfl
     ·have:=(hq _ _).1 h3;subst this;subst e;rw[(hq _ _).2 rfl]at h1;cases h1
    simp[this]
  ·have e:=(hq _ _).1 h1
   simp only[cond_true,iK,List.find?]at ih ⊢
   subst e
   cases q m p.1<;>simp
theorem ake(a b:cr):dx a b=true↔a=b:=by
 cases a;cases b;simp[dx]
def tgA(a:aj):cr:=cr.mk a.bx a.Kind a.To
variable {a:aj}
theorem uk{b:aj}:mW a b=true↔tgA a=tgA b:=by simp[mW,tgA]
theorem tK(e:aK)(hl:e.List.length≤1000000):fG e=some (oD e):=by
 unfold fG ga jh
 simp only[aR]
 unfold oD
 show(bif !jj e.Length then _ else _)=_
 cases jj e.Length
 ·rfl
 simp only[Bool.not_true,cond_false,Bool.false_or]
 refine(gA (oC e.Length) (some 2) (λj x Z s=>by
  unfold oC rtB jn
  cases decide (x.Bit<0)
  ·cases decide (e.Length≤x.Bit)
   ·cases decide (1≤x.bx)&&decide (x.bx≤99)<;>rfl
   ·rfl
  ·rfl) _ _ _).trans ?_
 cases e.List.any (oC e.Length)
 ·simp only[cond_false]
  refine(gA vY (some 1) (by intros;rfl) _ _ _).trans ?_
  cases e.List.any vY
  ·simp only[cond_false]
   refine(gA vZ (some 8) (by intros;rfl) _ _ _).trans ?_
   cases e.List.any vZ
   ·simp only[cond_false]
    refine(ug ltA (some 25) (λj x y r q s Z hL hj=>by
     simp only[qw hL hj (by omega),aR,ltA]
     by_cases h:y.Bit<x.Bit
     ·have:¬x.Bit≤y.Bit:=by omega
      simp[h,this]
     ·have:x.Bit≤y.Bit:=by omega
      simp[h,this]) _).trans ?_
    cases mB ltA e.List
    ·rfl
    ·simp only[cond_true,l5,aR]
     refine(kg (L:=e.List) (λp m=>∀t,(iK dx m t).getD false=true↔∃a∈p,tgA a=t) (λp l=>bif pZ mW p l then some 5 else some 0) (λs _=>rfl) (λp x r s Z h hi hZ=>?_) e.List [] [] rfl (λt=>by simp[iK])).trans ?_
     ·have hx:=hi (tgA x)
      rw[pZ]
      cases hc:(iK dx s (cr.mk x.bx x.Kind x.To)).getD false
      ·have hno:p.any (mW x)=false:=by
        rw[any_false]
        intro a ha
        cases hs:mW x a
        ·rfl
        ·have h1:=hx.2 ⟨a,ha,(uk.1 hs).symm⟩
         exact absurd (hc.symm.trans h1) (by simp)
       rw[hno,cond_false,Bool.false_or]
       refine hZ _ λt=>?_
       rw[akd ake]
       cases ht:dx t (cr.mk x.bx x.Kind x.To)
       ·rw[cond_false,hi t]
        constructor
        ·rintro⟨a,ha,e⟩;exact⟨a,by simp[ha],e⟩
        ·rintro⟨a,ha,e⟩
         rcases List.mem_append.1 ha with ha|ha
         ·exact⟨a,ha,e⟩
         ·simp at ha;subst ha;exact absurd (ht.symm.trans ((ake t (tgA a)).2 e.symm)) (by simp)
       ·have:=(ake _ _).1 ht
        subst this
        simp only[cond_true,Option.getD_some,true_iff]
        exact⟨x,by simp,rfl⟩
      ·obtain⟨a,ha,e⟩:=hx.1 hc
       have:p.any (mW x)=true:=List.any_eq_true.2 ⟨a,ha,uk.2 e.symm⟩
       rw[this];rfl
     ·cases pZ mW [] e.List<;>rfl
   ·rfl
  ·rfl
 ·rfl
structure Ve(e:aK):Prop where
 len:e.Length=8∨e.Length=16∨e.Length=32∨e.Length=64
 rng:∀a∈e.List,0≤a.Bit∧a.Bit<e.Length∧(1≤a.bx∧a.bx≤99)∧1≤a.To∧a.To≤99
 kind:∀a∈e.List,1≤a.Kind∧a.Kind≤3
 ae7:∀a∈e.List,a.To=a.bx↔a.Kind=3
 asc:e.List.Pairwise λa b=>a.Bit<b.Bit
 dup:e.List.Pairwise λa b=>tgA a≠tgA b
theorem zo{α:Type}{q:α→α→Bool}:∀{l p:List α},pZ q p l=false↔(∀a∈p,∀b∈l,q b a=false)∧l.Pairwise λa b=>q b a=false
 |[],p=>by simp[pZ]
 |x::r,p=>by
  rw[pZ,Bool.or_eq_false_iff,zo,any_false,List.pairwise_cons]
  constructor
  ·rintro⟨h1,h2,h3⟩
   refine⟨λa ha b hb=>?_,λb hb=>h2 x (by simp) b hb,h3⟩
   rcases List.mem_cons.1 hb with rfl|hb
   ·exact h1 a ha
   ·exact h2 a (by simp[ha]) b hb
  ·rintro⟨h1,h2,h3⟩
   refine⟨λa ha=>h1 a ha x (by simp),λa ha b hb=>?_,h3⟩
   rcases List.mem_append.1 ha with ha|ha
   ·exact h1 a ha b (by simp[hb])
   ·simp at ha;subst ha;exact h2 b hb
theorem agc(a b c:aj)(h1:ltA a b=true)(h2:ltA b c=true):ltA a c=true:=by simp[ltA]at *;omega
theorem acZ{n:Int}:oC n a=false↔0≤a.Bit∧a.Bit<n∧(1≤a.bx∧a.bx≤99)∧1≤a.To∧a.To≤99:=by
 simp[oC,rtB]
theorem ac0:vY a=false↔1≤a.Kind∧a.Kind≤3:=by simp[vY]
theorem ac1:vZ a=false↔(a.To=a.bx↔a.Kind=3):=by
 unfold vZ
 by_cases h1:a.To=a.bx<;>by_cases h2:a.Kind=3<;>simp[h1,h2]
theorem ry{e:aK}:oD e=0↔Ve e:=by
 unfold oD
 constructor
 ·intro h
  cases h1:jj e.Length with
  |false=>simp[h1]at h
  |true=>
  cases h2:e.List.any (oC e.Length)with
  |true=>simp[h1,h2]at h
  |false=>
  cases h3:e.List.any vY with
  |true=>simp[h1,h2,h3]at h
  |false=>
  cases h4:e.List.any vZ with
  |true=>simp[h1,h2,h3,h4]at h
  |false=>
  cases h5:mB ltA e.List with
  |false=>simp[h1,h2,h3,h4,h5]at h
  |true=>
  cases h6:pZ mW [] e.List with
  |true=>simp[h1,h2,h3,h4,h5,h6]at h
  |false=>
  rw[any_false]at h2 h3 h4
  refine⟨by simpa [jj]using h1,λa ha=>acZ.1 (h2 a ha),λa ha=>ac0.1 (h3 a ha),λa ha=>ac1.1 (h4 a ha),?_,?_⟩
  ·exact(pX agc h5).imp (λh=>by simpa [ltA]using h)
  ·exact(zo.1 h6).2.imp (λ{a b} h e=>by rw[uk.2 e.symm]at h;cases h)
 ·intro h
  have h1:jj e.Length=true:=by simpa [jj]using h.len
  have h2:e.List.any (oC e.Length)=false:=any_false.2 λa ha=>acZ.2 (h.rng a ha)
  have h3:e.List.any vY=false:=any_false.2 λa ha=>ac0.2 (h.kind a ha)
  have h4:e.List.any vZ=false:=any_false.2 λa ha=>ac1.2 (h.ae7 a ha)
  have h5:mB ltA e.List=true:=ny (h.asc.imp λh=>by simpa [ltA]using h)
  have h6:pZ mW [] e.List=false:=zo.2 ⟨by simp,h.dup.imp λ{a b} h=>by
   cases hs:mW b a
   ·rfl
   ·exact absurd (uk.1 hs).symm h⟩
  simp[h1,h2,h3,h4,h5,h6]
def ac2(r:Int)(a:Int)(x:aj):Int:=if x.bx=r then aS .or .u64 a (uJ x.Bit.toNat)else a
def rP(e:aK)(r:Int):Int:=if oD e=0 then e.List.foldl (ac2 r) 0 else 0
theorem abC{σ:Type}{B:Int→α→(σ→Option β)→σ→Option β}{K:σ→Option β}(g:σ→α→σ)(hB:∀j x,x∈L→∀Z s,B j x Z s=Z (g s x))(s:σ):bJ L 0 B K s=K (L.foldl g s):=by
 have key:∀(l:List α) (j:Nat) (s:σ),(∀x∈l,x∈L)→bJ l j B K s=K (l.foldl g s):=by
  intro l
  induction l with
  |nil=>intro j s _;rfl
  |cons x r ih=>
   intro j s h
   simp only[bJ]
   rw[hB _ x (h x (by simp)),ih (j+1) _ (λy hy=>h y (by simp[hy])),List.foldl_cons]
 exact key L 0 s (λ_ h=>h)
theorem Ve.bit{e:aK}(h:Ve e)(ha:a∈e.List):0≤a.Bit∧a.Bit<64:=by
 have:=h.rng a ha;have:=h.len;omega
theorem adY(e:aK)(r:Int)(hl:e.List.length≤1000000):jq e r=some (rP e r):=by
 unfold jq rP
 simp only[tK e hl,aR,jn]
 by_cases h:oD e=0
 ·have hv:=ry.1 h
  simp only[h,decide_true,cond_true,if_true]
  refine abC (ac2 r) (λj x hx Z s=>?_) 0
  obtain⟨b1,b2⟩:=hv.bit hx
  unfold ac2
  by_cases hr:x.bx=r
  ·simp only[hr,decide_true,cond_true,if_true,b1,chk,zn b1 b2]
  ·simp[hr]
 ·simp[h]
theorem abD(e:aK)(r:Int)(hl:e.List.length≤1000000):mK e r=some (rP e r):=by
 unfold mK rP
 simp only[qA e hl,aR,jn]
 by_cases h:oD e=0
 ·have hv:=ry.1 h
  simp only[h,decide_true,cond_true,if_true]
  refine abC (ac2 r) (λj x hx Z s=>?_) 0
  obtain⟨b1,b2⟩:=hv.bit hx
  unfold ac2
  by_cases hr:x.bx=r
  ·have e1:IntKind.wrap .u64 x.Bit=x.Bit:=wrap_u64 b1 (by omega)
   simp only[hr,decide_true,cond_true,if_true,e1,b1,chk,zn b1 b2]
  ·simp[hr]
 ·simp[h]
end Go.Proofs.YtdjeacigeegklaaGreat
