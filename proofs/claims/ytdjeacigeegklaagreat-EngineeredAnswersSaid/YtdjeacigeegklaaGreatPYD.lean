/- Plain: trees: the two texts of CheckTree, aq, Bits. No condition but bU bx stand in each. -/
import Derived.Test.YtdjeacigeegklaaGreatPYC
namespace Go.Proofs.YtdjeacigeegklaaGreat
set_option linter.all false
open Go
def tc(h:cB):Bool:=!rtB h.ct||!rtB h.To
def ltH(a b:cB):Bool:=decide (a.ct<b.ct)||(decide (a.ct=b.ct)&&decide (a.To<b.To))
def tH(a b:cB):Bool:=decide (b.To=a.To)
def qP(root:Int):List cB→List cB→Bool
 |_,[]=>false
 |p,x::r=>(p.any (tH x)||decide (x.To=root))||qP root (p++[x]) r
inductive Rch(root:Int)(L:List cB):Int→Prop
 |root:Rch root L root
 |step (h:cB):h∈L→Rch root L h.ct→Rch root L h.To
noncomputable def ckT(t:cM):Int:=
 bif !rtB t.dB||t.Links.any tc then 2 else bif jc ltH t.Links then(bif qP t.dB [] t.Links then 8 else @ite Int (∀h∈t.Links,Rch t.dB t.Links h.ct) (Classical.propDecidable _) 0 10)else 25
def oJ(f:Int→Bool)(L:List cB):Nat:=(L.filter λh=>!f h.To).length
variable {f:Int→Bool}
theorem afr{g:Int→Bool}(h:∀x,f x=true→g x=true)(L:List cB):oJ g L≤oJ f L:=by
 unfold oJ
 induction L with
 |nil=>simp
 |cons a r ih=>
  simp only[List.filter_cons]
  cases hf:f a.To
  ·cases hg:g a.To<;>simp<;>omega
  ·rw[h _ hf];simpa using ih
theorem acK{f g:Int→Bool}(h:∀x,f x=true→g x=true){a:cB}:∀{L:List cB},a∈L→f a.To=false→g a.To=true→oJ g L<oJ f L
 |[],ha,_,_=>by cases ha
 |b::r,ha,h1,h2=>by
  have hle:=afr h r
  unfold oJ at *
  simp only[List.filter_cons]
  rcases List.mem_cons.1 ha with rfl|ha
  ·rw[h1,h2];simp;omega
  ·have ih:=acK h ha h1 h2
   unfold oJ at ih
   cases hf:f b.To
   ·cases hg:g b.To<;>simp<;>omega
   ·rw[h _ hf];simpa using ih
structure RI(root:Int)(L:List cB)(f:Int→Bool):Prop where
 rt:f root=true
 sub:∀x,f x=true→Rch root L x
structure RJ(root:Int)(L:List cB)(f0:Int→Bool)(p:List cB)(g:Bool)(f:Int→Bool):Prop where
 ri:RI root L f
 up:∀x,f0 x=true→f x=true
 no:g=false→(∀x,f x=f0 x)∧∀h∈p,f h.ct=true→f h.To=true
 yes:g=true→oJ f L<oJ f0 L
variable {L:List cB}{root:Int}
theorem RJ.start(h:RI root L f):RJ root L f [] false f:=⟨h,λ_=>id,λ_=>⟨λ_=>rfl,by simp⟩,λh=>by cases h⟩
variable {f0:Int→Bool}{h:cB}{p:List cB}
theorem RJ.add{f':Int→Bool}{g:Bool}(j:RJ root L f0 p g f)(hm:h∈L)(h1:f h.ct=true)(h2:f h.To=false)(hf:∀y,f' y=(decide (y=h.To)||f y)):RJ root L f0 (p++[h]) true f':=by
 have up:∀x,f x=true→f' x=true:=λx hx=>by rw[hf,hx];simp
 have hl:oJ f' L<oJ f L:=acK up hm h2 (by rw[hf];simp)
 refine⟨⟨up _ j.ri.rt,λx hx=>?_⟩,λx hx=>up x (j.up x hx),λh=>(by cases h),λ_=>?_⟩
 ·rw[hf,Bool.or_eq_true,decide_eq_true_eq]at hx
  rcases hx with rfl|hx
  ·exact .step h hm (j.ri.sub _ h1)
  ·exact j.ri.sub x hx
 ·have:=afr j.up L;omega
theorem RJ.pass{g:Bool}(j:RJ root L f0 p g f)(hn:f h.ct=false∨f h.To=true):RJ root L f0 (p++[h]) g f:=by
 refine⟨j.ri,j.up,λhg=>⟨(j.no hg).1,λx hx hf=>?_⟩,j.yes⟩
 rcases List.mem_append.1 hx with hx|hx
 ·exact(j.no hg).2 x hx hf
 ·simp at hx;subst hx
  rcases hn with hn|hn
  ·rw[hn]at hf;cases hf
  ·exact hn
theorem RI.done(h:RI root L f)(hc:∀x∈L,f x.ct=true→f x.To=true)(x:Int):f x=true↔Rch root L x:=by
 refine⟨h.sub x,λhr=>?_⟩
 induction hr with
 |root=>exact h.rt
 |step y hy _ ih=>exact hc y hy ih
theorem abd(f:Int→Bool)(L:List cB):oJ f L≤L.length:=List.length_filter_le _ _
def jE(m:List (Int×Bool))(x:Int):Bool:=(aF m x).getD false
theorem vk(m:List (Int×Bool))(n x:Int):jE (bM m n true) x=(decide (x=n)||jE m x):=by
 unfold jE;rw[fu];by_cases h:x=n<;>simp[h]
theorem aeW(t:cM)(hl:t.Links.length≤1000000):Ok (jG t) (λm=>∀x,jE m x=true↔Rch t.dB t.Links x):=by
 unfold jG
 refine Ok.whl (λsg:Bool×List (Int×Bool)=>RI t.dB t.Links (jE sg.2)∧(sg.1=false→∀x∈t.Links,jE sg.2 x.ct=true→jE sg.2 x.To=true)) (λsg=>2*oJ (jE sg.2) t.Links+if sg.1 then 1 else 0) ?_ ?_ ?_
 ·refine⟨⟨?_,λx hx=>?_⟩,λh=>by cases h⟩
  ·show jE (bM [] t.dB true) t.dB=true
   rw[vk];simp
  ·have hx:jE (bM [] t.dB true) x=true:=hx
   rw[vk]at hx
   simp[jE,aF]at hx
   subst hx;exact .root
 ·have:=abd (jE (bM [] t.dB true)) t.Links
  show 2*oJ (jE (bM [] t.dB true)) t.Links+1<_
  omega
 ·rintro⟨g,m⟩ Z ⟨h1,h2⟩ hZ
  refine Ok.cs (λhg=>?_) (λhg=>Ok.s (h1.done (h2 hg)))
  refine Ok.wq (L:=t.Links) (λp (sg:Bool×List (Int×Bool))=>RJ t.dB t.Links (jE m) p sg.1 (jE sg.2)) (λp x r s Z2 hL hI hZ2=>?_) (false,m) (RJ.start h1) (λs hs=>?_)
  ·obtain⟨g2,m2⟩:=s
   unfold jn
   have hm:x∈t.Links:=by rw[hL];simp
   refine Ok.cs (λhc=>hZ2 _ ?_) (λhc=>hZ2 _ ?_)
   ·simp only[Bool.and_eq_true,Bool.not_eq_true']at hc
    exact hI.add hm hc.1 hc.2 (λy=>vk m2 x.To y)
   ·refine hI.pass ?_
    change (jE m2 x.ct&&!jE m2 x.To)=false at hc
    revert hc;cases jE m2 x.ct<;>cases jE m2 x.To<;>simp
  ·obtain⟨g2,m2⟩:=s
   refine hZ (g2,m2) ⟨hs.ri,λhg2=>(hs.no hg2).2⟩ ?_
   cases g2
   ·have e:jE m2=jE m:=funext (hs.no rfl).1
    have hg:g=true:=hg
    subst hg
    simp[e]
   ·have:=hs.yes rfl
    have hg:g=true:=hg
    subst hg
    simp;omega
theorem arT(l:List Int)(a x:Int):decide (x∈l++[a])=(decide (x=a)||decide (x∈l)):=by
 by_cases h1:x=a<;>by_cases h2:x∈l<;>simp[h1,h2]
theorem awi{a b:cB}:(decide (b.ct<a.ct)||(decide (a.ct=b.ct)&&decide (b.To≤a.To)))=!ltH a b:=by
 unfold ltH
 by_cases h1:b.ct<a.ct
 ·have h2:¬a.ct<b.ct:=by omega
  have h3:¬a.ct=b.ct:=by omega
  simp[h1,h2,h3]
 ·by_cases h2:a.ct=b.ct
  ·by_cases h3:a.To<b.To
   ·have h4:¬b.To≤a.To:=by omega
    simp[h1,h2,h3,h4]
   ·have h4:b.To≤a.To:=by omega
    simp[h1,h2,h3,h4]
  ·have h3:a.ct<b.ct:=by omega
   simp[h1,h2,h3]
theorem vP(t:cM)(hl:t.Links.length≤1000000):jv t=some (ckT t):=by
 unfold jv gU
 simp only[aV]
 refine(aeu tc (λj x Z s=>by
  unfold tc rtB
  cases s
  ·rfl
  cases decide (1≤x.ct)&&decide (x.ct≤99)<;>simp) _ _ _).trans ?_
 unfold ckT
 have e0:((decide (1≤t.dB)&&decide (t.dB≤99))&&!t.Links.any tc)=!(!rtB t.dB||t.Links.any tc):=by
  unfold rtB;cases(decide (1≤t.dB)&&decide (t.dB≤99))<;>simp
 rw[e0,Bool.not_not]
 cases(!rtB t.dB||t.Links.any tc)
 ·simp only[cond_false]
  refine(nS ltH (some 25) (λj x y r q s Z hL hj=>by
   simp only[mX hL hj (by omega),aV,awi]
   cases ltH y x<;>rfl) _).trans ?_
  cases jc ltH t.Links
  ·rfl
  ·simp only[cond_true]
   refine(jX (L:=t.Links) (λ_ _=>True) (λp l=>bif qP t.dB p l then some 8 else some (@ite Int (∀h∈t.Links,Rch t.dB t.Links h.ct) (Classical.propDecidable _) 0 10)) (λs _=>?_) (λp x r s Z h _ hZ=>?_) t.Links [] () rfl trivial).trans ?_
   ·simp only[qP,cond_false]
    refine Ok.eq (Ok.whl (λsg:List Int×Bool=>(RI t.dB t.Links (λx=>decide (x∈sg.1))∧(sg.2=false→∀x∈t.Links,x.ct∈sg.1→x.To∈sg.1))∧sg.1.length+oJ (λx=>decide (x∈sg.1)) t.Links≤1+t.Links.length) (λsg=>2*oJ (λx=>decide (x∈sg.1)) t.Links+if sg.2 then 1 else 0) ?_ ?_ ?_)
    ·refine⟨⟨⟨by simp,λx hx=>?_⟩,λh=>by cases h⟩,?_⟩
     ·simp at hx;subst hx;exact .root
     ·have:=abd (λx=>decide (x∈[t.dB])) t.Links
      simp only[List.length_singleton];omega
    ·have:=abd (λx=>decide (x∈[t.dB])) t.Links
     show 2*oJ (λx=>decide (x∈[t.dB])) t.Links+1<_
     omega
    ·rintro⟨m,g⟩ Z ⟨⟨h1,h2⟩,h3⟩ hZ
     refine Ok.cs (λhg=>?_) (λhg=>?_)
     ·refine Ok.wq (L:=t.Links) (λp (sg:List Int×Bool)=>RJ t.dB t.Links (λx=>decide (x∈m)) p sg.2 (λx=>decide (x∈sg.1))∧sg.1.length+oJ (λx=>decide (x∈sg.1)) t.Links≤1+t.Links.length) (λp x r s Z2 hL hI hZ2=>?_) (m,false) ⟨RJ.start h1,h3⟩ (λs hs=>?_)
      ·obtain⟨m2,g2⟩:=s
       obtain⟨hI,hI2⟩:=hI
       simp only at hI2
       have hm:x∈t.Links:=by rw[hL];simp
       simp only[jn,aes,aV]
       by_cases c1:x.ct∈m2
       ·by_cases c2:x.To∈m2
        ·simp only[c1,c2,decide_true,cond_true,Bool.not_true,cond_false]
         exact hZ2 _ ⟨hI.pass (.inr (by simpa using c2)),hI2⟩
        ·simp only[c1,c2,decide_true,cond_true,decide_false,Bool.not_false]
         refine Ok.bnd (mJ (by simp only[List.length_singleton];omega)) λm3 q3=>?_
         rw[q3.1]
         have hlt:=acK (f:=λy=>decide (y∈m2)) (g:=λy=>decide (y∈m2++[x.To])) (λy hy=>by simp at hy;simp[hy]) hm (by simpa using c2) (by simp)
         refine hZ2 _ ⟨hI.add hm (by simpa using c1) (by simpa using c2) (λy=>arT m2 x.To y),?_⟩
         simp only[List.length_append,List.length_singleton];omega
       ·simp only[c1,decide_false,cond_false]
        exact hZ2 _ ⟨hI.pass (.inl (by simpa using c1)),hI2⟩
      ·obtain⟨m2,g2⟩:=s
       obtain⟨hs,hs2⟩:=hs
       have hg:g=true:=hg
       subst hg
       refine hZ (m2,g2) ⟨⟨hs.ri,λhg2 x hx hf=>by simpa using (hs.no hg2).2 x hx (by simpa using hf)⟩,hs2⟩ ?_
       cases g2
       ·have e:(λx=>decide (x∈m2))=(λx=>decide (x∈m)):=funext (hs.no rfl).1
        simp only[e];simp
       ·have:=hs.yes rfl
        simp;omega
     ·have hd:=h1.done (λx hx hf=>by simpa using h2 hg x hx (by simpa using hf))
      refine⟨@ite Int (∀h∈t.Links,Rch t.dB t.Links h.ct) (Classical.propDecidable _) 0 10,(gP (λx:cB=>!decide (x.ct∈m)) (some 10) (λj x Z s=>by simp only[aes,aV]) _ _ _).trans ?_,rfl⟩
      by_cases hall:∀h∈t.Links,Rch t.dB t.Links h.ct
      ·rw[if_pos hall,any_false.2 (λx hx=>by have:=(hd x.ct).2 (hall x hx);simpa using this)];rfl
      ·rw[if_neg hall]
       have:t.Links.any (λx:cB=>!decide (x.ct∈m))=true:=by
        refine Classical.byContradiction λhn=>hall λh hh=>(hd h.ct).1 ?_
        have:=any_false.1 (Bool.not_eq_true _▸hn) h hh
        simpa using this
       rw[this];rfl
   ·simp only[afq h,aV]
    refine(gP (tH x) (some 8) (by intros;rfl) _ _ _).trans ?_
    rw[hZ () trivial,qP]
    cases p.any (tH x)
    ·cases decide (x.To=t.dB)<;>rfl
    ·rfl
   ·cases qP t.dB [] t.Links<;>rfl
 ·rfl
theorem al7{a b c d:Int}:decide ((0:Int)≤orI [fN a b,fN c d])=!(decide (a<b)||(decide (a=b)&&decide (c<d))):=by
 by_cases h1:a<b
 ·have e:fN a b = -1:=by unfold fN;rw[if_pos h1]
  simp[e,orI,h1]
 ·by_cases h2:a=b
  ·subst h2
   have e:fN a a=0:=lK.2 rfl
   by_cases h3:c<d
   ·have e2:fN c d = -1:=by unfold fN;rw[if_pos h3]
    simp[e,e2,orI,h3]
   ·by_cases h4:d<c
    ·have e2:fN c d=1:=by unfold fN;rw[if_neg h3,if_pos h4]
     simp[e,e2,orI,h3]
    ·have e2:fN c d=0:=by unfold fN;rw[if_neg h3,if_neg h4]
     simp[e,e2,orI,h3]
  ·have h3:b<a:=by omega
   have e:fN a b=1:=by unfold fN;rw[if_neg h1,if_pos h3]
   simp[e,orI,h1,h2]
theorem yc(t:cM)(hl:t.Links.length≤1000000):gL t=some (ckT t):=by
 unfold gL fK
 simp only[aV]
 unfold ckT
 show(bif !rtB t.dB then _ else _)=_
 cases rtB t.dB
 ·rfl
 simp only[Bool.not_true,cond_false,Bool.false_or]
 refine(gP tc (some 2) (λj x Z s=>by
  unfold tc rtB jn
  cases decide (1≤x.ct)&&decide (x.ct≤99)<;>rfl) _ _ _).trans ?_
 cases t.Links.any tc
 ·simp only[cond_false]
  refine(nS ltH (some 25) (λj x y r q s Z hL hj=>by
   simp only[mX hL hj (by omega),aV,acv,aeg,al7]
   show(bif !ltH y x then _ else _)=_
   cases ltH y x<;>rfl) _).trans ?_
  cases jc ltH t.Links
  ·rfl
  ·simp only[cond_true]
   refine(jX (L:=t.Links) (λp m=>∀x,jE m x=true↔x=t.dB∨∃h∈p,h.To=x) (λp l=>bif qP t.dB p l then some 8 else some (@ite Int (∀h∈t.Links,Rch t.dB t.Links h.ct) (Classical.propDecidable _) 0 10)) (λs _=>?_) (λp x r s Z h hi hZ=>?_) t.Links [] _ rfl ?_).trans ?_
   ·obtain⟨m,h1,h2⟩:=aeW t hl
    simp only[h1,aV,qP,cond_false]
    refine(gP (λx:cB=>!jE m x.ct) (some 10) (by intros;rfl) _ _ _).trans ?_
    by_cases hall:∀h∈t.Links,Rch t.dB t.Links h.ct
    ·rw[if_pos hall,any_false.2 (λx hx=>by rw[(h2 x.ct).2 (hall x hx)];rfl)];rfl
    ·rw[if_neg hall]
     have:t.Links.any (λx:cB=>!jE m x.ct)=true:=by
      refine Classical.byContradiction λhn=>hall λh hh=>(h2 h.ct).1 ?_
      have:=any_false.1 (Bool.not_eq_true _▸hn) h hh
      simpa using this
     rw[this];rfl
   ·show(bif jE s x.To then _ else _)=_
    rw[qP]
    have e:(p.any (tH x)||decide (x.To=t.dB))=jE s x.To:=by
     rw[Bool.eq_iff_iff,Bool.or_eq_true,List.any_eq_true,hi,decide_eq_true_eq]
     constructor
     ·rintro(⟨a,ha,hs⟩|h)
      ·exact .inr ⟨a,ha,by simpa [tH]using hs⟩
      ·exact .inl h
     ·rintro(h|⟨a,ha,hs⟩)
      ·exact .inr h
      ·exact .inl ⟨a,ha,by simpa [tH]using hs⟩
    rw[e]
    cases jE s x.To
    ·refine hZ _ λy=>?_
     rw[vk,Bool.or_eq_true,decide_eq_true_eq,hi]
     constructor
     ·rintro(h|h|⟨a,ha,h⟩)
      ·exact .inr ⟨x,by simp,h.symm⟩
      ·exact .inl h
      ·exact .inr ⟨a,by simp[ha],h⟩
     ·rintro(h|⟨a,ha,h⟩)
      ·exact .inr (.inl h)
      ·rcases List.mem_append.1 ha with ha|ha
       ·exact .inr (.inr ⟨a,ha,h⟩)
       ·simp at ha;rw[ha]at h;exact .inl h.symm
    ·rfl
   ·intro x
    rw[vk];simp[jE,aF]
   ·cases qP t.dB [] t.Links<;>rfl
 ·rfl
structure Vr(t:cM):Prop where
 rt:1≤t.dB∧t.dB≤99
 rng:∀h∈t.Links,(1≤h.ct∧h.ct≤99)∧1≤h.To∧h.To≤99
 asc:t.Links.Pairwise λa b=>ltH a b=true
 dup:t.Links.Pairwise λa b=>a.To≠b.To
 nrt:∀h∈t.Links,h.To≠t.dB
 rch:∀h∈t.Links,Rch t.dB t.Links h.ct
theorem adr(a b c:cB)(h1:ltH a b=true)(h2:ltH b c=true):ltH a c=true:=by
 simp[ltH]at *;omega
theorem abe{root:Int}:∀{l p:List cB},qP root p l=false↔(∀a∈p,∀b∈l,a.To≠b.To)∧(∀b∈l,b.To≠root)∧l.Pairwise λa b=>a.To≠b.To
 |[],p=>by simp[qP]
 |x::r,p=>by
  rw[qP,Bool.or_eq_false_iff,Bool.or_eq_false_iff,abe,any_false,List.pairwise_cons]
  constructor
  ·rintro⟨⟨h1,h0⟩,h2,h4,h3⟩
   refine⟨λa ha b hb=>?_,λb hb=>?_,λb hb=>h2 x (by simp) b hb,h3⟩
   ·rcases List.mem_cons.1 hb with rfl|hb
    ·have:=h1 a ha;simpa [tH]using this
    ·exact h2 a (by simp[ha]) b hb
   ·rcases List.mem_cons.1 hb with rfl|hb
    ·simpa using h0
    ·exact h4 b hb
  ·rintro⟨h1,h4,h2,h3⟩
   refine⟨⟨λa ha=>by simpa [tH]using h1 a ha x (by simp),by simpa using h4 x (by simp)⟩,λa ha b hb=>?_,λb hb=>h4 b (by simp[hb]),h3⟩
   rcases List.mem_append.1 ha with ha|ha
   ·exact h1 a ha b (by simp[hb])
   ·simp at ha;subst ha;exact h2 b hb
theorem acL{n:Int}:rtB n=true↔1≤n∧n≤99:=by simp[rtB]
theorem aez:tc h=false↔(1≤h.ct∧h.ct≤99)∧1≤h.To∧h.To≤99:=by
 simp[tc,acL]
variable {t:cM}
theorem ahZ:ckT t=0↔Vr t:=by
 unfold ckT
 constructor
 ·intro h
  cases h1:rtB t.dB with
  |false=>simp[h1]at h
  |true=>
  cases h2:t.Links.any tc with
  |true=>simp[h1,h2]at h
  |false=>
  cases h3:jc ltH t.Links with
  |false=>simp[h1,h2,h3]at h
  |true=>
  cases h4:qP t.dB [] t.Links with
  |true=>simp[h1,h2,h3,h4]at h
  |false=>
  by_cases h5:∀h∈t.Links,Rch t.dB t.Links h.ct
  ·obtain⟨d1,d2,d3⟩:=abe.1 h4
   exact⟨acL.1 h1,λx hx=>aez.1 (any_false.1 h2 x hx),pF adr h3,d3,d2,h5⟩
  ·simp only[h1,h2,h3,h4,if_neg h5]at h
   cases h
 ·intro h
  have h1:rtB t.dB=true:=acL.2 h.rt
  have h2:t.Links.any tc=false:=any_false.2 λx hx=>aez.2 (h.rng x hx)
  have h3:jc ltH t.Links=true:=nO h.asc
  have h4:qP t.dB [] t.Links=false:=abe.2 ⟨by simp,h.nrt,h.dup⟩
  simp only[h1,h2,h3,h4,if_pos h.rch];rfl
noncomputable def qQ(t:cM):List Int:=if ckT t=0 then jZ (t.dB::t.Links.map (·.To))else[]
theorem Vr.nodup(h:Vr t):(t.dB::t.Links.map (·.To)).Nodup:=by
 rw[List.nodup_cons]
 refine⟨λhm=>?_,?_⟩
 ·obtain⟨x,hx,e⟩:=List.mem_map.1 hm
  exact h.nrt x hx e
 ·exact List.pairwise_map.2 h.dup
theorem awj(t:cM):(qQ t).Pairwise (·<·):=by
 unfold qQ
 by_cases h:ckT t=0
 ·rw[if_pos h];exact aei (ahZ.1 h).nodup
 ·rw[if_neg h];simp
theorem afs(t:cM):(qQ t).length≤t.Links.length+1:=by
 unfold qQ
 split
 ·rw[yF];simp
 ·simp
theorem aeX(t:cM)(hl:t.Links.length≤100000):jH t=some (qQ t):=by
 unfold jH qQ
 simp only[yc t (by omega),aV]
 by_cases h:ckT t=0
 ·simp only[h,decide_true,Bool.not_true,cond_false,if_true]
  refine(rF (λ_:cB=>true) (λx:cB=>x.To) t.Links 0 [t.dB] (λj x Z s hx hs=>by rw[mY hs];rfl) (by simp;omega)).trans ?_
  rw[show t.Links.filter (λ_:cB=>true)=t.Links from List.filter_eq_self.2 λ_ _=>rfl]
  simp only[List.cons_append,List.nil_append,chk]
  rw[decide_eq_true (by simp;omega)];rfl
 ·simp[h]
theorem ah0(l:List Int):∀(s:List Int),s.Pairwise (·<·)→(l.foldl mZ s).Pairwise (·<·)∧(∀x,x∈l.foldl mZ s↔x∈s∨x∈l)∧(l.foldl mZ s).length≤s.length+l.length:=by
 induction l with
 |nil=>intro s h;exact⟨h,λx=>by simp,by simp⟩
 |cons a r ih=>
  intro s h
  obtain⟨h1,h2,h3⟩:=ih (mZ s a) (acI h)
  refine⟨h1,λx=>?_,?_⟩
  ·rw[List.foldl_cons,h2,xQ,List.mem_cons]
   constructor
   ·rintro((h|h)|h)<;>simp[h]
   ·rintro(h|h|h)<;>simp[h]
  ·have:=xR s a
   rw[List.foldl_cons,List.length_cons];omega
theorem aeA{α β:Type}{B:Int→α→(List Int→Option β)→List Int→Option β}{K:List Int→Option β}(f:α→Int)(hB:∀j x Z (s:List Int),s.length≤100000→B j x Z s=Z (mZ s (f x))):∀(l:List α) (j:Nat) (s:List Int),s.length+l.length≤100000→bF l j B K s=K ((l.map f).foldl mZ s)
 |[],_,s,_=>rfl
 |x::r,j,s,h=>by
  have:=xR s (f x)
  simp only[List.length_cons]at h
  simp only[bF]
  rw[hB _ _ _ _ (by omega),aeA f hB r (j+1) _ (by omega),List.map_cons,List.foldl_cons]
theorem yd(t:cM)(hl:t.Links.length≤90000):kQ t=some (qQ t):=by
 unfold kQ qQ
 simp only[vP t (by omega),aV]
 by_cases h:ckT t=0
 ·simp only[h,decide_true,Bool.not_true,cond_false,if_true]
  refine(aeA (λx:cB=>x.To) (λj x Z s hs=>by rw[anW _ _ hs];rfl) t.Links 0 [t.dB] (by simp;omega)).trans ?_
  obtain⟨h1,h2,h3⟩:=ah0 (t.Links.map (·.To)) [t.dB] (by simp)
  rw[ahM h1 (aei (ahZ.1 h).nodup) (λx=>by rw[h2,ahN];simp)]
 ·simp[h]
theorem ah1(l:List Int)(hl:l.length≤1000000):lq l=some (jc (λa b=>decide (a<b)) l):=by
 unfold lq
 refine(nS (λa b:Int=>decide (a<b)) (some false) (λj x y r q s Z hL hj=>by
  simp only[mX hL hj (by omega),aV]
  by_cases h:y<x
  ·have:¬x≤y:=by omega
   simp[h,this]
  ·have:x≤y:=by omega
   simp[h,this]) _).trans ?_
 cases jc (λa b:Int=>decide (a<b)) l<;>rfl
end Go.Proofs.YtdjeacigeegklaaGreat
