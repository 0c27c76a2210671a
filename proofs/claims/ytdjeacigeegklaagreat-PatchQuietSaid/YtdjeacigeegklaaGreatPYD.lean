/- Plain: trees: the two texts of CheckTree, aj, Bits. No condition but bK bn stand in each. -/
import Derived.Test.YtdjeacigeegklaaGreatPYC
namespace Go.Proofs.YtdjeacigeegklaaGreat
set_option linter.all false
open Go
def xO(h:aV):Bool:=!rtB h.bx||!rtB h.To
def ltH(a b:aV):Bool:=decide (a.bx<b.bx)||(decide (a.bx=b.bx)&&decide (a.To<b.To))
def aaA(a b:aV):Bool:=decide (b.To=a.To)
def wG(root:Int):List aV→List aV→Bool
 |_,[]=>false
 |p,x::r=>(p.any (aaA x)||decide (x.To=root))||wG root (p++[x]) r
inductive Rch(root:Int)(L:List aV):Int→Prop
 |root:Rch root L root
 |step (h:aV):h∈L→Rch root L h.bx→Rch root L h.To
noncomputable def ckT(t:dY):Int:=
 bif !rtB t.dS||t.Links.any xO then 2 else bif kg ltH t.Links then(bif wG t.dS [] t.Links then 8 else @ite Int (∀h∈t.Links,Rch t.dS t.Links h.bx) (Classical.propDecidable _) 0 10)else 25
def qL(f:Int→Bool)(L:List aV):Nat:=(L.filter λh=>!f h.To).length
variable {f:Int→Bool}
theorem ahp{g:Int→Bool}(h:∀x,f x=true→g x=true)(L:List aV):qL g L≤qL f L:=by
 unfold qL
 induction L with
 |nil=>simp
 |cons a r ih=>
  simp only[List.filter_cons]
  cases hf:f a.To
  ·cases hg:g a.To<;>simp<;>omega
  ·rw[h _ hf];simpa using ih
theorem ad8{f g:Int→Bool}(h:∀x,f x=true→g x=true){a:aV}:∀{L:List aV},a∈L→f a.To=false→g a.To=true→qL g L<qL f L
 |[],ha,_,_=>by cases ha
 |b::r,ha,h1,h2=>by
  have hle:=ahp h r
  unfold qL at *
  simp only[List.filter_cons]
  rcases List.mem_cons.1 ha with rfl|ha
  ·rw[h1,h2];simp;omega
  ·have ih:=ad8 h ha h1 h2
   unfold qL at ih
   cases hf:f b.To
   ·cases hg:g b.To<;>simp<;>omega
   ·rw[h _ hf];simpa using ih
structure RI(root:Int)(L:List aV)(f:Int→Bool):Prop where
 rt:f root=true
 sub:∀x,f x=true→Rch root L x
structure RJ(root:Int)(L:List aV)(f0:Int→Bool)(p:List aV)(g:Bool)(f:Int→Bool):Prop where
 ri:RI root L f
 up:∀x,f0 x=true→f x=true
 no:g=false→(∀x,f x=f0 x)∧∀h∈p,f h.bx=true→f h.To=true
 yes:g=true→qL f L<qL f0 L
variable {L:List aV}{root:Int}
theorem RJ.start(h:RI root L f):RJ root L f [] false f:=⟨h,λ_=>id,λ_=>⟨λ_=>rfl,by simp⟩,λh=>by cases h⟩
variable {f0:Int→Bool}{h:aV}{p:List aV}
theorem RJ.add{f':Int→Bool}{g:Bool}(j:RJ root L f0 p g f)(hm:h∈L)(h1:f h.bx=true)(h2:f h.To=false)(hf:∀y,f' y=(decide (y=h.To)||f y)):RJ root L f0 (p++[h]) true f':=by
 have up:∀x,f x=true→f' x=true:=λx hx=>by rw[hf,hx];simp
 have hl:qL f' L<qL f L:=ad8 up hm h2 (by rw[hf];simp)
 refine⟨⟨up _ j.ri.rt,λx hx=>?_⟩,λx hx=>up x (j.up x hx),λh=>(by cases h),λ_=>?_⟩
 ·rw[hf,Bool.or_eq_true,decide_eq_true_eq]at hx
  rcases hx with rfl|hx
  ·exact .step h hm (j.ri.sub _ h1)
  ·exact j.ri.sub x hx
 ·have:=ahp j.up L;omega
theorem RJ.pass{g:Bool}(j:RJ root L f0 p g f)(hn:f h.bx=false∨f h.To=true):RJ root L f0 (p++[h]) g f:=by
 refine⟨j.ri,j.up,λhg=>⟨(j.no hg).1,λx hx hf=>?_⟩,j.yes⟩
 rcases List.mem_append.1 hx with hx|hx
 ·exact(j.no hg).2 x hx hf
 ·simp at hx;subst hx
  rcases hn with hn|hn
  ·rw[hn]at hf;cases hf
  ·exact hn
theorem RI.done(h:RI root L f)(hc:∀x∈L,f x.bx=true→f x.To=true)(x:Int):f x=true↔Rch root L x:=by
 refine⟨h.sub x,λhr=>?_⟩
 induction hr with
 |root=>exact h.rt
 |step y hy _ ih=>exact hc y hy ih
theorem agh(f:Int→Bool)(L:List aV):qL f L≤L.length:=List.length_filter_le _ _
theorem aqL(l:List Int)(a x:Int):decide (x∈l++[a])=(decide (x=a)||decide (x∈l)):=by
 by_cases h1:x=a<;>by_cases h2:x∈l<;>simp[h1,h2]
theorem auC{a b:aV}:(decide (b.bx<a.bx)||(decide (a.bx=b.bx)&&decide (b.To≤a.To)))=!ltH a b:=by
 unfold ltH
 by_cases h1:b.bx<a.bx
 ·have h2:¬a.bx<b.bx:=by omega
  have h3:¬a.bx=b.bx:=by omega
  simp[h1,h2,h3]
 ·by_cases h2:a.bx=b.bx
  ·by_cases h3:a.To<b.To
   ·have h4:¬b.To≤a.To:=by omega
    simp[h1,h2,h3,h4]
   ·have h4:b.To≤a.To:=by omega
    simp[h1,h2,h3,h4]
  ·have h3:a.bx<b.bx:=by omega
   simp[h1,h2,h3]
theorem xo(t:dY)(hl:t.Links.length≤1000000):jT t=some (ckT t):=by
 unfold jT ir
 simp only[aM]
 refine(acp xO (λj x Z s=>by
  unfold xO rtB
  cases s
  ·rfl
  cases decide (1≤x.bx)&&decide (x.bx≤99)<;>simp) _ _ _).trans ?_
 unfold ckT
 have e0:((decide (1≤t.dS)&&decide (t.dS≤99))&&!t.Links.any xO)=!(!rtB t.dS||t.Links.any xO):=by
  unfold rtB;cases(decide (1≤t.dS)&&decide (t.dS≤99))<;>simp
 rw[e0,Bool.not_not]
 cases(!rtB t.dS||t.Links.any xO)
 ·simp only[cond_false]
  refine(sx ltH (some 25) (λj x y r q s Z hL hj=>by
   simp only[qi hL hj (by omega),aM,auC]
   cases ltH y x<;>rfl) _).trans ?_
  cases kg ltH t.Links
  ·rfl
  ·simp only[cond_true]
   refine(jQ (L:=t.Links) (λ_ _=>True) (λp l=>bif wG t.dS p l then some 8 else some (@ite Int (∀h∈t.Links,Rch t.dS t.Links h.bx) (Classical.propDecidable _) 0 10)) (λs _=>?_) (λp x r s Z h _ hZ=>?_) t.Links [] () rfl trivial).trans ?_
   ·simp only[wG,cond_false]
    refine Ok.eq (Ok.whl (λsg:List Int×Bool=>(RI t.dS t.Links (λx=>decide (x∈sg.1))∧(sg.2=false→∀x∈t.Links,x.bx∈sg.1→x.To∈sg.1))∧sg.1.length+qL (λx=>decide (x∈sg.1)) t.Links≤1+t.Links.length) (λsg=>2*qL (λx=>decide (x∈sg.1)) t.Links+if sg.2 then 1 else 0) ?_ ?_ ?_)
    ·refine⟨⟨⟨by simp,λx hx=>?_⟩,λh=>by cases h⟩,?_⟩
     ·simp at hx;subst hx;exact .root
     ·have:=agh (λx=>decide (x∈[t.dS])) t.Links
      simp only[List.length_singleton];omega
    ·have:=agh (λx=>decide (x∈[t.dS])) t.Links
     show 2*qL (λx=>decide (x∈[t.dS])) t.Links+1<_
     omega
    ·rintro⟨m,g⟩ Z ⟨⟨h1,h2⟩,h3⟩ hZ
     refine Ok.cs (λhg=>?_) (λhg=>?_)
     ·refine Ok.acg (L:=t.Links) (λp (sg:List Int×Bool)=>RJ t.dS t.Links (λx=>decide (x∈m)) p sg.2 (λx=>decide (x∈sg.1))∧sg.1.length+qL (λx=>decide (x∈sg.1)) t.Links≤1+t.Links.length) (λp x r s Z2 hL hI hZ2=>?_) (m,false) ⟨RJ.start h1,h3⟩ (λs hs=>?_)
      ·obtain⟨m2,g2⟩:=s
       obtain⟨hI,hI2⟩:=hI
       simp only at hI2
       have hm:x∈t.Links:=by rw[hL];simp
       simp only[jn,acm,aM]
       by_cases c1:x.bx∈m2
       ·by_cases c2:x.To∈m2
        ·simp only[c1,c2,decide_true,cond_true,Bool.not_true,cond_false]
         exact hZ2 _ ⟨hI.pass (.inr (by simpa using c2)),hI2⟩
        ·simp only[c1,c2,decide_true,cond_true,decide_false,Bool.not_false]
         refine Ok.bnd (tv (by simp only[List.length_singleton];omega)) λm3 q3=>?_
         rw[q3.1]
         have hlt:=ad8 (f:=λy=>decide (y∈m2)) (g:=λy=>decide (y∈m2++[x.To])) (λy hy=>by simp at hy;simp[hy]) hm (by simpa using c2) (by simp)
         refine hZ2 _ ⟨hI.add hm (by simpa using c1) (by simpa using c2) (λy=>aqL m2 x.To y),?_⟩
         simp only[List.length_append,List.length_singleton];omega
       ·simp only[c1,decide_false,cond_false]
        exact hZ2 _ ⟨hI.pass (.inl (by simpa using c1)),hI2⟩
      ·obtain⟨m2,g2⟩:=s
       obtain⟨hs,hs2⟩:=hs
       have hg:g=true:=hg
       subst hg
       refine hZ (m2,g2) ⟨⟨hs.ri,λhg2 x hx hf=>by simpa using (hs.no hg2).2 x hx (by simpa using hf)⟩,hs2⟩ ?_
       cases g2
       ·have e:(λx=>decide (x∈m2))=(λx=>decide (x∈m)):=funext (hs.no rfl).1
        simp only[e];simp
       ·have:=hs.yes rfl
        simp;omega
     ·have hd:=h1.done (λx hx hf=>by simpa using h2 hg x hx (by simpa using hf))
      refine⟨@ite Int (∀h∈t.Links,Rch t.dS t.Links h.bx) (Classical.propDecidable _) 0 10,(gO (λx:aV=>!decide (x.bx∈m)) (some 10) (λj x Z s=>by simp only[acm,aM]) _ _ _).trans ?_,rfl⟩
      by_cases hall:∀h∈t.Links,Rch t.dS t.Links h.bx
      ·rw[if_pos hall,any_false.2 (λx hx=>by have:=(hd x.bx).2 (hall x hx);simpa using this)];rfl
      ·rw[if_neg hall]
       have:t.Links.any (λx:aV=>!decide (x.bx∈m))=true:=by
        refine Classical.byContradiction λhn=>hall λh hh=>(hd h.bx).1 ?_
        have:=any_false.1 (Bool.not_eq_true _▸hn) h hh
        simpa using this
       rw[this];rfl
   ·simp only[ahn h,aM]
    refine(gO (aaA x) (some 8) (by intros;rfl) _ _ _).trans ?_
    rw[hZ () trivial,wG]
    cases p.any (aaA x)
    ·cases decide (x.To=t.dS)<;>rfl
    ·rfl
   ·cases wG t.dS [] t.Links<;>rfl
 ·rfl
structure Vr(t:dY):Prop where
 rt:1≤t.dS∧t.dS≤99
 rng:∀h∈t.Links,(1≤h.bx∧h.bx≤99)∧1≤h.To∧h.To≤99
 asc:t.Links.Pairwise λa b=>ltH a b=true
 dup:t.Links.Pairwise λa b=>a.To≠b.To
 nrt:∀h∈t.Links,h.To≠t.dS
 rch:∀h∈t.Links,Rch t.dS t.Links h.bx
theorem aeU(a b c:aV)(h1:ltH a b=true)(h2:ltH b c=true):ltH a c=true:=by
 simp[ltH]at *;omega
theorem acs{root:Int}:∀{l p:List aV},wG root p l=false↔(∀a∈p,∀b∈l,a.To≠b.To)∧(∀b∈l,b.To≠root)∧l.Pairwise λa b=>a.To≠b.To
 |[],p=>by simp[wG]
 |x::r,p=>by
  rw[wG,Bool.or_eq_false_iff,Bool.or_eq_false_iff,acs,any_false,List.pairwise_cons]
  constructor
  ·rintro⟨⟨h1,h0⟩,h2,h4,h3⟩
   refine⟨λa ha b hb=>?_,λb hb=>?_,λb hb=>h2 x (by simp) b hb,h3⟩
   ·rcases List.mem_cons.1 hb with rfl|hb
    ·have:=h1 a ha;simpa [aaA]using this
    ·exact h2 a (by simp[ha]) b hb
   ·rcases List.mem_cons.1 hb with rfl|hb
    ·simpa using h0
    ·exact h4 b hb
  ·rintro⟨h1,h4,h2,h3⟩
   refine⟨⟨λa ha=>by simpa [aaA]using h1 a ha x (by simp),by simpa using h4 x (by simp)⟩,λa ha b hb=>?_,λb hb=>h4 b (by simp[hb]),h3⟩
   rcases List.mem_append.1 ha with ha|ha
   ·exact h1 a ha b (by simp[hb])
   ·simp at ha;subst ha;exact h2 b hb
theorem ad9{n:Int}:rtB n=true↔1≤n∧n≤99:=by simp[rtB]
theorem agi:xO h=false↔(1≤h.bx∧h.bx≤99)∧1≤h.To∧h.To≤99:=by
 simp[xO,ad9]
variable {t:dY}
theorem adk:ckT t=0↔Vr t:=by
 unfold ckT
 constructor
 ·intro h
  cases h1:rtB t.dS with
  |false=>simp[h1]at h
  |true=>
  cases h2:t.Links.any xO with
  |true=>simp[h1,h2]at h
  |false=>
  cases h3:kg ltH t.Links with
  |false=>simp[h1,h2,h3]at h
  |true=>
  cases h4:wG t.dS [] t.Links with
  |true=>simp[h1,h2,h3,h4]at h
  |false=>
  by_cases h5:∀h∈t.Links,Rch t.dS t.Links h.bx
  ·obtain⟨d1,d2,d3⟩:=acs.1 h4
   exact⟨ad9.1 h1,λx hx=>agi.1 (any_false.1 h2 x hx),qj aeU h3,d3,d2,h5⟩
  ·simp only[h1,h2,h3,h4,if_neg h5]at h
   cases h
 ·intro h
  have h1:rtB t.dS=true:=ad9.2 h.rt
  have h2:t.Links.any xO=false:=any_false.2 λx hx=>agi.2 (h.rng x hx)
  have h3:kg ltH t.Links=true:=mS h.asc
  have h4:wG t.dS [] t.Links=false:=acs.2 ⟨by simp,h.nrt,h.dup⟩
  simp only[h1,h2,h3,h4,if_pos h.rch];rfl
noncomputable def nX(t:dY):List Int:=if ckT t=0 then jC (t.dS::t.Links.map (·.To))else[]
theorem Vr.nodup(h:Vr t):(t.dS::t.Links.map (·.To)).Nodup:=by
 rw[List.nodup_cons]
 refine⟨λhm=>?_,?_⟩
 ·obtain⟨x,hx,e⟩:=List.mem_map.1 hm
  exact h.nrt x hx e
 ·exact List.pairwise_map.2 h.dup
theorem abc(h:Vr t){x:Int}:x∈nX t↔x=t.dS∨∃h∈t.Links,h.To=x:=by
 unfold nX;rw[if_pos (adk.2 h),xb];simp
theorem auD(t:dY):(nX t).Pairwise (·<·):=by
 unfold nX
 by_cases h:ckT t=0
 ·rw[if_pos h];exact y4 (adk.1 h).nodup
 ·rw[if_neg h];simp
theorem aqM(t:dY):(nX t).length≤t.Links.length+1:=by
 unfold nX
 split
 ·rw[zS];simp
 ·simp
theorem ajE(l:List Int):∀(s:List Int),s.Pairwise (·<·)→(l.foldl nW s).Pairwise (·<·)∧(∀x,x∈l.foldl nW s↔x∈s∨x∈l)∧(l.foldl nW s).length≤s.length+l.length:=by
 induction l with
 |nil=>intro s h;exact⟨h,λx=>by simp,by simp⟩
 |cons a r ih=>
  intro s h
  obtain⟨h1,h2,h3⟩:=ih (nW s a) (ahk h)
  refine⟨h1,λx=>?_,?_⟩
  ·rw[List.foldl_cons,h2,acn,List.mem_cons]
   constructor
   ·rintro((h|h)|h)<;>simp[h]
   ·rintro(h|h|h)<;>simp[h]
  ·have:=aco s a
   rw[List.foldl_cons,List.length_cons];omega
theorem agj{α β:Type}{B:Int→α→(List Int→Option β)→List Int→Option β}{K:List Int→Option β}(f:α→Int)(hB:∀j x Z (s:List Int),s.length≤100000→B j x Z s=Z (nW s (f x))):∀(l:List α) (j:Nat) (s:List Int),s.length+l.length≤100000→bD l j B K s=K ((l.map f).foldl nW s)
 |[],_,s,_=>rfl
 |x::r,j,s,h=>by
  have:=aco s (f x)
  simp only[List.length_cons]at h
  simp only[bD]
  rw[hB _ _ _ _ (by omega),agj f hB r (j+1) _ (by omega),List.map_cons,List.foldl_cons]
theorem uO(t:dY)(hl:t.Links.length≤90000):jK t=some (nX t):=by
 unfold jK nX
 simp only[xo t (by omega),aM]
 by_cases h:ckT t=0
 ·simp only[h,decide_true,Bool.not_true,cond_false,if_true]
  refine(agj (λx:aV=>x.To) (λj x Z s hs=>by rw[ax5 _ _ hs];rfl) t.Links 0 [t.dS] (by simp;omega)).trans ?_
  obtain⟨h1,h2,h3⟩:=ajE (t.Links.map (·.To)) [t.dS] (by simp)
  rw[aau h1 (y4 (adk.1 h).nodup) (λx=>by rw[h2,xb];simp)]
 ·simp[h]
theorem ajF(l:List Int)(hl:l.length≤1000000):mg l=some (kg (λa b=>decide (a<b)) l):=by
 unfold mg
 refine(sx (λa b:Int=>decide (a<b)) (some false) (λj x y r q s Z hL hj=>by
  simp only[qi hL hj (by omega),aM]
  by_cases h:y<x
  ·have:¬x≤y:=by omega
   simp[h,this]
  ·have:x≤y:=by omega
   simp[h,this]) _).trans ?_
 cases kg (λa b:Int=>decide (a<b)) l<;>rfl
end Go.Proofs.YtdjeacigeegklaaGreat
