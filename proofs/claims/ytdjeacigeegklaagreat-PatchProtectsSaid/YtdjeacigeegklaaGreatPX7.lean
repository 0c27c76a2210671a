/- Plain: the law afl is true. No condition. -/
import Derived.Test.YtdjeacigeegklaaGreatPA2
import Derived.Test.YtdjeacigeegklaaGreatDL7
namespace Go.Proofs.YtdjeacigeegklaaGreat
set_option linter.all false
open Go
theorem adA{α γ:Type}{F:α→List γ}{A:List γ}{h:α→γ}{pred:α→Bool}:∀l:List α,(∀a∈l,F a=if pred a=true then A else[h a])→(l.flatMap F).Perm ((l.filter pred).flatMap (λ_=>A)++(l.filter λa=>!pred a).map h)
 |[],_=>by simp
 |a::l,hl=>by
  have ih:=adA l λz hz=>hl z (by simp[hz])
  rw[List.flatMap_cons,hl a (by simp)]
  cases hp:pred a
  ·rw[if_neg (by simp),List.filter_cons_of_neg (by simp[hp]),List.filter_cons_of_pos (by simp[hp]),List.map_cons]
   show(h a::l.flatMap F).Perm _
   exact(ih.cons (h a)).trans List.perm_middle.symm
  ·rw[if_pos rfl,List.filter_cons_of_pos hp,List.filter_cons_of_neg (by simp[hp]),List.flatMap_cons,List.append_assoc]
   exact ih.append_left A
theorem aq4{l:List aq}:(∀a∈l,0≤a.Bit∧a.Bit<64)→∀(s:Int) (i:Nat),tbi (l.foldl orA s) i=true↔tbi s i=true∨∃a∈l,a.Bit=i:=by
 induction l with
 |nil=>intro _ s i;simp
 |cons a l ih=>
  intro h s i
  have hb:=h a (by simp)
  rw[List.foldl_cons,ih (λz hz=>h z (by simp[hz]))]
  unfold orA acv
  rw[tbo,qq a.Bit.toNat i (by omega),Bool.or_eq_true,decide_eq_true_eq]
  constructor
  ·rintro((h|h)|⟨z,hz,h⟩)
   ·exact .inl h
   ·exact .inr ⟨a,by simp,by omega⟩
   ·exact .inr ⟨z,by simp[hz],h⟩
  ·rintro(h|⟨z,hz,h⟩)
   ·exact .inl (.inl h)
   ·rcases List.mem_cons.1 hz with rfl|hz
    ·exact .inl (.inr (by omega))
    ·exact .inr ⟨z,hz,h⟩
section
variable {g:aa}{e:aC}{x:dz}{rs:List Int}{B:Int}{f:bg}{u n:Int}
structure Nb(g:aa)(e:aC)(x:dz)(B u n:Int)(done:List Int)(P:aH):Prop where
 pn:∀a∈e.List,a.aO=n→tbi P.Bits a.Bit.toNat=tbi B a.Bit.toNat
 pb:∀a∈e.List,a.aO∉u::done→a.aO≠n→tbi P.Bits a.Bit.toNat=tbi B a.Bit.toNat
 kd:∀m,aN.mk n m∈x.Links→m∉u::done
theorem Nb.rest{done:List Int}{P:aH}(hF:Fl g e x rs B f u n)(h:Nb g e x B u n done P){m:Int}(hm:aN.mk n m∈x.Links):dZ e n P≠0:=
 hF.td.rest (z:=m) (.inr ⟨_,hm,rfl⟩) (λh=>hF.nn hm h.symm) λa ha har=>h.pb a ha (by rw[har];exact h.kd m hm) (by rw[har];exact λh=>hF.nn hm h.symm)
theorem Nb.hit{done:List Int}{P:aH}(h:Nb g e x B u n done P){a:aq}(ha:a∈e.List):jl n P a=true↔a.aO=n∧tbi B a.Bit.toNat=true:=by
 unfold jl
 rw[Bool.and_eq_true,decide_eq_true_eq]
 constructor
 ·rintro⟨h1,h2⟩;exact⟨h1,by rw[←h.pn a ha h1];exact h2⟩
 ·rintro⟨h1,h2⟩;exact⟨h1,by rw[h.pn a ha h1];exact h2⟩
theorem Nb.det{done:List Int}{P:aH}(hF:Fl g e x rs B f u n)(h:Nb g e x B u n done P){a:aq}(ha:a∈e.List):pq e g n u P a=true↔a.aO=n∧a.Kind=1∧aN.mk n a.To∈x.Links∧fh g n u a.To≠[]:=by
 unfold pq
 simp only[Bool.and_eq_true,Bool.not_eq_true',decide_eq_false_iff_not]
 rw[h.hit ha]
 have hk:=hF.td.ef.v.kind a ha
 have hk2:=hF.td.kd a ha
 constructor
 ·rintro⟨⟨⟨⟨⟨h1,h2⟩,h3⟩,_⟩,h5⟩,_⟩
  have h1k:a.Kind=1:=by omega
  rw[hF.td.acz ha h1k,h1]at h2
  exact⟨h1,h1k,h2,h5⟩
 ·rintro⟨h1,h2,h3,h4⟩
  refine⟨⟨⟨⟨⟨h1,by rw[hF.td.acz ha h2,h1];exact h3⟩,by omega⟩,λhu=>?_⟩,h4⟩,h.rest hF h3⟩
  rw[hu]at h3;exact hF.aaK h3
theorem Nb.bound{done:List Int}{P:aH}(hF:Fl g e x rs B f u n)(h:Nb g e x B u n done P){a:aq}(ha:a∈e.List):o6 g n u P a=true↔a.aO=n∧a.Kind=1∧aN.mk n a.To∈x.Links∧fh g n u a.To=[]:=by
 unfold o6
 simp only[Bool.and_eq_true,Bool.not_eq_true',decide_eq_false_iff_not,decide_eq_true_eq]
 rw[h.hit ha]
 have hk:=hF.td.ef.v.kind a ha
 have hk2:=hF.td.kd a ha
 constructor
 ·rintro⟨⟨⟨⟨h1,h2⟩,h3⟩,_⟩,h5⟩
  have h1k:a.Kind=1:=by omega
  rw[hF.td.acz ha h1k,h1]at h2
  exact⟨h1,h1k,h2,h5⟩
 ·rintro⟨h1,h2,h3,h4⟩
  refine⟨⟨⟨⟨h1,by rw[hF.td.acz ha h2,h1];exact h3⟩,by omega⟩,λhu=>?_⟩,h4⟩
  rw[hu]at h3;exact hF.aaK h3
theorem Nb.own{done:List Int}{P:aH}(hF:Fl g e x rs B f u n)(h:Nb g e x B u n done P){a:aq}(ha:a∈e.List):qe g n u P a=true↔a.aO=n∧((a.Kind=3∧n∈rs)∨(a.Kind=1∧aN.mk n a.To∈x.Links∧fh g n u a.To=[])):=by
 unfold qe
 rw[Bool.or_eq_true,h.bound hF ha,Bool.and_eq_true,h.hit ha,decide_eq_true_eq]
 constructor
 ·rintro(⟨⟨h1,h2⟩,h3⟩|⟨h1,h2⟩)
  ·rw[hF.td.amr ha h3,h1]at h2;exact⟨h1,.inl ⟨h3,h2⟩⟩
  ·exact⟨h1,.inr h2⟩
 ·rintro⟨h1,(⟨h2,h3⟩|h2)⟩
  ·exact .inl ⟨⟨h1,by rw[hF.td.amr ha h2,h1];exact h3⟩,h2⟩
  ·exact .inr ⟨h1,h2⟩
theorem agY(hE:Ve e)(pr:aq→Bool){a:aq}(ha:a∈e.List):tbi ((e.List.filter pr).foldl orA 0) a.Bit.toNat=pr a:=by
 have hb:=hE.bit ha
 rw[Bool.eq_iff_iff,aq4 (λz hz=>hE.bit (List.mem_filter.1 hz).1),mF]
 constructor
 ·rintro(h|⟨z,hz,h⟩)
  ·cases h
  ·obtain⟨z1,z2⟩:=List.mem_filter.1 hz
   have:=hE.abd z1 ha (by omega)
   subst this;exact z2
 ·intro h
  exact .inr ⟨a,List.mem_filter.2 ⟨ha,h⟩,by omega⟩
theorem fold_zero(hE:Ve e)(pr:aq→Bool):(e.List.filter pr).foldl orA 0=0↔∀a∈e.List,pr a=false:=by
 constructor
 ·intro h a ha
  rw[←agY hE pr ha,h,mF]
 ·intro h
  rw[show e.List.filter pr=[]from List.filter_eq_nil_iff.2 λa ha=>by simp[h a ha]];rfl
theorem Nb.aro{done:List Int}{P:aH}(hF:Fl g e x rs B f u n)(h:Nb g e x B u n done P)(hP:Pk e P):
  (((ni e g u n P).1.filter (kX (aP g f) u)).map tgC).Nodup∧(∀z,z∈((ni e g u n P).1.filter (kX (aP g f) u)).map tgC↔(aN.mk n z∈x.Links∧fh g n u z≠[])∨(z=n∧f.ah=[]∧gq g n u≠[]∧(n∈rs∨∃m,aN.mk n m∈x.Links∧fh g n u m=[])))∧
  (ni e g u n P).1.length≤((ni e g u n P).1.filter (kX (aP g f) u)).length+1∧(∀c∈(ni e g u n P).1,c.Frame.fU.length≤30∧c.Frame.aB.TTL=P.TTL)∧
  ∀c∈(ni e g u n P).1,kX (aP g f) u c=true→Bt g e x rs B u n (u::done) (tgC c) c.Frame.aB:=by
 have hE:=hF.td.ef.v
 have hdm:∀a,a∈e.List.filter (pq e g n u P)↔a∈e.List∧a.aO=n∧a.Kind=1∧aN.mk n a.To∈x.Links∧fh g n u a.To≠[]:=λa=>by
  rw[List.mem_filter]
  constructor
  ·rintro⟨h1,h2⟩;exact⟨h1,(h.det hF h1).1 h2⟩
  ·rintro⟨h1,h2⟩;exact⟨h1,(h.det hF h1).2 h2⟩
 have d0:∀c∈(trA e g n u P e.List).1,∃a∈e.List.filter (pq e g n u P),c=iR P (dZ e n P) (fh g n u a.To):=λc hc=>by
  obtain⟨a,ha,rfl⟩:=List.mem_map.1 hc;exact⟨a,ha,rfl⟩
 have dl:(trA e g n u P e.List).1.filter (kX (aP g f) u)=(trA e g n u P e.List).1:=List.filter_eq_self.2 λc hc=>by
  obtain⟨a,ha,rfl⟩:=d0 c hc
  have hv:=((hdm a).1 ha).2.2.2.2
  unfold kX
  rw[afd P _ hv];exact(hF.via hv).1
 have dt:(trA e g n u P e.List).1.map tgC=(e.List.filter (pq e g n u P)).map (·.To):=by
  show((e.List.filter (pq e g n u P)).map _).map tgC=_
  rw[List.map_map]
  refine List.map_congr_left λa ha=>?_
  have hv:=((hdm a).1 ha).2.2.2.2
  show tgC (iR P (dZ e n P) (fh g n u a.To))=a.To
  rw[aaJ P _ u hv,(hF.via hv).2]
 have dn:((e.List.filter (pq e g n u P)).map (·.To)).Nodup:=by
  have hp:=wH (l:=e.List.filter (pq e g n u P)) (f:=jm) (m:=x.Links.filter λk=>decide (k.bn=n)&&!decide (fh g n u k.To=[])) ((abi hE).sublist List.filter_sublist) (λa ha b hb hab=>by
   obtain⟨a1,a2,a3,_⟩:=(hdm a).1 ha
   obtain⟨b1,b2,b3,_⟩:=(hdm b).1 hb
   refine hE.key_inj a1 b1 ?_
   simp only[jm,aN.mk.injEq]at hab
   simp[tgA,hab.1,hab.2,a3,b3]) ((adw hF.td.vr.asc).sublist List.filter_sublist) λk=>by
    rw[List.mem_filter,Bool.and_eq_true,decide_eq_true_eq,Bool.not_eq_true',decide_eq_false_iff_not]
    constructor
    ·rintro⟨a,ha,rfl⟩
     obtain⟨_,a2,_,a4,a5⟩:=(hdm a).1 ha
     exact⟨by unfold jm;rw[a2];exact a4,a2,a5⟩
    ·rintro⟨h1,h2,h3⟩
     obtain⟨a,ha,a1,a2,a3⟩:=hF.td.h1 k h1
     have e1:jm a=k:=by unfold jm;rw[a1,a3]
     exact⟨a,(hdm a).2 ⟨ha,by rw[a1,h2],a2,by rw[←h2,a3];exact h1,by rw[a3];exact h3⟩,e1⟩
  have h2:=hp.map (·.To)
  rw[List.map_map]at h2
  have h3:((e.List.filter (pq e g n u P)).map (·.To)).Perm _:=h2
  exact h3.nodup_iff.2 ((List.pairwise_map.2 hF.td.vr.dup:(x.Links.map (·.To)).Nodup).sublist (List.filter_sublist.map _))
 have dm:∀z,z∈(e.List.filter (pq e g n u P)).map (·.To)↔aN.mk n z∈x.Links∧fh g n u z≠[]:=λz=>by
  rw[List.mem_map]
  constructor
  ·rintro⟨a,ha,rfl⟩;exact((hdm a).1 ha).2.2.2
  ·rintro⟨h1,h2⟩
   obtain⟨a,ha,a1,a2,a3⟩:=hF.td.h1 _ h1
   exact⟨a,(hdm a).2 ⟨ha,a1,a2,by rw[a3];exact h1,by rw[a3];exact h2⟩,a3⟩
 have dr:∀c∈(trA e g n u P e.List).1,c.Frame.fU.length≤30∧c.Frame.aB.TTL=P.TTL:=λc hc=>by
  obtain⟨a,ha,rfl⟩:=d0 c hc
  have hv:=((hdm a).1 ha).2.2.2.2
  have hl:=vf (aP g (bg.mk [] [n])) u a.To
  have hl:(fh g n u a.To).length≤30:=hl
  cases hq:fh g n u a.To with
  |nil=>exact absurd hq hv
  |cons y l=>rw[hq]at hl;simp only[List.length_cons]at hl;exact⟨by show l.length≤30;omega,rfl⟩
 have db:∀c∈(trA e g n u P e.List).1,Bt g e x rs B u n (u::done) (tgC c) c.Frame.aB:=λc hc=>by
  obtain⟨a,ha,rfl⟩:=d0 c hc
  obtain⟨_,_,_,hm,hv⟩:=(hdm a).1 ha
  have ht:tgC (iR P (dZ e n P) (fh g n u a.To))=a.To:=by rw[aaJ P _ u hv,(hF.via hv).2]
  have ug:(iR P (dZ e n P) (fh g n u a.To)).Frame.aB.Bits=dZ e n P:=by
   cases hq:fh g n u a.To with
   |nil=>exact absurd hq hv
   |cons y l=>rfl
  have hn:a.To≠n:=λh=>hF.nn hm h.symm
  rw[ht]
  refine⟨λ_ b hb h1 h2=>?_,λ_ h1=>absurd (List.mem_cons_self ..) h1,λh=>absurd h hn,λh=>absurd h hn⟩
  rw[ug,oT hE hb h2,h.pb b hb h1 h2]
 have auS:(trA e g n u P e.List).2.1=0↔¬(n∈rs∨∃m,aN.mk n m∈x.Links∧fh g n u m=[]):=by
  show(e.List.filter (qe g n u P)).foldl orA 0=0↔_
  rw[fold_zero hE]
  constructor
  ·rintro h0 (h1|⟨m,h1,h2⟩)
   ·obtain⟨a,ha,a1,a2⟩:=hF.td.h3 n h1
    have:=h0 a ha
    rw[(h.own hF ha).2 ⟨a1,.inl ⟨a2,h1⟩⟩]at this;cases this
   ·obtain⟨a,ha,a1,a2,a3⟩:=hF.td.h1 _ h1
    have:=h0 a ha
    rw[(h.own hF ha).2 ⟨a1,.inr ⟨a2,by rw[a3];exact h1,by rw[a3];exact h2⟩⟩]at this;cases this
  ·intro h0 a ha
   cases ho:qe g n u P a
   ·rfl
   ·exfalso
    rcases((h.own hF ha).1 ho).2 with⟨_,h1⟩|⟨_,h1,h2⟩
    ·exact h0 (.inl h1)
    ·exact h0 (.inr ⟨_,h1,h2⟩)
 have bndz:(trA e g n u P e.List).2.2=0→¬∃m,aN.mk n m∈x.Links∧fh g n u m=[]:=by
  show(e.List.filter (o6 g n u P)).foldl orA 0=0→_
  rw[fold_zero hE]
  rintro h0 ⟨m,h1,h2⟩
  obtain⟨a,ha,a1,a2,a3⟩:=hF.td.h1 _ h1
  have:=h0 a ha
  rw[(h.bound hF ha).2 ⟨a1,a2,by rw[a3];exact h1,by rw[a3];exact h2⟩]at this;cases this
 unfold ni
 by_cases h0:(trA e g n u P e.List).2.1=0
 ·rw[if_pos h0]
  dsimp only
  rw[dl,dt]
  refine⟨dn,λz=>?_,by omega,dr,λc hc _=>db c hc⟩
  rw[dm]
  exact⟨λh=>.inl h,λh=>h.elim id λh=>absurd h.2.2.2 (auS.1 h0)⟩
 rw[if_neg h0]
 by_cases hb:gq g n u=[]
 ·rw[if_pos hb]
  dsimp only
  rw[dl,dt]
  refine⟨dn,λz=>?_,by omega,dr,λc hc _=>db c hc⟩
  rw[dm]
  exact⟨λh=>.inl h,λh=>h.elim id λh=>absurd hb h.2.2.1⟩
 rw[if_neg hb]
 dsimp only
 generalize hbb:(if(trA e g n u P e.List).2.2=0 then(trA e g n u P e.List).2.1 else br .or .u64 (trA e g n u P e.List).2.1 (dZ e n P))=b
 obtain⟨k1,k2⟩:=hF.back hb
 have hown:n∈rs∨∃m,aN.mk n m∈x.Links∧fh g n u m=[]:=Classical.byContradiction λhq=>h0 (auS.2 hq)
 have hct:tgC (iR P b (gq g n u))=n:=by rw[aaJ P _ u hb,k1]
 have hcl:kX (aP g f) u (iR P b (gq g n u))=true↔f.ah=[]:=by
  unfold kX
  rw[afd P _ hb];exact k2
 have hcb:(iR P b (gq g n u)).Frame.aB.Bits=b:=by
  cases hq:gq g n u with
  |nil=>exact absurd hq hb
  |cons y l=>rfl
 have hcr:(iR P b (gq g n u)).Frame.fU.length≤30∧(iR P b (gq g n u)).Frame.aB.TTL=P.TTL:=by
  have hl:=vf (aP g (bg.mk [aN.mk u n] [])) u n
  have hl:(gq g n u).length≤30:=hl
  cases hq:gq g n u with
  |nil=>exact absurd hq hb
  |cons y l=>rw[hq]at hl;simp only[List.length_cons]at hl;exact⟨by show l.length≤30;omega,rfl⟩
 have hbt:Bt g e x rs B u n (u::done) n (iR P b (gq g n u)).Frame.aB:=by
  have hob:∀a∈e.List,tbi (trA e g n u P e.List).2.1 a.Bit.toNat=qe g n u P a:=λa ha=>agY hE (qe g n u P) ha
  refine⟨λh=>absurd rfl h,λh=>absurd rfl h,λ_ a ha har=>?_,λ_ hex a ha h1 h2=>?_⟩
  ·rw[hcb,←hbb]
   have hkey:qe g n u P a=true↔(a.Kind=3∧n∈rs)∨(a.Kind=1∧aN.mk n a.To∈x.Links∧fh g n u a.To=[]):=by
    rw[h.own hF ha]
    exact⟨λh=>h.2,λh=>⟨har,h⟩⟩
   split
   ·rw[hob a ha];exact hkey
   ·rw[tbo,hob a ha,amq hE ha har,Bool.or_false];exact hkey
  ·rw[hcb,←hbb,if_neg λhz=>bndz hz hex,tbo,hob a ha,oT hE ha h2,h.pb a ha h1 h2]
   have:qe g n u P a=false:=by
    cases ho:qe g n u P a
    ·rfl
    ·exact absurd ((h.own hF ha).1 ho).1 h2
   rw[this,Bool.false_or]
 rw[List.filter_append,List.map_append,dl,dt]
 have hnm:n∉(e.List.filter (pq e g n u P)).map (·.To):=λhm=>hF.nn ((dm n).1 hm).1 rfl
 refine⟨?_,λz=>?_,?_,λc hc=>?_,λc hc hl=>?_⟩
 ·by_cases hA:f.ah=[]
  ·rw[List.filter_cons_of_pos (hcl.2 hA),List.filter_nil,List.map_cons,List.map_nil,hct,List.nodup_append]
   exact⟨dn,by simp,λa ha b hb2 hab=>by rw[List.mem_singleton]at hb2;rw[hab,hb2]at ha;exact hnm ha⟩
  ·rw[List.filter_cons_of_neg (λh=>hA (hcl.1 h)),List.filter_nil,List.map_nil,List.append_nil];exact dn
 ·rw[List.mem_append,dm]
  by_cases hA:f.ah=[]
  ·rw[List.filter_cons_of_pos (hcl.2 hA),List.filter_nil,List.map_cons,List.map_nil,hct,List.mem_singleton]
   constructor
   ·rintro(h|h)
    ·exact .inl h
    ·exact .inr ⟨h,hA,hb,hown⟩
   ·rintro(h|h)
    ·exact .inl h
    ·exact .inr h.1
  ·rw[List.filter_cons_of_neg (λh=>hA (hcl.1 h)),List.filter_nil,List.map_nil]
   constructor
   ·rintro(h|h)
    ·exact .inl h
    ·cases h
   ·rintro(h|h)
    ·exact .inl h
    ·exact absurd h.2.1 hA
 ·rw[List.length_append,List.length_append];simp only[List.length_cons,List.length_nil];omega
 ·rcases List.mem_append.1 hc with hc|hc
  ·exact dr c hc
  ·rw[List.mem_singleton]at hc;subst hc;exact hcr
 ·rcases List.mem_append.1 hc with hc|hc
  ·exact db c hc
  ·rw[List.mem_singleton]at hc;subst hc;rw[hct];exact hbt
theorem mq.parent(hF:Fl g e x rs B f u n){p:aH}{q:List az}{D:List bX}{C:List b8}{done:List Int}(h:mq g e x rs B f u n (az.mk u (bL.mk [] p)::q) D C done):
  mq g e x rs B f u n (q++gM e g f (aP g f) (az.mk u (bL.mk [] p))) (D++pz e (az.mk u (bL.mk [] p))) (C++iW e g f (aP g f) (az.mk u (bL.mk [] p))) (u::done):=by
 obtain⟨hyd,hpk,t0,t1,zi,hB,fresh,_,_⟩:=h.head hF
 have hE:=hF.td.ef.v
 have hun:=hF.ne
 have hp:∀a∈e.List,a.aO=u→tbi p.Bits a.Bit.toNat=tbi B a.Bit.toNat:=λa ha hr=>hB.b2 hun a ha (by rw[hr];exact hyd) (by rw[hr];exact hun)
 have hnd:n∉done:=λhn=>by
  obtain⟨z,hz,hk⟩:=h.par n (List.mem_append_right _ hn) hF.zl
  rw[hF.ai3 hk]at hz;exact hyd hz
 have aaL:∀k∈x.Links,k.bn=u→k.To≠n→Kid g x rs f u n u k.To:=λk hk hky hkn=>.inl ⟨hun,hkn,by rw[←hky];exact hk⟩
 have akd:dZ e u p≠0:=hF.td.rest (z:=n) (.inr ⟨_,hF.un,rfl⟩) hun.symm λa ha har=>hB.b3 hun hyd a ha har
 have hs:=hF.td.adx (y:=u) (p:=p) (λ_=>true) (λa ha h1 h2=>by rw[hp a ha h1,hF.td.acz ha h2,h1];simp) (by omega) λk hk h1 _=>akd
 have hin:∀a∈cv e u p,jm a∈x.Links∧(jm a).bn=u:=λa ha=>by
  have:=List.mem_filter.1 (hs.mem_iff.1 (List.mem_map.2 ⟨a,ha,rfl⟩))
  rw[Bool.and_eq_true,decide_eq_true_eq]at this
  exact⟨this.1,this.2.1⟩
 have keep:∀k∈x.Links,k.bn=u→k.To≠n→dR (aP g f) u k.To=true∧k.To∉dnT g f u:=λk hk hky hkn=>by
  have:=hF.keep hk hkn λh=>absurd (hky.symm.trans h) hun
  rwa [hky]at this
 have hgo:Pk e (goP e u p):=hpk.go hE u akd t0
 have hNb:Nb g e x B u n done (goP e u p):=by
  refine⟨λa ha har=>?_,λa ha h1 h2=>?_,λm hm=>?_⟩
  ·show tbi (dZ e u p) a.Bit.toNat=_
   rw[oT hE ha (by rw[har];exact hun.symm),hB.b3 hun hyd a ha har]
  ·show tbi (dZ e u p) a.Bit.toNat=_
   simp only[List.mem_cons,not_or]at h1
   rw[oT hE ha h1.1,hB.b2 hun a ha h1.2 h2]
  ·rw[List.mem_cons,not_or]
   refine⟨λh=>hF.aaK (by rw[←h];exact hm),λhmd=>?_⟩
   obtain⟨z,hz,hk⟩:=h.par m (List.mem_append_right _ hmd) (hF.td.vr.nrt _ hm)
   rcases hk with⟨k1,_,k3⟩|⟨k1,_⟩|⟨k1,_⟩|⟨k1,_⟩
   ·exact k1 (hF.tZ k3 hm)
   ·rw[k1]at hz;exact hyd hz
   ·rw[k1]at hz;exact hyd hz
   ·rw[k1]at hz;exact hnd hz
 obtain⟨A1,A2,A3,A4,A5⟩:=hNb.aro hF hgo
 have hone:(cv e u p).filter (λa=>decide (a.To=n))≠[]∧∀a∈(cv e u p).filter (λa=>decide (a.To=n)),∀b∈(cv e u p).filter (λa=>decide (a.To=n)),a=b:=by
  constructor
  ·intro h0
   have:aN.mk u n∈(cv e u p).map jm:=hs.mem_iff.2 (List.mem_filter.2 ⟨hF.un,by simp⟩)
   obtain⟨a,ha,hae⟩:=List.mem_map.1 this
   have:a∈(cv e u p).filter (λa=>decide (a.To=n)):=List.mem_filter.2 ⟨ha,by simp only[jm,aN.mk.injEq]at hae;simpa using hae.2⟩
   rw[h0]at this;cases this
  ·intro a ha b hb
   obtain⟨a1,a2⟩:=List.mem_filter.1 ha
   obtain⟨b1,b2⟩:=List.mem_filter.1 hb
   obtain⟨a3,a4,_,a5,_⟩:=oH a1
   obtain⟨b3,b4,_,b5,_⟩:=oH b1
   have a6:=hE.kind a a3;have a7:=hF.td.kd a a3
   have b6:=hE.kind b b3;have b7:=hF.td.kd b b3
   refine hE.key_inj a3 b3 ?_
   simp only[decide_eq_true_eq]at a2 b2
   simp only[tgA,bN.mk.injEq]
   exact⟨by rw[a4,b4],by omega,by rw[a2,b2]⟩
 have ax9:∀A:List aZ,((cv e u p).filter (λa=>decide (a.To=n))).flatMap (λ_=>A)=A:=λA=>by
  have auT:((cv e u p).filter (λa=>decide (a.To=n))).Nodup:=((abi hE).sublist List.filter_sublist).sublist List.filter_sublist
  cases hq:(cv e u p).filter (λa=>decide (a.To=n))with
  |nil=>exact absurd hq hone.1
  |cons a l=>
   cases l with
   |nil=>simp
   |cons b l=>
    have hab:=hone.2 a (by rw[hq];simp) b (by rw[hq];simp)
    rw[hq,hab]at auT
    simp at auT
 have acC:(nU e g f (az.mk u (bL.mk [] p))).cg.Perm ((ni e g u n (goP e u p)).1++((cv e u p).filter λa=>!decide (a.To=n)).map (eT e u p)):=by
  show(((cv e u p).map (eT e u p)).flatMap (qK e g u (dnT g f u))).Perm _
  rw[List.flatMap_map]
  have:=adA (F:=λa=>qK e g u (dnT g f u) (eT e u p a)) (A:=(ni e g u n (goP e u p)).1) (h:=eT e u p) (pred:=λa=>decide (a.To=n)) (cv e u p) λa ha=>by
   obtain⟨i1,i2⟩:=hin a ha
   unfold qK
   by_cases hn:a.To=n
   ·have ht:(eT e u p a).To=n:=hn
    rw[if_pos (by rw[ht];exact hF.dn),if_pos (by simpa using hn),ht];rfl
   ·have:=(keep _ i1 i2 hn).2
    rw[if_neg (show(eT e u p a).To∉_ from this),if_neg (by simpa using hn)]
  rw[ax9]at this
  exact this
 have hso:(((cv e u p).filter λa=>!decide (a.To=n)).map jm).Perm (x.Links.filter λk=>decide (k.bn=u)&&!decide (k.To=n)):=by
  have h2:=hs.filter λk=>!decide (k.To=n)
  rw[List.filter_map,List.filter_filter]at h2
  refine h2.trans (List.Perm.of_eq (List.filter_congr λk _=>?_))
  rw[Bool.and_true];exact Bool.and_comm _ _
 obtain⟨s1,s2,s3,s4⟩:=hF.simple (S:=λk=>!decide (k.To=n)) (l:=(cv e u p).filter λa=>!decide (a.To=n)) (λa ha=>(List.mem_filter.1 ha).1) hso λk hk hky hkn=>(keep k hk hky (by simpa using hkn)).1
 generalize hO:((cv e u p).filter λa=>!decide (a.To=n)).map (eT e u p)=O at acC s1 s2 s3 s4
 generalize hA:(ni e g u n (goP e u p)).1=A at acC A1 A2 A3 A4 A5
 generalize hcs:(nU e g f (az.mk u (bL.mk [] p))).cg=cs at acC
 have hfp:((cs.filter (kX (aP g f) u)).map tgC).Perm ((A.filter (kX (aP g f) u)).map tgC++O.map tgC):=by
  have:=(acC.filter (kX (aP g f) u)).map tgC
  rw[List.filter_append,List.map_append,s1]at this
  exact this
 refine mq.handle hF h hcs ?_ (λz=>?_) ?_ (λc hc hl=>?_) ?_ λc hc=>?_
 ·refine hfp.nodup_iff.2 (List.nodup_append.2 ⟨A1,s2,λa ha b hb hab=>?_⟩)
  subst hab
  obtain⟨k,hk,k1,k2,k3⟩:=(s3 a).1 hb
  have k2:k.To≠n:=by simpa using k2
  have hk':aN.mk u a∈x.Links:=by rw[←k1,←k3];exact hk
  rcases(A2 a).1 ha with⟨h1,_⟩|⟨h1,_⟩
  ·exact hun (hF.tZ hk' h1)
  ·rw[k3]at k2;exact k2 h1
 ·rw[hfp.mem_iff,List.mem_append,A2,s3]
  constructor
  ·rintro((⟨h1,h2⟩|⟨h1,h2⟩)|⟨k,hk,k1,k2,rfl⟩)
   ·exact .inr (.inl ⟨rfl,h1,h2⟩)
   ·exact .inr (.inr (.inl ⟨rfl,h1,h2⟩))
   ·exact aaL k hk k1 (by simpa using k2)
  ·rintro(⟨_,h2,h3⟩|⟨_,h1,h2⟩|⟨_,h1,h2⟩|⟨h1,_⟩)
   ·exact .inr ⟨_,h3,rfl,by simpa using h2,rfl⟩
   ·exact .inl (.inl ⟨h1,h2⟩)
   ·exact .inl (.inr ⟨h1,h2⟩)
   ·exact absurd h1 hun
 ·rw[tj,hF.td.aiW λa ha hr _=>hp a ha hr]
 ·rcases List.mem_append.1 (acC.mem_iff.1 hc)with hc2|hc2
  ·have hpk2:Pk e c.Frame.aB:=by rw[←hA]at hc2;exact aj6 hE hgo hc2
   refine⟨hpk2,?_,A5 c hc2 hl⟩
   rw[(A4 c hc2).2,adz t0 t1];omega
  ·obtain⟨_,c2,k,hk,hky,hkn,hkt⟩:=s4 c hc2
   have aaM:tgC c≠n:=by rw[←hkt];simpa using hkn
   rw[c2,adz t0 t1]
   exact⟨hgo,by omega,λ_ a ha h1 h2=>hNb.pb a ha h1 h2,λ_ h1=>absurd (List.mem_cons_self ..) h1,λh=>absurd h aaM,λh=>absurd h aaM⟩
 ·have l1:=acC.length_eq
  have l2:=hfp.length_eq
  rw[List.length_append]at l1
  simp only[List.length_map,List.length_append]at l2
  rw[if_pos rfl];omega
 ·rcases List.mem_append.1 (acC.mem_iff.1 hc)with hc2|hc2
  ·exact(A4 c hc2).1
  ·rw[(s4 c hc2).1];simp
theorem mq.step(hF:Fl g e x rs B f u n){v:az}{q:List az}{D:List bX}{C:List b8}{done:List Int}(h:mq g e x rs B f u n (v::q) D C done):
  ∃done',mq g e x rs B f u n (q++gM e g f (aP g f) v) (D++pz e v) (C++iW e g f (aP g f) v) done':=by
 obtain⟨y,⟨R,p⟩⟩:=v
 cases R with
 |cons z l=>exact⟨done,h.pass rfl⟩
 |nil=>
  by_cases h1:y=u
  ·subst h1;exact⟨_,h.parent hF⟩
  ·by_cases h2:y=n
   ·subst h2;exact⟨_,h.near hF⟩
   ·exact⟨_,h.far hF h1 h2⟩
theorem afe{t w:aa}(I:List az→List bX→List b8→Prop)(hs:∀v q D C,I (v::q) D C→I (q++gM e t f w v) (D++pz e v) (C++iW e t f w v))(hc:∀q D C,I q D C→C.length≤2000):∀(k:Nat) (q:List az) (D:List bX) (C:List b8) (L:List dY),qs q C<k→I q D C→
  ∃D' C' L',oS e t f w k q D C L=(dB.mk D' C' L',0)∧I [] D' C'
 |0,_,_,_,_,h,_=>by omega
 |k+1,[],D,C,L,_,h=>⟨D,C,L,rfl,h⟩
 |k+1,v::q,D,C,L,hn,h=>by
  have h2:=hs v q D C h
  have h3:=hc _ _ _ h2
  have hcc:¬2000<(C++iW e t f w v).length:=by omega
  have:=aaI (e:=e) (t:=t) (f:=f) (w:=w) (q:=q) hcc
  rw[oS,if_neg hcc]
  exact afe I hs hc k _ _ _ _ (by omega) h2
theorem amz(hF:Fl g e x rs B f u n){Q:aH}(hb:Q.Bits=B)(hQ:Pk e Q)(ht:Q.TTL=63):∃D C L,oS e g f (aP g f) 5000 [az.mk x.cz (bL.mk [] Q)] [] [] []=(dB.mk D C L,0)∧(∀c∈C,dR (aP g f) c.bn c.To=true)∧(D.map (·.aO)).Nodup∧∀y,y∈D.map (·.aO)↔y∈rs∧Cn (aP g f) [] x.cz y:=by
 obtain⟨D,C,L,h1,done,h2⟩:=afe (e:=e) (f:=f) (t:=g) (w:=aP g f) (λq D C=>∃done,mq g e x rs B f u n q D C done) (λv q D C ⟨done,h⟩=>h.step hF) (λq D C ⟨done,h⟩=>by
  obtain⟨k,k1,k2⟩:=h.ln
  have hl:(tgs (aP g f) q++done).length≤24:=Nat.le_trans (jW h.nd λz hz=>hF.td.inG (h.tr z hz).1) (mE hF.td.hv)
  rw[List.length_append]at hl
  have:(if u∈done then 1 else 0)≤1:=by split<;>omega
  omega) 5000 [az.mk x.cz (bL.mk [] Q)] [] [] [] (by simp[qs]) (by
  have e0:tgs (aP g f) [az.mk x.cz (bL.mk [] Q)]=[x.cz]:=rfl
  refine⟨[],?_,?_,?_,?_,?_,?_,?_,?_,?_⟩
  ·rw[e0];simp
  ·rw[e0]
   intro y hy
   simp only[List.append_nil,List.mem_singleton]at hy
   subst hy
   exact⟨.inl rfl,.refl (by simp)⟩
  ·rw[e0];simp
  ·rw[e0]
   intro y hy hr
   simp only[List.append_nil,List.mem_singleton]at hy
   exact absurd hy hr
  ·intro y hy;cases hy
  ·simp
  ·intro c hc;cases hc
  ·exact⟨0,by simp[qg],by omega⟩
  ·intro v hv _
   rw[List.mem_singleton]at hv
   subst hv
   refine⟨hQ,by show 63-((0:Nat):Int)≤Q.TTL;omega,λ_ a _ _ _=>by rw[←hb],λ_ _ a _ _=>by rw[←hb],λh=>absurd h.symm hF.zl,λh=>absurd h.symm hF.zl⟩)
 obtain⟨nd,tr,rt,par,kid,de,cr,ln,pk⟩:=h2
 have e0:tgs (aP g f) []=[]:=rfl
 rw[e0,List.nil_append]at nd tr rt par kid
 have hu1:∀y,Rch x.cz x.Links y→y∈done∨u∈done:=λy hy=>by
  induction hy with
  |root=>exact .inl rt
  |step k hk _ ih=>
   rcases ih with ih|ih
   ·by_cases h1:k.bn=u
    ·rw[h1]at ih;exact .inr ih
    ·by_cases h2:k.bn=n
     ·rw[h2]at ih
      obtain⟨z,hz,hzk⟩:=par n ih hF.zl
      rw[hF.ai3 hzk]at hz;exact .inr hz
     ·by_cases h3:k.To=n
      ·have:=hF.td.one hk hF.un h3
       rw[this]at h1;exact absurd rfl h1
      ·exact .inl (kid _ ih _ (.inl ⟨h2,h3,hk⟩))
   ·exact .inr ih
 have hu:u∈done:=(hu1 u (hF.td.vr.rch _ hF.un)).elim id id
 have hcu:=(tr u hu).2
 have all:∀y,Rch x.cz x.Links y→Cn (aP g f) [] x.cz y→y∈done∨(y=n∧¬(n∈rs∨∃m,aN.mk n m∈x.Links∧fh g n u m=[])):=λy hy=>by
  induction hy with
  |root=>intro _;exact .inl rt
  |step k hk _ ih=>
   intro hc
   by_cases h3:k.To=n
   ·have hun:Cn (aP g f) [] u n:=by rw[←h3];exact hcu.symm.trans hc
    obtain⟨q1,q2⟩:=hF.ahC hun
    by_cases h4:n∈rs∨∃m,aN.mk n m∈x.Links∧fh g n u m=[]
    ·exact .inl (kid u hu _ (.inr (.inr (.inl ⟨rfl,h3,q1,q2,h4⟩))))
    ·exact .inr ⟨h3,h4⟩
   ·by_cases h2:k.bn=n
    ·have hk':aN.mk n k.To∈x.Links:=by rw[←h2];exact hk
     by_cases hv:fh g n u k.To=[]
     ·have hum:u≠k.To:=λh=>hF.aaK (by rw[h];exact hk')
      obtain⟨q1,q2⟩:=hF.auQ hum (hcu.symm.trans hc) hv
      have hn:n∈done:=kid u hu _ (.inr (.inr (.inl ⟨rfl,rfl,q1,q2,.inr ⟨_,hk',hv⟩⟩)))
      exact .inl (kid n hn _ (.inr (.inr (.inr ⟨rfl,hk',hv⟩))))
     ·exact .inl (kid u hu _ (.inr (.inl ⟨rfl,hk',hv⟩)))
    ·have lZ:=(hF.keep hk h3 λh=>absurd h h2).1
     have:=ih (.step hc (qb lZ) (by simp))
     rcases this with h|⟨h,_⟩
     ·exact .inl (kid _ h _ (.inl ⟨h2,h3,hk⟩))
     ·exact absurd h h2
 refine⟨D,C,L,h1,cr,de.nodup_iff.2 (nd.sublist List.filter_sublist),λy=>?_⟩
 rw[de.mem_iff,List.mem_filter,decide_eq_true_eq]
 constructor
 ·rintro⟨q1,q2⟩;exact⟨q2,(tr y q1).2⟩
 ·rintro⟨q1,q2⟩
  have hr:Rch x.cz x.Links y:=by
   rcases hF.td.sub y q1 with rfl|⟨k,hk,rfl⟩
   ·exact .root
   ·exact .step k hk (hF.td.vr.rch k hk)
  rcases all y hr q2 with h|⟨h,h'⟩
  ·exact⟨h,q1⟩
  ·rw[h]at q1;exact absurd (.inl q1) h'
end
theorem aq5{g:aa}{e:aC}{x:dz}{rs:List Int}{Q:aH}{f:bg}(td:Td g e x rs Q.Bits)(hQ:Pk e Q)(ht:Q.TTL=63)(hf:One g f)(hr:x.cz∉f.ah):
  ∃D C L,tY e g f Q x.cz=(dB.mk D C L,0)∧(∀c∈C,dR (aP g f) c.bn c.To=true)∧(D.map (·.aO)).Nodup∧∀y,y∈D.map (·.aO)↔y∈rs∧Cn (aP g f) [] x.cz y:=by
 have hX:tY e g f Q x.cz=oS e g f (aP g f) 5000 [az.mk x.cz (bL.mk [] Q)] [] [] []:=by
  unfold tY
  simp only[if_pos (show plB e=true∧eS g=0∧mU Q=true from⟨td.pl,fC.2 td.hv,hQ.v⟩),if_pos td.rt,if_pos hQ.afy,if_neg hr]
 have wS:∀u n,Fl g e x rs Q.Bits f u n→∃D C L,tY e g f Q x.cz=(dB.mk D C L,0)∧(∀c∈C,dR (aP g f) c.bn c.To=true)∧(D.map (·.aO)).Nodup∧∀y,y∈D.map (·.aO)↔y∈rs∧Cn (aP g f) [] x.cz y:=λu n hF=>by
  rw[hX];exact amz hF rfl hQ ht
 have quiet:ai1 x f→∃D C L,tY e g f Q x.cz=(dB.mk D C L,0)∧(∀c∈C,dR (aP g f) c.bn c.To=true)∧(D.map (·.aO)).Nodup∧∀y,y∈D.map (·.aO)↔y∈rs∧Cn (aP g f) [] x.cz y:=λhA=>by
  obtain⟨D,C,hrun,hC,hD,_⟩:=amu td hQ ht
  have hkeep:∀k∈x.Links,dR (aP g f) k.bn k.To=true:=λk hk=>
   (qf td.hv).2 ⟨td.adj k hk,hA.1 _ (td.from hk),hA.1 _ (.inr ⟨k,hk,rfl⟩),(hA.2 k hk).1,(hA.2 k hk).2⟩
  have hcn:∀y,Rch x.cz x.Links y→Cn (aP g f) [] x.cz y:=λy hy=>by
   induction hy with
   |root=>exact .refl (by simp)
   |step k hk _ ih=>exact .step ih (hkeep k hk) (by simp)
  refine⟨D,C,[],by rw[akb td hQ ht hA,akc td hQ,hrun],λc hc=>?_,hD.nodup_iff.2 (td.asc.imp λh e=>by omega),λy=>?_⟩
  ·have:aiX c∈x.Links:=hC.mem_iff.1 (List.mem_map.2 ⟨c,hc,rfl⟩)
   exact hkeep _ this
  ·rw[hD.mem_iff]
   refine⟨λh=>⟨h,hcn y ?_⟩,λh=>h.1⟩
   rcases td.sub y h with rfl|⟨k,hk,rfl⟩
   ·exact .root
   ·exact .step k hk (td.vr.rch k hk)
 rcases hf with⟨l,_,h1,h2⟩|⟨r,_,h1,h2⟩
 ·by_cases hab:aN.mk l.A l.B∈x.Links
  ·exact wS l.A l.B ⟨td,hab,.inl ⟨h1,h2⟩⟩
  ·by_cases hba:aN.mk l.B l.A∈x.Links
   ·exact wS l.B l.A ⟨td,hba,.inl ⟨h1,h2.symm⟩⟩
   ·refine quiet ⟨λ_ _=>by rw[h1];simp,λk hk=>?_⟩
    have e1:k≠aN.mk l.A l.B:=λh=>hab (by rw[←h];exact hk)
    have e2:k≠aN.mk l.B l.A:=λh=>hba (by rw[←h];exact hk)
    have e3:aN.mk k.To k.bn≠aN.mk l.A l.B:=λh=>by
     simp only[aN.mk.injEq]at h
     exact hba (by rw[←h.1,←h.2];exact hk)
    have e4:aN.mk k.To k.bn≠aN.mk l.B l.A:=λh=>by
     simp only[aN.mk.injEq]at h
     exact hab (by rw[←h.1,←h.2];exact hk)
    rcases h2 with h2|h2
    ·rw[h2,List.mem_singleton,List.mem_singleton];exact⟨e1,e3⟩
    ·rw[h2,List.mem_singleton,List.mem_singleton];exact⟨e2,e4⟩
 ·by_cases ht2:trT x r
  ·rcases ht2 with h3|⟨k,hk,h3⟩
   ·exact absurd (by rw[h2,h3];simp) hr
   ·exact wS k.bn r ⟨td,by rw[←h3];exact hk,.inr ⟨h1,h2⟩⟩
  ·refine quiet ⟨λy hy=>?_,λk hk=>by rw[h1];simp⟩
   rw[h2,List.mem_singleton]
   intro h;rw[h]at hy;exact ht2 hy
theorem zz(t:List Int):lR t=some true:=by
 unfold lR
 refine Ok.eq (Ok.bnd (ax1 t) λs hs=>Ok.bnd (ai0 hs) λq hq=>?_)
 obtain⟨g,e,x,rs,Q,ok,t1⟩:=q
 obtain⟨hg,ht,hq,hel,hxl⟩:=hq
 have hg:Vn g 7:=hg
 have hel:e.List.length≤1000:=hel
 have hv:Vt g:=hg.v
 have hnr:=hv.nr
 have hnl:=hv.nl
 have hgn:1≤g.ah.length:=hg.n.1
 dsimp only
 refine Ok.cs (λ_=>by rw[aeo];exact⟨true,rfl,rfl⟩) λhok=>?_
 obtain⟨td,hpk,zi⟩:=hq (by simpa using hok)
 have td:Td g e x rs Q.Bits:=td
 have hpk:Pk e Q:=hpk
 have zi:Q.TTL=63:=zi
 refine Ok.bnd (afk (g:=g) ht ⟨hgn,by omega⟩ (by omega)) λf hf=>?_
 obtain⟨f,t2⟩:=f
 have hf:One g f:=hf.1
 dsimp only
 rw[acq,aM]
 refine Ok.cs (λ_=>by rw[aeo];exact⟨true,rfl,rfl⟩) λhr=>?_
 have hr:x.cz∉f.ah:=by simpa using hr
 obtain⟨D,C,L,hX,hC,hD1,hD2⟩:=aq5 td hpk zi hf hr
 rw[afj e g f Q x.cz hel (by omega),aM,hX]
 refine Ok.cs (λhc=>by simp at hc) λ_=>?_
 dsimp only
 rw[xH,aM]
 have hwv:=gI g f
 generalize hw:aP g f=w at hwv hC hD2 ⊢
 have hrw:x.cz∈ids w:=by rw[←hw];exact(qh hv).2 ⟨td.rt,hr⟩
 have hrsn:rs.Nodup:=td.asc.imp λh e=>by omega
 have hrsl:rs.length≤24:=Nat.le_trans (jW hrsn λy hy=>td.inG (td.sub y hy)) (mE hv)
 have hcon:∀y,ta w x.cz y=true↔Cn w [] x.cz y:=λy=>by
  unfold ta
  simp only[Bool.and_eq_true,decide_eq_true_eq]
  exact⟨λh=>h.2,λh=>⟨⟨⟨fC.2 hwv,iy.1 hrw⟩,iy.1 (h.ids hwv hrw)⟩,h⟩⟩
 refine Eq.subst (motive:=λz=>Ok z _) (lI (λy:Int=>ta w x.cz y) (λy:Int=>y) rs 0 [] (λj y Z s hy hs=>?_) (by simp;omega)).symm ?_
 ·simp only[jn]
  rw[afg,aM,lY hs,aM]
 rw[List.nil_append,List.map_id']
 generalize hW:rs.filter (λy:Int=>ta w x.cz y)=W
 have hWm:∀y,y∈W↔y∈D.map (·.aO):=λy=>by
  rw[hD2,←hW,List.mem_filter,hcon]
 have hWa:W.Pairwise (·<·):=by rw[←hW];exact td.asc.sublist List.filter_sublist
 have hWl:W.length≤24:=by rw[←hW];exact Nat.le_trans (List.length_filter_le _ _) hrsl
 have hDW:(D.map (·.aO)).Perm W:=(List.perm_ext_iff_of_nodup hD1 (hWa.imp λh e=>by omega)).2 λy=>(hWm y).symm
 have hDl:D.length=W.length:=by have:=hDW.length_eq;rwa [List.length_map]at this
 have aya:∀(K:List Int→Option Bool),bO D 0 (λ(j2:Int) (e2:bX) (Z2:(List Int)→Option Bool) (s9:(List Int))=>bnd (iF s9 e2.aO) λ(uf:(List Int))=>Z2 uf) K []=K (D.foldl (λs d=>j8 s d.aO) []):=λK=>by
  refine kS (L:=D) (λq s=>s=q.foldl (λs d=>j8 s d.aO) []∧s.length≤q.length) (λ_ _=>K (D.foldl (λs d=>j8 s d.aO) [])) (λs hs=>by rw[hs.1]) (λq d rest s Z h hi hZ=>?_) D [] _ rfl ⟨rfl,by simp⟩
  have hdl:D.length=q.length+(rest.length+1):=by rw[←h];simp
  have:=hi.2
  rw[anJ _ _ (by omega),aM]
  refine hZ _ ⟨by rw[hi.1];simp,?_⟩
  have:=y5 s d.aO
  simp only[List.length_append,List.length_cons,List.length_nil];omega
 rw[aya]
 obtain⟨d1,d2⟩:=agR (λd:bX=>d.aO) D [] hD1 (by simp) (by simp)
 have eD:D.foldl (λs d=>j8 s d.aO) []=W:=ux d1 hWa λy=>by
  rw[d2];simp only[List.not_mem_nil,false_or];exact(hWm y).symm
 rw[eD]
 refine Ok.forM (L:=C) (λ_ (_:Unit)=>True) (λj c s Z hj hm _ hZ=>?_) () trivial λs _=>?_
 ·rw[alY,aM,if_pos (fC.2 hwv),aat,hC c hm]
  exact hZ () trivial
 ·rw[auH,aM,decide_eq_true rfl,cond_true,decide_eq_true (by omega),cond_true,aeo]
  exact⟨true,rfl,rfl⟩
end Go.Proofs.YtdjeacigeegklaaGreat
