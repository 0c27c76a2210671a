/- Plain: trees in the full wH, and what a aN makes of the bits of a tree. No condition but bK bn stand in each. -/
import Derived.Test.YtdjeacigeegklaaGreatPYP
namespace Go.Proofs.YtdjeacigeegklaaGreat
set_option linter.all false
open Go
structure agD(e:aC)(x:dY)(u:List Int):Prop where
 v:Vr x
 asc:u.Pairwise (·<·)
 sub:∀r∈u,r∈nX x
 fnd:∀k∈o3 x u,(gV e k).2=true
theorem agE{g:aa}(hv:Vt g){e:aC}(he:kY g 64=(e,0)){r k q:Int}(hk:(r,k,q)∈gL g):Ve e∧(gV e (bP.mk r k q)).2=true:=by
 obtain⟨h1,h2,_⟩:=aea (n:=64) hv (by rw[he])
 rw[he]at h1 h2
 have h1:Ef g e:=h1
 refine⟨h1.v,?_⟩
 obtain⟨i,hi⟩:=List.getElem?_of_mem hk
 have hm:=List.mem_of_getElem? (ahs 0 _ i r k q hi)
 have he2:e=aC.mk 64 (jr 0 (gL g)):=(Prod.mk.inj h2).1
 have:=aeV h1.v (a:=ay.mk ((0+i:Nat):Int) r k q) (by rw[he2];exact hm)
 unfold nk at this
 rw[if_pos (iX.2 h1.v)]at this
 show(xm e r k q).2=true
 rw[this]
theorem aqX{g:aa}(hv:Vt g){e:aC}(he:kY g 64=(e,0)){root:Int}(hr:root∈ids g){x:dY}(hx:Tn g root x){u:List Int}(hu:u.Sublist (nX x)):agD e x u:=by
 have hV:=hx.v hr
 refine⟨hV,(auD x).sublist hu,λr h=>hu.subset h,λk hk=>?_⟩
 rcases List.mem_append.1 hk with hk|hk
 ·obtain⟨r,hr2,rfl⟩:=List.mem_map.1 hk
  have hid:r∈ids g:=by
   rcases(abc hV).1 (hu.subset hr2)with h|⟨h,hh,h2⟩
   ·rw[h,hx.rt];exact hr
   ·rw[←h2];exact nj hv (hx.adj h hh)
  exact(agE hv he ((zg hv).2 ⟨hid,.inl ⟨rfl,rfl⟩⟩)).2
 ·obtain⟨h,hh,rfl⟩:=List.mem_map.1 hk
  exact(agE hv he ((zg hv).2 ⟨nj hv (ue (hx.adj h hh)),.inr ⟨rfl,hx.adj h hh⟩⟩)).2
theorem agD.bits{e:aC}(hE:Ve e){x:dY}{u:List Int}(h:agD e x u):vj e x u=((o3 x u).foldl (orK e) 0,0):=by
 unfold vj
 rw[if_pos (iX.2 hE),if_pos (adk.2 h.v)]
 have h1:kg (λa b:Int=>decide (a<b)) u=true:=mS (h.asc.imp λh=>by simpa using h)
 have h2:u.any (λr=>!decide (r∈nX x))=false:=any_false.2 λr hr=>by simpa using h.sub r hr
 have h3:(o3 x u).any (λk=>!(gV e k).2)=false:=any_false.2 λk hk=>by simpa using h.fnd k hk
 rw[h1,h2,h3];rfl
theorem agD.val{e:aC}(hE:Ve e){x:dY}{u:List Int}(h:agD e x u):B64 ((o3 x u).foldl (orK e) 0)∧∀i,tbi ((o3 x u).foldl (orK e) 0) i=true↔∃k∈o3 x u,(gV e k).1=(i:Int):=by
 obtain⟨h1,h2⟩:=abg (e:=e) (o3 x u) 0 yt λk hk=>abf hE (h.fnd k hk)
 refine⟨h1,λi=>?_⟩
 rw[h2,oE];simp
def trT(x:dY)(y:Int):Prop:=y=x.dS∨∃h∈x.Links,h.To=y
structure Td(g:aa)(e:aC)(x:dY)(rs:List Int)(B:Int):Prop where
 hv:Vt g
 ef:Ef g e
 kd:∀a∈e.List,a.Kind≠2
 vr:Vr x
 rt:x.dS∈ids g
 adj:∀h∈x.Links,gP g h.bx h.To=true
 ends:∀y,trT x y→y∈rs∨∃h∈x.Links,h.bx=y
 sub:∀r∈rs,trT x r
 asc:rs.Pairwise (·<·)
 h3:∀r∈rs,∃a∈e.List,a.aK=r∧a.Kind=3
 h1:∀h∈x.Links,∃a∈e.List,a.aK=h.bx∧a.Kind=1∧a.To=h.To
 bits:∀a∈e.List,tbi B a.Bit.toNat=true↔(a.Kind=3∧a.aK∈rs)∨(a.Kind=1∧aV.mk a.aK a.To∈x.Links)
theorem abi{e:aC}(hv:Ve e){k:bP}(h:(gV e k).2=true):∃a∈e.List,a.aK=k.cm∧a.Kind=k.s9∧a.To=k.to_∧a.Bit=(gV e k).1:=by
 have hT:gV e k=nk e k.cm k.s9 k.to_:=by unfold nk gV;rw[if_pos (iX.2 hv)]
 have e1:nk e k.cm k.s9 k.to_=((gV e k).1,true):=by rw[←hT,←h]
 exact(agR e1).2
theorem ax7{g:aa}(hv:Vt g){e:aC}(he:kY g 64=(e,0)){root:Int}(hr:root∈ids g){x:dY}(hx:Tn g root x){u:List Int}(hu:u.Sublist (nX x))(hen:∀y∈nX x,(∀h∈x.Links,h.bx≠y)→y∈u):Td g e x u (vj e x u).1∧(vj e x u).2=0:=by
 have hn:=aqX hv he hr hx hu
 obtain⟨q1,q2,_⟩:=aea (n:=64) hv (by rw[he])
 rw[he]at q1 q2
 have q1:Ef g e:=q1
 have he2:e=aC.mk 64 (jr 0 (gL g)):=(Prod.mk.inj q2).1
 have hE:=q1.v
 have hV:=hx.v hr
 have kd:∀a∈e.List,a.Kind=3∨a.Kind=1:=λa ha=>by
  rw[he2]at ha
  rcases((zg hv).1 (agn ha).1).2 with h|h
  ·exact .inl h.1
  ·exact .inr h.1
 rw[hn.bits hE]
 refine⟨⟨hv,q1,λa ha=>by have:=kd a ha;omega,hV,by rw[hx.rt];exact hr,hx.adj,λy hy=>?_,λr h=>(abc hV).1 (hu.subset h),hn.asc,λr h=>?_,λh hh=>?_,λa ha=>?_⟩,rfl⟩
 ·by_cases h:∃h∈x.Links,h.bx=y
  ·exact .inr h
  ·exact .inl (hen y ((abc hV).2 hy) λh' hh he=>h ⟨h',hh,he⟩)
 ·obtain⟨a,ha,a1,a2,_⟩:=abi hE (hn.fnd (ug r) (List.mem_append_left _ (List.mem_map.2 ⟨r,h,rfl⟩)))
  exact⟨a,ha,a1,a2⟩
 ·obtain⟨a,ha,a1,a2,a3,_⟩:=abi hE (hn.fnd (uh h) (List.mem_append_right _ (List.mem_map.2 ⟨h,hh,rfl⟩)))
  exact⟨a,ha,a1,a2,a3⟩
 ·rw[(hn.val hE).2]
  have hb:=hE.bit ha
  constructor
  ·rintro⟨k,hk,hkb⟩
   obtain⟨b,hb1,b1,b2,b3,b4⟩:=abi hE (hn.fnd k hk)
   have:b=a:=hE.abe hb1 ha (by omega)
   subst this
   rcases List.mem_append.1 hk with hk|hk
   ·obtain⟨r,hr2,rfl⟩:=List.mem_map.1 hk
    exact .inl ⟨b2,by rw[b1];exact hr2⟩
   ·obtain⟨h,hh,rfl⟩:=List.mem_map.1 hk
    refine .inr ⟨b2,?_⟩
    rw[b1,b3];exact hh
  ·intro h
   have key:∀k∈o3 x u,k=tgA a→∃k∈o3 x u,(gV e k).1=(a.Bit.toNat:Int):=λk hk hka=>by
    obtain⟨b,hb1,b1,b2,b3,b4⟩:=abi hE (hn.fnd k hk)
    have:b=a:=hE.key_inj hb1 ha (by rw[←hka];simp[tgA,b1,b2,b3])
    subst this
    exact⟨k,hk,by omega⟩
   rcases h with⟨h1,h2⟩|⟨h1,h2⟩
   ·have ht:a.To=a.aK:=(hE.acq a ha).2 h1
    exact key (ug a.aK) (List.mem_append_left _ (List.mem_map.2 ⟨_,h2,rfl⟩)) (by simp[ug,tgA,h1,ht])
   ·exact key (uh (aV.mk a.aK a.To)) (List.mem_append_right _ (List.mem_map.2 ⟨_,h2,rfl⟩)) (by simp[uh,tgA,h1])
theorem aiD(t:aa)(n:Int):(kY t n).1.List.length≤1000:=by
 unfold kY
 by_cases h:eU t=0
 ·have:=zf (fK.1 h)
  rw[if_pos h]
  cases !kU n
  ·by_cases h2:n<((gL t).length:Int)
   ·simp[h2]
   ·simp only[h2,if_false,cond_false,rQ];omega
  ·simp
 ·simp[h]
section
variable {g:aa}{e:aC}{x:dY}{rs:List Int}{B:Int}
theorem aiE{l:List aV}(h:l.Pairwise λa b=>ltH a b=true):l.Nodup:=h.imp λ{a b} hab e=>by subst e;simp[ltH]at hab
theorem Td.inG(h:Td g e x rs B){y:Int}(hy:trT x y):y∈ids g:=by
 rcases hy with rfl|⟨k,hk,rfl⟩
 ·exact h.rt
 ·exact nj h.hv (h.adj k hk)
theorem Td.one(h:Td g e x rs B){a b:aV}(ha:a∈x.Links)(hb:b∈x.Links)(he:a.To=b.To):a=b:=by
 have hd:=h.vr.dup
 have:∀(l:List aV),(l.Pairwise λa b=>a.To≠b.To)→a∈l→b∈l→a=b:=λl=>by
  induction l with
  |nil=>intro _ h;cases h
  |cons c l ih=>
   intro hp h1 h2
   rw[List.pairwise_cons]at hp
   rcases List.mem_cons.1 h1 with e1|h3
   ·rcases List.mem_cons.1 h2 with e2|h4
    ·rw[e1,e2]
    ·rw[e1]at he;exact absurd he (hp.1 b h4)
   ·rcases List.mem_cons.1 h2 with e2|h4
    ·rw[e2]at he;exact absurd he.symm (hp.1 a h3)
    ·exact ih hp.2 h3 h4
 exact this _ hd ha hb
theorem Td.from(h:Td g e x rs B){k:aV}(hk:k∈x.Links):trT x k.bx:=by
 have key:∀y,Rch x.dS x.Links y→trT x y:=λy hy=>by
  cases hy with
  |root=>exact .inl rfl
  |step k' h1 _=>exact .inr ⟨k',h1,rfl⟩
 exact key _ (h.vr.rch k hk)
theorem Td.has(h:Td g e x rs B){y:Int}(hy:trT x y):∃a∈e.List,a.aK=y∧tbi B a.Bit.toNat=true:=by
 rcases h.ends y hy with hr|⟨k,hk,rfl⟩
 ·obtain⟨a,ha,a1,a2⟩:=h.h3 y hr
  exact⟨a,ha,a1,(h.bits a ha).2 (.inl ⟨a2,by rw[a1];exact hr⟩)⟩
 ·obtain⟨a,ha,a1,a2,a3⟩:=h.h1 k hk
  exact⟨a,ha,a1,(h.bits a ha).2 (.inr ⟨a2,by rw[a1,a3];exact hk⟩)⟩
def xT(a:ay):aV:=aV.mk a.aK a.To
theorem ahB(hE:Ve e):e.List.Nodup:=hE.asc.imp λ{a b} hab he=>by subst he;omega
theorem agF(hE:Ve e){y:Int}{p:aH}{b:ay}(hb:b∈e.List)(hby:b.aK≠y):tbi (ep e y p) b.Bit.toNat=tbi p.Bits b.Bit.toNat:=by
 unfold ep
 rw[tbn]
 have:tbi (qK e y) b.Bit.toNat=false:=by
  cases hq:tbi (qK e y) b.Bit.toNat
  ·rfl
  ·obtain⟨c,hc,c1,c2⟩:=(auF hE y _).1 hq
   have hbb:=hE.bit hb
   have:=hE.abe hc hb (by omega)
   subst this
   exact absurd c1 hby
 rw[this];simp
theorem aiF{v:Int}{i:Nat}(h:tbi v i=true):v≠0:=λh0=>by rw[h0,oE]at h;cases h
theorem Td.rest(h:Td g e x rs B){y:Int}{p:aH}{z:Int}(hz:trT x z)(hzy:z≠y)(hp:∀a∈e.List,a.aK=z→tbi p.Bits a.Bit.toNat=tbi B a.Bit.toNat):ep e y p≠0:=by
 obtain⟨a,ha,a1,a2⟩:=h.has hz
 refine aiF (i:=a.Bit.toNat) ?_
 rw[agF h.ef.v ha (by rw[a1];exact hzy),hp a ha a1,a2]
theorem aaL{α β:Type}{l:List α}{f:α→β}{m:List β}(hl:l.Nodup)(hf:∀a∈l,∀b∈l,f a=f b→a=b)(hm:m.Nodup)(h:∀y,(∃a∈l,f a=y)↔y∈m):(l.map f).Perm m:=by
 have hn:(l.map f).Nodup:=by
  induction l with
  |nil=>simp
  |cons a l ih=>
   rw[List.nodup_cons]at hl
   rw[List.map_cons,List.nodup_cons]
   refine⟨λhx=>?_,?_⟩
   ·obtain⟨b,hb,hbe⟩:=List.mem_map.1 hx
    have:=hf b (by simp[hb]) a (by simp) hbe
    subst this;exact hl.1 hb
   ·clear h hm
    have ih2:∀(l:List α),l.Nodup→(∀a∈l,∀b∈l,f a=f b→a=b)→(l.map f).Nodup:=λl=>by
     induction l with
     |nil=>intros;simp
     |cons c l ih=>
      intro h1 h2
      rw[List.nodup_cons]at h1
      rw[List.map_cons,List.nodup_cons]
      refine⟨λhx=>?_,ih h1.2 λa ha b hb=>h2 a (by simp[ha]) b (by simp[hb])⟩
      obtain⟨b,hb,hbe⟩:=List.mem_map.1 hx
      have:=h2 b (by simp[hb]) c (by simp) hbe
      subst this;exact h1.1 hb
    exact ih2 l hl.2 λa ha b hb=>hf a (by simp[ha]) b (by simp[hb])
 refine(List.perm_ext_iff_of_nodup hn hm).2 λy=>?_
 rw[←h y,List.mem_map]
theorem Td.auJ(h:Td g e x rs B){y:Int}{p:aH}(S:aV→Bool)(hp:∀a∈e.List,a.aK=y→a.Kind=1→(tbi p.Bits a.Bit.toNat=true↔aV.mk y a.To∈x.Links∧S (aV.mk y a.To)=true))(ht:p.TTL≠0)(hr:∀k∈x.Links,k.bx=y→S k=true→ep e y p≠0):((cH e y p).map xT).Perm (x.Links.filter λk=>decide (k.bx=y)&&S k):=by
 have hE:=h.ef.v
 have hs:∀a,a∈cH e y p↔a∈e.List∧a.aK=y∧a.Kind=1∧aV.mk y a.To∈x.Links∧S (aV.mk y a.To)=true:=λa=>by
  unfold cH
  rw[List.mem_filter]
  constructor
  ·rintro⟨h1,h2⟩
   simp only[eY,kj,Bool.and_eq_true,Bool.not_eq_true',decide_eq_true_eq,decide_eq_false_iff_not]at h2
   obtain⟨⟨⟨⟨q1,q2⟩,q3⟩,_⟩,_⟩:=h2
   have hk:a.Kind=1:=by have:=hE.kind a h1;have:=h.kd a h1;omega
   obtain⟨q4,q5⟩:=(hp a h1 q1 hk).1 q2
   exact⟨h1,q1,hk,q4,q5⟩
  ·rintro⟨h1,h2,h3,h4,h5⟩
   refine⟨h1,?_⟩
   have hb:tbi p.Bits a.Bit.toNat=true:=(hp a h1 h2 h3).2 ⟨h4,h5⟩
   have:=hr _ h4 rfl h5
   simp[eY,kj,h2,hb,h3,ht,this]
 refine aaL ((ahB hE).sublist List.filter_sublist) (λa ha b hb hab=>?_) ((aiE h.vr.asc).sublist List.filter_sublist) λk=>?_
 ·obtain⟨a1,a2,a3,_⟩:=(hs a).1 ha
  obtain⟨b1,b2,b3,_⟩:=(hs b).1 hb
  refine hE.key_inj a1 b1 ?_
  simp only[xT,aV.mk.injEq]at hab
  simp[tgA,hab.1,hab.2,a3,b3]
 ·rw[List.mem_filter,Bool.and_eq_true,decide_eq_true_eq]
  constructor
  ·rintro⟨a,ha,rfl⟩
   obtain⟨_,a2,_,a4,a5⟩:=(hs a).1 ha
   rw[←a2]at a4 a5
   exact⟨a4,a2,a5⟩
  ·rintro⟨h1,h2,h3⟩
   obtain⟨a,ha,a1,a2,a3⟩:=h.h1 k h1
   have e1:xT a=k:=by unfold xT;rw[a1,a3]
   have e2:aV.mk y a.To=k:=by rw[←h2,a3]
   exact⟨a,(hs a).2 ⟨ha,by rw[a1,h2],a2,by rw[e2];exact h1,by rw[e2];exact h3⟩,e1⟩
theorem Td.hit1(h:Td g e x rs B){a:ay}(ha:a∈e.List)(hk:a.Kind=1):tbi B a.Bit.toNat=true↔aV.mk a.aK a.To∈x.Links:=by
 rw[h.bits a ha]
 constructor
 ·rintro(⟨q,_⟩|⟨_,q⟩)
  ·omega
  ·exact q
 ·intro q;exact .inr ⟨hk,q⟩
theorem Td.ax8(h:Td g e x rs B){y:Int}{p:aH}(hp:∀a∈e.List,a.aK=y→tbi p.Bits a.Bit.toNat=tbi B a.Bit.toNat)(ht:p.TTL≠0)(hr:∀k∈x.Links,k.bx=y→ep e y p≠0):((cH e y p).map xT).Perm (x.Links.filter λk=>decide (k.bx=y)):=by
 have:=h.auJ (y:=y) (p:=p) (λ_=>true) (λa ha h1 h2=>by rw[hp a ha h1,h.hit1 ha h2,h1];simp) ht λk hk h1 _=>hr k hk h1
 simpa using this
theorem Td.locs(h:Td g e x rs B){y:Int}{p:aH}(hp:∀a∈e.List,a.aK=y→a.Kind=3→tbi p.Bits a.Bit.toNat=tbi B a.Bit.toNat):(e.List.filter (eO y p)).map (·.aK)=if y∈rs then[y]else[]:=by
 have hE:=h.ef.v
 have hs:∀a,a∈e.List.filter (eO y p)↔a∈e.List∧a.aK=y∧a.Kind=3∧y∈rs:=λa=>by
  rw[List.mem_filter]
  constructor
  ·rintro⟨h1,h2⟩
   obtain⟨q1,q2,q3⟩:=aec (e:=e) h2
   rw[hp a h1 q1 q3,h.bits a h1]at q2
   rcases q2 with q2|q2
   ·exact⟨h1,q1,q3,by rw[←q1];exact q2.2⟩
   ·omega
  ·rintro⟨h1,h2,h3,h4⟩
   refine⟨h1,?_⟩
   have hb:tbi p.Bits a.Bit.toNat=true:=by rw[hp a h1 h2 h3,h.bits a h1];exact .inl ⟨h3,by rw[h2];exact h4⟩
   simp[eO,kj,h2,hb,h3]
 have hp:((e.List.filter (eO y p)).map (·.aK)).Perm (if y∈rs then[y]else[]):=by
  refine aaL ((ahB hE).sublist List.filter_sublist) (λa ha b hb hab=>?_) (by split<;>simp) λk=>?_
  ·obtain⟨a1,a2,a3,_⟩:=(hs a).1 ha
   obtain⟨b1,b2,b3,_⟩:=(hs b).1 hb
   refine hE.key_inj a1 b1 ?_
   simp[tgA,a2,b2,a3,b3,(hE.acq a a1).2 a3,(hE.acq b b1).2 b3]
  ·constructor
   ·rintro⟨a,ha,rfl⟩
    obtain⟨_,a2,_,a4⟩:=(hs a).1 ha
    rw[if_pos a4,a2];simp
   ·intro hk
    split at hk
    ·rename_i hy
     rw[List.mem_singleton]at hk
     subst hk
     obtain⟨a,ha,a1,a2⟩:=h.h3 k hy
     exact⟨a,(hs a).2 ⟨ha,a1,a2,hy⟩,a1⟩
    ·cases hk
 split
 ·rename_i hy
  rw[if_pos hy]at hp
  exact List.perm_singleton.1 hp
 ·rename_i hy
  rw[if_neg hy]at hp
  exact List.perm_nil.1 hp
end
end Go.Proofs.YtdjeacigeegklaaGreat
