/- Plain: a aaD with the bits of a tree crosses each link of it once, and is delivered once at each receiver. No condition but bK bn stand in each. -/
import Derived.Test.YtdjeacigeegklaaGreatPYT
namespace Go.Proofs.YtdjeacigeegklaaGreat
set_option linter.all false
open Go
theorem ae1{e:aC}{t:aa}(I:List bp→List bO→List aU→List cz→Prop)
  (hs:∀v q D C L,I (v::q) D C L→(C++oG e t v).length≤2000∧I (q++uP e t v) (D++iH e v.cm v.gw) (C++oG e t v) (L++aaF e t v)):∀(n:Nat) (q:List bp) (D:List bO) (C:List aU) (L:List cz),runM q C<n→I q D C L→
  ∃D' C' L',o6 e t n q D C L=(cC.mk D' C' L',0)∧I [] D' C' L'
 |0,_,_,_,_,h,_=>by omega
 |n+1,[],D,C,L,_,h=>⟨D,C,L,rfl,h⟩
 |n+1,v::q,D,C,L,hn,h=>by
  obtain⟨h1,h2⟩:=hs v q D C L h
  have hc:¬2000<(C++oG e t v).length:=by omega
  have:=acv (e:=e) (t:=t) (q:=q) hc
  rw[o6,if_neg hc]
  exact ae1 I hs n _ _ _ _ (by omega) h2
theorem filter_or{α:Type}(p q:α→Bool):∀(l:List α),(∀a∈l,p a=true→q a=false)→(l.filter λa=>p a||q a).Perm (l.filter p++l.filter q)
 |[],_=>by simp
 |a::l,h=>by
  have ih:=filter_or p q l λx hx=>h x (by simp[hx])
  cases hp:p a
  ·cases hq:q a
   ·simpa [List.filter_cons,hp,hq]using ih
   ·simp only[List.filter_cons,hp,hq,Bool.false_or,if_true,Bool.false_eq_true,if_false]
    exact(ih.cons a).trans List.perm_middle.symm
  ·have hq:=h a (by simp) hp
   simp only[List.filter_cons,hp,hq,Bool.or_false,if_true,Bool.false_eq_true,if_false,List.cons_append]
   exact ih.cons a
def ami(c:aU):aV:=aV.mk c.bx c.To
structure aiG(e:aC)(x:dY)(rs:List Int)(Q:aH)(q:List bp)(D:List bO)(C:List aU)(L:List cz)(done:List Int):Prop where
 nd:(q.map (·.cm)++done).Nodup
 tr:∀y∈q.map (·.cm)++done,trT x y
 rt:x.dS∈q.map (·.cm)++done
 par:∀y∈q.map (·.cm)++done,y≠x.dS→∃h∈x.Links,h.To=y∧h.bx∈done
 kid:∀h∈x.Links,h.bx∈done→h.To∈q.map (·.cm)++done
 cr:(C.map ami).Perm (x.Links.filter λh=>decide (h.bx∈done))
 de:(D.map (·.aK)).Perm (done.filter λy=>decide (y∈rs))
 pl:∀d∈D,d.aq.cu=Q.cu
 lo:L=[]
 pk:∀v∈q,Pk e v.gw∧63-(done.length:Int)≤v.gw.TTL∧v.gw.cu=Q.cu∧∀a∈e.List,a.aK∉done→tbi v.gw.Bits a.Bit.toNat=tbi Q.Bits a.Bit.toNat
section
variable {g:aa}{e:aC}{x:dY}{rs:List Int}{Q:aH}
theorem Td.ajU{B:Int}(h:Td g e x rs B):x.Links.length≤24:=by
 have h1:(x.Links.map (·.To)).Nodup:=List.pairwise_map.2 h.vr.dup
 have:=oL h1 (b:=ids g) λy hy=>by
  obtain⟨k,hk,rfl⟩:=List.mem_map.1 hy
  exact h.inG (.inr ⟨k,hk,rfl⟩)
 rw[List.length_map]at this
 have:=qv h.hv
 omega
theorem amj{r:Int}{p:aH}(h:p.TTL≠0):(gf e r p).jF=0:=by
 show((e.List.filter (iz r p)).foldl orA 0)=0
 rw[show e.List.filter (iz r p)=[]from List.filter_eq_nil_iff.2 λa _=>by simp[iz,h]];rfl
theorem agG{y:Int}{p:aH}:(iH e y p).map (·.aK)=(e.List.filter (eO y p)).map (·.aK):=by
 unfold iH
 rw[List.map_map]
 refine List.map_congr_left λa ha=>?_
 have:=(aec (e:=e) (List.mem_filter.1 ha).2).1
 show y=a.aK
 exact this.symm
theorem Td.abj{B:Int}(h:Td g e x rs B){y:Int}{p:aH}{a:ay}(ha:a∈cH e y p):okA g y a=true∧mz g y a=([a.To],true):=by
 obtain⟨h1,h2,_,h4,_⟩:=nH ha
 have hk:=h.kd a h1
 have xJ:gP g y a.To=true:=by
  rcases(h.ef.ok a h1).k with⟨h3,_⟩|⟨_,h3⟩|⟨h3,_⟩
  ·exact absurd h3 h4
  ·rw[←h2];exact h3
  ·exact absurd h3 hk
 have:mz g y a=([a.To],true):=by unfold mz;rw[if_neg hk,xJ]
 exact⟨by unfold okA;rw[this],this⟩
theorem Td.new{B:Int}(h:Td g e x rs B)(y b:Int)(p p':aH):lN g y b (cH e y p)=(cH e y p).map (λa=>aU.mk y a.To b)∧o5 g y p' (cH e y p)=(cH e y p).map (λa=>bp.mk a.To p')∧newL g y (cH e y p)=[]:=by
 have hf:(cH e y p).filter (okA g y)=cH e y p:=List.filter_eq_self.2 λa ha=>(h.abj ha).1
 refine⟨?_,?_,?_⟩
 ·unfold lN
  rw[hf]
  have:∀l:List ay,(∀a∈l,mz g y a=([a.To],true))→(l.flatMap λa=>oF b y (mz g y a).1)=l.map (λa=>aU.mk y a.To b):=λl=>by
   induction l with
   |nil=>intro _;rfl
   |cons a l ih=>
    intro hl
    rw[List.flatMap_cons,List.map_cons,ih λz hz=>hl z (by simp[hz]),hl a (by simp)]
    rfl
  exact this _ λa ha=>(h.abj ha).2
 ·unfold o5
  rw[hf]
  refine List.map_congr_left λa ha=>?_
  rw[(h.abj ha).2];rfl
 ·unfold newL
  rw[show((cH e y p).filter λa=>!okA g y a)=[]from List.filter_eq_nil_iff.2 λa ha=>by simp[(h.abj ha).1]]
  rfl
theorem aiG.step(hT:Td g e x rs Q.Bits){v:bp}{q:List bp}{D:List bO}{C:List aU}{L:List cz}{done:List Int}(h:aiG e x rs Q (v::q) D C L done):
  aiG e x rs Q (q++uP e g v) (D++iH e v.cm v.gw) (C++oG e g v) (L++aaF e g v) (v.cm::done):=by
 obtain⟨y,p⟩:=v
 obtain⟨nd,tr,rt,par,kid,cr,de,pl,lo,pk⟩:=h
 obtain⟨hpk,aaM,aiH,adt⟩:=pk _ (List.mem_cons_self ..)
 have hpk:Pk e p:=hpk
 have aaM:63-(done.length:Int)≤p.TTL:=aaM
 have aiH:p.cu=Q.cu:=aiH
 have adt:∀a∈e.List,a.aK∉done→tbi p.Bits a.Bit.toNat=tbi Q.Bits a.Bit.toNat:=adt
 simp only[List.map_cons,List.cons_append]at nd tr rt par kid
 obtain⟨hy,ndq⟩:=List.nodup_cons.1 nd
 obtain⟨nq,anE,hdis⟩:=List.nodup_append.1 ndq
 have hyq:y∉q.map (·.cm):=λhm=>hy (List.mem_append_left _ hm)
 have hyd:y∉done:=λhm=>hy (List.mem_append_right _ hm)
 have hlen:done.length≤24:=Nat.le_trans (oL anE λz hz=>hT.inG (tr z (List.mem_cons_of_mem _ (List.mem_append_right _ hz)))) (qv hT.hv)
 have ht:p.TTL≠0:=by omega
 have hp:∀a∈e.List,a.aK=y→tbi p.Bits a.Bit.toNat=tbi Q.Bits a.Bit.toNat:=λa ha hr=>adt a ha (by rw[hr];exact hyd)
 have kids:∀k∈x.Links,k.bx=y→k.To∉y::(q.map (·.cm)++done):=λk hk hkf hm=>by
  obtain⟨k',hk',h1,h2⟩:=par k.To hm (hT.vr.nrt k hk)
  have:=hT.one hk' hk h1
  subst this
  rw[hkf]at h2;exact hyd h2
 have ax9:∀k∈x.Links,k.bx=y→ep e y p≠0:=λk hk hkf=>by
  have hk2:=kids k hk hkf
  refine hT.rest (z:=k.To) (.inr ⟨k,hk,rfl⟩) (λh=>hk2 (by rw[h];simp)) λa ha har=>adt a ha λhm=>hk2 ?_
  rw[←har];simp[hm]
 have hs:=hT.ax8 hp ht ax9
 have hl:=hT.locs (p:=p) λa ha hr _=>hp a ha hr
 obtain⟨n1,n2,n3⟩:=hT.new y (ep e y p) p (goP e y p)
 have eQ:uP e g (bp.mk y p)=(cH e y p).map (λa=>bp.mk a.To (goP e y p)):=n2
 have eC:oG e g (bp.mk y p)=(cH e y p).map (λa=>aU.mk y a.To (ep e y p)):=n1
 have eL:aaF e g (bp.mk y p)=[]:=by
  show uq e y p++newL g y (cH e y p)=[]
  unfold uq
  rw[amj ht,if_pos rfl,n3];rfl
 have eQr:(uP e g (bp.mk y p)).map (·.cm)=((cH e y p).map xT).map (·.To):=by
  rw[eQ,List.map_map,List.map_map];rfl
 have hrp:(((cH e y p).map xT).map (·.To)).Perm ((x.Links.filter λk=>decide (k.bx=y)).map (·.To)):=hs.map _
 have hmem:∀z,z∈((cH e y p).map xT).map (·.To)↔∃k∈x.Links,k.bx=y∧k.To=z:=λz=>by
  rw[hrp.mem_iff,List.mem_map]
  constructor
  ·rintro⟨k,hk,rfl⟩
   have:=List.mem_filter.1 hk
   exact⟨k,this.1,by simpa using this.2,rfl⟩
  ·rintro⟨k,hk,h1,rfl⟩
   exact⟨k,List.mem_filter.2 ⟨hk,by simpa using h1⟩,rfl⟩
 have hnd2:(((cH e y p).map xT).map (·.To)).Nodup:=hrp.nodup_iff.2 ((List.pairwise_map.2 hT.vr.dup:(x.Links.map (·.To)).Nodup).sublist (List.filter_sublist.map _))
 have eCh:(oG e g (bp.mk y p)).map ami=(cH e y p).map xT:=by
  rw[eC,List.map_map]
  refine List.map_congr_left λa ha=>?_
  have:=(nH ha).2.1
  show aV.mk y a.To=aV.mk a.aK a.To
  rw[this]
 refine⟨?_,?_,?_,?_,?_,?_,?_,?_,?_,?_⟩
 ·rw[List.map_append,eQr,List.append_assoc,List.nodup_append]
  refine⟨nq,?_,λa ha b hb hab=>?_⟩
  ·rw[List.nodup_append]
   refine⟨hnd2,List.nodup_cons.2 ⟨hyd,anE⟩,λa ha b hb hab=>?_⟩
   subst hab
   obtain⟨k,hk,h1,rfl⟩:=(hmem a).1 ha
   refine kids k hk h1 ?_
   rcases List.mem_cons.1 hb with hb|hb
   ·rw[hb];simp
   ·simp[hb]
  ·subst hab
   rcases List.mem_append.1 hb with hb|hb
   ·obtain⟨k,hk,h1,rfl⟩:=(hmem a).1 hb
    exact kids k hk h1 (List.mem_cons_of_mem _ (List.mem_append_left _ ha))
   ·rcases List.mem_cons.1 hb with hb|hb
    ·subst hb;exact hyq ha
    ·exact hdis a ha a hb rfl
 ·intro z hz
  rw[List.map_append,eQr]at hz
  simp only[List.mem_append,List.mem_cons]at hz
  rcases hz with(hz|hz)|hz|hz
  ·exact tr z (List.mem_cons_of_mem _ (List.mem_append_left _ hz))
  ·obtain⟨k,hk,_,rfl⟩:=(hmem z).1 hz
   exact .inr ⟨k,hk,rfl⟩
  ·exact tr z (by rw[hz];simp)
  ·exact tr z (List.mem_cons_of_mem _ (List.mem_append_right _ hz))
 ·rw[List.map_append,eQr]
  simp only[List.mem_cons,List.mem_append]at rt ⊢
  rcases rt with h|h|h
  ·exact .inr (.inl h)
  ·exact .inl (.inl h)
  ·exact .inr (.inr h)
 ·intro z hz hzr
  rw[List.map_append,eQr]at hz
  simp only[List.mem_append,List.mem_cons]at hz
  have old:z∈y::(q.map (·.cm)++done)→∃h∈x.Links,h.To=z∧h.bx∈y::done:=λhm=>by
   obtain⟨k,hk,h1,h2⟩:=par z hm hzr
   exact⟨k,hk,h1,List.mem_cons_of_mem _ h2⟩
  rcases hz with(hz|hz)|hz|hz
  ·exact old (List.mem_cons_of_mem _ (List.mem_append_left _ hz))
  ·obtain⟨k,hk,h1,rfl⟩:=(hmem z).1 hz
   exact⟨k,hk,rfl,by rw[h1];simp⟩
  ·exact old (by rw[hz];simp)
  ·exact old (List.mem_cons_of_mem _ (List.mem_append_right _ hz))
 ·intro k hk hkf
  rw[List.map_append,eQr]
  simp only[List.mem_append,List.mem_cons]
  rcases List.mem_cons.1 hkf with hkf|hkf
  ·exact .inl (.inr ((hmem _).2 ⟨k,hk,hkf,rfl⟩))
  ·have:=kid k hk hkf
   simp only[List.mem_cons,List.mem_append]at this
   rcases this with h|h|h
   ·exact .inr (.inl h)
   ·exact .inl (.inl h)
   ·exact .inr (.inr h)
 ·rw[List.map_append,eCh]
  refine(cr.append hs).trans ?_
  refine(filter_or (λh:aV=>decide (h.bx∈done)) (λh:aV=>decide (h.bx=y)) x.Links λa _ ha=>?_).symm.trans ?_
  ·have ha:a.bx∈done:=by simpa using ha
   simp only[decide_eq_false_iff_not]
   intro hay;rw[hay]at ha;exact hyd ha
  ·refine List.Perm.of_eq (List.filter_congr λa _=>?_)
   rw[Bool.eq_iff_iff]
   simp only[Bool.or_eq_true,decide_eq_true_eq,List.mem_cons]
   exact or_comm
 ·rw[List.map_append,agG,hl]
  by_cases hr:y∈rs
  ·rw[if_pos hr,List.filter_cons_of_pos (by simpa using hr)]
   exact(de.append_right _).trans List.perm_append_comm
  ·rw[if_neg hr,List.append_nil,List.filter_cons_of_neg (by simpa using hr)]
   exact de
 ·intro d hd
  rcases List.mem_append.1 hd with hd|hd
  ·exact pl d hd
  ·obtain⟨a,_,rfl⟩:=List.mem_map.1 hd
   exact aiH
 ·rw[lo,eL];rfl
 ·intro u hu
  rcases List.mem_append.1 hu with hu|hu
  ·obtain⟨u1,u2,u3,u4⟩:=pk u (List.mem_cons_of_mem _ hu)
   refine⟨u1,?_,u3,λa ha har=>u4 a ha λhm=>har (List.mem_cons_of_mem _ hm)⟩
   simp only[List.length_cons];omega
  ·rw[eQ]at hu
   obtain⟨a,ha,rfl⟩:=List.mem_map.1 hu
   obtain⟨_,_,_,_,_,s6⟩:=nH ha
   have hv:=(o4.1 hpk.v).2.2.2.2.1
   refine⟨hpk.go hT.ef.v y s6 (by omega),?_,aiH,λb hb hbr=>?_⟩
   ·show 63-(((y::done).length:Nat):Int)≤w64 (p.TTL-1)
    rw[iA (by omega) (by omega)]
    simp only[List.length_cons];omega
   ·show tbi (ep e y p) b.Bit.toNat=_
    rw[agF hT.ef.v hb λh=>hbr (by rw[h];simp)]
    exact adt b hb λhm=>hbr (List.mem_cons_of_mem _ hm)
theorem amk(hT:Td g e x rs Q.Bits)(hQ:Pk e Q)(ht:Q.TTL=63):∃D C,o6 e g 5000 [bp.mk x.dS Q] [] [] []=(cC.mk D C [],0)∧(C.map ami).Perm x.Links∧(D.map (·.aK)).Perm rs∧∀d∈D,d.aq.cu=Q.cu:=by
 obtain⟨D,C,L,h1,done,h2⟩:=ae1 (e:=e) (t:=g) (λq D C L=>∃done,aiG e x rs Q q D C L done) (λv q D C L ⟨done,h⟩=>by
  have hst:=h.step hT
  refine⟨?_,_,hst⟩
  have:=hst.cr.length_eq
  rw[List.length_map]at this
  have h3:=List.length_filter_le (λh:aV=>decide (h.bx∈v.cm::done)) x.Links
  have:=hT.ajU
  omega) 5000 [bp.mk x.dS Q] [] [] [] (by simp[runM]) ⟨[],by simp,by simp[trT],by simp,by simp,by simp,by simp,by simp,by simp,rfl,by simp[hQ,ht]⟩
 obtain⟨nd,tr,rt,par,kid,cr,de,pl,lo,pk⟩:=h2
 simp only[List.map_nil,List.nil_append]at nd tr rt par kid
 have all:∀y,Rch x.dS x.Links y→y∈done:=λy hy=>by
  induction hy with
  |root=>exact rt
  |step k hk _ ih=>exact kid k hk ih
 subst lo
 refine⟨D,C,h1,?_,?_,pl⟩
 ·rwa [List.filter_eq_self.2 λk hk=>by simpa using all _ (hT.vr.rch k hk)]at cr
 ·refine de.trans ((List.perm_ext_iff_of_nodup (nd.sublist List.filter_sublist) (hT.asc.imp λh e=>by omega)).2 λy=>?_)
  rw[List.mem_filter,decide_eq_true_eq]
  refine⟨λh=>h.2,λh=>⟨all y ?_,h⟩⟩
  rcases hT.sub y h with rfl|⟨k,hk,rfl⟩
  ·exact .root
  ·exact .step k hk (hT.vr.rch k hk)
end
end Go.Proofs.YtdjeacigeegklaaGreat
