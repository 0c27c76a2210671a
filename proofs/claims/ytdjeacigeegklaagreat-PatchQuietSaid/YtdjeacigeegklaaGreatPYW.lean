/- Plain: zj bn nothing needs. No condition but bK bn stand in each. -/
import Derived.Test.YtdjeacigeegklaaGreatPYU
import Derived.Test.YtdjeacigeegklaaGreatPYR
namespace Go.Proofs.YtdjeacigeegklaaGreat
set_option linter.all false
open Go
theorem agH{l:List aV}{a b:Int}:oD l a b=true↔aV.mk a b∈l:=by
 unfold oD
 rw[List.any_eq_true]
 constructor
 ·rintro⟨h,hh,he⟩
  rw[(ac6 _ _).1 he];exact hh
 ·intro h
  exact⟨_,h,(ac6 _ _).2 rfl⟩
variable {f:bF}
theorem amm{g:aa}(hv:Vt g){a b:Int}:gP (ig g f) a b=true↔gP g a b=true∧a∉f.aj∧b∉f.aj∧aV.mk a b∉f.Links∧aV.mk b a∉f.Links:=by
 have hw:ig g f=woT g f:=by unfold ig;rw[if_pos (fK.2 hv)]
 have hg:∀l:aW,vh f l=false↔l.A∉f.aj∧l.B∉f.aj∧aV.mk l.A l.B∉f.Links∧aV.mk l.B l.A∉f.Links:=λl=>by
  unfold vh
  simp only[Bool.or_eq_false_iff,decide_eq_false_iff_not,←agH,Bool.not_eq_true,and_assoc]
 rw[hw,jm,jm]
 have hm:∀l:aW,l∈(woT g f).Links↔l∈g.Links∧vh f l=false:=λl=>by
  show l∈g.Links.filter _↔_
  rw[List.mem_filter];simp
 constructor
 ·rintro⟨l,hl,h⟩
  obtain⟨h1,h2⟩:=(hm l).1 hl
  obtain⟨q1,q2,q3,q4⟩:=(hg l).1 h2
  rcases h with⟨rfl,rfl⟩|⟨rfl,rfl⟩
  ·exact⟨⟨l,h1,.inl ⟨rfl,rfl⟩⟩,q1,q2,q3,q4⟩
  ·exact⟨⟨l,h1,.inr ⟨rfl,rfl⟩⟩,q2,q1,q4,q3⟩
 ·rintro⟨⟨l,hl,h⟩,q1,q2,q3,q4⟩
  rcases h with⟨rfl,rfl⟩|⟨rfl,rfl⟩
  ·exact⟨l,(hm l).2 ⟨hl,(hg l).2 ⟨q1,q2,q3,q4⟩⟩,.inl ⟨rfl,rfl⟩⟩
  ·exact⟨l,(hm l).2 ⟨hl,(hg l).2 ⟨q2,q1,q4,q3⟩⟩,.inr ⟨rfl,rfl⟩⟩
theorem amn{g:aa}(hv:Vt g){r n:Int}:n∈dnT g f r↔gP g r n=true∧(n∈f.aj∨aV.mk r n∈f.Links∨aV.mk n r∈f.Links):=by
 unfold dnT dnB
 rw[if_pos (fK.2 hv),List.mem_filter,mF hv]
 simp only[Bool.or_eq_true,decide_eq_true_eq,agH]
def cvQ(v:bp):bh:=bh.mk v.cm (eP.mk [] v.gw)
def Clr(e:aC)(g w:aa)(f:bF)(r:Int)(p:aH):Prop:=∀a∈cH e r p,a.Kind≠2∧gP g r a.To=true∧a.To∉dnT g f r∧gP w r a.To=true
theorem agI{α:Type}{f:α→List α}:∀{l:List α},(∀a∈l,f a=[a])→l.flatMap f=l
 |[],_=>rfl
 |a::l,h=>by rw[List.flatMap_cons,h a (by simp),agI λx hx=>h x (by simp[hx])];rfl
theorem aqZ{e:aC}{g w:aa}{r:Int}{p:aH}(h:Clr e g w f r p):nI e g r p (dnT g f r)=gf e r p:=by
 have hc:∀c∈(gf e r p).bY,c.To∉dnT g f r:=λc hc=>by
  obtain⟨a,ha,rfl⟩:=List.mem_map.1 hc
  exact(h a ha).2.2.1
 have h1:(gf e r p).bY.flatMap (uj e g r (dnT g f r))=(gf e r p).bY:=agI λc hm=>by unfold uj;rw[if_neg (hc c hm)]
 have h2:∀(l:List bg) (s:Int),(∀c∈l,c.To∉dnT g f r)→l.foldl (xS e g r (dnT g f r)) s=s:=λl=>by
  induction l with
  |nil=>intros;rfl
  |cons c l ih=>
   intro s hl
   rw[List.foldl_cons]
   have:xS e g r (dnT g f r) s c=s:=by unfold xS;rw[if_neg (hl c (by simp))]
   rw[this];exact ih s λz hz=>hl z (by simp[hz])
 unfold nI
 rw[h1,h2 _ _ hc]
theorem amp{e:aC}{g w:aa}{v:bp}(h:Clr e g w f v.cm v.gw):
  oH e g f w (cvQ v)=oG e g v∧qM e g f w (cvQ v)=(uP e g v).map cvQ∧wK e g f w (cvQ v)=aaF e g v∧wJ e (cvQ v)=iH e v.cm v.gw:=by
 obtain⟨r,p⟩:=v
 have h:Clr e g w f r p:=h
 have ho:rT e g f (cvQ (bp.mk r p))=gf e r p:=aqZ h
 have hw:∀a∈cH e r p,mz g r a=([a.To],true):=λa ha=>by
  obtain⟨h1,h2,_,_⟩:=h a ha
  unfold mz;rw[if_neg h1,h2]
 have hok:∀a∈cH e r p,okA g r a=true:=λa ha=>by unfold okA;rw[hw a ha]
 have hf:(cH e r p).filter (okA g r)=cH e r p:=List.filter_eq_self.2 hok
 have hc:∀c∈(gf e r p).bY,okC w r c=true:=λc hc=>by
  obtain⟨a,ha,rfl⟩:=List.mem_map.1 hc
  exact(h a ha).2.2.2
 have hcf:(gf e r p).bY.filter (okC w r)=(gf e r p).bY:=List.filter_eq_self.2 hc
 refine⟨?_,?_,?_,rfl⟩
 ·unfold oH sCr
  rw[ho]
  show(((gf e r p).bY.filter (okC w r)).map _)=lN g r (ep e r p) (cH e r p)
  rw[hcf]
  unfold lN
  rw[hf]
  show((cH e r p).map (fM e r p)).map _=_
  rw[List.map_map]
  have:∀l:List ay,(∀a∈l,mz g r a=([a.To],true))→l.map ((λc:bg=>aU.mk r c.To c.Frame.aq.Bits)∘fM e r p)=l.flatMap λa=>oF (ep e r p) r (mz g r a).1:=λl=>by
   induction l with
   |nil=>intro _;rfl
   |cons a l ih=>
    intro hl
    rw[List.flatMap_cons,List.map_cons,ih λz hz=>hl z (by simp[hz]),hl a (by simp)]
    rfl
  exact this _ hw
 ·unfold qM sQu
  rw[ho]
  show(((gf e r p).bY.filter (okC w r)).map _)=(o5 g r (goP e r p) (cH e r p)).map cvQ
  rw[hcf]
  unfold o5
  rw[hf]
  show((cH e r p).map (fM e r p)).map _=_
  rw[List.map_map,List.map_map]
  refine List.map_congr_left λa ha=>?_
  have h1:=(h a ha).1
  have h2:=hw a ha
  simp only[Function.comp_apply,fM,if_neg h1,cvQ,h2]
  rfl
 ·unfold wK zl sLo
  rw[ho]
  show(if(gf e r p).jF=0 then[]else[cz.mk r (gf e r p).jF])++((gf e r p).bY.filter λc=>!okC w r c).map _=uq e r p++newL g r (cH e r p)
  have e1:((gf e r p).bY.filter λc=>!okC w r c)=[]:=List.filter_eq_nil_iff.2 λc hm=>by simp[hc c hm]
  have e2:((cH e r p).filter λa=>!okA g r a)=[]:=List.filter_eq_nil_iff.2 λa hm=>by simp[hok a hm]
  unfold newL
  rw[e1,e2];rfl
theorem ae2{e:aC}{g w:aa}{f:bF}{B:Int}(hq:∀r (p:aH),(∀i,tbi p.Bits i=true→tbi B i=true)→Clr e g w f r p):∀(n:Nat) (q:List bp) (D:List bO) (C:List aU) (L:List cz),(∀v∈q,∀i,tbi v.gw.Bits i=true→tbi B i=true)→
  rU e g f w n (q.map cvQ) D C L=o6 e g n q D C L
 |0,_,_,_,_,_=>rfl
 |n+1,[],_,_,_,_=>rfl
 |n+1,v::q,D,C,L,h=>by
  have hv:=h v (by simp)
  obtain⟨h1,h2,h3,h4⟩:=amp (hq v.cm v.gw hv)
  rw[List.map_cons,rU,o6,h1,h2,h3,h4]
  split
  ·rfl
  ·rw[←List.map_append]
   refine ae2 hq n _ _ _ _ λu hu=>?_
   rcases List.mem_append.1 hu with hu|hu
   ·exact h u (by simp[hu])
   ·obtain⟨a,_,rfl⟩:=List.mem_map.1 hu
    exact λi hi=>hv i (zh hi)
section
variable {g:aa}{e:aC}{x:dY}{rs:List Int}{Q:aH}
theorem Td.pl{B:Int}(h:Td g e x rs B):plB e=true:=yu.2 ⟨h.ef.v,h.kd⟩
theorem Td.ajW{B:Int}(h:Td g e x rs B){r:Int}{p:aH}(hp:∀i,tbi p.Bits i=true→tbi B i=true){a:ay}(ha:a∈cH e r p):aV.mk r a.To∈x.Links∧a.Kind=1:=by
 obtain⟨h1,h2,h3,h4,_⟩:=nH ha
 rcases(h.bits a h1).1 (hp _ h3)with⟨h5,_⟩|⟨h5,h6⟩
 ·exact absurd h5 h4
 ·rw[h2]at h6;exact⟨h6,h5⟩
def aiJ(x:dY)(f:bF):Prop:=(∀y,trT x y→y∉f.aj)∧∀h∈x.Links,h∉f.Links∧aV.mk h.To h.bx∉f.Links
theorem Td.clr{B:Int}(h:Td g e x rs B){f:bF}(hf:aiJ x f)(r:Int)(p:aH)(hp:∀i,tbi p.Bits i=true→tbi B i=true):Clr e g (ig g f) f r p:=λa ha=>by
 obtain⟨h1,h2⟩:=h.ajW hp ha
 have xJ:gP g r a.To=true:=h.adj _ h1
 have ht:trT x a.To:=.inr ⟨_,h1,rfl⟩
 have hr:trT x r:=h.from h1
 obtain⟨q1,q2⟩:=hf.2 _ h1
 refine⟨by omega,xJ,λhd=>?_,(amm h.hv).2 ⟨xJ,hf.1 _ hr,hf.1 _ ht,q1,q2⟩⟩
 rcases((amn h.hv).1 hd).2 with h3|h3|h3
 ·exact hf.1 _ ht h3
 ·exact q1 h3
 ·exact q2 h3
theorem ae3(h:Td g e x rs Q.Bits)(hQ:Pk e Q)(ht:Q.TTL=63){f:bF}(hf:aiJ x f):aaK e g f Q x.dS=xR e g Q x.dS:=by
 unfold aaK xR
 simp only[if_pos (show plB e=true∧eU g=0∧l9 Q=true from⟨h.pl,fK.2 h.hv,hQ.v⟩),if_pos (show l8 e=0∧eU g=0∧l9 Q=true from⟨iX.2 h.ef.v,fK.2 h.hv,hQ.v⟩),if_pos h.rt,if_pos hQ.adn,if_neg (hf.1 _ (.inl rfl))]
 exact ae2 (B:=Q.Bits) (h.clr hf) 5000 [bp.mk x.dS Q] [] [] [] λv hv i hi=>by
  rw[List.mem_singleton]at hv
  subst hv;exact hi
theorem ajX(h:Td g e x rs Q.Bits)(hQ:Pk e Q):xR e g Q x.dS=o6 e g 5000 [bp.mk x.dS Q] [] [] []:=by
 unfold xR
 rw[if_pos ⟨iX.2 h.ef.v,fK.2 h.hv,hQ.v⟩,if_pos h.rt,if_pos hQ.adn]
end
end Go.Proofs.YtdjeacigeegklaaGreat
