/- Plain: the law adH. No condition but bH bq stand in each. -/
import Derived.Test.YtjdopimopgpagaaGreatPS9
import Derived.Test.YtjdopimopgpagaaGreatDL8
namespace Go.Proofs.YtjdopimopgpagaaGreat
set_option linter.all false
open Go
structure Hd(B:Int)(f:aj):Prop where
 v:Vf f
 n:1≤f.aA.length
 own:∀n∈f.aA,(1≤n.Seq∧n.Seq≤B)∧look n.Database n.af=some (oO f n)
 old:∀n∈f.aA,∀s a,look n.Database s=some a→a.Seq≤B
 mol:∀m∈f.aq,∀s a,look m.Database s=some a→a.Seq≤B
variable {B:Int}{f:aj}
theorem Hd.mono{C:Int}(h:Hd B f)(hc:B≤C):Hd C f:=⟨h.v,h.n,λn hn=>⟨⟨(h.own n hn).1.1,by have:=(h.own n hn).1.2;omega⟩,(h.own n hn).2⟩,λn hn s a ha=>by have:=h.old n hn s a ha;omega,λm hm s a ha=>by have:=h.mol m hm s a ha;omega⟩
theorem Hd.rdy(h:Hd B f)(hb:0≤B∧B≤900000):Rdy B f:=⟨hb,h.v,λn hn=>⟨(h.own n hn).1.1,by have:=(h.own n hn).1.2;omega,(h.own n hn).2⟩,λn hn s a ha=>.inl (h.old n hn s a ha),λm hm s a ha=>.inl (h.mol m hm s a ha)⟩
theorem Rdy.hd(h:Rdy B f)(hn:1≤f.aA.length):Hd (B+1) f:=by
 have ho:∀a,Old B f a→a.Seq≤B+1:=λa ha=>by
  rcases ha with ha|⟨n,hn,_,ha⟩
  ·omega
  ·have:=(h.own n hn).2.1;omega
 exact⟨h.v,hn,λn hn=>⟨⟨(h.own n hn).1,(h.own n hn).2.1⟩,(h.own n hn).2.2⟩,λn hn s a ha=>ho a (h.old n hn s a ha),λm hm s a ha=>ho a (h.mol m hm s a ha)⟩
variable {M:List aR}
theorem Hd.msgs(h:Hd B f)(hv:Vf (aj.mk f.Links f.aA M))(hm:∀m∈M,∀s a,look m.Database s=some a→a.Seq≤B):Hd B (aj.mk f.Links f.aA M):=⟨hv,h.n,h.own,h.old,hm⟩
theorem ac1(h:Vf f)(hl:M.length≤400)(hm:∀m∈M,m∈f.aq):Vf (aj.mk f.Links f.aA M):=⟨h.t,hl,h.n,λm hx=>h.g m (hm m hx)⟩
variable {a:ai}
theorem ajO{b:ai}(ha:cc a=true)(hb:cc b=true)(hr:a.af=b.af)(hs:b.Seq<a.Seq):lG a b=true:=by
 simp[lG,ha,hb,hr,iK,hs]
theorem af0{d:aF}(hd:Vd d)(ha:cc a=true)(hs:∀x,look d a.af=some x→x.Seq<a.Seq):∀s,look (mD d a).1 s=if s=a.af then some a else look d s:=λs=>by
 rw[abp hd ha s]
 by_cases h:s=a.af
 ·rw[if_pos h,if_pos h,h]
  cases hl:look d a.af with
  |none=>rfl
  |some x=>
   obtain⟨h1,h2⟩:=(fC hd).1 hl
   have:=ajO ha (hd.ok x h1) h2.symm (hs x hl)
   simp only[mx,this,cond_true]
 ·rw[if_neg h,if_neg h]
theorem ag6(h:Hd B f)(hb:1≤B)(r:Int):Ok (kJ f r) (λp=>p.2=0→Hd (B+1) p.1):=by
 unfold kJ
 have hf:=h.v
 rcases nh f r with⟨h1,_⟩|⟨a,n,b,hL,h2,h3⟩
 ·rw[(wP hf h1).1,(wP hf h1).2]
  exact Ok.s (λh0=>by cases h0)
 ·subst h3
  have hn:n∈f.aA:=by rw[hL];simp
  have hno:=hf.n n hn
  have e1:elO f.aA (a.length:Int)=some n:=by rw[hL];exact iy a n b
  have e2:gF f.aA (a.length:Int)=λy=>some (a++y::b):=by funext y;rw[hL];exact pH a n y b
  have hnil:Vd (aF.mk []):=⟨by simp,by simp,by simp⟩
  rw[adx hf hL]
  simp only[els,e1,e2,aL,decide_true,Bool.not_true,cond_false,iy,pH]
  have hV:Vf (dP f a (aO.mk n.af 1 n.aY n.Claims (aF.mk [])) b):=hf.dP hL rfl rfl ⟨⟨by show(0:Int)≤1;decide,by show(1:Int)≤1000000;decide⟩,hno.2.1,hnil⟩
  have h4:=ae0 hV (a:=a) (b:=b) (n:=aO.mk n.af 1 n.aY n.Claims (aF.mk [])) rfl (by show(1:Int)≤1;decide)
  rw[show aj.mk f.Links (a++aO.mk n.af 1 n.aY n.Claims (aF.mk [])::b) f.aq=dP f a (aO.mk n.af 1 n.aY n.Claims (aF.mk [])) b from rfl,h4]
  simp only[aL,uF]
  refine Ok.s λ_=>?_
  have et:=kN (n':=aO.mk n.af 1 n.aY n.Claims (aF.mk [])) hL rfl rfl
  have ep:oN (dP f a (aO.mk n.af 1 n.aY n.Claims (aF.mk [])) b) (aO.mk n.af 1 n.aY n.Claims (aF.mk []))=oN f (aO.mk n.af 1 n.aY n.Claims (aF.mk [])):=by
   unfold oN;rw[et]
  rw[ep]
  have hval:cc (ofA (aW f) n.af 1 n.Claims)=true:=xL hf hn (by omega)
  have hlk:=af0 hnil hval (λx hx=>by cases hx)
  have hV2:=hf.pub hL (n:=aO.mk n.af 1 n.aY n.Claims (aF.mk [])) rfl rfl (by show(1:Int)≤1∧(1:Int)≤1000000;decide) hno.2.1 hnil
  have et2:=kN (n':=oN f (aO.mk n.af 1 n.aY n.Claims (aF.mk []))) hL rfl rfl
  generalize hN:oN f (aO.mk n.af 1 n.aY n.Claims (aF.mk []))=n' at hV2 et2 ⊢
  have hmem:∀x∈(dP f a n' b).aA,x∈f.aA∨x=n':=λx hx=>by
   have hx:x∈a++n'::b:=hx
   rw[hL]
   rcases List.mem_append.1 hx with hx|hx
   ·exact .inl (by simp[hx])
   ·rcases List.mem_cons.1 hx with hx|hx
    ·exact .inr hx
    ·exact .inl (by simp[hx])
  refine⟨hV2,by show 1≤(a++n'::b).length;simp;omega,λx hx=>?_,λx hx s z hz=>?_,λm hm s z hz=>by have:=h.mol m hm s z hz;omega⟩
  ·unfold oO
   rw[et2]
   rcases hmem x hx with hx|rfl
   ·obtain⟨⟨q1,q2⟩,q3⟩:=h.own x hx
    exact⟨⟨q1,by omega⟩,q3⟩
   ·rw[←hN]
    refine⟨⟨by show(1:Int)≤1;decide,by show 1≤B+1;omega⟩,?_⟩
    show look (mD (aF.mk []) (ofA (aW f) n.af 1 n.Claims)).1 n.af=_
    rw[hlk];exact if_pos rfl
  ·rcases hmem x hx with hx|rfl
   ·have:=h.old x hx s z hz;omega
   ·rw[←hN]at hz
    have hz:look (mD (aF.mk []) (ofA (aW f) n.af 1 n.Claims)).1 s=some z:=hz
    rw[hlk]at hz
    by_cases hs:s=(ofA (aW f) n.af 1 n.Claims).af
    ·rw[if_pos hs]at hz
     rw[←Option.some.inj hz]
     show(1:Int)≤B+1
     omega
    ·rw[if_neg hs]at hz;cases hz
theorem ane(h:Hd B f)(r:Int):Ok (mX f r) (λp=>p.2=0→Hd (B+1) p.1):=by
 unfold mX
 have hf:=h.v
 rcases nh f r with⟨h1,_⟩|⟨a,n,b,hL,h2,h3⟩
 ·rw[(wP hf h1).1,(wP hf h1).2]
  exact Ok.s (λh0=>by cases h0)
 ·subst h3
  have hn:n∈f.aA:=by rw[hL];simp
  have hm:=hf.m
  rw[adx hf hL]
  have hs:=afW hf hL f.aq (by omega)
  rw[show aj.mk f.Links f.aA f.aq=f from rfl]at hs
  simp only[els,aL,decide_true,Bool.not_true,cond_false,hs]
  refine Ok.cs (λ_=>Ok.s (λh0=>by cases h0)) λhc=>Ok.s λ_=>?_
  have hc:(f.aq++wQ f n).length≤400:=by have:=of_decide_eq_false hc;omega
  refine(h.mono (by omega)).msgs ⟨hf.t,hc,hf.n,λm hx=>?_⟩ λm hx s z hz=>?_
  ·rcases List.mem_append.1 hx with hx|hx
   ·exact hf.g m hx
   ·exact adB hf hn hx
  ·rcases List.mem_append.1 hx with hx|hx
   ·have:=h.mol m hx s z hz;omega
   ·unfold wQ at hx
    obtain⟨y,_,rfl⟩:=List.mem_map.1 hx
    have:=h.old n hn s z hz;omega
theorem anf(h:Hd B f)(k:Int):Ok (mY f k) (λp=>p.2=0→Hd (B+1) p.1):=by
 unfold mY
 have hf:=h.v
 have hm:=hf.m
 by_cases hk:0≤k∧k<f.aq.length
 ·obtain⟨p,x,q,hL,rfl⟩:=yI hk
  rw[w5 hf hk]
  simp only[els,aL,decide_true,Bool.not_true,cond_false]
  rw[show x2 f.aq (p.length:Int) (w64 ((p.length:Int)+1))=some (p++q)by rw[hL];exact afX p x q (by rw[←hL];omega),aL]
  have hsub:∀m∈p++q,m∈f.aq:=λm hm=>by rw[hL];rcases List.mem_append.1 hm with hm|hm<;>simp[hm]
  exact Ok.s λ_=>(h.mono (by omega)).msgs (ac1 hf (by rw[hL]at hm;simp at hm ⊢;omega) hsub) λm hx s z hz=>by have:=h.mol m (hsub m hx) s z hz;omega
 ·rw[(pI hf hk).1,(pI hf hk).2]
  exact Ok.s (λh0=>by cases h0)
theorem aif(h:Hd B f)(k:Int):Ok (lF f k) (λp=>p.2=0→Hd (B+1) p.1):=by
 unfold lF
 have hf:=h.v
 have hm:=hf.m
 by_cases hk:0≤k∧k<f.aq.length
 ·obtain⟨p,x,q,hL,rfl⟩:=yI hk
  have hx:x∈f.aq:=by rw[hL];simp
  have e1:elO f.aq (p.length:Int)=some x:=by rw[hL];exact iy p x q
  rw[w5 hf hk]
  simp only[els,e1,aL,decide_true,Bool.not_true,cond_false,vh (hf.g x hx).2.2.2.sm]
  refine Ok.cs (λ_=>Ok.s (λh0=>by cases h0)) λhc=>?_
  have hc:¬(f.aq.length:Int)=400:=of_decide_eq_false hc
  rw[eB (by simp;omega),aL]
  have hsub:∀m∈f.aq++[x],m∈f.aq:=λm hm=>by
   rcases List.mem_append.1 hm with hm|hm
   ·exact hm
   ·rw[List.mem_singleton.1 hm];exact hx
  exact Ok.s λ_=>(h.mono (by omega)).msgs (ac1 hf (by simp;omega) hsub) λm hx s z hz=>by have:=h.mol m (hsub m hx) s z hz;omega
 ·rw[(pI hf hk).1,(pI hf hk).2]
  exact Ok.s (λh0=>by cases h0)
theorem ag7(h:Hd B f)(hb:0≤B∧B≤900000)(k:Int):Ok (kK f k) (λp=>p.2=0→Hd (B+1) p.1):=by
 unfold kK
 have hf:=h.v
 have hm:=hf.m
 by_cases hk:0≤k∧k<f.aq.length
 ·obtain⟨p,x,q,hL,rfl⟩:=yI hk
  obtain⟨g,d1,d2,d3,_⟩:=zG hf hL
  rw[w5 hf hk]
  simp only[els,aL,decide_true,Bool.not_true,cond_false,d1]
  refine Ok.s λ_=>?_
  have hsub:∀m∈x::(p++q),m∈f.aq:=λm hm=>by
   rw[hL]
   rcases List.mem_cons.1 hm with rfl|hm
   ·simp
   ·rcases List.mem_append.1 hm with hm|hm<;>simp[hm]
  have hh:Hd B (aj.mk f.Links f.aA (x::(p++q))):=h.msgs (ac1 hf (by rw[hL]at hm;simp at hm ⊢;omega) hsub) λm hx s z hz=>h.mol m (hsub m hx) s z hz
  have hw:=(zH (hh.rdy hb) (x:=x) (q:=p++q) rfl).1
  have hg:=(rT hh.v (x:=x) (q:=p++q) rfl).2.1
  have e:gf (aj.mk f.Links f.aA (x::(p++q))) [] (p++q)=gf f p q:=rfl
  rw[e,d2]at hg
  show Hd (B+1) g
  rw[Option.some.inj hg]
  exact hw.rd.hd (by rw[hw.len];exact h.n)
 ·rw[(pI hf hk).1,(pI hf hk).2]
  exact Ok.s (λh0=>by cases h0)
theorem aih(h:Hd B f)(hb:0≤B∧B≤900000){L:List aV}(hl:L.length≤100000):Ok (gp f L) (λp=>p.2=0→Hd (B+1) p.1):=by
 have hf:=h.v
 have hgs:SmF (cn f L):=⟨hl,hf.sm.2⟩
 cases hv:ql (cn f L)with
 |false=>
  have e:gp f L=some (aj.mk [] [] [],1):=by
   unfold gp
   rw[ae2 hf.wc,aL,xH hl,aL]
   simp only[jn]
   rw[show aj.mk L f.aA f.aq=cn f L from rfl,lB hf.sm,lB hgs,hv,ni.2 hf]
   rfl
  rw[e]
  exact Ok.s (λh0=>by cases h0)
 |true=>
  have hg:=ni.1 hv
  rw[ah3 hf hg]
  refine Ok.s λ_=>?_
  obtain⟨hcv,hct⟩:=ah2 hg
  have node:∀n∈f.aA,((1≤(eG (aW f) (aW (cn f L)) n).Seq∧(eG (aW f) (aW (cn f L)) n).Seq≤B+1)∧look (eG (aW f) (aW (cn f L)) n).Database (eG (aW f) (aW (cn f L)) n).af=some (ofA (aW (cn f L)) (eG (aW f) (aW (cn f L)) n).af (eG (aW f) (aW (cn f L)) n).Seq (eG (aW f) (aW (cn f L)) n).Claims))∧∀s a,look (eG (aW f) (aW (cn f L)) n).Database s=some a→a.Seq≤B+1:=λn hn=>by
   obtain⟨⟨q1,q2⟩,q3⟩:=h.own n hn
   have hno:=hf.n n hn
   cases hc:wj (aW f) (aW (cn f L)) n with
   |false=>
    have e:eG (aW f) (aW (cn f L)) n=n:=by unfold eG;rw[hc];rfl
    rw[e]
    refine⟨⟨⟨q1,by omega⟩,?_⟩,λs a ha=>by have:=h.old n hn s a ha;omega⟩
    rw[q3]
    have hlt:n.Seq<1000000:=by omega
    simp only[wj,q1,hlt,decide_true,Bool.true_and,Bool.not_eq_false']at hc
    unfold oO
    rw[(uE _ _).1 hc]
   |true=>
    have e:eG (aW f) (aW (cn f L)) n=aO.mk n.af (n.Seq+1) n.aY n.Claims (mD n.Database (ofA (aW (cn f L)) n.af (n.Seq+1) n.Claims)).1:=by unfold eG;rw[hc];rfl
    rw[e]
    have hval:cc (ofA (aW (cn f L)) n.af (n.Seq+1) n.Claims)=true:=xL hg (show n∈(cn f L).aA from hn) (by omega)
    have hlk:=af0 hno.2.2 hval (λx hx=>by
     have hx:look n.Database n.af=some x:=hx
     rw[q3]at hx
     rw[←Option.some.inj hx]
     show n.Seq<n.Seq+1
     omega)
    refine⟨⟨⟨by show 1≤n.Seq+1;omega,by show n.Seq+1≤B+1;omega⟩,?_⟩,λs a ha=>?_⟩
    ·show look (mD n.Database (ofA (aW (cn f L)) n.af (n.Seq+1) n.Claims)).1 n.af=_
     rw[hlk];exact if_pos rfl
    ·have ha:look (mD n.Database (ofA (aW (cn f L)) n.af (n.Seq+1) n.Claims)).1 s=some a:=ha
     rw[hlk]at ha
     by_cases hs:s=(ofA (aW (cn f L)) n.af (n.Seq+1) n.Claims).af
     ·rw[if_pos hs]at ha
      rw[←Option.some.inj ha]
      show n.Seq+1≤B+1
      omega
     ·rw[if_neg hs]at ha
      have:=h.old n hn s a ha;omega
  have hmem:∀x∈(acW f L).aA,∃n∈f.aA,x=eG (aW f) (aW (cn f L)) n:=λx hx=>by
   obtain⟨n,hn,rfl⟩:=List.mem_map.1 hx
   exact⟨n,hn,rfl⟩
  refine⟨hcv,?_,λx hx=>?_,λx hx s a ha=>?_,λm hm s a ha=>?_⟩
  ·have:=h.n;show 1≤(f.aA.map _).length;simp;omega
  ·obtain⟨n,hn,rfl⟩:=hmem x hx
   unfold oO
   rw[hct]
   exact(node n hn).1
  ·obtain⟨n,hn,rfl⟩:=hmem x hx
   exact(node n hn).2 s a ha
  ·have:=h.mol m (List.mem_filter.1 hm).1 s a ha;omega
theorem aii(h:Hd B f)(hb:0≤B∧B≤900000):(bnd (di f) λ(tY:Int)=>bif !decide (tY=(0:Int))then some false else bnd (jy (f.aA.length:Int)) λ(qu:Int)=>bnd (lW f qu) λ(rF:aj)=>bnd (gX rF) λ(adQ:Bool)=>(bif adQ then bnd (o6) λ(abU:Bool)=>some abU else some false))=some true:=by
 have hr:=h.rdy hb
 have hn1:=h.n
 have hn2:=h.v.len
 have hd:=abu hr
 have hM:=(uG h.v).2
 have hlen:(ids (aW (fK f))).length=f.aA.length:=by
  rw[adC hr];simp[ids,aW]
 have hR:jy (f.aA.length:Int)=some ((2*f.aA.length:Nat):Int):=by
  unfold jy
  have e1:¬(f.aA.length:Int)<0:=by omega
  have e2:¬(1099511627776:Int)<(f.aA.length:Int):=by omega
  simp only[e1,e2,if_false]
  first
   |rw[cw (by omega) (by omega)];congr 1
   |(congr 1;rw[cw (by split<;>(try split)<;>omega) (by split<;>(try split)<;>omega)];split<;>(try split)<;>omega)
   |skip
 rw[lB h.v.sm,ni.2 h.v,aL]
 simp only[cond_true,decide_true,Bool.not_true,cond_false]
 rw[hR,aL,aic hr (k:=2*f.aA.length) (by omega),aL,agY (oP hd _).v.sm,settled hd hM (by omega),aL,cond_true,aqi]
 rfl
theorem yU(t:List Int):kW t=some true:=by
 refine Ok.eq ?_
 unfold kW
 refine Ok.bnd (apW t) λs hs=>Ok.bnd (ajN hs) λq hq=>?_
 refine Ok.whl (λs:Int×List aV×List aO×List aR×List Int×Int=>(0≤s.1∧s.1≤8)∧Hd (500001+s.1) (aj.mk s.2.1 s.2.2.1 s.2.2.2.1)∧cA (aU.mk s.2.2.2.2.1 s.2.2.2.2.2)) (λs=>(8-s.1).toNat) ⟨⟨by simp,by simp⟩,hq.1.1.hd hq.1.2.1,hq.2⟩ (by simp only;omega) ?_
 rintro⟨i,m1,m2,m3,m4,m5⟩ Z ⟨hi,hh,ht⟩ hZ
 simp only at hi hh ht
 refine Ok.jn (λs:Bool×List Int×Int=>(s.1=true→i<8)∧cA (aU.mk s.2.1 s.2.2)) (λs hs=>?_) λJ1 hJ1=>?_
 rotate_left
 ·refine Ok.cs (λh=>?_) λ_=>hJ1 _ ⟨by simp,ht⟩
  have h:i<8:=by simpa using h
  refine Ok.bnd (P:=λp:Bool×aU=>cA p.2) ⟨_,rfl,ht⟩ λp hp=>hJ1 _ ⟨λ_=>h,hp⟩
 obtain⟨v,m6,m7⟩:=s
 obtain⟨hv,ht⟩:=hs
 simp only at hv ht
 refine Ok.cs (λhc=>?_) λ_=>by rw[aii hh (by omega)];exact Ok.s rfl
 have hi8:=hv hc
 refine Ok.jn (λs:List Int×Int×List aV×List aO×List aR=>Hd (500001+(i+1)) (aj.mk s.2.2.1 s.2.2.2.1 s.2.2.2.2)∧cA (aU.mk s.1 s.2.1)) (λs hs=>?_) λJ2 hJ2=>?_
 ·rw[cw (by omega) (by omega)]
  exact hZ _ ⟨by simp only;omega,hs.1,hs.2⟩ (by simp only;omega)
 refine Ok.jn (λs:Int×List Int×Int×List aV×List aO×List aR=>(s.1=0→Hd (500001+i+1) (aj.mk s.2.2.2.1 s.2.2.2.2.1 s.2.2.2.2.2))∧cA (aU.mk s.2.1 s.2.2.1)) (λs hs=>?_) λJ3 hJ3=>?_
 ·refine Ok.cs (λh=>hJ2 _ ⟨?_,hs.2⟩) λ_=>hJ2 _ ⟨hh.mono (by omega),hs.2⟩
  exact(hs.1 (by simpa using h)).mono (by omega)
 refine Ok.bnd (fJ ht (by omega)) λp hp=>?_
 refine Ok.cs (λ_=>?_) λ_=>?_
 ·have hsm:=hh.v.sm
  rw[uD hsm,aL,aL]
  refine Ok.bnd (agM hp.2 ⟨by have:=hh.v.t.nr;omega,by have:=hh.v.t.nl;omega⟩) λu hu=>?_
  rw[afh,aL]
  have hwl:(vT (aW (aj.mk m1 m2 m3)) u.1).Links.length≤100000:=by
   have:=(acI (aW (aj.mk m1 m2 m3)) u.1).nl
   omega
  refine Ok.bnd (aih hh (by omega) hwl) λg hg=>hJ3 _ ⟨hg,hu.2⟩
 refine Ok.cs (λ_=>?_) λ_=>?_
 ·exact Ok.bnd (nI hp.2) λr hr=>Ok.bnd (ag6 hh (by omega) _) λg hg=>hJ3 _ ⟨hg,hr.2⟩
 refine Ok.cs (λ_=>?_) λ_=>?_
 ·exact Ok.bnd (nI hp.2) λr hr=>Ok.bnd (ane hh _) λg hg=>hJ3 _ ⟨hg,hr.2⟩
 refine Ok.cs (λ_=>?_) λ_=>?_
 ·exact Ok.bnd (fJ hp.2 (by omega)) λr hr=>Ok.bnd (aif hh _) λg hg=>hJ3 _ ⟨hg,hr.2⟩
 refine Ok.cs (λ_=>?_) λ_=>?_
 ·exact Ok.bnd (fJ hp.2 (by omega)) λr hr=>Ok.bnd (anf hh _) λg hg=>hJ3 _ ⟨hg,hr.2⟩
 ·exact Ok.bnd (fJ hp.2 (by omega)) λr hr=>Ok.bnd (ag7 hh (by omega) _) λg hg=>hJ3 _ ⟨hg,hr.2⟩
end Go.Proofs.YtjdopimopgpagaaGreat
