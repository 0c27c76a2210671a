/- Plain: the law FloodingSettles, from a yE in which all have said wB. No condition but bH bq stand in each. -/
import Derived.Test.YtjdopimopgpagaaGreatPN
import Derived.Test.YtjdopimopgpagaaGreatPA9
namespace Go.Proofs.YtjdopimopgpagaaGreat
set_option linter.all false
open Go
theorem ajM{d:aF}(hd:Vd d)(a:ai):l8 d a=some (oL d a):=yB hd.asc (by have:=hd.n;omega) a
theorem aie{d:aF}(h:Vd d){a:ai}(ha:cc a=true)(r:Int):look (oL d a) r=if r=a.af then some a else look d r:=by
 by_cases hr:r=a.af
 ·rw[if_pos hr]
  exact(fC (h.with ha)).2 ⟨qk.2 (.inl rfl),hr.symm⟩
 ·rw[if_neg hr]
  cases hl:look d r with
  |none=>
   rw[zC]at hl ⊢
   intro x hx
   rcases qk.1 hx with rfl|⟨h1,_⟩
   ·exact λe=>hr e.symm
   ·exact hl x h1
  |some x=>
   obtain⟨h1,h2⟩:=(fC h).1 hl
   exact(fC (h.with ha)).2 ⟨qk.2 (.inr ⟨h1,by omega⟩),h2⟩
structure Rp(f:aj)(i:Nat):Prop where
 v:Vf f
 s:∀n∈f.aA,n.Seq≤500000∧Sm 500000 n.Database
 m:∀m∈f.aq,Sm 500000 m.Database
 r:∀(k:Nat) (n:aO),k<i→f.aA[k]?=some n→1≤n.Seq∧look n.Database n.af=some (oO f n)
theorem ajN{t:aU}(h:cA t):Ok (o7 t 4) (λq=>(Rdy 500000 q.1∧1≤q.1.aA.length∧q.1.aA.length≤24)∧cA q.2):=by
 unfold o7
 refine Ok.bnd (aft (gn:=4) (most:=500000) h (by omega) (by omega)) λq hq=>?_
 obtain⟨f0,t1⟩:=q
 obtain⟨hf,ht⟩:=hq
 have hf:Fd 500000 f0:=hf
 have hn1:=hf.n.1
 have hn2:=hf.n.2
 refine Ok.whl (λs:Int×List aO=>(0≤s.1∧s.1≤s.2.length)∧s.2.length=f0.aA.length∧Rp (aj.mk f0.Links s.2 f0.aq) s.1.toNat) (λs=>((s.2.length:Int)-s.1).toNat) ⟨⟨by simp,by simp⟩,rfl,⟨hf.v,hf.s,hf.m,λk n hk=>by simp at hk⟩⟩ (by simp only;omega) ?_
 rintro⟨i,m⟩ Z ⟨⟨h0,h1⟩,h2,h3⟩ hZ
 simp only at h0 h1 h2 h3
 refine Ok.cs (λhc=>?_) λhc=>?_
 rotate_left
 ·have hc:¬i<m.length:=by simpa using hc
  refine Ok.s ⟨⟨⟨by omega,h3.v,λn hn=>?_,λn hn s a ha=>?_,λx hx s a ha=>?_⟩,by show 1≤m.length;omega,by show m.length≤24;omega⟩,ht⟩
  ·obtain⟨k,hk⟩:=List.getElem?_of_mem hn
   have hlt:k<m.length:=(List.getElem?_eq_some_iff.1 hk).1
   obtain⟨r1,r2⟩:=h3.r k n (by omega) hk
   exact⟨r1,by have:=(h3.s n hn).1;omega,r2⟩
  ·have hs:=(h3.s n hn).2
   exact .inl (hs.2 a ((fC hs.1).1 ha).1)
  ·have hs:=h3.m x hx
   exact .inl (hs.2 a ((fC hs.1).1 ha).1)
 have hc:i<m.length:=by simpa using hc
 obtain⟨j,rfl⟩:∃j:Nat,i=(j:Int):=⟨i.toNat,by omega⟩
 obtain⟨a,e,b,hm,hj⟩:∃a e b,m=a++e::b∧j=a.length:=by
  obtain⟨p,x,q,hp,hq⟩:=yI (l:=m) (k:=(j:Int)) ⟨h0,hc⟩
  exact⟨p,x,q,hp,by omega⟩
 subst hj
 have hN:(aj.mk f0.Links m f0.aq).aA=a++e::b:=hm
 have he:e∈(aj.mk f0.Links m f0.aq).aA:=by rw[hN];simp
 obtain⟨s1,s2⟩:=h3.s e he
 have hen:=h3.v.n e he
 have eset:(if e.Seq>(1:Int)then e.Seq else(1:Int))=max 1 e.Seq:=by split<;>omega
 rw[hm,iy,aL,pH,aL,iy,aL,eset]
 have hV1:Vf (dP (aj.mk f0.Links m f0.aq) a (aO.mk e.af (max 1 e.Seq) e.aY e.Claims e.Database) b):=h3.v.dP hN rfl rfl ⟨⟨by show 0≤max 1 e.Seq;omega,by show max 1 e.Seq≤1000000;omega⟩,hen.2.1,hen.2.2⟩
 have ht1:aW (dP (aj.mk f0.Links m f0.aq) a (aO.mk e.af (max 1 e.Seq) e.aY e.Claims e.Database) b)=aW (aj.mk f0.Links m f0.aq):=kN hN rfl rfl
 have hown:=(ajB hV1.sm e.af).2
 have hat:=am7 hV1 (a:=a) (b:=b) (n:=aO.mk e.af (max 1 e.Seq) e.aY e.Claims e.Database) rfl
 have hs0:decide (max 1 e.Seq=0)=false:=by simp;omega
 have hin:inB (max 1 e.Seq) 1 1000000=true:=by simp[inB];omega
 have hor:abr (dP (aj.mk f0.Links m f0.aq) a (aO.mk e.af (max 1 e.Seq) e.aY e.Claims e.Database) b) e.af=(ofA (aW (aj.mk f0.Links m f0.aq)) e.af (max 1 e.Seq) e.Claims,true):=by
  have hat:abr (dP (aj.mk f0.Links m f0.aq) a (aO.mk e.af (max 1 e.Seq) e.aY e.Claims e.Database) b) e.af=_:=hat
  rw[hat]
  dsimp only
  rw[hs0,cond_false]
  unfold oM
  dsimp only
  rw[hin,cond_true,ht1]
 have hval:cc (ofA (aW (aj.mk f0.Links m f0.aq)) e.af (max 1 e.Seq) e.Claims)=true:=xL h3.v he (by omega)
 show Ok (bnd (pz (dP (aj.mk f0.Links m f0.aq) a (aO.mk e.af (max 1 e.Seq) e.aY e.Claims e.Database) b) e.af) _) _
 rw[hown,hor,aL]
 dsimp only
 rw[ajM hen.2.2,aL,pH,aL,cw (by omega) (by have:=h3.v.len;have:m.length≤24:=this;omega)]
 have hwv:Vd (oL e.Database (ofA (aW (aj.mk f0.Links m f0.aq)) e.af (max 1 e.Seq) e.Claims)):=hen.2.2.with hval
 have hml:m.length=(a++e::b).length:=by rw[hm]
 generalize hnew:aO.mk e.af (max 1 e.Seq) e.aY e.Claims (oL e.Database (ofA (aW (aj.mk f0.Links m f0.aq)) e.af (max 1 e.Seq) e.Claims))=n'
 have hV2:Vf (dP (aj.mk f0.Links m f0.aq) a n' b):=h3.v.dP hN (by rw[←hnew]) (by rw[←hnew]) (by rw[←hnew];exact⟨⟨by show 0≤max 1 e.Seq;omega,by show max 1 e.Seq≤1000000;omega⟩,hen.2.1,hwv⟩)
 have ht2:aW (dP (aj.mk f0.Links m f0.aq) a n' b)=aW (aj.mk f0.Links m f0.aq):=kN hN (by rw[←hnew]) (by rw[←hnew])
 have hlen:(a++n'::b).length=m.length:=by rw[hml];simp
 refine hZ _ ⟨⟨by simp only;omega,by simp only;rw[hlen];omega⟩,by simp only;rw[hlen];exact h2,?_⟩ (by simp only;rw[hlen];simp;omega)
 show Rp (dP (aj.mk f0.Links m f0.aq) a n' b) ((a.length:Int)+1).toNat
 refine⟨hV2,λn hn=>?_,h3.m,λk n hk hkn=>?_⟩
 ·have hn:n∈a++n'::b:=hn
  rcases List.mem_append.1 hn with hn|hn
  ·exact h3.s n (by rw[hN];simp[hn])
  ·rcases List.mem_cons.1 hn with rfl|hn
   ·rw[←hnew]
    refine⟨by show max 1 e.Seq≤500000;omega,hwv,λx hx=>?_⟩
    rcases qk.1 hx with rfl|⟨hx,_⟩
    ·show max 1 e.Seq≤500000;omega
    ·exact s2.2 x hx
   ·exact h3.s n (by rw[hN];simp[hn])
 ·have hkn:(a++n'::b)[k]?=some n:=hkn
  unfold oO
  rw[ht2]
  by_cases hka:k<a.length
  ·rw[List.getElem?_append_left hka]at hkn
   obtain⟨r1,r2⟩:=h3.r k n (by omega) (by rw[hN,List.getElem?_append_left hka];exact hkn)
   exact⟨r1,r2⟩
  ·have hke:k=a.length:=by omega
   rw[hke,List.getElem?_append_right (Nat.le_refl _)]at hkn
   simp only[Nat.sub_self,List.getElem?_cons_zero]at hkn
   have:=Option.some.inj hkn
   rw[←this,←hnew]
   refine⟨by show 1≤max 1 e.Seq;omega,?_⟩
   show look (oL e.Database _) e.af=_
   rw[aie hen.2.2 hval];exact if_pos rfl
end Go.Proofs.YtjdopimopgpagaaGreat
