/- Plain: the law abS, from a abL in which all have said yC. No condition but bK bu stand in each. -/
import Derived.Test.YtjdopimopgpagaaGreatPN
import Derived.Test.YtjdopimopgpagaaGreatPA9
import Derived.Test.YtjdopimopgpagaaGreatDL7
namespace Go.Proofs.YtjdopimopgpagaaGreat
set_option linter.all false
open Go
theorem aeS{B:Int}{f:aA}(h:Rdy B f)(hn:1≤f.aB.length∧f.aB.length≤24):Ok (
 bnd (jd (f.aB.length:Int)) λ(aN:Int)=>bnd (lG f aN) λ(bt:aA)=>bnd (eX bt) λ(bL:aA×Int)=>jn (λ(v_1:Bool)=>bif v_1 then some false else bnd (ef bt) λ(di:az)=>bJ bt.aB 0 (λ(j1:Int) (e1:aT) (Z1:Unit→Option _) (sg:Unit)=>match sg with|()=>bnd (lM e1.Database e1.af) λ(dU:az)=>bnd (jF di e1.af) λ(bP:(List Int))=>bif !decide ((dU.aG.length:Int)=(bP.length:Int))then some false else bJ bt.aB 0 (λ(j2:Int) (e2:aT) (Z2:(List Int)→Option _) (cg:(List Int))=>jn (λ(eO:(List Int))=>Z2 eO) λJ2=>bnd (ja di e1.af e2.af) λ(dW:Bool)=>bif !dW then bnd (cV cg ([e2.af]:List Int)) λ(l_1:List Int)=>J2 l_1 else J2 cg) (λ(cg:(List Int))=>bnd (kH di (fk.mk [] cg)) λ(ck:az)=>bnd (nD dU ck) λ(gQ:Bool)=>bif !gQ then some false else Z1 ()) []) (λ(sg:Unit)=>match sg with|()=>bnd (oF) λ(jT:Bool)=>some jT) ()) λJ1=>bnd (eS bt) λ(cc:Bool)=>(bif !cc then J1 true else(bif !decide (bL.2=(0:Int))then J1 true else bnd (eS bL.1) λ(de:Bool)=>J1 (!de)))) (λb=>b=true):=by
  have hd:=abc h
  have hM:=(uo h.v).2
  have hlen:(ids (bx (eU f))).length=f.aB.length:=by
    rw[adk h];simp[ids,bx]
  have hR:jd (f.aB.length:Int)=some ((2*f.aB.length:Nat):Int):=by
    unfold jd
    have e1:¬(f.aB.length:Int)<0:=by omega
    have e2:¬(1099511627776:Int)<(f.aB.length:Int):=by omega
    simp only[e1,e2,if_false]
    first
      |rw[cr (by omega) (by omega)];congr 1
      |(congr 1;rw[cr (by split<;>(try split)<;>omega) (by split<;>(try split)<;>omega)];split<;>(try split)<;>omega)
      |skip
  rw[hR,aK,ahL h (k:=2*f.aB.length) (by omega),aK]
  generalize hk:2*f.aB.length=k
  have hk2:2*(ids (bx (eU f))).length≤k:=by omega
  generalize hg:eU f=g at hd hM hk2
  have hr:=nq hd k
  have ht:=uq hd k
  have hl:(itT k g).aB.length≤24:=hr.v.len
  rw[aeQ hd hM,aK]
  simp only[jn,abO hr.v.sm,settled hd hM hk2,abO (nq hd (k+1)).v.sm,settled hd hM (k:=k+1) (by omega),aK,decide_true,Bool.not_true,cond_false,um hr.v.sm]
  refine Ok.forM (L:=(itT k g).aB) (λ_ (_:Unit)=>True) (λj n s Z hj hm _ hZ=>?_) () trivial λs _=>by rw[apR];exact⟨true,rfl,rfl⟩
  have hid:n.af∈ids (bx (itT k g)):=nN hm
  have ajq:ids (bx (itT k g))=(itT k g).aB.map (·.af):=by simp[ids,bx]
  have hout:∀y,y∈ids (bx g)→(y∉((itT k g).aB.filter λm=>!pS (bx (itT k g)) n.af m.af).map (·.af)↔Cn (bx g) [] n.af y):=λy hy=>by
    have hcb:∀m,pS (bx (itT k g)) n.af m=true↔Cn (bx g) [] n.af m:=λm=>by
      unfold pS
      simp only[Bool.and_eq_true,decide_eq_true_eq]
      rw[ht]at hid ⊢
      exact⟨λq=>q.2,λq=>⟨⟨⟨jx.2 hd.v.t,nM.1 hid⟩,nM.1 (q.ids hd.v.t hid)⟩,q⟩⟩
    rw[←hcb]
    constructor
    · intro hno
      cases hq:pS (bx (itT k g)) n.af y
      · exfalso
        rw[←ht,ajq]at hy
        obtain⟨m,hm1,hm2⟩:=List.mem_map.1 hy
        exact hno (List.mem_map.2 ⟨m,List.mem_filter.2 ⟨hm1,by rw[hm2,hq];rfl⟩,hm2⟩)
      · rfl
    · intro hq hin
      obtain⟨m,hm1,hm2⟩:=List.mem_map.1 hin
      have:=(List.mem_filter.1 hm1).2
      rw[hm2,hq]at this;cases this
  have ath:=ahN hd hM hk2 hm hout
  rw[ath,aK,abE hr.v.t hid,aK]
  have agy:(((woT (bx g) (fk.mk [] (((itT k g).aB.filter λm=>!pS (bx (itT k g)) n.af m.af).map (·.af)))).aG.length:Nat):Int)=((wA (bx (itT k g)) [] n.af).length:Int):=by
    classical
    congr 1
    unfold wA woT
    rw[ht]
    dsimp only
    unfold ids
    rw[List.filter_map,List.length_map]
    congr 1
    refine List.filter_congr λr hrr=>?_
    have:=hout r.ID (List.mem_map.2 ⟨r,hrr,rfl⟩)
    rw[ht]at this
    rw[Bool.eq_iff_iff]
    simp only[Bool.not_eq_true',decide_eq_false_iff_not,Function.comp_apply,decide_eq_true_eq]
    exact this
  rw[agy,decide_eq_true rfl,Bool.not_true,cond_false]
  refine Eq.subst (motive:=λz=>Ok z _) (rU (λm:aT=>!pS (bx (itT k g)) n.af m.af) (λm:aT=>m.af) (itT k g).aB 0 [] (λj m Z s hm hs=>?_) (by simp;omega)).symm ?_
  · rw[adp,aK,aeg hs,aK]
  · rw[List.nil_append,ae0,aK]
    have hwt:xX (bx (itT k g)) (fk.mk [] (((itT k g).aB.filter λm=>!pS (bx (itT k g)) n.af m.af).map (·.af)))=woT (bx g) (fk.mk [] (((itT k g).aB.filter λm=>!pS (bx (itT k g)) n.af m.af).map (·.af))):=by
      unfold xX
      rw[if_pos (jx.2 hr.v.t),ht]
    rw[hwt,ahk,aK,Bool.not_true,cond_false]
    exact hZ () trivial
theorem ajr{d:aH}(hd:Vd d)(a:ai):lQ d a=some (ot d a):=x9 hd.asc (by have:=hd.n;omega) a
theorem ahO{d:aH}(h:Vd d){a:ai}(ha:bZ a=true)(r:Int):look (ot d a) r=if r=a.af then some a else look d r:=by
 by_cases hr:r=a.af
 ·rw[if_pos hr]
  exact(fE (h.with ha)).2 ⟨pT.2 (.inl rfl),hr.symm⟩
 ·rw[if_neg hr]
  cases hl:look d r with
  |none=>
   rw[zg]at hl ⊢
   intro x hx
   rcases pT.1 hx with rfl|⟨h1,_⟩
   ·exact λe=>hr e.symm
   ·exact hl x h1
  |some x=>
   obtain⟨h1,h2⟩:=(fE h).1 hl
   exact(fE (h.with ha)).2 ⟨pT.2 (.inr ⟨h1,by omega⟩),h2⟩
structure Rp(f:aA)(i:Nat):Prop where
 v:Vf f
 s:∀n∈f.aB,n.Seq≤500000∧Sm 500000 n.Database
 m:∀m∈f.aF,Sm 500000 m.Database
 r:∀(k:Nat) (n:aT),k<i→f.aB[k]?=some n→1≤n.Seq∧look n.Database n.af=some (rM f n)
theorem ajs{t:aX}(h:cR t):Ok (oG t 4) (λq=>(Rdy 500000 q.1∧1≤q.1.aB.length∧q.1.aB.length≤24)∧cR q.2):=by
 unfold oG
 refine Ok.bnd (afd (ga:=4) (most:=500000) h (by omega) (by omega)) λq hq=>?_
 obtain⟨f0,t1⟩:=q
 obtain⟨hf,ht⟩:=hq
 have hf:Fd 500000 f0:=hf
 have hn1:=hf.n.1
 have hn2:=hf.n.2
 refine Ok.whl (λs:Int×List aT=>(0≤s.1∧s.1≤s.2.length)∧s.2.length=f0.aB.length∧Rp (aA.mk f0.Links s.2 f0.aF) s.1.toNat) (λs=>((s.2.length:Int)-s.1).toNat) ⟨⟨by simp,by simp⟩,rfl,⟨hf.v,hf.s,hf.m,λk n hk=>by simp at hk⟩⟩ (by simp only;omega) ?_
 rintro⟨i,m⟩ Z ⟨⟨h0,h1⟩,h2,h3⟩ hZ
 simp only at h0 h1 h2 h3
 refine Ok.cs (λhc=>?_) λhc=>?_
 rotate_left
 ·have hc:¬i<m.length:=by simpa using hc
  refine Ok.s ⟨⟨⟨by omega,h3.v,λn hn=>?_,λn hn s a ha=>?_,λx hx s a ha=>?_⟩,by show 1≤m.length;omega,by show m.length≤24;omega⟩,ht⟩
  ·obtain⟨k,hk⟩:=List.getElem?_of_mem hn
   have hlt:k<m.length:=(List.getElem?_eq_some_iff.1 hk).1
   obtain⟨r1,r2⟩:=h3.r k n (by omega) hk
   exact⟨r1,by have:=(h3.s n hn).1;omega,r2⟩
  ·have hs:=(h3.s n hn).2
   exact .inl (hs.2 a ((fE hs.1).1 ha).1)
  ·have hs:=h3.m x hx
   exact .inl (hs.2 a ((fE hs.1).1 ha).1)
 have hc:i<m.length:=by simpa using hc
 obtain⟨j,rfl⟩:∃j:Nat,i=(j:Int):=⟨i.toNat,by omega⟩
 obtain⟨a,e,b,hm,hj⟩:∃a e b,m=a++e::b∧j=a.length:=by
  obtain⟨p,x,q,hp,hq⟩:=aji (l:=m) (k:=(j:Int)) ⟨h0,hc⟩
  exact⟨p,x,q,hp,by omega⟩
 subst hj
 have hN:(aA.mk f0.Links m f0.aF).aB=a++e::b:=hm
 have he:e∈(aA.mk f0.Links m f0.aF).aB:=by rw[hN];simp
 obtain⟨s1,s2⟩:=h3.s e he
 have hen:=h3.v.n e he
 have eset:(if e.Seq>(1:Int)then e.Seq else(1:Int))=max 1 e.Seq:=by split<;>omega
 rw[hm,kr,aK,uW,aK,kr,aK,eset]
 have hV1:Vf (fN (aA.mk f0.Links m f0.aF) a (aT.mk e.af (max 1 e.Seq) e.aW e.Claims e.Database) b):=h3.v.fN hN rfl rfl ⟨⟨by show 0≤max 1 e.Seq;omega,by show max 1 e.Seq≤1000000;omega⟩,hen.2.1,hen.2.2⟩
 have ht1:bx (fN (aA.mk f0.Links m f0.aF) a (aT.mk e.af (max 1 e.Seq) e.aW e.Claims e.Database) b)=bx (aA.mk f0.Links m f0.aF):=pV hN rfl rfl
 have hown:=(ajg hV1.sm e.af).2
 have hat:=amJ hV1 (a:=a) (b:=b) (n:=aT.mk e.af (max 1 e.Seq) e.aW e.Claims e.Database) rfl
 have hs0:decide (max 1 e.Seq=0)=false:=by simp;omega
 have hin:inB (max 1 e.Seq) 1 1000000=true:=by simp[inB];omega
 have hor:abb (fN (aA.mk f0.Links m f0.aF) a (aT.mk e.af (max 1 e.Seq) e.aW e.Claims e.Database) b) e.af=(ofA (bx (aA.mk f0.Links m f0.aF)) e.af (max 1 e.Seq) e.Claims,true):=by
  have hat:abb (fN (aA.mk f0.Links m f0.aF) a (aT.mk e.af (max 1 e.Seq) e.aW e.Claims e.Database) b) e.af=_:=hat
  rw[hat]
  dsimp only
  rw[hs0,cond_false]
  unfold pU
  dsimp only
  rw[hin,cond_true,ht1]
 have hval:bZ (ofA (bx (aA.mk f0.Links m f0.aF)) e.af (max 1 e.Seq) e.Claims)=true:=abP h3.v he (by omega)
 show Ok (bnd (oK (fN (aA.mk f0.Links m f0.aF) a (aT.mk e.af (max 1 e.Seq) e.aW e.Claims e.Database) b) e.af) _) _
 rw[hown,hor,aK]
 dsimp only
 rw[ajr hen.2.2,aK,uW,aK,cr (by omega) (by have:=h3.v.len;have:m.length≤24:=this;omega)]
 have hwv:Vd (ot e.Database (ofA (bx (aA.mk f0.Links m f0.aF)) e.af (max 1 e.Seq) e.Claims)):=hen.2.2.with hval
 have hml:m.length=(a++e::b).length:=by rw[hm]
 generalize hnew:aT.mk e.af (max 1 e.Seq) e.aW e.Claims (ot e.Database (ofA (bx (aA.mk f0.Links m f0.aF)) e.af (max 1 e.Seq) e.Claims))=n'
 have hV2:Vf (fN (aA.mk f0.Links m f0.aF) a n' b):=h3.v.fN hN (by rw[←hnew]) (by rw[←hnew]) (by rw[←hnew];exact⟨⟨by show 0≤max 1 e.Seq;omega,by show max 1 e.Seq≤1000000;omega⟩,hen.2.1,hwv⟩)
 have ht2:bx (fN (aA.mk f0.Links m f0.aF) a n' b)=bx (aA.mk f0.Links m f0.aF):=pV hN (by rw[←hnew]) (by rw[←hnew])
 have hlen:(a++n'::b).length=m.length:=by rw[hml];simp
 refine hZ _ ⟨⟨by simp only;omega,by simp only;rw[hlen];omega⟩,by simp only;rw[hlen];exact h2,?_⟩ (by simp only;rw[hlen];simp;omega)
 show Rp (fN (aA.mk f0.Links m f0.aF) a n' b) ((a.length:Int)+1).toNat
 refine⟨hV2,λn hn=>?_,h3.m,λk n hk hkn=>?_⟩
 ·have hn:n∈a++n'::b:=hn
  rcases List.mem_append.1 hn with hn|hn
  ·exact h3.s n (by rw[hN];simp[hn])
  ·rcases List.mem_cons.1 hn with rfl|hn
   ·rw[←hnew]
    refine⟨by show max 1 e.Seq≤500000;omega,hwv,λx hx=>?_⟩
    rcases pT.1 hx with rfl|⟨hx,_⟩
    ·show max 1 e.Seq≤500000;omega
    ·exact s2.2 x hx
   ·exact h3.s n (by rw[hN];simp[hn])
 ·have hkn:(a++n'::b)[k]?=some n:=hkn
  unfold rM
  rw[ht2]
  by_cases hka:k<a.length
  ·rw[List.getElem?_append_left hka]at hkn
   obtain⟨r1,r2⟩:=h3.r k n (by omega) (by rw[hN,List.getElem?_append_left hka];exact hkn)
   exact⟨r1,r2⟩
  ·have hke:k=a.length:=by omega
   rw[hke,List.getElem?_append_right (Nat.le_refl _)]at hkn
   simp only[Nat.sub_self,List.getElem?_cons_zero]at hkn
   have:=Option.some.inj hkn
   rw[←this,←hnew]
   refine⟨by show 1≤max 1 e.Seq;omega,?_⟩
   show look (ot e.Database _) e.af=_
   rw[ahO hen.2.2 hval];exact if_pos rfl
theorem xw(t:List Int):jo t=some true:=by
 unfold jo
 refine Ok.eq (Ok.bnd (apu t) λs hs=>Ok.bnd (ajs hs) λq hq=>?_)
 obtain⟨f,t1⟩:=q
 exact aeS hq.1.1 hq.1.2
end Go.Proofs.YtjdopimopgpagaaGreat
