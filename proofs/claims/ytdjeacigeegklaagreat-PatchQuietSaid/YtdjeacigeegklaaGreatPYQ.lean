/- Plain: zj: what takes the place of a copy to a neighbour bn is down. No condition but bK bn stand in each. -/
import Derived.Test.YtdjeacigeegklaaGreatPYP
namespace Go.Proofs.YtdjeacigeegklaaGreat
set_option linter.all false
open Go
variable {b:Int}{t:aa}
theorem ajS{a:Int}(hv:Vt t)(hne:a≠b):aay t a b=!decide (ga t a b=[]):=by
 have key:aay t a b=(dT t a b).isSome:=by
  by_cases ha:a∈ids t
  ·by_cases hb:b∈ids t
   ·exact aqI hv ha hb
   ·rw[yp (λh=>hb h.2.2)]
    unfold aay
    rw[abb (r:=b),decide_eq_false hb];simp
  ·rw[yp (λh=>ha h.2.1)]
   unfold aay
   rw[abb (r:=a),decide_eq_false ha];simp
 rw[key]
 cases hd:dT t a b with
 |none=>
  have:ga t a b=[]:=yq b (tC hd) hne []
  rw[this];rfl
 |some k=>
  obtain⟨y,r,_,h⟩:=adf hd hne
  rw[h];rfl
theorem adr(t:aa)(a b:Int):(ga t a b).length≤30:=by
 have:=aed (fZ t b) b 30 a []
 simpa [ga]using this
theorem cfA(l:List ay)(f:ay→Option Bool)(p:ay→Bool)(hf:∀x,f x=some (p x)):dM l f=some (l.any p):=by
 unfold dM eM
 obtain⟨r,h1,h2⟩:=ud (B:=λ(j1:Int) (e1:ay) (Z1:Unit→Option Int) (sg:Unit)=>match sg with|()=>bnd (f e1) λ(ai:Bool)=>bif ai then some (j1:Int)else Z1 ()) (K:=λ(sg:Unit)=>match sg with|()=>some (-1:Int)) p (λj x Z s=>by simp only[hf,aM]) (λ_=>rfl) l 0 ()
 simp only[h1,aM,h2]
def plB(e:aC):Bool:=decide (l8 e=0)&&!e.List.any λa=>decide (a.Kind=2)
theorem pI(e:aC)(hl:e.List.length≤1000):nh e=some (plB e):=by
 unfold nh plB
 rw[wE e (by omega),aM,cfA e.List pS (λa=>decide (a.Kind=2)) (λ_=>rfl)]
 cases decide (l8 e=0)<;>rfl
theorem agU(e:aC)(hl:e.List.length≤1000):uK e=some (plB e):=by
 unfold uK plB
 refine(gO (λa:ay=>decide (a.Kind=2)) (some false) (λ_ _ _ _=>rfl) _ _ _).trans ?_
 rw[iy e (by omega),aM]
 cases e.List.any λa:ay=>decide (a.Kind=2)<;>simp
theorem yu{e:aC}:plB e=true↔Ve e∧∀a∈e.List,a.Kind≠2:=by
 unfold plB
 rw[Bool.and_eq_true,decide_eq_true_eq,iX,Bool.not_eq_true',any_false]
 simp
def uD(p:aH)(b:Int):List Int→bg
 |[]=>bg.mk 0 (eP.mk [] p)
 |x::l=>bg.mk x (eP.mk l (aH.mk p.Mode p.bU p.Set p.Length p.TTL p.cR p.cS p.dV b p.cu))
variable {α:Type}
theorem zk(x:α)(l:List α):nO (x::l) (1:Int) (((x::l).length:Nat):Int)=some l:=by
 unfold nO
 rw[if_pos ⟨by omega,by simp only[List.length_cons];omega,by omega⟩]
 simp
variable {c:bg}{iZ:List Int}
theorem abG(h:iZ≠[])(hl:iZ.length≤1000):jZ c iZ b=some (uD c.Frame.aq b iZ):=by
 cases iZ with
 |nil=>exact absurd rfl h
 |cons x l=>
  unfold jZ
  have e0:elO (x::l) (0:Int)=some x:=rfl
  simp only[List.length_cons]at hl
  rw[e0,aM,zk,aM]
  unfold kG gT
  rw[ni (by simp;omega)]
  rfl
variable {p:aH}
theorem aaI(h:iZ≠[]):mH p b iZ=some (uD p b iZ):=by
 cases iZ with
 |nil=>exact absurd rfl h
 |cons x l=>
  unfold mH
  have e0:elO (x::l) (0:Int)=some x:=rfl
  rw[e0,aM,zk,aM]
  rfl
noncomputable def rS(t:aa)(n r q:Int):List Int:=ga (ig t (bF.mk [] [n])) r q
noncomputable def pU(t:aa)(n r:Int):List Int:=ga (ig t (bF.mk [aV.mk r n] [])) r n
noncomputable def tE(t:aa)(n r:Int)(p:aH)(a:ay):Bool:=kj n p a&&!decide (a.Kind=3)&&!decide (a.To=r)&&decide (rS t n r a.To=[])
noncomputable def aaJ(t:aa)(n r:Int)(p:aH)(a:ay):Bool:=(kj n p a&&decide (a.Kind=3))||tE t n r p a
noncomputable def acy(e:aC)(t:aa)(n r:Int)(p:aH)(a:ay):Bool:=kj n p a&&!decide (a.Kind=3)&&!decide (a.To=r)&&!decide (rS t n r a.To=[])&&!decide (ep e n p=0)
noncomputable def trA(e:aC)(t:aa)(n r:Int)(p:aH)(q:List ay):List bg×Int×Int:=
 ((q.filter (acy e t n r p)).map λa=>uD p (ep e n p) (rS t n r a.To),(q.filter (aaJ t n r p)).foldl orA 0,(q.filter (tE t n r p)).foldl orA 0)
noncomputable def uQ(e:aC)(t:aa)(r n:Int)(p:aH):List bg×Int:=
 if(trA e t n r p e.List).2.1=0 then((trA e t n r p e.List).1,0)else if pU t n r=[]then((trA e t n r p e.List).1,(trA e t n r p e.List).2.1)
 else((trA e t n r p e.List).1++[uD p (if(trA e t n r p e.List).2.2=0 then(trA e t n r p e.List).2.1 else aS .or .u64 (trA e t n r p e.List).2.1 (ep e n p)) (pU t n r)],0)
theorem agy(e:aC)(t:aa)(n r:Int)(p:aH)(q:List ay)(x:ay):trA e t n r p (q++[x]) =
  if kj n p x=true then(if x.Kind=3 then((trA e t n r p q).1,orA (trA e t n r p q).2.1 x,(trA e t n r p q).2.2)else if x.To=r then trA e t n r p q else if rS t n r x.To=[]then((trA e t n r p q).1,orA (trA e t n r p q).2.1 x,orA (trA e t n r p q).2.2 x)
   else if ep e n p=0 then trA e t n r p q else((trA e t n r p q).1++[uD p (ep e n p) (rS t n r x.To)],(trA e t n r p q).2))else trA e t n r p q:=by
 unfold trA
 by_cases h1:kj n p x=true
 ·by_cases h3:x.Kind=3
  ·simp[List.filter_append,List.filter_cons,acy,aaJ,tE,h1,h3]
  ·by_cases h4:x.To=r
   ·simp[List.filter_append,List.filter_cons,acy,aaJ,tE,h1,h3,h4]
   ·by_cases h5:rS t n r x.To=[]
    ·simp[List.filter_append,List.filter_cons,acy,aaJ,tE,h1,h3,h4,h5]
    ·by_cases h6:ep e n p=0
     ·simp[List.filter_append,List.filter_cons,acy,aaJ,tE,h1,h3,h4,h5,h6]
     ·simp[List.filter_append,List.filter_cons,acy,aaJ,tE,h1,h3,h4,h5,h6]
 ·simp[List.filter_append,List.filter_cons,acy,aaJ,tE,h1]
theorem yw(e:aC)(t:aa)(n r:Int)(p:aH)(q:List ay):(trA e t n r p q).1.length≤q.length:=by
 unfold trA
 rw[List.length_map]
 exact List.length_filter_le _ _
variable {r:Int}
theorem agz{e:aC}(hE:Ve e)(hne:r≠c.To):oC e t r c=some (uQ e t r c.To c.Frame.aq):=by
 have hl:=hE.small
 have hw:=yj t (bF.mk [] [c.To])
 have hnr:=hw.nr
 unfold oC
 rw[aho e c.To (by omega),aM,xH,aM]
 refine jQ (L:=e.List) (λq sg=>sg=trA e t c.To r c.Frame.aq q) (λ_ _=>some (uQ e t r c.To c.Frame.aq)) (λs hs=>?_) (λq x rest s Z h hi hZ=>?_) e.List [] _ rfl rfl
 ·subst hs
  unfold uQ
  have hlen:=yw e t c.To r c.Frame.aq e.List
  generalize trA e t c.To r c.Frame.aq e.List=T at hlen ⊢
  obtain⟨o,u,b0⟩:=T
  dsimp only at hlen ⊢
  by_cases h0:u=0
  ·rw[if_pos h0,decide_eq_true h0];rfl
  rw[if_neg h0,decide_eq_false h0,cond_false,xH,aM,ade,aM]
  show(bif decide (((pU t c.To r).length:Int)=0)then _ else _)=_
  by_cases hb:pU t c.To r=[]
  ·rw[if_pos hb,hb];rfl
  have hbl:((pU t c.To r).length:Int)≠0:=by
   have:=List.length_pos_iff.2 hb;omega
  rw[if_neg hb,decide_eq_false hbl,cond_false]
  have hlb:(pU t c.To r).length≤1000:=by have:=adr (ig t (bF.mk [aV.mk r c.To] [])) r c.To;unfold pU;omega
  have fin:∀b:Int,(bnd (jZ c (pU t c.To r) b) λ(fq:bg)=>bnd (dB o ([fq]:List bg)) λ(l_2:List bg)=>some (l_2,(0:Int)))=some (o++[uD c.Frame.aq b (pU t c.To r)],(0:Int)):=λb=>by
   rw[abG hb hlb,aM,ki (by omega),aM]
  simp only[jn]
  by_cases h2:b0=0
  ·rw[decide_eq_true h2,if_pos h2];exact fin _
  ·rw[decide_eq_false h2,if_neg h2];exact fin _
 subst hi
 have hx:x∈e.List:=by rw[←h];simp
 obtain⟨b0,b1⟩:=hE.bit hx
 have hlen:=yw e t c.To r c.Frame.aq q
 have hql:q.length≤64:=by
  have:e.List.length=q.length+(rest.length+1):=by rw[←h];simp
  omega
 rw[agy]at hZ
 unfold jn
 dsimp only
 rw[decide_eq_true b0,wD b0 b1,abh b0 b1]
 simp only[chk,cond_true]
 have eh:(!decide (x.aK=c.To)||!tbi c.Frame.aq.Bits x.Bit.toNat)=!kj c.To c.Frame.aq x:=by unfold kj;cases decide (x.aK=c.To)<;>rfl
 rw[eh]
 by_cases hh:kj c.To c.Frame.aq x=true
 rotate_left
 ·rw[if_neg hh]at hZ
  rw[Bool.not_eq_true]at hh
  rw[hh];exact hZ _ rfl
 rw[if_pos hh]at hZ
 rw[hh,Bool.not_true,cond_false]
 by_cases h3:x.Kind=3
 ·rw[if_pos h3]at hZ
  rw[decide_eq_true h3];exact hZ _ rfl
 rw[if_neg h3]at hZ
 rw[decide_eq_false h3,cond_false]
 by_cases h4:x.To=r
 ·rw[if_pos h4]at hZ
  rw[decide_eq_true h4];exact hZ _ rfl
 rw[if_neg h4]at hZ
 rw[decide_eq_false h4,cond_false,ae6 _ _ _ (by omega),aM,ajS hw (λh=>h4 h.symm)]
 show(bif !!decide (rS t c.To r x.To=[])then _ else _)=_
 rw[Bool.not_not]
 by_cases h5:rS t c.To r x.To=[]
 ·rw[if_pos h5]at hZ
  rw[decide_eq_true h5];exact hZ _ rfl
 rw[if_neg h5]at hZ
 rw[decide_eq_false h5,cond_false]
 show(bif !decide (ep e c.To c.Frame.aq=0)then _ else _)=_
 by_cases h6:ep e c.To c.Frame.aq=0
 ·rw[if_pos h6]at hZ
  rw[decide_eq_true h6];exact hZ _ rfl
 rw[if_neg h6]at hZ
 rw[decide_eq_false h6,Bool.not_false,cond_true,ade,aM]
 have hlv:(rS t c.To r x.To).length≤1000:=by have:=adr (ig t (bF.mk [] [c.To])) r x.To;unfold rS;omega
 show bnd (jZ c (rS t c.To r x.To) (ep e c.To c.Frame.aq)) _=_
 rw[abG h5 hlv,aM,ki (by omega),aM]
 exact hZ _ rfl
theorem aee{e:aC}(hE:Ve e)(hne:r≠c.To):rM e t r c=some (uQ e t r c.To c.Frame.aq):=by
 have hl:=hE.small
 unfold rM
 rw[aeT e c.To (by omega),aM,abB,aM]
 refine jQ (L:=e.List) (λq sg=>sg=trA e t c.To r c.Frame.aq q) (λ_ _=>some (uQ e t r c.To c.Frame.aq)) (λs hs=>?_) (λq x rest s Z h hi hZ=>?_) e.List [] _ rfl rfl
 ·subst hs
  unfold uQ
  have hlen:=yw e t c.To r c.Frame.aq e.List
  generalize trA e t c.To r c.Frame.aq e.List=T at hlen ⊢
  obtain⟨o,u,b0⟩:=T
  dsimp only at hlen ⊢
  by_cases h0:u=0
  ·rw[if_pos h0,decide_eq_true h0];rfl
  rw[if_neg h0,decide_eq_false h0,cond_false,abB,aM,y9,aM]
  show(bif decide (((pU t c.To r).length:Int)=0)then _ else _)=_
  by_cases hb:pU t c.To r=[]
  ·rw[if_pos hb,hb];rfl
  have hbl:((pU t c.To r).length:Int)≠0:=by
   have:=List.length_pos_iff.2 hb;omega
  rw[if_neg hb,decide_eq_false hbl,cond_false]
  have fin:∀b:Int,(bnd (mH c.Frame.aq b (pU t c.To r)) λ(fq:bg)=>bnd (dB o ([fq]:List bg)) λ(l_2:List bg)=>some (l_2,(0:Int)))=some (o++[uD c.Frame.aq b (pU t c.To r)],(0:Int)):=λb=>by
   rw[aaI hb,aM,ki (by omega),aM]
  simp only[jn]
  by_cases h2:b0=0
  ·rw[decide_eq_true h2,if_pos h2];exact fin _
  ·rw[decide_eq_false h2,if_neg h2];exact fin _
 subst hi
 have hx:x∈e.List:=by rw[←h];simp
 obtain⟨b0,b1⟩:=hE.bit hx
 have hlen:=yw e t c.To r c.Frame.aq q
 have hql:q.length≤64:=by
  have:e.List.length=q.length+(rest.length+1):=by rw[←h];simp
  omega
 have ew:IntKind.wrap .u64 x.Bit=x.Bit:=wrap_u64 b0 (by omega)
 rw[agy]at hZ
 unfold jn
 dsimp only
 rw[ew,decide_eq_true b0,wD b0 b1,abh b0 b1]
 simp only[chk,cond_true]
 have eh:(!decide (x.aK=c.To)||(!tbi c.Frame.aq.Bits x.Bit.toNat||decide (x.To=r)))=(!kj c.To c.Frame.aq x||decide (x.To=r)):=by unfold kj;cases decide (x.aK=c.To)<;>rfl
 rw[eh]
 by_cases hh:kj c.To c.Frame.aq x=true
 rotate_left
 ·rw[if_neg hh]at hZ
  rw[Bool.not_eq_true]at hh
  rw[hh];exact hZ _ rfl
 rw[if_pos hh]at hZ
 rw[hh,Bool.not_true,Bool.false_or]
 have hxr:x.aK=c.To:=by
  unfold kj at hh
  simp only[Bool.and_eq_true,decide_eq_true_eq]at hh
  exact hh.1
 by_cases h3:x.Kind=3
 ·rw[if_pos h3]at hZ
  have h4:x.To≠r:=by
   have:=(hE.acq x hx).2 h3
   rw[this,hxr];exact λh=>hne h.symm
  rw[decide_eq_true h3,decide_eq_false h4];exact hZ _ rfl
 rw[if_neg h3]at hZ
 by_cases h4:x.To=r
 ·rw[if_pos h4]at hZ
  rw[decide_eq_true h4];exact hZ _ rfl
 rw[if_neg h4]at hZ
 rw[decide_eq_false h3,decide_eq_false h4,cond_false,cond_false,y9,aM]
 show(bif decide (((rS t c.To r x.To).length:Int)=0)then _ else _)=_
 by_cases h5:rS t c.To r x.To=[]
 ·rw[if_pos h5]at hZ
  rw[h5];exact hZ _ rfl
 rw[if_neg h5]at hZ
 have hbl:((rS t c.To r x.To).length:Int)≠0:=by
  have:=List.length_pos_iff.2 h5;omega
 rw[decide_eq_false hbl,cond_false]
 show(bif !decide (ep e c.To c.Frame.aq=0)then _ else _)=_
 by_cases h6:ep e c.To c.Frame.aq=0
 ·rw[if_pos h6]at hZ
  rw[decide_eq_true h6];exact hZ _ rfl
 rw[if_neg h6]at hZ
 rw[decide_eq_false h6,Bool.not_false,cond_true]
 show bnd (mH c.Frame.aq (ep e c.To c.Frame.aq) (rS t c.To r x.To)) _=_
 rw[aaI h5,aM,ki (by omega),aM]
 exact hZ _ rfl
noncomputable def uj(e:aC)(t:aa)(r:Int)(d:List Int)(c:bg):List bg:=if c.To∈d then(uQ e t r c.To c.Frame.aq).1 else[c]
noncomputable def xS(e:aC)(t:aa)(r:Int)(d:List Int)(s:Int)(c:bg):Int:=if c.To∈d then aS .or .u64 s (uQ e t r c.To c.Frame.aq).2 else s
noncomputable def nI(e:aC)(t:aa)(r:Int)(p:aH)(d:List Int):cG:=
 cG.mk (gf e r p).Local ((gf e r p).bY.foldl (xS e t r d) (gf e r p).jF) ((gf e r p).bY.flatMap (uj e t r d))
noncomputable def pfT(e:aC)(t:aa)(r:Int)(p:aH)(d:List Int):cG×Int:=
 if(rR e r p).2=0 then(if plB e=true∧eU t=0 then(nI e t r p d,0)else(cG.mk 0 0 [],1))else(cG.mk 0 0 [],(rR e r p).2)
theorem aef(e:aC)(t:aa)(r n:Int)(p:aH):(uQ e t r n p).1.length≤e.List.length+1:=by
 have:=yw e t n r p e.List
 unfold uQ
 split
 ·simp only;omega
 ·split
  ·simp only;omega
  ·simp only[List.length_append,List.length_cons,List.length_nil];omega
theorem ahv(e:aC)(t:aa)(r:Int)(d:List Int)(l:List bg):(l.flatMap (uj e t r d)).length≤(e.List.length+1)*l.length:=by
 induction l with
 |nil=>simp
 |cons c l ih=>
  rw[List.flatMap_cons,List.length_append,List.length_cons]
  have:(uj e t r d c).length≤e.List.length+1:=by
   unfold uj
   split
   ·exact aef _ _ _ _ _
   ·simp
  rw[Nat.mul_succ];omega
variable {β:Type}
theorem ahw{e:aC}{d:List Int}(hl:e.List.length≤64){L:List bg}(hL:L.length≤64){B:Int→bg→(Int×List bg→Option β)→Int×List bg→Option β}{K:Int×List bg→Option β}
  (hB:∀j x Z s m,x∈L→m.length≤100000→B j x Z (s,m)=Z (xS e t r d s x,m++uj e t r d x)) (s:Int):bD L 0 B K (s,[])=K (L.foldl (xS e t r d) s,L.flatMap (uj e t r d)):=by
 refine jQ (L:=L) (λq sg=>sg=(q.foldl (xS e t r d) s,q.flatMap (uj e t r d))) (λ_ _=>K (L.foldl (xS e t r d) s,L.flatMap (uj e t r d))) (λs hs=>by rw[hs]) (λq x rest s Z h hi hZ=>?_) L [] _ rfl rfl
 subst hi
 have hx:x∈L:=by rw[←h];simp
 have hql:q.length≤64:=by
  have:L.length=q.length+(rest.length+1):=by rw[←h];simp
  omega
 have hm:=ahv e t r d q
 have:(e.List.length+1)*q.length≤65*64:=Nat.mul_le_mul (by omega) hql
 rw[hB _ _ _ _ _ hx (by omega)]
 exact hZ _ (by simp)
theorem ahx{e:aC}(h:(rR e r p).2=0):Ve e∧Pk e p∧rR e r p=(gf e r p,0):=by
 unfold rR at *
 by_cases h1:l8 e=0
 ·rw[if_pos h1]at *
  cases hp:l9 p
  ·rw[hp]at h;cases h
  ·rw[hp]at h
   rw[cond_true]at *
   by_cases hs:lW e p=0
   ·rw[if_pos hs];exact⟨iX.1 h1,aiB hp hs,rfl⟩
   ·rw[if_neg hs]at h;exact absurd h hs
 ·rw[if_neg h1]at h;cases h
theorem ahy{e:aC}(hE:Ve e)(hc:c∈(gf e r p).bY):r≠c.To:=by
 obtain⟨a,ha,rfl⟩:=List.mem_map.1 hc
 obtain⟨h1,h2,_,h4,_⟩:=nH ha
 intro h
 have h:r=a.To:=h
 exact h4 ((hE.acq a h1).1 (by rw[h2,←h]))
theorem zw(e:aC)(t:aa)(r:Int)(p:aH)(d:List Int)(hl:e.List.length≤1000):lU e t r p d=some (pfT e t r p d):=by
 unfold lU pfT
 rw[ado e r p hl,aM]
 by_cases h0:(rR e r p).2=0
 rotate_left
 ·rw[decide_eq_false h0,if_neg h0];rfl
 obtain⟨hE,hP,hf⟩:=ahx h0
 rw[decide_eq_true h0,if_pos h0,Bool.not_true,cond_false,hf]
 simp only[jn,pI e hl,aM]
 cases hp:plB e
 ·rw[if_neg (by simp)];rfl
 simp only[Bool.not_true,cond_false,oK,aM]
 by_cases hc:eU t=0
 rotate_left
 ·rw[if_neg (λh=>hc h.2),decide_eq_false hc];rfl
 rw[if_pos ⟨trivial,hc⟩,decide_eq_true hc,Bool.not_true,cond_false]
 have hs:=hE.small
 have hcl:(gf e r p).bY.length≤64:=by
  show((cH e r p).map _).length≤64
  rw[List.length_map];exact Nat.le_trans (List.length_filter_le _ _) hs
 refine(ahw (e:=e) (t:=t) (r:=r) (d:=d) hs hcl (λj x Z s m hx hm=>?_) _).trans rfl
 dsimp only
 rw[sA,aM]
 unfold xS uj
 by_cases hd:x.To∈d
 ·rw[decide_eq_true hd,if_pos hd,if_pos hd,Bool.not_true,cond_false,agz hE (ahy hE hx),aM]
  have:=aef e t r x.To x.Frame.aq
  rw[ni (by omega),aM]
 ·rw[decide_eq_false hd,if_neg hd,if_neg hd,Bool.not_false,cond_true,ki (by omega),aM]
theorem ae9(e:aC)(t:aa)(r:Int)(p:aH)(d:List Int)(hl:e.List.length≤1000):tu e t r p d=some (pfT e t r p d):=by
 unfold tu pfT
 rw[uV e r p hl,aM]
 by_cases h0:(rR e r p).2=0
 rotate_left
 ·rw[decide_eq_false h0,if_neg h0];rfl
 obtain⟨hE,hP,hf⟩:=ahx h0
 rw[decide_eq_true h0,if_pos h0,Bool.not_true,cond_false,hf]
 simp only[jn,agU e hl,aM]
 cases hp:plB e
 ·rw[if_neg (by simp)];rfl
 simp only[Bool.not_true,cond_false,mD,aM]
 by_cases hc:eU t=0
 rotate_left
 ·rw[if_neg (λh=>hc h.2),decide_eq_false hc];rfl
 rw[if_pos ⟨trivial,hc⟩,decide_eq_true hc,Bool.not_true,cond_false]
 have hs:=hE.small
 have hcl:(gf e r p).bY.length≤64:=by
  show((cH e r p).map _).length≤64
  rw[List.length_map];exact Nat.le_trans (List.length_filter_le _ _) hs
 refine(ahw (e:=e) (t:=t) (r:=r) (d:=d) hs hcl (λj x Z s m hx hm=>?_) _).trans rfl
 dsimp only
 rw[acm,aM]
 unfold xS uj
 by_cases hd:x.To∈d
 ·rw[decide_eq_true hd,if_pos hd,if_pos hd,Bool.not_true,cond_false,aee hE (ahy hE hx),aM]
  have:=aef e t r x.To x.Frame.aq
  rw[ni (by omega),aM]
 ·rw[decide_eq_false hd,if_neg hd,if_neg hd,Bool.not_false,cond_true,ki (by omega),aM]
def dnB(f:bF)(r n:Int):Bool:=decide (n∈f.aj)||(oD f.Links r n||oD f.Links n r)
def dnT(t:aa)(f:bF)(r:Int):List Int:=(if eU t=0 then lV t r else[]).filter (dnB f r)
theorem aiC(t:aa)(r:Int):(if eU t=0 then lV t r else[]).length≤100:=by
 split
 ·rename_i h;have:=acj (fK.1 h) r;omega
 ·simp
theorem agA(t:aa)(f:bF)(r:Int):oB t f r=some (dnT t f r):=by
 unfold oB dnT
 rw[adZ,aM]
 have:=aiC t r
 refine(mE (dnB f r) (λx:Int=>x) _ 0 [] (λj x Z s hx hs=>?_) (by simp;omega)).trans (by simp)
 unfold jn pR dnB
 dsimp only
 rw[sA,aM,adX,adX]
 unfold oD
 cases decide (x∈f.aj)<;>cases f.Links.any (kH (aV.mk r x))<;>cases f.Links.any (kH (aV.mk x r))<;>simp only[aM,cond_true,cond_false,Bool.or_true,Bool.or_false,ki hs]
theorem aeg{B:Int→α→(Bool→Option β)→Bool→Option β}{K:Bool→Option β}(p:α→Bool)(hB:∀j x Z s,B j x Z s=Z (s||p x))(l:List α)(j:Nat)(s:Bool):bD l j B K s=K (s||l.any p):=by
 induction l generalizing j s with
 |nil=>simp[bD]
 |cons x r ih=>simp only[bD,hB];rw[ih,List.any_cons,Bool.or_assoc]
end Go.Proofs.YtdjeacigeegklaaGreat
