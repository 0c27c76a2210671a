/- Plain: acU: what takes the place of a copy to a neighbour bx is down. No condition but bO bx stand in each. -/
import Derived.Test.YtdjeacigeegklaaGreatPYP
namespace Go.Proofs.YtdjeacigeegklaaGreat
set_option linter.all false
open Go
variable {b:Int}{t:aa}
theorem ai5{a:Int}(hv:Vt t)(hne:a≠b):aak t a b=!decide (l8 t a b=[]):=by
 have key:aak t a b=(dT t a b).isSome:=by
  by_cases ha:a∈ids t
  ·by_cases hb:b∈ids t
   ·exact apM hv ha hb
   ·rw[ym (λh=>hb h.2.2)]
    unfold aak
    rw[aaW (r:=b),decide_eq_false hb];simp
  ·rw[ym (λh=>ha h.2.1)]
   unfold aak
   rw[aaW (r:=a),decide_eq_false ha];simp
 rw[key]
 cases hd:dT t a b with
 |none=>
  have:l8 t a b=[]:=aaX b (vq hd) hne []
  rw[this];rfl
 |some k=>
  obtain⟨y,r,_,h⟩:=ahJ hd hne
  rw[h];rfl
theorem acV(t:aa)(a b:Int):(l8 t a b).length≤30:=by
 have:=agN (gA t b) b 30 a []
 simpa [l8]using this
theorem cfA(l:List az)(f:az→Option Bool)(p:az→Bool)(hf:∀x,f x=some (p x)):dM l f=some (l.any p):=by
 unfold dM eF
 obtain⟨r,h1,h2⟩:=tY (B:=λ(j1:Int) (e1:az) (Z1:Unit→Option Int) (sg:Unit)=>match sg with|()=>bnd (f e1) λ(ai:Bool)=>bif ai then some (j1:Int)else Z1 ()) (K:=λ(sg:Unit)=>match sg with|()=>some (-1:Int)) p (λj x Z s=>by simp only[hf,aN]) (λ_=>rfl) l 0 ()
 simp only[h1,aN,h2]
def plB(e:aF):Bool:=decide (rR e=0)&&!e.List.any λa=>decide (a.Kind=2)
theorem nX(e:aF)(hl:e.List.length≤1000):lT e=some (plB e):=by
 unfold lT plB
 rw[wO e (by omega),aN,cfA e.List pS (λa=>decide (a.Kind=2)) (λ_=>rfl)]
 cases decide (rR e=0)<;>rfl
theorem nY(e:aF)(hl:e.List.length≤1000):lU e=some (plB e):=by
 unfold lU plB
 refine(iU (λa:az=>decide (a.Kind=2)) (some false) (λ_ _ _ _=>rfl) _ _ _).trans ?_
 rw[uf e (by omega),aN]
 cases e.List.any λa:az=>decide (a.Kind=2)<;>simp
theorem vF{e:aF}:plB e=true↔Ve e∧∀a∈e.List,a.Kind≠2:=by
 unfold plB
 rw[Bool.and_eq_true,decide_eq_true_eq,tu,Bool.not_eq_true',any_false]
 simp
def uG(p:aH)(b:Int):List Int→bh
 |[]=>bh.mk 0 (dP.mk [] p)
 |x::l=>bh.mk x (dP.mk l (aH.mk p.Mode p.bQ p.Set p.Length p.TTL p.cI p.cK p.dU b p.cD))
variable {α:Type}
theorem wR(x:α)(l:List α):nP (x::l) (1:Int) (((x::l).length:Nat):Int)=some l:=by
 unfold nP
 rw[if_pos ⟨by omega,by simp only[List.length_cons];omega,by omega⟩]
 simp
variable {c:bh}{gT:List Int}
theorem abh(h:gT≠[])(hl:gT.length≤1000):jV c gT b=some (uG c.Frame.ay b gT):=by
 cases gT with
 |nil=>exact absurd rfl h
 |cons x l=>
  unfold jV
  have e0:elO (x::l) (0:Int)=some x:=rfl
  simp only[List.length_cons]at hl
  rw[e0,aN,wR,aN]
  unfold j9 gO
  rw[jS (by simp;omega)]
  rfl
variable {p:aH}
theorem aap(h:gT≠[]):jj p b gT=some (uG p b gT):=by
 cases gT with
 |nil=>exact absurd rfl h
 |cons x l=>
  unfold jj
  have e0:elO (x::l) (0:Int)=some x:=rfl
  rw[e0,aN,wR,aN]
  rfl
noncomputable def rS(t:aa)(n r q:Int):List Int:=l8 (iV t (aO.mk [] [n])) r q
noncomputable def pU(t:aa)(n r:Int):List Int:=l8 (iV t (aO.mk [bU.mk r n] [])) r n
noncomputable def tv(t:aa)(n r:Int)(p:aH)(a:az):Bool:=lZ n p a&&!decide (a.Kind=3)&&!decide (a.To=r)&&decide (rS t n r a.To=[])
noncomputable def aaq(t:aa)(n r:Int)(p:aH)(a:az):Bool:=(lZ n p a&&decide (a.Kind=3))||tv t n r p a
noncomputable def abU(e:aF)(t:aa)(n r:Int)(p:aH)(a:az):Bool:=lZ n p a&&!decide (a.Kind=3)&&!decide (a.To=r)&&!decide (rS t n r a.To=[])&&!decide (kV e n p=0)
noncomputable def trA(e:aF)(t:aa)(n r:Int)(p:aH)(q:List az):List bh×Int×Int:=
 ((q.filter (abU e t n r p)).map λa=>uG p (kV e n p) (rS t n r a.To),(q.filter (aaq t n r p)).foldl orA 0,(q.filter (tv t n r p)).foldl orA 0)
noncomputable def uS(e:aF)(t:aa)(r n:Int)(p:aH):List bh×Int:=
 if(trA e t n r p e.List).2.1=0 then((trA e t n r p e.List).1,0)else if pU t n r=[]then((trA e t n r p e.List).1,(trA e t n r p e.List).2.1)
 else((trA e t n r p e.List).1++[uG p (if(trA e t n r p e.List).2.2=0 then(trA e t n r p e.List).2.1 else aU .or .u64 (trA e t n r p e.List).2.1 (kV e n p)) (pU t n r)],0)
theorem afM(e:aF)(t:aa)(n r:Int)(p:aH)(q:List az)(x:az):trA e t n r p (q++[x]) =
  if lZ n p x=true then(if x.Kind=3 then((trA e t n r p q).1,orA (trA e t n r p q).2.1 x,(trA e t n r p q).2.2)else if x.To=r then trA e t n r p q else if rS t n r x.To=[]then((trA e t n r p q).1,orA (trA e t n r p q).2.1 x,orA (trA e t n r p q).2.2 x)
   else if kV e n p=0 then trA e t n r p q else((trA e t n r p q).1++[uG p (kV e n p) (rS t n r x.To)],(trA e t n r p q).2))else trA e t n r p q:=by
 unfold trA
 by_cases h1:lZ n p x=true
 ·by_cases h3:x.Kind=3
  ·simp[List.filter_append,List.filter_cons,abU,aaq,tv,h1,h3]
  ·by_cases h4:x.To=r
   ·simp[List.filter_append,List.filter_cons,abU,aaq,tv,h1,h3,h4]
   ·by_cases h5:rS t n r x.To=[]
    ·simp[List.filter_append,List.filter_cons,abU,aaq,tv,h1,h3,h4,h5]
    ·by_cases h6:kV e n p=0
     ·simp[List.filter_append,List.filter_cons,abU,aaq,tv,h1,h3,h4,h5,h6]
     ·simp[List.filter_append,List.filter_cons,abU,aaq,tv,h1,h3,h4,h5,h6]
 ·simp[List.filter_append,List.filter_cons,abU,aaq,tv,h1]
theorem yp(e:aF)(t:aa)(n r:Int)(p:aH)(q:List az):(trA e t n r p q).1.length≤q.length:=by
 unfold trA
 rw[List.length_map]
 exact List.length_filter_le _ _
variable {r:Int}
theorem afN{e:aF}(hE:Ve e)(hne:r≠c.To):oM e t r c=some (uS e t r c.To c.Frame.ay):=by
 have hl:=hE.small
 have hw:=tZ t (aO.mk [] [c.To])
 have hnr:=hw.nr
 unfold oM
 rw[agG e c.To (by omega),aN,xP,aN]
 refine jM (L:=e.List) (λq sg=>sg=trA e t c.To r c.Frame.ay q) (λ_ _=>some (uS e t r c.To c.Frame.ay)) (λs hs=>?_) (λq x rest s Z h hi hZ=>?_) e.List [] _ rfl rfl
 ·subst hs
  unfold uS
  have hlen:=yp e t c.To r c.Frame.ay e.List
  generalize trA e t c.To r c.Frame.ay e.List=T at hlen ⊢
  obtain⟨o,u,b0⟩:=T
  dsimp only at hlen ⊢
  by_cases h0:u=0
  ·rw[if_pos h0,decide_eq_true h0];rfl
  rw[if_neg h0,decide_eq_false h0,cond_false,xP,aN,acO,aN]
  show(bif decide (((pU t c.To r).length:Int)=0)then _ else _)=_
  by_cases hb:pU t c.To r=[]
  ·rw[if_pos hb,hb];rfl
  have hbl:((pU t c.To r).length:Int)≠0:=by
   have:=List.length_pos_iff.2 hb;omega
  rw[if_neg hb,decide_eq_false hbl,cond_false]
  have hlb:(pU t c.To r).length≤1000:=by have:=acV (iV t (aO.mk [bU.mk r c.To] [])) r c.To;unfold pU;omega
  have fin:∀b:Int,(bnd (jV c (pU t c.To r) b) λ(fE:bh)=>bnd (dx o ([fE]:List bh)) λ(l_2:List bh)=>some (l_2,(0:Int)))=some (o++[uG c.Frame.ay b (pU t c.To r)],(0:Int)):=λb=>by
   rw[abh hb hlb,aN,lW (by omega),aN]
  simp only[jn]
  by_cases h2:b0=0
  ·rw[decide_eq_true h2,if_pos h2];exact fin _
  ·rw[decide_eq_false h2,if_neg h2];exact fin _
 subst hi
 have hx:x∈e.List:=by rw[←h];simp
 obtain⟨b0,b1⟩:=hE.bit hx
 have hlen:=yp e t c.To r c.Frame.ay q
 have hql:q.length≤64:=by
  have:e.List.length=q.length+(rest.length+1):=by rw[←h];simp
  omega
 rw[afM]at hZ
 unfold jn
 dsimp only
 rw[decide_eq_true b0,za b0 b1,aaZ b0 b1]
 simp only[chk,cond_true]
 have eh:(!decide (x.br=c.To)||!tbi c.Frame.ay.Bits x.Bit.toNat)=!lZ c.To c.Frame.ay x:=by unfold lZ;cases decide (x.br=c.To)<;>rfl
 rw[eh]
 by_cases hh:lZ c.To c.Frame.ay x=true
 rotate_left
 ·rw[if_neg hh]at hZ
  rw[Bool.not_eq_true]at hh
  rw[hh];exact hZ _ rfl
 rw[if_pos hh]at hZ
 rw[hh,Bool.not_true,cond_false]
 by_cases h3:x.Kind=3
 ·rw[if_pos h3]at hZ
  rw[decide_eq_true h3];exact hZ _ rfl
 rw[if_neg h3]at hZ
 rw[decide_eq_false h3,cond_false]
 by_cases h4:x.To=r
 ·rw[if_pos h4]at hZ
  rw[decide_eq_true h4];exact hZ _ rfl
 rw[if_neg h4]at hZ
 rw[decide_eq_false h4,cond_false,aeo _ _ _ (by omega),aN,ai5 hw (λh=>h4 h.symm)]
 show(bif !!decide (rS t c.To r x.To=[])then _ else _)=_
 rw[Bool.not_not]
 by_cases h5:rS t c.To r x.To=[]
 ·rw[if_pos h5]at hZ
  rw[decide_eq_true h5];exact hZ _ rfl
 rw[if_neg h5]at hZ
 rw[decide_eq_false h5,cond_false]
 show(bif !decide (kV e c.To c.Frame.ay=0)then _ else _)=_
 by_cases h6:kV e c.To c.Frame.ay=0
 ·rw[if_pos h6]at hZ
  rw[decide_eq_true h6];exact hZ _ rfl
 rw[if_neg h6]at hZ
 rw[decide_eq_false h6,Bool.not_false,cond_true,acO,aN]
 have hlv:(rS t c.To r x.To).length≤1000:=by have:=acV (iV t (aO.mk [] [c.To])) r x.To;unfold rS;omega
 show bnd (jV c (rS t c.To r x.To) (kV e c.To c.Frame.ay)) _=_
 rw[abh h5 hlv,aN,lW (by omega),aN]
 exact hZ _ rfl
theorem adA{e:aF}(hE:Ve e)(hne:r≠c.To):mP e t r c=some (uS e t r c.To c.Frame.ay):=by
 have hl:=hE.small
 unfold mP
 rw[aef e c.To (by omega),aN,xO,aN]
 refine jM (L:=e.List) (λq sg=>sg=trA e t c.To r c.Frame.ay q) (λ_ _=>some (uS e t r c.To c.Frame.ay)) (λs hs=>?_) (λq x rest s Z h hi hZ=>?_) e.List [] _ rfl rfl
 ·subst hs
  unfold uS
  have hlen:=yp e t c.To r c.Frame.ay e.List
  generalize trA e t c.To r c.Frame.ay e.List=T at hlen ⊢
  obtain⟨o,u,b0⟩:=T
  dsimp only at hlen ⊢
  by_cases h0:u=0
  ·rw[if_pos h0,decide_eq_true h0];rfl
  rw[if_neg h0,decide_eq_false h0,cond_false,xO,aN,acP,aN]
  show(bif decide (((pU t c.To r).length:Int)=0)then _ else _)=_
  by_cases hb:pU t c.To r=[]
  ·rw[if_pos hb,hb];rfl
  have hbl:((pU t c.To r).length:Int)≠0:=by
   have:=List.length_pos_iff.2 hb;omega
  rw[if_neg hb,decide_eq_false hbl,cond_false]
  have fin:∀b:Int,(bnd (jj c.Frame.ay b (pU t c.To r)) λ(fE:bh)=>bnd (dx o ([fE]:List bh)) λ(l_2:List bh)=>some (l_2,(0:Int)))=some (o++[uG c.Frame.ay b (pU t c.To r)],(0:Int)):=λb=>by
   rw[aap hb,aN,lW (by omega),aN]
  simp only[jn]
  by_cases h2:b0=0
  ·rw[decide_eq_true h2,if_pos h2];exact fin _
  ·rw[decide_eq_false h2,if_neg h2];exact fin _
 subst hi
 have hx:x∈e.List:=by rw[←h];simp
 obtain⟨b0,b1⟩:=hE.bit hx
 have hlen:=yp e t c.To r c.Frame.ay q
 have hql:q.length≤64:=by
  have:e.List.length=q.length+(rest.length+1):=by rw[←h];simp
  omega
 have ew:IntKind.wrap .u64 x.Bit=x.Bit:=wrap_u64 b0 (by omega)
 rw[afM]at hZ
 unfold jn
 dsimp only
 rw[ew,decide_eq_true b0,za b0 b1,aaZ b0 b1]
 simp only[chk,cond_true]
 have eh:(!decide (x.br=c.To)||(!tbi c.Frame.ay.Bits x.Bit.toNat||decide (x.To=r)))=(!lZ c.To c.Frame.ay x||decide (x.To=r)):=by unfold lZ;cases decide (x.br=c.To)<;>rfl
 rw[eh]
 by_cases hh:lZ c.To c.Frame.ay x=true
 rotate_left
 ·rw[if_neg hh]at hZ
  rw[Bool.not_eq_true]at hh
  rw[hh];exact hZ _ rfl
 rw[if_pos hh]at hZ
 rw[hh,Bool.not_true,Bool.false_or]
 have hxr:x.br=c.To:=by
  unfold lZ at hh
  simp only[Bool.and_eq_true,decide_eq_true_eq]at hh
  exact hh.1
 by_cases h3:x.Kind=3
 ·rw[if_pos h3]at hZ
  have h4:x.To≠r:=by
   have:=(hE.ahO x hx).2 h3
   rw[this,hxr];exact λh=>hne h.symm
  rw[decide_eq_true h3,decide_eq_false h4];exact hZ _ rfl
 rw[if_neg h3]at hZ
 by_cases h4:x.To=r
 ·rw[if_pos h4]at hZ
  rw[decide_eq_true h4];exact hZ _ rfl
 rw[if_neg h4]at hZ
 rw[decide_eq_false h3,decide_eq_false h4,cond_false,cond_false,acP,aN]
 show(bif decide (((rS t c.To r x.To).length:Int)=0)then _ else _)=_
 by_cases h5:rS t c.To r x.To=[]
 ·rw[if_pos h5]at hZ
  rw[h5];exact hZ _ rfl
 rw[if_neg h5]at hZ
 have hbl:((rS t c.To r x.To).length:Int)≠0:=by
  have:=List.length_pos_iff.2 h5;omega
 rw[decide_eq_false hbl,cond_false]
 show(bif !decide (kV e c.To c.Frame.ay=0)then _ else _)=_
 by_cases h6:kV e c.To c.Frame.ay=0
 ·rw[if_pos h6]at hZ
  rw[decide_eq_true h6];exact hZ _ rfl
 rw[if_neg h6]at hZ
 rw[decide_eq_false h6,Bool.not_false,cond_true]
 show bnd (jj c.Frame.ay (kV e c.To c.Frame.ay) (rS t c.To r x.To)) _=_
 rw[aap h5,aN,lW (by omega),aN]
 exact hZ _ rfl
noncomputable def wS(e:aF)(t:aa)(r:Int)(d:List Int)(c:bh):List bh:=if c.To∈d then(uS e t r c.To c.Frame.ay).1 else[c]
noncomputable def abV(e:aF)(t:aa)(r:Int)(d:List Int)(s:Int)(c:bh):Int:=if c.To∈d then aU .or .u64 s (uS e t r c.To c.Frame.ay).2 else s
noncomputable def kW(e:aF)(t:aa)(r:Int)(p:aH)(d:List Int):cg:=
 cg.mk (ni e r p).Local ((ni e r p).bz.foldl (abV e t r d) (ni e r p).gw) ((ni e r p).bz.flatMap (wS e t r d))
noncomputable def pfT(e:aF)(t:aa)(r:Int)(p:aH)(d:List Int):cg×Int:=
 if(qq e r p).2=0 then(if plB e=true∧fC t=0 then(kW e t r p d,0)else(cg.mk 0 0 [],1))else(cg.mk 0 0 [],(qq e r p).2)
theorem adB(e:aF)(t:aa)(r n:Int)(p:aH):(uS e t r n p).1.length≤e.List.length+1:=by
 have:=yp e t n r p e.List
 unfold uS
 split
 ·simp only;omega
 ·split
  ·simp only;omega
  ·simp only[List.length_append,List.length_cons,List.length_nil];omega
theorem agO(e:aF)(t:aa)(r:Int)(d:List Int)(l:List bh):(l.flatMap (wS e t r d)).length≤(e.List.length+1)*l.length:=by
 induction l with
 |nil=>simp
 |cons c l ih=>
  rw[List.flatMap_cons,List.length_append,List.length_cons]
  have:(wS e t r d c).length≤e.List.length+1:=by
   unfold wS
   split
   ·exact adB _ _ _ _ _
   ·simp
  rw[Nat.mul_succ];omega
variable {β:Type}
theorem agP{e:aF}{d:List Int}(hl:e.List.length≤64){L:List bh}(hL:L.length≤64){B:Int→bh→(Int×List bh→Option β)→Int×List bh→Option β}{K:Int×List bh→Option β}
  (hB:∀j x Z s m,x∈L→m.length≤100000→B j x Z (s,m)=Z (abV e t r d s x,m++wS e t r d x)) (s:Int):bJ L 0 B K (s,[])=K (L.foldl (abV e t r d) s,L.flatMap (wS e t r d)):=by
 refine jM (L:=L) (λq sg=>sg=(q.foldl (abV e t r d) s,q.flatMap (wS e t r d))) (λ_ _=>K (L.foldl (abV e t r d) s,L.flatMap (wS e t r d))) (λs hs=>by rw[hs]) (λq x rest s Z h hi hZ=>?_) L [] _ rfl rfl
 subst hi
 have hx:x∈L:=by rw[←h];simp
 have hql:q.length≤64:=by
  have:L.length=q.length+(rest.length+1):=by rw[←h];simp
  omega
 have hm:=agO e t r d q
 have:(e.List.length+1)*q.length≤65*64:=Nat.mul_le_mul (by omega) hql
 rw[hB _ _ _ _ _ hx (by omega)]
 exact hZ _ (by simp)
theorem agQ{e:aF}(h:(qq e r p).2=0):Ve e∧Pk e p∧qq e r p=(ni e r p,0):=by
 unfold qq at *
 by_cases h1:rR e=0
 ·rw[if_pos h1]at *
  cases hp:nW p
  ·rw[hp]at h;cases h
  ·rw[hp]at h
   rw[cond_true]at *
   by_cases hs:mo e p=0
   ·rw[if_pos hs];exact⟨tu.1 h1,ahW hp hs,rfl⟩
   ·rw[if_neg hs]at h;exact absurd h hs
 ·rw[if_neg h1]at h;cases h
theorem agR{e:aF}(hE:Ve e)(hc:c∈(ni e r p).bz):r≠c.To:=by
 obtain⟨a,ha,rfl⟩:=List.mem_map.1 hc
 obtain⟨h1,h2,_,h4,_⟩:=aei ha
 intro h
 have h:r=a.To:=h
 exact h4 ((hE.ahO a h1).1 (by rw[h2,←h]))
theorem uT(e:aF)(t:aa)(r:Int)(p:aH)(d:List Int)(hl:e.List.length≤1000):jG e t r p d=some (pfT e t r p d):=by
 unfold jG pfT
 rw[acT e r p hl,aN]
 by_cases h0:(qq e r p).2=0
 rotate_left
 ·rw[decide_eq_false h0,if_neg h0];rfl
 obtain⟨hE,hP,hf⟩:=agQ h0
 rw[decide_eq_true h0,if_pos h0,Bool.not_true,cond_false,hf]
 simp only[jn,nX e hl,aN]
 cases hp:plB e
 ·rw[if_neg (by simp)];rfl
 simp only[Bool.not_true,cond_false,oQ,aN]
 by_cases hc:fC t=0
 rotate_left
 ·rw[if_neg (λh=>hc h.2),decide_eq_false hc];rfl
 rw[if_pos ⟨trivial,hc⟩,decide_eq_true hc,Bool.not_true,cond_false]
 have hs:=hE.small
 have hcl:(ni e r p).bz.length≤64:=by
  show((uF e r p).map _).length≤64
  rw[List.length_map];exact Nat.le_trans (List.length_filter_le _ _) hs
 refine(agP (e:=e) (t:=t) (r:=r) (d:=d) hs hcl (λj x Z s m hx hm=>?_) _).trans rfl
 dsimp only
 rw[su,aN]
 unfold abV wS
 by_cases hd:x.To∈d
 ·rw[decide_eq_true hd,if_pos hd,if_pos hd,Bool.not_true,cond_false,afN hE (agR hE hx),aN]
  have:=adB e t r x.To x.Frame.ay
  rw[jS (by omega),aN]
 ·rw[decide_eq_false hd,if_neg hd,if_neg hd,Bool.not_false,cond_true,lW (by omega),aN]
theorem uU(e:aF)(t:aa)(r:Int)(p:aH)(d:List Int)(hl:e.List.length≤1000):jH e t r p d=some (pfT e t r p d):=by
 unfold jH pfT
 rw[oh e r p hl,aN]
 by_cases h0:(qq e r p).2=0
 rotate_left
 ·rw[decide_eq_false h0,if_neg h0];rfl
 obtain⟨hE,hP,hf⟩:=agQ h0
 rw[decide_eq_true h0,if_pos h0,Bool.not_true,cond_false,hf]
 simp only[jn,nY e hl,aN]
 cases hp:plB e
 ·rw[if_neg (by simp)];rfl
 simp only[Bool.not_true,cond_false,lF,aN]
 by_cases hc:fC t=0
 rotate_left
 ·rw[if_neg (λh=>hc h.2),decide_eq_false hc];rfl
 rw[if_pos ⟨trivial,hc⟩,decide_eq_true hc,Bool.not_true,cond_false]
 have hs:=hE.small
 have hcl:(ni e r p).bz.length≤64:=by
  show((uF e r p).map _).length≤64
  rw[List.length_map];exact Nat.le_trans (List.length_filter_le _ _) hs
 refine(agP (e:=e) (t:=t) (r:=r) (d:=d) hs hcl (λj x Z s m hx hm=>?_) _).trans rfl
 dsimp only
 rw[ahK,aN]
 unfold abV wS
 by_cases hd:x.To∈d
 ·rw[decide_eq_true hd,if_pos hd,if_pos hd,Bool.not_true,cond_false,adA hE (agR hE hx),aN]
  have:=adB e t r x.To x.Frame.ay
  rw[jS (by omega),aN]
 ·rw[decide_eq_false hd,if_neg hd,if_neg hd,Bool.not_false,cond_true,lW (by omega),aN]
def dnB(f:aO)(r n:Int):Bool:=decide (n∈f.ah)||(nV f.Links r n||nV f.Links n r)
def dnT(t:aa)(f:aO)(r:Int):List Int:=(if fC t=0 then lM t r else[]).filter (dnB f r)
theorem acW(t:aa)(r:Int):(if fC t=0 then lM t r else[]).length≤100:=by
 split
 ·rename_i h;have:=abP (gE.1 h) r;omega
 ·simp
theorem afO(t:aa)(f:aO)(r:Int):oL t f r=some (dnT t f r):=by
 unfold oL dnT
 rw[ads,aN]
 have:=acW t r
 refine(jW (dnB f r) (λx:Int=>x) _ 0 [] (λj x Z s hx hs=>?_) (by simp;omega)).trans (by simp)
 unfold jn pR dnB
 dsimp only
 rw[su,aN,adr,adr]
 unfold nV
 cases decide (x∈f.ah)<;>cases f.Links.any (gM (bU.mk r x))<;>cases f.Links.any (gM (bU.mk x r))<;>simp only[aN,cond_true,cond_false,Bool.or_true,Bool.or_false,lW hs]
theorem apV{B:Int→α→(Bool→Option β)→Bool→Option β}{K:Bool→Option β}(p:α→Bool)(hB:∀j x Z s,B j x Z s=Z (s||p x))(l:List α)(j:Nat)(s:Bool):bJ l j B K s=K (s||l.any p):=by
 induction l generalizing j s with
 |nil=>simp[bJ]
 |cons x r ih=>simp only[bJ,hB];rw[ih,List.any_cons,Bool.or_assoc]
theorem ahY(t:aa)(f:aO)(r:Int):qm t f r=some (dnT t f r):=by
 unfold qm dnT
 rw[uc,aN]
 have:=acW t r
 refine(jW (dnB f r) (λx:Int=>x) _ 0 [] (λj x Z s hx hs=>?_) (by simp;omega)).trans (by simp)
 unfold jn dnB
 dsimp only
 rw[ahK,aN]
 refine(apV (λh:bU=>gM (bU.mk x r) h||gM (bU.mk r x) h) (λj h Z s=>?_) f.Links 0 _).trans ?_
 ·cases s
  ·have e1:gM (bU.mk x r) h=(decide (h.dF=x)&&decide (h.To=r)):=by rw[Bool.eq_iff_iff,acI];cases h;simp only[bU.mk.injEq,Bool.and_eq_true,decide_eq_true_eq];constructor<;>rintro⟨rfl,rfl⟩<;>exact⟨rfl,rfl⟩
   have e2:gM (bU.mk r x) h=(decide (h.dF=r)&&decide (h.To=x)):=by rw[Bool.eq_iff_iff,acI];cases h;simp only[bU.mk.injEq,Bool.and_eq_true,decide_eq_true_eq];constructor<;>rintro⟨rfl,rfl⟩<;>exact⟨rfl,rfl⟩
   rw[e1,e2]
   cases decide (h.dF=x)<;>cases decide (h.To=r)<;>cases decide (h.dF=r)<;>cases decide (h.To=x)<;>rfl
  ·rfl
 ·have e:(f.Links.any λh:bU=>gM (bU.mk x r) h||gM (bU.mk r x) h)=(nV f.Links r x||nV f.Links x r):=by
   rw[Bool.eq_iff_iff];simp only[nV,List.any_eq_true,Bool.or_eq_true]
   constructor
   ·rintro⟨y,hy,h|h⟩
    ·exact .inr ⟨y,hy,h⟩
    ·exact .inl ⟨y,hy,h⟩
   ·rintro(⟨y,hy,h⟩|⟨y,hy,h⟩)
    ·exact⟨y,hy,.inr h⟩
    ·exact⟨y,hy,.inl h⟩
  rw[e,lW hs,aN]
end Go.Proofs.YtdjeacigeegklaaGreat
