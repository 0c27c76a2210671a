/- Plain: aar: what takes the place of a copy to a neighbour aX is down. No condition but bB aX stand in each. -/
import Derived.Test.YtdjeacigeegklaaGreatPYP
import Derived.Test.YtdjeacigeegklaaGreatPM
import Derived.Test.YtdjeacigeegklaaGreatDA
namespace Go.Proofs.YtdjeacigeegklaaGreat
set_option linter.all false
open Go
variable {b:Int}{t:aa}
theorem agp{a:Int}(hv:Vt t)(hne:a≠b):xA t a b=!decide (jG t a b=[]):=by
 have key:xA t a b=(dT t a b).isSome:=by
  by_cases ha:a∈ids t
  ·by_cases hb:b∈ids t
   ·exact apY hv ha hb
   ·rw[ve (λh=>hb h.2.2)]
    unfold xA
    rw[yc (r:=b),decide_eq_false hb];simp
  ·rw[ve (λh=>ha h.2.1)]
   unfold xA
   rw[yc (r:=a),decide_eq_false ha];simp
 rw[key]
 cases hd:dT t a b with
 |none=>
  have:jG t a b=[]:=yd b (sB hd) hne []
  rw[this];rfl
 |some k=>
  obtain⟨y,r,_,h⟩:=ae4 hd hne
  rw[h];rfl
theorem aas(t:aa)(a b:Int):(jG t a b).length≤30:=by
 have:=ad4 (fH t b) b 30 a []
 simpa [jG]using this
theorem cfA(l:List aj)(f:aj→Option Bool)(p:aj→Bool)(hf:∀x,f x=some (p x)):cI l f=some (l.any p):=by
 unfold cI dF
 obtain⟨r,h1,h2⟩:=qx (B:=λ(j1:Int) (e1:aj) (Z1:Unit→Option Int) (sg:Unit)=>match sg with|()=>bnd (f e1) λ(ai:Bool)=>bif ai then some (j1:Int)else Z1 ()) (K:=λ(sg:Unit)=>match sg with|()=>some (-1:Int)) p (λj x Z s=>by simp only[hf,aR]) (λ_=>rfl) l 0 ()
 simp only[h1,aR,h2]
def plB(e:aK):Bool:=decide (oD e=0)&&!e.List.any λa=>decide (a.Kind=2)
theorem adt(e:aK)(hl:e.List.length≤1000):mH e=some (plB e):=by
 unfold mH plB
 rw[tK e (by omega),aR,cfA e.List mV (λa=>decide (a.Kind=2)) (λ_=>rfl)]
 cases decide (oD e=0)<;>rfl
theorem adu(e:aK)(hl:e.List.length≤1000):rM e=some (plB e):=by
 unfold rM plB
 refine(gA (λa:aj=>decide (a.Kind=2)) (some false) (λ_ _ _ _=>rfl) _ _ _).trans ?_
 rw[qA e (by omega),aR]
 cases e.List.any λa:aj=>decide (a.Kind=2)<;>simp
theorem ad5{e:aK}:plB e=true↔Ve e∧∀a∈e.List,a.Kind≠2:=by
 unfold plB
 rw[Bool.and_eq_true,decide_eq_true_eq,ry,Bool.not_eq_true',any_false]
 simp
def tN(p:aT)(b:Int):List Int→bp
 |[]=>bp.mk 0 (gG.mk [] p)
 |x::l=>bp.mk x (gG.mk l (aT.mk p.Mode p.cA p.Set p.Length p.TTL p.cZ p.de p.eE b p.cS))
theorem ada{α:Type}(x:α)(l:List α):lq (x::l) (1:Int) (((x::l).length:Nat):Int)=some l:=by
 unfold lq
 rw[if_pos ⟨by omega,by simp only[List.length_cons];omega,by omega⟩]
 simp
variable {c:bp}{gR:List Int}
theorem yE(h:gR≠[])(hl:gR.length≤1000):iz c gR b=some (tN c.Frame.aI b gR):=by
 cases gR with
 |nil=>exact absurd rfl h
 |cons x l=>
  unfold iz
  have e0:elO (x::l) (0:Int)=some x:=rfl
  simp only[List.length_cons]at hl
  rw[e0,aR,ada,aR]
  unfold iG fP
  rw[qv (by simp;omega)]
  rfl
variable {p:aT}
theorem xH(h:gR≠[]):jS p b gR=some (tN p b gR):=by
 cases gR with
 |nil=>exact absurd rfl h
 |cons x l=>
  unfold jS
  have e0:elO (x::l) (0:Int)=some x:=rfl
  rw[e0,aR,ada,aR]
  rfl
noncomputable def oF(t:aa)(n r q:Int):List Int:=jG (lG t (dO.mk [] [n])) r q
noncomputable def mX(t:aa)(n r:Int):List Int:=jG (lG t (dO.mk [cw.mk r n] [])) r n
noncomputable def rz(t:aa)(n r:Int)(p:aT)(a:aj):Bool:=kI n p a&&!decide (a.Kind=3)&&!decide (a.To=r)&&decide (oF t n r a.To=[])
noncomputable def zp(t:aa)(n r:Int)(p:aT)(a:aj):Bool:=(kI n p a&&decide (a.Kind=3))||rz t n r p a
noncomputable def zq(e:aK)(t:aa)(n r:Int)(p:aT)(a:aj):Bool:=kI n p a&&!decide (a.Kind=3)&&!decide (a.To=r)&&!decide (oF t n r a.To=[])&&!decide (iT e n p=0)
noncomputable def trA(e:aK)(t:aa)(n r:Int)(p:aT)(q:List aj):List bp×Int×Int:=
 ((q.filter (zq e t n r p)).map λa=>tN p (iT e n p) (oF t n r a.To),(q.filter (zp t n r p)).foldl orA 0,(q.filter (rz t n r p)).foldl orA 0)
noncomputable def uK(e:aK)(t:aa)(r n:Int)(p:aT):List bp×Int:=
 if(trA e t n r p e.List).2.1=0 then((trA e t n r p e.List).1,0)else if mX t n r=[]then((trA e t n r p e.List).1,(trA e t n r p e.List).2.1)
 else((trA e t n r p e.List).1++[tN p (if(trA e t n r p e.List).2.2=0 then(trA e t n r p e.List).2.1 else aS .or .u64 (trA e t n r p e.List).2.1 (iT e n p)) (mX t n r)],0)
theorem adb(e:aK)(t:aa)(n r:Int)(p:aT)(q:List aj)(x:aj):trA e t n r p (q++[x]) =
  if kI n p x=true then(if x.Kind=3 then((trA e t n r p q).1,orA (trA e t n r p q).2.1 x,(trA e t n r p q).2.2)else if x.To=r then trA e t n r p q else if oF t n r x.To=[]then((trA e t n r p q).1,orA (trA e t n r p q).2.1 x,orA (trA e t n r p q).2.2 x)
   else if iT e n p=0 then trA e t n r p q else((trA e t n r p q).1++[tN p (iT e n p) (oF t n r x.To)],(trA e t n r p q).2))else trA e t n r p q:=by
 unfold trA
 by_cases h1:kI n p x=true
 ·by_cases h3:x.Kind=3
  ·simp[List.filter_append,List.filter_cons,zq,zp,rz,h1,h3]
  ·by_cases h4:x.To=r
   ·simp[List.filter_append,List.filter_cons,zq,zp,rz,h1,h3,h4]
   ·by_cases h5:oF t n r x.To=[]
    ·simp[List.filter_append,List.filter_cons,zq,zp,rz,h1,h3,h4,h5]
    ·by_cases h6:iT e n p=0
     ·simp[List.filter_append,List.filter_cons,zq,zp,rz,h1,h3,h4,h5,h6]
     ·simp[List.filter_append,List.filter_cons,zq,zp,rz,h1,h3,h4,h5,h6]
 ·simp[List.filter_append,List.filter_cons,zq,zp,rz,h1]
theorem vh(e:aK)(t:aa)(n r:Int)(p:aT)(q:List aj):(trA e t n r p q).1.length≤q.length:=by
 unfold trA
 rw[List.length_map]
 exact List.length_filter_le _ _
variable {r:Int}
theorem ade{e:aK}(hE:Ve e)(hne:r≠c.To):l8 e t r c=some (uK e t r c.To c.Frame.aI):=by
 have hl:=hE.small
 have hw:=aaN t (dO.mk [] [c.To])
 have hnr:=hw.nr
 unfold l8
 rw[adY e c.To (by omega),aR,yB,aR]
 refine kg (L:=e.List) (λq sg=>sg=trA e t c.To r c.Frame.aI q) (λ_ _=>some (uK e t r c.To c.Frame.aI)) (λs hs=>?_) (λq x rest s Z h hi hZ=>?_) e.List [] _ rfl rfl
 ·subst hs
  unfold uK
  have hlen:=vh e t c.To r c.Frame.aI e.List
  generalize trA e t c.To r c.Frame.aI e.List=T at hlen ⊢
  obtain⟨o,u,b0⟩:=T
  dsimp only at hlen ⊢
  by_cases h0:u=0
  ·rw[if_pos h0,decide_eq_true h0];rfl
  rw[if_neg h0,decide_eq_false h0,cond_false,yB,aR,aam,aR]
  show(bif decide (((mX t c.To r).length:Int)=0)then _ else _)=_
  by_cases hb:mX t c.To r=[]
  ·rw[if_pos hb,hb];rfl
  have hbl:((mX t c.To r).length:Int)≠0:=by
   have:=List.length_pos_iff.2 hb;omega
  rw[if_neg hb,decide_eq_false hbl,cond_false]
  have hlb:(mX t c.To r).length≤1000:=by have:=aas (lG t (dO.mk [cw.mk r c.To] [])) r c.To;unfold mX;omega
  have fin:∀b:Int,(bnd (iz c (mX t c.To r) b) λ(dw:bp)=>bnd (dy o ([dw]:List bp)) λ(l_2:List bp)=>some (l_2,(0:Int)))=some (o++[tN c.Frame.aI b (mX t c.To r)],(0:Int)):=λb=>by
   rw[yE hb hlb,aR,kH (by omega),aR]
  simp only[jn]
  by_cases h2:b0=0
  ·rw[decide_eq_true h2,if_pos h2];exact fin _
  ·rw[decide_eq_false h2,if_neg h2];exact fin _
 subst hi
 have hx:x∈e.List:=by rw[←h];simp
 obtain⟨b0,b1⟩:=hE.bit hx
 have hlen:=vh e t c.To r c.Frame.aI q
 have hql:q.length≤64:=by
  have:e.List.length=q.length+(rest.length+1):=by rw[←h];simp
  omega
 rw[adb]at hZ
 unfold jn
 dsimp only
 rw[decide_eq_true b0,zn b0 b1,yf b0 b1]
 simp only[chk,cond_true]
 have eh:(!decide (x.bx=c.To)||!tbi c.Frame.aI.Bits x.Bit.toNat)=!kI c.To c.Frame.aI x:=by unfold kI;cases decide (x.bx=c.To)<;>rfl
 rw[eh]
 by_cases hh:kI c.To c.Frame.aI x=true
 rotate_left
 ·rw[if_neg hh]at hZ
  rw[Bool.not_eq_true]at hh
  rw[hh];exact hZ _ rfl
 rw[if_pos hh]at hZ
 rw[hh,Bool.not_true,cond_false]
 by_cases h3:x.Kind=3
 ·rw[if_pos h3]at hZ
  rw[decide_eq_true h3];exact hZ _ rfl
 rw[if_neg h3]at hZ
 rw[decide_eq_false h3,cond_false]
 by_cases h4:x.To=r
 ·rw[if_pos h4]at hZ
  rw[decide_eq_true h4];exact hZ _ rfl
 rw[if_neg h4]at hZ
 rw[decide_eq_false h4,cond_false,abH _ _ _ (by omega),aR,agp hw (λh=>h4 h.symm)]
 show(bif !!decide (oF t c.To r x.To=[])then _ else _)=_
 rw[Bool.not_not]
 by_cases h5:oF t c.To r x.To=[]
 ·rw[if_pos h5]at hZ
  rw[decide_eq_true h5];exact hZ _ rfl
 rw[if_neg h5]at hZ
 rw[decide_eq_false h5,cond_false]
 show(bif !decide (iT e c.To c.Frame.aI=0)then _ else _)=_
 by_cases h6:iT e c.To c.Frame.aI=0
 ·rw[if_pos h6]at hZ
  rw[decide_eq_true h6];exact hZ _ rfl
 rw[if_neg h6]at hZ
 rw[decide_eq_false h6,Bool.not_false,cond_true,aam,aR]
 have hlv:(oF t c.To r x.To).length≤1000:=by have:=aas (lG t (dO.mk [] [c.To])) r x.To;unfold oF;omega
 show bnd (iz c (oF t c.To r x.To) (iT e c.To c.Frame.aI)) _=_
 rw[yE h5 hlv,aR,kH (by omega),aR]
 exact hZ _ rfl
theorem aaW{e:aK}(hE:Ve e)(hne:r≠c.To):oy e t r c=some (uK e t r c.To c.Frame.aI):=by
 have hl:=hE.small
 unfold oy
 rw[abD e c.To (by omega),aR,yA,aR]
 refine kg (L:=e.List) (λq sg=>sg=trA e t c.To r c.Frame.aI q) (λ_ _=>some (uK e t r c.To c.Frame.aI)) (λs hs=>?_) (λq x rest s Z h hi hZ=>?_) e.List [] _ rfl rfl
 ·subst hs
  unfold uK
  have hlen:=vh e t c.To r c.Frame.aI e.List
  generalize trA e t c.To r c.Frame.aI e.List=T at hlen ⊢
  obtain⟨o,u,b0⟩:=T
  dsimp only at hlen ⊢
  by_cases h0:u=0
  ·rw[if_pos h0,decide_eq_true h0];rfl
  rw[if_neg h0,decide_eq_false h0,cond_false,yA,aR,aan,aR]
  show(bif decide (((mX t c.To r).length:Int)=0)then _ else _)=_
  by_cases hb:mX t c.To r=[]
  ·rw[if_pos hb,hb];rfl
  have hbl:((mX t c.To r).length:Int)≠0:=by
   have:=List.length_pos_iff.2 hb;omega
  rw[if_neg hb,decide_eq_false hbl,cond_false]
  have fin:∀b:Int,(bnd (jS c.Frame.aI b (mX t c.To r)) λ(dw:bp)=>bnd (dy o ([dw]:List bp)) λ(l_2:List bp)=>some (l_2,(0:Int)))=some (o++[tN c.Frame.aI b (mX t c.To r)],(0:Int)):=λb=>by
   rw[xH hb,aR,kH (by omega),aR]
  simp only[jn]
  by_cases h2:b0=0
  ·rw[decide_eq_true h2,if_pos h2];exact fin _
  ·rw[decide_eq_false h2,if_neg h2];exact fin _
 subst hi
 have hx:x∈e.List:=by rw[←h];simp
 obtain⟨b0,b1⟩:=hE.bit hx
 have hlen:=vh e t c.To r c.Frame.aI q
 have hql:q.length≤64:=by
  have:e.List.length=q.length+(rest.length+1):=by rw[←h];simp
  omega
 have ew:IntKind.wrap .u64 x.Bit=x.Bit:=wrap_u64 b0 (by omega)
 rw[adb]at hZ
 unfold jn
 dsimp only
 rw[ew,decide_eq_true b0,zn b0 b1,yf b0 b1]
 simp only[chk,cond_true]
 have eh:(!decide (x.bx=c.To)||(!tbi c.Frame.aI.Bits x.Bit.toNat||decide (x.To=r)))=(!kI c.To c.Frame.aI x||decide (x.To=r)):=by unfold kI;cases decide (x.bx=c.To)<;>rfl
 rw[eh]
 by_cases hh:kI c.To c.Frame.aI x=true
 rotate_left
 ·rw[if_neg hh]at hZ
  rw[Bool.not_eq_true]at hh
  rw[hh];exact hZ _ rfl
 rw[if_pos hh]at hZ
 rw[hh,Bool.not_true,Bool.false_or]
 have hxr:x.bx=c.To:=by
  unfold kI at hh
  simp only[Bool.and_eq_true,decide_eq_true_eq]at hh
  exact hh.1
 by_cases h3:x.Kind=3
 ·rw[if_pos h3]at hZ
  have h4:x.To≠r:=by
   have:=(hE.ae7 x hx).2 h3
   rw[this,hxr];exact λh=>hne h.symm
  rw[decide_eq_true h3,decide_eq_false h4];exact hZ _ rfl
 rw[if_neg h3]at hZ
 by_cases h4:x.To=r
 ·rw[if_pos h4]at hZ
  rw[decide_eq_true h4];exact hZ _ rfl
 rw[if_neg h4]at hZ
 rw[decide_eq_false h3,decide_eq_false h4,cond_false,cond_false,aan,aR]
 show(bif decide (((oF t c.To r x.To).length:Int)=0)then _ else _)=_
 by_cases h5:oF t c.To r x.To=[]
 ·rw[if_pos h5]at hZ
  rw[h5];exact hZ _ rfl
 rw[if_neg h5]at hZ
 have hbl:((oF t c.To r x.To).length:Int)≠0:=by
  have:=List.length_pos_iff.2 h5;omega
 rw[decide_eq_false hbl,cond_false]
 show(bif !decide (iT e c.To c.Frame.aI=0)then _ else _)=_
 by_cases h6:iT e c.To c.Frame.aI=0
 ·rw[if_pos h6]at hZ
  rw[decide_eq_true h6];exact hZ _ rfl
 rw[if_neg h6]at hZ
 rw[decide_eq_false h6,Bool.not_false,cond_true]
 show bnd (jS c.Frame.aI (iT e c.To c.Frame.aI) (oF t c.To r x.To)) _=_
 rw[xH h5,aR,kH (by omega),aR]
 exact hZ _ rfl
noncomputable def ki(e:aK)(t:aa)(r:Int)(d:List Int)(c:bp):List bp:=if c.To∈d then(uK e t r c.To c.Frame.aI).1 else[c]
noncomputable def zu(e:aK)(t:aa)(r:Int)(d:List Int)(s:Int)(c:bp):Int:=if c.To∈d then aS .or .u64 s (uK e t r c.To c.Frame.aI).2 else s
noncomputable def uo(e:aK)(t:aa)(r:Int)(p:aT)(d:List Int):bQ:=
 bQ.mk (l9 e r p).Local ((l9 e r p).bu.foldl (zu e t r d) (l9 e r p).lQ) ((l9 e r p).bu.flatMap (ki e t r d))
noncomputable def pfT(e:aK)(t:aa)(r:Int)(p:aT)(d:List Int):bQ×Int:=
 if(oE e r p).2=0 then(if plB e=true∧fS t=0 then(uo e t r p d,0)else(bQ.mk 0 0 [],1))else(bQ.mk 0 0 [],(oE e r p).2)
theorem aaX(e:aK)(t:aa)(r n:Int)(p:aT):(uK e t r n p).1.length≤e.List.length+1:=by
 have:=vh e t n r p e.List
 unfold uK
 split
 ·simp only;omega
 ·split
  ·simp only;omega
  ·simp only[List.length_append,List.length_cons,List.length_nil];omega
theorem ad6(e:aK)(t:aa)(r:Int)(d:List Int)(l:List bp):(l.flatMap (ki e t r d)).length≤(e.List.length+1)*l.length:=by
 induction l with
 |nil=>simp
 |cons c l ih=>
  rw[List.flatMap_cons,List.length_append,List.length_cons]
  have:(ki e t r d c).length≤e.List.length+1:=by
   unfold ki
   split
   ·exact aaX _ _ _ _ _
   ·simp
  rw[Nat.mul_succ];omega
theorem ad7{β:Type}{e:aK}{d:List Int}(hl:e.List.length≤64){L:List bp}(hL:L.length≤64){B:Int→bp→(Int×List bp→Option β)→Int×List bp→Option β}{K:Int×List bp→Option β}
  (hB:∀j x Z s m,x∈L→m.length≤100000→B j x Z (s,m)=Z (zu e t r d s x,m++ki e t r d x)) (s:Int):bJ L 0 B K (s,[])=K (L.foldl (zu e t r d) s,L.flatMap (ki e t r d)):=by
 refine kg (L:=L) (λq sg=>sg=(q.foldl (zu e t r d) s,q.flatMap (ki e t r d))) (λ_ _=>K (L.foldl (zu e t r d) s,L.flatMap (ki e t r d))) (λs hs=>by rw[hs]) (λq x rest s Z h hi hZ=>?_) L [] _ rfl rfl
 subst hi
 have hx:x∈L:=by rw[←h];simp
 have hql:q.length≤64:=by
  have:L.length=q.length+(rest.length+1):=by rw[←h];simp
  omega
 have hm:=ad6 e t r d q
 have:(e.List.length+1)*q.length≤65*64:=Nat.mul_le_mul (by omega) hql
 rw[hB _ _ _ _ _ hx (by omega)]
 exact hZ _ (by simp)
theorem ad8{e:aK}(h:(oE e r p).2=0):Ve e∧Pk e p∧oE e r p=(l9 e r p,0):=by
 unfold oE at *
 by_cases h1:oD e=0
 ·rw[if_pos h1]at *
  cases hp:rR p
  ·rw[hp]at h;cases h
  ·rw[hp]at h
   rw[cond_true]at *
   by_cases hs:nH e p=0
   ·rw[if_pos hs];exact⟨ry.1 h1,azo hp hs,rfl⟩
   ·rw[if_neg hs]at h;exact absurd h hs
 ·rw[if_neg h1]at h;cases h
theorem ad9{e:aK}(hE:Ve e)(hc:c∈(l9 e r p).bu):r≠c.To:=by
 obtain⟨a,ha,rfl⟩:=List.mem_map.1 hc
 obtain⟨h1,h2,_,h4,_⟩:=agn ha
 intro h
 have h:r=a.To:=h
 exact h4 ((hE.ae7 a h1).1 (by rw[h2,←h]))
theorem wu(e:aK)(t:aa)(r:Int)(p:aT)(d:List Int)(hl:e.List.length≤1000):jt e t r p d=some (pfT e t r p d):=by
 unfold jt pfT
 rw[aaq e r p hl,aR]
 by_cases h0:(oE e r p).2=0
 rotate_left
 ·rw[decide_eq_false h0,if_neg h0];rfl
 obtain⟨hE,hP,hf⟩:=ad8 h0
 rw[decide_eq_true h0,if_pos h0,Bool.not_true,cond_false,hf]
 simp only[jn,adt e hl,aR]
 cases hp:plB e
 ·rw[if_neg (by simp)];rfl
 simp only[Bool.not_true,cond_false,xy,aR]
 by_cases hc:fS t=0
 rotate_left
 ·rw[if_neg (λh=>hc h.2),decide_eq_false hc];rfl
 rw[if_pos ⟨trivial,hc⟩,decide_eq_true hc,Bool.not_true,cond_false]
 have hs:=hE.small
 have hcl:(l9 e r p).bu.length≤64:=by
  show((p8 e r p).map _).length≤64
  rw[List.length_map];exact Nat.le_trans (List.length_filter_le _ _) hs
 refine(ad7 (e:=e) (t:=t) (r:=r) (d:=d) hs hcl (λj x Z s m hx hm=>?_) _).trans rfl
 dsimp only
 rw[u9,aR]
 unfold zu ki
 by_cases hd:x.To∈d
 ·rw[decide_eq_true hd,if_pos hd,if_pos hd,Bool.not_true,cond_false,ade hE (ad9 hE hx),aR]
  have:=aaX e t r x.To x.Frame.aI
  rw[qv (by omega),aR]
 ·rw[decide_eq_false hd,if_neg hd,if_neg hd,Bool.not_false,cond_true,kH (by omega),aR]
theorem abI(e:aK)(t:aa)(r:Int)(p:aT)(d:List Int)(hl:e.List.length≤1000):pW e t r p d=some (pfT e t r p d):=by
 unfold pW pfT
 rw[rX e r p hl,aR]
 by_cases h0:(oE e r p).2=0
 rotate_left
 ·rw[decide_eq_false h0,if_neg h0];rfl
 obtain⟨hE,hP,hf⟩:=ad8 h0
 rw[decide_eq_true h0,if_pos h0,Bool.not_true,cond_false,hf]
 simp only[jn,adu e hl,aR]
 cases hp:plB e
 ·rw[if_neg (by simp)];rfl
 simp only[Bool.not_true,cond_false,rj,aR]
 by_cases hc:fS t=0
 rotate_left
 ·rw[if_neg (λh=>hc h.2),decide_eq_false hc];rfl
 rw[if_pos ⟨trivial,hc⟩,decide_eq_true hc,Bool.not_true,cond_false]
 have hs:=hE.small
 have hcl:(l9 e r p).bu.length≤64:=by
  show((p8 e r p).map _).length≤64
  rw[List.length_map];exact Nat.le_trans (List.length_filter_le _ _) hs
 refine(ad7 (e:=e) (t:=t) (r:=r) (d:=d) hs hcl (λj x Z s m hx hm=>?_) _).trans rfl
 dsimp only
 rw[auk,aR]
 unfold zu ki
 by_cases hd:x.To∈d
 ·rw[decide_eq_true hd,if_pos hd,if_pos hd,Bool.not_true,cond_false,aaW hE (ad9 hE hx),aR]
  have:=aaX e t r x.To x.Frame.aI
  rw[qv (by omega),aR]
 ·rw[decide_eq_false hd,if_neg hd,if_neg hd,Bool.not_false,cond_true,kH (by omega),aR]
end Go.Proofs.YtdjeacigeegklaaGreat
