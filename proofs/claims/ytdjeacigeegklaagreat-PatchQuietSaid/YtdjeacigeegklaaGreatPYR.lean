/- Plain: what a run with zj comes to. No condition but bK bn stand in each. -/
import Derived.Test.YtdjeacigeegklaaGreatPYQ
namespace Go.Proofs.YtdjeacigeegklaaGreat
set_option linter.all false
open Go
noncomputable def rT(e:aC)(t:aa)(f:bF)(v:bh):cG:=match v.dA.gZ with
 |x::l=>cG.mk 0 0 [bg.mk x (eP.mk l v.dA.aq)]
 |[]=>nI e t v.cm v.dA.aq (dnT t f v.cm)
def wJ(e:aC)(v:bh):List bO:=match v.dA.gZ with
 |_::_=>[]
 |[]=>iH e v.cm v.dA.aq
noncomputable def zl(e:aC)(t:aa)(f:bF)(v:bh):List cz:=if(rT e t f v).jF=0 then[]else[cz.mk v.cm (rT e t f v).jF]
def okC(w:aa)(r:Int)(c:bg):Bool:=gP w r c.To
def sCr(w:aa)(r:Int)(l:List bg):List aU:=(l.filter (okC w r)).map λc=>aU.mk r c.To c.Frame.aq.Bits
def sQu(w:aa)(r:Int)(l:List bg):List bh:=(l.filter (okC w r)).map λc=>bh.mk c.To c.Frame
def sLo(w:aa)(r:Int)(l:List bg):List cz:=(l.filter λc=>!okC w r c).map λc=>cz.mk r c.Frame.aq.Bits
noncomputable def oH(e:aC)(t:aa)(f:bF)(w:aa)(v:bh):List aU:=sCr w v.cm (rT e t f v).bY
noncomputable def qM(e:aC)(t:aa)(f:bF)(w:aa)(v:bh):List bh:=sQu w v.cm (rT e t f v).bY
noncomputable def wK(e:aC)(t:aa)(f:bF)(w:aa)(v:bh):List cz:=zl e t f v++sLo w v.cm (rT e t f v).bY
noncomputable def rU(e:aC)(t:aa)(f:bF)(w:aa):Nat→List bh→List bO→List aU→List cz→cC×Int
 |0,_,_,_,_=>(cC.mk [] [] [],11)
 |_+1,[],D,C,L=>(cC.mk D C L,0)
 |n+1,v::q,D,C,L=>if 2000<(C++oH e t f w v).length then(cC.mk [] [] [],11)else rU e t f w n (q++qM e t f w v) (D++wJ e v) (C++oH e t f w v) (L++wK e t f w v)
theorem aeh(w:aa)(r:Int)(l:List bg):(sQu w r l).length=(sCr w r l).length:=by unfold sQu sCr;rw[List.length_map,List.length_map]
theorem ahz(w:aa)(r:Int)(l:List bg):(sLo w r l).length≤l.length:=by unfold sLo;rw[List.length_map];exact List.length_filter_le _ _
theorem aqT(w:aa)(r:Int)(l:List bg):(sCr w r l).length≤l.length:=by unfold sCr;rw[List.length_map];exact List.length_filter_le _ _
def tF(q:List bh)(C:List aU):Nat:=q.length+(2000-C.length)
variable {f:bF}{t w:aa}
theorem aeX{e:aC}{v:bh}{q:List bh}{C:List aU}(h:¬2000<(C++oH e t f w v).length):tF (q++qM e t f w v) (C++oH e t f w v)<tF (v::q) C:=by
 have:=aeh w v.cm (rT e t f v).bY
 unfold tF qM
 unfold oH at h ⊢
 rw[List.length_append]at h ⊢
 rw[List.length_append,List.length_cons]
 omega
theorem abH{e:aC}{t:aa}{f:bF}{w:aa}:∀(n m:Nat) (q:List bh) (D:List bO) (C:List aU) (L:List cz),tF q C<n→tF q C<m→rU e t f w n q D C L=rU e t f w m q D C L
 |0,_,_,_,_,_,h,_=>by omega
 |_,0,_,_,_,_,_,h=>by omega
 |n+1,m+1,[],D,C,L,_,_=>rfl
 |n+1,m+1,v::q,D,C,L,h1,h2=>by
  rw[rU,rU]
  split
  ·rfl
  ·rename_i hc
   have:=aeX (e:=e) (t:=t) (f:=f) (w:=w) (q:=q) hc
   exact abH n m _ _ _ _ (by omega) (by omega)
theorem amd(w:aa)(r:Int)(q:List bg)(x:bg):sCr w r (q++[x])=sCr w r q++if okC w r x=true then[aU.mk r x.To x.Frame.aq.Bits]else[]:=by
 unfold sCr
 rw[List.filter_append,List.map_append]
 cases h:okC w r x<;>simp[List.filter_cons,h]
theorem ame(w:aa)(r:Int)(q:List bg)(x:bg):sQu w r (q++[x])=sQu w r q++if okC w r x=true then[bh.mk x.To x.Frame]else[]:=by
 unfold sQu
 rw[List.filter_append,List.map_append]
 cases h:okC w r x<;>simp[List.filter_cons,h]
theorem amf(w:aa)(r:Int)(q:List bg)(x:bg):sLo w r (q++[x])=sLo w r q++if okC w r x=true then[]else[cz.mk r x.Frame.aq.Bits]:=by
 unfold sLo
 rw[List.filter_append,List.map_append]
 cases h:okC w r x<;>simp[List.filter_cons,h]
def mV(e:aC)(t:aa)(f:bF)(w:aa)(D:List bO)(C:List aU)(L:List cz)(Q:List bh)(r:Int)(q:List bg):dy:=
 dy.mk e t w f (cC.mk D (C++sCr w r q) (L++sLo w r q)) (Q++sQu w r q)
variable {L:List cz}{Q:List bh}
theorem ads{e:aC}{D:List bO}{C:List aU}(hw:Vt w)(hC:C.length≤100000000)(hL:L.length≤100000000)(hQ:Q.length≤100000000)(r:Int)(q:List bg)(hq:q.length≤100000)(x:bg):
  gN (mV e t f w D C L Q r q) r x=some (mV e t f w D C L Q r (q++[x])):=by
 have hnl:=hw.nl
 have h1:=aqT w r q
 have h2:=ahz w r q
 have h3:=aeh w r q
 unfold gN mV
 dsimp only
 rw[alQ w r x.To (by omega),aM,if_pos (fK.2 hw),aaw,amd,ame,amf]
 show(bif !okC w r x then _ else _)=_
 cases hx:okC w r x
 ·rw[Bool.not_false,cond_true,ni (by simp;omega),aM]
  simp
 ·rw[Bool.not_true,cond_false,ni (by simp;omega),aM,ni (by simp;omega),aM]
  simp
theorem aeY{e:aC}(hE:Ve e)(t:aa)(r:Int)(p:aH)(d:List Int):(nI e t r p d).bY.length≤65*64:=by
 have hs:=hE.small
 have hcl:(gf e r p).bY.length≤64:=by
  show((cH e r p).map _).length≤64
  rw[List.length_map];exact Nat.le_trans (List.length_filter_le _ _) hs
 have:=ahv e t r d (gf e r p).bY
 have h2:(e.List.length+1)*(gf e r p).bY.length≤65*64:=Nat.mul_le_mul (by omega) hcl
 unfold nI
 dsimp only
 omega
theorem amg{e:aC}(hE:Ve e)(t:aa)(f:bF)(v:bh):(rT e t f v).bY.length≤4160:=by
 unfold rT
 split
 ·simp
 ·exact aeY hE _ _ _ _
theorem agB(e:aC)(t:aa)(f:bF)(v:bh):(zl e t f v).length≤1:=by unfold zl;split<;>simp
theorem amh{e:aC}(hE:Ve e)(v:bh):(wJ e v).length≤64:=by
 unfold wJ
 split
 ·simp
 ·unfold iH;rw[List.length_map];exact Nat.le_trans (List.length_filter_le _ _) hE.small
variable {p:aH}
theorem auH{e:aC}(hE:plB e=true)(ht:Vt t)(hp:Pk e p)(r:Int)(d:List Int):pfT e t r p d=(nI e t r p d,0):=by
 unfold pfT
 have hfw:rR e r p=(gf e r p,0):=by
  unfold rR;rw[if_pos (iX.2 (yu.1 hE).1),hp.v,hp.adn];rfl
 rw[hfw,if_pos rfl,if_pos ⟨hE,fK.2 ht⟩]
theorem agC{e:aC}(hE:plB e=true)(ht:Vt t)(hw:Vt w){D:List bO}{C:List aU}(hD:D.length≤900000)(hC:C.length≤2000)(hL:L.length≤90000000)(hQ:Q.length≤800000)(v:bh)(hv:Pk e v.dA.aq):
  jl (dy.mk e t w f (cC.mk D C L) Q) v=some (dy.mk e t w f (cC.mk (D++wJ e v) (C++oH e t f w v) (L++wK e t f w v)) (Q++qM e t f w v)):=by
 obtain⟨r,⟨R,p⟩⟩:=v
 have hv:Pk e p:=hv
 have hEv:=(yu.1 hE).1
 unfold jl
 cases R with
 |cons x l=>
  have e0:elO (x::l) (0:Int)=some x:=rfl
  dsimp only
  rw[decide_eq_true (by simp only[List.length_cons];omega),cond_true,e0,aM,zk,aM]
  have:=ads (e:=e) (t:=t) (f:=f) (D:=D) (C:=C) (L:=L) (Q:=Q) hw (by omega) (by omega) (by omega) r [] (by simp) (bg.mk x (eP.mk l p))
  have e1:mV e t f w D C L Q r []=dy.mk e t w f (cC.mk D C L) Q:=by simp[mV,sCr,sLo,sQu]
  rw[e1]at this
  rw[this,aM]
  simp[mV,oH,qM,wK,zl,wJ,rT]
 |nil=>
  dsimp only
  rw[decide_eq_false (by simp),cond_false,agA,aM,zw e t r p _ (by have:=hEv.small;omega),auH hE ht hv,aM]
  refine(ama (e:=e) (r:=r) (p:=p) hEv hv.v (D:=D) (by omega)).trans ?_
  have aiz:∀(J:List cz→Option dy),(bif !decide ((nI e t r p (dnT t f r)).jF=(0:Int))then bnd (dB L ([(cz.mk r (nI e t r p (dnT t f r)).jF)]:List cz)) λ(l_2:List cz)=>J l_2 else J L)=J (L++zl e t f (bh.mk r (eP.mk [] p))):=λJ=>by
   unfold zl
   show _=J (L++if(nI e t r p (dnT t f r)).jF=0 then[]else[cz.mk r (nI e t r p (dnT t f r)).jF])
   by_cases hz:(nI e t r p (dnT t f r)).jF=0
   ·rw[decide_eq_true hz,if_pos hz];simp
   ·rw[decide_eq_false hz,if_neg hz]
    simp only[Bool.not_false,cond_true]
    rw[ni (by simp;omega),aM]
  unfold jn
  refine(aiz _).trans ?_
  have hlo:=agB e t f (bh.mk r (eP.mk [] p))
  have hcl:=aeY hEv t r p (dnT t f r)
  generalize hL':L++zl e t f (bh.mk r (eP.mk [] p))=L'
  have hLl:L'.length≤90000001:=by rw[←hL',List.length_append];omega
  have fin:some (dy.mk e t w f (cC.mk (D++wJ e (bh.mk r (eP.mk [] p))) (C++oH e t f w (bh.mk r (eP.mk [] p))) (L++wK e t f w (bh.mk r (eP.mk [] p)))) (Q++qM e t f w (bh.mk r (eP.mk [] p))))=some (mV e t f w (D++iH e r p) C L' Q r (nI e t r p (dnT t f r)).bY):=by
   unfold wK mV
   rw[←List.append_assoc,hL'];rfl
  rw[fin]
  refine jQ (L:=(nI e t r p (dnT t f r)).bY) (λq sg=>sg=((mV e t f w (D++iH e r p) C L' Q r q).cA.Length,(mV e t f w (D++iH e r p) C L' Q r q).cA.List,(mV e t f w (D++iH e r p) C L' Q r q).dh.aj,(mV e t f w (D++iH e r p) C L' Q r q).dh.Links,(mV e t f w (D++iH e r p) C L' Q r q).eA.aj,(mV e t f w (D++iH e r p) C L' Q r q).eA.Links,(mV e t f w (D++iH e r p) C L' Q r q).cL.Links,(mV e t f w (D++iH e r p) C L' Q r q).cL.aj,(mV e t f w (D++iH e r p) C L' Q r q).cV.cK,(mV e t f w (D++iH e r p) C L' Q r q).cV.cn,(mV e t f w (D++iH e r p) C L' Q r q).cV.dP,(mV e t f w (D++iH e r p) C L' Q r q).je)) (λ_ _=>some (mV e t f w (D++iH e r p) C L' Q r (nI e t r p (dnT t f r)).bY)) (λs hs=>by rw[hs]) (λq x rest s Z h hi hZ=>?_) _ [] _ rfl (by simp[mV,sCr,sLo,sQu])
  subst hi
  have hql:q.length≤4160:=by
   have:(nI e t r p (dnT t f r)).bY.length=q.length+(rest.length+1):=by rw[←h];simp
   omega
  have hs:=ads (e:=e) (t:=t) (f:=f) (D:=D++iH e r p) (C:=C) (L:=L') (Q:=Q) hw (by omega) (by omega) (by omega) r q (by omega) x
  show bnd (gN (mV e t f w (D++iH e r p) C L' Q r q) r x) _=_
  rw[hs,aM]
  exact hZ _ rfl
theorem aeZ{e:aC}(hp:Pk e p){b:Int}(hb:∀i,tbi b i=true→tbi p.Bits i=true)(l:List Int):Pk e (uD p b l).Frame.aq:=by
 cases l with
 |nil=>exact hp
 |cons x l=>exact hp.bits b hb
theorem agV{l:List ay}(h:∀a∈l,(0≤a.Bit∧a.Bit<64)∧tbi p.Bits a.Bit.toNat=true):∀(s:Int),(∀i,tbi s i=true→tbi p.Bits i=true)→∀i,tbi (l.foldl orA s) i=true→tbi p.Bits i=true:=by
 induction l with
 |nil=>intro s hs;exact hs
 |cons a l ih=>
  intro s hs
  rw[List.foldl_cons]
  refine ih (λx hx=>h x (by simp[hx])) _ λi hi=>?_
  obtain⟨hb,ht⟩:=h a (by simp)
  unfold orA aaE at hi
  rw[tbo,sD a.Bit.toNat i (by omega),Bool.or_eq_true,decide_eq_true_eq]at hi
  rcases hi with hi|rfl
  ·exact hs i hi
  ·exact ht
variable {r:Int}
theorem ahA{e:aC}(hE:Ve e){n:Int}:∀i,tbi (trA e t n r p e.List).2.1 i=true→tbi p.Bits i=true:=by
 refine agV (λa ha=>?_) 0 (λi hi=>by rw[oE]at hi;cases hi)
 obtain⟨h1,h2⟩:=List.mem_filter.1 ha
 refine⟨hE.bit h1,?_⟩
 have:kj n p a=true:=by
  simp only[aaJ,tE,Bool.or_eq_true,Bool.and_eq_true]at h2
  rcases h2 with h2|h2
  ·exact h2.1
  ·exact h2.1.1.1
 simp only[kj,Bool.and_eq_true]at this
 exact this.2
variable {c:bg}
theorem auI{e:aC}(hE:Ve e){n:Int}(hp:Pk e p)(hc:c∈(uQ e t r n p).1):Pk e c.Frame.aq:=by
 have hd:∀c∈(trA e t n r p e.List).1,Pk e c.Frame.aq:=λc hc=>by
  obtain⟨a,_,rfl⟩:=List.mem_map.1 hc
  exact aeZ hp (λi hi=>zh hi) _
 unfold uQ at hc
 split at hc
 ·exact hd _ hc
 ·split at hc
  ·exact hd _ hc
  ·rcases List.mem_append.1 hc with hc|hc
   ·exact hd _ hc
   ·rw[List.mem_singleton]at hc
    subst hc
    refine aeZ hp (λi hi=>?_) _
    split at hi
    ·exact ahA hE i hi
    ·rw[tbo,Bool.or_eq_true]at hi
     rcases hi with hi|hi
     ·exact ahA hE i hi
     ·exact zh hi
theorem aqU{e:aC}(hE:Ve e){d:List Int}(hp:Pk e p)(hc:c∈(nI e t r p d).bY):Pk e c.Frame.aq:=by
 obtain⟨x,hx,hxc⟩:=List.mem_flatMap.1 hc
 obtain⟨a,ha,rfl⟩:=List.mem_map.1 hx
 obtain⟨_,_,_,_,s5,s6⟩:=nH ha
 have ht:=(o4.1 hp.v).2.2.2.2.1
 have hg:Pk e (goP e r p):=hp.go hE r s6 (by omega)
 unfold uj at hxc
 split at hxc
 ·exact auI hE hg hxc
 ·rw[List.mem_singleton]at hxc
  subst hxc;exact hg
theorem aqV{e:aC}(hE:Ve e){v:bh}(hp:Pk e v.dA.aq)(hc:c∈(rT e t f v).bY):Pk e c.Frame.aq:=by
 unfold rT at hc
 split at hc
 ·rw[List.mem_singleton]at hc
  subst hc;exact hp
 ·exact aqU hE hp hc
theorem aqW{e:aC}(hE:Ve e){v u:bh}(hp:Pk e v.dA.aq)(hu:u∈qM e t f w v):Pk e u.dA.aq:=by
 obtain⟨c,hc,rfl⟩:=List.mem_map.1 hu
 exact aqV hE hp (List.mem_filter.1 hc).1
theorem ajT{e:aC}(hE:plB e=true)(hv:Vt t)(hp:Pk e p)(hr:r∈ids t)(hf:r∉f.aj):iV e t f p r=some (rU e t f (ig t f) 5000 [bh.mk r (eP.mk [] p)] [] [] []):=by
 have hEv:=(yu.1 hE).1
 have hl:=hEv.small
 have hnr:=hv.nr
 have hw:=yj t f
 unfold iV
 simp only[jn,pI e (show e.List.length≤1000 by omega),hE,aM,oK,fK.2 hv,mU,hp.v,ym t r (by omega),iQ.1 hr,hp.m,hp.l,sA,decide_eq_false hf,xH,decide_true,Bool.and_true,Bool.not_true,cond_false]
 generalize ig t f=w at hw ⊢
 refine Ok.eq (Ok.whl (λsg:Int×(List ay)×(List aQ)×(List aW)×(List aQ)×(List aW)×(List aV)×(List Int)×(List bO)×(List aU)×(List cz)×(List bh)=>match sg with|(m_1,m_2,m_3,m_4,m_5,m_6,m_7,m_8,D,C,L,q)=>(m_1=e.Length∧m_2=e.List∧m_3=t.aj∧m_4=t.Links∧m_5=w.aj∧m_6=w.Links∧m_7=f.Links∧m_8=f.aj)∧rU e t f w 5000 q D C L=rU e t f w 5000 [bh.mk r (eP.mk [] p)] [] [] []∧(∀v∈q,Pk e v.dA.aq)∧C.length≤2000∧q.length≤C.length+1∧∃k:Nat,k+tF q C≤2001∧D.length≤64*k∧L.length≤4161*k) (λsg=>tF sg.2.2.2.2.2.2.2.2.2.2.2 sg.2.2.2.2.2.2.2.2.2.1) ⟨⟨rfl,rfl,rfl,rfl,rfl,rfl,rfl,rfl⟩,rfl,by simpa using hp,by simp,by simp,0,by simp[tF],by simp,by simp⟩ (by show tF [bh.mk r (eP.mk [] p)] []<_;simp[tF]) ?_)
 rintro⟨m_1,m_2,m_3,m_4,m_5,m_6,m_7,m_8,D,C,L,q⟩ Z ⟨⟨rfl,rfl,rfl,rfl,rfl,rfl,rfl,rfl⟩,h1,h2,h3,h4,k,h5,h6,h7⟩ hZ
 dsimp only
 cases q with
 |nil=>
  simp only[List.length_nil,Int.natCast_zero,decide_false,Int.lt_irrefl,cond_false]
  exact⟨_,rfl,h1⟩
 |cons v q=>
  have hpv:=h2 v (by simp)
  rw[decide_eq_true (by simp only[List.length_cons];omega),cond_true]
  have e0:elO (v::q) (0:Int)=some v:=rfl
  simp only[List.length_cons]at h4
  have hk:k≤2001:=by omega
  rw[e0,aM,zk,aM]
  refine Ok.bnd (P:=λd=>d=dy.mk e t w f (cC.mk (D++wJ e v) (C++oH e t f w v) (L++wK e t f w v)) (q++qM e t f w v)) ⟨_,agC (e:=e) (t:=t) (f:=f) (w:=w) hE hv hw (D:=D) (C:=C) (L:=L) (Q:=q) (by omega) h3 (by omega) (by omega) v hpv,rfl⟩ λd hd=>?_
  subst hd
  dsimp only
  have agx:rU e t f w 5000 (v::q) D C L=if 2000<(C++oH e t f w v).length then(cC.mk [] [] [],11)else rU e t f w 4999 (q++qM e t f w v) (D++wJ e v) (C++oH e t f w v) (L++wK e t f w v):=rfl
  by_cases hb:2000<(C++oH e t f w v).length
  ·rw[decide_eq_true (by omega),cond_true]
   refine⟨_,rfl,?_⟩
   rw[←h1,agx,if_pos hb]
  ·rw[decide_eq_false (by omega),cond_false]
   have hless:=aeX (e:=e) (t:=t) (f:=f) (w:=w) (q:=q) hb
   have aiA:rU e t f w 4999 (q++qM e t f w v) (D++wJ e v) (C++oH e t f w v) (L++wK e t f w v)=rU e t f w 5000 (q++qM e t f w v) (D++wJ e v) (C++oH e t f w v) (L++wK e t f w v):=
    abH _ _ _ _ _ _ (by omega) (by omega)
   have hq2:=aeh w v.cm (rT e t f v).bY
   have hD:=amh hEv v
   have hl1:=agB e t f v
   have hl2:=ahz w v.cm (rT e t f v).bY
   have hl3:=amg hEv t f v
   refine hZ _ ⟨⟨rfl,rfl,rfl,rfl,rfl,rfl,rfl,rfl⟩,?_,λu hu=>?_,(show(C++oH e t f w v).length≤2000 by omega),?_,k+1,?_,?_,?_⟩ hless
   ·rw[←h1,agx,if_neg hb,aiA]
   ·rcases List.mem_append.1 hu with hu|hu
    ·exact h2 u (by simp[hu])
    ·exact aqW hEv hpv hu
   ·show(q++qM e t f w v).length≤(C++oH e t f w v).length+1
    unfold qM oH
    rw[List.length_append,List.length_append];omega
   ·show k+1+tF (q++qM e t f w v) (C++oH e t f w v)≤2001
    omega
   ·rw[List.length_append];omega
   ·show(L++(zl e t f v++sLo w v.cm (rT e t f v).bY)).length≤4161*(k+1)
    rw[List.length_append,List.length_append];omega
noncomputable def aaK(e:aC)(t:aa)(f:bF)(p:aH)(r:Int):cC×Int:=
 if plB e=true∧eU t=0∧l9 p=true then(if r∈ids t then(if lW e p=0 then(if r∈f.aj then(cC.mk [] [] [cz.mk r p.Bits],0)else rU e t f (ig t f) 5000 [bh.mk r (eP.mk [] p)] [] [] [])else(cC.mk [] [] [],lW e p))else(cC.mk [] [] [],4))else(cC.mk [] [] [],1)
theorem zx(e:aC)(t:aa)(f:bF)(p:aH)(r:Int)(hl:e.List.length≤1000)(hr:t.aj.length≤1000):iV e t f p r=some (aaK e t f p r):=by
 by_cases h:plB e=true∧eU t=0∧l9 p=true
 rotate_left
 ·unfold aaK iV
  rw[if_neg h]
  simp only[jn,pI e hl,aM,oK,mU]
  cases h1:plB e
  ·rfl
  ·by_cases h2:eU t=0
   ·have h3:l9 p=false:=by cases hp:l9 p;rfl;exact absurd ⟨h1,h2,hp⟩ h
    simp[h2,h3]
   ·simp[h2]
 obtain⟨h1,h2,h3⟩:=h
 by_cases hid:r∈ids t
 rotate_left
 ·have hh:hasB t r=false:=by cases hb:hasB t r;rfl;exact absurd (iQ.2 hb) hid
  unfold iV aaK
  simp only[jn,pI e hl,h1,aM,oK,h2,mU,h3,ym t r (by omega),hh,decide_true,Bool.and_false,Bool.not_true,cond_false,Bool.not_false,cond_true,and_self,if_true,if_neg hid]
 by_cases hs:lW e p=0
 rotate_left
 ·unfold iV aaK
  simp only[jn,pI e hl,h1,aM,oK,h2,mU,h3,ym t r (by omega),iQ.1 hid,decide_true,Bool.and_true,Bool.not_true,cond_false,and_self,if_true,if_pos hid,if_neg hs]
  unfold lW at hs ⊢
  by_cases g1:p.Mode=2
  ·by_cases g2:p.Length=e.Length
   ·rw[if_pos g1,if_pos g2]at hs;exact absurd rfl hs
   ·simp[g1,g2]
  ·simp[g1]
 have hpk:=aiB h3 hs
 by_cases hf:r∈f.aj
 ·unfold iV aaK
  simp only[jn,pI e hl,h1,aM,oK,h2,mU,h3,ym t r (by omega),iQ.1 hid,hpk.m,hpk.l,sA,decide_eq_true hf,decide_true,Bool.and_true,Bool.not_true,cond_false,cond_true,and_self,if_true,if_pos hid,if_pos hs,if_pos hf]
 ·rw[ajT h1 (fK.1 h2) hpk hid hf]
  unfold aaK
  rw[if_pos ⟨h1,h2,h3⟩,if_pos hid,if_pos hs,if_neg hf]
end Go.Proofs.YtdjeacigeegklaaGreat
