/- Plain: what a run with acU comes to. No condition but bO bx stand in each. -/
import Derived.Test.YtdjeacigeegklaaGreatPYQ
namespace Go.Proofs.YtdjeacigeegklaaGreat
set_option linter.all false
open Go
noncomputable def mS(e:aF)(t:aa)(f:aO)(v:bg):cg:=match v.dn.dZ with
 |x::l=>cg.mk 0 0 [bh.mk x (dP.mk l v.dn.ay)]
 |[]=>kW e t v.fu v.dn.ay (dnT t f v.fu)
def qU(e:aF)(v:bg):List bW:=match v.dn.dZ with
 |_::_=>[]
 |[]=>mq e v.fu v.dn.ay
noncomputable def tw(e:aF)(t:aa)(f:aO)(v:bg):List cC:=if(mS e t f v).gw=0 then[]else[cC.mk v.fu (mS e t f v).gw]
def okC(w:aa)(r:Int)(c:bh):Bool:=mm w r c.To
def sCr(w:aa)(r:Int)(l:List bh):List ck:=(l.filter (okC w r)).map λc=>ck.mk r c.To c.Frame.ay.Bits
def sQu(w:aa)(r:Int)(l:List bh):List bg:=(l.filter (okC w r)).map λc=>bg.mk c.To c.Frame
def sLo(w:aa)(r:Int)(l:List bh):List cC:=(l.filter λc=>!okC w r c).map λc=>cC.mk r c.Frame.ay.Bits
noncomputable def kQ(e:aF)(t:aa)(f:aO)(w:aa)(v:bg):List ck:=sCr w v.fu (mS e t f v).bz
noncomputable def nZ(e:aF)(t:aa)(f:aO)(w:aa)(v:bg):List bg:=sQu w v.fu (mS e t f v).bz
noncomputable def uV(e:aF)(t:aa)(f:aO)(w:aa)(v:bg):List cC:=tw e t f v++sLo w v.fu (mS e t f v).bz
noncomputable def nj(e:aF)(t:aa)(f:aO)(w:aa):Nat→List bg→List bW→List ck→List cC→dy×Int
 |0,_,_,_,_=>(dy.mk [] [] [],11)
 |_+1,[],D,C,L=>(dy.mk D C L,0)
 |n+1,v::q,D,C,L=>if 2000<(C++kQ e t f w v).length then(dy.mk [] [] [],11)else nj e t f w n (q++nZ e t f w v) (D++qU e v) (C++kQ e t f w v) (L++uV e t f w v)
theorem yq(w:aa)(r:Int)(l:List bh):(sQu w r l).length=(sCr w r l).length:=by unfold sQu sCr;rw[List.length_map,List.length_map]
theorem aa0(w:aa)(r:Int)(l:List bh):(sLo w r l).length≤l.length:=by unfold sLo;rw[List.length_map];exact List.length_filter_le _ _
theorem agS(w:aa)(r:Int)(l:List bh):(sCr w r l).length≤l.length:=by unfold sCr;rw[List.length_map];exact List.length_filter_le _ _
def mY(q:List bg)(C:List ck):Nat:=q.length+(2000-C.length)
variable {f:aO}{t w:aa}
theorem aar{e:aF}{v:bg}{q:List bg}{C:List ck}(h:¬2000<(C++kQ e t f w v).length):mY (q++nZ e t f w v) (C++kQ e t f w v)<mY (v::q) C:=by
 have:=yq w v.fu (mS e t f v).bz
 unfold mY nZ
 unfold kQ at h ⊢
 rw[List.length_append]at h ⊢
 rw[List.length_append,List.length_cons]
 omega
theorem xV{e:aF}{t:aa}{f:aO}{w:aa}:∀(n m:Nat) (q:List bg) (D:List bW) (C:List ck) (L:List cC),mY q C<n→mY q C<m→nj e t f w n q D C L=nj e t f w m q D C L
 |0,_,_,_,_,_,h,_=>by omega
 |_,0,_,_,_,_,_,h=>by omega
 |n+1,m+1,[],D,C,L,_,_=>rfl
 |n+1,m+1,v::q,D,C,L,h1,h2=>by
  rw[nj,nj]
  split
  ·rfl
  ·rename_i hc
   have:=aar (e:=e) (t:=t) (f:=f) (w:=w) (q:=q) hc
   exact xV n m _ _ _ _ (by omega) (by omega)
theorem afP(w:aa)(r:Int)(q:List bh)(x:bh):sCr w r (q++[x])=sCr w r q++if okC w r x=true then[ck.mk r x.To x.Frame.ay.Bits]else[]:=by
 unfold sCr
 rw[List.filter_append,List.map_append]
 cases h:okC w r x<;>simp[List.filter_cons,h]
theorem afQ(w:aa)(r:Int)(q:List bh)(x:bh):sQu w r (q++[x])=sQu w r q++if okC w r x=true then[bg.mk x.To x.Frame]else[]:=by
 unfold sQu
 rw[List.filter_append,List.map_append]
 cases h:okC w r x<;>simp[List.filter_cons,h]
theorem afR(w:aa)(r:Int)(q:List bh)(x:bh):sLo w r (q++[x])=sLo w r q++if okC w r x=true then[]else[cC.mk r x.Frame.ay.Bits]:=by
 unfold sLo
 rw[List.filter_append,List.map_append]
 cases h:okC w r x<;>simp[List.filter_cons,h]
def mT(e:aF)(t:aa)(f:aO)(w:aa)(D:List bW)(C:List ck)(L:List cC)(Q:List bg)(r:Int)(q:List bh):dh:=
 dh.mk e t w f (dy.mk D (C++sCr w r q) (L++sLo w r q)) (Q++sQu w r q)
variable {L:List cC}{Q:List bg}
theorem acX{e:aF}{D:List bW}{C:List ck}(hw:Vt w)(hC:C.length≤100000000)(hL:L.length≤100000000)(hQ:Q.length≤100000000)(r:Int)(q:List bh)(hq:q.length≤100000)(x:bh):
  gJ (mT e t f w D C L Q r q) r x=some (mT e t f w D C L Q r (q++[x])):=by
 have hnl:=hw.nl
 have h1:=agS w r q
 have h2:=aa0 w r q
 have h3:=yq w r q
 unfold gJ mT
 dsimp only
 rw[akY w r x.To (by omega),aN,if_pos (gE.2 hw),aai,afP,afQ,afR]
 show(bif !okC w r x then _ else _)=_
 cases hx:okC w r x
 ·rw[Bool.not_false,cond_true,jS (by simp;omega),aN]
  simp
 ·rw[Bool.not_true,cond_false,jS (by simp;omega),aN,jS (by simp;omega),aN]
  simp
theorem aej{e:aF}(hE:Ve e)(t:aa)(r:Int)(p:aH)(d:List Int):(kW e t r p d).bz.length≤65*64:=by
 have hs:=hE.small
 have hcl:(ni e r p).bz.length≤64:=by
  show((uF e r p).map _).length≤64
  rw[List.length_map];exact Nat.le_trans (List.length_filter_le _ _) hs
 have:=agO e t r d (ni e r p).bz
 have h2:(e.List.length+1)*(ni e r p).bz.length≤65*64:=Nat.mul_le_mul (by omega) hcl
 unfold kW
 dsimp only
 omega
theorem afS{e:aF}(hE:Ve e)(t:aa)(f:aO)(v:bg):(mS e t f v).bz.length≤4160:=by
 unfold mS
 split
 ·simp
 ·exact aej hE _ _ _ _
theorem abW(e:aF)(t:aa)(f:aO)(v:bg):(tw e t f v).length≤1:=by unfold tw;split<;>simp
theorem afT{e:aF}(hE:Ve e)(v:bg):(qU e v).length≤64:=by
 unfold qU
 split
 ·simp
 ·unfold mq;rw[List.length_map];exact Nat.le_trans (List.length_filter_le _ _) hE.small
variable {p:aH}
theorem ai6{e:aF}(hE:plB e=true)(ht:Vt t)(hp:Pk e p)(r:Int)(d:List Int):pfT e t r p d=(kW e t r p d,0):=by
 unfold pfT
 have hfw:qq e r p=(ni e r p,0):=by
  unfold qq;rw[if_pos (tu.2 (vF.1 hE).1),hp.v,hp.amE];rfl
 rw[hfw,if_pos rfl,if_pos ⟨hE,gE.2 ht⟩]
theorem afU{e:aF}(hE:plB e=true)(ht:Vt t)(hw:Vt w){D:List bW}{C:List ck}(hD:D.length≤900000)(hC:C.length≤2000)(hL:L.length≤90000000)(hQ:Q.length≤800000)(v:bg)(hv:Pk e v.dn.ay):
  ji (dh.mk e t w f (dy.mk D C L) Q) v=some (dh.mk e t w f (dy.mk (D++qU e v) (C++kQ e t f w v) (L++uV e t f w v)) (Q++nZ e t f w v)):=by
 obtain⟨r,⟨R,p⟩⟩:=v
 have hv:Pk e p:=hv
 have hEv:=(vF.1 hE).1
 unfold ji
 cases R with
 |cons x l=>
  have e0:elO (x::l) (0:Int)=some x:=rfl
  dsimp only
  rw[decide_eq_true (by simp only[List.length_cons];omega),cond_true,e0,aN,wR,aN]
  have:=acX (e:=e) (t:=t) (f:=f) (D:=D) (C:=C) (L:=L) (Q:=Q) hw (by omega) (by omega) (by omega) r [] (by simp) (bh.mk x (dP.mk l p))
  have e1:mT e t f w D C L Q r []=dh.mk e t w f (dy.mk D C L) Q:=by simp[mT,sCr,sLo,sQu]
  rw[e1]at this
  rw[this,aN]
  simp[mT,kQ,nZ,uV,tw,qU,mS]
 |nil=>
  dsimp only
  rw[decide_eq_false (by simp),cond_false,afO,aN,uT e t r p _ (by have:=hEv.small;omega),ai6 hE ht hv,aN]
  refine(alm (e:=e) (r:=r) (p:=p) hEv hv.v (D:=D) (by omega)).trans ?_
  have ahZ:∀(J:List cC→Option dh),(bif !decide ((kW e t r p (dnT t f r)).gw=(0:Int))then bnd (dx L ([(cC.mk r (kW e t r p (dnT t f r)).gw)]:List cC)) λ(l_2:List cC)=>J l_2 else J L)=J (L++tw e t f (bg.mk r (dP.mk [] p))):=λJ=>by
   unfold tw
   show _=J (L++if(kW e t r p (dnT t f r)).gw=0 then[]else[cC.mk r (kW e t r p (dnT t f r)).gw])
   by_cases hz:(kW e t r p (dnT t f r)).gw=0
   ·rw[decide_eq_true hz,if_pos hz];simp
   ·rw[decide_eq_false hz,if_neg hz]
    simp only[Bool.not_false,cond_true]
    rw[jS (by simp;omega),aN]
  unfold jn
  refine(ahZ _).trans ?_
  have hlo:=abW e t f (bg.mk r (dP.mk [] p))
  have hcl:=aej hEv t r p (dnT t f r)
  generalize hL':L++tw e t f (bg.mk r (dP.mk [] p))=L'
  have hLl:L'.length≤90000001:=by rw[←hL',List.length_append];omega
  have fin:some (dh.mk e t w f (dy.mk (D++qU e (bg.mk r (dP.mk [] p))) (C++kQ e t f w (bg.mk r (dP.mk [] p))) (L++uV e t f w (bg.mk r (dP.mk [] p)))) (Q++nZ e t f w (bg.mk r (dP.mk [] p))))=some (mT e t f w (D++mq e r p) C L' Q r (kW e t r p (dnT t f r)).bz):=by
   unfold uV mT
   rw[←List.append_assoc,hL'];rfl
  rw[fin]
  refine jM (L:=(kW e t r p (dnT t f r)).bz) (λq sg=>sg=((mT e t f w (D++mq e r p) C L' Q r q).cz.Length,(mT e t f w (D++mq e r p) C L' Q r q).cz.List,(mT e t f w (D++mq e r p) C L' Q r q).dg.ah,(mT e t f w (D++mq e r p) C L' Q r q).dg.Links,(mT e t f w (D++mq e r p) C L' Q r q).ez.ah,(mT e t f w (D++mq e r p) C L' Q r q).ez.Links,(mT e t f w (D++mq e r p) C L' Q r q).cH.Links,(mT e t f w (D++mq e r p) C L' Q r q).cH.ah,(mT e t f w (D++mq e r p) C L' Q r q).cR.cG,(mT e t f w (D++mq e r p) C L' Q r q).cR.cr,(mT e t f w (D++mq e r p) C L' Q r q).cR.dR,(mT e t f w (D++mq e r p) C L' Q r q).iZ)) (λ_ _=>some (mT e t f w (D++mq e r p) C L' Q r (kW e t r p (dnT t f r)).bz)) (λs hs=>by rw[hs]) (λq x rest s Z h hi hZ=>?_) _ [] _ rfl (by simp[mT,sCr,sLo,sQu])
  subst hi
  have hql:q.length≤4160:=by
   have:(kW e t r p (dnT t f r)).bz.length=q.length+(rest.length+1):=by rw[←h];simp
   omega
  have hs:=acX (e:=e) (t:=t) (f:=f) (D:=D++mq e r p) (C:=C) (L:=L') (Q:=Q) hw (by omega) (by omega) (by omega) r q (by omega) x
  show bnd (gJ (mT e t f w (D++mq e r p) C L' Q r q) r x) _=_
  rw[hs,aN]
  exact hZ _ rfl
theorem aek{e:aF}(hp:Pk e p){b:Int}(hb:∀i,tbi b i=true→tbi p.Bits i=true)(l:List Int):Pk e (uG p b l).Frame.ay:=by
 cases l with
 |nil=>exact hp
 |cons x l=>exact hp.bits b hb
theorem aga{l:List az}(h:∀a∈l,(0≤a.Bit∧a.Bit<64)∧tbi p.Bits a.Bit.toNat=true):∀(s:Int),(∀i,tbi s i=true→tbi p.Bits i=true)→∀i,tbi (l.foldl orA s) i=true→tbi p.Bits i=true:=by
 induction l with
 |nil=>intro s hs;exact hs
 |cons a l ih=>
  intro s hs
  rw[List.foldl_cons]
  refine ih (λx hx=>h x (by simp[hx])) _ λi hi=>?_
  obtain⟨hb,ht⟩:=h a (by simp)
  unfold orA adz at hi
  rw[tbo,ue a.Bit.toNat i (by omega),Bool.or_eq_true,decide_eq_true_eq]at hi
  rcases hi with hi|rfl
  ·exact hs i hi
  ·exact ht
variable {r:Int}
theorem agT{e:aF}(hE:Ve e){n:Int}:∀i,tbi (trA e t n r p e.List).2.1 i=true→tbi p.Bits i=true:=by
 refine aga (λa ha=>?_) 0 (λi hi=>by rw[qA]at hi;cases hi)
 obtain⟨h1,h2⟩:=List.mem_filter.1 ha
 refine⟨hE.bit h1,?_⟩
 have:lZ n p a=true:=by
  simp only[aaq,tv,Bool.or_eq_true,Bool.and_eq_true]at h2
  rcases h2 with h2|h2
  ·exact h2.1
  ·exact h2.1.1.1
 simp only[lZ,Bool.and_eq_true]at this
 exact this.2
variable {c:bh}
theorem atL{e:aF}(hE:Ve e){n:Int}(hp:Pk e p)(hc:c∈(uS e t r n p).1):Pk e c.Frame.ay:=by
 have hd:∀c∈(trA e t n r p e.List).1,Pk e c.Frame.ay:=λc hc=>by
  obtain⟨a,_,rfl⟩:=List.mem_map.1 hc
  exact aek hp (λi hi=>abS hi) _
 unfold uS at hc
 split at hc
 ·exact hd _ hc
 ·split at hc
  ·exact hd _ hc
  ·rcases List.mem_append.1 hc with hc|hc
   ·exact hd _ hc
   ·rw[List.mem_singleton]at hc
    subst hc
    refine aek hp (λi hi=>?_) _
    split at hi
    ·exact agT hE i hi
    ·rw[tbo,Bool.or_eq_true]at hi
     rcases hi with hi|hi
     ·exact agT hE i hi
     ·exact abS hi
theorem apW{e:aF}(hE:Ve e){d:List Int}(hp:Pk e p)(hc:c∈(kW e t r p d).bz):Pk e c.Frame.ay:=by
 obtain⟨x,hx,hxc⟩:=List.mem_flatMap.1 hc
 obtain⟨a,ha,rfl⟩:=List.mem_map.1 hx
 obtain⟨_,_,_,_,s5,s6⟩:=aei ha
 have ht:=(uj.1 hp.v).2.2.2.2.1
 have hg:Pk e (goP e r p):=hp.go hE r s6 (by omega)
 unfold wS at hxc
 split at hxc
 ·exact atL hE hg hxc
 ·rw[List.mem_singleton]at hxc
  subst hxc;exact hg
theorem apX{e:aF}(hE:Ve e){v:bg}(hp:Pk e v.dn.ay)(hc:c∈(mS e t f v).bz):Pk e c.Frame.ay:=by
 unfold mS at hc
 split at hc
 ·rw[List.mem_singleton]at hc
  subst hc;exact hp
 ·exact apW hE hp hc
theorem agU{e:aF}(hE:Ve e){v u:bg}(hp:Pk e v.dn.ay)(hu:u∈nZ e t f w v):Pk e u.dn.ay:=by
 obtain⟨c,hc,rfl⟩:=List.mem_map.1 hu
 exact apX hE hp (List.mem_filter.1 hc).1
theorem ai7{e:aF}(hE:plB e=true)(hv:Vt t)(hp:Pk e p)(hr:r∈ids t)(hf:r∉f.ah):jo e t f p r=some (nj e t f (iV t f) 5000 [bg.mk r (dP.mk [] p)] [] [] []):=by
 have hEv:=(vF.1 hE).1
 have hl:=hEv.small
 have hnr:=hv.nr
 have hw:=tZ t f
 unfold jo
 simp only[jn,nX e (show e.List.length≤1000 by omega),hE,aN,oQ,gE.2 hv,mR,hp.v,yj t r (by omega),gH.1 hr,hp.m,hp.l,su,decide_eq_false hf,xP,decide_true,Bool.and_true,Bool.not_true,cond_false]
 generalize iV t f=w at hw ⊢
 refine Ok.eq (Ok.whl (λsg:Int×(List az)×(List aQ)×(List bn)×(List aQ)×(List bn)×(List bU)×(List Int)×(List bW)×(List ck)×(List cC)×(List bg)=>match sg with|(m_1,m_2,m_3,m_4,m_5,m_6,m_7,m_8,D,C,L,q)=>(m_1=e.Length∧m_2=e.List∧m_3=t.ah∧m_4=t.Links∧m_5=w.ah∧m_6=w.Links∧m_7=f.Links∧m_8=f.ah)∧nj e t f w 5000 q D C L=nj e t f w 5000 [bg.mk r (dP.mk [] p)] [] [] []∧(∀v∈q,Pk e v.dn.ay)∧C.length≤2000∧q.length≤C.length+1∧∃k:Nat,k+mY q C≤2001∧D.length≤64*k∧L.length≤4161*k) (λsg=>mY sg.2.2.2.2.2.2.2.2.2.2.2 sg.2.2.2.2.2.2.2.2.2.1) ⟨⟨rfl,rfl,rfl,rfl,rfl,rfl,rfl,rfl⟩,rfl,by simpa using hp,by simp,by simp,0,by simp[mY],by simp,by simp⟩ (by show mY [bg.mk r (dP.mk [] p)] []<_;simp[mY]) ?_)
 rintro⟨m_1,m_2,m_3,m_4,m_5,m_6,m_7,m_8,D,C,L,q⟩ Z ⟨⟨rfl,rfl,rfl,rfl,rfl,rfl,rfl,rfl⟩,h1,h2,h3,h4,k,h5,h6,h7⟩ hZ
 dsimp only
 cases q with
 |nil=>
  simp only[List.length_nil,Int.natCast_zero,decide_false,Int.lt_irrefl,cond_false]
  exact⟨_,rfl,h1⟩
 |cons v q=>
  have hpv:=h2 v (by simp)
  rw[decide_eq_true (by simp only[List.length_cons];omega),cond_true]
  have e0:elO (v::q) (0:Int)=some v:=rfl
  simp only[List.length_cons]at h4
  have hk:k≤2001:=by omega
  rw[e0,aN,wR,aN]
  refine Ok.bnd (P:=λd=>d=dh.mk e t w f (dy.mk (D++qU e v) (C++kQ e t f w v) (L++uV e t f w v)) (q++nZ e t f w v)) ⟨_,afU (e:=e) (t:=t) (f:=f) (w:=w) hE hv hw (D:=D) (C:=C) (L:=L) (Q:=q) (by omega) h3 (by omega) (by omega) v hpv,rfl⟩ λd hd=>?_
  subst hd
  dsimp only
  have afV:nj e t f w 5000 (v::q) D C L=if 2000<(C++kQ e t f w v).length then(dy.mk [] [] [],11)else nj e t f w 4999 (q++nZ e t f w v) (D++qU e v) (C++kQ e t f w v) (L++uV e t f w v):=rfl
  by_cases hb:2000<(C++kQ e t f w v).length
  ·rw[decide_eq_true (by omega),cond_true]
   refine⟨_,rfl,?_⟩
   rw[←h1,afV,if_pos hb]
  ·rw[decide_eq_false (by omega),cond_false]
   have hless:=aar (e:=e) (t:=t) (f:=f) (w:=w) (q:=q) hb
   have ah0:nj e t f w 4999 (q++nZ e t f w v) (D++qU e v) (C++kQ e t f w v) (L++uV e t f w v)=nj e t f w 5000 (q++nZ e t f w v) (D++qU e v) (C++kQ e t f w v) (L++uV e t f w v):=
    xV _ _ _ _ _ _ (by omega) (by omega)
   have hq2:=yq w v.fu (mS e t f v).bz
   have hD:=afT hEv v
   have hl1:=abW e t f v
   have hl2:=aa0 w v.fu (mS e t f v).bz
   have hl3:=afS hEv t f v
   refine hZ _ ⟨⟨rfl,rfl,rfl,rfl,rfl,rfl,rfl,rfl⟩,?_,λu hu=>?_,(show(C++kQ e t f w v).length≤2000 by omega),?_,k+1,?_,?_,?_⟩ hless
   ·rw[←h1,afV,if_neg hb,ah0]
   ·rcases List.mem_append.1 hu with hu|hu
    ·exact h2 u (by simp[hu])
    ·exact agU hEv hpv hu
   ·show(q++nZ e t f w v).length≤(C++kQ e t f w v).length+1
    unfold nZ kQ
    rw[List.length_append,List.length_append];omega
   ·show k+1+mY (q++nZ e t f w v) (C++kQ e t f w v)≤2001
    omega
   ·rw[List.length_append];omega
   ·show(L++(tw e t f v++sLo w v.fu (mS e t f v).bz)).length≤4161*(k+1)
    rw[List.length_append,List.length_append];omega
noncomputable def uW(e:aF)(t:aa)(f:aO)(p:aH)(r:Int):dy×Int:=
 if plB e=true∧fC t=0∧nW p=true then(if r∈ids t then(if mo e p=0 then(if r∈f.ah then(dy.mk [] [] [cC.mk r p.Bits],0)else nj e t f (iV t f) 5000 [bg.mk r (dP.mk [] p)] [] [] [])else(dy.mk [] [] [],mo e p))else(dy.mk [] [] [],4))else(dy.mk [] [] [],1)
theorem aep(e:aF)(t:aa)(f:aO)(p:aH)(r:Int)(hl:e.List.length≤1000)(hr:t.ah.length≤1000):jo e t f p r=some (uW e t f p r):=by
 by_cases h:plB e=true∧fC t=0∧nW p=true
 rotate_left
 ·unfold uW jo
  rw[if_neg h]
  simp only[jn,nX e hl,aN,oQ,mR]
  cases h1:plB e
  ·rfl
  ·by_cases h2:fC t=0
   ·have h3:nW p=false:=by cases hp:nW p;rfl;exact absurd ⟨h1,h2,hp⟩ h
    simp[h2,h3]
   ·simp[h2]
 obtain⟨h1,h2,h3⟩:=h
 by_cases hid:r∈ids t
 rotate_left
 ·have hh:hasB t r=false:=by cases hb:hasB t r;rfl;exact absurd (gH.2 hb) hid
  unfold jo uW
  simp only[jn,nX e hl,h1,aN,oQ,h2,mR,h3,yj t r (by omega),hh,decide_true,Bool.and_false,Bool.not_true,cond_false,Bool.not_false,cond_true,and_self,if_true,if_neg hid]
 by_cases hs:mo e p=0
 rotate_left
 ·unfold jo uW
  simp only[jn,nX e hl,h1,aN,oQ,h2,mR,h3,yj t r (by omega),gH.1 hid,decide_true,Bool.and_true,Bool.not_true,cond_false,and_self,if_true,if_pos hid,if_neg hs]
  unfold mo at hs ⊢
  by_cases g1:p.Mode=2
  ·by_cases g2:p.Length=e.Length
   ·rw[if_pos g1,if_pos g2]at hs;exact absurd rfl hs
   ·simp[g1,g2]
  ·simp[g1]
 have hpk:=ahW h3 hs
 by_cases hf:r∈f.ah
 ·unfold jo uW
  simp only[jn,nX e hl,h1,aN,oQ,h2,mR,h3,yj t r (by omega),gH.1 hid,hpk.m,hpk.l,su,decide_eq_true hf,decide_true,Bool.and_true,Bool.not_true,cond_false,cond_true,and_self,if_true,if_pos hid,if_pos hs,if_pos hf]
 ·rw[ai7 h1 (gE.1 h2) hpk hid hf]
  unfold uW
  rw[if_pos ⟨h1,h2,h3⟩,if_pos hid,if_pos hs,if_neg hf]
def cvX(x:cq):bg:=bg.mk x.br x.Frame
def cvH(x:bg):cq:=cq.mk x.fu x.dn
theorem ah1{β:Type}(hw:Vt w){cs:List bh}(hcs:cs.length≤100000){Q:List cq}{C:List ck}(hQ:Q.length≤90000000)(hC:C.length≤90000000)(hL:L.length≤90000000){K:List cq×List ck×List cC→Option β}:
  bJ cs 0 (λ(j2:Int) (e2:bh) (Z2:((List cq)×(List ck)×(List cC))→Option β) (sg:(List cq)×(List ck)×(List cC))=>match sg with|(iq,m_7,m_8)=>jn (λ(sg:(List cq)×(List ck)×(List cC))=>match sg with|(pG,m_9,fI)=>Z2 (pG,m_9,fI)) λJ4=>bnd (mL w r e2.To) λ(iH:Int×Bool)=>bif !iH.2 then bnd (dx m_8 ([(cC.mk r e2.Frame.ay.Bits)]:List cC)) λ(l_4:List cC)=>J4 (iq,m_7,l_4)else bnd (dx m_7 ([(ck.mk r e2.To e2.Frame.ay.Bits)]:List ck)) λ(l_5:List ck)=>bnd (dx iq ([(cq.mk e2.To e2.Frame)]:List cq)) λ(l_6:List cq)=>J4 (l_6,l_5,m_8)) K (Q,C,L)
  = K (Q++(sQu w r cs).map cvH,C++sCr w r cs,L++sLo w r cs):=by
 refine jM (L:=cs) (λq sg=>sg=(Q++(sQu w r q).map cvH,C++sCr w r q,L++sLo w r q)) (λ_ _=>K (Q++(sQu w r cs).map cvH,C++sCr w r cs,L++sLo w r cs)) (λs hs=>by rw[hs]) (λq x rest s Z h hi hZ=>?_) cs [] _ rfl (by simp[sQu,sCr,sLo])
 subst hi
 have hql:q.length≤100000:=by
  have:cs.length=q.length+(rest.length+1):=by rw[←h];simp
  omega
 have h1:=agS w r q
 have h2:=aa0 w r q
 have h3:=yq w r q
 rw[afP,afQ,afR]at hZ
 unfold jn
 dsimp only
 rw[akX w r x.To,aN,if_pos (gE.2 hw),aai]
 show(bif !okC w r x then _ else _)=_
 cases hx:okC w r x
 ·rw[Bool.not_false,cond_true,jS (by simp;omega),aN]
  exact hZ _ (by simp[hx])
 ·rw[Bool.not_true,cond_false,jS (by simp;omega),aN,jS (by simp;omega),aN]
  exact hZ _ (by simp[hx,cvH])
theorem ai8{e:aF}(hE:plB e=true)(hv:Vt t)(hp:Pk e p)(hr:r∈ids t)(hf:r∉f.ah):jq e t f p r=some (nj e t f (iV t f) 5000 [bg.mk r (dP.mk [] p)] [] [] []):=by
 have hEv:=(vF.1 hE).1
 have hl:=hEv.small
 have hnr:=hv.nr
 have hw:=tZ t f
 have hfw:∀(r:Int) (p:aH),Pk e p→qq e r p=(ni e r p,0):=λr p hp=>by
  unfold qq;rw[if_pos (tu.2 hEv),hp.v,hp.amE];rfl
 unfold jq
 simp only[jn,nY e (show e.List.length≤1000 by omega),hE,aN,lF,gE.2 hv,pI,hp.v,vD,gH.1 hr,oh e r p (show e.List.length≤1000 by omega),hfw r p hp,ahK,decide_eq_false hf,xO,decide_true,Bool.and_true,Bool.not_true,cond_false]
 generalize iV t f=w at hw ⊢
 refine Ok.eq (Ok.whl (λsg:List cq×Int×List bW×List ck×List cC=>match sg with|(Q,i,D,C,L)=>nj e t f w 5000 ((Q.drop i.toNat).map cvX) D C L=nj e t f w 5000 [bg.mk r (dP.mk [] p)] [] [] []∧(∀v∈Q,Pk e v.Frame.ay)∧C.length≤2000∧Q.length≤C.length+1∧(0≤i∧i≤Q.length)∧D.length≤64*i.toNat∧L.length≤4161*i.toNat) (λsg=>mY ((sg.1.drop sg.2.1.toNat).map cvX) sg.2.2.2.1) ⟨rfl,by simpa using hp,by simp,by simp,by simp,by simp,by simp⟩ (by show mY [bg.mk r (dP.mk [] p)] []<_;simp[mY]) ?_)
 rintro⟨Q,i,D,C,L⟩ Z ⟨h1,h2,h3,h4,⟨i0,i1⟩,h6,h7⟩ hZ
 dsimp only
 by_cases hi:i<(Q.length:Int)
 rotate_left
 ·rw[decide_eq_false hi,cond_false]
  have:Q.drop i.toNat=[]:=List.drop_of_length_le (by omega)
  rw[this]at h1
  exact⟨_,rfl,h1⟩
 rw[decide_eq_true hi,cond_true]
 obtain⟨v,hv1,hvm,hv2⟩:=(jJ i0 hi)
 rw[hv1,aN]
 have hpv:=h2 v hvm
 have amF:Q.drop i.toNat=v::Q.drop (i.toNat+1):=by
  obtain⟨hlt,he⟩:=List.getElem?_eq_some_iff.1 hv2
  rw[List.drop_eq_getElem_cons hlt,he]
 have hcl:=afS hEv t f (cvX v)
 have hDl:=afT hEv (cvX v)
 have hl1:=abW e t f (cvX v)
 have hl2:=aa0 w v.br (mS e t f (cvX v)).bz
 have hq2:=yq w v.br (mS e t f (cvX v)).bz
 have main:Ok ((λ(sg:(List bh)×(List bW)×(List cC))=>match sg with|(gZ,m_4,m_5)=>bJ gZ 0 (λ(j2:Int) (e2:bh) (Z2:((List cq)×(List ck)×(List cC))→Option (dy×Int)) (sg:(List cq)×(List ck)×(List cC))=>match sg with|(iq,m_7,m_8)=>jn (λ(sg:(List cq)×(List ck)×(List cC))=>match sg with|(pG,m_9,fI)=>Z2 (pG,m_9,fI)) λJ4=>bnd (mL w v.br e2.To) λ(iH:Int×Bool)=>bif !iH.2 then bnd (dx m_8 ([(cC.mk v.br e2.Frame.ay.Bits)]:List cC)) λ(l_4:List cC)=>J4 (iq,m_7,l_4)else bnd (dx m_7 ([(ck.mk v.br e2.To e2.Frame.ay.Bits)]:List ck)) λ(l_5:List ck)=>bnd (dx iq ([(cq.mk e2.To e2.Frame)]:List cq)) λ(l_6:List cq)=>J4 (l_6,l_5,m_8)) (λ(sg:(List cq)×(List ck)×(List cC))=>match sg with|(iq,m_7,m_8)=>bif decide ((2000:Int)<(m_7.length:Int))then some ((dy.mk [] [] []),(11:Int))else Z (iq,w64 (i+(1:Int)),m_4,m_7,m_8)) (Q,C,m_5)) ((mS e t f (cvX v)).bz,D++qU e (cvX v),L++tw e t f (cvX v))) (λx=>x=nj e t f w 5000 [bg.mk r (dP.mk [] p)] [] [] []):=by
  dsimp only
  refine Eq.subst (motive:=λz=>Ok z _) (ah1 (w:=w) hw (r:=v.br) (cs:=(mS e t f (cvX v)).bz) (by omega) (Q:=Q) (C:=C) (L:=L++tw e t f (cvX v)) (by omega) (by omega) (by rw[List.length_append];omega)).symm ?_
  dsimp only
  have afV:nj e t f w 5000 (cvX v::(Q.drop (i.toNat+1)).map cvX) D C L=if 2000<(C++kQ e t f w (cvX v)).length then(dy.mk [] [] [],11)else nj e t f w 4999 ((Q.drop (i.toNat+1)).map cvX++nZ e t f w (cvX v)) (D++qU e (cvX v)) (C++kQ e t f w (cvX v)) (L++uV e t f w (cvX v)):=rfl
  rw[amF,List.map_cons]at h1
  show Ok (bif decide ((2000:Int)<((C++kQ e t f w (cvX v)).length:Int))then _ else _) _
  by_cases hb:2000<(C++kQ e t f w (cvX v)).length
  ·rw[decide_eq_true (by omega),cond_true]
   refine⟨_,rfl,?_⟩
   rw[←h1,afV,if_pos hb]
  ·rw[decide_eq_false (by omega),cond_false]
   have hless:=aar (e:=e) (t:=t) (f:=f) (w:=w) (q:=(Q.drop (i.toNat+1)).map cvX) hb
   have hm5:mY (cvX v::(Q.drop (i.toNat+1)).map cvX) C≤4002:=by
    unfold mY
    rw[List.length_cons,List.length_map,List.length_drop];omega
   have ah0:nj e t f w 4999 ((Q.drop (i.toNat+1)).map cvX++nZ e t f w (cvX v)) (D++qU e (cvX v)) (C++kQ e t f w (cvX v)) (L++uV e t f w (cvX v))=nj e t f w 5000 ((Q.drop (i.toNat+1)).map cvX++nZ e t f w (cvX v)) (D++qU e (cvX v)) (C++kQ e t f w (cvX v)) (L++uV e t f w (cvX v)):=
    xV _ _ _ _ _ _ (by omega) (by omega)
   have ei:w64 (i+1)=i+1:=iM (by omega) (by omega)
   have ein:(i+1).toNat=i.toNat+1:=by omega
   have amG:((Q++(nZ e t f w (cvX v)).map cvH).drop (i.toNat+1)).map cvX=(Q.drop (i.toNat+1)).map cvX++nZ e t f w (cvX v):=by
    rw[List.drop_append_of_le_length (by omega),List.map_append,List.map_map]
    congr 1
    exact List.map_id' _
   rw[ei]
   refine hZ _ ⟨?_,λu hu=>?_,(show(C++kQ e t f w (cvX v)).length≤2000 by omega),?_,⟨by omega,?_⟩,?_,?_⟩ ?_
   ·show nj e t f w 5000 (((Q++(nZ e t f w (cvX v)).map cvH).drop (i+1).toNat).map cvX) (D++qU e (cvX v)) (C++kQ e t f w (cvX v)) (L++tw e t f (cvX v)++sLo w v.br (mS e t f (cvX v)).bz)=_
    rw[ein,amG,←h1,afV,if_neg hb,ah0,List.append_assoc];rfl
   ·rcases List.mem_append.1 hu with hu|hu
    ·exact h2 u hu
    ·obtain⟨x,hx,rfl⟩:=List.mem_map.1 hu
     exact agU (t:=t) (f:=f) (w:=w) (v:=cvX v) hEv hpv hx
   ·show(Q++(sQu w v.br (mS e t f (cvX v)).bz).map cvH).length≤(C++sCr w v.br (mS e t f (cvX v)).bz).length+1
    rw[List.length_append,List.length_append,List.length_map];omega
   ·show i+1≤((Q++(sQu w v.br (mS e t f (cvX v)).bz).map cvH).length:Int)
    rw[List.length_append];omega
   ·rw[ein,List.length_append];omega
   ·rw[ein]
    show(L++tw e t f (cvX v)++sLo w v.br (mS e t f (cvX v)).bz).length≤4161*(i.toNat+1)
    rw[List.length_append,List.length_append];omega
   ·show mY (((Q++(nZ e t f w (cvX v)).map cvH).drop (i+1).toNat).map cvX) (C++kQ e t f w (cvX v))<mY ((Q.drop i.toNat).map cvX) C
    rw[ein,amG,amF,List.map_cons];exact hless
 unfold jn at main
 obtain⟨vr,⟨R,vp⟩⟩:=v
 have hpv:Pk e vp:=hpv
 cases R with
 |cons x l=>
  have e0:elO (x::l) (0:Int)=some x:=rfl
  dsimp only
  rw[decide_eq_true (by simp only[List.length_cons];omega),cond_true,e0,aN,wR,aN]
  have e1:qU e (cvX (cq.mk vr (dP.mk (x::l) vp)))=[]:=rfl
  have e2:tw e t f (cvX (cq.mk vr (dP.mk (x::l) vp)))=[]:=rfl
  rw[e1,e2,List.append_nil,List.append_nil]at main
  exact main
 |nil=>
  have hDl':(mq e vr vp).length≤64:=hDl
  dsimp only
  rw[decide_eq_false (by simp),cond_false,ahY,aN,uU e t vr vp _ (by omega),ai6 hE hv hpv,aN]
  have ed:jh vr (kW e t vr vp (dnT t f vr)).Local vp=some (mq e vr vp):=abT hEv vr vp
  dsimp only
  rw[ed,aN,jS (by omega),aN]
  have ahZ:∀(J:List cC→Option (dy×Int)),(bif !decide ((kW e t vr vp (dnT t f vr)).gw=(0:Int))then bnd (dx L ([(cC.mk vr (kW e t vr vp (dnT t f vr)).gw)]:List cC)) λ(l_2:List cC)=>J l_2 else J L)=J (L++tw e t f (cvX (cq.mk vr (dP.mk [] vp)))):=λJ=>by
   show _=J (L++if(kW e t vr vp (dnT t f vr)).gw=0 then[]else[cC.mk vr (kW e t vr vp (dnT t f vr)).gw])
   by_cases hz:(kW e t vr vp (dnT t f vr)).gw=0
   ·rw[decide_eq_true hz,if_pos hz];simp
   ·rw[decide_eq_false hz,if_neg hz]
    simp only[Bool.not_false,cond_true]
    rw[jS (by simp;omega),aN]
  refine Eq.subst (motive:=λz=>Ok z _) (ahZ _).symm ?_
  exact main
theorem aeq(e:aF)(t:aa)(f:aO)(p:aH)(r:Int)(hl:e.List.length≤1000):jq e t f p r=some (uW e t f p r):=by
 by_cases h:plB e=true∧fC t=0∧nW p=true
 rotate_left
 ·unfold uW jq
  rw[if_neg h]
  simp only[jn,nY e hl,aN,lF,pI]
  cases h1:plB e
  ·rfl
  ·by_cases h2:fC t=0
   ·have h3:nW p=false:=by cases hp:nW p;rfl;exact absurd ⟨h1,h2,hp⟩ h
    simp[h2,h3]
   ·simp[h2]
 obtain⟨h1,h2,h3⟩:=h
 have hEv:=(vF.1 h1).1
 have hfw:(qq e r p).2=mo e p:=by
  unfold qq
  rw[if_pos (tu.2 hEv),h3,cond_true]
  split
  ·rename_i hs;rw[hs]
  ·rfl
 by_cases hid:r∈ids t
 rotate_left
 ·have hh:hasB t r=false:=by cases hb:hasB t r;rfl;exact absurd (gH.2 hb) hid
  unfold jq uW
  simp only[jn,nY e hl,h1,aN,lF,h2,pI,h3,vD,hh,decide_true,Bool.and_false,Bool.not_true,cond_false,Bool.not_false,cond_true,and_self,if_true,if_neg hid]
 by_cases hs:mo e p=0
 rotate_left
 ·unfold jq uW
  simp only[jn,nY e hl,h1,aN,lF,h2,pI,h3,vD,gH.1 hid,oh e r p hl,hfw,decide_true,Bool.and_true,Bool.not_true,cond_false,decide_eq_false hs,Bool.not_false,cond_true,and_self,if_true,if_pos hid,if_neg hs]
 have hpk:=ahW h3 hs
 by_cases hf:r∈f.ah
 ·unfold jq uW
  simp only[jn,nY e hl,h1,aN,lF,h2,pI,h3,vD,gH.1 hid,oh e r p hl,hfw,hs,ahK,decide_eq_true hf,decide_true,Bool.and_true,Bool.not_true,cond_false,cond_true,and_self,if_true,if_pos hid,if_pos hs,if_pos hf]
 ·rw[ai8 h1 (gE.1 h2) hpk hid hf]
  unfold uW
  rw[if_pos ⟨h1,h2,h3⟩,if_pos hid,if_pos hs,if_neg hf]
end Go.Proofs.YtdjeacigeegklaaGreat
