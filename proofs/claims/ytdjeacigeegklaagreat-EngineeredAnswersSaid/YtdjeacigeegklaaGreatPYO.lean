/- Plain: what a run in agR mode comes to. No condition but bU bx stand in each. -/
import Derived.Test.YtdjeacigeegklaaGreatPYN
namespace Go.Proofs.YtdjeacigeegklaaGreat
set_option linter.all false
open Go
noncomputable def oo(t:af)(r:Int)(a:ak):List Int×Bool:=if a.Kind=2 then(gZ t r a.To,decide ((0:Int)<((gZ t r a.To).length:Int)))else([a.To],kW t r a.To)
variable {t:af}
theorem arZ(hv:Vt t)(r:Int)(a:ak):iQ t r a=some (oo t r a):=by
 unfold iQ oo
 have:=hv.nl
 by_cases h:a.Kind=2
 ·simp only[h,decide_true,cond_true,agD,aV,if_true]
 ·rw[decide_eq_false h,cond_false,alS t r a.To (by omega),aV,if_pos (lW.2 hv),if_neg h,zd]
def nP(b:Int):Int→List Int→List aU
 |_,[]=>[]
 |r,x::l=>aU.mk r x b::nP b x l
theorem xX(b:Int):∀(r:Int) (l:List Int),(nP b r l).length=l.length
 |_,[]=>rfl
 |r,x::l=>by simp[nP,xX b x l]
def abg:Int→List Int→Int
 |r,[]=>r
 |_,x::l=>abg x l
noncomputable def okA(t:af)(r:Int)(a:ak):Bool:=(oo t r a).2
noncomputable def gY(t:af)(r b:Int)(l:List ak):List aU:=(l.filter (okA t r)).flatMap λa=>nP b r (oo t r a).1
noncomputable def kO(t:af)(r:Int)(p:aD)(l:List ak):List aM:=(l.filter (okA t r)).map λa=>aM.mk (abg r (oo t r a).1) p
noncomputable def newL(t:af)(r:Int)(l:List ak):List cD:=(l.filter λa=>!okA t r a).map λa=>cD.mk r (zm a)
def aeH(r:Int)(p:aD)(a:ak):cw:=cw.mk r (aD.mk p.Mode p.bL p.Set p.Length p.TTL p.cn p.cq p.dg (zm a) p.cm)
def qU(e:aG)(r:Int)(p:aD):List cw:=(e.List.filter (eN r p)).map (aeH r p)
def pQ(e:aG)(r:Int)(p:aD):List cD:=if(oK e r p).jL=0 then[]else[cD.mk r (oK e r p).jL]
noncomputable def nh(e:aG)(t:af)(v:aM):List aU:=gY t v.bY (eR e v.bY v.cz) (cV e v.bY v.cz)
noncomputable def qV(e:aG)(t:af)(v:aM):List aM:=kO t v.bY (goP e v.bY v.cz) (cV e v.bY v.cz)
noncomputable def abh(e:aG)(t:af)(v:aM):List cD:=pQ e v.bY v.cz++newL t v.bY (cV e v.bY v.cz)
noncomputable def nQ(e:aG)(t:af):Nat→List aM→List cw→List aU→List cD→dy×Int
 |0,_,_,_,_=>(dy.mk [] [] [],11)
 |_+1,[],D,C,L=>(dy.mk D C L,0)
 |n+1,v::q,D,C,L=>if 2000<(C++nh e t v).length then(dy.mk [] [] [],11)else nQ e t n (q++qV e t v) (D++qU e v.bY v.cz) (C++nh e t v) (L++abh e t v)
variable {a:ak}{r:Int}
theorem aeI(h:okA t r a=true):1≤(oo t r a).1.length:=by
 unfold okA at h
 unfold oo at *
 by_cases h2:a.Kind=2
 ·rw[if_pos h2]at *;simp only[decide_eq_true_eq]at h;simp only;omega
 ·rw[if_neg h2];simp
variable {b:Int}{p:aD}
theorem acN(l:List ak):(kO t r p l).length≤(gY t r b l).length:=by
 unfold kO gY
 rw[List.length_map,List.length_flatMap]
 have:∀m:List ak,(∀a∈m,okA t r a=true)→m.length≤(m.map λa=>(nP b r (oo t r a).1).length).sum:=by
  intro m
  induction m with
  |nil=>intro _;simp
  |cons a m ih=>
   intro h
   have h1:=ih λx hx=>h x (by simp[hx])
   have h2:=aeI (h a (by simp))
   simp only[List.length_cons,List.map_cons,List.sum_cons,xX]
   simp only[xX]at h1
   omega
 exact this _ λa ha=>(List.mem_filter.1 ha).2
def runM(q:List aM)(C:List aU):Nat:=q.length+(2000-C.length)
variable {q:List aM}
theorem abi{e:aG}{v:aM}{C:List aU}(h:¬2000<(C++nh e t v).length):runM (q++qV e t v) (C++nh e t v)<runM (v::q) C:=by
 have:=acN (t:=t) (r:=v.bY) (b:=eR e v.bY v.cz) (p:=goP e v.bY v.cz) (cV e v.bY v.cz)
 unfold runM qV
 unfold nh at h ⊢
 rw[List.length_append]at h ⊢
 rw[List.length_append,List.length_cons]
 omega
theorem wD{e:aG}{t:af}:∀(n m:Nat) (q:List aM) (D:List cw) (C:List aU) (L:List cD),runM q C<n→runM q C<m→nQ e t n q D C L=nQ e t m q D C L
 |0,_,_,_,_,_,h,_=>by omega
 |_,0,_,_,_,_,_,h=>by omega
 |n+1,m+1,[],D,C,L,_,_=>rfl
 |n+1,m+1,v::q,D,C,L,h1,h2=>by
  rw[nQ,nQ]
  split
  ·rfl
  ·rename_i hc
   have:=abi (e:=e) (t:=t) (q:=q) hc
   exact wD n m _ _ _ _ (by omega) (by omega)
theorem ah9{e:aG}(hE:Ve e)(i:Nat):tbi (oK e r p).Local i=true↔∃a∈e.List,eN r p a=true∧a.Bit=i:=by
 have key:∀(l:List ak) (acc:Int),(∀a∈l,0≤a.Bit∧a.Bit<64)→(tbi (l.foldl orA acc) i=true↔tbi acc i=true∨∃a∈l,a.Bit=i):=by
  intro l
  induction l with
  |nil=>intro acc _;simp
  |cons a l ih=>
   intro acc h
   have hb:=h a (by simp)
   rw[List.foldl_cons,ih _ λx hx=>h x (by simp[hx])]
   unfold orA zm
   rw[tbo,ta a.Bit.toNat i (by omega),Bool.or_eq_true,decide_eq_true_eq]
   constructor
   ·rintro((h|h)|⟨x,hx,h⟩)
    ·exact .inl h
    ·exact .inr ⟨a,by simp,by omega⟩
    ·exact .inr ⟨x,by simp[hx],h⟩
   ·rintro(h|⟨x,hx,h⟩)
    ·exact .inl (.inl h)
    ·rcases List.mem_cons.1 hx with rfl|hx
     ·exact .inl (.inr (by omega))
     ·exact .inr ⟨x,hx,h⟩
 show tbi ((e.List.filter (eN r p)).foldl orA 0) i=true↔_
 rw[key _ 0 λa ha=>hE.bit (List.mem_filter.1 ha).1,rJ]
 simp only[Bool.false_eq_true,false_or,List.mem_filter,and_assoc]
theorem aia{e:aG}(hE:Ve e)(ha:a∈e.List):tbi (oK e r p).Local a.Bit.toNat=eN r p a:=by
 have hb:=hE.bit ha
 rw[Bool.eq_iff_iff,ah9 hE]
 constructor
 ·rintro⟨b,hb2,h1,h2⟩
  have:=hE.afw hb2 ha (by omega)
  subst this;exact h1
 ·intro h;exact⟨a,ha,h,by omega⟩
theorem ae1(hp:ng p=true)(h0:0≤b)(h1:b<64)(hb:tbi p.Bits b.toNat=true):mh p b=some (aD.mk p.Mode p.bL p.Set p.Length p.TTL p.cn p.cq p.dg (tP b.toNat) p.cm):=by
 unfold mh
 have e1:¬b<0:=by omega
 have e2:¬63<b:=by omega
 simp only[jn,lZ,hp,aV,Bool.not_true,cond_false,decide_eq_false e1,decide_eq_false e2,decide_eq_true h0,chk,cond_true,agI p.Bits h0 h1,hb,if_true,tQ h0 h1]
 rfl
theorem ar0{e:aG}(h:eN r p a=true):a.aN=r∧tbi p.Bits a.Bit.toNat=true∧a.Kind=3:=by
 simp only[eN,vp,Bool.and_eq_true,decide_eq_true_eq]at h
 exact⟨h.1.1,h.1.2,h.2⟩
theorem amj{β:Type}{e:aG}(hE:Ve e)(hp:ng p=true){D:List cw}(hD:D.length≤900000){K:List cw→Option β}:
  bF e.List 0 (λ(j2:Int) (e2:ak) (Z2:(List cw)→Option β) (m_4:(List cw))=>jn (λ(m_5:(List cw))=>Z2 m_5) λJ2=>chk (decide (0≤e2.Bit))<|bif decide (bB .and .u64 (Int.fdiv (oK e r p).Local (2 ^ min e2.Bit.toNat 64)) (1:Int)=(1:Int))then bnd (mh p e2.Bit) λ(cv:aD)=>bnd (dK m_4 ([(cw.mk r cv)]:List cw)) λ(l_1:List cw)=>J2 l_1 else J2 m_4) K D=K (D++qU e r p):=by
 have hl:=hE.small
 refine jX (L:=e.List) (λq m=>m=D++(q.filter (eN r p)).map (aeH r p)) (λq l=>K (D++qU e r p)) (λs hs=>by rw[hs];rfl) (λq x rest s Z h hi hZ=>?_) e.List [] D rfl (by simp)
 subst hi
 have hx:x∈e.List:=by rw[←h];simp
 obtain⟨b0,b1⟩:=hE.bit hx
 have hql:q.length≤64:=by
  have:e.List.length=q.length+(rest.length+1):=by rw[←h];simp
  omega
 have hfl:(q.filter (eN r p)).length≤64:=Nat.le_trans (List.length_filter_le _ _) hql
 simp only[jn]
 rw[decide_eq_true b0,agI _ b0 b1,aia hE hx]
 simp only[chk,cond_true]
 cases hc:eN r p x
 ·simp only[Bool.false_eq_true,if_false]
  refine hZ _ ?_
  simp[List.filter_append,List.filter_cons,hc]
 ·obtain⟨_,h2,_⟩:=ar0 (e:=e) hc
  simp only[if_true,decide_true,cond_true]
  rw[ae1 hp b0 b1 h2,aV,mY (by simp;omega),aV]
  refine hZ _ ?_
  simp[List.filter_append,List.filter_cons,hc,aeH,zm]
theorem abj{β:Type}{b:Int}{K:Int×List aU→Option β}:∀(l:List Int) (j:Nat) (r:Int) (C:List aU),C.length+l.length≤900000→bF l j (λ(j4:Int) (e4:Int) (Z4:(Int×(List aU))→Option β) (sg:Int×(List aU))=>match sg with|(dI,gD)=>bnd (dK gD ([(aU.mk dI e4 b)]:List aU)) λ(l_4:List aU)=>Z4 (e4,l_4)) K (r,C)=K (abg r l,C++nP b r l)
 |[],_,r,C,_=>by simp[bF,abg,nP]
 |x::l,j,r,C,h=>by
  simp only[List.length_cons]at h
  simp only[bF]
  rw[mY (by omega),aV,abj l (j+1) x _ (by simp;omega)]
  simp[abg,nP]
theorem xY(l:List ak)(x:ak):gY t r b (l++[x])=gY t r b l++if okA t r x then nP b r (oo t r x).1 else[]:=by
 unfold gY
 rw[List.filter_append,List.flatMap_append]
 cases h:okA t r x<;>simp[List.filter_cons,h]
theorem aeJ(p q:List ak):(gY t r b p).length≤(gY t r b (p++q)).length:=by
 unfold gY
 rw[List.filter_append,List.flatMap_append,List.length_append];omega
theorem afA(f:Int→List Int)(b:Int):∀(n:Nat) (x:Int) (out:List Int),(rtF f b n x out).length≤out.length+n
 |0,_,_=>by simp[rtF]
 |n+1,x,out=>by
  rw[rtF]
  split
  ·omega
  ·split
   ·simp
   ·rename_i y _ _
    have:=afA f b n y (out++[y])
    simp at this;omega
theorem afB:(oo t r a).1.length≤30:=by
 unfold oo
 by_cases h:a.Kind=2
 ·rw[if_pos h]
  have:=afA (fT t a.To) a.To 30 r []
  simpa [gZ]using this
 ·rw[if_neg h];simp
theorem aic{e:aG}(hE:Ve e)(hv:Vt t){C:List aU}{L:List cD}(hq:q.length≤800000)(hC:C.length≤2000)(hL:L.length≤800000)
  {K:List aM×List aU×List cD→Option (dy×Int)} :
  bF ((cV e r p).map λa=>bG.mk a (eS e r p a)) 0 (λ(j3:Int) (e3:bG) (Z3:((List aM)×(List aU)×(List cD))→Option _) (sg:(List aM)×(List aU)×(List cD))=>match sg with|(dR,m_7,m_8)=>jn (λ(sg:(List aM)×(List aU)×(List cD))=>match sg with|(gW,m_9,ir)=>Z3 (gW,m_9,ir)) λJ4=>bnd (iQ t r e3.fI) λ(dA:(List Int)×Bool)=>bif !dA.2 then chk (decide (0≤e3.fI.Bit))<|bnd (dK m_8 ([(cD.mk r (IntKind.wrap .u64 ((1:Int)*2 ^ min e3.fI.Bit.toNat 64)))]:List cD)) λ(l_3:List cD)=>J4 (dR,m_7,l_3)else bF dA.1 0 (λ(j4:Int) (e4:Int) (Z4:(Int×(List aU))→Option _) (sg:Int×(List aU))=>match sg with|(dI,gD)=>bnd (dK gD ([(aU.mk dI e4 e3.copy_.Frame.aQ.Bits)]:List aU)) λ(l_4:List aU)=>Z4 (e4,l_4)) (λ(sg:Int×(List aU))=>match sg with|(dI,gD)=>bif decide ((2000:Int)<(gD.length:Int))then some ((dy.mk [] [] []),(11:Int))else bnd (dK dR ([(aM.mk dI e3.copy_.Frame.aQ)]:List aM)) λ(l_5:List aM)=>J4 (l_5,gD,m_8)) (r,m_7)) K (q,C,L)
  = if 2000<(C++gY t r (eR e r p) (cV e r p)).length then some (dy.mk [] [] [],11)else K (q++kO t r (goP e r p) (cV e r p),C++gY t r (eR e r p) (cV e r p),L++newL t r (cV e r p)):=by
 have hsl:(cV e r p).length≤64:=Nat.le_trans (List.length_filter_le _ _) hE.small
 have key:=jX (L:=(cV e r p).map λa=>bG.mk a (eS e r p a)) (K:=K)
  (B:=(λ(j3:Int) (e3:bG) (Z3:((List aM)×(List aU)×(List cD))→Option _) (sg:(List aM)×(List aU)×(List cD))=>match sg with|(dR,m_7,m_8)=>jn (λ(sg:(List aM)×(List aU)×(List cD))=>match sg with|(gW,m_9,ir)=>Z3 (gW,m_9,ir)) λJ4=>bnd (iQ t r e3.fI) λ(dA:(List Int)×Bool)=>bif !dA.2 then chk (decide (0≤e3.fI.Bit))<|bnd (dK m_8 ([(cD.mk r (IntKind.wrap .u64 ((1:Int)*2 ^ min e3.fI.Bit.toNat 64)))]:List cD)) λ(l_3:List cD)=>J4 (dR,m_7,l_3)else bF dA.1 0 (λ(j4:Int) (e4:Int) (Z4:(Int×(List aU))→Option _) (sg:Int×(List aU))=>match sg with|(dI,gD)=>bnd (dK gD ([(aU.mk dI e4 e3.copy_.Frame.aQ.Bits)]:List aU)) λ(l_4:List aU)=>Z4 (e4,l_4)) (λ(sg:Int×(List aU))=>match sg with|(dI,gD)=>bif decide ((2000:Int)<(gD.length:Int))then some ((dy.mk [] [] []),(11:Int))else bnd (dK dR ([(aM.mk dI e3.copy_.Frame.aQ)]:List aM)) λ(l_5:List aM)=>J4 (l_5,gD,m_8)) (r,m_7)))
  (λpr (sg:List aM×List aU×List cD)=>sg=(q++kO t r (goP e r p) (pr.map (·.fI)),C++gY t r (eR e r p) (pr.map (·.fI)),L++newL t r (pr.map (·.fI)))∧(C++gY t r (eR e r p) (pr.map (·.fI))).length≤2000)
  (λpr l=>if 2000<(C++gY t r (eR e r p) (cV e r p)).length then some (dy.mk [] [] [],11)else K (q++kO t r (goP e r p) (cV e r p),C++gY t r (eR e r p) (cV e r p),L++newL t r (cV e r p))) ?_ ?_ _ [] (q,C,L) rfl ?_
 ·exact key
 ·rintro s ⟨hs,hl⟩
  have em:((cV e r p).map λa=>bG.mk a (eS e r p a)).map (·.fI)=cV e r p:=by rw[List.map_map];exact List.map_id' _
  rw[em]at hs hl
  rw[if_neg (by omega),hs]
 ·rintro pr x rest s Z h ⟨hi,hl⟩ hZ
  subst hi
  have em:(pr++x::rest).map (·.fI)=cV e r p:=by
   rw[h,List.map_map];exact List.map_id' _
  have hxm:x∈(cV e r p).map λa=>bG.mk a (eS e r p a):=by rw[←h];simp
  obtain⟨a,ha,rfl⟩:=List.mem_map.1 hxm
  have hae:a∈e.List:=(List.mem_filter.1 ha).1
  obtain⟨b0,b1⟩:=hE.bit hae
  have aeK:(pr.map (·.fI)).length≤64:=by
   have:=congrArg List.length em
   rw[List.map_append,List.length_append]at this
   omega
  have hQl:(kO t r (goP e r p) (pr.map (·.fI))).length≤64:=by
   unfold kO;rw[List.length_map];exact Nat.le_trans (List.length_filter_le _ _) aeK
  have hLl:(newL t r (pr.map (·.fI))).length≤64:=by
   unfold newL;rw[List.length_map];exact Nat.le_trans (List.length_filter_le _ _) aeK
  have hwl:=afB (t:=t) (r:=r) (a:=a)
  have esn:((pr++[bG.mk a (eS e r p a)]).map (·.fI))=pr.map (·.fI)++[a]:=by simp
  simp only[jn,arZ hv,aV]
  show(bif !okA t r a then _ else _)=_
  cases hok:okA t r a
  ·simp only[Bool.not_false,cond_true]
   rw[decide_eq_true b0,tQ b0 b1,mY (by simp;omega)]
   simp only[chk,cond_true,aV]
   refine hZ _ ?_
   rw[esn,xY,hok]
   refine⟨?_,by simpa using hl⟩
   simp[kO,newL,List.filter_append,List.filter_cons,hok,zm]
  ·simp only[Bool.not_true,cond_false]
   rw[abj _ _ _ _ (by simp at hl ⊢;omega)]
   have e1:C++gY t r (eR e r p) (pr.map (·.fI))++nP (eR e r p) r (oo t r a).1=C++gY t r (eR e r p) ((pr++[bG.mk a (eS e r p a)]).map (·.fI)):=by
    rw[esn,xY,hok];simp
   show(bif decide ((2000:Int)<((C++gY t r (eR e r p) (pr.map (·.fI))++nP (eR e r p) r (oo t r a).1).length:Int))then _ else _)=_
   rw[e1]
   by_cases hb:2000<(C++gY t r (eR e r p) ((pr++[bG.mk a (eS e r p a)]).map (·.fI))).length
   ·rw[decide_eq_true (by omega),cond_true,if_pos]
    have:=aeJ (t:=t) (r:=r) (b:=eR e r p) ((pr++[bG.mk a (eS e r p a)]).map (·.fI)) (rest.map (·.fI))
    rw[←List.map_append,List.append_assoc,List.singleton_append,em]at this
    rw[List.length_append]at hb ⊢
    omega
   ·rw[decide_eq_false (by omega),cond_false,mY (by simp;omega),aV]
    refine hZ _ ⟨?_,by omega⟩
    refine Prod.ext ?_ (Prod.ext e1 ?_)
    ·rw[esn];simp[kO,List.filter_append,List.filter_cons,hok];rfl
    ·rw[esn];simp[newL,List.filter_append,List.filter_cons,hok]
 ·exact⟨by simp[kO,gY,newL],by simpa [gY]using hC⟩
theorem ar2{e:aG}(hE:Ve e)(hv:Vt t)(hp:Pk e p)(hr:r∈ids t):fP e t p r=some (nQ e t 5000 [aM.mk r p] [] [] []):=by
 have hl:=hE.small
 have hnr:=hv.nr
 unfold fP
 simp only[jn,lY e (by omega),mK.2 hE,aV,rE,lW.2 hv,lZ,hp.v,acB t r (by omega),jU.1 hr,zn,hp.agT,decide_true,Bool.and_true,Bool.not_true,cond_false]
 refine Ok.eq (Ok.whl (λsg:List aM×List cw×List aU×List cD=>match sg with|(q,D,C,L)=>nQ e t 5000 q D C L=nQ e t 5000 [aM.mk r p] [] [] []∧(∀v∈q,Pk e v.cz)∧C.length≤2000∧q.length≤C.length+1∧∃k:Nat,k+runM q C≤2001∧D.length≤64*k∧L.length≤65*k) (λsg=>runM sg.1 sg.2.2.1) ⟨rfl,by simpa using hp,by simp,by simp,0,by simp[runM],by simp,by simp⟩ (by show runM [aM.mk r p] []<_;simp[runM]) ?_)
 rintro⟨q,D,C,L⟩ Z ⟨h1,h2,h3,h4,k,h5,h6,h7⟩ hZ
 cases q with
 |nil=>
  simp only[List.length_nil,Int.natCast_zero,decide_false,Int.lt_irrefl,cond_false]
  exact⟨_,rfl,h1⟩
 |cons v q=>
  have hpv:=h2 v (by simp)
  rw[decide_eq_true (by simp only[List.length_cons];omega),cond_true]
  have e0:elO (v::q) (0:Int)=some v:=rfl
  rw[e0,aV,ab4 hE,aV]
  have hk:k≤2001:=by omega
  refine Eq.subst (motive:=λz=>Ok z _) (amj (e:=e) (r:=v.bY) (p:=v.cz) hE hpv.v (D:=D) (by omega)).symm ?_
  have agV:∀(J:List cD→Option (dy×Int)),(bif !decide ((oK e v.bY v.cz).jL=(0:Int))then bnd (dK L ([(cD.mk v.bY (oK e v.bY v.cz).jL)]:List cD)) λ(l_2:List cD)=>J l_2 else J L)=J (L++pQ e v.bY v.cz):=λJ=>by
   unfold pQ
   by_cases hz:(oK e v.bY v.cz).jL=0
   ·rw[decide_eq_true hz,if_pos hz];simp
   ·rw[decide_eq_false hz,if_neg hz]
    simp only[Bool.not_false,cond_true]
    rw[mY (by omega),aV]
  have hlo:(pQ e v.bY v.cz).length≤1:=by unfold pQ;split<;>simp
  simp only[jn]
  refine Eq.subst (motive:=λz=>Ok z _) (agV _).symm ?_
  refine Eq.subst (motive:=λz=>Ok z _) (aic (e:=e) (t:=t) hE hv (r:=v.bY) (p:=v.cz) (q:=v::q) (C:=C) (L:=L++pQ e v.bY v.cz) (by omega) h3 (by rw[List.length_append];omega)).symm ?_
  have aeL:nQ e t 5000 (v::q) D C L=if 2000<(C++nh e t v).length then(dy.mk [] [] [],11)else nQ e t 4999 (q++qV e t v) (D++qU e v.bY v.cz) (C++nh e t v) (L++abh e t v):=rfl
  show Ok (if 2000<(C++nh e t v).length then _ else _) _
  by_cases hb:2000<(C++nh e t v).length
  ·rw[if_pos hb]
   refine⟨_,rfl,?_⟩
   rw[←h1,aeL,if_pos hb]
  ·rw[if_neg hb]
   have hless:=abi (e:=e) (t:=t) (q:=q) hb
   have hq2:=acN (t:=t) (r:=v.bY) (b:=eR e v.bY v.cz) (p:=goP e v.bY v.cz) (cV e v.bY v.cz)
   have agW:nQ e t 4999 (q++qV e t v) (D++qU e v.bY v.cz) (C++nh e t v) (L++abh e t v)=nQ e t 5000 (q++qV e t v) (D++qU e v.bY v.cz) (C++nh e t v) (L++abh e t v):=
    wD _ _ _ _ _ _ (by omega) (by omega)
   have aBm:((v::q)++kO t v.bY (goP e v.bY v.cz) (cV e v.bY v.cz)).length=1+(q++qV e t v).length:=by
    simp[qV];omega
   refine Ok.bnd (vf ⟨by omega,by rw[aBm];omega,by omega⟩) λm hm=>?_
   have em:m=q++qV e t v:=by
    rw[hm.1]
    show List.drop 1 (List.take (((v::q++kO t v.bY (goP e v.bY v.cz) (cV e v.bY v.cz)).length:Int)).toNat (v::q++kO t v.bY (goP e v.bY v.cz) (cV e v.bY v.cz)))=_
    rw[Int.toNat_natCast,List.take_length];rfl
   subst em
   have hD:(qU e v.bY v.cz).length≤64:=by unfold qU;rw[List.length_map];exact Nat.le_trans (List.length_filter_le _ _) hl
   have hS:(cV e v.bY v.cz).length≤64:=Nat.le_trans (List.length_filter_le _ _) hl
   have hLn:(newL t v.bY (cV e v.bY v.cz)).length≤64:=by unfold newL;rw[List.length_map];exact Nat.le_trans (List.length_filter_le _ _) hS
   refine hZ _ ⟨?_,λu hu=>?_,(show(C++nh e t v).length≤2000 by omega),?_,k+1,?_,?_,?_⟩ hless
   ·rw[←h1,aeL,if_neg hb,agW,List.append_assoc];rfl
   ·rcases List.mem_append.1 hu with hu|hu
    ·exact h2 u (by simp[hu])
    ·obtain⟨a,ha,rfl⟩:=List.mem_map.1 hu
     have hs:=(List.mem_filter.1 (List.mem_filter.1 ha).1).2
     simp only[eT,Bool.and_eq_true,Bool.not_eq_true',decide_eq_false_iff_not]at hs
     have ht:=(pI.1 hpv.v).2.2.2.2.1
     exact hpv.go hE v.bY hs.2 (by have:=hs.1.2;omega)
   ·simp only[List.length_append,List.length_cons]at h4 ⊢
    unfold qV
    omega
   ·show k+1+runM (q++qV e t v) (C++nh e t v)≤2001
    omega
   ·rw[List.length_append];omega
   ·show(L++pQ e v.bY v.cz++newL t v.bY (cV e v.bY v.cz)).length≤65*(k+1)
    rw[List.length_append,List.length_append];omega
end Go.Proofs.YtdjeacigeegklaaGreat
