/- Several texts in one. No condition but those that stand in each. -/
import Derived.Test.YtdjeacigeegklaaGreatPA1
import Derived.Test.YtdjeacigeegklaaGreatPN
namespace Go.Proofs.YtdjeacigeegklaaGreat
set_option linter.all false
open Go
def inN(n m:Int):Bool:=decide (0≤n)&&decide (n≤m)
def va(n:Int):Int:=if n=8 then 255 else if n=16 then 65535 else if n=32 then 4294967295 else 18446744073709551615
def xq(b n:Int):Bool:=kT n&&decide (br .andNot .u64 b (va n)=0)
def mU(p:aH):Bool:=(decide (1≤p.Mode)&&decide (p.Mode≤3))&&inN p.cC 7&&inN p.Set 31&&xq p.Bits p.Length&&inN p.TTL 63&&inN p.dG 1023&&inN p.dH 256&&inN p.eO 7&&decide ((p.cM.size:Int)≤64)
theorem ve{n:Int}(h:kT n=true):n=8∨n=16∨n=32∨n=64:=by simpa [kT]using h
theorem aqW{n:Int}(h:kT n=true):rz n=some (va n):=by
 rcases ve h with rfl|rfl|rfl|rfl<;>kernel_rfl
theorem amg(b n:Int):oy b n=some (xq b n):=by
 unfold oy xq
 show(bnd (some (kT n)) _:Option Bool)=_
 rw[aM]
 cases h:kT n
 ·rfl
 ·simp only[cond_true,aqW h,aM,Bool.true_and]
theorem aj4(a b c d e f g h i j:Bool):(bif a then(bif b then(bif c then(bif d then(bif e then(bif f then(bif g then(bif h then(bif i then some j else some false)else some false)else some false)else some false)else some false)else some false)else some false)else some false)else some false)=some ((a&&b)&&c&&d&&e&&f&&g&&h&&i&&j):=by
 cases a<;>cases b<;>cases c<;>cases d<;>cases e<;>cases f<;>cases g<;>cases h<;>cases i<;>rfl
theorem mV(p:aH):kP p=some (mU p):=by
 unfold kP kV mU
 simp only[aM,amg]
 exact aj4 _ _ _ _ _ _ _ _ _ _
theorem aiQ{n:Int}(h:kT n=true):sZ n=some (va n):=by
 rcases ve h with rfl|rfl|rfl|rfl<;>kernel_rfl
theorem ag9(b n:Int):o4 b n=some (xq b n):=by
 unfold o4 xq
 show(bnd (some (kT n)) _:Option Bool)=_
 rw[aM]
 cases h:kT n
 ·rfl
 ·simp only[cond_true,aiQ h,aM,Bool.true_and]
theorem abJ(p:aH):nk p=some (mU p):=by
 unfold nk iw mU
 simp only[aM,ag9]
 exact aj4 _ _ _ _ _ _ _ _ _ _
theorem agI{n:Int}(h:kT n=true)(i:Nat):tbi (va n) i=decide ((i:Int)<n):=by
 by_cases hi:i<64
 ·have hc:∀m:Nat,m≤64→tbi (((2 ^ m-1:Nat)):Int) i=decide (i<m):=λm hm=>by
   have hb:B64 ((2 ^ m-1:Nat):Int):=by
    have:=Nat.pow_le_pow_right (n:=2) (by decide) hm
    have h0:0<2 ^ m:=Nat.pow_pos (by decide)
    unfold B64;omega
   rw[ahJ hb,Int.toNat_natCast,Nat.testBit_two_pow_sub_one]
  rcases ve h with rfl|rfl|rfl|rfl
  ·rw[show va 8=((2 ^ 8-1:Nat):Int)from rfl,hc 8 (by decide)];exact decide_eq_decide.2 (by omega)
  ·rw[show va 16=((2 ^ 16-1:Nat):Int)from rfl,hc 16 (by decide)];exact decide_eq_decide.2 (by omega)
  ·rw[show va 32=((2 ^ 32-1:Nat):Int)from rfl,hc 32 (by decide)];exact decide_eq_decide.2 (by omega)
  ·rw[show va 64=((2 ^ 64-1:Nat):Int)from rfl,hc 64 (by decide)];exact decide_eq_decide.2 (by omega)
 ·rw[afx _ (by omega)]
  have:=ve h
  rw[decide_eq_false (by omega)]
theorem aaD{b n:Int}:xq b n=true↔kT n=true∧∀i:Nat,tbi b i=true→(i:Int)<n:=by
 unfold xq
 rw[Bool.and_eq_true,decide_eq_true_eq]
 constructor
 ·rintro⟨h,h0⟩
  refine⟨h,λi hi=>?_⟩
  have:=tbn b (va n) i
  rw[h0,mF,hi,agI h]at this
  simpa using this
 ·rintro⟨h,h1⟩
  refine⟨h,adn al9 yh λi _=>?_⟩
  rw[tbn,mF,agI h]
  cases hb:tbi b i
  ·rfl
  ·simp[h1 i hb]
def acv(a:aq):Int:=uK a.Bit.toNat
def jl(r:Int)(p:aH)(a:aq):Bool:=decide (a.aO=r)&&tbi p.Bits a.Bit.toNat
def dZ(e:aC)(r:Int)(p:aH):Int:=br .andNot .u64 p.Bits (qI e r)
def goP(e:aC)(r:Int)(p:aH):aH:=aH.mk p.Mode p.cC p.Set p.Length (w64 (p.TTL-1)) p.dG p.dH p.eO (dZ e r p) p.cM
def eT(e:aC)(r:Int)(p:aH)(a:aq):aZ:=aZ.mk a.To (bL.mk (if a.Kind=2 then[a.To]else[]) (goP e r p))
def orA(s:Int)(a:aq):Int:=br .or .u64 s (acv a)
def eU(e:aC)(r:Int)(p:aH)(a:aq):Bool:=jl r p a&&!decide (a.Kind=3)&&!decide (p.TTL=0)&&!decide (dZ e r p=0)
def fR(r:Int)(p:aH)(a:aq):Bool:=jl r p a&&decide (a.Kind=3)
def iz(r:Int)(p:aH)(a:aq):Bool:=jl r p a&&!decide (a.Kind=3)&&decide (p.TTL=0)
def cv(e:aC)(r:Int)(p:aH):List aq:=e.List.filter (eU e r p)
def gV(e:aC)(r:Int)(p:aH):cE:=cE.mk ((e.List.filter (fR r p)).foldl orA 0) ((e.List.filter (iz r p)).foldl orA 0) ((cv e r p).map (eT e r p))
theorem abg{x b:Int}(h0:0≤b)(h:b<64):decide (br .and .u64 x (uK b.toNat)=0)=!tbi x b.toNat:=by
 have hk:b.toNat<64:=by omega
 by_cases hz:br .and .u64 x (uK b.toNat)=0
 ·rw[decide_eq_true hz]
  have:=tba x (uK b.toNat) b.toNat
  rw[hz,mF,qq _ _ hk,decide_eq_true rfl,Bool.and_true]at this
  rw[←this];rfl
 ·rw[decide_eq_false hz]
  obtain⟨i,_,hi⟩:=aqP anL hz
  rw[tba,qq _ _ hk,Bool.and_eq_true,decide_eq_true_eq]at hi
  rw[←hi.2,hi.1];rfl
theorem aiR{e:aC}(hv:Ve e)(r:Int)(p:aH):kG e r p=some (gV e r p,(cv e r p).map λa=>cA.mk a (eT e r p a)):=by
 have hl:=hv.small
 unfold kG gV cv
 rw[ahL e r (by omega),aM]
 refine kS (L:=e.List) (λq (sg:List cA×Int×Int×List aZ)=>sg=((q.filter (eU e r p)).map (λa=>cA.mk a (eT e r p a)),(q.filter (fR r p)).foldl orA 0,(q.filter (iz r p)).foldl orA 0,(q.filter (eU e r p)).map (eT e r p))) (λq l=>some (cE.mk ((e.List.filter (fR r p)).foldl orA 0) ((e.List.filter (iz r p)).foldl orA 0) ((e.List.filter (eU e r p)).map (eT e r p)),(e.List.filter (eU e r p)).map λa=>cA.mk a (eT e r p a))) (λs hs=>by rw[hs]) (λq x rest s Z h hi hZ=>?_) e.List [] _ rfl rfl
 subst hi
 have hx:x∈e.List:=by rw[←h];simp
 obtain⟨b0,b1⟩:=hv.bit hx
 have hql:q.length≤64:=by
  have:e.List.length=q.length+(rest.length+1):=by rw[←h];simp
  omega
 have hfl:∀f:aq→Bool,(q.filter f).length≤64:=λf=>Nat.le_trans (List.length_filter_le _ _) hql
 have pass:(∀f,f=eU e r p∨f=fR r p∨f=iz r p→f x=false)→Z ((q.filter (eU e r p)).map (λa=>cA.mk a (eT e r p a)),(q.filter (fR r p)).foldl orA 0,(q.filter (iz r p)).foldl orA 0,(q.filter (eU e r p)).map (eT e r p))=some (cE.mk ((e.List.filter (fR r p)).foldl orA 0) ((e.List.filter (iz r p)).foldl orA 0) ((e.List.filter (eU e r p)).map (eT e r p)),(e.List.filter (eU e r p)).map λa=>cA.mk a (eT e r p a)):=λhf=>hZ _ (by
  simp only[List.filter_append,List.filter_cons,List.filter_nil,hf _ (.inl rfl),hf _ (.inr (.inl rfl)),hf _ (.inr (.inr rfl)),Bool.false_eq_true,if_false,List.append_nil])
 simp only[jn]
 rw[decide_eq_true b0,aaA b0 b1,abg b0 b1]
 simp only[chk,cond_true]
 have eh:(!decide (x.aO=r)||!tbi p.Bits x.Bit.toNat)=!jl r p x:=by unfold jl;cases decide (x.aO=r)<;>rfl
 rw[eh]
 cases hh:jl r p x
 ·exact pass λf hf=>by rcases hf with rfl|rfl|rfl<;>simp[eU,fR,iz,hh]
 simp only[Bool.not_true,cond_false]
 by_cases h3:x.Kind=3
 ·rw[decide_eq_true h3,cond_true]
  refine hZ _ ?_
  have e1:eU e r p x=false:=by simp[eU,h3]
  have e2:fR r p x=true:=by simp[fR,hh,h3]
  have e3:iz r p x=false:=by simp[iz,h3]
  simp only[List.filter_append,List.filter_cons,List.filter_nil,e1,e2,e3,Bool.false_eq_true,if_false,if_true,List.append_nil,List.foldl_append,List.foldl_cons,List.foldl_nil]
  rfl
 rw[decide_eq_false h3,cond_false]
 by_cases h4:p.TTL=0
 ·rw[decide_eq_true h4,cond_true]
  refine hZ _ ?_
  have e1:eU e r p x=false:=by simp[eU,h4]
  have e2:fR r p x=false:=by simp[fR,h3]
  have e3:iz r p x=true:=by simp[iz,hh,h3,h4]
  simp only[List.filter_append,List.filter_cons,List.filter_nil,e1,e2,e3,Bool.false_eq_true,if_false,if_true,List.append_nil,List.foldl_append,List.foldl_cons,List.foldl_nil]
  rfl
 rw[decide_eq_false h4,cond_false]
 by_cases h5:dZ e r p=0
 ·have h5':br .andNot .u64 p.Bits (qI e r)=0:=h5
  rw[decide_eq_true h5']
  exact pass λf hf=>by rcases hf with rfl|rfl|rfl<;>simp[eU,fR,iz,h3,h4,h5]
 ·have h5':¬br .andNot .u64 p.Bits (qI e r)=0:=h5
  rw[decide_eq_false h5']
  simp only[Bool.not_false,cond_true]
  have e1:eU e r p x=true:=by simp[eU,hh,h3,h4,h5]
  have e2:fR r p x=false:=by simp[fR,h3]
  have e3:iz r p x=false:=by simp[iz,h4]
  have fin:∀rt:List Int,rt=(if x.Kind=2 then[x.To]else[])→(bnd (dL ((q.filter (eU e r p)).map (eT e r p)) ([(aZ.mk x.To (bL.mk rt (aH.mk p.Mode p.cC p.Set p.Length (w64 (p.TTL-(1:Int))) p.dG p.dH p.eO (br .andNot .u64 p.Bits (qI e r)) p.cM)))]:List aZ)) λ(l_1:List aZ)=>bnd (dL ((q.filter (eU e r p)).map (λa=>cA.mk a (eT e r p a))) ([(cA.mk x (aZ.mk x.To (bL.mk rt (aH.mk p.Mode p.cC p.Set p.Length (w64 (p.TTL-(1:Int))) p.dG p.dH p.eO (br .andNot .u64 p.Bits (qI e r)) p.cM))))]:List cA)) λ(l_2:List cA)=>Z (l_2,(q.filter (fR r p)).foldl orA 0,(q.filter (iz r p)).foldl orA 0,l_1))=some (cE.mk ((e.List.filter (fR r p)).foldl orA 0) ((e.List.filter (iz r p)).foldl orA 0) ((e.List.filter (eU e r p)).map (eT e r p)),(e.List.filter (eU e r p)).map λa=>cA.mk a (eT e r p a)):=λrt hrt=>by
   have:=hfl (eU e r p)
   rw[lY (by simp;omega),aM,lY (by simp;omega),aM]
   refine hZ _ ?_
   simp only[List.filter_append,List.filter_cons,List.filter_nil,e1,e2,e3,Bool.false_eq_true,if_false,if_true,List.append_nil,List.map_append,List.map_cons,List.map_nil,hrt]
   rfl
  by_cases h2:x.Kind=2
  ·rw[decide_eq_true h2,cond_true];exact fin _ (by rw[if_pos h2])
  ·rw[decide_eq_false h2,cond_false];exact fin _ (by rw[if_neg h2])
end Go.Proofs.YtdjeacigeegklaaGreat
namespace Go.Proofs.YtdjeacigeegklaaGreat
set_option linter.all false
open Go
structure Pk(e:aC)(p:aH):Prop where
 v:mU p=true
 m:p.Mode=2
 l:p.Length=e.Length
variable {p:aH}
theorem oR:mU p=true↔(1≤p.Mode∧p.Mode≤3)∧(0≤p.cC∧p.cC≤7)∧(0≤p.Set∧p.Set≤31)∧xq p.Bits p.Length=true∧(0≤p.TTL∧p.TTL≤63)∧(0≤p.dG∧p.dG≤1023)∧(0≤p.dH∧p.dH≤256)∧(0≤p.eO∧p.eO≤7)∧(p.cM.size:Int)≤64:=by
 unfold mU inN
 simp only[Bool.and_eq_true,decide_eq_true_eq,and_assoc]
theorem Pk.ttl{e:aC}(h:Pk e p)(n:Int)(hn:0≤n∧n≤63):Pk e (aH.mk p.Mode p.cC p.Set p.Length n p.dG p.dH p.eO p.Bits p.cM):=by
 obtain⟨h1,h2,h3⟩:=h
 rw[oR]at h1
 refine⟨oR.2 ?_,h2,h3⟩
 obtain⟨a1,a2,a3,a4,a5,a6⟩:=h1
 exact⟨a1,a2,a3,a4,hn,a6⟩
theorem Pk.bits{e:aC}(h:Pk e p)(b:Int)(hb:∀i,tbi b i=true→tbi p.Bits i=true):Pk e (aH.mk p.Mode p.cC p.Set p.Length p.TTL p.dG p.dH p.eO b p.cM):=by
 obtain⟨h1,h2,h3⟩:=h
 rw[oR]at h1
 refine⟨oR.2 ?_,h2,h3⟩
 obtain⟨a1,a2,a3,a4,a5⟩:=h1
 rw[aaD]at a4
 exact⟨a1,a2,a3,aaD.2 ⟨a4.1,λi hi=>a4.2 i (hb i hi)⟩,a5⟩
theorem zb{e:aC}{r:Int}{i:Nat}(h:tbi (dZ e r p) i=true):tbi p.Bits i=true:=by
 rw[dZ,tbn,Bool.and_eq_true]at h;exact h.1
theorem Pk.go{e:aC}(hE:Ve e)(h:Pk e p)(r:Int)(hr:dZ e r p≠0)(ht:0<p.TTL):Pk e (goP e r p):=by
 have h2:=(h.bits (dZ e r p) λi hi=>zb hi)
 have h3:=oR.1 h.v
 have:=h2.ttl (w64 (p.TTL-1)) (by rw[gO (by omega) (by omega)];omega)
 exact this
def mm(e:aC)(p:aH):Int:=if p.Mode=2 then if p.Length=e.Length then 0 else 8 else 7
theorem aj5(e:aC)(p:aH):lH e p=some (mm e p):=by
 unfold lH mm
 by_cases h1:p.Mode=2<;>by_cases h2:p.Length=e.Length<;>simp[h1,h2]
theorem aha(e:aC)(p:aH):rG e p=some (mm e p):=by
 unfold rG mm
 by_cases h1:p.Mode=2<;>by_cases h2:p.Length=e.Length<;>simp[h1,h2]
theorem Pk.afy{e:aC}(h:Pk e p):mm e p=0:=by unfold mm;rw[if_pos h.m,if_pos h.l]
end Go.Proofs.YtdjeacigeegklaaGreat
namespace Go.Proofs.YtdjeacigeegklaaGreat
set_option linter.all false
open Go
noncomputable def rM(t:aa)(r:Int)(a:aq):List Int×Bool:=if a.Kind=2 then(fZ t r a.To,decide ((0:Int)<((fZ t r a.To).length:Int)))else([a.To],dR t r a.To)
def wE(b:Int):Int→List Int→List b8
 |_,[]=>[]
 |r,x::l=>b8.mk r x b::wE b x l
theorem zd(b:Int):∀(r:Int) (l:List Int),(wE b r l).length=l.length
 |_,[]=>rfl
 |r,x::l=>by simp[wE,zd b x l]
def wF:Int→List Int→Int
 |r,[]=>r
 |_,x::l=>wF x l
noncomputable def okA(t:aa)(r:Int)(a:aq):Bool:=(rM t r a).2
noncomputable def acw(t:aa)(r b:Int)(l:List aq):List b8:=(l.filter (okA t r)).flatMap λa=>wE b r (rM t r a).1
noncomputable def acy(t:aa)(r:Int)(p:aH)(l:List aq):List bI:=(l.filter (okA t r)).map λa=>bI.mk (wF r (rM t r a).1) p
noncomputable def newL(t:aa)(r:Int)(l:List aq):List dY:=(l.filter λa=>!okA t r a).map λa=>dY.mk r (acv a)
def amh(r:Int)(p:aH)(a:aq):bX:=bX.mk r (aH.mk p.Mode p.cC p.Set p.Length p.TTL p.dG p.dH p.eO (acv a) p.cM)
def j9(e:aC)(r:Int)(p:aH):List bX:=(e.List.filter (fR r p)).map (amh r p)
def afz(e:aC)(r:Int)(p:aH):List dY:=if(gV e r p).mL=0 then[]else[dY.mk r (gV e r p).mL]
noncomputable def uL(e:aC)(t:aa)(v:bI):List b8:=acw t v.cc (dZ e v.cc v.gH) (cv e v.cc v.gH)
noncomputable def aaE(e:aC)(t:aa)(v:bI):List bI:=acy t v.cc (goP e v.cc v.gH) (cv e v.cc v.gH)
noncomputable def agJ(e:aC)(t:aa)(v:bI):List dY:=afz e v.cc v.gH++newL t v.cc (cv e v.cc v.gH)
noncomputable def aaF(e:aC)(t:aa):Nat→List bI→List bX→List b8→List dY→dB×Int
 |0,_,_,_,_=>(dB.mk [] [] [],11)
 |_+1,[],D,C,L=>(dB.mk D C L,0)
 |n+1,v::q,D,C,L=>if 2000<(C++uL e t v).length then(dB.mk [] [] [],11)else aaF e t n (q++aaE e t v) (D++j9 e v.cc v.gH) (C++uL e t v) (L++agJ e t v)
variable {a:aq}{r:Int}{t:aa}
theorem ami(h:okA t r a=true):1≤(rM t r a).1.length:=by
 unfold okA at h
 unfold rM at *
 by_cases h2:a.Kind=2
 ·rw[if_pos h2]at *;simp only[decide_eq_true_eq]at h;simp only;omega
 ·rw[if_neg h2];simp
variable {b:Int}{p:aH}
theorem aqX(l:List aq):(acy t r p l).length≤(acw t r b l).length:=by
 unfold acy acw
 rw[List.length_map,List.length_flatMap]
 have:∀m:List aq,(∀a∈m,okA t r a=true)→m.length≤(m.map λa=>(wE b r (rM t r a).1).length).sum:=by
  intro m
  induction m with
  |nil=>intro _;simp
  |cons a m ih=>
   intro h
   have h1:=ih λx hx=>h x (by simp[hx])
   have h2:=ami (h a (by simp))
   simp only[List.length_cons,List.map_cons,List.sum_cons,zd]
   simp only[zd]at h1
   omega
 exact this _ λa ha=>(List.mem_filter.1 ha).2
def runM(q:List bI)(C:List b8):Nat:=q.length+(2000-C.length)
theorem amj{e:aC}{v:bI}{q:List bI}{C:List b8}(h:¬2000<(C++uL e t v).length):runM (q++aaE e t v) (C++uL e t v)<runM (v::q) C:=by
 have:=aqX (t:=t) (r:=v.cc) (b:=dZ e v.cc v.gH) (p:=goP e v.cc v.gH) (cv e v.cc v.gH)
 unfold runM aaE
 unfold uL at h ⊢
 rw[List.length_append]at h ⊢
 rw[List.length_append,List.length_cons]
 omega
theorem auM{e:aC}(hE:Ve e)(i:Nat):tbi (gV e r p).Local i=true↔∃a∈e.List,fR r p a=true∧a.Bit=i:=by
 have key:∀(l:List aq) (acc:Int),(∀a∈l,0≤a.Bit∧a.Bit<64)→(tbi (l.foldl orA acc) i=true↔tbi acc i=true∨∃a∈l,a.Bit=i):=by
  intro l
  induction l with
  |nil=>intro acc _;simp
  |cons a l ih=>
   intro acc h
   have hb:=h a (by simp)
   rw[List.foldl_cons,ih _ λx hx=>h x (by simp[hx])]
   unfold orA acv
   rw[tbo,qq a.Bit.toNat i (by omega),Bool.or_eq_true,decide_eq_true_eq]
   constructor
   ·rintro((h|h)|⟨x,hx,h⟩)
    ·exact .inl h
    ·exact .inr ⟨a,by simp,by omega⟩
    ·exact .inr ⟨x,by simp[hx],h⟩
   ·rintro(h|⟨x,hx,h⟩)
    ·exact .inl (.inl h)
    ·rcases List.mem_cons.1 hx with rfl|hx
     ·exact .inl (.inr (by omega))
     ·exact .inr ⟨x,hx,h⟩
 show tbi ((e.List.filter (fR r p)).foldl orA 0) i=true↔_
 rw[key _ 0 λa ha=>hE.bit (List.mem_filter.1 ha).1,mF]
 simp only[Bool.false_eq_true,false_or,List.mem_filter,and_assoc]
theorem auN{e:aC}(hE:Ve e)(ha:a∈e.List):tbi (gV e r p).Local a.Bit.toNat=fR r p a:=by
 have hb:=hE.bit ha
 rw[Bool.eq_iff_iff,auM hE]
 constructor
 ·rintro⟨b,hb2,h1,h2⟩
  have:=hE.abd hb2 ha (by omega)
  subst this;exact h1
 ·intro h;exact⟨a,ha,h,by omega⟩
theorem ahb(hp:mU p=true)(h0:0≤b)(h1:b<64)(hb:tbi p.Bits b.toNat=true):nj p b=some (aH.mk p.Mode p.cC p.Set p.Length p.TTL p.dG p.dH p.eO (uK b.toNat) p.cM):=by
 unfold nj
 have e1:¬b<0:=by omega
 have e2:¬63<b:=by omega
 simp only[jn,mV,hp,aM,Bool.not_true,cond_false,decide_eq_false e1,decide_eq_false e2,decide_eq_true h0,chk,cond_true,anN p.Bits h0 h1,hb,if_true,aaA h0 h1]
 rfl
theorem aek{e:aC}(h:fR r p a=true):a.aO=r∧tbi p.Bits a.Bit.toNat=true∧a.Kind=3:=by
 simp only[fR,jl,Bool.and_eq_true,decide_eq_true_eq]at h
 exact⟨h.1.1,h.1.2,h.2⟩
theorem amk{β:Type}{e:aC}(hE:Ve e)(hp:mU p=true){D:List bX}(hD:D.length≤900000){K:List bX→Option β}:
  bO e.List 0 (λ(j2:Int) (e2:aq) (Z2:(List bX)→Option β) (m_4:(List bX))=>jn (λ(m_5:(List bX))=>Z2 m_5) λJ2=>chk (decide (0≤e2.Bit))<|bif decide (br .and .u64 (Int.fdiv (gV e r p).Local (2 ^ min e2.Bit.toNat 64)) (1:Int)=(1:Int))then bnd (nj p e2.Bit) λ(bH:aH)=>bnd (dL m_4 ([(bX.mk r bH)]:List bX)) λ(l_1:List bX)=>J2 l_1 else J2 m_4) K D=K (D++j9 e r p):=by
 have hl:=hE.small
 refine kS (L:=e.List) (λq m=>m=D++(q.filter (fR r p)).map (amh r p)) (λq l=>K (D++j9 e r p)) (λs hs=>by rw[hs];rfl) (λq x rest s Z h hi hZ=>?_) e.List [] D rfl (by simp)
 subst hi
 have hx:x∈e.List:=by rw[←h];simp
 obtain⟨b0,b1⟩:=hE.bit hx
 have hql:q.length≤64:=by
  have:e.List.length=q.length+(rest.length+1):=by rw[←h];simp
  omega
 have hfl:(q.filter (fR r p)).length≤64:=Nat.le_trans (List.length_filter_le _ _) hql
 simp only[jn]
 rw[decide_eq_true b0,anN _ b0 b1,auN hE hx]
 simp only[chk,cond_true]
 cases hc:fR r p x
 ·simp only[Bool.false_eq_true,if_false]
  refine hZ _ ?_
  simp[List.filter_append,List.filter_cons,hc]
 ·obtain⟨_,h2,_⟩:=aek (e:=e) hc
  simp only[if_true,decide_true,cond_true]
  rw[ahb hp b0 b1 h2,aM,lY (by simp;omega),aM]
  refine hZ _ ?_
  simp[List.filter_append,List.filter_cons,hc,amh,acv]
theorem ahR(f:Int→List Int)(b:Int):∀(n:Nat) (x:Int) (out:List Int),(rtF f b n x out).length≤out.length+n
 |0,_,_=>by simp[rtF]
 |n+1,x,out=>by
  rw[rtF]
  split
  ·omega
  ·split
   ·simp
   ·rename_i y _ _
    have:=ahR f b n y (out++[y])
    simp at this;omega
end Go.Proofs.YtdjeacigeegklaaGreat
namespace Go.Proofs.YtdjeacigeegklaaGreat
set_option linter.all false
open Go
noncomputable def tX(e:aC)(r:Int)(p:aH):cE×Int:=if mT e=0 then bif mU p then(if mm e p=0 then(gV e r p,0)else(cE.mk 0 0 [],mm e p))else(cE.mk 0 0 [],1)else(cE.mk 0 0 [],1)
theorem adt(e:aC)(r:Int)(p:aH)(hl:e.List.length≤1000):jI e r p=some (tX e r p):=by
 unfold jI tX
 simp only[jn,wA e (by omega),aM,mV,aj5]
 by_cases hv:mT e=0
 ·simp only[hv,decide_true,Bool.not_true,cond_false,if_true]
  cases hp:mU p
  ·rfl
  ·by_cases hs:mm e p=0
   ·simp only[hs,decide_true,Bool.not_true,cond_false,if_true,aiR (kH.1 hv),aM,cond_true]
   ·simp[hs]
 ·simp[hv]
theorem abu(e:aC)(r:Int)(p:aH)(hl:e.List.length≤1000):s7 e r p=some (tX e r p):=by
 unfold s7 tX
 simp only[oE e (show e.List.length≤1000000 by omega),aM,abJ,aha,ae3 e r (show e.List.length≤1000000 by omega)]
 by_cases hve:mT e=0
 rotate_left
 ·simp only[jn];simp[hve]
 have hv:=kH.1 hve
 cases hp:mU p
 ·simp only[jn];simp[hve]
 by_cases hs:mm e p=0
 rotate_left
 ·simp only[jn];simp[hve,hs]
 unfold jn
 simp only[hve,hs,decide_true,Bool.not_true,cond_false,if_true,cond_true]
 unfold gV cv
 refine kS (L:=e.List) (λq (sg:Int×Int×List aZ)=>sg=((q.filter (fR r p)).foldl orA 0,(q.filter (iz r p)).foldl orA 0,(q.filter (eU e r p)).map (eT e r p))) (λq l=>some (cE.mk ((e.List.filter (fR r p)).foldl orA 0) ((e.List.filter (iz r p)).foldl orA 0) ((e.List.filter (eU e r p)).map (eT e r p)),(0:Int))) (λs hs=>by rw[hs]) (λq x rest s Z h hi hZ=>?_) e.List [] _ rfl rfl
 subst hi
 have hx:x∈e.List:=by rw[←h];simp
 obtain⟨b0,b1⟩:=hv.bit hx
 have hel:=hv.small
 have hql:q.length≤64:=by
  have:e.List.length=q.length+(rest.length+1):=by rw[←h];simp
  omega
 have hfl:∀f:aq→Bool,(q.filter f).length≤64:=λf=>Nat.le_trans (List.length_filter_le _ _) hql
 have pass:(∀f,f=eU e r p∨f=fR r p∨f=iz r p→f x=false)→Z ((q.filter (fR r p)).foldl orA 0,(q.filter (iz r p)).foldl orA 0,(q.filter (eU e r p)).map (eT e r p))=some (cE.mk ((e.List.filter (fR r p)).foldl orA 0) ((e.List.filter (iz r p)).foldl orA 0) ((e.List.filter (eU e r p)).map (eT e r p)),(0:Int)):=λhf=>hZ _ (by
  simp only[List.filter_append,List.filter_cons,List.filter_nil,hf _ (.inl rfl),hf _ (.inr (.inl rfl)),hf _ (.inr (.inr rfl)),Bool.false_eq_true,if_false,List.append_nil])
 have ew:IntKind.wrap .u64 x.Bit=x.Bit:=wrap_u64 b0 (by omega)
 simp only[ew]
 rw[decide_eq_true b0,aaA b0 b1,abg b0 b1]
 simp only[chk,cond_true]
 have eh:(!decide (x.aO=r)||!tbi p.Bits x.Bit.toNat)=!jl r p x:=by unfold jl;cases decide (x.aO=r)<;>rfl
 rw[eh]
 cases hh:jl r p x
 ·exact pass λf hf=>by rcases hf with rfl|rfl|rfl<;>simp[eU,fR,iz,hh]
 simp only[Bool.not_true,cond_false]
 by_cases h3:x.Kind=3
 ·rw[decide_eq_true h3,cond_true]
  refine hZ _ ?_
  have e1:eU e r p x=false:=by simp[eU,h3]
  have e2:fR r p x=true:=by simp[fR,hh,h3]
  have e3:iz r p x=false:=by simp[iz,h3]
  simp only[List.filter_append,List.filter_cons,List.filter_nil,e1,e2,e3,Bool.false_eq_true,if_false,if_true,List.append_nil,List.foldl_append,List.foldl_cons,List.foldl_nil]
  rfl
 rw[decide_eq_false h3,cond_false]
 by_cases h4:p.TTL=0
 ·rw[decide_eq_true h4,cond_true]
  refine hZ _ ?_
  have e1:eU e r p x=false:=by simp[eU,h4]
  have e2:fR r p x=false:=by simp[fR,h3]
  have e3:iz r p x=true:=by simp[iz,hh,h3,h4]
  simp only[List.filter_append,List.filter_cons,List.filter_nil,e1,e2,e3,Bool.false_eq_true,if_false,if_true,List.append_nil,List.foldl_append,List.foldl_cons,List.foldl_nil]
  rfl
 rw[decide_eq_false h4,cond_false]
 by_cases h5:dZ e r p=0
 ·have h5':br .andNot .u64 p.Bits (qI e r)=0:=h5
  rw[decide_eq_true h5']
  exact pass λf hf=>by rcases hf with rfl|rfl|rfl<;>simp[eU,fR,iz,h3,h4,h5]
 ·have h5':¬br .andNot .u64 p.Bits (qI e r)=0:=h5
  rw[decide_eq_false h5']
  simp only[Bool.not_false,cond_true]
  have e1:eU e r p x=true:=by simp[eU,hh,h3,h4,h5]
  have e2:fR r p x=false:=by simp[fR,h3]
  have e3:iz r p x=false:=by simp[iz,h4]
  have:=hfl (eU e r p)
  have fin:∀rt:List Int,rt=(if x.Kind=2 then[x.To]else[])→(bnd (dL ((q.filter (eU e r p)).map (eT e r p)) ([(aZ.mk x.To (bL.mk rt (aH.mk p.Mode p.cC p.Set p.Length (w64 (p.TTL-(1:Int))) p.dG p.dH p.eO (br .andNot .u64 p.Bits (qI e r)) p.cM)))]:List aZ)) λ(l_1:List aZ)=>Z ((q.filter (fR r p)).foldl orA 0,(q.filter (iz r p)).foldl orA 0,l_1))=some (cE.mk ((e.List.filter (fR r p)).foldl orA 0) ((e.List.filter (iz r p)).foldl orA 0) ((e.List.filter (eU e r p)).map (eT e r p)),(0:Int)):=λrt hrt=>by
   rw[lY (by simp;omega),aM]
   refine hZ _ ?_
   simp only[List.filter_append,List.filter_cons,List.filter_nil,e1,e2,e3,Bool.false_eq_true,if_false,if_true,List.append_nil,List.map_append,List.map_cons,List.map_nil,hrt]
   rfl
  by_cases h2:x.Kind=2
  ·rw[decide_eq_true h2,cond_true];exact fin _ (by rw[if_pos h2])
  ·rw[decide_eq_false h2,cond_false];exact fin _ (by rw[if_neg h2])
theorem aaG:∀(l:List Int) (x:Int),(x::l).getLast?=some (wF x l)
 |[],x=>rfl
 |y::l,x=>by rw[List.getLast?_cons_cons];exact aaG l y
theorem oH{e:aC}{r:Int}{p:aH}{a:aq}(h:a∈cv e r p):a∈e.List∧a.aO=r∧tbi p.Bits a.Bit.toNat=true∧a.Kind≠3∧p.TTL≠0∧dZ e r p≠0:=by
 obtain⟨h1,h2⟩:=List.mem_filter.1 h
 simp only[eU,jl,Bool.and_eq_true,Bool.not_eq_true',decide_eq_false_iff_not,decide_eq_true_eq]at h2
 exact⟨h1,h2.1.1.1.1,h2.1.1.1.2,h2.1.1.2,h2.1.2,h2.2⟩
noncomputable def aiS(e:aC)(t:aa)(p:aH)(r:Int):dB×Int:=
 if mT e=0∧eS t=0∧mU p=true then(if r∈ids t then(if mm e p=0 then aaF e t 5000 [bI.mk r p] [] [] []else(dB.mk [] [] [],mm e p))else(dB.mk [] [] [],4))else(dB.mk [] [] [],1)
theorem anO{e:aC}{p:aH}(hp:mU p=true)(hs:mm e p=0):Pk e p:=by
 unfold mm at hs
 by_cases h1:p.Mode=2
 ·by_cases h2:p.Length=e.Length
  ·exact⟨hp,h1,h2⟩
  ·rw[if_pos h1,if_neg h2]at hs;cases hs
 ·rw[if_neg h1]at hs;cases hs
end Go.Proofs.YtdjeacigeegklaaGreat
namespace Go.Proofs.YtdjeacigeegklaaGreat
set_option linter.all false
open Go
variable {b:Int}{t:aa}
theorem ae6{a:Int}(hv:Vt t)(hne:a≠b):ta t a b=!decide (fZ t a b=[]):=by
 have key:ta t a b=(dT t a b).isSome:=by
  by_cases ha:a∈ids t
  ·by_cases hb:b∈ids t
   ·exact ahH hv ha hb
   ·rw[yf (λh=>hb h.2.2)]
    unfold ta
    rw[abb (r:=b),decide_eq_false hb];simp
  ·rw[yf (λh=>ha h.2.1)]
   unfold ta
   rw[abb (r:=a),decide_eq_false ha];simp
 rw[key]
 cases hd:dT t a b with
 |none=>
  have:fZ t a b=[]:=yg b (tg hd) hne []
  rw[this];rfl
 |some k=>
  obtain⟨y,r,_,h⟩:=adl hd hne
  rw[h];rfl
theorem vf(t:aa)(a b:Int):(fZ t a b).length≤30:=by
 have:=ahR (gi t b) b 30 a []
 simpa [fZ]using this
theorem cfA(l:List aq)(f:aq→Option Bool)(p:aq→Bool)(hf:∀x,f x=some (p x)):dK l f=some (l.any p):=by
 unfold dK ez
 obtain⟨r,h1,h2⟩:=tT (B:=λ(j1:Int) (e1:aq) (Z1:Unit→Option Int) (sg:Unit)=>match sg with|()=>bnd (f e1) λ(ai:Bool)=>bif ai then some (j1:Int)else Z1 ()) (K:=λ(sg:Unit)=>match sg with|()=>some (-1:Int)) p (λj x Z s=>by simp only[hf,aM]) (λ_=>rfl) l 0 ()
 simp only[h1,aM,h2]
def plB(e:aC):Bool:=decide (mT e=0)&&!e.List.any λa=>decide (a.Kind=2)
theorem o8(e:aC)(hl:e.List.length≤1000):nt e=some (plB e):=by
 unfold nt plB
 rw[wA e (by omega),aM,cfA e.List pK (λa=>decide (a.Kind=2)) (λ_=>rfl)]
 cases decide (mT e=0)<;>rfl
theorem ahd(e:aC)(hl:e.List.length≤1000):uH e=some (plB e):=by
 unfold uH plB
 refine(gL (λa:aq=>decide (a.Kind=2)) (some false) (λ_ _ _ _=>rfl) _ _ _).trans ?_
 rw[oE e (by omega),aM]
 cases e.List.any λa:aq=>decide (a.Kind=2)<;>simp
theorem yl{e:aC}:plB e=true↔Ve e∧∀a∈e.List,a.Kind≠2:=by
 unfold plB
 rw[Bool.and_eq_true,decide_eq_true_eq,kH,Bool.not_eq_true',any_false]
 simp
def iR(p:aH)(b:Int):List Int→aZ
 |[]=>aZ.mk 0 (bL.mk [] p)
 |x::l=>aZ.mk x (bL.mk l (aH.mk p.Mode p.cC p.Set p.Length p.TTL p.dG p.dH p.eO b p.cM))
theorem zg{α:Type}(x:α)(l:List α):mJ (x::l) (1:Int) (((x::l).length:Nat):Int)=some l:=by
 unfold mJ
 rw[if_pos ⟨by omega,by simp only[List.length_cons];omega,by omega⟩]
 simp
variable {c:aZ}{iL:List Int}
theorem abK(h:iL≠[])(hl:iL.length≤1000):jT c iL b=some (iR c.Frame.aB b iL):=by
 cases iL with
 |nil=>exact absurd rfl h
 |cons x l=>
  unfold jT
  have e0:elO (x::l) (0:Int)=some x:=rfl
  simp only[List.length_cons]at hl
  rw[e0,aM,zg,aM]
  unfold ki gQ
  rw[nu (by simp;omega)]
  rfl
variable {p:aH}
theorem aaH(h:iL≠[]):mC p b iL=some (iR p b iL):=by
 cases iL with
 |nil=>exact absurd rfl h
 |cons x l=>
  unfold mC
  have e0:elO (x::l) (0:Int)=some x:=rfl
  rw[e0,aM,zg,aM]
  rfl
noncomputable def fh(t:aa)(n r q:Int):List Int:=fZ (aP t (bg.mk [] [n])) r q
noncomputable def gq(t:aa)(n r:Int):List Int:=fZ (aP t (bg.mk [aN.mk r n] [])) r n
noncomputable def o6(t:aa)(n r:Int)(p:aH)(a:aq):Bool:=jl n p a&&!decide (a.Kind=3)&&!decide (a.To=r)&&decide (fh t n r a.To=[])
noncomputable def qe(t:aa)(n r:Int)(p:aH)(a:aq):Bool:=(jl n p a&&decide (a.Kind=3))||o6 t n r p a
noncomputable def pq(e:aC)(t:aa)(n r:Int)(p:aH)(a:aq):Bool:=jl n p a&&!decide (a.Kind=3)&&!decide (a.To=r)&&!decide (fh t n r a.To=[])&&!decide (dZ e n p=0)
noncomputable def trA(e:aC)(t:aa)(n r:Int)(p:aH)(q:List aq):List aZ×Int×Int:=
 ((q.filter (pq e t n r p)).map λa=>iR p (dZ e n p) (fh t n r a.To),(q.filter (qe t n r p)).foldl orA 0,(q.filter (o6 t n r p)).foldl orA 0)
noncomputable def ni(e:aC)(t:aa)(r n:Int)(p:aH):List aZ×Int:=
 if(trA e t n r p e.List).2.1=0 then((trA e t n r p e.List).1,0)else if gq t n r=[]then((trA e t n r p e.List).1,(trA e t n r p e.List).2.1)
 else((trA e t n r p e.List).1++[iR p (if(trA e t n r p e.List).2.2=0 then(trA e t n r p e.List).2.1 else br .or .u64 (trA e t n r p e.List).2.1 (dZ e n p)) (gq t n r)],0)
theorem agK(e:aC)(t:aa)(n r:Int)(p:aH)(q:List aq)(x:aq):trA e t n r p (q++[x]) =
  if jl n p x=true then(if x.Kind=3 then((trA e t n r p q).1,orA (trA e t n r p q).2.1 x,(trA e t n r p q).2.2)else if x.To=r then trA e t n r p q else if fh t n r x.To=[]then((trA e t n r p q).1,orA (trA e t n r p q).2.1 x,orA (trA e t n r p q).2.2 x)
   else if dZ e n p=0 then trA e t n r p q else((trA e t n r p q).1++[iR p (dZ e n p) (fh t n r x.To)],(trA e t n r p q).2))else trA e t n r p q:=by
 unfold trA
 by_cases h1:jl n p x=true
 ·by_cases h3:x.Kind=3
  ·simp[List.filter_append,List.filter_cons,pq,qe,o6,h1,h3]
  ·by_cases h4:x.To=r
   ·simp[List.filter_append,List.filter_cons,pq,qe,o6,h1,h3,h4]
   ·by_cases h5:fh t n r x.To=[]
    ·simp[List.filter_append,List.filter_cons,pq,qe,o6,h1,h3,h4,h5]
    ·by_cases h6:dZ e n p=0
     ·simp[List.filter_append,List.filter_cons,pq,qe,o6,h1,h3,h4,h5,h6]
     ·simp[List.filter_append,List.filter_cons,pq,qe,o6,h1,h3,h4,h5,h6]
 ·simp[List.filter_append,List.filter_cons,pq,qe,o6,h1]
theorem ym(e:aC)(t:aa)(n r:Int)(p:aH)(q:List aq):(trA e t n r p q).1.length≤q.length:=by
 unfold trA
 rw[List.length_map]
 exact List.length_filter_le _ _
variable {r:Int}
theorem agL{e:aC}(hE:Ve e)(hne:r≠c.To):oC e t r c=some (ni e t r c.To c.Frame.aB):=by
 have hl:=hE.small
 have hw:=gI t (bg.mk [] [c.To])
 have hnr:=hw.nr
 unfold oC
 rw[ahL e c.To (by omega),aM,xI,aM]
 refine kS (L:=e.List) (λq sg=>sg=trA e t c.To r c.Frame.aB q) (λ_ _=>some (ni e t r c.To c.Frame.aB)) (λs hs=>?_) (λq x rest s Z h hi hZ=>?_) e.List [] _ rfl rfl
 ·subst hs
  unfold ni
  have hlen:=ym e t c.To r c.Frame.aB e.List
  generalize trA e t c.To r c.Frame.aB e.List=T at hlen ⊢
  obtain⟨o,u,b0⟩:=T
  dsimp only at hlen ⊢
  by_cases h0:u=0
  ·rw[if_pos h0,decide_eq_true h0];rfl
  rw[if_neg h0,decide_eq_false h0,cond_false,xI,aM,adi,aM]
  show(bif decide (((gq t c.To r).length:Int)=0)then _ else _)=_
  by_cases hb:gq t c.To r=[]
  ·rw[if_pos hb,hb];rfl
  have hbl:((gq t c.To r).length:Int)≠0:=by
   have:=List.length_pos_iff.2 hb;omega
  rw[if_neg hb,decide_eq_false hbl,cond_false]
  have hlb:(gq t c.To r).length≤1000:=by have:=vf (aP t (bg.mk [aN.mk r c.To] [])) r c.To;unfold gq;omega
  have fin:∀b:Int,(bnd (jT c (gq t c.To r) b) λ(jY:aZ)=>bnd (dL o ([jY]:List aZ)) λ(l_2:List aZ)=>some (l_2,(0:Int)))=some (o++[iR c.Frame.aB b (gq t c.To r)],(0:Int)):=λb=>by
   rw[abK hb hlb,aM,lY (by omega),aM]
  simp only[jn]
  by_cases h2:b0=0
  ·rw[decide_eq_true h2,if_pos h2];exact fin _
  ·rw[decide_eq_false h2,if_neg h2];exact fin _
 subst hi
 have hx:x∈e.List:=by rw[←h];simp
 obtain⟨b0,b1⟩:=hE.bit hx
 have hlen:=ym e t c.To r c.Frame.aB q
 have hql:q.length≤64:=by
  have:e.List.length=q.length+(rest.length+1):=by rw[←h];simp
  omega
 rw[agK]at hZ
 unfold jn
 dsimp only
 rw[decide_eq_true b0,aaA b0 b1,abg b0 b1]
 simp only[chk,cond_true]
 have eh:(!decide (x.aO=c.To)||!tbi c.Frame.aB.Bits x.Bit.toNat)=!jl c.To c.Frame.aB x:=by unfold jl;cases decide (x.aO=c.To)<;>rfl
 rw[eh]
 by_cases hh:jl c.To c.Frame.aB x=true
 rotate_left
 ·rw[if_neg hh]at hZ
  rw[Bool.not_eq_true]at hh
  rw[hh];exact hZ _ rfl
 rw[if_pos hh]at hZ
 rw[hh,Bool.not_true,cond_false]
 by_cases h3:x.Kind=3
 ·rw[if_pos h3]at hZ
  rw[decide_eq_true h3];exact hZ _ rfl
 rw[if_neg h3]at hZ
 rw[decide_eq_false h3,cond_false]
 by_cases h4:x.To=r
 ·rw[if_pos h4]at hZ
  rw[decide_eq_true h4];exact hZ _ rfl
 rw[if_neg h4]at hZ
 rw[decide_eq_false h4,cond_false,afh _ _ _ (by omega),aM,ae6 hw (λh=>h4 h.symm)]
 show(bif !!decide (fh t c.To r x.To=[])then _ else _)=_
 rw[Bool.not_not]
 by_cases h5:fh t c.To r x.To=[]
 ·rw[if_pos h5]at hZ
  rw[decide_eq_true h5];exact hZ _ rfl
 rw[if_neg h5]at hZ
 rw[decide_eq_false h5,cond_false]
 show(bif !decide (dZ e c.To c.Frame.aB=0)then _ else _)=_
 by_cases h6:dZ e c.To c.Frame.aB=0
 ·rw[if_pos h6]at hZ
  rw[decide_eq_true h6];exact hZ _ rfl
 rw[if_neg h6]at hZ
 rw[decide_eq_false h6,Bool.not_false,cond_true,adi,aM]
 have hlv:(fh t c.To r x.To).length≤1000:=by have:=vf (aP t (bg.mk [] [c.To])) r x.To;unfold fh;omega
 show bnd (jT c (fh t c.To r x.To) (dZ e c.To c.Frame.aB)) _=_
 rw[abK h5 hlv,aM,lY (by omega),aM]
 exact hZ _ rfl
theorem ael{e:aC}(hE:Ve e)(hne:r≠c.To):rH e t r c=some (ni e t r c.To c.Frame.aB):=by
 have hl:=hE.small
 unfold rH
 rw[ae3 e c.To (by omega),aM,xH,aM]
 refine kS (L:=e.List) (λq sg=>sg=trA e t c.To r c.Frame.aB q) (λ_ _=>some (ni e t r c.To c.Frame.aB)) (λs hs=>?_) (λq x rest s Z h hi hZ=>?_) e.List [] _ rfl rfl
 ·subst hs
  unfold ni
  have hlen:=ym e t c.To r c.Frame.aB e.List
  generalize trA e t c.To r c.Frame.aB e.List=T at hlen ⊢
  obtain⟨o,u,b0⟩:=T
  dsimp only at hlen ⊢
  by_cases h0:u=0
  ·rw[if_pos h0,decide_eq_true h0];rfl
  rw[if_neg h0,decide_eq_false h0,cond_false,xH,aM,adk,aM]
  show(bif decide (((gq t c.To r).length:Int)=0)then _ else _)=_
  by_cases hb:gq t c.To r=[]
  ·rw[if_pos hb,hb];rfl
  have hbl:((gq t c.To r).length:Int)≠0:=by
   have:=List.length_pos_iff.2 hb;omega
  rw[if_neg hb,decide_eq_false hbl,cond_false]
  have fin:∀b:Int,(bnd (mC c.Frame.aB b (gq t c.To r)) λ(jY:aZ)=>bnd (dL o ([jY]:List aZ)) λ(l_2:List aZ)=>some (l_2,(0:Int)))=some (o++[iR c.Frame.aB b (gq t c.To r)],(0:Int)):=λb=>by
   rw[aaH hb,aM,lY (by omega),aM]
  simp only[jn]
  by_cases h2:b0=0
  ·rw[decide_eq_true h2,if_pos h2];exact fin _
  ·rw[decide_eq_false h2,if_neg h2];exact fin _
 subst hi
 have hx:x∈e.List:=by rw[←h];simp
 obtain⟨b0,b1⟩:=hE.bit hx
 have hlen:=ym e t c.To r c.Frame.aB q
 have hql:q.length≤64:=by
  have:e.List.length=q.length+(rest.length+1):=by rw[←h];simp
  omega
 have ew:IntKind.wrap .u64 x.Bit=x.Bit:=wrap_u64 b0 (by omega)
 rw[agK]at hZ
 unfold jn
 dsimp only
 rw[ew,decide_eq_true b0,aaA b0 b1,abg b0 b1]
 simp only[chk,cond_true]
 have eh:(!decide (x.aO=c.To)||(!tbi c.Frame.aB.Bits x.Bit.toNat||decide (x.To=r)))=(!jl c.To c.Frame.aB x||decide (x.To=r)):=by unfold jl;cases decide (x.aO=c.To)<;>rfl
 rw[eh]
 by_cases hh:jl c.To c.Frame.aB x=true
 rotate_left
 ·rw[if_neg hh]at hZ
  rw[Bool.not_eq_true]at hh
  rw[hh];exact hZ _ rfl
 rw[if_pos hh]at hZ
 rw[hh,Bool.not_true,Bool.false_or]
 have hxr:x.aO=c.To:=by
  unfold jl at hh
  simp only[Bool.and_eq_true,decide_eq_true_eq]at hh
  exact hh.1
 by_cases h3:x.Kind=3
 ·rw[if_pos h3]at hZ
  have h4:x.To≠r:=by
   have:=(hE.aee x hx).2 h3
   rw[this,hxr];exact λh=>hne h.symm
  rw[decide_eq_true h3,decide_eq_false h4];exact hZ _ rfl
 rw[if_neg h3]at hZ
 by_cases h4:x.To=r
 ·rw[if_pos h4]at hZ
  rw[decide_eq_true h4];exact hZ _ rfl
 rw[if_neg h4]at hZ
 rw[decide_eq_false h3,decide_eq_false h4,cond_false,cond_false,adk,aM]
 show(bif decide (((fh t c.To r x.To).length:Int)=0)then _ else _)=_
 by_cases h5:fh t c.To r x.To=[]
 ·rw[if_pos h5]at hZ
  rw[h5];exact hZ _ rfl
 rw[if_neg h5]at hZ
 have hbl:((fh t c.To r x.To).length:Int)≠0:=by
  have:=List.length_pos_iff.2 h5;omega
 rw[decide_eq_false hbl,cond_false]
 show(bif !decide (dZ e c.To c.Frame.aB=0)then _ else _)=_
 by_cases h6:dZ e c.To c.Frame.aB=0
 ·rw[if_pos h6]at hZ
  rw[decide_eq_true h6];exact hZ _ rfl
 rw[if_neg h6]at hZ
 rw[decide_eq_false h6,Bool.not_false,cond_true]
 show bnd (mC c.Frame.aB (dZ e c.To c.Frame.aB) (fh t c.To r x.To)) _=_
 rw[aaH h5,aM,lY (by omega),aM]
 exact hZ _ rfl
noncomputable def qK(e:aC)(t:aa)(r:Int)(d:List Int)(c:aZ):List aZ:=if c.To∈d then(ni e t r c.To c.Frame.aB).1 else[c]
noncomputable def xP(e:aC)(t:aa)(r:Int)(d:List Int)(s:Int)(c:aZ):Int:=if c.To∈d then br .or .u64 s (ni e t r c.To c.Frame.aB).2 else s
noncomputable def mo(e:aC)(t:aa)(r:Int)(p:aH)(d:List Int):cE:=
 cE.mk (gV e r p).Local ((gV e r p).cg.foldl (xP e t r d) (gV e r p).mL) ((gV e r p).cg.flatMap (qK e t r d))
noncomputable def pfT(e:aC)(t:aa)(r:Int)(p:aH)(d:List Int):cE×Int:=
 if(tX e r p).2=0 then(if plB e=true∧eS t=0 then(mo e t r p d,0)else(cE.mk 0 0 [],1))else(cE.mk 0 0 [],(tX e r p).2)
theorem aem(e:aC)(t:aa)(r n:Int)(p:aH):(ni e t r n p).1.length≤e.List.length+1:=by
 have:=ym e t n r p e.List
 unfold ni
 split
 ·simp only;omega
 ·split
  ·simp only;omega
  ·simp only[List.length_append,List.length_cons,List.length_nil];omega
theorem ahS(e:aC)(t:aa)(r:Int)(d:List Int)(l:List aZ):(l.flatMap (qK e t r d)).length≤(e.List.length+1)*l.length:=by
 induction l with
 |nil=>simp
 |cons c l ih=>
  rw[List.flatMap_cons,List.length_append,List.length_cons]
  have:(qK e t r d c).length≤e.List.length+1:=by
   unfold qK
   split
   ·exact aem _ _ _ _ _
   ·simp
  rw[Nat.mul_succ];omega
theorem ahT{β:Type}{e:aC}{d:List Int}(hl:e.List.length≤64){L:List aZ}(hL:L.length≤64){B:Int→aZ→(Int×List aZ→Option β)→Int×List aZ→Option β}{K:Int×List aZ→Option β}
  (hB:∀j x Z s m,x∈L→m.length≤100000→B j x Z (s,m)=Z (xP e t r d s x,m++qK e t r d x)) (s:Int):bO L 0 B K (s,[])=K (L.foldl (xP e t r d) s,L.flatMap (qK e t r d)):=by
 refine kS (L:=L) (λq sg=>sg=(q.foldl (xP e t r d) s,q.flatMap (qK e t r d))) (λ_ _=>K (L.foldl (xP e t r d) s,L.flatMap (qK e t r d))) (λs hs=>by rw[hs]) (λq x rest s Z h hi hZ=>?_) L [] _ rfl rfl
 subst hi
 have hx:x∈L:=by rw[←h];simp
 have hql:q.length≤64:=by
  have:L.length=q.length+(rest.length+1):=by rw[←h];simp
  omega
 have hm:=ahS e t r d q
 have:(e.List.length+1)*q.length≤65*64:=Nat.mul_le_mul (by omega) hql
 rw[hB _ _ _ _ _ hx (by omega)]
 exact hZ _ (by simp)
theorem ahU{e:aC}(h:(tX e r p).2=0):Ve e∧Pk e p∧tX e r p=(gV e r p,0):=by
 unfold tX at *
 by_cases h1:mT e=0
 ·rw[if_pos h1]at *
  cases hp:mU p
  ·rw[hp]at h;cases h
  ·rw[hp]at h
   rw[cond_true]at *
   by_cases hs:mm e p=0
   ·rw[if_pos hs];exact⟨kH.1 h1,anO hp hs,rfl⟩
   ·rw[if_neg hs]at h;exact absurd h hs
 ·rw[if_neg h1]at h;cases h
theorem ahV{e:aC}(hE:Ve e)(hc:c∈(gV e r p).cg):r≠c.To:=by
 obtain⟨a,ha,rfl⟩:=List.mem_map.1 hc
 obtain⟨h1,h2,_,h4,_⟩:=oH ha
 intro h
 have h:r=a.To:=h
 exact h4 ((hE.aee a h1).1 (by rw[h2,←h]))
theorem zx(e:aC)(t:aa)(r:Int)(p:aH)(d:List Int)(hl:e.List.length≤1000):lQ e t r p d=some (pfT e t r p d):=by
 unfold lQ pfT
 rw[adt e r p hl,aM]
 by_cases h0:(tX e r p).2=0
 rotate_left
 ·rw[decide_eq_false h0,if_neg h0];rfl
 obtain⟨hE,hP,hf⟩:=ahU h0
 rw[decide_eq_true h0,if_pos h0,Bool.not_true,cond_false,hf]
 simp only[jn,o8 e hl,aM]
 cases hp:plB e
 ·rw[if_neg (by simp)];rfl
 simp only[Bool.not_true,cond_false,oG,aM]
 by_cases hc:eS t=0
 rotate_left
 ·rw[if_neg (λh=>hc h.2),decide_eq_false hc];rfl
 rw[if_pos ⟨trivial,hc⟩,decide_eq_true hc,Bool.not_true,cond_false]
 have hs:=hE.small
 have hcl:(gV e r p).cg.length≤64:=by
  show((cv e r p).map _).length≤64
  rw[List.length_map];exact Nat.le_trans (List.length_filter_le _ _) hs
 refine(ahT (e:=e) (t:=t) (r:=r) (d:=d) hs hcl (λj x Z s m hx hm=>?_) _).trans rfl
 dsimp only
 rw[r9,aM]
 unfold xP qK
 by_cases hd:x.To∈d
 ·rw[decide_eq_true hd,if_pos hd,if_pos hd,Bool.not_true,cond_false,agL hE (ahV hE hx),aM]
  have:=aem e t r x.To x.Frame.aB
  rw[nu (by omega),aM]
 ·rw[decide_eq_false hd,if_neg hd,if_neg hd,Bool.not_false,cond_true,lY (by omega),aM]
theorem afi(e:aC)(t:aa)(r:Int)(p:aH)(d:List Int)(hl:e.List.length≤1000):s8 e t r p d=some (pfT e t r p d):=by
 unfold s8 pfT
 rw[abu e r p hl,aM]
 by_cases h0:(tX e r p).2=0
 rotate_left
 ·rw[decide_eq_false h0,if_neg h0];rfl
 obtain⟨hE,hP,hf⟩:=ahU h0
 rw[decide_eq_true h0,if_pos h0,Bool.not_true,cond_false,hf]
 simp only[jn,ahd e hl,aM]
 cases hp:plB e
 ·rw[if_neg (by simp)];rfl
 simp only[Bool.not_true,cond_false,rY,aM]
 by_cases hc:eS t=0
 rotate_left
 ·rw[if_neg (λh=>hc h.2),decide_eq_false hc];rfl
 rw[if_pos ⟨trivial,hc⟩,decide_eq_true hc,Bool.not_true,cond_false]
 have hs:=hE.small
 have hcl:(gV e r p).cg.length≤64:=by
  show((cv e r p).map _).length≤64
  rw[List.length_map];exact Nat.le_trans (List.length_filter_le _ _) hs
 refine(ahT (e:=e) (t:=t) (r:=r) (d:=d) hs hcl (λj x Z s m hx hm=>?_) _).trans rfl
 dsimp only
 rw[acq,aM]
 unfold xP qK
 by_cases hd:x.To∈d
 ·rw[decide_eq_true hd,if_pos hd,if_pos hd,Bool.not_true,cond_false,ael hE (ahV hE hx),aM]
  have:=aem e t r x.To x.Frame.aB
  rw[nu (by omega),aM]
 ·rw[decide_eq_false hd,if_neg hd,if_neg hd,Bool.not_false,cond_true,lY (by omega),aM]
def dnB(f:bg)(r n:Int):Bool:=decide (n∈f.ah)||(oD f.Links r n||oD f.Links n r)
def dnT(t:aa)(f:bg)(r:Int):List Int:=(if eS t=0 then lS t r else[]).filter (dnB f r)
theorem aiT(t:aa)(r:Int):(if eS t=0 then lS t r else[]).length≤100:=by
 split
 ·rename_i h;have:=aco (fC.1 h) r;omega
 ·simp
theorem agM(t:aa)(f:bg)(r:Int):oB t f r=some (dnT t f r):=by
 unfold oB dnT
 rw[ad5,aM]
 have:=aiT t r
 refine(lI (dnB f r) (λx:Int=>x) _ 0 [] (λj x Z s hx hs=>?_) (by simp;omega)).trans (by simp)
 unfold jn pJ dnB
 dsimp only
 rw[r9,aM,ad2,ad2]
 unfold oD
 cases decide (x∈f.ah)<;>cases f.Links.any (kj (aN.mk r x))<;>cases f.Links.any (kj (aN.mk x r))<;>simp only[aM,cond_true,cond_false,Bool.or_true,Bool.or_false,lY hs]
end Go.Proofs.YtdjeacigeegklaaGreat
namespace Go.Proofs.YtdjeacigeegklaaGreat
set_option linter.all false
open Go
noncomputable def nU(e:aC)(t:aa)(f:bg)(v:az):cE:=match v.cK.fU with
 |x::l=>cE.mk 0 0 [aZ.mk x (bL.mk l v.cK.aB)]
 |[]=>mo e t v.cc v.cK.aB (dnT t f v.cc)
def pz(e:aC)(v:az):List bX:=match v.cK.fU with
 |_::_=>[]
 |[]=>j9 e v.cc v.cK.aB
noncomputable def zh(e:aC)(t:aa)(f:bg)(v:az):List dY:=if(nU e t f v).mL=0 then[]else[dY.mk v.cc (nU e t f v).mL]
def okC(w:aa)(r:Int)(c:aZ):Bool:=dR w r c.To
def sCr(w:aa)(r:Int)(l:List aZ):List b8:=(l.filter (okC w r)).map λc=>b8.mk r c.To c.Frame.aB.Bits
def sQu(w:aa)(r:Int)(l:List aZ):List az:=(l.filter (okC w r)).map λc=>az.mk c.To c.Frame
def sLo(w:aa)(r:Int)(l:List aZ):List dY:=(l.filter λc=>!okC w r c).map λc=>dY.mk r c.Frame.aB.Bits
noncomputable def iW(e:aC)(t:aa)(f:bg)(w:aa)(v:az):List b8:=sCr w v.cc (nU e t f v).cg
noncomputable def gM(e:aC)(t:aa)(f:bg)(w:aa)(v:az):List az:=sQu w v.cc (nU e t f v).cg
noncomputable def wG(e:aC)(t:aa)(f:bg)(w:aa)(v:az):List dY:=zh e t f v++sLo w v.cc (nU e t f v).cg
noncomputable def oS(e:aC)(t:aa)(f:bg)(w:aa):Nat→List az→List bX→List b8→List dY→dB×Int
 |0,_,_,_,_=>(dB.mk [] [] [],11)
 |_+1,[],D,C,L=>(dB.mk D C L,0)
 |n+1,v::q,D,C,L=>if 2000<(C++iW e t f w v).length then(dB.mk [] [] [],11)else oS e t f w n (q++gM e t f w v) (D++pz e v) (C++iW e t f w v) (L++wG e t f w v)
theorem aen(w:aa)(r:Int)(l:List aZ):(sQu w r l).length=(sCr w r l).length:=by unfold sQu sCr;rw[List.length_map,List.length_map]
theorem ahW(w:aa)(r:Int)(l:List aZ):(sLo w r l).length≤l.length:=by unfold sLo;rw[List.length_map];exact List.length_filter_le _ _
theorem aqY(w:aa)(r:Int)(l:List aZ):(sCr w r l).length≤l.length:=by unfold sCr;rw[List.length_map];exact List.length_filter_le _ _
def qs(q:List az)(C:List b8):Nat:=q.length+(2000-C.length)
variable {f:bg}{t w:aa}
theorem aaI{e:aC}{v:az}{q:List az}{C:List b8}(h:¬2000<(C++iW e t f w v).length):qs (q++gM e t f w v) (C++iW e t f w v)<qs (v::q) C:=by
 have:=aen w v.cc (nU e t f v).cg
 unfold qs gM
 unfold iW at h ⊢
 rw[List.length_append]at h ⊢
 rw[List.length_append,List.length_cons]
 omega
theorem abL{e:aC}{t:aa}{f:bg}{w:aa}:∀(n m:Nat) (q:List az) (D:List bX) (C:List b8) (L:List dY),qs q C<n→qs q C<m→oS e t f w n q D C L=oS e t f w m q D C L
 |0,_,_,_,_,_,h,_=>by omega
 |_,0,_,_,_,_,_,h=>by omega
 |n+1,m+1,[],D,C,L,_,_=>rfl
 |n+1,m+1,v::q,D,C,L,h1,h2=>by
  rw[oS,oS]
  split
  ·rfl
  ·rename_i hc
   have:=aaI (e:=e) (t:=t) (f:=f) (w:=w) (q:=q) hc
   exact abL n m _ _ _ _ (by omega) (by omega)
theorem aml(w:aa)(r:Int)(q:List aZ)(x:aZ):sCr w r (q++[x])=sCr w r q++if okC w r x=true then[b8.mk r x.To x.Frame.aB.Bits]else[]:=by
 unfold sCr
 rw[List.filter_append,List.map_append]
 cases h:okC w r x<;>simp[List.filter_cons,h]
theorem amm(w:aa)(r:Int)(q:List aZ)(x:aZ):sQu w r (q++[x])=sQu w r q++if okC w r x=true then[az.mk x.To x.Frame]else[]:=by
 unfold sQu
 rw[List.filter_append,List.map_append]
 cases h:okC w r x<;>simp[List.filter_cons,h]
theorem amn(w:aa)(r:Int)(q:List aZ)(x:aZ):sLo w r (q++[x])=sLo w r q++if okC w r x=true then[]else[dY.mk r x.Frame.aB.Bits]:=by
 unfold sLo
 rw[List.filter_append,List.map_append]
 cases h:okC w r x<;>simp[List.filter_cons,h]
def mW(e:aC)(t:aa)(f:bg)(w:aa)(D:List bX)(C:List b8)(L:List dY)(Q:List az)(r:Int)(q:List aZ):cV:=
 cV.mk e t w f (dB.mk D (C++sCr w r q) (L++sLo w r q)) (Q++sQu w r q)
variable {L:List dY}{Q:List az}
theorem adv{e:aC}{D:List bX}{C:List b8}(hw:Vt w)(hC:C.length≤100000000)(hL:L.length≤100000000)(hQ:Q.length≤100000000)(r:Int)(q:List aZ)(hq:q.length≤100000)(x:aZ):
  gK (mW e t f w D C L Q r q) r x=some (mW e t f w D C L Q r (q++[x])):=by
 have hnl:=hw.nl
 have h1:=aqY w r q
 have h2:=ahW w r q
 have h3:=aen w r q
 unfold gK mW
 dsimp only
 rw[alZ w r x.To (by omega),aM,if_pos (fC.2 hw),aat,aml,amm,amn]
 show(bif !okC w r x then _ else _)=_
 cases hx:okC w r x
 ·rw[Bool.not_false,cond_true,nu (by simp;omega),aM]
  simp
 ·rw[Bool.not_true,cond_false,nu (by simp;omega),aM,nu (by simp;omega),aM]
  simp
theorem ae7{e:aC}(hE:Ve e)(t:aa)(r:Int)(p:aH)(d:List Int):(mo e t r p d).cg.length≤65*64:=by
 have hs:=hE.small
 have hcl:(gV e r p).cg.length≤64:=by
  show((cv e r p).map _).length≤64
  rw[List.length_map];exact Nat.le_trans (List.length_filter_le _ _) hs
 have:=ahS e t r d (gV e r p).cg
 have h2:(e.List.length+1)*(gV e r p).cg.length≤65*64:=Nat.mul_le_mul (by omega) hcl
 unfold mo
 dsimp only
 omega
theorem amo{e:aC}(hE:Ve e)(t:aa)(f:bg)(v:az):(nU e t f v).cg.length≤4160:=by
 unfold nU
 split
 ·simp
 ·exact ae7 hE _ _ _ _
theorem agN(e:aC)(t:aa)(f:bg)(v:az):(zh e t f v).length≤1:=by unfold zh;split<;>simp
theorem amp{e:aC}(hE:Ve e)(v:az):(pz e v).length≤64:=by
 unfold pz
 split
 ·simp
 ·unfold j9;rw[List.length_map];exact Nat.le_trans (List.length_filter_le _ _) hE.small
variable {p:aH}
theorem auO{e:aC}(hE:plB e=true)(ht:Vt t)(hp:Pk e p)(r:Int)(d:List Int):pfT e t r p d=(mo e t r p d,0):=by
 unfold pfT
 have hfw:tX e r p=(gV e r p,0):=by
  unfold tX;rw[if_pos (kH.2 (yl.1 hE).1),hp.v,hp.afy];rfl
 rw[hfw,if_pos rfl,if_pos ⟨hE,fC.2 ht⟩]
theorem agO{e:aC}(hE:plB e=true)(ht:Vt t)(hw:Vt w){D:List bX}{C:List b8}(hD:D.length≤900000)(hC:C.length≤2000)(hL:L.length≤90000000)(hQ:Q.length≤800000)(v:az)(hv:Pk e v.cK.aB):
  je (cV.mk e t w f (dB.mk D C L) Q) v=some (cV.mk e t w f (dB.mk (D++pz e v) (C++iW e t f w v) (L++wG e t f w v)) (Q++gM e t f w v)):=by
 obtain⟨r,⟨R,p⟩⟩:=v
 have hv:Pk e p:=hv
 have hEv:=(yl.1 hE).1
 unfold je
 cases R with
 |cons x l=>
  have e0:elO (x::l) (0:Int)=some x:=rfl
  dsimp only
  rw[decide_eq_true (by simp only[List.length_cons];omega),cond_true,e0,aM,zg,aM]
  have:=adv (e:=e) (t:=t) (f:=f) (D:=D) (C:=C) (L:=L) (Q:=Q) hw (by omega) (by omega) (by omega) r [] (by simp) (aZ.mk x (bL.mk l p))
  have e1:mW e t f w D C L Q r []=cV.mk e t w f (dB.mk D C L) Q:=by simp[mW,sCr,sLo,sQu]
  rw[e1]at this
  rw[this,aM]
  simp[mW,iW,gM,wG,zh,pz,nU]
 |nil=>
  dsimp only
  rw[decide_eq_false (by simp),cond_false,agM,aM,zx e t r p _ (by have:=hEv.small;omega),auO hE ht hv,aM]
  refine(amk (e:=e) (r:=r) (p:=p) hEv hv.v (D:=D) (by omega)).trans ?_
  have ax5:∀(J:List dY→Option cV),(bif !decide ((mo e t r p (dnT t f r)).mL=(0:Int))then bnd (dL L ([(dY.mk r (mo e t r p (dnT t f r)).mL)]:List dY)) λ(l_2:List dY)=>J l_2 else J L)=J (L++zh e t f (az.mk r (bL.mk [] p))):=λJ=>by
   unfold zh
   show _=J (L++if(mo e t r p (dnT t f r)).mL=0 then[]else[dY.mk r (mo e t r p (dnT t f r)).mL])
   by_cases hz:(mo e t r p (dnT t f r)).mL=0
   ·rw[decide_eq_true hz,if_pos hz];simp
   ·rw[decide_eq_false hz,if_neg hz]
    simp only[Bool.not_false,cond_true]
    rw[nu (by simp;omega),aM]
  unfold jn
  refine(ax5 _).trans ?_
  have hlo:=agN e t f (az.mk r (bL.mk [] p))
  have hcl:=ae7 hEv t r p (dnT t f r)
  generalize hL':L++zh e t f (az.mk r (bL.mk [] p))=L'
  have hLl:L'.length≤90000001:=by rw[←hL',List.length_append];omega
  have fin:some (cV.mk e t w f (dB.mk (D++pz e (az.mk r (bL.mk [] p))) (C++iW e t f w (az.mk r (bL.mk [] p))) (L++wG e t f w (az.mk r (bL.mk [] p)))) (Q++gM e t f w (az.mk r (bL.mk [] p))))=some (mW e t f w (D++j9 e r p) C L' Q r (mo e t r p (dnT t f r)).cg):=by
   unfold wG mW
   rw[←List.append_assoc,hL'];rfl
  rw[fin]
  refine kS (L:=(mo e t r p (dnT t f r)).cg) (λq sg=>sg=((mW e t f w (D++j9 e r p) C L' Q r q).ct.Length,(mW e t f w (D++j9 e r p) C L' Q r q).ct.List,(mW e t f w (D++j9 e r p) C L' Q r q).cS.ah,(mW e t f w (D++j9 e r p) C L' Q r q).cS.Links,(mW e t f w (D++j9 e r p) C L' Q r q).ei.ah,(mW e t f w (D++j9 e r p) C L' Q r q).ei.Links,(mW e t f w (D++j9 e r p) C L' Q r q).cB.Links,(mW e t f w (D++j9 e r p) C L' Q r q).cB.ah,(mW e t f w (D++j9 e r p) C L' Q r q).cL.dD,(mW e t f w (D++j9 e r p) C L' Q r q).cL.dI,(mW e t f w (D++j9 e r p) C L' Q r q).cL.iA,(mW e t f w (D++j9 e r p) C L' Q r q).iY)) (λ_ _=>some (mW e t f w (D++j9 e r p) C L' Q r (mo e t r p (dnT t f r)).cg)) (λs hs=>by rw[hs]) (λq x rest s Z h hi hZ=>?_) _ [] _ rfl (by simp[mW,sCr,sLo,sQu])
  subst hi
  have hql:q.length≤4160:=by
   have:(mo e t r p (dnT t f r)).cg.length=q.length+(rest.length+1):=by rw[←h];simp
   omega
  have hs:=adv (e:=e) (t:=t) (f:=f) (D:=D++j9 e r p) (C:=C) (L:=L') (Q:=Q) hw (by omega) (by omega) (by omega) r q (by omega) x
  show bnd (gK (mW e t f w (D++j9 e r p) C L' Q r q) r x) _=_
  rw[hs,aM]
  exact hZ _ rfl
theorem ae8{e:aC}(hp:Pk e p){b:Int}(hb:∀i,tbi b i=true→tbi p.Bits i=true)(l:List Int):Pk e (iR p b l).Frame.aB:=by
 cases l with
 |nil=>exact hp
 |cons x l=>exact hp.bits b hb
theorem ahe{l:List aq}(h:∀a∈l,(0≤a.Bit∧a.Bit<64)∧tbi p.Bits a.Bit.toNat=true):∀(s:Int),(∀i,tbi s i=true→tbi p.Bits i=true)→∀i,tbi (l.foldl orA s) i=true→tbi p.Bits i=true:=by
 induction l with
 |nil=>intro s hs;exact hs
 |cons a l ih=>
  intro s hs
  rw[List.foldl_cons]
  refine ih (λx hx=>h x (by simp[hx])) _ λi hi=>?_
  obtain⟨hb,ht⟩:=h a (by simp)
  unfold orA acv at hi
  rw[tbo,qq a.Bit.toNat i (by omega),Bool.or_eq_true,decide_eq_true_eq]at hi
  rcases hi with hi|rfl
  ·exact hs i hi
  ·exact ht
variable {r:Int}
theorem ahX{e:aC}(hE:Ve e){n:Int}:∀i,tbi (trA e t n r p e.List).2.1 i=true→tbi p.Bits i=true:=by
 refine ahe (λa ha=>?_) 0 (λi hi=>by rw[mF]at hi;cases hi)
 obtain⟨h1,h2⟩:=List.mem_filter.1 ha
 refine⟨hE.bit h1,?_⟩
 have:jl n p a=true:=by
  simp only[qe,o6,Bool.or_eq_true,Bool.and_eq_true]at h2
  rcases h2 with h2|h2
  ·exact h2.1
  ·exact h2.1.1.1
 simp only[jl,Bool.and_eq_true]at this
 exact this.2
variable {c:aZ}
theorem aj6{e:aC}(hE:Ve e){n:Int}(hp:Pk e p)(hc:c∈(ni e t r n p).1):Pk e c.Frame.aB:=by
 have hd:∀c∈(trA e t n r p e.List).1,Pk e c.Frame.aB:=λc hc=>by
  obtain⟨a,_,rfl⟩:=List.mem_map.1 hc
  exact ae8 hp (λi hi=>zb hi) _
 unfold ni at hc
 split at hc
 ·exact hd _ hc
 ·split at hc
  ·exact hd _ hc
  ·rcases List.mem_append.1 hc with hc|hc
   ·exact hd _ hc
   ·rw[List.mem_singleton]at hc
    subst hc
    refine ae8 hp (λi hi=>?_) _
    split at hi
    ·exact ahX hE i hi
    ·rw[tbo,Bool.or_eq_true]at hi
     rcases hi with hi|hi
     ·exact ahX hE i hi
     ·exact zb hi
theorem aqZ{e:aC}(hE:Ve e){d:List Int}(hp:Pk e p)(hc:c∈(mo e t r p d).cg):Pk e c.Frame.aB:=by
 obtain⟨x,hx,hxc⟩:=List.mem_flatMap.1 hc
 obtain⟨a,ha,rfl⟩:=List.mem_map.1 hx
 obtain⟨_,_,_,_,s5,s6⟩:=oH ha
 have ht:=(oR.1 hp.v).2.2.2.2.1
 have hg:Pk e (goP e r p):=hp.go hE r s6 (by omega)
 unfold qK at hxc
 split at hxc
 ·exact aj6 hE hg hxc
 ·rw[List.mem_singleton]at hxc
  subst hxc;exact hg
theorem aq0{e:aC}(hE:Ve e){v:az}(hp:Pk e v.cK.aB)(hc:c∈(nU e t f v).cg):Pk e c.Frame.aB:=by
 unfold nU at hc
 split at hc
 ·rw[List.mem_singleton]at hc
  subst hc;exact hp
 ·exact aqZ hE hp hc
theorem aq1{e:aC}(hE:Ve e){v u:az}(hp:Pk e v.cK.aB)(hu:u∈gM e t f w v):Pk e u.cK.aB:=by
 obtain⟨c,hc,rfl⟩:=List.mem_map.1 hu
 exact aq0 hE hp (List.mem_filter.1 hc).1
theorem aj7{e:aC}(hE:plB e=true)(hv:Vt t)(hp:Pk e p)(hr:r∈ids t)(hf:r∉f.ah):jq e t f p r=some (oS e t f (aP t f) 5000 [az.mk r (bL.mk [] p)] [] [] []):=by
 have hEv:=(yl.1 hE).1
 have hl:=hEv.small
 have hnr:=hv.nr
 have hw:=gI t f
 unfold jq
 simp only[jn,o8 e (show e.List.length≤1000 by omega),hE,aM,oG,fC.2 hv,mV,hp.v,yd t r (by omega),iy.1 hr,hp.m,hp.l,r9,decide_eq_false hf,xI,decide_true,Bool.and_true,Bool.not_true,cond_false]
 generalize aP t f=w at hw ⊢
 refine Ok.eq (Ok.whl (λsg:Int×(List aq)×(List aR)×(List aW)×(List aR)×(List aW)×(List aN)×(List Int)×(List bX)×(List b8)×(List dY)×(List az)=>match sg with|(m_1,m_2,m_3,m_4,m_5,m_6,m_7,m_8,D,C,L,q)=>(m_1=e.Length∧m_2=e.List∧m_3=t.ah∧m_4=t.Links∧m_5=w.ah∧m_6=w.Links∧m_7=f.Links∧m_8=f.ah)∧oS e t f w 5000 q D C L=oS e t f w 5000 [az.mk r (bL.mk [] p)] [] [] []∧(∀v∈q,Pk e v.cK.aB)∧C.length≤2000∧q.length≤C.length+1∧∃k:Nat,k+qs q C≤2001∧D.length≤64*k∧L.length≤4161*k) (λsg=>qs sg.2.2.2.2.2.2.2.2.2.2.2 sg.2.2.2.2.2.2.2.2.2.1) ⟨⟨rfl,rfl,rfl,rfl,rfl,rfl,rfl,rfl⟩,rfl,by simpa using hp,by simp,by simp,0,by simp[qs],by simp,by simp⟩ (by show qs [az.mk r (bL.mk [] p)] []<_;simp[qs]) ?_)
 rintro⟨m_1,m_2,m_3,m_4,m_5,m_6,m_7,m_8,D,C,L,q⟩ Z ⟨⟨rfl,rfl,rfl,rfl,rfl,rfl,rfl,rfl⟩,h1,h2,h3,h4,k,h5,h6,h7⟩ hZ
 dsimp only
 cases q with
 |nil=>
  simp only[List.length_nil,Int.natCast_zero,decide_false,Int.lt_irrefl,cond_false]
  exact⟨_,rfl,h1⟩
 |cons v q=>
  have hpv:=h2 v (by simp)
  rw[decide_eq_true (by simp only[List.length_cons];omega),cond_true]
  have e0:elO (v::q) (0:Int)=some v:=rfl
  simp only[List.length_cons]at h4
  have hk:k≤2001:=by omega
  rw[e0,aM,zg,aM]
  refine Ok.bnd (P:=λd=>d=cV.mk e t w f (dB.mk (D++pz e v) (C++iW e t f w v) (L++wG e t f w v)) (q++gM e t f w v)) ⟨_,agO (e:=e) (t:=t) (f:=f) (w:=w) hE hv hw (D:=D) (C:=C) (L:=L) (Q:=q) (by omega) h3 (by omega) (by omega) v hpv,rfl⟩ λd hd=>?_
  subst hd
  dsimp only
  have auP:oS e t f w 5000 (v::q) D C L=if 2000<(C++iW e t f w v).length then(dB.mk [] [] [],11)else oS e t f w 4999 (q++gM e t f w v) (D++pz e v) (C++iW e t f w v) (L++wG e t f w v):=rfl
  by_cases hb:2000<(C++iW e t f w v).length
  ·rw[decide_eq_true (by omega),cond_true]
   refine⟨_,rfl,?_⟩
   rw[←h1,auP,if_pos hb]
  ·rw[decide_eq_false (by omega),cond_false]
   have hless:=aaI (e:=e) (t:=t) (f:=f) (w:=w) (q:=q) hb
   have ax6:oS e t f w 4999 (q++gM e t f w v) (D++pz e v) (C++iW e t f w v) (L++wG e t f w v)=oS e t f w 5000 (q++gM e t f w v) (D++pz e v) (C++iW e t f w v) (L++wG e t f w v):=
    abL _ _ _ _ _ _ (by omega) (by omega)
   have hq2:=aen w v.cc (nU e t f v).cg
   have hD:=amp hEv v
   have hl1:=agN e t f v
   have hl2:=ahW w v.cc (nU e t f v).cg
   have hl3:=amo hEv t f v
   refine hZ _ ⟨⟨rfl,rfl,rfl,rfl,rfl,rfl,rfl,rfl⟩,?_,λu hu=>?_,(show(C++iW e t f w v).length≤2000 by omega),?_,k+1,?_,?_,?_⟩ hless
   ·rw[←h1,auP,if_neg hb,ax6]
   ·rcases List.mem_append.1 hu with hu|hu
    ·exact h2 u (by simp[hu])
    ·exact aq1 hEv hpv hu
   ·show(q++gM e t f w v).length≤(C++iW e t f w v).length+1
    unfold gM iW
    rw[List.length_append,List.length_append];omega
   ·show k+1+qs (q++gM e t f w v) (C++iW e t f w v)≤2001
    omega
   ·rw[List.length_append];omega
   ·show(L++(zh e t f v++sLo w v.cc (nU e t f v).cg)).length≤4161*(k+1)
    rw[List.length_append,List.length_append];omega
noncomputable def tY(e:aC)(t:aa)(f:bg)(p:aH)(r:Int):dB×Int:=
 if plB e=true∧eS t=0∧mU p=true then(if r∈ids t then(if mm e p=0 then(if r∈f.ah then(dB.mk [] [] [dY.mk r p.Bits],0)else oS e t f (aP t f) 5000 [az.mk r (bL.mk [] p)] [] [] [])else(dB.mk [] [] [],mm e p))else(dB.mk [] [] [],4))else(dB.mk [] [] [],1)
theorem afj(e:aC)(t:aa)(f:bg)(p:aH)(r:Int)(hl:e.List.length≤1000)(hr:t.ah.length≤1000):jq e t f p r=some (tY e t f p r):=by
 by_cases h:plB e=true∧eS t=0∧mU p=true
 rotate_left
 ·unfold tY jq
  rw[if_neg h]
  simp only[jn,o8 e hl,aM,oG,mV]
  cases h1:plB e
  ·rfl
  ·by_cases h2:eS t=0
   ·have h3:mU p=false:=by cases hp:mU p;rfl;exact absurd ⟨h1,h2,hp⟩ h
    simp[h2,h3]
   ·simp[h2]
 obtain⟨h1,h2,h3⟩:=h
 by_cases hid:r∈ids t
 rotate_left
 ·have hh:hasB t r=false:=by cases hb:hasB t r;rfl;exact absurd (iy.2 hb) hid
  unfold jq tY
  simp only[jn,o8 e hl,h1,aM,oG,h2,mV,h3,yd t r (by omega),hh,decide_true,Bool.and_false,Bool.not_true,cond_false,Bool.not_false,cond_true,and_self,if_true,if_neg hid]
 by_cases hs:mm e p=0
 rotate_left
 ·unfold jq tY
  simp only[jn,o8 e hl,h1,aM,oG,h2,mV,h3,yd t r (by omega),iy.1 hid,decide_true,Bool.and_true,Bool.not_true,cond_false,and_self,if_true,if_pos hid,if_neg hs]
  unfold mm at hs ⊢
  by_cases g1:p.Mode=2
  ·by_cases g2:p.Length=e.Length
   ·rw[if_pos g1,if_pos g2]at hs;exact absurd rfl hs
   ·simp[g1,g2]
  ·simp[g1]
 have hpk:=anO h3 hs
 by_cases hf:r∈f.ah
 ·unfold jq tY
  simp only[jn,o8 e hl,h1,aM,oG,h2,mV,h3,yd t r (by omega),iy.1 hid,hpk.m,hpk.l,r9,decide_eq_true hf,decide_true,Bool.and_true,Bool.not_true,cond_false,cond_true,and_self,if_true,if_pos hid,if_pos hs,if_pos hf]
 ·rw[aj7 h1 (fC.1 h2) hpk hid hf]
  unfold tY
  rw[if_pos ⟨h1,h2,h3⟩,if_pos hid,if_pos hs,if_neg hf]
end Go.Proofs.YtdjeacigeegklaaGreat
namespace Go.Proofs.YtdjeacigeegklaaGreat
set_option linter.all false
open Go
theorem ae9(t:aa)(n:Int):(kW t n).1.List.length≤1000:=by
 unfold kW
 by_cases h:eS t=0
 ·have:=y9 (fC.1 h)
  rw[if_pos h]
  cases !kT n
  ·by_cases h2:n<((gJ t).length:Int)
   ·simp[h2]
   ·simp only[h2,if_false,cond_false,rL];omega
  ·simp
 ·simp[h]
theorem aeo:jU=some true:=by
 have key:jU=(bnd (mD) λ(ai:aa)=>bnd (mN ai (16:Int)) λ(aI:aC×Int)=>bnd (mO aI.1 (dz.mk (1:Int) ([(aN.mk (1:Int) (2:Int)),(aN.mk (2:Int) (3:Int))]:List aN)) ([(2:Int),(3:Int)]:List Int)) λ(bf:Int×Int)=>bnd (mD) λ(bB:aa)=>bnd (s8 aI.1 bB (1:Int) (aH.mk (2:Int) (0:Int) (0:Int) (16:Int) (9:Int) (0:Int) (0:Int) (0:Int) bf.1 (⟨#[]⟩:ByteArray)) ([(2:Int)]:List Int)) λ(bD:cE×Int)=>(bif decide (bD.2=(0:Int))then(bif decide ((bD.1.cg.length:Int)=(2:Int))then bnd (elO bD.1.cg (0:Int)) λ(e_1:aZ)=>(bif decide (e_1.To=(4:Int))then bnd (fV e_1.Frame.fU ([(3:Int)]:List Int)) λ(cW:Bool)=>(bif cW then bnd (elO bD.1.cg (1:Int)) λ(e_2:aZ)=>bnd (fV e_2.Frame.fU ([(3:Int),(2:Int)]:List Int)) λ(bH:Bool)=>(bif bH then some (decide (bD.1.mL=(0:Int)))else some false)else some false)else some false)else some false)else some false)):=by
  unfold jU
  congr 1;funext v1
  rw[ads,aM,aM]
  congr 1;funext v3
  congr 1;funext v4
  rw[zx _ _ _ _ _ (ae9 _ _),afi _ _ _ _ _ (ae9 _ _)]
 exact key.trans (by kernel_rfl)
structure Ep(t:aa)(e:aC):Prop where
 f:Ef t e
 p:∀a∈e.List,a.Kind≠2
theorem Ep.pl{t:aa}{e:aC}(h:Ep t e):plB e=true:=yl.2 ⟨h.f.v,h.p⟩
def One(g:aa)(f:bg):Prop:=(∃l∈g.Links,f.ah=[]∧(f.Links=[aN.mk l.A l.B]∨f.Links=[aN.mk l.B l.A]))∨(∃r∈ids g,f.Links=[]∧f.ah=[r])
theorem One.len{g:aa}{f:bg}(h:One g f):f.Links.length≤1∧f.ah.length≤1:=by
 rcases h with⟨l,_,h1,h2|h2⟩|⟨r,_,h1,h2⟩<;>rw[h1,h2]<;>simp
theorem afk{t:bM}{g:aa}(h:ga t)(hr:1≤g.ah.length∧g.ah.length≤1000)(hl:g.Links.length≤1000):Ok (nH t g) (λq=>One g q.1∧ga q.2):=by
 unfold nH
 refine Ok.jn (λsg:Bool×List Int×Int=>(sg.1=true→0<g.Links.length)∧ga (bM.mk sg.2.1 sg.2.2)) (λs hs=>?_) λJ hJ=>?_
 ·obtain⟨b,L,A⟩:=s
  obtain⟨h1,h2⟩:=hs
  dsimp only
  refine Ok.cs (λhb=>?_) λ_=>?_
  ·have hp:=h1 hb
   refine Ok.bnd (f_n h2 (by omega)) λk hk=>Ok.bnd (iQ hk.1.1 (hk.1.2.1 (by omega))) λl hl=>Ok.bnd (f_n hk.2 (by omega)) λc hc=>Ok.cs (λ_=>Ok.s ⟨.inl ⟨l,hl.1,rfl,.inl rfl⟩,hc.2⟩) λ_=>Ok.s ⟨.inl ⟨l,hl.1,rfl,.inr rfl⟩,hc.2⟩
  ·refine Ok.bnd (f_n h2 (by omega)) λk hk=>Ok.bnd (iQ hk.1.1 (hk.1.2.1 (by omega))) λr hr=>Ok.s ⟨.inr ⟨r.ID,List.mem_map.2 ⟨r,hr.1,rfl⟩,rfl,rfl⟩,hk.2⟩
 ·refine Ok.cs (λhc=>?_) λ_=>hJ _ ⟨(λhb=>(by cases hb)),h⟩
  have hc:0<g.Links.length:=by simpa using hc
  exact Ok.bnd (f_n h (by omega)) λk hk=>hJ _ ⟨λ_=>hc,hk.2⟩
end Go.Proofs.YtdjeacigeegklaaGreat
namespace Go.Proofs.YtdjeacigeegklaaGreat
set_option linter.all false
open Go
structure agP(e:aC)(x:dz)(u:List Int):Prop where
 v:Vr x
 asc:u.Pairwise (·<·)
 sub:∀r∈u,r∈qc x
 fnd:∀k∈oQ x u,(gU e k).2=true
theorem agQ{g:aa}(hv:Vt g){e:aC}(he:kW g 64=(e,0)){r k q:Int}(hk:(r,k,q)∈gJ g):Ve e∧(gU e (bN.mk r k q)).2=true:=by
 obtain⟨h1,h2,_⟩:=aei (n:=64) hv (by rw[he])
 rw[he]at h1 h2
 have h1:Ef g e:=h1
 refine⟨h1.v,?_⟩
 obtain⟨i,hi⟩:=List.getElem?_of_mem hk
 have hm:=List.mem_of_getElem? (ahP 0 _ i r k q hi)
 have he2:e=aC.mk 64 (jk 0 (gJ g)):=(Prod.mk.inj h2).1
 have:=aj3 h1.v (a:=aq.mk ((0+i:Nat):Int) r k q) (by rw[he2];exact hm)
 unfold nw at this
 rw[if_pos (kH.2 h1.v)]at this
 show(xm e r k q).2=true
 rw[this]
theorem aq2{g:aa}(hv:Vt g){e:aC}(he:kW g 64=(e,0)){root:Int}(hr:root∈ids g){x:dz}(hx:Tn g root x){u:List Int}(hu:u.Sublist (qc x)):agP e x u:=by
 have hV:=hx.v hr
 refine⟨hV,(auK x).sublist hu,λr h=>hu.subset h,λk hk=>?_⟩
 rcases List.mem_append.1 hk with hk|hk
 ·obtain⟨r,hr2,rfl⟩:=List.mem_map.1 hk
  have hid:r∈ids g:=by
   rcases(aeh hV).1 (hu.subset hr2)with h|⟨h,hh,h2⟩
   ·rw[h,hx.rt];exact hr
   ·rw[←h2];exact nv hv (hx.adj h hh)
  exact(agQ hv he ((za hv).2 ⟨hid,.inl ⟨rfl,rfl⟩⟩)).2
 ·obtain⟨h,hh,rfl⟩:=List.mem_map.1 hk
  exact(agQ hv he ((za hv).2 ⟨nv hv (qb (hx.adj h hh)),.inr ⟨rfl,hx.adj h hh⟩⟩)).2
theorem agP.bits{e:aC}(hE:Ve e){x:dz}{u:List Int}(h:agP e x u):u9 e x u=((oQ x u).foldl (orK e) 0,0):=by
 unfold u9
 rw[if_pos (kH.2 hE),if_pos (adq.2 h.v)]
 have h1:jZ (λa b:Int=>decide (a<b)) u=true:=mR (h.asc.imp λh=>by simpa using h)
 have h2:u.any (λr=>!decide (r∈qc x))=false:=any_false.2 λr hr=>by simpa using h.sub r hr
 have h3:(oQ x u).any (λk=>!(gU e k).2)=false:=any_false.2 λk hk=>by simpa using h.fnd k hk
 rw[h1,h2,h3];rfl
theorem agP.val{e:aC}(hE:Ve e){x:dz}{u:List Int}(h:agP e x u):B64 ((oQ x u).foldl (orK e) 0)∧∀i,tbi ((oQ x u).foldl (orK e) 0) i=true↔∃k∈oQ x u,(gU e k).1=(i:Int):=by
 obtain⟨h1,h2⟩:=abf (e:=e) (oQ x u) 0 yh λk hk=>abe hE (h.fnd k hk)
 refine⟨h1,λi=>?_⟩
 rw[h2,mF];simp
def trT(x:dz)(y:Int):Prop:=y=x.cz∨∃h∈x.Links,h.To=y
structure Td(g:aa)(e:aC)(x:dz)(rs:List Int)(B:Int):Prop where
 hv:Vt g
 ef:Ef g e
 kd:∀a∈e.List,a.Kind≠2
 vr:Vr x
 rt:x.cz∈ids g
 adj:∀h∈x.Links,dR g h.bn h.To=true
 ends:∀y,trT x y→y∈rs∨∃h∈x.Links,h.bn=y
 sub:∀r∈rs,trT x r
 asc:rs.Pairwise (·<·)
 h3:∀r∈rs,∃a∈e.List,a.aO=r∧a.Kind=3
 h1:∀h∈x.Links,∃a∈e.List,a.aO=h.bn∧a.Kind=1∧a.To=h.To
 bits:∀a∈e.List,tbi B a.Bit.toNat=true↔(a.Kind=3∧a.aO∈rs)∨(a.Kind=1∧aN.mk a.aO a.To∈x.Links)
theorem abh{e:aC}(hv:Ve e){k:bN}(h:(gU e k).2=true):∃a∈e.List,a.aO=k.cc∧a.Kind=k.sU∧a.To=k.to_∧a.Bit=(gU e k).1:=by
 have hT:gU e k=nw e k.cc k.sU k.to_:=by unfold nw gU;rw[if_pos (kH.2 hv)]
 have e1:nw e k.cc k.sU k.to_=((gU e k).1,true):=by rw[←hT,←h]
 exact(ag8 e1).2
theorem ax7{g:aa}(hv:Vt g){e:aC}(he:kW g 64=(e,0)){root:Int}(hr:root∈ids g){x:dz}(hx:Tn g root x){u:List Int}(hu:u.Sublist (qc x))(hen:∀y∈qc x,(∀h∈x.Links,h.bn≠y)→y∈u):Td g e x u (u9 e x u).1∧(u9 e x u).2=0:=by
 have hn:=aq2 hv he hr hx hu
 obtain⟨q1,q2,_⟩:=aei (n:=64) hv (by rw[he])
 rw[he]at q1 q2
 have q1:Ef g e:=q1
 have he2:e=aC.mk 64 (jk 0 (gJ g)):=(Prod.mk.inj q2).1
 have hE:=q1.v
 have hV:=hx.v hr
 have kd:∀a∈e.List,a.Kind=3∨a.Kind=1:=λa ha=>by
  rw[he2]at ha
  rcases((za hv).1 (agF ha).1).2 with h|h
  ·exact .inl h.1
  ·exact .inr h.1
 rw[hn.bits hE]
 refine⟨⟨hv,q1,λa ha=>by have:=kd a ha;omega,hV,by rw[hx.rt];exact hr,hx.adj,λy hy=>?_,λr h=>(aeh hV).1 (hu.subset h),hn.asc,λr h=>?_,λh hh=>?_,λa ha=>?_⟩,rfl⟩
 ·by_cases h:∃h∈x.Links,h.bn=y
  ·exact .inr h
  ·exact .inl (hen y ((aeh hV).2 hy) λh' hh he=>h ⟨h',hh,he⟩)
 ·obtain⟨a,ha,a1,a2,_⟩:=abh hE (hn.fnd (tV r) (List.mem_append_left _ (List.mem_map.2 ⟨r,h,rfl⟩)))
  exact⟨a,ha,a1,a2⟩
 ·obtain⟨a,ha,a1,a2,a3,_⟩:=abh hE (hn.fnd (tW h) (List.mem_append_right _ (List.mem_map.2 ⟨h,hh,rfl⟩)))
  exact⟨a,ha,a1,a2,a3⟩
 ·rw[(hn.val hE).2]
  have hb:=hE.bit ha
  constructor
  ·rintro⟨k,hk,hkb⟩
   obtain⟨b,hb1,b1,b2,b3,b4⟩:=abh hE (hn.fnd k hk)
   have:b=a:=hE.abd hb1 ha (by omega)
   subst this
   rcases List.mem_append.1 hk with hk|hk
   ·obtain⟨r,hr2,rfl⟩:=List.mem_map.1 hk
    exact .inl ⟨b2,by rw[b1];exact hr2⟩
   ·obtain⟨h,hh,rfl⟩:=List.mem_map.1 hk
    refine .inr ⟨b2,?_⟩
    rw[b1,b3];exact hh
  ·intro h
   have key:∀k∈oQ x u,k=tgA a→∃k∈oQ x u,(gU e k).1=(a.Bit.toNat:Int):=λk hk hka=>by
    obtain⟨b,hb1,b1,b2,b3,b4⟩:=abh hE (hn.fnd k hk)
    have:b=a:=hE.key_inj hb1 ha (by rw[←hka];simp[tgA,b1,b2,b3])
    subst this
    exact⟨k,hk,by omega⟩
   rcases h with⟨h1,h2⟩|⟨h1,h2⟩
   ·have ht:a.To=a.aO:=(hE.aee a ha).2 h1
    exact key (tV a.aO) (List.mem_append_left _ (List.mem_map.2 ⟨_,h2,rfl⟩)) (by simp[tV,tgA,h1,ht])
   ·exact key (tW (aN.mk a.aO a.To)) (List.mem_append_right _ (List.mem_map.2 ⟨_,h2,rfl⟩)) (by simp[tW,tgA,h1])
theorem aiU(t:aa)(n:Int):(kW t n).1.List.length≤1000:=by
 unfold kW
 by_cases h:eS t=0
 ·have:=y9 (fC.1 h)
  rw[if_pos h]
  cases !kT n
  ·by_cases h2:n<((gJ t).length:Int)
   ·simp[h2]
   ·simp only[h2,if_false,cond_false,rL];omega
  ·simp
 ·simp[h]
section
variable {g:aa}{e:aC}{x:dz}{rs:List Int}{B:Int}
theorem adw{l:List aN}(h:l.Pairwise λa b=>ltH a b=true):l.Nodup:=h.imp λ{a b} hab e=>by subst e;simp[ltH]at hab
theorem Td.inG(h:Td g e x rs B){y:Int}(hy:trT x y):y∈ids g:=by
 rcases hy with rfl|⟨k,hk,rfl⟩
 ·exact h.rt
 ·exact nv h.hv (h.adj k hk)
theorem Td.one(h:Td g e x rs B){a b:aN}(ha:a∈x.Links)(hb:b∈x.Links)(he:a.To=b.To):a=b:=by
 have hd:=h.vr.dup
 have:∀(l:List aN),(l.Pairwise λa b=>a.To≠b.To)→a∈l→b∈l→a=b:=λl=>by
  induction l with
  |nil=>intro _ h;cases h
  |cons c l ih=>
   intro hp h1 h2
   rw[List.pairwise_cons]at hp
   rcases List.mem_cons.1 h1 with e1|h3
   ·rcases List.mem_cons.1 h2 with e2|h4
    ·rw[e1,e2]
    ·rw[e1]at he;exact absurd he (hp.1 b h4)
   ·rcases List.mem_cons.1 h2 with e2|h4
    ·rw[e2]at he;exact absurd he.symm (hp.1 a h3)
    ·exact ih hp.2 h3 h4
 exact this _ hd ha hb
theorem Td.from(h:Td g e x rs B){k:aN}(hk:k∈x.Links):trT x k.bn:=by
 have key:∀y,Rch x.cz x.Links y→trT x y:=λy hy=>by
  cases hy with
  |root=>exact .inl rfl
  |step k' h1 _=>exact .inr ⟨k',h1,rfl⟩
 exact key _ (h.vr.rch k hk)
theorem Td.has(h:Td g e x rs B){y:Int}(hy:trT x y):∃a∈e.List,a.aO=y∧tbi B a.Bit.toNat=true:=by
 rcases h.ends y hy with hr|⟨k,hk,rfl⟩
 ·obtain⟨a,ha,a1,a2⟩:=h.h3 y hr
  exact⟨a,ha,a1,(h.bits a ha).2 (.inl ⟨a2,by rw[a1];exact hr⟩)⟩
 ·obtain⟨a,ha,a1,a2,a3⟩:=h.h1 k hk
  exact⟨a,ha,a1,(h.bits a ha).2 (.inr ⟨a2,by rw[a1,a3];exact hk⟩)⟩
def jm(a:aq):aN:=aN.mk a.aO a.To
theorem abi(hE:Ve e):e.List.Nodup:=hE.asc.imp λ{a b} hab he=>by subst he;omega
theorem oT(hE:Ve e){y:Int}{p:aH}{b:aq}(hb:b∈e.List)(hby:b.aO≠y):tbi (dZ e y p) b.Bit.toNat=tbi p.Bits b.Bit.toNat:=by
 unfold dZ
 rw[tbn]
 have:tbi (qI e y) b.Bit.toNat=false:=by
  cases hq:tbi (qI e y) b.Bit.toNat
  ·rfl
  ·obtain⟨c,hc,c1,c2⟩:=(aj2 hE y _).1 hq
   have hbb:=hE.bit hb
   have:=hE.abd hc hb (by omega)
   subst this
   exact absurd c1 hby
 rw[this];simp
theorem amq(hE:Ve e){y:Int}{p:aH}{b:aq}(hb:b∈e.List)(hby:b.aO=y):tbi (dZ e y p) b.Bit.toNat=false:=by
 unfold dZ
 have hbb:=hE.bit hb
 rw[tbn,(aj2 hE y b.Bit.toNat).2 ⟨b,hb,hby,by omega⟩];simp
theorem aiV{v:Int}{i:Nat}(h:tbi v i=true):v≠0:=λh0=>by rw[h0,mF]at h;cases h
theorem Td.rest(h:Td g e x rs B){y:Int}{p:aH}{z:Int}(hz:trT x z)(hzy:z≠y)(hp:∀a∈e.List,a.aO=z→tbi p.Bits a.Bit.toNat=tbi B a.Bit.toNat):dZ e y p≠0:=by
 obtain⟨a,ha,a1,a2⟩:=h.has hz
 refine aiV (i:=a.Bit.toNat) ?_
 rw[oT h.ef.v ha (by rw[a1];exact hzy),hp a ha a1,a2]
theorem wH{α β:Type}{l:List α}{f:α→β}{m:List β}(hl:l.Nodup)(hf:∀a∈l,∀b∈l,f a=f b→a=b)(hm:m.Nodup)(h:∀y,(∃a∈l,f a=y)↔y∈m):(l.map f).Perm m:=by
 have hn:(l.map f).Nodup:=by
  induction l with
  |nil=>simp
  |cons a l ih=>
   rw[List.nodup_cons]at hl
   rw[List.map_cons,List.nodup_cons]
   refine⟨λhx=>?_,?_⟩
   ·obtain⟨b,hb,hbe⟩:=List.mem_map.1 hx
    have:=hf b (by simp[hb]) a (by simp) hbe
    subst this;exact hl.1 hb
   ·clear h hm
    have ih2:∀(l:List α),l.Nodup→(∀a∈l,∀b∈l,f a=f b→a=b)→(l.map f).Nodup:=λl=>by
     induction l with
     |nil=>intros;simp
     |cons c l ih=>
      intro h1 h2
      rw[List.nodup_cons]at h1
      rw[List.map_cons,List.nodup_cons]
      refine⟨λhx=>?_,ih h1.2 λa ha b hb=>h2 a (by simp[ha]) b (by simp[hb])⟩
      obtain⟨b,hb,hbe⟩:=List.mem_map.1 hx
      have:=h2 b (by simp[hb]) c (by simp) hbe
      subst this;exact h1.1 hb
    exact ih2 l hl.2 λa ha b hb=>hf a (by simp[ha]) b (by simp[hb])
 refine(List.perm_ext_iff_of_nodup hn hm).2 λy=>?_
 rw[←h y,List.mem_map]
theorem Td.adx(h:Td g e x rs B){y:Int}{p:aH}(S:aN→Bool)(hp:∀a∈e.List,a.aO=y→a.Kind=1→(tbi p.Bits a.Bit.toNat=true↔aN.mk y a.To∈x.Links∧S (aN.mk y a.To)=true))(ht:p.TTL≠0)(hr:∀k∈x.Links,k.bn=y→S k=true→dZ e y p≠0):((cv e y p).map jm).Perm (x.Links.filter λk=>decide (k.bn=y)&&S k):=by
 have hE:=h.ef.v
 have hs:∀a,a∈cv e y p↔a∈e.List∧a.aO=y∧a.Kind=1∧aN.mk y a.To∈x.Links∧S (aN.mk y a.To)=true:=λa=>by
  unfold cv
  rw[List.mem_filter]
  constructor
  ·rintro⟨h1,h2⟩
   simp only[eU,jl,Bool.and_eq_true,Bool.not_eq_true',decide_eq_true_eq,decide_eq_false_iff_not]at h2
   obtain⟨⟨⟨⟨q1,q2⟩,q3⟩,_⟩,_⟩:=h2
   have hk:a.Kind=1:=by have:=hE.kind a h1;have:=h.kd a h1;omega
   obtain⟨q4,q5⟩:=(hp a h1 q1 hk).1 q2
   exact⟨h1,q1,hk,q4,q5⟩
  ·rintro⟨h1,h2,h3,h4,h5⟩
   refine⟨h1,?_⟩
   have hb:tbi p.Bits a.Bit.toNat=true:=(hp a h1 h2 h3).2 ⟨h4,h5⟩
   have:=hr _ h4 rfl h5
   simp[eU,jl,h2,hb,h3,ht,this]
 refine wH ((abi hE).sublist List.filter_sublist) (λa ha b hb hab=>?_) ((adw h.vr.asc).sublist List.filter_sublist) λk=>?_
 ·obtain⟨a1,a2,a3,_⟩:=(hs a).1 ha
  obtain⟨b1,b2,b3,_⟩:=(hs b).1 hb
  refine hE.key_inj a1 b1 ?_
  simp only[jm,aN.mk.injEq]at hab
  simp[tgA,hab.1,hab.2,a3,b3]
 ·rw[List.mem_filter,Bool.and_eq_true,decide_eq_true_eq]
  constructor
  ·rintro⟨a,ha,rfl⟩
   obtain⟨_,a2,_,a4,a5⟩:=(hs a).1 ha
   rw[←a2]at a4 a5
   exact⟨a4,a2,a5⟩
  ·rintro⟨h1,h2,h3⟩
   obtain⟨a,ha,a1,a2,a3⟩:=h.h1 k h1
   have e1:jm a=k:=by unfold jm;rw[a1,a3]
   have e2:aN.mk y a.To=k:=by rw[←h2,a3]
   exact⟨a,(hs a).2 ⟨ha,by rw[a1,h2],a2,by rw[e2];exact h1,by rw[e2];exact h3⟩,e1⟩
theorem Td.acz(h:Td g e x rs B){a:aq}(ha:a∈e.List)(hk:a.Kind=1):tbi B a.Bit.toNat=true↔aN.mk a.aO a.To∈x.Links:=by
 rw[h.bits a ha]
 constructor
 ·rintro(⟨q,_⟩|⟨_,q⟩)
  ·omega
  ·exact q
 ·intro q;exact .inr ⟨hk,q⟩
theorem Td.amr(h:Td g e x rs B){a:aq}(ha:a∈e.List)(hk:a.Kind=3):tbi B a.Bit.toNat=true↔a.aO∈rs:=by
 rw[h.bits a ha]
 constructor
 ·rintro(⟨_,q⟩|⟨q,_⟩)
  ·exact q
  ·omega
 ·intro q;exact .inl ⟨hk,q⟩
theorem Td.ax8(h:Td g e x rs B){y:Int}{p:aH}(hp:∀a∈e.List,a.aO=y→tbi p.Bits a.Bit.toNat=tbi B a.Bit.toNat)(ht:p.TTL≠0)(hr:∀k∈x.Links,k.bn=y→dZ e y p≠0):((cv e y p).map jm).Perm (x.Links.filter λk=>decide (k.bn=y)):=by
 have:=h.adx (y:=y) (p:=p) (λ_=>true) (λa ha h1 h2=>by rw[hp a ha h1,h.acz ha h2,h1];simp) ht λk hk h1 _=>hr k hk h1
 simpa using this
theorem Td.aiW(h:Td g e x rs B){y:Int}{p:aH}(hp:∀a∈e.List,a.aO=y→a.Kind=3→tbi p.Bits a.Bit.toNat=tbi B a.Bit.toNat):(e.List.filter (fR y p)).map (·.aO)=if y∈rs then[y]else[]:=by
 have hE:=h.ef.v
 have hs:∀a,a∈e.List.filter (fR y p)↔a∈e.List∧a.aO=y∧a.Kind=3∧y∈rs:=λa=>by
  rw[List.mem_filter]
  constructor
  ·rintro⟨h1,h2⟩
   obtain⟨q1,q2,q3⟩:=aek (e:=e) h2
   rw[hp a h1 q1 q3,h.bits a h1]at q2
   rcases q2 with q2|q2
   ·exact⟨h1,q1,q3,by rw[←q1];exact q2.2⟩
   ·omega
  ·rintro⟨h1,h2,h3,h4⟩
   refine⟨h1,?_⟩
   have hb:tbi p.Bits a.Bit.toNat=true:=by rw[hp a h1 h2 h3,h.bits a h1];exact .inl ⟨h3,by rw[h2];exact h4⟩
   simp[fR,jl,h2,hb,h3]
 have hp:((e.List.filter (fR y p)).map (·.aO)).Perm (if y∈rs then[y]else[]):=by
  refine wH ((abi hE).sublist List.filter_sublist) (λa ha b hb hab=>?_) (by split<;>simp) λk=>?_
  ·obtain⟨a1,a2,a3,_⟩:=(hs a).1 ha
   obtain⟨b1,b2,b3,_⟩:=(hs b).1 hb
   refine hE.key_inj a1 b1 ?_
   simp[tgA,a2,b2,a3,b3,(hE.aee a a1).2 a3,(hE.aee b b1).2 b3]
  ·constructor
   ·rintro⟨a,ha,rfl⟩
    obtain⟨_,a2,_,a4⟩:=(hs a).1 ha
    rw[if_pos a4,a2];simp
   ·intro hk
    split at hk
    ·rename_i hy
     rw[List.mem_singleton]at hk
     subst hk
     obtain⟨a,ha,a1,a2⟩:=h.h3 k hy
     exact⟨a,(hs a).2 ⟨ha,a1,a2,hy⟩,a1⟩
    ·cases hk
 split
 ·rename_i hy
  rw[if_pos hy]at hp
  exact List.perm_singleton.1 hp
 ·rename_i hy
  rw[if_neg hy]at hp
  exact List.perm_nil.1 hp
end
end Go.Proofs.YtdjeacigeegklaaGreat
namespace Go.Proofs.YtdjeacigeegklaaGreat
set_option linter.all false
open Go
theorem afa{e:aC}{t:aa}(I:List bI→List bX→List b8→List dY→Prop)
  (hs:∀v q D C L,I (v::q) D C L→(C++uL e t v).length≤2000∧I (q++aaE e t v) (D++j9 e v.cc v.gH) (C++uL e t v) (L++agJ e t v)):∀(n:Nat) (q:List bI) (D:List bX) (C:List b8) (L:List dY),runM q C<n→I q D C L→
  ∃D' C' L',aaF e t n q D C L=(dB.mk D' C' L',0)∧I [] D' C' L'
 |0,_,_,_,_,h,_=>by omega
 |n+1,[],D,C,L,_,h=>⟨D,C,L,rfl,h⟩
 |n+1,v::q,D,C,L,hn,h=>by
  obtain⟨h1,h2⟩:=hs v q D C L h
  have hc:¬2000<(C++uL e t v).length:=by omega
  have:=amj (e:=e) (t:=t) (q:=q) hc
  rw[aaF,if_neg hc]
  exact afa I hs n _ _ _ _ (by omega) h2
theorem filter_or{α:Type}(p q:α→Bool):∀(l:List α),(∀a∈l,p a=true→q a=false)→(l.filter λa=>p a||q a).Perm (l.filter p++l.filter q)
 |[],_=>by simp
 |a::l,h=>by
  have ih:=filter_or p q l λx hx=>h x (by simp[hx])
  cases hp:p a
  ·cases hq:q a
   ·simpa [List.filter_cons,hp,hq]using ih
   ·simp only[List.filter_cons,hp,hq,Bool.false_or,if_true,Bool.false_eq_true,if_false]
    exact(ih.cons a).trans List.perm_middle.symm
  ·have hq:=h a (by simp) hp
   simp only[List.filter_cons,hp,hq,Bool.or_false,if_true,Bool.false_eq_true,if_false,List.cons_append]
   exact ih.cons a
def aiX(c:b8):aN:=aN.mk c.bn c.To
structure aiY(e:aC)(x:dz)(rs:List Int)(Q:aH)(q:List bI)(D:List bX)(C:List b8)(L:List dY)(done:List Int):Prop where
 nd:(q.map (·.cc)++done).Nodup
 tr:∀y∈q.map (·.cc)++done,trT x y
 rt:x.cz∈q.map (·.cc)++done
 par:∀y∈q.map (·.cc)++done,y≠x.cz→∃h∈x.Links,h.To=y∧h.bn∈done
 kid:∀h∈x.Links,h.bn∈done→h.To∈q.map (·.cc)++done
 cr:(C.map aiX).Perm (x.Links.filter λh=>decide (h.bn∈done))
 de:(D.map (·.aO)).Perm (done.filter λy=>decide (y∈rs))
 pl:∀d∈D,d.aB.cM=Q.cM
 lo:L=[]
 pk:∀v∈q,Pk e v.gH∧63-(done.length:Int)≤v.gH.TTL∧v.gH.cM=Q.cM∧∀a∈e.List,a.aO∉done→tbi v.gH.Bits a.Bit.toNat=tbi Q.Bits a.Bit.toNat
section
variable {g:aa}{e:aC}{x:dz}{rs:List Int}{Q:aH}
theorem Td.aj8{B:Int}(h:Td g e x rs B):x.Links.length≤24:=by
 have h1:(x.Links.map (·.To)).Nodup:=List.pairwise_map.2 h.vr.dup
 have:=jW h1 (b:=ids g) λy hy=>by
  obtain⟨k,hk,rfl⟩:=List.mem_map.1 hy
  exact h.inG (.inr ⟨k,hk,rfl⟩)
 rw[List.length_map]at this
 have:=mE h.hv
 omega
theorem ams{r:Int}{p:aH}(h:p.TTL≠0):(gV e r p).mL=0:=by
 show((e.List.filter (iz r p)).foldl orA 0)=0
 rw[show e.List.filter (iz r p)=[]from List.filter_eq_nil_iff.2 λa _=>by simp[iz,h]];rfl
theorem tj{y:Int}{p:aH}:(j9 e y p).map (·.aO)=(e.List.filter (fR y p)).map (·.aO):=by
 unfold j9
 rw[List.map_map]
 refine List.map_congr_left λa ha=>?_
 have:=(aek (e:=e) (List.mem_filter.1 ha).2).1
 show y=a.aO
 exact this.symm
theorem Td.abj{B:Int}(h:Td g e x rs B){y:Int}{p:aH}{a:aq}(ha:a∈cv e y p):okA g y a=true∧rM g y a=([a.To],true):=by
 obtain⟨h1,h2,_,h4,_⟩:=oH ha
 have hk:=h.kd a h1
 have lZ:dR g y a.To=true:=by
  rcases(h.ef.ok a h1).k with⟨h3,_⟩|⟨_,h3⟩|⟨h3,_⟩
  ·exact absurd h3 h4
  ·rw[←h2];exact h3
  ·exact absurd h3 hk
 have:rM g y a=([a.To],true):=by unfold rM;rw[if_neg hk,lZ]
 exact⟨by unfold okA;rw[this],this⟩
theorem Td.new{B:Int}(h:Td g e x rs B)(y b:Int)(p p':aH):acw g y b (cv e y p)=(cv e y p).map (λa=>b8.mk y a.To b)∧acy g y p' (cv e y p)=(cv e y p).map (λa=>bI.mk a.To p')∧newL g y (cv e y p)=[]:=by
 have hf:(cv e y p).filter (okA g y)=cv e y p:=List.filter_eq_self.2 λa ha=>(h.abj ha).1
 refine⟨?_,?_,?_⟩
 ·unfold acw
  rw[hf]
  have:∀l:List aq,(∀a∈l,rM g y a=([a.To],true))→(l.flatMap λa=>wE b y (rM g y a).1)=l.map (λa=>b8.mk y a.To b):=λl=>by
   induction l with
   |nil=>intro _;rfl
   |cons a l ih=>
    intro hl
    rw[List.flatMap_cons,List.map_cons,ih λz hz=>hl z (by simp[hz]),hl a (by simp)]
    rfl
  exact this _ λa ha=>(h.abj ha).2
 ·unfold acy
  rw[hf]
  refine List.map_congr_left λa ha=>?_
  rw[(h.abj ha).2];rfl
 ·unfold newL
  rw[show((cv e y p).filter λa=>!okA g y a)=[]from List.filter_eq_nil_iff.2 λa ha=>by simp[(h.abj ha).1]]
  rfl
theorem aiY.step(hT:Td g e x rs Q.Bits){v:bI}{q:List bI}{D:List bX}{C:List b8}{L:List dY}{done:List Int}(h:aiY e x rs Q (v::q) D C L done):
  aiY e x rs Q (q++aaE e g v) (D++j9 e v.cc v.gH) (C++uL e g v) (L++agJ e g v) (v.cc::done):=by
 obtain⟨y,p⟩:=v
 obtain⟨nd,tr,rt,par,kid,cr,de,pl,lo,pk⟩:=h
 obtain⟨hpk,zi,aiZ,ug⟩:=pk _ (List.mem_cons_self ..)
 have hpk:Pk e p:=hpk
 have zi:63-(done.length:Int)≤p.TTL:=zi
 have aiZ:p.cM=Q.cM:=aiZ
 have ug:∀a∈e.List,a.aO∉done→tbi p.Bits a.Bit.toNat=tbi Q.Bits a.Bit.toNat:=ug
 simp only[List.map_cons,List.cons_append]at nd tr rt par kid
 obtain⟨hy,ndq⟩:=List.nodup_cons.1 nd
 obtain⟨nq,abk,amt⟩:=List.nodup_append.1 ndq
 have hyq:y∉q.map (·.cc):=λhm=>hy (List.mem_append_left _ hm)
 have hyd:y∉done:=λhm=>hy (List.mem_append_right _ hm)
 have hlen:done.length≤24:=Nat.le_trans (jW abk λz hz=>hT.inG (tr z (List.mem_cons_of_mem _ (List.mem_append_right _ hz)))) (mE hT.hv)
 have ht:p.TTL≠0:=by omega
 have hp:∀a∈e.List,a.aO=y→tbi p.Bits a.Bit.toNat=tbi Q.Bits a.Bit.toNat:=λa ha hr=>ug a ha (by rw[hr];exact hyd)
 have kids:∀k∈x.Links,k.bn=y→k.To∉y::(q.map (·.cc)++done):=λk hk hkf hm=>by
  obtain⟨k',hk',h1,h2⟩:=par k.To hm (hT.vr.nrt k hk)
  have:=hT.one hk' hk h1
  subst this
  rw[hkf]at h2;exact hyd h2
 have abl:∀k∈x.Links,k.bn=y→dZ e y p≠0:=λk hk hkf=>by
  have hk2:=kids k hk hkf
  refine hT.rest (z:=k.To) (.inr ⟨k,hk,rfl⟩) (λh=>hk2 (by rw[h];simp)) λa ha har=>ug a ha λhm=>hk2 ?_
  rw[←har];simp[hm]
 have hs:=hT.ax8 hp ht abl
 have hl:=hT.aiW (p:=p) λa ha hr _=>hp a ha hr
 obtain⟨n1,n2,n3⟩:=hT.new y (dZ e y p) p (goP e y p)
 have eQ:aaE e g (bI.mk y p)=(cv e y p).map (λa=>bI.mk a.To (goP e y p)):=n2
 have eC:uL e g (bI.mk y p)=(cv e y p).map (λa=>b8.mk y a.To (dZ e y p)):=n1
 have eL:agJ e g (bI.mk y p)=[]:=by
  show afz e y p++newL g y (cv e y p)=[]
  unfold afz
  rw[ams ht,if_pos rfl,n3];rfl
 have eQr:(aaE e g (bI.mk y p)).map (·.cc)=((cv e y p).map jm).map (·.To):=by
  rw[eQ,List.map_map,List.map_map];rfl
 have hrp:(((cv e y p).map jm).map (·.To)).Perm ((x.Links.filter λk=>decide (k.bn=y)).map (·.To)):=hs.map _
 have hmem:∀z,z∈((cv e y p).map jm).map (·.To)↔∃k∈x.Links,k.bn=y∧k.To=z:=λz=>by
  rw[hrp.mem_iff,List.mem_map]
  constructor
  ·rintro⟨k,hk,rfl⟩
   have:=List.mem_filter.1 hk
   exact⟨k,this.1,by simpa using this.2,rfl⟩
  ·rintro⟨k,hk,h1,rfl⟩
   exact⟨k,List.mem_filter.2 ⟨hk,by simpa using h1⟩,rfl⟩
 have hnd2:(((cv e y p).map jm).map (·.To)).Nodup:=hrp.nodup_iff.2 ((List.pairwise_map.2 hT.vr.dup:(x.Links.map (·.To)).Nodup).sublist (List.filter_sublist.map _))
 have eCh:(uL e g (bI.mk y p)).map aiX=(cv e y p).map jm:=by
  rw[eC,List.map_map]
  refine List.map_congr_left λa ha=>?_
  have:=(oH ha).2.1
  show aN.mk y a.To=aN.mk a.aO a.To
  rw[this]
 refine⟨?_,?_,?_,?_,?_,?_,?_,?_,?_,?_⟩
 ·rw[List.map_append,eQr,List.append_assoc,List.nodup_append]
  refine⟨nq,?_,λa ha b hb hab=>?_⟩
  ·rw[List.nodup_append]
   refine⟨hnd2,List.nodup_cons.2 ⟨hyd,abk⟩,λa ha b hb hab=>?_⟩
   subst hab
   obtain⟨k,hk,h1,rfl⟩:=(hmem a).1 ha
   refine kids k hk h1 ?_
   rcases List.mem_cons.1 hb with hb|hb
   ·rw[hb];simp
   ·simp[hb]
  ·subst hab
   rcases List.mem_append.1 hb with hb|hb
   ·obtain⟨k,hk,h1,rfl⟩:=(hmem a).1 hb
    exact kids k hk h1 (List.mem_cons_of_mem _ (List.mem_append_left _ ha))
   ·rcases List.mem_cons.1 hb with hb|hb
    ·subst hb;exact hyq ha
    ·exact amt a ha a hb rfl
 ·intro z hz
  rw[List.map_append,eQr]at hz
  simp only[List.mem_append,List.mem_cons]at hz
  rcases hz with(hz|hz)|hz|hz
  ·exact tr z (List.mem_cons_of_mem _ (List.mem_append_left _ hz))
  ·obtain⟨k,hk,_,rfl⟩:=(hmem z).1 hz
   exact .inr ⟨k,hk,rfl⟩
  ·exact tr z (by rw[hz];simp)
  ·exact tr z (List.mem_cons_of_mem _ (List.mem_append_right _ hz))
 ·rw[List.map_append,eQr]
  simp only[List.mem_cons,List.mem_append]at rt ⊢
  rcases rt with h|h|h
  ·exact .inr (.inl h)
  ·exact .inl (.inl h)
  ·exact .inr (.inr h)
 ·intro z hz hzr
  rw[List.map_append,eQr]at hz
  simp only[List.mem_append,List.mem_cons]at hz
  have old:z∈y::(q.map (·.cc)++done)→∃h∈x.Links,h.To=z∧h.bn∈y::done:=λhm=>by
   obtain⟨k,hk,h1,h2⟩:=par z hm hzr
   exact⟨k,hk,h1,List.mem_cons_of_mem _ h2⟩
  rcases hz with(hz|hz)|hz|hz
  ·exact old (List.mem_cons_of_mem _ (List.mem_append_left _ hz))
  ·obtain⟨k,hk,h1,rfl⟩:=(hmem z).1 hz
   exact⟨k,hk,rfl,by rw[h1];simp⟩
  ·exact old (by rw[hz];simp)
  ·exact old (List.mem_cons_of_mem _ (List.mem_append_right _ hz))
 ·intro k hk hkf
  rw[List.map_append,eQr]
  simp only[List.mem_append,List.mem_cons]
  rcases List.mem_cons.1 hkf with hkf|hkf
  ·exact .inl (.inr ((hmem _).2 ⟨k,hk,hkf,rfl⟩))
  ·have:=kid k hk hkf
   simp only[List.mem_cons,List.mem_append]at this
   rcases this with h|h|h
   ·exact .inr (.inl h)
   ·exact .inl (.inl h)
   ·exact .inr (.inr h)
 ·rw[List.map_append,eCh]
  refine(cr.append hs).trans ?_
  refine(filter_or (λh:aN=>decide (h.bn∈done)) (λh:aN=>decide (h.bn=y)) x.Links λa _ ha=>?_).symm.trans ?_
  ·have ha:a.bn∈done:=by simpa using ha
   simp only[decide_eq_false_iff_not]
   intro hay;rw[hay]at ha;exact hyd ha
  ·refine List.Perm.of_eq (List.filter_congr λa _=>?_)
   rw[Bool.eq_iff_iff]
   simp only[Bool.or_eq_true,decide_eq_true_eq,List.mem_cons]
   exact or_comm
 ·rw[List.map_append,tj,hl]
  by_cases hr:y∈rs
  ·rw[if_pos hr,List.filter_cons_of_pos (by simpa using hr)]
   exact(de.append_right _).trans List.perm_append_comm
  ·rw[if_neg hr,List.append_nil,List.filter_cons_of_neg (by simpa using hr)]
   exact de
 ·intro d hd
  rcases List.mem_append.1 hd with hd|hd
  ·exact pl d hd
  ·obtain⟨a,_,rfl⟩:=List.mem_map.1 hd
   exact aiZ
 ·rw[lo,eL];rfl
 ·intro u hu
  rcases List.mem_append.1 hu with hu|hu
  ·obtain⟨u1,u2,u3,u4⟩:=pk u (List.mem_cons_of_mem _ hu)
   refine⟨u1,?_,u3,λa ha har=>u4 a ha λhm=>har (List.mem_cons_of_mem _ hm)⟩
   simp only[List.length_cons];omega
  ·rw[eQ]at hu
   obtain⟨a,ha,rfl⟩:=List.mem_map.1 hu
   obtain⟨_,_,_,_,_,s6⟩:=oH ha
   have hv:=(oR.1 hpk.v).2.2.2.2.1
   refine⟨hpk.go hT.ef.v y s6 (by omega),?_,aiZ,λb hb hbr=>?_⟩
   ·show 63-(((y::done).length:Nat):Int)≤w64 (p.TTL-1)
    rw[gO (by omega) (by omega)]
    simp only[List.length_cons];omega
   ·show tbi (dZ e y p) b.Bit.toNat=_
    rw[oT hT.ef.v hb λh=>hbr (by rw[h];simp)]
    exact ug b hb λhm=>hbr (List.mem_cons_of_mem _ hm)
theorem amu(hT:Td g e x rs Q.Bits)(hQ:Pk e Q)(ht:Q.TTL=63):∃D C,aaF e g 5000 [bI.mk x.cz Q] [] [] []=(dB.mk D C [],0)∧(C.map aiX).Perm x.Links∧(D.map (·.aO)).Perm rs∧∀d∈D,d.aB.cM=Q.cM:=by
 obtain⟨D,C,L,h1,done,h2⟩:=afa (e:=e) (t:=g) (λq D C L=>∃done,aiY e x rs Q q D C L done) (λv q D C L ⟨done,h⟩=>by
  have hst:=h.step hT
  refine⟨?_,_,hst⟩
  have:=hst.cr.length_eq
  rw[List.length_map]at this
  have h3:=List.length_filter_le (λh:aN=>decide (h.bn∈v.cc::done)) x.Links
  have:=hT.aj8
  omega) 5000 [bI.mk x.cz Q] [] [] [] (by simp[runM]) ⟨[],by simp,by simp[trT],by simp,by simp,by simp,by simp,by simp,by simp,rfl,by simp[hQ,ht]⟩
 obtain⟨nd,tr,rt,par,kid,cr,de,pl,lo,pk⟩:=h2
 simp only[List.map_nil,List.nil_append]at nd tr rt par kid
 have all:∀y,Rch x.cz x.Links y→y∈done:=λy hy=>by
  induction hy with
  |root=>exact rt
  |step k hk _ ih=>exact kid k hk ih
 subst lo
 refine⟨D,C,h1,?_,?_,pl⟩
 ·rwa [List.filter_eq_self.2 λk hk=>by simpa using all _ (hT.vr.rch k hk)]at cr
 ·refine de.trans ((List.perm_ext_iff_of_nodup (nd.sublist List.filter_sublist) (hT.asc.imp λh e=>by omega)).2 λy=>?_)
  rw[List.mem_filter,decide_eq_true_eq]
  refine⟨λh=>h.2,λh=>⟨all y ?_,h⟩⟩
  rcases hT.sub y h with rfl|⟨k,hk,rfl⟩
  ·exact .root
  ·exact .step k hk (hT.vr.rch k hk)
end
end Go.Proofs.YtdjeacigeegklaaGreat
namespace Go.Proofs.YtdjeacigeegklaaGreat
set_option linter.all false
open Go
theorem aj9{x:dz}{Lst:List Int}(hL:Lst.length≤1000){n:Int}(hn:n≤100){t:bM}(h:ga t){γ:Type}{P:γ→Prop}{K:List Int×List Int×Int→Option γ}
  (hK:∀rs L A,rs.Sublist Lst→(∀y∈Lst,(∀k∈x.Links,k.bn≠y)→y∈rs)→ga (bM.mk L A)→Ok (K (rs,L,A)) P) :
  Ok (bO Lst 0 (λ(j1:Int) (e1:Int) (Z1:((List Int)×(List Int)×Int)→Option γ) (sg:(List Int)×(List Int)×Int)=>match sg with|(fG,m_1,m_2)=>jn (λ(sg:(List Int)×(List Int)×Int)=>match sg with|(mA,m_3,m_4)=>Z1 (mA,m_3,m_4)) λJ1=>bO x.Links 0 (λ(j2:Int) (e2:aN) (Z2:Bool→Option γ) (o5:Bool)=>(bif o5 then Z2 (!decide (e2.bn=e1))else Z2 false)) (λ(o5:Bool)=>jn (λ(sg:Bool×(List Int)×Int)=>match sg with|(v_1,m_5,m_6)=>bif v_1 then bnd (dL fG ([e1]:List Int)) λ(l_1:List Int)=>J1 (l_1,m_5,m_6)else J1 (fG,m_5,m_6)) λJ2=>(bif o5 then J2 (true,m_1,m_2)else bnd (cn (bM.mk m_1 m_2) n) λ(cW:Int×bM)=>J2 (decide (cW.1=(0:Int)),cW.2.L,cW.2.At))) true) K ([],t.L,t.At)) P:=by
 refine Ok.yW (L:=Lst) (λp (sg:List Int×List Int×Int)=>sg.1.Sublist p∧(∀y∈p,(∀k∈x.Links,k.bn≠y)→y∈sg.1)∧ga (bM.mk sg.2.1 sg.2.2)) (λp y rest s Z hl hI hZ=>?_) _ ⟨by simp,by simp,h⟩ (λs hs=>hK _ _ _ hs.1 hs.2.1 hs.2.2)
 obtain⟨rs,L,A⟩:=s
 obtain⟨i1,i2,i3⟩:=hI
 have i1:rs.Sublist p:=i1
 have hlen:rs.length≤1000:=by
  have h1:=i1.length_le
  have h2:Lst.length=p.length+(rest.length+1):=by rw[hl];simp
  omega
 simp only[jn]
 refine Eq.subst (motive:=λz=>Ok z _) (acr (λk:aN=>decide (k.bn=y)) (λj k Z s=>by cases s<;>rfl) x.Links 0 true).symm ?_
 have fin:∀(b:Bool) (L A),(b=false→∃k∈x.Links,k.bn=y)→ga (bM.mk L A)→Ok (bif b then bnd (dL rs ([y]:List Int)) λ(l_1:List Int)=>Z (l_1,L,A)else Z (rs,L,A)) P:=λb L A hb hT=>by
  cases b
  ·refine hZ _ ⟨i1.trans (List.sublist_append_left _ _),λz hz hk=>?_,hT⟩
   rcases List.mem_append.1 hz with hz|hz
   ·exact i2 z hz hk
   ·rw[List.mem_singleton]at hz
    subst hz
    obtain⟨k,hk1,hk2⟩:=hb rfl
    exact absurd hk2 (hk k hk1)
  ·rw[cond_true,lY (by omega),aM]
   refine hZ _ ⟨i1.append (List.Sublist.refl _),λz hz hk=>?_,hT⟩
   rcases List.mem_append.1 hz with hz|hz
   ·exact List.mem_append_left _ (i2 z hz hk)
   ·exact List.mem_append_right _ hz
 rw[Bool.true_and]
 cases he:x.Links.any λk=>decide (k.bn=y)
 ·exact fin true L A (λh=>by cases h) i3
 ·refine Ok.bnd (f_n i3 (by omega)) λu hu=>fin _ _ _ (λ_=>?_) hu.2
  obtain⟨k,hk,h1⟩:=List.any_eq_true.1 he
  exact⟨k,hk,by simpa using h1⟩
theorem aq3{e:aC}(hE:Ve e){B:Int}{n:Int}{pay:ByteArray}(hB:∀i:Nat,tbi B i=true→(i:Int)<e.Length)(hn:0≤n∧n≤63)(hp:(pay.size:Int)≤64):Pk e (aH.mk 2 0 0 e.Length n 0 0 0 B pay):=by
 refine⟨oR.2 ⟨by simp only;omega,by simp only;omega,by simp only;omega,aaD.2 ⟨?_,hB⟩,hn,by simp only;omega,by simp only;omega,by simp only;omega,hp⟩,rfl,rfl⟩
 have:=hE.len;simpa [kT]using this
theorem amv{g:aa}(hv:Vt g){n:Int}{e:aC}(he:kW g n=(e,0)):e.Length=n:=by
 obtain⟨_,q2,_⟩:=aei (n:=n) hv (by rw[he])
 rw[he]at q2
 rw[(Prod.mk.inj q2).1]
theorem hi64(B:Int)(i:Nat)(h:tbi B i=true):(i:Int)<64:=by
 by_cases hi:i<64
 ·omega
 ·rw[afx B (by omega)]at h;cases h
theorem ai0{t:bM}(h:ga t):Ok (pZ t) (λq=>Vn q.1 7∧ga q.2.2.2.2.2.2∧(q.2.2.2.2.2.1=true→Td q.1 q.2.1 q.2.2.1 q.2.2.2.1 q.2.2.2.2.1.Bits∧Pk q.2.1 q.2.2.2.2.1∧q.2.2.2.2.1.TTL=63)∧q.2.1.List.length≤1000∧q.2.2.1.Links.length≤200):=by
 unfold pZ
 refine Ok.bnd (agD h (by omega)) λq hq=>?_
 obtain⟨g,t1⟩:=q
 obtain⟨hg,ht⟩:=hq
 have hg:Vn g 7:=hg
 have hv:Vt g:=hg.v
 have hnr:=hv.nr
 have hgn:1≤g.ah.length:=hg.n.1
 dsimp only
 rw[ads,aM]
 refine Ok.bnd (f_n ht (by omega)) λk hk=>Ok.bnd (iQ hk.1.1 (hk.1.2.1 (by omega))) λr hr=>Ok.bnd (amd (root:=r.ID) hk.2 hv) λx hx=>?_
 obtain⟨x,t2⟩:=x
 obtain⟨hx,ht2⟩:=hx
 have hx:Tn g r.ID x:=hx
 have hid:r.ID∈ids g:=List.mem_map.2 ⟨r,hr.1,rfl⟩
 have hxl:=hx.len
 dsimp only
 rw[zw x (by omega),aM]
 have hrl:=aqS x
 refine aj9 (x:=x) (Lst:=qc x) (by omega) (n:=2) (by omega) ht2 λrs L A h1 h2 h3=>?_
 dsimp only
 have hrs:=h1.length_le
 have hfl:=aiU g 64
 unfold qp
 rw[aiO (kW g 64).1 x rs (by omega) (by omega) (by omega),aM]
 by_cases hb:(u9 (kW g 64).1 x rs).2=0
 rotate_left
 ·rw[decide_eq_false hb,Bool.not_false,cond_true,aM]
  refine Ok.s ⟨hg,h3,λhh=>?_,hfl,hxl⟩
  simp only[Bool.and_eq_true,decide_eq_true_eq]at hh
  exact absurd hh.2 hb
 ·rw[decide_eq_true hb,Bool.not_true,cond_false,abJ,aM]
  by_cases hf:(kW g 64).2=0
  ·obtain⟨e,he⟩:∃e,kW g 64=(e,0):=⟨(kW g 64).1,by rw[←hf]⟩
   obtain⟨td,_⟩:=ax7 hv he hid hx h1 h2
   have hlen:=amv hv he
   have hpk:=aq3 (e:=e) (B:=(u9 e x rs).1) (n:=63) (pay:=⟨#[]⟩) td.ef.v (λi hi=>by rw[hlen];exact hi64 _ i hi) (by omega) (by decide)
   rw[he]
   dsimp only
   rw[hpk.v,Bool.not_true,cond_false,aM]
   refine Ok.s ⟨hg,h3,λ_=>⟨td,hpk,rfl⟩,?_,hxl⟩
   rw[he]at hfl;exact hfl
  ·cases hvl:mU (aH.mk 2 0 0 (kW g 64).1.Length 63 0 0 0 (u9 (kW g 64).1 x rs).1 (⟨#[]⟩:ByteArray))
   ·rw[Bool.not_false,cond_true,aM]
    refine Ok.s ⟨hg,h3,λhh=>?_,hfl,hxl⟩
    simp only[Bool.and_eq_true,decide_eq_true_eq]at hh
    exact absurd hh.1 hf
   ·rw[Bool.not_true,cond_false,aM]
    refine Ok.s ⟨hg,h3,λhh=>?_,hfl,hxl⟩
    simp only[Bool.and_eq_true,decide_eq_true_eq]at hh
    exact absurd hh.1 hf
theorem agR{α:Type}(f:α→Int):∀(l:List α) (s:List Int),(l.map f).Nodup→s.Pairwise (·<·)→(∀y∈l.map f,y∉s)→(l.foldl (λs x=>j8 s (f x)) s).Pairwise (·<·)∧∀y,y∈l.foldl (λs x=>j8 s (f x)) s↔y∈s∨y∈l.map f
 |[],s,_,h,_=>⟨h,by simp⟩
 |a::l,s,hn,h,hd=>by
  rw[List.map_cons,List.nodup_cons]at hn
  have hlt:=aec (x:=f a) h
  obtain⟨h1,h2⟩:=agR f l (j8 s (f a)) hn.2 hlt λy hy hm=>by
   rcases wz.1 hm with rfl|hm
   ·exact hn.1 hy
   ·exact hd y (by simp[List.mem_map.1 hy]) hm
  refine⟨h1,λy=>?_⟩
  rw[List.foldl_cons,h2,wz,List.map_cons,List.mem_cons]
  constructor
  ·rintro((h|h)|h)
   ·exact .inr (.inl h)
   ·exact .inl h
   ·exact .inr (.inr h)
  ·rintro(h|h|h)
   ·exact .inl (.inr h)
   ·exact .inl (.inl h)
   ·exact .inr h
end Go.Proofs.YtdjeacigeegklaaGreat
namespace Go.Proofs.YtdjeacigeegklaaGreat
set_option linter.all false
open Go
theorem agS{l:List aN}{a b:Int}:oD l a b=true↔aN.mk a b∈l:=by
 unfold oD
 rw[List.any_eq_true]
 constructor
 ·rintro⟨h,hh,he⟩
  rw[(adb _ _).1 he];exact hh
 ·intro h
  exact⟨_,h,(adb _ _).2 rfl⟩
variable {f:bg}
theorem qf{g:aa}(hv:Vt g){a b:Int}:dR (aP g f) a b=true↔dR g a b=true∧a∉f.ah∧b∉f.ah∧aN.mk a b∉f.Links∧aN.mk b a∉f.Links:=by
 have hw:aP g f=woT g f:=by unfold aP;rw[if_pos (fC.2 hv)]
 have hg:∀l:aW,u0 f l=false↔l.A∉f.ah∧l.B∉f.ah∧aN.mk l.A l.B∉f.Links∧aN.mk l.B l.A∉f.Links:=λl=>by
  unfold u0
  simp only[Bool.or_eq_false_iff,decide_eq_false_iff_not,←agS,Bool.not_eq_true,and_assoc]
 rw[hw,jf,jf]
 have hm:∀l:aW,l∈(woT g f).Links↔l∈g.Links∧u0 f l=false:=λl=>by
  show l∈g.Links.filter _↔_
  rw[List.mem_filter];simp
 constructor
 ·rintro⟨l,hl,h⟩
  obtain⟨h1,h2⟩:=(hm l).1 hl
  obtain⟨q1,q2,q3,q4⟩:=(hg l).1 h2
  rcases h with⟨rfl,rfl⟩|⟨rfl,rfl⟩
  ·exact⟨⟨l,h1,.inl ⟨rfl,rfl⟩⟩,q1,q2,q3,q4⟩
  ·exact⟨⟨l,h1,.inr ⟨rfl,rfl⟩⟩,q2,q1,q4,q3⟩
 ·rintro⟨⟨l,hl,h⟩,q1,q2,q3,q4⟩
  rcases h with⟨rfl,rfl⟩|⟨rfl,rfl⟩
  ·exact⟨l,(hm l).2 ⟨hl,(hg l).2 ⟨q1,q2,q3,q4⟩⟩,.inl ⟨rfl,rfl⟩⟩
  ·exact⟨l,(hm l).2 ⟨hl,(hg l).2 ⟨q2,q1,q4,q3⟩⟩,.inr ⟨rfl,rfl⟩⟩
theorem agT{g:aa}(hv:Vt g){r n:Int}:n∈dnT g f r↔dR g r n=true∧(n∈f.ah∨aN.mk r n∈f.Links∨aN.mk n r∈f.Links):=by
 unfold dnT dnB
 rw[if_pos (fC.2 hv),List.mem_filter,jV hv]
 simp only[Bool.or_eq_true,decide_eq_true_eq,agS]
def cvQ(v:bI):az:=az.mk v.cc (bL.mk [] v.gH)
def Clr(e:aC)(g w:aa)(f:bg)(r:Int)(p:aH):Prop:=∀a∈cv e r p,a.Kind≠2∧dR g r a.To=true∧a.To∉dnT g f r∧dR w r a.To=true
theorem agU{α:Type}{f:α→List α}:∀{l:List α},(∀a∈l,f a=[a])→l.flatMap f=l
 |[],_=>rfl
 |a::l,h=>by rw[List.flatMap_cons,h a (by simp),agU λx hx=>h x (by simp[hx])];rfl
theorem aep{e:aC}{g w:aa}{r:Int}{p:aH}(h:Clr e g w f r p):mo e g r p (dnT g f r)=gV e r p:=by
 have hc:∀c∈(gV e r p).cg,c.To∉dnT g f r:=λc hc=>by
  obtain⟨a,ha,rfl⟩:=List.mem_map.1 hc
  exact(h a ha).2.2.1
 have h1:(gV e r p).cg.flatMap (qK e g r (dnT g f r))=(gV e r p).cg:=agU λc hm=>by unfold qK;rw[if_neg (hc c hm)]
 have h2:∀(l:List aZ) (s:Int),(∀c∈l,c.To∉dnT g f r)→l.foldl (xP e g r (dnT g f r)) s=s:=λl=>by
  induction l with
  |nil=>intros;rfl
  |cons c l ih=>
   intro s hl
   rw[List.foldl_cons]
   have:xP e g r (dnT g f r) s c=s:=by unfold xP;rw[if_neg (hl c (by simp))]
   rw[this];exact ih s λz hz=>hl z (by simp[hz])
 unfold mo
 rw[h1,h2 _ _ hc]
theorem amx{e:aC}{g w:aa}{v:bI}(h:Clr e g w f v.cc v.gH):
  iW e g f w (cvQ v)=uL e g v∧gM e g f w (cvQ v)=(aaE e g v).map cvQ∧wG e g f w (cvQ v)=agJ e g v∧pz e (cvQ v)=j9 e v.cc v.gH:=by
 obtain⟨r,p⟩:=v
 have h:Clr e g w f r p:=h
 have ho:nU e g f (cvQ (bI.mk r p))=gV e r p:=aep h
 have hw:∀a∈cv e r p,rM g r a=([a.To],true):=λa ha=>by
  obtain⟨h1,h2,_,_⟩:=h a ha
  unfold rM;rw[if_neg h1,h2]
 have hok:∀a∈cv e r p,okA g r a=true:=λa ha=>by unfold okA;rw[hw a ha]
 have hf:(cv e r p).filter (okA g r)=cv e r p:=List.filter_eq_self.2 hok
 have hc:∀c∈(gV e r p).cg,okC w r c=true:=λc hc=>by
  obtain⟨a,ha,rfl⟩:=List.mem_map.1 hc
  exact(h a ha).2.2.2
 have hcf:(gV e r p).cg.filter (okC w r)=(gV e r p).cg:=List.filter_eq_self.2 hc
 refine⟨?_,?_,?_,rfl⟩
 ·unfold iW sCr
  rw[ho]
  show(((gV e r p).cg.filter (okC w r)).map _)=acw g r (dZ e r p) (cv e r p)
  rw[hcf]
  unfold acw
  rw[hf]
  show((cv e r p).map (eT e r p)).map _=_
  rw[List.map_map]
  have:∀l:List aq,(∀a∈l,rM g r a=([a.To],true))→l.map ((λc:aZ=>b8.mk r c.To c.Frame.aB.Bits)∘eT e r p)=l.flatMap λa=>wE (dZ e r p) r (rM g r a).1:=λl=>by
   induction l with
   |nil=>intro _;rfl
   |cons a l ih=>
    intro hl
    rw[List.flatMap_cons,List.map_cons,ih λz hz=>hl z (by simp[hz]),hl a (by simp)]
    rfl
  exact this _ hw
 ·unfold gM sQu
  rw[ho]
  show(((gV e r p).cg.filter (okC w r)).map _)=(acy g r (goP e r p) (cv e r p)).map cvQ
  rw[hcf]
  unfold acy
  rw[hf]
  show((cv e r p).map (eT e r p)).map _=_
  rw[List.map_map,List.map_map]
  refine List.map_congr_left λa ha=>?_
  have h1:=(h a ha).1
  have h2:=hw a ha
  simp only[Function.comp_apply,eT,if_neg h1,cvQ,h2]
  rfl
 ·unfold wG zh sLo
  rw[ho]
  show(if(gV e r p).mL=0 then[]else[dY.mk r (gV e r p).mL])++((gV e r p).cg.filter λc=>!okC w r c).map _=afz e r p++newL g r (cv e r p)
  have e1:((gV e r p).cg.filter λc=>!okC w r c)=[]:=List.filter_eq_nil_iff.2 λc hm=>by simp[hc c hm]
  have e2:((cv e r p).filter λa=>!okA g r a)=[]:=List.filter_eq_nil_iff.2 λa hm=>by simp[hok a hm]
  unfold newL
  rw[e1,e2];rfl
theorem afb{e:aC}{g w:aa}{f:bg}{B:Int}(hq:∀r (p:aH),(∀i,tbi p.Bits i=true→tbi B i=true)→Clr e g w f r p):∀(n:Nat) (q:List bI) (D:List bX) (C:List b8) (L:List dY),(∀v∈q,∀i,tbi v.gH.Bits i=true→tbi B i=true)→
  oS e g f w n (q.map cvQ) D C L=aaF e g n q D C L
 |0,_,_,_,_,_=>rfl
 |n+1,[],_,_,_,_=>rfl
 |n+1,v::q,D,C,L,h=>by
  have hv:=h v (by simp)
  obtain⟨h1,h2,h3,h4⟩:=amx (hq v.cc v.gH hv)
  rw[List.map_cons,oS,aaF,h1,h2,h3,h4]
  split
  ·rfl
  ·rw[←List.map_append]
   refine afb hq n _ _ _ _ λu hu=>?_
   rcases List.mem_append.1 hu with hu|hu
   ·exact h u (by simp[hu])
   ·obtain⟨a,_,rfl⟩:=List.mem_map.1 hu
    exact λi hi=>hv i (zb hi)
section
variable {g:aa}{e:aC}{x:dz}{rs:List Int}{Q:aH}
theorem Td.pl{B:Int}(h:Td g e x rs B):plB e=true:=yl.2 ⟨h.ef.v,h.kd⟩
theorem Td.aka{B:Int}(h:Td g e x rs B){r:Int}{p:aH}(hp:∀i,tbi p.Bits i=true→tbi B i=true){a:aq}(ha:a∈cv e r p):aN.mk r a.To∈x.Links∧a.Kind=1:=by
 obtain⟨h1,h2,h3,h4,_⟩:=oH ha
 rcases(h.bits a h1).1 (hp _ h3)with⟨h5,_⟩|⟨h5,h6⟩
 ·exact absurd h5 h4
 ·rw[h2]at h6;exact⟨h6,h5⟩
def ai1(x:dz)(f:bg):Prop:=(∀y,trT x y→y∉f.ah)∧∀h∈x.Links,h∉f.Links∧aN.mk h.To h.bn∉f.Links
theorem Td.clr{B:Int}(h:Td g e x rs B){f:bg}(hf:ai1 x f)(r:Int)(p:aH)(hp:∀i,tbi p.Bits i=true→tbi B i=true):Clr e g (aP g f) f r p:=λa ha=>by
 obtain⟨h1,h2⟩:=h.aka hp ha
 have lZ:dR g r a.To=true:=h.adj _ h1
 have ht:trT x a.To:=.inr ⟨_,h1,rfl⟩
 have hr:trT x r:=h.from h1
 obtain⟨q1,q2⟩:=hf.2 _ h1
 refine⟨by omega,lZ,λhd=>?_,(qf h.hv).2 ⟨lZ,hf.1 _ hr,hf.1 _ ht,q1,q2⟩⟩
 rcases((agT h.hv).1 hd).2 with h3|h3|h3
 ·exact hf.1 _ ht h3
 ·exact q1 h3
 ·exact q2 h3
theorem akb(h:Td g e x rs Q.Bits)(hQ:Pk e Q)(ht:Q.TTL=63){f:bg}(hf:ai1 x f):tY e g f Q x.cz=aiS e g Q x.cz:=by
 unfold tY aiS
 simp only[if_pos (show plB e=true∧eS g=0∧mU Q=true from⟨h.pl,fC.2 h.hv,hQ.v⟩),if_pos (show mT e=0∧eS g=0∧mU Q=true from⟨kH.2 h.ef.v,fC.2 h.hv,hQ.v⟩),if_pos h.rt,if_pos hQ.afy,if_neg (hf.1 _ (.inl rfl))]
 exact afb (B:=Q.Bits) (h.clr hf) 5000 [bI.mk x.cz Q] [] [] [] λv hv i hi=>by
  rw[List.mem_singleton]at hv
  subst hv;exact hi
theorem akc(h:Td g e x rs Q.Bits)(hQ:Pk e Q):aiS e g Q x.cz=aaF e g 5000 [bI.mk x.cz Q] [] [] []:=by
 unfold aiS
 rw[if_pos ⟨kH.2 h.ef.v,fC.2 h.hv,hQ.v⟩,if_pos h.rt,if_pos hQ.afy]
end
end Go.Proofs.YtdjeacigeegklaaGreat
namespace Go.Proofs.YtdjeacigeegklaaGreat
set_option linter.all false
open Go
def okP(w:aa):Int→List Int→Bool
 |_,[]=>true
 |r,x::l=>dR w r x&&okP w x l
def kX(w:aa)(y:Int)(c:aZ):Bool:=okP w y (c.To::c.Frame.fU)
def tgC(c:aZ):Int:=wF c.To c.Frame.fU
def abm(w:aa)(v:az):Bool:=okP w v.cc v.cK.fU
def tgV(v:az):Int:=wF v.cc v.cK.fU
def tgs(w:aa)(q:List az):List Int:=(q.filter (abm w)).map tgV
def qg(q:List az):Nat:=(q.map λv=>v.cK.fU.length).sum
theorem yo(w:aa)(p q:List az):tgs w (p++q)=tgs w p++tgs w q:=by
 unfold tgs;rw[List.filter_append,List.map_append]
theorem agV(p q:List az):qg (p++q)=qg p+qg q:=by
 unfold qg;rw[List.map_append,List.sum_append]
theorem aeq(w:aa)(y:Int):∀cs:List aZ,tgs w (sQu w y cs)=(cs.filter (kX w y)).map tgC
 |[]=>rfl
 |c::cs=>by
  have ih:=aeq w y cs
  unfold tgs sQu at ih ⊢
  have e1:kX w y c=(okC w y c&&okP w c.To c.Frame.fU):=rfl
  cases h:okC w y c
  ·rw[h,Bool.false_and]at e1
   rw[List.filter_cons_of_neg (by simp[h]),List.filter_cons_of_neg (by simp[e1])]
   exact ih
  ·rw[h,Bool.true_and]at e1
   rw[List.filter_cons_of_pos h,List.map_cons]
   cases h2:okP w c.To c.Frame.fU
   ·have h3:abm w (az.mk c.To c.Frame)=false:=h2
    rw[h2]at e1
    rw[List.filter_cons_of_neg (by simp[h3]),List.filter_cons_of_neg (by simp[e1])]
    exact ih
   ·have h3:abm w (az.mk c.To c.Frame)=true:=h2
    rw[h2]at e1
    rw[List.filter_cons_of_pos h3,List.filter_cons_of_pos e1,List.map_cons,List.map_cons,ih]
    rfl
theorem ahY(w:aa)(y:Int):∀cs:List aZ,(∀c∈cs,c.Frame.fU.length≤30)→(sCr w y cs).length+qg (sQu w y cs)≤31*cs.length
 |[],_=>by simp[sCr,sQu,qg]
 |c::cs,h=>by
  have ih:=ahY w y cs λx hx=>h x (by simp[hx])
  have hc:=h c (by simp)
  unfold sCr sQu qg at ih ⊢
  cases hk:okC w y c
  ·rw[List.filter_cons_of_neg (by simp[hk])]
   simp only[List.length_cons];omega
  ·rw[List.filter_cons_of_pos hk]
   simp only[List.map_cons,List.length_cons,List.sum_cons]at ih ⊢
   omega
theorem afc{t:aa}{a b:Int}(h:(dT t a b).isSome=true):okP t a (fZ t a b)=true:=by
 refine ae1 (λa=>okP t a (fZ t a b)=true) (by rw[y4];rfl) (λx y k w m r _ _ _ h2 h3 _ _ ih=>?_) _ a (Nat.le_refl _) h
 rw[h2]
 show(dR t x y&&_)=true
 rw[(iH.1 h3).1,Bool.true_and];exact ih
theorem acA{t w:aa}(h:∀a b,dR t a b=true→dR w a b=true):∀(l:List Int) (a:Int),okP t a l=true→okP w a l=true
 |[],_,_=>rfl
 |x::l,a,hp=>by
  rw[okP,Bool.and_eq_true]at hp ⊢
  exact⟨h _ _ hp.1,acA h l x hp.2⟩
theorem agW{w:aa}:∀(l:List Int) (a:Int),okP w a l=true→Cn w [] a (wF a l)
 |[],_,_=>.refl (by simp)
 |x::l,a,hp=>by
  rw[okP,Bool.and_eq_true]at hp
  exact Cn.trans (.step (.refl (by simp)) hp.1 (by simp)) (agW l x hp.2)
theorem ady{t:aa}{a b:Int}(h:(dT t a b).isSome=true):wF a (fZ t a b)=b:=by
 have:=ajS h
 rw[aaG]at this
 exact Option.some.inj this
theorem zj{t:aa}{a b:Int}(h:fZ t a b≠[]):(dT t a b).isSome=true:=by
 cases hd:dT t a b with
 |some k=>rfl
 |none=>
  by_cases hab:a=b
  ·subst hab;rw[y4]at h;exact absurd rfl h
  ·exact absurd (yg b (tg hd) hab []) h
theorem zk{t:aa}(hv:Vt t){a b:Int}(ha:a∈ids t)(hne:a≠b)(h:Cn t [] a b):fZ t a b≠[]:=λhe=>by
 have hb:=h.ids hv ha
 have h1:=ae6 hv hne
 rw[ahH hv ha hb,(ahG hv ha hb).2 h,he]at h1
 simp at h1
theorem qh{g:aa}(hv:Vt g){f:bg}{y:Int}:y∈ids (aP g f)↔y∈ids g∧y∉f.ah:=by
 unfold aP
 rw[if_pos (fC.2 hv)]
 simp only[ids,woT,List.mem_map,List.mem_filter]
 constructor
 ·rintro⟨r,⟨h1,h2⟩,rfl⟩;exact⟨⟨r,h1,rfl⟩,by simpa using h2⟩
 ·rintro⟨⟨r,h1,rfl⟩,h2⟩;exact⟨r,⟨h1,by simpa using h2⟩,rfl⟩
theorem afd(p:aH)(b:Int){l:List Int}(h:l≠[]):(iR p b l).To::(iR p b l).Frame.fU=l:=by
 cases l with
 |nil=>exact absurd rfl h
 |cons x l=>rfl
theorem aaJ(p:aH)(b y:Int){l:List Int}(h:l≠[]):tgC (iR p b l)=wF y l:=by
 cases l with
 |nil=>exact absurd rfl h
 |cons x l=>rfl
structure Fl(g:aa)(e:aC)(x:dz)(rs:List Int)(B:Int)(f:bg)(u n:Int):Prop where
 td:Td g e x rs B
 un:aN.mk u n∈x.Links
 fail:(f.ah=[]∧(f.Links=[aN.mk u n]∨f.Links=[aN.mk n u]))∨(f.Links=[]∧f.ah=[n])
section
variable {g:aa}{e:aC}{x:dz}{rs:List Int}{B:Int}{f:bg}{u n:Int}
theorem Fl.ne(h:Fl g e x rs B f u n):u≠n:=agk h.td.hv (h.td.adj _ h.un)
theorem Fl.zl(h:Fl g e x rs B f u n):n≠x.cz:=h.td.vr.nrt _ h.un
theorem Fl.aaK(h:Fl g e x rs B f u n):aN.mk n u∉x.Links:=λhm=>by
 have key:∀y,Rch x.cz x.Links y→y≠u∧y≠n:=λy hy=>by
  induction hy with
  |root=>exact⟨λe=>h.td.vr.nrt _ hm e.symm,λe=>h.td.vr.nrt _ h.un e.symm⟩
  |step k hk _ ih=>
   constructor
   ·intro e
    have:=h.td.one hk hm e
    subst this
    exact ih.2 rfl
   ·intro e
    have:=h.td.one hk h.un e
    subst this
    exact ih.1 rfl
 exact(key u (h.td.vr.rch _ h.un)).1 rfl
theorem Fl.aer(h:Fl g e x rs B f u n){a b:Int}:dR (aP g f) a b=true↔dR g a b=true∧((f.ah=[]∧¬(a=u∧b=n)∧¬(a=n∧b=u))∨(f.ah=[n]∧a≠n∧b≠n)):=by
 rw[qf h.td.hv]
 rcases h.fail with⟨h1,h2|h2⟩|⟨h1,h2⟩
 ·constructor
  ·rintro⟨q0,_,_,q1,q2⟩
   simp only[h2,List.mem_singleton,aN.mk.injEq]at q1 q2
   exact⟨q0,.inl ⟨h1,q1,λq=>q2 ⟨q.2,q.1⟩⟩⟩
  ·rintro⟨q0,(⟨_,q1,q2⟩|⟨q,_⟩)⟩
   ·refine⟨q0,by rw[h1];simp,by rw[h1];simp,?_,?_⟩
    ·simp only[h2,List.mem_singleton,aN.mk.injEq];exact q1
    ·simp only[h2,List.mem_singleton,aN.mk.injEq];exact λq=>q2 ⟨q.2,q.1⟩
   ·rw[h1]at q;cases q
 ·constructor
  ·rintro⟨q0,_,_,q1,q2⟩
   simp only[h2,List.mem_singleton,aN.mk.injEq]at q1 q2
   exact⟨q0,.inl ⟨h1,λq=>q2 ⟨q.2,q.1⟩,q1⟩⟩
  ·rintro⟨q0,(⟨_,q1,q2⟩|⟨q,_⟩)⟩
   ·refine⟨q0,by rw[h1];simp,by rw[h1];simp,?_,?_⟩
    ·simp only[h2,List.mem_singleton,aN.mk.injEq];exact q2
    ·simp only[h2,List.mem_singleton,aN.mk.injEq];exact λq=>q1 ⟨q.2,q.1⟩
   ·rw[h1]at q;cases q
 ·rw[h1,h2]
  simp
theorem Fl.down(h:Fl g e x rs B f u n){r z:Int}:z∈dnT g f r↔dR g r z=true∧((f.ah=[]∧((r=u∧z=n)∨(r=n∧z=u)))∨(f.ah=[n]∧z=n)):=by
 rw[agT h.td.hv]
 rcases h.fail with⟨h1,h2|h2⟩|⟨h1,h2⟩
 ·rw[h1,h2];simp[and_comm]
 ·rw[h1,h2]
  simp only[List.not_mem_nil,false_or,List.mem_singleton,aN.mk.injEq,true_and,reduceCtorEq,false_and,or_false,List.cons_ne_nil,List.nil_eq,and_congr_right_iff]
  intro _
  constructor
  ·rintro(⟨q1,q2⟩|⟨q1,q2⟩)
   ·exact .inr ⟨q1,q2⟩
   ·exact .inl ⟨q2,q1⟩
  ·rintro(⟨q1,q2⟩|⟨q1,q2⟩)
   ·exact .inr ⟨q2,q1⟩
   ·exact .inl ⟨q1,q2⟩
 ·rw[h1,h2];simp
theorem Fl.keep(h:Fl g e x rs B f u n){k:aN}(hk:k∈x.Links)(hn:k.To≠n)(hf:k.bn=n→f.ah=[]):dR (aP g f) k.bn k.To=true∧k.To∉dnT g f k.bn:=by
 have lZ:=h.td.adj k hk
 have hb:¬(k.bn=n∧k.To=u):=λq=>h.aaK (by rw[←q.1,←q.2];exact hk)
 rw[h.aer,h.down]
 rcases h.fail with⟨h1,_⟩|⟨_,h2⟩
 ·refine⟨⟨lZ,.inl ⟨h1,λq=>hn q.2,hb⟩⟩,?_⟩
  rintro⟨_,(⟨_,q|q⟩|⟨q,_⟩)⟩
  ·exact hn q.2
  ·exact hb q
  ·rw[h1]at q;cases q
 ·have hkn:k.bn≠n:=λq=>by have:=hf q;rw[h2]at this;cases this
  refine⟨⟨lZ,.inr ⟨h2,hkn,hn⟩⟩,?_⟩
  rintro⟨_,(⟨q,_⟩|⟨_,q⟩)⟩
  ·rw[h2]at q;cases q
  ·exact hn q
theorem Fl.dn(h:Fl g e x rs B f u n):n∈dnT g f u:=by
 rw[h.down]
 refine⟨h.td.adj _ h.un,?_⟩
 rcases h.fail with⟨h1,_⟩|⟨_,h2⟩
 ·exact .inl ⟨h1,.inl ⟨rfl,rfl⟩⟩
 ·exact .inr ⟨h2,rfl⟩
theorem Fl.viaW(h:Fl g e x rs B f u n){a b:Int}(hab:dR (aP g (bg.mk [] [n])) a b=true):dR (aP g f) a b=true:=by
 obtain⟨h1,h2,h3,_⟩:=(qf h.td.hv).1 hab
 simp only[List.mem_singleton]at h2 h3
 rw[h.aer]
 refine⟨h1,?_⟩
 rcases h.fail with⟨h4,_⟩|⟨_,h4⟩
 ·exact .inl ⟨h4,λq=>h3 q.2,λq=>h2 q.1⟩
 ·exact .inr ⟨h4,h2,h3⟩
theorem Fl.uG(h:Fl g e x rs B f u n):u∈ids g:=h.td.inG (h.td.from h.un)
theorem Fl.via(h:Fl g e x rs B f u n){m:Int}(hm:fh g n u m≠[]):okP (aP g f) u (fh g n u m)=true∧wF u (fh g n u m)=m:=
 ⟨acA (λ_ _=>h.viaW) _ _ (afc (zj hm)),ady (zj hm)⟩
theorem Fl.back(h:Fl g e x rs B f u n)(hb:gq g n u≠[]):wF u (gq g n u)=n∧(okP (aP g f) u (gq g n u)=true↔f.ah=[]):=by
 have hend:=ady (zj hb)
 refine⟨hend,?_⟩
 constructor
 ·intro hp
  rcases h.fail with⟨h1,_⟩|⟨_,h2⟩
  ·exact h1
  ·have hc:=agW _ _ hp
   have hend:wF u (gq g n u)=n:=hend
   rw[hend]at hc
   have:=hc.ids (gI g f) ((qh h.td.hv).2 ⟨h.uG,by rw[h2];simpa using h.ne⟩)
   have:=((qh h.td.hv).1 this).2
   rw[h2]at this;simp at this
 ·intro h1
  refine acA (λa b hab=>?_) _ _ (afc (zj hb))
  obtain⟨q1,_,_,q2,q3⟩:=(qf h.td.hv).1 hab
  simp only[List.mem_singleton,aN.mk.injEq]at q2 q3
  rw[h.aer]
  exact⟨q1,.inl ⟨h1,q2,λq=>q3 ⟨q.2,q.1⟩⟩⟩
theorem Fl.auQ(h:Fl g e x rs B f u n){m:Int}(hum:u≠m)(hc:Cn (aP g f) [] u m)(hm:fh g n u m=[]):f.ah=[]∧gq g n u≠[]:=by
 have hA:f.ah=[]:=by
  rcases h.fail with⟨h1,_⟩|⟨h1,h2⟩
  ·exact h1
  ·have ef:f=bg.mk [] [n]:=by cases f;simp only at h1 h2;rw[h1,h2]
   rw[ef]at hc
   exact absurd hm (zk (gI g _) ((qh h.td.hv).2 ⟨h.uG,by simpa using h.ne⟩) hum hc)
 refine⟨hA,?_⟩
 have hw:∀a b,dR (aP g f) a b=true→dR (aP g (bg.mk [aN.mk u n] [])) a b=true:=λa b hab=>by
  obtain⟨q1,q2⟩:=h.aer.1 hab
  rw[qf h.td.hv]
  rcases q2 with⟨_,q2,q3⟩|⟨q2,_⟩
  ·simp only[List.not_mem_nil,not_false_eq_true,true_and,List.mem_singleton,aN.mk.injEq]
   exact⟨q1,q2,λq=>q3 ⟨q.2,q.1⟩⟩
  ·rw[hA]at q2;cases q2
 have auR:∀{t t':aa} {c:List Int} {a b:Int},(∀a b,dR t a b=true→dR t' a b=true)→Cn t c a b→Cn t' c a b:=λhh hcn=>by
  induction hcn with
  |refl h=>exact .refl h
  |step _ ha hd ih=>exact .step ih (hh _ _ ha) hd
 rcases aiI (r:=n) h.ne hc with hc1|hc1
 ·exfalso
  have hcm:Cn (aP g (bg.mk [] [n])) [] u m:=by
   clear hm hum hc
   induction hc1 with
   |refl h=>exact .refl (by simp)
   |@step b c hcb ha hd ih=>
    refine .step ih ?_ (by simp)
    rw[qf h.td.hv]
    have hnb:b≠n:=by
     have:=Cn.right hcb
     simpa using this
    simp only[List.not_mem_nil,not_false_eq_true,and_true,List.mem_singleton]
    exact⟨(h.aer.1 ha).1,hnb,by simpa using hd⟩
  exact zk (gI g _) ((qh h.td.hv).2 ⟨h.uG,by simpa using h.ne⟩) hum hcm hm
 ·exact zk (gI g _) ((qh h.td.hv).2 ⟨h.uG,by simp⟩) h.ne (auR hw hc1)
theorem Fl.ahC(h:Fl g e x rs B f u n)(hc:Cn (aP g f) [] u n):f.ah=[]∧gq g n u≠[]:=by
 have hA:f.ah=[]:=by
  rcases h.fail with⟨h1,_⟩|⟨h1,h2⟩
  ·exact h1
  ·exfalso
   have:=hc.ids (gI g f) ((qh h.td.hv).2 ⟨h.uG,by rw[h2];simpa using h.ne⟩)
   have:=((qh h.td.hv).1 this).2
   rw[h2]at this;simp at this
 refine⟨hA,?_⟩
 have hw:∀a b,dR (aP g f) a b=true→dR (aP g (bg.mk [aN.mk u n] [])) a b=true:=λa b hab=>by
  obtain⟨q1,q2⟩:=h.aer.1 hab
  rw[qf h.td.hv]
  rcases q2 with⟨_,q2,q3⟩|⟨q2,_⟩
  ·simp only[List.not_mem_nil,not_false_eq_true,true_and,List.mem_singleton,aN.mk.injEq]
   exact⟨q1,q2,λq=>q3 ⟨q.2,q.1⟩⟩
  ·rw[hA]at q2;cases q2
 have hc2:Cn (aP g (bg.mk [aN.mk u n] [])) [] u n:=by
  have:∀z,Cn (aP g f) [] u z→Cn (aP g (bg.mk [aN.mk u n] [])) [] u z:=λz hz=>by
   induction hz with
   |refl h=>exact .refl h
   |step _ ha hd ih=>exact .step ih (hw _ _ ha) hd
  exact this _ hc
 exact zk (gI g _) ((qh h.td.hv).2 ⟨h.uG,by simp⟩) h.ne hc2
end
end Go.Proofs.YtdjeacigeegklaaGreat
namespace Go.Proofs.YtdjeacigeegklaaGreat
set_option linter.all false
open Go
def Kid(g:aa)(x:dz)(rs:List Int)(f:bg)(u n y z:Int):Prop:=
 (y≠n∧z≠n∧aN.mk y z∈x.Links)∨(y=u∧aN.mk n z∈x.Links∧fh g n u z≠[])∨
 (y=u∧z=n∧f.ah=[]∧gq g n u≠[]∧(n∈rs∨∃m,aN.mk n m∈x.Links∧fh g n u m=[]))∨(y=n∧aN.mk n z∈x.Links∧fh g n u z=[])
structure Bt(g:aa)(e:aC)(x:dz)(rs:List Int)(B u n:Int)(done:List Int)(y:Int)(p:aH):Prop where
 b2:y≠n→∀a∈e.List,a.aO∉done→a.aO≠n→tbi p.Bits a.Bit.toNat=tbi B a.Bit.toNat
 b3:y≠n→u∉done→∀a∈e.List,a.aO=n→tbi p.Bits a.Bit.toNat=tbi B a.Bit.toNat
 b4:y=n→∀a∈e.List,a.aO=n→(tbi p.Bits a.Bit.toNat=true↔(a.Kind=3∧n∈rs)∨(a.Kind=1∧aN.mk n a.To∈x.Links∧fh g n u a.To=[]))
 b5:y=n→(∃m,aN.mk n m∈x.Links∧fh g n u m=[])→∀a∈e.List,a.aO∉done→a.aO≠n→tbi p.Bits a.Bit.toNat=tbi B a.Bit.toNat
structure mq(g:aa)(e:aC)(x:dz)(rs:List Int)(B:Int)(f:bg)(u n:Int)(q:List az)(D:List bX)(C:List b8)(done:List Int):Prop where
 nd:(tgs (aP g f) q++done).Nodup
 tr:∀y∈tgs (aP g f) q++done,trT x y∧Cn (aP g f) [] x.cz y
 rt:x.cz∈tgs (aP g f) q++done
 par:∀y∈tgs (aP g f) q++done,y≠x.cz→∃z∈done,Kid g x rs f u n z y
 kid:∀y∈done,∀z,Kid g x rs f u n y z→z∈tgs (aP g f) q++done
 de:(D.map (·.aO)).Perm (done.filter λy=>decide (y∈rs))
 cr:∀c∈C,dR (aP g f) c.bn c.To=true
 ln:∃k,C.length+qg q≤31*k∧k≤done.length+(tgs (aP g f) q).length+(if u∈done then 1 else 0)
 pk:∀v∈q,abm (aP g f) v=true→Pk e v.cK.aB∧63-(done.length:Int)≤v.cK.aB.TTL∧Bt g e x rs B u n done (tgV v) v.cK.aB
section
variable {g:aa}{e:aC}{x:dz}{rs:List Int}{B:Int}{f:bg}{u n:Int}
theorem Bt.mono{done:List Int}{y z:Int}{p:aH}(h:Bt g e x rs B u n done y p):Bt g e x rs B u n (z::done) y p:=
 ⟨λh1 a ha h2=>h.b2 h1 a ha λhm=>h2 (List.mem_cons_of_mem _ hm),λh1 h2=>h.b3 h1 λhm=>h2 (List.mem_cons_of_mem _ hm),h.b4,λh1 h2 a ha h3=>h.b5 h1 h2 a ha λhm=>h3 (List.mem_cons_of_mem _ hm)⟩
theorem Fl.agX(h:Fl g e x rs B f u n){y z:Int}(hk:Kid g x rs f u n y z):trT x z∧z≠x.cz:=by
 rcases hk with⟨_,_,hk⟩|⟨_,hk,_⟩|⟨_,hz,_⟩|⟨_,hk,_⟩
 ·exact⟨.inr ⟨_,hk,rfl⟩,h.td.vr.nrt _ hk⟩
 ·exact⟨.inr ⟨_,hk,rfl⟩,h.td.vr.nrt _ hk⟩
 ·rw[hz];exact⟨.inr ⟨_,h.un,rfl⟩,h.zl⟩
 ·exact⟨.inr ⟨_,hk,rfl⟩,h.td.vr.nrt _ hk⟩
theorem Fl.nn(h:Fl g e x rs B f u n){m:Int}(hk:aN.mk n m∈x.Links):n≠m:=agk h.td.hv (h.td.adj _ hk)
theorem Fl.tZ(h:Fl g e x rs B f u n){a b z:Int}(h1:aN.mk a z∈x.Links)(h2:aN.mk b z∈x.Links):a=b:=by
 have:=h.td.one h1 h2 rfl
 simp only[aN.mk.injEq]at this
 exact this.1
theorem Fl.ahZ(h:Fl g e x rs B f u n){y y' z:Int}(h1:Kid g x rs f u n y z)(h2:Kid g x rs f u n y' z):y=y':=by
 rcases h1 with⟨a1,a2,a3⟩|⟨a1,a2,a3⟩|⟨a1,a2,_⟩|⟨a1,a2,a3⟩
 ·rcases h2 with⟨b1,b2,b3⟩|⟨b1,b2,b3⟩|⟨b1,b2,_⟩|⟨b1,b2,b3⟩
  ·exact h.tZ a3 b3
  ·exact absurd (h.tZ a3 b2) a1
  ·exact absurd b2 a2
  ·exact absurd (h.tZ a3 b2) a1
 ·rcases h2 with⟨b1,b2,b3⟩|⟨b1,b2,b3⟩|⟨b1,b2,_⟩|⟨b1,b2,b3⟩
  ·exact absurd (h.tZ b3 a2) b1
  ·rw[a1,b1]
  ·rw[a1,b1]
  ·exact absurd b3 a3
 ·rcases h2 with⟨b1,b2,b3⟩|⟨b1,b2,b3⟩|⟨b1,b2,_⟩|⟨b1,b2,b3⟩
  ·exact absurd a2 b2
  ·rw[a1,b1]
  ·rw[a1,b1]
  ·exact absurd a2.symm (h.nn b2)
 ·rcases h2 with⟨b1,b2,b3⟩|⟨b1,b2,b3⟩|⟨b1,b2,_⟩|⟨b1,b2,b3⟩
  ·exact absurd (h.tZ b3 a2) b1
  ·exact absurd a3 b3
  ·exact absurd b2.symm (h.nn a2)
  ·rw[a1,b1]
theorem mq.pass{v:az}{q:List az}{D:List bX}{C:List b8}{done:List Int}(h:mq g e x rs B f u n (v::q) D C done){y:Int}{l:List Int}(hv:v.cK.fU=y::l):
  mq g e x rs B f u n (q++gM e g f (aP g f) v) (D++pz e v) (C++iW e g f (aP g f) v) done:=by
 obtain⟨r,⟨R,p⟩⟩:=v
 have hv:R=y::l:=hv
 subst hv
 obtain⟨nd,tr,rt,par,kid,de,cr,ln,pk⟩:=h
 generalize hw:aP g f=w at *
 have hcs:(nU e g f (az.mk r (bL.mk (y::l) p))).cg=[aZ.mk y (bL.mk l p)]:=rfl
 have ai2:(tgs w (az.mk r (bL.mk (y::l) p)::q)).Perm (tgs w (q++gM e g f w (az.mk r (bL.mk (y::l) p)))):=by
  have e1:tgs w (gM e g f w (az.mk r (bL.mk (y::l) p)))=tgs w [az.mk r (bL.mk (y::l) p)]:=by
   unfold gM
   rw[aeq,hcs]
   unfold tgs
   have e2:kX w r (aZ.mk y (bL.mk l p))=abm w (az.mk r (bL.mk (y::l) p)):=rfl
   cases hq:abm w (az.mk r (bL.mk (y::l) p))
   ·rw[List.filter_cons_of_neg (by simp[e2,hq]),List.filter_cons_of_neg (by simp[hq])];rfl
   ·rw[List.filter_cons_of_pos (by simp[e2,hq]),List.filter_cons_of_pos hq];rfl
  rw[yo,e1]
  have:=yo w [az.mk r (bL.mk (y::l) p)] q
  rw[show[az.mk r (bL.mk (y::l) p)]++q=az.mk r (bL.mk (y::l) p)::q from rfl]at this
  rw[this]
  exact List.perm_append_comm
 have hm:∀z,z∈tgs w (q++gM e g f w (az.mk r (bL.mk (y::l) p)))++done↔z∈tgs w (az.mk r (bL.mk (y::l) p)::q)++done:=λz=>(ai2.append_right done).mem_iff.symm
 have hnew:∀v'∈gM e g f w (az.mk r (bL.mk (y::l) p)),v'=az.mk y (bL.mk l p)∧dR w r y=true:=λv' hv'=>by
  unfold gM sQu at hv'
  rw[hcs]at hv'
  cases hk:okC w r (aZ.mk y (bL.mk l p))
  ·rw[List.filter_cons_of_neg (by simp[hk])]at hv';simp at hv'
  ·rw[List.filter_cons_of_pos hk]at hv'
   simp only[List.filter_nil,List.map_cons,List.map_nil,List.mem_singleton]at hv'
   exact⟨hv',hk⟩
 subst hw
 refine⟨(ai2.append_right done).nodup_iff.1 nd,λz hz=>tr z ((hm z).1 hz),(hm _).2 rt,λz hz=>par z ((hm z).1 hz),λa ha z hk=>(hm z).2 (kid a ha z hk),?_,?_,?_,?_⟩
 ·show((D++[]).map _).Perm _
  rw[List.append_nil];exact de
 ·intro c hc
  rcases List.mem_append.1 hc with hc|hc
  ·exact cr c hc
  ·obtain⟨a,ha,rfl⟩:=List.mem_map.1 hc
   exact(List.mem_filter.1 ha).2
 ·obtain⟨k,k1,k2⟩:=ln
  refine⟨k,?_,?_⟩
  ·have:=agV q (gM e g f (aP g f) (az.mk r (bL.mk (y::l) p)))
   rw[List.length_append,this]
   have e3:qg (az.mk r (bL.mk (y::l) p)::q)=(l.length+1)+qg q:=rfl
   rw[e3]at k1
   have:(iW e g f (aP g f) (az.mk r (bL.mk (y::l) p))).length+qg (gM e g f (aP g f) (az.mk r (bL.mk (y::l) p)))≤l.length+1:=by
    unfold iW gM sCr sQu qg
    rw[hcs]
    cases hk:okC (aP g f) r (aZ.mk y (bL.mk l p))
    ·rw[List.filter_cons_of_neg (by simp[hk])];simp
    ·rw[List.filter_cons_of_pos hk];simp;omega
   omega
  ·rw[←ai2.length_eq];exact k2
 ·intro v' hv' hl
  rcases List.mem_append.1 hv' with hv'|hv'
  ·exact pk v' (List.mem_cons_of_mem _ hv') hl
  ·obtain⟨rfl,lZ⟩:=hnew v' hv'
   refine pk (az.mk r (bL.mk (y::l) p)) (List.mem_cons_self ..) ?_
   show(dR (aP g f) r y&&okP (aP g f) y l)=true
   rw[lZ,Bool.true_and];exact hl
theorem mq.handle(hF:Fl g e x rs B f u n){y:Int}{p:aH}{q:List az}{D:List bX}{C:List b8}{done:List Int}{cs:List aZ}(h:mq g e x rs B f u n (az.mk y (bL.mk [] p)::q) D C done)
  (hcs:(nU e g f (az.mk y (bL.mk [] p))).cg=cs)
  (H0:((cs.filter (kX (aP g f) y)).map tgC).Nodup) (H1:∀z,z∈(cs.filter (kX (aP g f) y)).map tgC↔Kid g x rs f u n y z)
  (H2:(j9 e y p).map (·.aO)=if y∈rs then[y]else[])
  (H3:∀c∈cs,kX (aP g f) y c=true→Pk e c.Frame.aB∧63-((done.length:Int)+1)≤c.Frame.aB.TTL∧Bt g e x rs B u n (y::done) (tgC c) c.Frame.aB)
  (H4:cs.length≤(cs.filter (kX (aP g f) y)).length+(if y=u then 1 else 0)) (H5:∀c∈cs,c.Frame.fU.length≤30) :
  mq g e x rs B f u n (q++gM e g f (aP g f) (az.mk y (bL.mk [] p))) (D++pz e (az.mk y (bL.mk [] p))) (C++iW e g f (aP g f) (az.mk y (bL.mk [] p))) (y::done):=by
 obtain⟨nd,tr,rt,par,kid,de,cr,ln,pk⟩:=h
 generalize hw:aP g f=w at *
 have e0:tgs w (az.mk y (bL.mk [] p)::q)=y::tgs w q:=rfl
 have eN:tgs w (gM e g f w (az.mk y (bL.mk [] p)))=(cs.filter (kX w y)).map tgC:=by
  unfold gM;rw[aeq,hcs]
 rw[e0]at nd tr rt par kid ln
 simp only[List.cons_append]at nd tr rt par kid
 obtain⟨hy,ndq⟩:=List.nodup_cons.1 nd
 obtain⟨nq,abk,amt⟩:=List.nodup_append.1 ndq
 have hyd:y∉done:=λhm=>hy (List.mem_append_right _ hm)
 have fresh:∀z,Kid g x rs f u n y z→z∉y::(tgs w q++done):=λz hz hm=>by
  obtain⟨z',hz',hk⟩:=par z hm (hF.agX hz).2
  have:=hF.ahZ hz hk
  subst this
  exact hyd hz'
 have hmem:∀z,z∈tgs w (q++gM e g f w (az.mk y (bL.mk [] p)))++y::done↔z∈y::(tgs w q++done)∨Kid g x rs f u n y z:=λz=>by
  rw[yo,eN,←H1 z]
  simp only[List.mem_append,List.mem_cons]
  constructor
  ·rintro((h|h)|h|h)
   ·exact .inl (.inr (.inl h))
   ·exact .inr h
   ·exact .inl (.inl h)
   ·exact .inl (.inr (.inr h))
  ·rintro((h|h|h)|h)
   ·exact .inr (.inl h)
   ·exact .inl (.inl h)
   ·exact .inr (.inr h)
   ·exact .inl (.inr h)
 subst hw
 refine⟨?_,?_,(hmem _).2 (.inl rt),?_,?_,?_,?_,?_,?_⟩
 ·rw[yo,eN,List.append_assoc,List.nodup_append]
  refine⟨nq,?_,λa ha b hb hab=>?_⟩
  ·rw[List.nodup_append]
   refine⟨H0,List.nodup_cons.2 ⟨hyd,abk⟩,λa ha b hb hab=>?_⟩
   subst hab
   refine fresh a ((H1 a).1 ha) ?_
   rcases List.mem_cons.1 hb with hb|hb
   ·rw[hb];simp
   ·simp[hb]
  ·subst hab
   rcases List.mem_append.1 hb with hb|hb
   ·exact fresh a ((H1 a).1 hb) (List.mem_cons_of_mem _ (List.mem_append_left _ ha))
   ·rcases List.mem_cons.1 hb with hb|hb
    ·subst hb;exact hy (List.mem_append_left _ ha)
    ·exact amt a ha a hb rfl
 ·intro z hz
  rcases(hmem z).1 hz with hz|hz
  ·exact tr z hz
  ·refine⟨(hF.agX hz).1,?_⟩
   obtain⟨c,hc,hcz⟩:=List.mem_map.1 ((H1 z).2 hz)
   have hl:=(List.mem_filter.1 hc).2
   have:=agW _ _ hl
   have h2:Cn (aP g f) [] y z:=by rw[←hcz];exact this
   exact(tr y (by simp)).2.trans h2
 ·intro z hz hzr
  rcases(hmem z).1 hz with hz|hz
  ·obtain⟨z',hz',hk⟩:=par z hz hzr
   exact⟨z',List.mem_cons_of_mem _ hz',hk⟩
  ·exact⟨y,by simp,hz⟩
 ·intro a ha z hk
  rcases List.mem_cons.1 ha with rfl|ha
  ·exact(hmem z).2 (.inr hk)
  ·exact(hmem z).2 (.inl (kid a ha z hk))
 ·show((D++j9 e y p).map _).Perm _
  rw[List.map_append,H2]
  by_cases hr:y∈rs
  ·rw[if_pos hr,List.filter_cons_of_pos (by simpa using hr)]
   exact(de.append_right _).trans List.perm_append_comm
  ·rw[if_neg hr,List.append_nil,List.filter_cons_of_neg (by simpa using hr)]
   exact de
 ·intro c hc
  rcases List.mem_append.1 hc with hc|hc
  ·exact cr c hc
  ·obtain⟨a,ha,rfl⟩:=List.mem_map.1 hc
   exact(List.mem_filter.1 ha).2
 ·obtain⟨k,k1,k2⟩:=ln
  refine⟨k+cs.length,?_,?_⟩
  ·have e3:qg (az.mk y (bL.mk [] p)::q)=0+qg q:=rfl
   have:=ahY (aP g f) y cs H5
   rw[List.length_append,agV]
   unfold iW gM
   rw[hcs]
   rw[e3]at k1
   show C.length+(sCr (aP g f) y cs).length+(qg q+qg (sQu (aP g f) y cs))≤_
   omega
  ·rw[yo,eN,List.length_append,List.length_map]
   simp only[List.length_cons]at k2 ⊢
   have:(if u∈done then 1 else 0)+(if y=u then 1 else 0)≤(if u∈y::done then 1 else 0):=by
    by_cases h1:y=u
    ·subst h1
     rw[if_neg hyd,if_pos rfl,if_pos (by simp)];omega
    ·rw[if_neg h1]
     by_cases h2:u∈done
     ·rw[if_pos h2,if_pos (by simp[h2])];omega
     ·rw[if_neg h2];omega
   omega
 ·intro v' hv' hl
  rcases List.mem_append.1 hv' with hv'|hv'
  ·obtain⟨p1,p2,p3⟩:=pk v' (List.mem_cons_of_mem _ hv') hl
   refine⟨p1,?_,p3.mono⟩
   simp only[List.length_cons];omega
  ·unfold gM sQu at hv'
   rw[hcs]at hv'
   obtain⟨c,hc,rfl⟩:=List.mem_map.1 hv'
   obtain⟨hc1,hc2⟩:=List.mem_filter.1 hc
   have hlc:kX (aP g f) y c=true:=by
    show(okC (aP g f) y c&&_)=true
    have hc2:okC (aP g f) y c=true:=hc2
    rw[hc2,Bool.true_and];exact hl
   obtain⟨p1,p2,p3⟩:=H3 c hc1 hlc
   refine⟨p1,?_,p3⟩
   simp only[List.length_cons];omega
end
end Go.Proofs.YtdjeacigeegklaaGreat
namespace Go.Proofs.YtdjeacigeegklaaGreat
set_option linter.all false
open Go
section
variable {g:aa}{e:aC}{x:dz}{rs:List Int}{B:Int}{f:bg}{u n:Int}
theorem acB{y:Int}{p:aH}{a:aq}(h:a.Kind≠2):eT e y p a=aZ.mk a.To (bL.mk [] (goP e y p)):=by
 unfold eT;rw[if_neg h]
theorem Fl.simple(hF:Fl g e x rs B f u n){y:Int}{p:aH}{S:aN→Bool}{l:List aq}(hl:∀a∈l,a∈cv e y p)(hs:(l.map jm).Perm (x.Links.filter λk=>decide (k.bn=y)&&S k))
  (hk:∀k∈x.Links,k.bn=y→S k=true→dR (aP g f) y k.To=true) :
  (l.map (eT e y p)).filter (kX (aP g f) y)=l.map (eT e y p)∧((l.map (eT e y p)).map tgC).Nodup∧(∀z,z∈(l.map (eT e y p)).map tgC↔∃k∈x.Links,k.bn=y∧S k=true∧k.To=z)∧
  ∀c∈l.map (eT e y p),c.Frame.fU=[]∧c.Frame.aB=goP e y p∧∃k∈x.Links,k.bn=y∧S k=true∧k.To=tgC c:=by
 have hka:∀a∈l,a.Kind≠2:=λa ha=>hF.td.kd a (List.mem_filter.1 (hl a ha)).1
 have hin:∀a∈l,jm a∈x.Links∧(jm a).bn=y∧S (jm a)=true:=λa ha=>by
  have:=List.mem_filter.1 (hs.mem_iff.1 (List.mem_map.2 ⟨a,ha,rfl⟩))
  rw[Bool.and_eq_true,decide_eq_true_eq]at this
  exact this
 have htg:(l.map (eT e y p)).map tgC=(l.map jm).map (·.To):=by
  rw[List.map_map,List.map_map]
  refine List.map_congr_left λa ha=>?_
  show tgC (eT e y p a)=a.To
  rw[acB (hka a ha)];rfl
 have hpt:=hs.map (·.To)
 refine⟨List.filter_eq_self.2 λc hc=>?_,?_,λz=>?_,λc hc=>?_⟩
 ·obtain⟨a,ha,rfl⟩:=List.mem_map.1 hc
  rw[acB (hka a ha)]
  obtain⟨h1,h2,h3⟩:=hin a ha
  show(dR (aP g f) y a.To&&true)=true
  rw[Bool.and_true];exact hk _ h1 h2 h3
 ·rw[htg]
  exact hpt.nodup_iff.2 ((List.pairwise_map.2 hF.td.vr.dup:(x.Links.map (·.To)).Nodup).sublist (List.filter_sublist.map _))
 ·rw[htg,hpt.mem_iff,List.mem_map]
  constructor
  ·rintro⟨k,hk1,rfl⟩
   have:=List.mem_filter.1 hk1
   rw[Bool.and_eq_true,decide_eq_true_eq]at this
   exact⟨k,this.1,this.2.1,this.2.2,rfl⟩
  ·rintro⟨k,h1,h2,h3,rfl⟩
   exact⟨k,List.mem_filter.2 ⟨h1,by rw[Bool.and_eq_true,decide_eq_true_eq];exact⟨h2,h3⟩⟩,rfl⟩
 ·obtain⟨a,ha,rfl⟩:=List.mem_map.1 hc
  rw[acB (hka a ha)]
  obtain⟨h1,h2,h3⟩:=hin a ha
  exact⟨rfl,rfl,jm a,h1,h2,h3,rfl⟩
theorem mq.head(hF:Fl g e x rs B f u n){y:Int}{p:aH}{q:List az}{D:List bX}{C:List b8}{done:List Int}(h:mq g e x rs B f u n (az.mk y (bL.mk [] p)::q) D C done):
  y∉done∧Pk e p∧0<p.TTL∧p.TTL≤63∧63-(done.length:Int)≤p.TTL∧Bt g e x rs B u n done y p∧(∀z,Kid g x rs f u n y z→z∉done∧z≠y)∧trT x y∧Cn (aP g f) [] x.cz y:=by
 obtain⟨nd,tr,rt,par,kid,de,cr,ln,pk⟩:=h
 have e0:tgs (aP g f) (az.mk y (bL.mk [] p)::q)=y::tgs (aP g f) q:=rfl
 rw[e0]at nd tr rt par kid
 simp only[List.cons_append]at nd tr rt par kid
 obtain⟨hy,ndq⟩:=List.nodup_cons.1 nd
 have abk:=(List.nodup_append.1 ndq).2.1
 have hyd:y∉done:=λhm=>hy (List.mem_append_right _ hm)
 obtain⟨p1,p2,p3⟩:=pk _ (List.mem_cons_self ..) rfl
 have hlen:done.length≤24:=Nat.le_trans (jW abk λz hz=>hF.td.inG (tr z (List.mem_cons_of_mem _ (List.mem_append_right _ hz))).1) (mE hF.td.hv)
 have p1:Pk e p:=p1
 have p2:63-(done.length:Int)≤p.TTL:=p2
 have ht:=(oR.1 p1.v).2.2.2.2.1
 refine⟨hyd,p1,by omega,by omega,p2,p3,λz hz=>?_,(tr y (by simp)).1,(tr y (by simp)).2⟩
 have:z∉y::(tgs (aP g f) q++done):=λhm=>by
  obtain⟨z',hz',hk⟩:=par z hm (hF.agX hz).2
  have:=hF.ahZ hz hk
  subst this
  exact hyd hz'
 simp only[List.mem_cons,List.mem_append,not_or]at this
 exact⟨this.2.2,this.1⟩
theorem adz{p:aH}{y:Int}(h0:0<p.TTL)(h1:p.TTL≤63):(goP e y p).TTL=p.TTL-1:=by
 show w64 (p.TTL-1)=_
 rw[gO (by omega) (by omega)]
theorem mq.far(hF:Fl g e x rs B f u n){y:Int}{p:aH}{q:List az}{D:List bX}{C:List b8}{done:List Int}(h:mq g e x rs B f u n (az.mk y (bL.mk [] p)::q) D C done)(hyu:y≠u)(hyn:y≠n):
  mq g e x rs B f u n (q++gM e g f (aP g f) (az.mk y (bL.mk [] p))) (D++pz e (az.mk y (bL.mk [] p))) (C++iW e g f (aP g f) (az.mk y (bL.mk [] p))) (y::done):=by
 obtain⟨hyd,hpk,t0,t1,zi,hB,fresh,_,_⟩:=h.head hF
 have hE:=hF.td.ef.v
 have hp:∀a∈e.List,a.aO=y→tbi p.Bits a.Bit.toNat=tbi B a.Bit.toNat:=λa ha hr=>hB.b2 hyn a ha (by rw[hr];exact hyd) (by rw[hr];exact hyn)
 have hkn:∀k∈x.Links,k.bn=y→k.To≠n:=λk hk hky hkn=>hyu (by have:=hF.td.one hk hF.un hkn;rw[←hky,this])
 have aaL:∀k∈x.Links,k.bn=y→Kid g x rs f u n y k.To:=λk hk hky=>.inl ⟨hyn,hkn k hk hky,by rw[←hky];exact hk⟩
 have hs:=hF.td.adx (y:=y) (p:=p) (λ_=>true) (λa ha h1 h2=>by rw[hp a ha h1,hF.td.acz ha h2,h1];simp) (by omega) λk hk h1 _=>by
  obtain⟨f1,f2⟩:=fresh _ (aaL k hk h1)
  exact hF.td.rest (z:=k.To) (.inr ⟨k,hk,rfl⟩) f2 λa ha har=>hB.b2 hyn a ha (by rw[har];exact f1) (by rw[har];exact hkn k hk h1)
 have keep:∀k∈x.Links,k.bn=y→dR (aP g f) y k.To=true∧k.To∉dnT g f y:=λk hk hky=>by
  have:=hF.keep hk (hkn k hk hky) λh=>absurd (hky.symm.trans h) hyn
  rwa [hky]at this
 obtain⟨s1,s2,s3,s4⟩:=hF.simple (l:=cv e y p) (λa ha=>ha) hs λk hk hky _=>(keep k hk hky).1
 have hin:∀a∈cv e y p,jm a∈x.Links∧(jm a).bn=y:=λa ha=>by
  have:=List.mem_filter.1 (hs.mem_iff.1 (List.mem_map.2 ⟨a,ha,rfl⟩))
  rw[Bool.and_eq_true,decide_eq_true_eq]at this
  exact⟨this.1,this.2.1⟩
 have amy:Clr e g (aP g f) f y p:=λa ha=>by
  obtain⟨i1,i2⟩:=hin a ha
  obtain⟨k1,k2⟩:=keep _ i1 i2
  have lZ:=hF.td.adj _ i1
  rw[i2]at lZ
  exact⟨hF.td.kd a (List.mem_filter.1 ha).1,lZ,k2,k1⟩
 have hcs:(nU e g f (az.mk y (bL.mk [] p))).cg=(cv e y p).map (eT e y p):=by
  show(mo e g y p (dnT g f y)).cg=_
  rw[aep amy];rfl
 refine mq.handle hF h hcs (by rw[s1];exact s2) (λz=>?_) ?_ (λc hc _=>?_) (by rw[s1];omega) λc hc=>by rw[(s4 c hc).1];simp
 ·rw[s1,s3 z]
  constructor
  ·rintro⟨k,hk,hky,_,rfl⟩;exact aaL k hk hky
  ·rintro(⟨_,_,hk⟩|⟨hk,_⟩|⟨hk,_⟩|⟨hk,_⟩)
   ·exact⟨_,hk,rfl,rfl,rfl⟩
   ·exact absurd hk hyu
   ·exact absurd hk hyu
   ·exact absurd hk hyn
 ·rw[tj,hF.td.aiW λa ha hr _=>hp a ha hr]
 ·obtain⟨_,c2,k,hk,hky,_,hkt⟩:=s4 c hc
  have aaM:tgC c≠n:=by rw[←hkt];exact hkn k hk hky
  rw[c2,adz t0 t1]
  obtain⟨f1,f2⟩:=fresh _ (aaL k hk hky)
  have abl:dZ e y p≠0:=hF.td.rest (z:=k.To) (.inr ⟨k,hk,rfl⟩) f2 λa ha har=>hB.b2 hyn a ha (by rw[har];exact f1) (by rw[har];exact hkn k hk hky)
  refine⟨hpk.go hE y abl t0,by omega,λ_ a ha h1 h2=>?_,λ_ h1 a ha h2=>?_,λh=>absurd h aaM,λh=>absurd h aaM⟩
  ·show tbi (dZ e y p) a.Bit.toNat=_
   simp only[List.mem_cons,not_or]at h1
   rw[oT hE ha h1.1,hB.b2 hyn a ha h1.2 h2]
  ·show tbi (dZ e y p) a.Bit.toNat=_
   simp only[List.mem_cons,not_or]at h1
   rw[oT hE ha (by rw[h2];exact λh=>hyn h.symm),hB.b3 hyn h1.2 a ha h2]
theorem Fl.vl(hF:Fl g e x rs B f u n)(h:Cn (aP g f) [] x.cz n):f.ah=[]:=by
 rcases hF.fail with⟨h1,_⟩|⟨_,h2⟩
 ·exact h1
 ·have:=h.ids (gI g f) ((qh hF.td.hv).2 ⟨hF.td.rt,by rw[h2];simpa using Ne.symm hF.zl⟩)
  have:=((qh hF.td.hv).1 this).2
  rw[h2]at this;simp at this
theorem Fl.ai3(hF:Fl g e x rs B f u n){y:Int}(h:Kid g x rs f u n y n):y=u:=by
 rcases h with⟨_,h,_⟩|⟨h,_⟩|⟨h,_⟩|⟨_,h,_⟩
 ·exact absurd rfl h
 ·exact h
 ·exact h
 ·exact absurd rfl (hF.nn h)
theorem mq.near(hF:Fl g e x rs B f u n){p:aH}{q:List az}{D:List bX}{C:List b8}{done:List Int}(h:mq g e x rs B f u n (az.mk n (bL.mk [] p)::q) D C done):
  mq g e x rs B f u n (q++gM e g f (aP g f) (az.mk n (bL.mk [] p))) (D++pz e (az.mk n (bL.mk [] p))) (C++iW e g f (aP g f) (az.mk n (bL.mk [] p))) (n::done):=by
 obtain⟨hyd,hpk,t0,t1,zi,hB,fresh,_,hcn⟩:=h.head hF
 have hE:=hF.td.ef.v
 have hA:=hF.vl hcn
 have hud:u∈done:=by
  obtain⟨z,hz,hk⟩:=h.par n (List.mem_append_left _ (by show n∈n::_;simp)) hF.zl
  rw[hF.ai3 hk]at hz;exact hz
 have aaL:∀k∈x.Links,k.bn=n→fh g n u k.To=[]→Kid g x rs f u n n k.To:=λk hk hkn hv=>.inr (.inr (.inr ⟨rfl,by rw[←hkn];exact hk,hv⟩))
 have ug:∀k∈x.Links,k.bn=n→fh g n u k.To=[]→∀a∈e.List,a.aO∉done→a.aO≠n→tbi p.Bits a.Bit.toNat=tbi B a.Bit.toNat:=λk hk hkn hv=>hB.b5 rfl ⟨k.To,by rw[←hkn];exact hk,hv⟩
 have hne:∀k∈x.Links,k.bn=n→k.To≠n:=λk hk hkn h=>hF.nn (m:=k.To) (by rw[←hkn];exact hk) h.symm
 have abl:∀k∈x.Links,k.bn=n→fh g n u k.To=[]→dZ e n p≠0:=λk hk hkn hv=>by
  obtain⟨f1,f2⟩:=fresh _ (aaL k hk hkn hv)
  exact hF.td.rest (z:=k.To) (.inr ⟨k,hk,rfl⟩) f2 λa ha har=>ug k hk hkn hv a ha (by rw[har];exact f1) (by rw[har];exact f2)
 have hs:=hF.td.adx (y:=n) (p:=p) (λk=>decide (fh g n u k.To=[])) (λa ha h1 h2=>by
  rw[hB.b4 rfl a ha h1,decide_eq_true_eq]
  constructor
  ·rintro(⟨h3,_⟩|⟨_,h3⟩)
   ·omega
   ·exact h3
  ·intro h3;exact .inr ⟨h2,h3⟩) (by omega) λk hk h1 h2=>abl k hk h1 (by simpa using h2)
 have keep:∀k∈x.Links,k.bn=n→dR (aP g f) n k.To=true∧k.To∉dnT g f n:=λk hk hky=>by
  have:=hF.keep hk (hne k hk hky) λ_=>hA
  rwa [hky]at this
 obtain⟨s1,s2,s3,s4⟩:=hF.simple (l:=cv e n p) (λa ha=>ha) hs λk hk hky _=>(keep k hk hky).1
 have hin:∀a∈cv e n p,jm a∈x.Links∧(jm a).bn=n:=λa ha=>by
  have:=List.mem_filter.1 (hs.mem_iff.1 (List.mem_map.2 ⟨a,ha,rfl⟩))
  rw[Bool.and_eq_true,decide_eq_true_eq]at this
  exact⟨this.1,this.2.1⟩
 have amy:Clr e g (aP g f) f n p:=λa ha=>by
  obtain⟨i1,i2⟩:=hin a ha
  obtain⟨k1,k2⟩:=keep _ i1 i2
  have lZ:=hF.td.adj _ i1
  rw[i2]at lZ
  exact⟨hF.td.kd a (List.mem_filter.1 ha).1,lZ,k2,k1⟩
 have hcs:(nU e g f (az.mk n (bL.mk [] p))).cg=(cv e n p).map (eT e n p):=by
  show(mo e g n p (dnT g f n)).cg=_
  rw[aep amy];rfl
 refine mq.handle hF h hcs (by rw[s1];exact s2) (λz=>?_) ?_ (λc hc _=>?_) (by rw[s1];omega) λc hc=>by rw[(s4 c hc).1];simp
 ·rw[s1,s3 z]
  constructor
  ·rintro⟨k,hk,hky,hv,rfl⟩;exact aaL k hk hky (by simpa using hv)
  ·rintro(⟨hk,_⟩|⟨hk,_⟩|⟨hk,_⟩|⟨_,hk,hv⟩)
   ·exact absurd rfl hk
   ·exact absurd hk.symm hF.ne
   ·exact absurd hk.symm hF.ne
   ·exact⟨_,hk,rfl,by simpa using hv,rfl⟩
 ·rw[tj,hF.td.aiW λa ha hr h3=>by
   rw[Bool.eq_iff_iff,hB.b4 rfl a ha hr,hF.td.amr ha h3,hr]
   constructor
   ·rintro(⟨_,h4⟩|⟨h4,_⟩)
    ·exact h4
    ·omega
   ·intro h4;exact .inl ⟨h3,h4⟩]
 ·obtain⟨_,c2,k,hk,hky,hv,hkt⟩:=s4 c hc
  have hv:fh g n u k.To=[]:=by simpa using hv
  have aaM:tgC c≠n:=by rw[←hkt];exact hne k hk hky
  rw[c2,adz t0 t1]
  refine⟨hpk.go hE n (abl k hk hky hv) t0,by omega,λ_ a ha h1 h2=>?_,λ_ h1=>?_,λh=>absurd h aaM,λh=>absurd h aaM⟩
  ·show tbi (dZ e n p) a.Bit.toNat=_
   simp only[List.mem_cons,not_or]at h1
   rw[oT hE ha h1.1,ug k hk hky hv a ha h1.2 h2]
  ·exact absurd (List.mem_cons_of_mem _ hud) h1
end
end Go.Proofs.YtdjeacigeegklaaGreat
