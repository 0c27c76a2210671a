/- Several texts in one. No condition but those that stand in each. -/
import Derived.Test.YtdjeacigeegklaaGreatPA1
import Derived.Test.YtdjeacigeegklaaGreatPN
import Derived.Test.YtdjeacigeegklaaGreatDL
namespace Go.Proofs.YtdjeacigeegklaaGreat
set_option linter.all false
open Go
def inN(n m:Int):Bool:=decide (0≤n)&&decide (n≤m)
def sZ(n:Int):Int:=if n=8 then 255 else if n=16 then 65535 else if n=32 then 4294967295 else 18446744073709551615
def w8(b n:Int):Bool:=j9 n&&decide (bX .andNot .u64 b (sZ n)=0)
def yp(p:aK):Bool:=(decide (1≤p.Mode)&&decide (p.Mode≤3))&&inN p.cL 7&&inN p.Set 31&&w8 p.Bits p.Length&&inN p.TTL 63&&inN p.dG 1023&&inN p.dH 256&&inN p.fk 7&&decide ((p.cv.size:Int)≤64)
theorem uS{n:Int}(h:j9 n=true):n=8∨n=16∨n=32∨n=64:=by simpa [j9]using h
theorem ale{n:Int}(h:j9 n=true):n9 n=some (sZ n):=by
 rcases uS h with rfl|rfl|rfl|rfl<;>kernel_rfl
theorem agY(b n:Int):lR b n=some (w8 b n):=by
 unfold lR w8
 show(bnd (some (j9 n)) _:Option Bool)=_
 rw[bn]
 cases h:j9 n
 ·rfl
 ·simp only[cond_true,ale h,bn,Bool.true_and]
theorem aoN(a b c d e f g h i j:Bool):(bif a then(bif b then(bif c then(bif d then(bif e then(bif f then(bif g then(bif h then(bif i then some j else some false)else some false)else some false)else some false)else some false)else some false)else some false)else some false)else some false)=some ((a&&b)&&c&&d&&e&&f&&g&&h&&i&&j):=by
 cases a<;>cases b<;>cases c<;>cases d<;>cases e<;>cases f<;>cases g<;>cases h<;>cases i<;>rfl
theorem sE(p:aK):iH p=some (yp p):=by
 unfold iH iN yp
 simp only[bn,agY]
 exact aoN _ _ _ _ _ _ _ _ _ _
theorem ab8{n:Int}(h:j9 n=true)(i:Nat):tbi (sZ n) i=decide ((i:Int)<n):=by
 by_cases hi:i<64
 ·have hc:∀m:Nat,m≤64→tbi (((2 ^ m-1:Nat)):Int) i=decide (i<m):=λm hm=>by
   have hb:B64 ((2 ^ m-1:Nat):Int):=by
    have:=Nat.pow_le_pow_right (n:=2) (by decide) hm
    have h0:0<2 ^ m:=Nat.pow_pos (by decide)
    unfold B64;omega
   rw[acS hb,Int.toNat_natCast,Nat.testBit_two_pow_sub_one]
  rcases uS h with rfl|rfl|rfl|rfl
  ·rw[show sZ 8=((2 ^ 8-1:Nat):Int)from rfl,hc 8 (by decide)];exact decide_eq_decide.2 (by omega)
  ·rw[show sZ 16=((2 ^ 16-1:Nat):Int)from rfl,hc 16 (by decide)];exact decide_eq_decide.2 (by omega)
  ·rw[show sZ 32=((2 ^ 32-1:Nat):Int)from rfl,hc 32 (by decide)];exact decide_eq_decide.2 (by omega)
  ·rw[show sZ 64=((2 ^ 64-1:Nat):Int)from rfl,hc 64 (by decide)];exact decide_eq_decide.2 (by omega)
 ·rw[aa3 _ (by omega)]
  have:=uS h
  rw[decide_eq_false (by omega)]
theorem wB{b n:Int}:w8 b n=true↔j9 n=true∧∀i:Nat,tbi b i=true→(i:Int)<n:=by
 unfold w8
 rw[Bool.and_eq_true,decide_eq_true_eq]
 constructor
 ·rintro⟨h,h0⟩
  refine⟨h,λi hi=>?_⟩
  have:=tbn b (sZ n) i
  rw[h0,mE,hi,ab8 h]at this
  simpa using this
 ·rintro⟨h,h1⟩
  refine⟨h,abS agN y7 λi _=>?_⟩
  rw[tbn,mE,ab8 h]
  cases hb:tbi b i
  ·rfl
  ·simp[h1 i hb]
def aac(a:az):Int:=qI a.Bit.toNat
def sF(r:Int)(p:aK)(a:az):Bool:=decide (a.aR=r)&&tbi p.Bits a.Bit.toNat
def eY(e:aI)(r:Int)(p:aK):Int:=bX .andNot .u64 p.Bits (sB e r)
def goP(e:aI)(r:Int)(p:aK):aK:=aK.mk p.Mode p.cL p.Set p.Length (w64 (p.TTL-1)) p.dG p.dH p.fk (eY e r p) p.cv
def iw(e:aI)(r:Int)(p:aK)(a:az):iM:=iM.mk a.To (kK.mk (if a.Kind=2 then[a.To]else[]) (goP e r p))
def orA(s:Int)(a:az):Int:=bX .or .u64 s (aac a)
def gf(e:aI)(r:Int)(p:aK)(a:az):Bool:=sF r p a&&!decide (a.Kind=3)&&!decide (p.TTL=0)&&!decide (eY e r p=0)
def gN(r:Int)(p:aK)(a:az):Bool:=sF r p a&&decide (a.Kind=3)
def mg(r:Int)(p:aK)(a:az):Bool:=sF r p a&&!decide (a.Kind=3)&&decide (p.TTL=0)
def cD(e:aI)(r:Int)(p:aK):List az:=e.List.filter (gf e r p)
def sG(e:aI)(r:Int)(p:aK):jk:=jk.mk ((e.List.filter (gN r p)).foldl orA 0) ((e.List.filter (mg r p)).foldl orA 0) ((cD e r p).map (iw e r p))
theorem alf{x b:Int}(h0:0≤b)(h:b<64):decide (bX .and .u64 x (qI b.toNat)=0)=!tbi x b.toNat:=by
 have hk:b.toNat<64:=by omega
 by_cases hz:bX .and .u64 x (qI b.toNat)=0
 ·rw[decide_eq_true hz]
  have:=tba x (qI b.toNat) b.toNat
  rw[hz,mE,qd _ _ hk,decide_eq_true rfl,Bool.and_true]at this
  rw[←this];rfl
 ·rw[decide_eq_false hz]
  obtain⟨i,_,hi⟩:=ak7 ah0 hz
  rw[tba,qd _ _ hk,Bool.and_eq_true,decide_eq_true_eq]at hi
  rw[←hi.2,hi.1];rfl
theorem ad2{e:aI}(hv:Ve e)(r:Int)(p:aK):iA e r p=some (sG e r p,(cD e r p).map λa=>aW.mk a (iw e r p a)):=by
 have hl:=hv.small
 unfold iA sG cD
 rw[ala e r (by omega),bn]
 refine jW (L:=e.List) (λq (sg:List aW×Int×Int×List iM)=>sg=((q.filter (gf e r p)).map (λa=>aW.mk a (iw e r p a)),(q.filter (gN r p)).foldl orA 0,(q.filter (mg r p)).foldl orA 0,(q.filter (gf e r p)).map (iw e r p))) (λq l=>some (jk.mk ((e.List.filter (gN r p)).foldl orA 0) ((e.List.filter (mg r p)).foldl orA 0) ((e.List.filter (gf e r p)).map (iw e r p)),(e.List.filter (gf e r p)).map λa=>aW.mk a (iw e r p a))) (λs hs=>by rw[hs]) (λq x rest s Z h hi hZ=>?_) e.List [] _ rfl rfl
 subst hi
 have hx:x∈e.List:=by rw[←h];simp
 obtain⟨b0,b1⟩:=hv.bit hx
 have hql:q.length≤64:=by
  have:e.List.length=q.length+(rest.length+1):=by rw[←h];simp
  omega
 have hfl:∀f:az→Bool,(q.filter f).length≤64:=λf=>Nat.le_trans (List.length_filter_le _ _) hql
 have pass:(∀f,f=gf e r p∨f=gN r p∨f=mg r p→f x=false)→Z ((q.filter (gf e r p)).map (λa=>aW.mk a (iw e r p a)),(q.filter (gN r p)).foldl orA 0,(q.filter (mg r p)).foldl orA 0,(q.filter (gf e r p)).map (iw e r p))=some (jk.mk ((e.List.filter (gN r p)).foldl orA 0) ((e.List.filter (mg r p)).foldl orA 0) ((e.List.filter (gf e r p)).map (iw e r p)),(e.List.filter (gf e r p)).map λa=>aW.mk a (iw e r p a)):=λhf=>hZ _ (by
  simp only[List.filter_append,List.filter_cons,List.filter_nil,hf _ (.inl rfl),hf _ (.inr (.inl rfl)),hf _ (.inr (.inr rfl)),Bool.false_eq_true,if_false,List.append_nil])
 simp only[jn]
 rw[decide_eq_true b0,abT b0 b1,alf b0 b1]
 simp only[chk,cond_true]
 have eh:(!decide (x.aR=r)||!tbi p.Bits x.Bit.toNat)=!sF r p x:=by unfold sF;cases decide (x.aR=r)<;>rfl
 rw[eh]
 cases hh:sF r p x
 ·exact pass λf hf=>by rcases hf with rfl|rfl|rfl<;>simp[gf,gN,mg,hh]
 simp only[Bool.not_true,cond_false]
 by_cases h3:x.Kind=3
 ·rw[decide_eq_true h3,cond_true]
  refine hZ _ ?_
  have e1:gf e r p x=false:=by simp[gf,h3]
  have e2:gN r p x=true:=by simp[gN,hh,h3]
  have e3:mg r p x=false:=by simp[mg,h3]
  simp only[List.filter_append,List.filter_cons,List.filter_nil,e1,e2,e3,Bool.false_eq_true,if_false,if_true,List.append_nil,List.foldl_append,List.foldl_cons,List.foldl_nil]
  rfl
 rw[decide_eq_false h3,cond_false]
 by_cases h4:p.TTL=0
 ·rw[decide_eq_true h4,cond_true]
  refine hZ _ ?_
  have e1:gf e r p x=false:=by simp[gf,h4]
  have e2:gN r p x=false:=by simp[gN,h3]
  have e3:mg r p x=true:=by simp[mg,hh,h3,h4]
  simp only[List.filter_append,List.filter_cons,List.filter_nil,e1,e2,e3,Bool.false_eq_true,if_false,if_true,List.append_nil,List.foldl_append,List.foldl_cons,List.foldl_nil]
  rfl
 rw[decide_eq_false h4,cond_false]
 by_cases h5:eY e r p=0
 ·have h5':bX .andNot .u64 p.Bits (sB e r)=0:=h5
  rw[decide_eq_true h5']
  exact pass λf hf=>by rcases hf with rfl|rfl|rfl<;>simp[gf,gN,mg,h3,h4,h5]
 ·have h5':¬bX .andNot .u64 p.Bits (sB e r)=0:=h5
  rw[decide_eq_false h5']
  simp only[Bool.not_false,cond_true]
  have e1:gf e r p x=true:=by simp[gf,hh,h3,h4,h5]
  have e2:gN r p x=false:=by simp[gN,h3]
  have e3:mg r p x=false:=by simp[mg,h4]
  have fin:∀rt:List Int,rt=(if x.Kind=2 then[x.To]else[])→(bnd (dX ((q.filter (gf e r p)).map (iw e r p)) ([(iM.mk x.To (kK.mk rt (aK.mk p.Mode p.cL p.Set p.Length (w64 (p.TTL-(1:Int))) p.dG p.dH p.fk (bX .andNot .u64 p.Bits (sB e r)) p.cv)))]:List iM)) λ(l_1:List iM)=>bnd (dX ((q.filter (gf e r p)).map (λa=>aW.mk a (iw e r p a))) ([(aW.mk x (iM.mk x.To (kK.mk rt (aK.mk p.Mode p.cL p.Set p.Length (w64 (p.TTL-(1:Int))) p.dG p.dH p.fk (bX .andNot .u64 p.Bits (sB e r)) p.cv))))]:List aW)) λ(l_2:List aW)=>Z (l_2,(q.filter (gN r p)).foldl orA 0,(q.filter (mg r p)).foldl orA 0,l_1))=some (jk.mk ((e.List.filter (gN r p)).foldl orA 0) ((e.List.filter (mg r p)).foldl orA 0) ((e.List.filter (gf e r p)).map (iw e r p)),(e.List.filter (gf e r p)).map λa=>aW.mk a (iw e r p a)):=λrt hrt=>by
   have:=hfl (gf e r p)
   rw[nK (by simp;omega),bn,nK (by simp;omega),bn]
   refine hZ _ ?_
   simp only[List.filter_append,List.filter_cons,List.filter_nil,e1,e2,e3,Bool.false_eq_true,if_false,if_true,List.append_nil,List.map_append,List.map_cons,List.map_nil,hrt]
   rfl
  by_cases h2:x.Kind=2
  ·rw[decide_eq_true h2,cond_true];exact fin _ (by rw[if_pos h2])
  ·rw[decide_eq_false h2,cond_false];exact fin _ (by rw[if_neg h2])
end Go.Proofs.YtdjeacigeegklaaGreat
namespace Go.Proofs.YtdjeacigeegklaaGreat
set_option linter.all false
open Go
theorem ac1:mw=some true:=by kernel_rfl
structure Pk(e:aI)(p:aK):Prop where
 v:yp p=true
 m:p.Mode=2
 l:p.Length=e.Length
variable {p:aK}
theorem nu:yp p=true↔(1≤p.Mode∧p.Mode≤3)∧(0≤p.cL∧p.cL≤7)∧(0≤p.Set∧p.Set≤31)∧w8 p.Bits p.Length=true∧(0≤p.TTL∧p.TTL≤63)∧(0≤p.dG∧p.dG≤1023)∧(0≤p.dH∧p.dH≤256)∧(0≤p.fk∧p.fk≤7)∧(p.cv.size:Int)≤64:=by
 unfold yp inN
 simp only[Bool.and_eq_true,decide_eq_true_eq,and_assoc]
theorem Pk.ttl{e:aI}(h:Pk e p)(n:Int)(hn:0≤n∧n≤63):Pk e (aK.mk p.Mode p.cL p.Set p.Length n p.dG p.dH p.fk p.Bits p.cv):=by
 obtain⟨h1,h2,h3⟩:=h
 rw[nu]at h1
 refine⟨nu.2 ?_,h2,h3⟩
 obtain⟨a1,a2,a3,a4,a5,a6⟩:=h1
 exact⟨a1,a2,a3,a4,hn,a6⟩
theorem Pk.bits{e:aI}(h:Pk e p)(b:Int)(hb:∀i,tbi b i=true→tbi p.Bits i=true):Pk e (aK.mk p.Mode p.cL p.Set p.Length p.TTL p.dG p.dH p.fk b p.cv):=by
 obtain⟨h1,h2,h3⟩:=h
 rw[nu]at h1
 refine⟨nu.2 ?_,h2,h3⟩
 obtain⟨a1,a2,a3,a4,a5⟩:=h1
 rw[wB]at a4
 exact⟨a1,a2,a3,wB.2 ⟨a4.1,λi hi=>a4.2 i (hb i hi)⟩,a5⟩
theorem agZ{e:aI}{r:Int}{i:Nat}(h:tbi (eY e r p) i=true):tbi p.Bits i=true:=by
 rw[eY,tbn,Bool.and_eq_true]at h;exact h.1
theorem Pk.go{e:aI}(hE:Ve e)(h:Pk e p)(r:Int)(hr:eY e r p≠0)(ht:0<p.TTL):Pk e (goP e r p):=by
 have h2:=(h.bits (eY e r p) λi hi=>agZ hi)
 have h3:=nu.1 h.v
 have:=h2.ttl (w64 (p.TTL-1)) (by rw[gh (by omega) (by omega)];omega)
 exact this
def aa4(e:aI)(p:aK):Int:=if p.Mode=2 then if p.Length=e.Length then 0 else 8 else 7
theorem afb(e:aI)(p:aK):jd e p=some (aa4 e p):=by
 unfold jd aa4
 by_cases h1:p.Mode=2<;>by_cases h2:p.Length=e.Length<;>simp[h1,h2]
theorem Pk.arV{e:aI}(h:Pk e p):aa4 e p=0:=by unfold aa4;rw[if_pos h.m,if_pos h.l]
end Go.Proofs.YtdjeacigeegklaaGreat
namespace Go.Proofs.YtdjeacigeegklaaGreat
set_option linter.all false
open Go
noncomputable def mK(t:af)(r:Int)(a:az):List Int×Bool:=if a.Kind=2 then(qv t r a.To,decide ((0:Int)<((qv t r a.To).length:Int)))else([a.To],jl t r a.To)
variable {t:af}
theorem alg(hv:Vt t)(r:Int)(a:az):gG t r a=some (mK t r a):=by
 unfold gG mK
 have:=hv.nl
 by_cases h:a.Kind=2
 ·simp only[h,decide_true,cond_true,adT,bn,if_true]
 ·rw[decide_eq_false h,cond_false,agB t r a.To (by omega),bn,if_pos (nj.2 hv),if_neg h,aaJ]
def mB(b:Int):Int→List Int→List aV
 |_,[]=>[]
 |r,x::l=>aV.mk r x b::mB b x l
theorem uT(b:Int):∀(r:Int) (l:List Int),(mB b r l).length=l.length
 |_,[]=>rfl
 |r,x::l=>by simp[mB,uT b x l]
def acd:Int→List Int→Int
 |r,[]=>r
 |_,x::l=>acd x l
noncomputable def okA(t:af)(r:Int)(a:az):Bool:=(mK t r a).2
noncomputable def jX(t:af)(r b:Int)(l:List az):List aV:=(l.filter (okA t r)).flatMap λa=>mB b r (mK t r a).1
noncomputable def nL(t:af)(r:Int)(p:aK)(l:List az):List aC:=(l.filter (okA t r)).map λa=>aC.mk (acd r (mK t r a).1) p
noncomputable def newL(t:af)(r:Int)(l:List az):List dz:=(l.filter λa=>!okA t r a).map λa=>dz.mk r (aac a)
def ag0(r:Int)(p:aK)(a:az):cu:=cu.mk r (aK.mk p.Mode p.cL p.Set p.Length p.TTL p.dG p.dH p.fk (aac a) p.cv)
def qJ(e:aI)(r:Int)(p:aK):List cu:=(e.List.filter (gN r p)).map (ag0 r p)
def rj(e:aI)(r:Int)(p:aK):List dz:=if(sG e r p).tj=0 then[]else[dz.mk r (sG e r p).tj]
noncomputable def mh(e:aI)(t:af)(v:aC):List aV:=jX t v.aT (eY e v.aT v.bI) (cD e v.aT v.bI)
noncomputable def ow(e:aI)(t:af)(v:aC):List aC:=nL t v.aT (goP e v.aT v.bI) (cD e v.aT v.bI)
noncomputable def yq(e:aI)(t:af)(v:aC):List dz:=rj e v.aT v.bI++newL t v.aT (cD e v.aT v.bI)
noncomputable def oy(e:aI)(t:af):Nat→List aC→List cu→List aV→List dz→fe×Int
 |0,_,_,_,_=>(fe.mk [] [] [],11)
 |_+1,[],D,C,L=>(fe.mk D C L,0)
 |n+1,v::q,D,C,L=>if 2000<(C++mh e t v).length then(fe.mk [] [] [],11)else oy e t n (q++ow e t v) (D++qJ e v.aT v.bI) (C++mh e t v) (L++yq e t v)
variable {a:az}{r:Int}
theorem ag1(h:okA t r a=true):1≤(mK t r a).1.length:=by
 unfold okA at h
 unfold mK at *
 by_cases h2:a.Kind=2
 ·rw[if_pos h2]at *;simp only[decide_eq_true_eq]at h;simp only;omega
 ·rw[if_neg h2];simp
variable {b:Int}{p:aK}
theorem ac2(l:List az):(nL t r p l).length≤(jX t r b l).length:=by
 unfold nL jX
 rw[List.length_map,List.length_flatMap]
 have:∀m:List az,(∀a∈m,okA t r a=true)→m.length≤(m.map λa=>(mB b r (mK t r a).1).length).sum:=by
  intro m
  induction m with
  |nil=>intro _;simp
  |cons a m ih=>
   intro h
   have h1:=ih λx hx=>h x (by simp[hx])
   have h2:=ag1 (h a (by simp))
   simp only[List.length_cons,List.map_cons,List.sum_cons,uT]
   simp only[uT]at h1
   omega
 exact this _ λa ha=>(List.mem_filter.1 ha).2
def runM(q:List aC)(C:List aV):Nat:=q.length+(2000-C.length)
variable {q:List aC}
theorem yt{e:aI}{v:aC}{C:List aV}(h:¬2000<(C++mh e t v).length):runM (q++ow e t v) (C++mh e t v)<runM (v::q) C:=by
 have:=ac2 (t:=t) (r:=v.aT) (b:=eY e v.aT v.bI) (p:=goP e v.aT v.bI) (cD e v.aT v.bI)
 unfold runM ow
 unfold mh at h ⊢
 rw[List.length_append]at h ⊢
 rw[List.length_append,List.length_cons]
 omega
theorem xF{e:aI}{t:af}:∀(n m:Nat) (q:List aC) (D:List cu) (C:List aV) (L:List dz),runM q C<n→runM q C<m→oy e t n q D C L=oy e t m q D C L
 |0,_,_,_,_,_,h,_=>by omega
 |_,0,_,_,_,_,_,h=>by omega
 |n+1,m+1,[],D,C,L,_,_=>rfl
 |n+1,m+1,v::q,D,C,L,h1,h2=>by
  rw[oy,oy]
  split
  ·rfl
  ·rename_i hc
   have:=yt (e:=e) (t:=t) (q:=q) hc
   exact xF n m _ _ _ _ (by omega) (by omega)
theorem aoO{e:aI}(hE:Ve e)(i:Nat):tbi (sG e r p).Local i=true↔∃a∈e.List,gN r p a=true∧a.Bit=i:=by
 have key:∀(l:List az) (acc:Int),(∀a∈l,0≤a.Bit∧a.Bit<64)→(tbi (l.foldl orA acc) i=true↔tbi acc i=true∨∃a∈l,a.Bit=i):=by
  intro l
  induction l with
  |nil=>intro acc _;simp
  |cons a l ih=>
   intro acc h
   have hb:=h a (by simp)
   rw[List.foldl_cons,ih _ λx hx=>h x (by simp[hx])]
   unfold orA aac
   rw[tbo,qd a.Bit.toNat i (by omega),Bool.or_eq_true,decide_eq_true_eq]
   constructor
   ·rintro((h|h)|⟨x,hx,h⟩)
    ·exact .inl h
    ·exact .inr ⟨a,by simp,by omega⟩
    ·exact .inr ⟨x,by simp[hx],h⟩
   ·rintro(h|⟨x,hx,h⟩)
    ·exact .inl (.inl h)
    ·rcases List.mem_cons.1 hx with rfl|hx
     ·exact .inl (.inr (by omega))
     ·exact .inr ⟨x,hx,h⟩
 show tbi ((e.List.filter (gN r p)).foldl orA 0) i=true↔_
 rw[key _ 0 λa ha=>hE.bit (List.mem_filter.1 ha).1,mE]
 simp only[Bool.false_eq_true,false_or,List.mem_filter,and_assoc]
theorem aoP{e:aI}(hE:Ve e)(ha:a∈e.List):tbi (sG e r p).Local a.Bit.toNat=gN r p a:=by
 have hb:=hE.bit ha
 rw[Bool.eq_iff_iff,aoO hE]
 constructor
 ·rintro⟨b,hb2,h1,h2⟩
  have:=hE.aaa hb2 ha (by omega)
  subst this;exact h1
 ·intro h;exact⟨a,ha,h,by omega⟩
theorem acA(hp:yp p=true)(h0:0≤b)(h1:b<64)(hb:tbi p.Bits b.toNat=true):kg p b=some (aK.mk p.Mode p.cL p.Set p.Length p.TTL p.dG p.dH p.fk (qI b.toNat) p.cv):=by
 unfold kg
 have e1:¬b<0:=by omega
 have e2:¬63<b:=by omega
 simp only[jn,sE,hp,bn,Bool.not_true,cond_false,decide_eq_false e1,decide_eq_false e2,decide_eq_true h0,chk,cond_true,ah2 p.Bits h0 h1,hb,if_true,abT h0 h1]
 rfl
theorem aad{e:aI}(h:gN r p a=true):a.aR=r∧tbi p.Bits a.Bit.toNat=true∧a.Kind=3:=by
 simp only[gN,sF,Bool.and_eq_true,decide_eq_true_eq]at h
 exact⟨h.1.1,h.1.2,h.2⟩
theorem ag3{β:Type}{e:aI}(hE:Ve e)(hp:yp p=true){D:List cu}(hD:D.length≤900000){K:List cu→Option β}:
  bH e.List 0 (λ(j2:Int) (e2:az) (Z2:(List cu)→Option β) (m_4:(List cu))=>jn (λ(m_5:(List cu))=>Z2 m_5) λJ2=>chk (decide (0≤e2.Bit))<|bif decide (bX .and .u64 (Int.fdiv (sG e r p).Local (2 ^ min e2.Bit.toNat 64)) (1:Int)=(1:Int))then bnd (kg p e2.Bit) λ(dA:aK)=>bnd (dX m_4 ([(cu.mk r dA)]:List cu)) λ(l_1:List cu)=>J2 l_1 else J2 m_4) K D=K (D++qJ e r p):=by
 have hl:=hE.small
 refine jW (L:=e.List) (λq m=>m=D++(q.filter (gN r p)).map (ag0 r p)) (λq l=>K (D++qJ e r p)) (λs hs=>by rw[hs];rfl) (λq x rest s Z h hi hZ=>?_) e.List [] D rfl (by simp)
 subst hi
 have hx:x∈e.List:=by rw[←h];simp
 obtain⟨b0,b1⟩:=hE.bit hx
 have hql:q.length≤64:=by
  have:e.List.length=q.length+(rest.length+1):=by rw[←h];simp
  omega
 have hfl:(q.filter (gN r p)).length≤64:=Nat.le_trans (List.length_filter_le _ _) hql
 simp only[jn]
 rw[decide_eq_true b0,ah2 _ b0 b1,aoP hE hx]
 simp only[chk,cond_true]
 cases hc:gN r p x
 ·simp only[Bool.false_eq_true,if_false]
  refine hZ _ ?_
  simp[List.filter_append,List.filter_cons,hc]
 ·obtain⟨_,h2,_⟩:=aad (e:=e) hc
  simp only[if_true,decide_true,cond_true]
  rw[acA hp b0 b1 h2,bn,nK (by simp;omega),bn]
  refine hZ _ ?_
  simp[List.filter_append,List.filter_cons,hc,ag0,aac]
theorem ace{β:Type}{b:Int}{K:Int×List aV→Option β}:∀(l:List Int) (j:Nat) (r:Int) (C:List aV),C.length+l.length≤900000→bH l j (λ(j4:Int) (e4:Int) (Z4:(Int×(List aV))→Option β) (sg:Int×(List aV))=>match sg with|(gw,gE)=>bnd (dX gE ([(aV.mk gw e4 b)]:List aV)) λ(l_4:List aV)=>Z4 (e4,l_4)) K (r,C)=K (acd r l,C++mB b r l)
 |[],_,r,C,_=>by simp[bH,acd,mB]
 |x::l,j,r,C,h=>by
  simp only[List.length_cons]at h
  simp only[bH]
  rw[nK (by omega),bn,ace l (j+1) x _ (by simp;omega)]
  simp[acd,mB]
theorem acf(l:List az)(x:az):jX t r b (l++[x])=jX t r b l++if okA t r x then mB b r (mK t r x).1 else[]:=by
 unfold jX
 rw[List.filter_append,List.flatMap_append]
 cases h:okA t r x<;>simp[List.filter_cons,h]
theorem ag4(p q:List az):(jX t r b p).length≤(jX t r b (p++q)).length:=by
 unfold jX
 rw[List.filter_append,List.flatMap_append,List.length_append];omega
theorem ac3(f:Int→List Int)(b:Int):∀(n:Nat) (x:Int) (out:List Int),(rtF f b n x out).length≤out.length+n
 |0,_,_=>by simp[rtF]
 |n+1,x,out=>by
  rw[rtF]
  split
  ·omega
  ·split
   ·simp
   ·rename_i y _ _
    have:=ac3 f b n y (out++[y])
    simp at this;omega
theorem alh:(mK t r a).1.length≤30:=by
 unfold mK
 by_cases h:a.Kind=2
 ·rw[if_pos h]
  have:=ac3 (mO t a.To) a.To 30 r []
  simpa [qv]using this
 ·rw[if_neg h];simp
theorem afc{e:aI}(hE:Ve e)(hv:Vt t){C:List aV}{L:List dz}(hq:q.length≤800000)(hC:C.length≤2000)(hL:L.length≤800000)
  {K:List aC×List aV×List dz→Option (fe×Int)} :
  bH ((cD e r p).map λa=>aW.mk a (iw e r p a)) 0 (λ(j3:Int) (e3:aW) (Z3:((List aC)×(List aV)×(List dz))→Option _) (sg:(List aC)×(List aV)×(List dz))=>match sg with|(gv,m_7,m_8)=>jn (λ(sg:(List aC)×(List aV)×(List dz))=>match sg with|(mD,m_9,mY)=>Z3 (mD,m_9,mY)) λJ4=>bnd (gG t r e3.eF) λ(eS:(List Int)×Bool)=>bif !eS.2 then chk (decide (0≤e3.eF.Bit))<|bnd (dX m_8 ([(dz.mk r (IntKind.wrap .u64 ((1:Int)*2 ^ min e3.eF.Bit.toNat 64)))]:List dz)) λ(l_3:List dz)=>J4 (gv,m_7,l_3)else bH eS.1 0 (λ(j4:Int) (e4:Int) (Z4:(Int×(List aV))→Option _) (sg:Int×(List aV))=>match sg with|(gw,gE)=>bnd (dX gE ([(aV.mk gw e4 e3.copy_.Frame.bU.Bits)]:List aV)) λ(l_4:List aV)=>Z4 (e4,l_4)) (λ(sg:Int×(List aV))=>match sg with|(gw,gE)=>bif decide ((2000:Int)<(gE.length:Int))then some ((fe.mk [] [] []),(11:Int))else bnd (dX gv ([(aC.mk gw e3.copy_.Frame.bU)]:List aC)) λ(l_5:List aC)=>J4 (l_5,gE,m_8)) (r,m_7)) K (q,C,L)
  = if 2000<(C++jX t r (eY e r p) (cD e r p)).length then some (fe.mk [] [] [],11)else K (q++nL t r (goP e r p) (cD e r p),C++jX t r (eY e r p) (cD e r p),L++newL t r (cD e r p)):=by
 have hsl:(cD e r p).length≤64:=Nat.le_trans (List.length_filter_le _ _) hE.small
 have key:=jW (L:=(cD e r p).map λa=>aW.mk a (iw e r p a)) (K:=K)
  (B:=(λ(j3:Int) (e3:aW) (Z3:((List aC)×(List aV)×(List dz))→Option _) (sg:(List aC)×(List aV)×(List dz))=>match sg with|(gv,m_7,m_8)=>jn (λ(sg:(List aC)×(List aV)×(List dz))=>match sg with|(mD,m_9,mY)=>Z3 (mD,m_9,mY)) λJ4=>bnd (gG t r e3.eF) λ(eS:(List Int)×Bool)=>bif !eS.2 then chk (decide (0≤e3.eF.Bit))<|bnd (dX m_8 ([(dz.mk r (IntKind.wrap .u64 ((1:Int)*2 ^ min e3.eF.Bit.toNat 64)))]:List dz)) λ(l_3:List dz)=>J4 (gv,m_7,l_3)else bH eS.1 0 (λ(j4:Int) (e4:Int) (Z4:(Int×(List aV))→Option _) (sg:Int×(List aV))=>match sg with|(gw,gE)=>bnd (dX gE ([(aV.mk gw e4 e3.copy_.Frame.bU.Bits)]:List aV)) λ(l_4:List aV)=>Z4 (e4,l_4)) (λ(sg:Int×(List aV))=>match sg with|(gw,gE)=>bif decide ((2000:Int)<(gE.length:Int))then some ((fe.mk [] [] []),(11:Int))else bnd (dX gv ([(aC.mk gw e3.copy_.Frame.bU)]:List aC)) λ(l_5:List aC)=>J4 (l_5,gE,m_8)) (r,m_7)))
  (λpr (sg:List aC×List aV×List dz)=>sg=(q++nL t r (goP e r p) (pr.map (·.eF)),C++jX t r (eY e r p) (pr.map (·.eF)),L++newL t r (pr.map (·.eF)))∧(C++jX t r (eY e r p) (pr.map (·.eF))).length≤2000)
  (λpr l=>if 2000<(C++jX t r (eY e r p) (cD e r p)).length then some (fe.mk [] [] [],11)else K (q++nL t r (goP e r p) (cD e r p),C++jX t r (eY e r p) (cD e r p),L++newL t r (cD e r p))) ?_ ?_ _ [] (q,C,L) rfl ?_
 ·exact key
 ·rintro s ⟨hs,hl⟩
  have em:((cD e r p).map λa=>aW.mk a (iw e r p a)).map (·.eF)=cD e r p:=by rw[List.map_map];exact List.map_id' _
  rw[em]at hs hl
  rw[if_neg (by omega),hs]
 ·rintro pr x rest s Z h ⟨hi,hl⟩ hZ
  subst hi
  have em:(pr++x::rest).map (·.eF)=cD e r p:=by
   rw[h,List.map_map];exact List.map_id' _
  have hxm:x∈(cD e r p).map λa=>aW.mk a (iw e r p a):=by rw[←h];simp
  obtain⟨a,ha,rfl⟩:=List.mem_map.1 hxm
  have hae:a∈e.List:=(List.mem_filter.1 ha).1
  obtain⟨b0,b1⟩:=hE.bit hae
  have aoR:(pr.map (·.eF)).length≤64:=by
   have:=congrArg List.length em
   rw[List.map_append,List.length_append]at this
   omega
  have hQl:(nL t r (goP e r p) (pr.map (·.eF))).length≤64:=by
   unfold nL;rw[List.length_map];exact Nat.le_trans (List.length_filter_le _ _) aoR
  have hLl:(newL t r (pr.map (·.eF))).length≤64:=by
   unfold newL;rw[List.length_map];exact Nat.le_trans (List.length_filter_le _ _) aoR
  have hwl:=alh (t:=t) (r:=r) (a:=a)
  have esn:((pr++[aW.mk a (iw e r p a)]).map (·.eF))=pr.map (·.eF)++[a]:=by simp
  simp only[jn,alg hv,bn]
  show(bif !okA t r a then _ else _)=_
  cases hok:okA t r a
  ·simp only[Bool.not_false,cond_true]
   rw[decide_eq_true b0,abT b0 b1,nK (by simp;omega)]
   simp only[chk,cond_true,bn]
   refine hZ _ ?_
   rw[esn,acf,hok]
   refine⟨?_,by simpa using hl⟩
   simp[nL,newL,List.filter_append,List.filter_cons,hok,aac]
  ·simp only[Bool.not_true,cond_false]
   rw[ace _ _ _ _ (by simp at hl ⊢;omega)]
   have e1:C++jX t r (eY e r p) (pr.map (·.eF))++mB (eY e r p) r (mK t r a).1=C++jX t r (eY e r p) ((pr++[aW.mk a (iw e r p a)]).map (·.eF)):=by
    rw[esn,acf,hok];simp
   show(bif decide ((2000:Int)<((C++jX t r (eY e r p) (pr.map (·.eF))++mB (eY e r p) r (mK t r a).1).length:Int))then _ else _)=_
   rw[e1]
   by_cases hb:2000<(C++jX t r (eY e r p) ((pr++[aW.mk a (iw e r p a)]).map (·.eF))).length
   ·rw[decide_eq_true (by omega),cond_true,if_pos]
    have:=ag4 (t:=t) (r:=r) (b:=eY e r p) ((pr++[aW.mk a (iw e r p a)]).map (·.eF)) (rest.map (·.eF))
    rw[←List.map_append,List.append_assoc,List.singleton_append,em]at this
    rw[List.length_append]at hb ⊢
    omega
   ·rw[decide_eq_false (by omega),cond_false,nK (by simp;omega),bn]
    refine hZ _ ⟨?_,by omega⟩
    refine Prod.ext ?_ (Prod.ext e1 ?_)
    ·rw[esn];simp[nL,List.filter_append,List.filter_cons,hok];rfl
    ·rw[esn];simp[newL,List.filter_append,List.filter_cons,hok]
 ·exact⟨by simp[nL,jX,newL],by simpa [jX]using hC⟩
theorem ali{e:aI}(hE:Ve e)(hv:Vt t)(hp:Pk e p)(hr:r∈ids t):iI e t p r=some (oy e t 5000 [aC.mk r p] [] [] []):=by
 have hl:=hE.small
 have hnr:=hv.nr
 unfold iI
 simp only[jn,sA e (by omega),pK.2 hE,bn,wq,nj.2 hv,sE,hp.v,akW t r (by omega),rC.1 hr,afb,hp.arV,decide_true,Bool.and_true,Bool.not_true,cond_false]
 refine Ok.eq (Ok.whl (λsg:List aC×List cu×List aV×List dz=>match sg with|(q,D,C,L)=>oy e t 5000 q D C L=oy e t 5000 [aC.mk r p] [] [] []∧(∀v∈q,Pk e v.bI)∧C.length≤2000∧q.length≤C.length+1∧∃k:Nat,k+runM q C≤2001∧D.length≤64*k∧L.length≤65*k) (λsg=>runM sg.1 sg.2.2.1) ⟨rfl,by simpa using hp,by simp,by simp,0,by simp[runM],by simp,by simp⟩ (by show runM [aC.mk r p] []<_;simp[runM]) ?_)
 rintro⟨q,D,C,L⟩ Z ⟨h1,h2,h3,h4,k,h5,h6,h7⟩ hZ
 cases q with
 |nil=>
  simp only[List.length_nil,Int.natCast_zero,decide_false,Int.lt_irrefl,cond_false]
  exact⟨_,rfl,h1⟩
 |cons v q=>
  have hpv:=h2 v (by simp)
  rw[decide_eq_true (by simp only[List.length_cons];omega),cond_true]
  have e0:elO (v::q) (0:Int)=some v:=rfl
  rw[e0,bn,ad2 hE,bn]
  have hk:k≤2001:=by omega
  refine Eq.subst (motive:=λz=>Ok z _) (ag3 (e:=e) (r:=v.aT) (p:=v.bI) hE hpv.v (D:=D) (by omega)).symm ?_
  have arW:∀(J:List dz→Option (fe×Int)),(bif !decide ((sG e v.aT v.bI).tj=(0:Int))then bnd (dX L ([(dz.mk v.aT (sG e v.aT v.bI).tj)]:List dz)) λ(l_2:List dz)=>J l_2 else J L)=J (L++rj e v.aT v.bI):=λJ=>by
   unfold rj
   by_cases hz:(sG e v.aT v.bI).tj=0
   ·rw[decide_eq_true hz,if_pos hz];simp
   ·rw[decide_eq_false hz,if_neg hz]
    simp only[Bool.not_false,cond_true]
    rw[nK (by omega),bn]
  have hlo:(rj e v.aT v.bI).length≤1:=by unfold rj;split<;>simp
  simp only[jn]
  refine Eq.subst (motive:=λz=>Ok z _) (arW _).symm ?_
  refine Eq.subst (motive:=λz=>Ok z _) (afc (e:=e) (t:=t) hE hv (r:=v.aT) (p:=v.bI) (q:=v::q) (C:=C) (L:=L++rj e v.aT v.bI) (by omega) h3 (by rw[List.length_append];omega)).symm ?_
  have aoS:oy e t 5000 (v::q) D C L=if 2000<(C++mh e t v).length then(fe.mk [] [] [],11)else oy e t 4999 (q++ow e t v) (D++qJ e v.aT v.bI) (C++mh e t v) (L++yq e t v):=rfl
  show Ok (if 2000<(C++mh e t v).length then _ else _) _
  by_cases hb:2000<(C++mh e t v).length
  ·rw[if_pos hb]
   refine⟨_,rfl,?_⟩
   rw[←h1,aoS,if_pos hb]
  ·rw[if_neg hb]
   have hless:=yt (e:=e) (t:=t) (q:=q) hb
   have hq2:=ac2 (t:=t) (r:=v.aT) (b:=eY e v.aT v.bI) (p:=goP e v.aT v.bI) (cD e v.aT v.bI)
   have arX:oy e t 4999 (q++ow e t v) (D++qJ e v.aT v.bI) (C++mh e t v) (L++yq e t v)=oy e t 5000 (q++ow e t v) (D++qJ e v.aT v.bI) (C++mh e t v) (L++yq e t v):=
    xF _ _ _ _ _ _ (by omega) (by omega)
   have arY:((v::q)++nL t v.aT (goP e v.aT v.bI) (cD e v.aT v.bI)).length=1+(q++ow e t v).length:=by
    simp[ow];omega
   refine Ok.bnd (uc ⟨by omega,by rw[arY];omega,by omega⟩) λm hm=>?_
   have em:m=q++ow e t v:=by
    rw[hm.1]
    show List.drop 1 (List.take (((v::q++nL t v.aT (goP e v.aT v.bI) (cD e v.aT v.bI)).length:Int)).toNat (v::q++nL t v.aT (goP e v.aT v.bI) (cD e v.aT v.bI)))=_
    rw[Int.toNat_natCast,List.take_length];rfl
   subst em
   have hD:(qJ e v.aT v.bI).length≤64:=by unfold qJ;rw[List.length_map];exact Nat.le_trans (List.length_filter_le _ _) hl
   have hS:(cD e v.aT v.bI).length≤64:=Nat.le_trans (List.length_filter_le _ _) hl
   have hLn:(newL t v.aT (cD e v.aT v.bI)).length≤64:=by unfold newL;rw[List.length_map];exact Nat.le_trans (List.length_filter_le _ _) hS
   refine hZ _ ⟨?_,λu hu=>?_,(show(C++mh e t v).length≤2000 by omega),?_,k+1,?_,?_,?_⟩ hless
   ·rw[←h1,aoS,if_neg hb,arX,List.append_assoc];rfl
   ·rcases List.mem_append.1 hu with hu|hu
    ·exact h2 u (by simp[hu])
    ·obtain⟨a,ha,rfl⟩:=List.mem_map.1 hu
     have hs:=(List.mem_filter.1 (List.mem_filter.1 ha).1).2
     simp only[gf,Bool.and_eq_true,Bool.not_eq_true',decide_eq_false_iff_not]at hs
     have ht:=(nu.1 hpv.v).2.2.2.2.1
     exact hpv.go hE v.aT hs.2 (by have:=hs.1.2;omega)
   ·simp only[List.length_append,List.length_cons]at h4 ⊢
    unfold ow
    omega
   ·show k+1+runM (q++ow e t v) (C++mh e t v)≤2001
    omega
   ·rw[List.length_append];omega
   ·show(L++rj e v.aT v.bI++newL t v.aT (cD e v.aT v.bI)).length≤65*(k+1)
    rw[List.length_append,List.length_append];omega
end Go.Proofs.YtdjeacigeegklaaGreat
namespace Go.Proofs.YtdjeacigeegklaaGreat
set_option linter.all false
open Go
theorem wC{e:aI}{r:Int}{p:aK}{a:az}(h:a∈cD e r p):a∈e.List∧a.aR=r∧tbi p.Bits a.Bit.toNat=true∧a.Kind≠3∧p.TTL≠0∧eY e r p≠0:=by
 obtain⟨h1,h2⟩:=List.mem_filter.1 h
 simp only[gf,sF,Bool.and_eq_true,Bool.not_eq_true',decide_eq_false_iff_not,decide_eq_true_eq]at h2
 exact⟨h1,h2.1.1.1.1,h2.1.1.1.2,h2.1.1.2,h2.1.2,h2.2⟩
theorem afd{α β:Type}{a:List α}{q:α→α→Bool}(hq:∀x,q x x=true)(n:Option β){B:Int→α→(Unit→Option β)→Unit→Option β}{K:Unit→Option β}
  (hB:∀j x Z,B j x Z ()=bnd (elO a j) λe=>bif !q x e then n else Z ()):bH a 0 B K ()=K ():=
 jW (L:=a) (λ_ _=>True) (λ_ _=>K ()) (λs _=>rfl) (λp x r s Z h _ hZ=>by
  rw[hB,←h,abG,bn,hq];exact hZ () trivial) a [] () rfl trivial
end Go.Proofs.YtdjeacigeegklaaGreat
namespace Go.Proofs.YtdjeacigeegklaaGreat
set_option linter.all false
open Go
theorem afe{a b:aX}(h:ltH a b=true):ltH b a=false:=by
 cases hb:ltH b a
 ·rfl
 ·simp[ltH]at h hb;omega
theorem ad3{l m:List aX}(hl:l.Pairwise λa b=>ltH a b=true)(hm:m.Pairwise λa b=>ltH a b=true)(h:∀x,x∈l↔x∈m):l=m:=by
 have irr:∀a:aX,ltH a a=false:=λa=>by simp[ltH]
 have nd:∀{l:List aX},(l.Pairwise λa b=>ltH a b=true)→l.Nodup:=λh=>h.imp λ{a b} hab e=>by subst e;rw[irr]at hab;cases hab
 refine tc (cf:=λa b=>if ltH a b then -1 else 0) ((List.perm_ext_iff_of_nodup (nd hl) (nd hm)).2 h) (hm.imp λ{a b} h=>by rw[if_pos h];decide) (hl.imp λ{a b} h=>?_)
 rw[if_neg (by rw[afe h];decide)];decide
structure acg(e:aI)(x:cE)(u:List Int):Prop where
 v:Vr x
 asc:u.Pairwise (·<·)
 sub:∀r∈u,r∈lW x
 fnd:∀k∈nB x u,(jf e k).2=true
theorem ach{g:af}(hv:Vt g){e:aI}(he:me g 64=(e,0)){r k q:Int}(hk:(r,k,q)∈fW g):Ve e∧(jf e (aD.mk r k q)).2=true:=by
 obtain⟨h1,h2,_⟩:=z8 (n:=64) hv (by rw[he])
 rw[he]at h1 h2
 have h1:Ef g e:=h1
 refine⟨h1.v,?_⟩
 obtain⟨i,hi⟩:=List.getElem?_of_mem hk
 have hm:=List.mem_of_getElem? (acX 0 _ i r k q hi)
 have he2:e=aI.mk 64 (gM 0 (fW g)):=(Prod.mk.inj h2).1
 have:=ae9 h1.v (a:=az.mk ((0+i:Nat):Int) r k q) (by rw[he2];exact hm)
 unfold oL at this
 rw[if_pos (pK.2 h1.v)]at this
 show(sX e r k q).2=true
 rw[this]
theorem alj{g:af}(hv:Vt g){e:aI}(he:me g 64=(e,0)){root:Int}(hr:root∈ids g){x:cE}(hx:Tn g root x){u:List Int}(hu:u.Sublist (lW x)):acg e x u:=by
 have hV:=hx.v hr
 refine⟨hV,(ae2 x).sublist hu,λr h=>hu.subset h,λk hk=>?_⟩
 rcases List.mem_append.1 hk with hk|hk
 ·obtain⟨r,hr2,rfl⟩:=List.mem_map.1 hk
  have hid:r∈ids g:=by
   rcases(z6 hV).1 (hu.subset hr2)with h|⟨h,hh,h2⟩
   ·rw[h,hx.rt];exact hr
   ·rw[←h2];exact lV hv (hx.adj h hh)
  exact(ach hv he ((uR hv).2 ⟨hid,.inl ⟨rfl,rfl⟩⟩)).2
 ·obtain⟨h,hh,rfl⟩:=List.mem_map.1 hk
  exact(ach hv he ((uR hv).2 ⟨lV hv (qc (hx.adj h hh)),.inr ⟨rfl,hx.adj h hh⟩⟩)).2
theorem acg.bits{e:aI}(hE:Ve e){x:cE}{u:List Int}(h:acg e x u):qZ e x u=((nB x u).foldl (orK e) 0,0):=by
 unfold qZ
 rw[if_pos (pK.2 hE),if_pos (y9.2 h.v)]
 have h1:iK (λa b:Int=>decide (a<b)) u=true:=jT (h.asc.imp λh=>by simpa using h)
 have h2:u.any (λr=>!decide (r∈lW x))=false:=any_false.2 λr hr=>by simpa using h.sub r hr
 have h3:(nB x u).any (λk=>!(jf e k).2)=false:=any_false.2 λk hk=>by simpa using h.fnd k hk
 rw[h1,h2,h3];rfl
theorem acg.val{e:aI}(hE:Ve e){x:cE}{u:List Int}(h:acg e x u):B64 ((nB x u).foldl (orK e) 0)∧∀i,tbi ((nB x u).foldl (orK e) 0) i=true↔∃k∈nB x u,(jf e k).1=(i:Int):=by
 obtain⟨h1,h2⟩:=ac0 (e:=e) (nB x u) 0 y7 λk hk=>acZ hE (h.fnd k hk)
 refine⟨h1,λi=>?_⟩
 rw[h2,mE];simp
def trT(x:cE)(y:Int):Prop:=y=x.b9∨∃h∈x.Links,h.To=y
structure Td(g:af)(e:aI)(x:cE)(rs:List Int)(B:Int):Prop where
 hv:Vt g
 ef:Ef g e
 kd:∀a∈e.List,a.Kind≠2
 vr:Vr x
 rt:x.b9∈ids g
 adj:∀h∈x.Links,jl g h.bh h.To=true
 ends:∀y,trT x y→y∈rs∨∃h∈x.Links,h.bh=y
 sub:∀r∈rs,trT x r
 asc:rs.Pairwise (·<·)
 h3:∀r∈rs,∃a∈e.List,a.aR=r∧a.Kind=3
 h1:∀h∈x.Links,∃a∈e.List,a.aR=h.bh∧a.Kind=1∧a.To=h.To
 bits:∀a∈e.List,tbi B a.Bit.toNat=true↔(a.Kind=3∧a.aR∈rs)∨(a.Kind=1∧aX.mk a.aR a.To∈x.Links)
theorem w9{e:aI}(hv:Ve e){k:aD}(h:(jf e k).2=true):∃a∈e.List,a.aR=k.aT∧a.Kind=k.l8∧a.To=k.to_∧a.Bit=(jf e k).1:=by
 have hT:jf e k=oL e k.aT k.l8 k.to_:=by unfold oL jf;rw[if_pos (pK.2 hv)]
 have e1:oL e k.aT k.l8 k.to_=((jf e k).1,true):=by rw[←hT,←h]
 exact(acz e1).2
theorem arZ{g:af}(hv:Vt g){e:aI}(he:me g 64=(e,0)){root:Int}(hr:root∈ids g){x:cE}(hx:Tn g root x){u:List Int}(hu:u.Sublist (lW x))(hen:∀y∈lW x,(∀h∈x.Links,h.bh≠y)→y∈u):Td g e x u (qZ e x u).1∧(qZ e x u).2=0:=by
 have hn:=alj hv he hr hx hu
 obtain⟨q1,q2,_⟩:=z8 (n:=64) hv (by rw[he])
 rw[he]at q1 q2
 have q1:Ef g e:=q1
 have he2:e=aI.mk 64 (gM 0 (fW g)):=(Prod.mk.inj q2).1
 have hE:=q1.v
 have hV:=hx.v hr
 have kd:∀a∈e.List,a.Kind=3∨a.Kind=1:=λa ha=>by
  rw[he2]at ha
  rcases((uR hv).1 (ab3 ha).1).2 with h|h
  ·exact .inl h.1
  ·exact .inr h.1
 rw[hn.bits hE]
 refine⟨⟨hv,q1,λa ha=>by have:=kd a ha;omega,hV,by rw[hx.rt];exact hr,hx.adj,λy hy=>?_,λr h=>(z6 hV).1 (hu.subset h),hn.asc,λr h=>?_,λh hh=>?_,λa ha=>?_⟩,rfl⟩
 ·by_cases h:∃h∈x.Links,h.bh=y
  ·exact .inr h
  ·exact .inl (hen y ((z6 hV).2 hy) λh' hh he=>h ⟨h',hh,he⟩)
 ·obtain⟨a,ha,a1,a2,_⟩:=w9 hE (hn.fnd (ab6 r) (List.mem_append_left _ (List.mem_map.2 ⟨r,h,rfl⟩)))
  exact⟨a,ha,a1,a2⟩
 ·obtain⟨a,ha,a1,a2,a3,_⟩:=w9 hE (hn.fnd (ab7 h) (List.mem_append_right _ (List.mem_map.2 ⟨h,hh,rfl⟩)))
  exact⟨a,ha,a1,a2,a3⟩
 ·rw[(hn.val hE).2]
  have hb:=hE.bit ha
  constructor
  ·rintro⟨k,hk,hkb⟩
   obtain⟨b,hb1,b1,b2,b3,b4⟩:=w9 hE (hn.fnd k hk)
   have:b=a:=hE.aaa hb1 ha (by omega)
   subst this
   rcases List.mem_append.1 hk with hk|hk
   ·obtain⟨r,hr2,rfl⟩:=List.mem_map.1 hk
    exact .inl ⟨b2,by rw[b1];exact hr2⟩
   ·obtain⟨h,hh,rfl⟩:=List.mem_map.1 hk
    refine .inr ⟨b2,?_⟩
    rw[b1,b3];exact hh
  ·intro h
   have key:∀k∈nB x u,k=tgA a→∃k∈nB x u,(jf e k).1=(a.Bit.toNat:Int):=λk hk hka=>by
    obtain⟨b,hb1,b1,b2,b3,b4⟩:=w9 hE (hn.fnd k hk)
    have:b=a:=hE.key_inj hb1 ha (by rw[←hka];simp[tgA,b1,b2,b3])
    subst this
    exact⟨k,hk,by omega⟩
   rcases h with⟨h1,h2⟩|⟨h1,h2⟩
   ·have ht:a.To=a.aR:=(hE.adV a ha).2 h1
    exact key (ab6 a.aR) (List.mem_append_left _ (List.mem_map.2 ⟨_,h2,rfl⟩)) (by simp[ab6,tgA,h1,ht])
   ·exact key (ab7 (aX.mk a.aR a.To)) (List.mem_append_right _ (List.mem_map.2 ⟨_,h2,rfl⟩)) (by simp[ab7,tgA,h1])
theorem ad4(t:af)(n:Int):(me t n).1.List.length≤1000:=by
 unfold me
 by_cases h:jC t=0
 ·have:=zb (nj.1 h)
  rw[if_pos h]
  cases !j9 n
  ·by_cases h2:n<((fW t).length:Int)
   ·simp[h2]
   ·simp only[h2,if_false,cond_false,qf];omega
  ·simp
 ·simp[h]
section
variable {g:af}{e:aI}{x:cE}{rs:List Int}{B:Int}
theorem zd{l:List aX}(h:l.Pairwise λa b=>ltH a b=true):l.Nodup:=h.imp λ{a b} hab e=>by subst e;simp[ltH]at hab
theorem Td.inG(h:Td g e x rs B){y:Int}(hy:trT x y):y∈ids g:=by
 rcases hy with rfl|⟨k,hk,rfl⟩
 ·exact h.rt
 ·exact lV h.hv (h.adj k hk)
theorem Td.one(h:Td g e x rs B){a b:aX}(ha:a∈x.Links)(hb:b∈x.Links)(he:a.To=b.To):a=b:=by
 have hd:=h.vr.dup
 have:∀(l:List aX),(l.Pairwise λa b=>a.To≠b.To)→a∈l→b∈l→a=b:=λl=>by
  induction l with
  |nil=>intro _ h;cases h
  |cons c l ih=>
   intro hp h1 h2
   rw[List.pairwise_cons]at hp
   rcases List.mem_cons.1 h1 with e1|h3
   ·rcases List.mem_cons.1 h2 with e2|h4
    ·rw[e1,e2]
    ·rw[e1]at he;exact absurd he (hp.1 b h4)
   ·rcases List.mem_cons.1 h2 with e2|h4
    ·rw[e2]at he;exact absurd he.symm (hp.1 a h3)
    ·exact ih hp.2 h3 h4
 exact this _ hd ha hb
theorem Td.from(h:Td g e x rs B){k:aX}(hk:k∈x.Links):trT x k.bh:=by
 have key:∀y,Rch x.b9 x.Links y→trT x y:=λy hy=>by
  cases hy with
  |root=>exact .inl rfl
  |step k' h1 _=>exact .inr ⟨k',h1,rfl⟩
 exact key _ (h.vr.rch k hk)
theorem Td.has(h:Td g e x rs B){y:Int}(hy:trT x y):∃a∈e.List,a.aR=y∧tbi B a.Bit.toNat=true:=by
 rcases h.ends y hy with hr|⟨k,hk,rfl⟩
 ·obtain⟨a,ha,a1,a2⟩:=h.h3 y hr
  exact⟨a,ha,a1,(h.bits a ha).2 (.inl ⟨a2,by rw[a1];exact hr⟩)⟩
 ·obtain⟨a,ha,a1,a2,a3⟩:=h.h1 k hk
  exact⟨a,ha,a1,(h.bits a ha).2 (.inr ⟨a2,by rw[a1,a3];exact hk⟩)⟩
def tH(a:az):aX:=aX.mk a.aR a.To
theorem ac4(hE:Ve e):e.List.Nodup:=hE.asc.imp λ{a b} hab he=>by subst he;omega
theorem aci(hE:Ve e){y:Int}{p:aK}{b:az}(hb:b∈e.List)(hby:b.aR≠y):tbi (eY e y p) b.Bit.toNat=tbi p.Bits b.Bit.toNat:=by
 unfold eY
 rw[tbn]
 have:tbi (sB e y) b.Bit.toNat=false:=by
  cases hq:tbi (sB e y) b.Bit.toNat
  ·rfl
  ·obtain⟨c,hc,c1,c2⟩:=(aoL hE y _).1 hq
   have hbb:=hE.bit hb
   have:=hE.aaa hc hb (by omega)
   subst this
   exact absurd c1 hby
 rw[this];simp
theorem ad5{v:Int}{i:Nat}(h:tbi v i=true):v≠0:=λh0=>by rw[h0,mE]at h;cases h
theorem Td.rest(h:Td g e x rs B){y:Int}{p:aK}{z:Int}(hz:trT x z)(hzy:z≠y)(hp:∀a∈e.List,a.aR=z→tbi p.Bits a.Bit.toNat=tbi B a.Bit.toNat):eY e y p≠0:=by
 obtain⟨a,ha,a1,a2⟩:=h.has hz
 refine ad5 (i:=a.Bit.toNat) ?_
 rw[aci h.ef.v ha (by rw[a1];exact hzy),hp a ha a1,a2]
theorem wD{α β:Type}{l:List α}{f:α→β}{m:List β}(hl:l.Nodup)(hf:∀a∈l,∀b∈l,f a=f b→a=b)(hm:m.Nodup)(h:∀y,(∃a∈l,f a=y)↔y∈m):(l.map f).Perm m:=by
 have hn:(l.map f).Nodup:=by
  induction l with
  |nil=>simp
  |cons a l ih=>
   rw[List.nodup_cons]at hl
   rw[List.map_cons,List.nodup_cons]
   refine⟨λhx=>?_,?_⟩
   ·obtain⟨b,hb,hbe⟩:=List.mem_map.1 hx
    have:=hf b (by simp[hb]) a (by simp) hbe
    subst this;exact hl.1 hb
   ·clear h hm
    have ih2:∀(l:List α),l.Nodup→(∀a∈l,∀b∈l,f a=f b→a=b)→(l.map f).Nodup:=λl=>by
     induction l with
     |nil=>intros;simp
     |cons c l ih=>
      intro h1 h2
      rw[List.nodup_cons]at h1
      rw[List.map_cons,List.nodup_cons]
      refine⟨λhx=>?_,ih h1.2 λa ha b hb=>h2 a (by simp[ha]) b (by simp[hb])⟩
      obtain⟨b,hb,hbe⟩:=List.mem_map.1 hx
      have:=h2 b (by simp[hb]) c (by simp) hbe
      subst this;exact h1.1 hb
    exact ih2 l hl.2 λa ha b hb=>hf a (by simp[ha]) b (by simp[hb])
 refine(List.perm_ext_iff_of_nodup hn hm).2 λy=>?_
 rw[←h y,List.mem_map]
theorem Td.aoT(h:Td g e x rs B){y:Int}{p:aK}(S:aX→Bool)(hp:∀a∈e.List,a.aR=y→a.Kind=1→(tbi p.Bits a.Bit.toNat=true↔aX.mk y a.To∈x.Links∧S (aX.mk y a.To)=true))(ht:p.TTL≠0)(hr:∀k∈x.Links,k.bh=y→S k=true→eY e y p≠0):((cD e y p).map tH).Perm (x.Links.filter λk=>decide (k.bh=y)&&S k):=by
 have hE:=h.ef.v
 have hs:∀a,a∈cD e y p↔a∈e.List∧a.aR=y∧a.Kind=1∧aX.mk y a.To∈x.Links∧S (aX.mk y a.To)=true:=λa=>by
  unfold cD
  rw[List.mem_filter]
  constructor
  ·rintro⟨h1,h2⟩
   simp only[gf,sF,Bool.and_eq_true,Bool.not_eq_true',decide_eq_true_eq,decide_eq_false_iff_not]at h2
   obtain⟨⟨⟨⟨q1,q2⟩,q3⟩,_⟩,_⟩:=h2
   have hk:a.Kind=1:=by have:=hE.kind a h1;have:=h.kd a h1;omega
   obtain⟨q4,q5⟩:=(hp a h1 q1 hk).1 q2
   exact⟨h1,q1,hk,q4,q5⟩
  ·rintro⟨h1,h2,h3,h4,h5⟩
   refine⟨h1,?_⟩
   have hb:tbi p.Bits a.Bit.toNat=true:=(hp a h1 h2 h3).2 ⟨h4,h5⟩
   have:=hr _ h4 rfl h5
   simp[gf,sF,h2,hb,h3,ht,this]
 refine wD ((ac4 hE).sublist List.filter_sublist) (λa ha b hb hab=>?_) ((zd h.vr.asc).sublist List.filter_sublist) λk=>?_
 ·obtain⟨a1,a2,a3,_⟩:=(hs a).1 ha
  obtain⟨b1,b2,b3,_⟩:=(hs b).1 hb
  refine hE.key_inj a1 b1 ?_
  simp only[tH,aX.mk.injEq]at hab
  simp[tgA,hab.1,hab.2,a3,b3]
 ·rw[List.mem_filter,Bool.and_eq_true,decide_eq_true_eq]
  constructor
  ·rintro⟨a,ha,rfl⟩
   obtain⟨_,a2,_,a4,a5⟩:=(hs a).1 ha
   rw[←a2]at a4 a5
   exact⟨a4,a2,a5⟩
  ·rintro⟨h1,h2,h3⟩
   obtain⟨a,ha,a1,a2,a3⟩:=h.h1 k h1
   have e1:tH a=k:=by unfold tH;rw[a1,a3]
   have e2:aX.mk y a.To=k:=by rw[←h2,a3]
   exact⟨a,(hs a).2 ⟨ha,by rw[a1,h2],a2,by rw[e2];exact h1,by rw[e2];exact h3⟩,e1⟩
theorem Td.hit1(h:Td g e x rs B){a:az}(ha:a∈e.List)(hk:a.Kind=1):tbi B a.Bit.toNat=true↔aX.mk a.aR a.To∈x.Links:=by
 rw[h.bits a ha]
 constructor
 ·rintro(⟨q,_⟩|⟨_,q⟩)
  ·omega
  ·exact q
 ·intro q;exact .inr ⟨hk,q⟩
theorem Td.ar0(h:Td g e x rs B){y:Int}{p:aK}(hp:∀a∈e.List,a.aR=y→tbi p.Bits a.Bit.toNat=tbi B a.Bit.toNat)(ht:p.TTL≠0)(hr:∀k∈x.Links,k.bh=y→eY e y p≠0):((cD e y p).map tH).Perm (x.Links.filter λk=>decide (k.bh=y)):=by
 have:=h.aoT (y:=y) (p:=p) (λ_=>true) (λa ha h1 h2=>by rw[hp a ha h1,h.hit1 ha h2,h1];simp) ht λk hk h1 _=>hr k hk h1
 simpa using this
theorem Td.locs(h:Td g e x rs B){y:Int}{p:aK}(hp:∀a∈e.List,a.aR=y→a.Kind=3→tbi p.Bits a.Bit.toNat=tbi B a.Bit.toNat):(e.List.filter (gN y p)).map (·.aR)=if y∈rs then[y]else[]:=by
 have hE:=h.ef.v
 have hs:∀a,a∈e.List.filter (gN y p)↔a∈e.List∧a.aR=y∧a.Kind=3∧y∈rs:=λa=>by
  rw[List.mem_filter]
  constructor
  ·rintro⟨h1,h2⟩
   obtain⟨q1,q2,q3⟩:=aad (e:=e) h2
   rw[hp a h1 q1 q3,h.bits a h1]at q2
   rcases q2 with q2|q2
   ·exact⟨h1,q1,q3,by rw[←q1];exact q2.2⟩
   ·omega
  ·rintro⟨h1,h2,h3,h4⟩
   refine⟨h1,?_⟩
   have hb:tbi p.Bits a.Bit.toNat=true:=by rw[hp a h1 h2 h3,h.bits a h1];exact .inl ⟨h3,by rw[h2];exact h4⟩
   simp[gN,sF,h2,hb,h3]
 have hp:((e.List.filter (gN y p)).map (·.aR)).Perm (if y∈rs then[y]else[]):=by
  refine wD ((ac4 hE).sublist List.filter_sublist) (λa ha b hb hab=>?_) (by split<;>simp) λk=>?_
  ·obtain⟨a1,a2,a3,_⟩:=(hs a).1 ha
   obtain⟨b1,b2,b3,_⟩:=(hs b).1 hb
   refine hE.key_inj a1 b1 ?_
   simp[tgA,a2,b2,a3,b3,(hE.adV a a1).2 a3,(hE.adV b b1).2 b3]
  ·constructor
   ·rintro⟨a,ha,rfl⟩
    obtain⟨_,a2,_,a4⟩:=(hs a).1 ha
    rw[if_pos a4,a2];simp
   ·intro hk
    split at hk
    ·rename_i hy
     rw[List.mem_singleton]at hk
     subst hk
     obtain⟨a,ha,a1,a2⟩:=h.h3 k hy
     exact⟨a,(hs a).2 ⟨ha,a1,a2,hy⟩,a1⟩
    ·cases hk
 split
 ·rename_i hy
  rw[if_pos hy]at hp
  exact List.perm_singleton.1 hp
 ·rename_i hy
  rw[if_neg hy]at hp
  exact List.perm_nil.1 hp
end
end Go.Proofs.YtdjeacigeegklaaGreat
namespace Go.Proofs.YtdjeacigeegklaaGreat
set_option linter.all false
open Go
theorem aaR{e:aI}{t:af}(I:List aC→List cu→List aV→List dz→Prop)
  (hs:∀v q D C L,I (v::q) D C L→(C++mh e t v).length≤2000∧I (q++ow e t v) (D++qJ e v.aT v.bI) (C++mh e t v) (L++yq e t v)):∀(n:Nat) (q:List aC) (D:List cu) (C:List aV) (L:List dz),runM q C<n→I q D C L→
  ∃D' C' L',oy e t n q D C L=(fe.mk D' C' L',0)∧I [] D' C' L'
 |0,_,_,_,_,h,_=>by omega
 |n+1,[],D,C,L,_,h=>⟨D,C,L,rfl,h⟩
 |n+1,v::q,D,C,L,hn,h=>by
  obtain⟨h1,h2⟩:=hs v q D C L h
  have hc:¬2000<(C++mh e t v).length:=by omega
  have:=yt (e:=e) (t:=t) (q:=q) hc
  rw[oy,if_neg hc]
  exact aaR I hs n _ _ _ _ (by omega) h2
theorem filter_or{α:Type}(p q:α→Bool):∀(l:List α),(∀a∈l,p a=true→q a=false)→(l.filter λa=>p a||q a).Perm (l.filter p++l.filter q)
 |[],_=>by simp
 |a::l,h=>by
  have ih:=filter_or p q l λx hx=>h x (by simp[hx])
  cases hp:p a
  ·cases hq:q a
   ·simpa [List.filter_cons,hp,hq]using ih
   ·simp only[List.filter_cons,hp,hq,Bool.false_or,if_true,Bool.false_eq_true,if_false]
    exact(ih.cons a).trans List.perm_middle.symm
  ·have hq:=h a (by simp) hp
   simp only[List.filter_cons,hp,hq,Bool.or_false,if_true,Bool.false_eq_true,if_false,List.cons_append]
   exact ih.cons a
def tI(c:aV):aX:=aX.mk c.bh c.To
structure ad6(e:aI)(x:cE)(rs:List Int)(Q:aK)(q:List aC)(D:List cu)(C:List aV)(L:List dz)(done:List Int):Prop where
 nd:(q.map (·.aT)++done).Nodup
 tr:∀y∈q.map (·.aT)++done,trT x y
 rt:x.b9∈q.map (·.aT)++done
 par:∀y∈q.map (·.aT)++done,y≠x.b9→∃h∈x.Links,h.To=y∧h.bh∈done
 kid:∀h∈x.Links,h.bh∈done→h.To∈q.map (·.aT)++done
 cr:(C.map tI).Perm (x.Links.filter λh=>decide (h.bh∈done))
 de:(D.map (·.aR)).Perm (done.filter λy=>decide (y∈rs))
 pl:∀d∈D,d.bU.cv=Q.cv
 lo:L=[]
 pk:∀v∈q,Pk e v.bI∧63-(done.length:Int)≤v.bI.TTL∧v.bI.cv=Q.cv∧∀a∈e.List,a.aR∉done→tbi v.bI.Bits a.Bit.toNat=tbi Q.Bits a.Bit.toNat
section
variable {g:af}{e:aI}{x:cE}{rs:List Int}{Q:aK}
theorem Td.aaS{B:Int}(h:Td g e x rs B):x.Links.length≤24:=by
 have h1:(x.Links.map (·.To)).Nodup:=List.pairwise_map.2 h.vr.dup
 have:=qu h1 (b:=ids g) λy hy=>by
  obtain⟨k,hk,rfl⟩:=List.mem_map.1 hy
  exact h.inG (.inr ⟨k,hk,rfl⟩)
 rw[List.length_map]at this
 have:=ud h.hv
 omega
theorem ag5{r:Int}{p:aK}(h:p.TTL≠0):(sG e r p).tj=0:=by
 show((e.List.filter (mg r p)).foldl orA 0)=0
 rw[show e.List.filter (mg r p)=[]from List.filter_eq_nil_iff.2 λa _=>by simp[mg,h]];rfl
theorem acj{y:Int}{p:aK}:(qJ e y p).map (·.aR)=(e.List.filter (gN y p)).map (·.aR):=by
 unfold qJ
 rw[List.map_map]
 refine List.map_congr_left λa ha=>?_
 have:=(aad (e:=e) (List.mem_filter.1 ha).2).1
 show y=a.aR
 exact this.symm
theorem Td.xb{B:Int}(h:Td g e x rs B){y:Int}{p:aK}{a:az}(ha:a∈cD e y p):okA g y a=true∧mK g y a=([a.To],true):=by
 obtain⟨h1,h2,_,h4,_⟩:=wC ha
 have hk:=h.kd a h1
 have adX:jl g y a.To=true:=by
  rcases(h.ef.ok a h1).k with⟨h3,_⟩|⟨_,h3⟩|⟨h3,_⟩
  ·exact absurd h3 h4
  ·rw[←h2];exact h3
  ·exact absurd h3 hk
 have:mK g y a=([a.To],true):=by unfold mK;rw[if_neg hk,adX]
 exact⟨by unfold okA;rw[this],this⟩
theorem Td.new{B:Int}(h:Td g e x rs B)(y b:Int)(p p':aK):jX g y b (cD e y p)=(cD e y p).map (λa=>aV.mk y a.To b)∧nL g y p' (cD e y p)=(cD e y p).map (λa=>aC.mk a.To p')∧newL g y (cD e y p)=[]:=by
 have hf:(cD e y p).filter (okA g y)=cD e y p:=List.filter_eq_self.2 λa ha=>(h.xb ha).1
 refine⟨?_,?_,?_⟩
 ·unfold jX
  rw[hf]
  have:∀l:List az,(∀a∈l,mK g y a=([a.To],true))→(l.flatMap λa=>mB b y (mK g y a).1)=l.map (λa=>aV.mk y a.To b):=λl=>by
   induction l with
   |nil=>intro _;rfl
   |cons a l ih=>
    intro hl
    rw[List.flatMap_cons,List.map_cons,ih λz hz=>hl z (by simp[hz]),hl a (by simp)]
    rfl
  exact this _ λa ha=>(h.xb ha).2
 ·unfold nL
  rw[hf]
  refine List.map_congr_left λa ha=>?_
  rw[(h.xb ha).2];rfl
 ·unfold newL
  rw[show((cD e y p).filter λa=>!okA g y a)=[]from List.filter_eq_nil_iff.2 λa ha=>by simp[(h.xb ha).1]]
  rfl
theorem ad6.step(hT:Td g e x rs Q.Bits){v:aC}{q:List aC}{D:List cu}{C:List aV}{L:List dz}{done:List Int}(h:ad6 e x rs Q (v::q) D C L done):
  ad6 e x rs Q (q++ow e g v) (D++qJ e v.aT v.bI) (C++mh e g v) (L++yq e g v) (v.aT::done):=by
 obtain⟨y,p⟩:=v
 obtain⟨nd,tr,rt,par,kid,cr,de,pl,lo,pk⟩:=h
 obtain⟨hpk,aoU,ad7,zf⟩:=pk _ (List.mem_cons_self ..)
 have hpk:Pk e p:=hpk
 have aoU:63-(done.length:Int)≤p.TTL:=aoU
 have ad7:p.cv=Q.cv:=ad7
 have zf:∀a∈e.List,a.aR∉done→tbi p.Bits a.Bit.toNat=tbi Q.Bits a.Bit.toNat:=zf
 simp only[List.map_cons,List.cons_append]at nd tr rt par kid
 obtain⟨hy,ndq⟩:=List.nodup_cons.1 nd
 obtain⟨nq,ah3,hdis⟩:=List.nodup_append.1 ndq
 have hyq:y∉q.map (·.aT):=λhm=>hy (List.mem_append_left _ hm)
 have hyd:y∉done:=λhm=>hy (List.mem_append_right _ hm)
 have hlen:done.length≤24:=Nat.le_trans (qu ah3 λz hz=>hT.inG (tr z (List.mem_cons_of_mem _ (List.mem_append_right _ hz)))) (ud hT.hv)
 have ht:p.TTL≠0:=by omega
 have hp:∀a∈e.List,a.aR=y→tbi p.Bits a.Bit.toNat=tbi Q.Bits a.Bit.toNat:=λa ha hr=>zf a ha (by rw[hr];exact hyd)
 have kids:∀k∈x.Links,k.bh=y→k.To∉y::(q.map (·.aT)++done):=λk hk hkf hm=>by
  obtain⟨k',hk',h1,h2⟩:=par k.To hm (hT.vr.nrt k hk)
  have:=hT.one hk' hk h1
  subst this
  rw[hkf]at h2;exact hyd h2
 have ar1:∀k∈x.Links,k.bh=y→eY e y p≠0:=λk hk hkf=>by
  have hk2:=kids k hk hkf
  refine hT.rest (z:=k.To) (.inr ⟨k,hk,rfl⟩) (λh=>hk2 (by rw[h];simp)) λa ha har=>zf a ha λhm=>hk2 ?_
  rw[←har];simp[hm]
 have hs:=hT.ar0 hp ht ar1
 have hl:=hT.locs (p:=p) λa ha hr _=>hp a ha hr
 obtain⟨n1,n2,n3⟩:=hT.new y (eY e y p) p (goP e y p)
 have eQ:ow e g (aC.mk y p)=(cD e y p).map (λa=>aC.mk a.To (goP e y p)):=n2
 have eC:mh e g (aC.mk y p)=(cD e y p).map (λa=>aV.mk y a.To (eY e y p)):=n1
 have eL:yq e g (aC.mk y p)=[]:=by
  show rj e y p++newL g y (cD e y p)=[]
  unfold rj
  rw[ag5 ht,if_pos rfl,n3];rfl
 have eQr:(ow e g (aC.mk y p)).map (·.aT)=((cD e y p).map tH).map (·.To):=by
  rw[eQ,List.map_map,List.map_map];rfl
 have hrp:(((cD e y p).map tH).map (·.To)).Perm ((x.Links.filter λk=>decide (k.bh=y)).map (·.To)):=hs.map _
 have hmem:∀z,z∈((cD e y p).map tH).map (·.To)↔∃k∈x.Links,k.bh=y∧k.To=z:=λz=>by
  rw[hrp.mem_iff,List.mem_map]
  constructor
  ·rintro⟨k,hk,rfl⟩
   have:=List.mem_filter.1 hk
   exact⟨k,this.1,by simpa using this.2,rfl⟩
  ·rintro⟨k,hk,h1,rfl⟩
   exact⟨k,List.mem_filter.2 ⟨hk,by simpa using h1⟩,rfl⟩
 have hnd2:(((cD e y p).map tH).map (·.To)).Nodup:=hrp.nodup_iff.2 ((List.pairwise_map.2 hT.vr.dup:(x.Links.map (·.To)).Nodup).sublist (List.filter_sublist.map _))
 have eCh:(mh e g (aC.mk y p)).map tI=(cD e y p).map tH:=by
  rw[eC,List.map_map]
  refine List.map_congr_left λa ha=>?_
  have:=(wC ha).2.1
  show aX.mk y a.To=aX.mk a.aR a.To
  rw[this]
 refine⟨?_,?_,?_,?_,?_,?_,?_,?_,?_,?_⟩
 ·rw[List.map_append,eQr,List.append_assoc,List.nodup_append]
  refine⟨nq,?_,λa ha b hb hab=>?_⟩
  ·rw[List.nodup_append]
   refine⟨hnd2,List.nodup_cons.2 ⟨hyd,ah3⟩,λa ha b hb hab=>?_⟩
   subst hab
   obtain⟨k,hk,h1,rfl⟩:=(hmem a).1 ha
   refine kids k hk h1 ?_
   rcases List.mem_cons.1 hb with hb|hb
   ·rw[hb];simp
   ·simp[hb]
  ·subst hab
   rcases List.mem_append.1 hb with hb|hb
   ·obtain⟨k,hk,h1,rfl⟩:=(hmem a).1 hb
    exact kids k hk h1 (List.mem_cons_of_mem _ (List.mem_append_left _ ha))
   ·rcases List.mem_cons.1 hb with hb|hb
    ·subst hb;exact hyq ha
    ·exact hdis a ha a hb rfl
 ·intro z hz
  rw[List.map_append,eQr]at hz
  simp only[List.mem_append,List.mem_cons]at hz
  rcases hz with(hz|hz)|hz|hz
  ·exact tr z (List.mem_cons_of_mem _ (List.mem_append_left _ hz))
  ·obtain⟨k,hk,_,rfl⟩:=(hmem z).1 hz
   exact .inr ⟨k,hk,rfl⟩
  ·exact tr z (by rw[hz];simp)
  ·exact tr z (List.mem_cons_of_mem _ (List.mem_append_right _ hz))
 ·rw[List.map_append,eQr]
  simp only[List.mem_cons,List.mem_append]at rt ⊢
  rcases rt with h|h|h
  ·exact .inr (.inl h)
  ·exact .inl (.inl h)
  ·exact .inr (.inr h)
 ·intro z hz hzr
  rw[List.map_append,eQr]at hz
  simp only[List.mem_append,List.mem_cons]at hz
  have old:z∈y::(q.map (·.aT)++done)→∃h∈x.Links,h.To=z∧h.bh∈y::done:=λhm=>by
   obtain⟨k,hk,h1,h2⟩:=par z hm hzr
   exact⟨k,hk,h1,List.mem_cons_of_mem _ h2⟩
  rcases hz with(hz|hz)|hz|hz
  ·exact old (List.mem_cons_of_mem _ (List.mem_append_left _ hz))
  ·obtain⟨k,hk,h1,rfl⟩:=(hmem z).1 hz
   exact⟨k,hk,rfl,by rw[h1];simp⟩
  ·exact old (by rw[hz];simp)
  ·exact old (List.mem_cons_of_mem _ (List.mem_append_right _ hz))
 ·intro k hk hkf
  rw[List.map_append,eQr]
  simp only[List.mem_append,List.mem_cons]
  rcases List.mem_cons.1 hkf with hkf|hkf
  ·exact .inl (.inr ((hmem _).2 ⟨k,hk,hkf,rfl⟩))
  ·have:=kid k hk hkf
   simp only[List.mem_cons,List.mem_append]at this
   rcases this with h|h|h
   ·exact .inr (.inl h)
   ·exact .inl (.inl h)
   ·exact .inr (.inr h)
 ·rw[List.map_append,eCh]
  refine(cr.append hs).trans ?_
  refine(filter_or (λh:aX=>decide (h.bh∈done)) (λh:aX=>decide (h.bh=y)) x.Links λa _ ha=>?_).symm.trans ?_
  ·have ha:a.bh∈done:=by simpa using ha
   simp only[decide_eq_false_iff_not]
   intro hay;rw[hay]at ha;exact hyd ha
  ·refine List.Perm.of_eq (List.filter_congr λa _=>?_)
   rw[Bool.eq_iff_iff]
   simp only[Bool.or_eq_true,decide_eq_true_eq,List.mem_cons]
   exact or_comm
 ·rw[List.map_append,acj,hl]
  by_cases hr:y∈rs
  ·rw[if_pos hr,List.filter_cons_of_pos (by simpa using hr)]
   exact(de.append_right _).trans List.perm_append_comm
  ·rw[if_neg hr,List.append_nil,List.filter_cons_of_neg (by simpa using hr)]
   exact de
 ·intro d hd
  rcases List.mem_append.1 hd with hd|hd
  ·exact pl d hd
  ·obtain⟨a,_,rfl⟩:=List.mem_map.1 hd
   exact ad7
 ·rw[lo,eL];rfl
 ·intro u hu
  rcases List.mem_append.1 hu with hu|hu
  ·obtain⟨u1,u2,u3,u4⟩:=pk u (List.mem_cons_of_mem _ hu)
   refine⟨u1,?_,u3,λa ha har=>u4 a ha λhm=>har (List.mem_cons_of_mem _ hm)⟩
   simp only[List.length_cons];omega
  ·rw[eQ]at hu
   obtain⟨a,ha,rfl⟩:=List.mem_map.1 hu
   obtain⟨_,_,_,_,_,s6⟩:=wC ha
   have hv:=(nu.1 hpk.v).2.2.2.2.1
   refine⟨hpk.go hT.ef.v y s6 (by omega),?_,ad7,λb hb hbr=>?_⟩
   ·show 63-(((y::done).length:Nat):Int)≤w64 (p.TTL-1)
    rw[gh (by omega) (by omega)]
    simp only[List.length_cons];omega
   ·show tbi (eY e y p) b.Bit.toNat=_
    rw[aci hT.ef.v hb λh=>hbr (by rw[h];simp)]
    exact zf b hb λhm=>hbr (List.mem_cons_of_mem _ hm)
theorem ag6(hT:Td g e x rs Q.Bits)(hQ:Pk e Q)(ht:Q.TTL=63):∃D C,oy e g 5000 [aC.mk x.b9 Q] [] [] []=(fe.mk D C [],0)∧(C.map tI).Perm x.Links∧(D.map (·.aR)).Perm rs∧∀d∈D,d.bU.cv=Q.cv:=by
 obtain⟨D,C,L,h1,done,h2⟩:=aaR (e:=e) (t:=g) (λq D C L=>∃done,ad6 e x rs Q q D C L done) (λv q D C L ⟨done,h⟩=>by
  have hst:=h.step hT
  refine⟨?_,_,hst⟩
  have:=hst.cr.length_eq
  rw[List.length_map]at this
  have h3:=List.length_filter_le (λh:aX=>decide (h.bh∈v.aT::done)) x.Links
  have:=hT.aaS
  omega) 5000 [aC.mk x.b9 Q] [] [] [] (by simp[runM]) ⟨[],by simp,by simp[trT],by simp,by simp,by simp,by simp,by simp,by simp,rfl,by simp[hQ,ht]⟩
 obtain⟨nd,tr,rt,par,kid,cr,de,pl,lo,pk⟩:=h2
 simp only[List.map_nil,List.nil_append]at nd tr rt par kid
 have all:∀y,Rch x.b9 x.Links y→y∈done:=λy hy=>by
  induction hy with
  |root=>exact rt
  |step k hk _ ih=>exact kid k hk ih
 subst lo
 refine⟨D,C,h1,?_,?_,pl⟩
 ·rwa [List.filter_eq_self.2 λk hk=>by simpa using all _ (hT.vr.rch k hk)]at cr
 ·refine de.trans ((List.perm_ext_iff_of_nodup (nd.sublist List.filter_sublist) (hT.asc.imp λh e=>by omega)).2 λy=>?_)
  rw[List.mem_filter,decide_eq_true_eq]
  refine⟨λh=>h.2,λh=>⟨all y ?_,h⟩⟩
  rcases hT.sub y h with rfl|⟨k,hk,rfl⟩
  ·exact .root
  ·exact .step k hk (hT.vr.rch k hk)
end
end Go.Proofs.YtdjeacigeegklaaGreat
namespace Go.Proofs.YtdjeacigeegklaaGreat
set_option linter.all false
open Go
theorem aff{x:cE}{Lst:List Int}(hL:Lst.length≤1000){n:Int}(hn:n≤100){t:bJ}(h:fO t){γ:Type}{P:γ→Prop}{K:List Int×List Int×Int→Option γ}
  (hK:∀rs L A,rs.Sublist Lst→(∀y∈Lst,(∀k∈x.Links,k.bh≠y)→y∈rs)→fO (bJ.mk L A)→Ok (K (rs,L,A)) P) :
  Ok (bH Lst 0 (λ(j1:Int) (e1:Int) (Z1:((List Int)×(List Int)×Int)→Option γ) (sg:(List Int)×(List Int)×Int)=>match sg with|(bR,m_1,m_2)=>jn (λ(sg:(List Int)×(List Int)×Int)=>match sg with|(jF,m_3,m_4)=>Z1 (jF,m_3,m_4)) λJ1=>bH x.Links 0 (λ(j2:Int) (e2:aX) (Z2:Bool→Option γ) (mz:Bool)=>(bif mz then Z2 (!decide (e2.bh=e1))else Z2 false)) (λ(mz:Bool)=>jn (λ(sg:Bool×(List Int)×Int)=>match sg with|(v_1,m_5,m_6)=>bif v_1 then bnd (dX bR ([e1]:List Int)) λ(l_1:List Int)=>J1 (l_1,m_5,m_6)else J1 (bR,m_5,m_6)) λJ2=>(bif mz then J2 (true,m_1,m_2)else bnd (cc (bJ.mk m_1 m_2) n) λ(bD:Int×bJ)=>J2 (decide (bD.1=(0:Int)),bD.2.L,bD.2.At))) true) K ([],t.L,t.At)) P:=by
 refine Ok.zS (L:=Lst) (λp (sg:List Int×List Int×Int)=>sg.1.Sublist p∧(∀y∈p,(∀k∈x.Links,k.bh≠y)→y∈sg.1)∧fO (bJ.mk sg.2.1 sg.2.2)) (λp y rest s Z hl hI hZ=>?_) _ ⟨by simp,by simp,h⟩ (λs hs=>hK _ _ _ hs.1 hs.2.1 hs.2.2)
 obtain⟨rs,L,A⟩:=s
 obtain⟨i1,i2,i3⟩:=hI
 have i1:rs.Sublist p:=i1
 have hlen:rs.length≤1000:=by
  have h1:=i1.length_le
  have h2:Lst.length=p.length+(rest.length+1):=by rw[hl];simp
  omega
 simp only[jn]
 refine Eq.subst (motive:=λz=>Ok z _) (abU (λk:aX=>decide (k.bh=y)) (λj k Z s=>by cases s<;>rfl) x.Links 0 true).symm ?_
 have fin:∀(b:Bool) (L A),(b=false→∃k∈x.Links,k.bh=y)→fO (bJ.mk L A)→Ok (bif b then bnd (dX rs ([y]:List Int)) λ(l_1:List Int)=>Z (l_1,L,A)else Z (rs,L,A)) P:=λb L A hb hT=>by
  cases b
  ·refine hZ _ ⟨i1.trans (List.sublist_append_left _ _),λz hz hk=>?_,hT⟩
   rcases List.mem_append.1 hz with hz|hz
   ·exact i2 z hz hk
   ·rw[List.mem_singleton]at hz
    subst hz
    obtain⟨k,hk1,hk2⟩:=hb rfl
    exact absurd hk2 (hk k hk1)
  ·rw[cond_true,nK (by omega),bn]
   refine hZ _ ⟨i1.append (List.Sublist.refl _),λz hz hk=>?_,hT⟩
   rcases List.mem_append.1 hz with hz|hz
   ·exact List.mem_append_left _ (i2 z hz hk)
   ·exact List.mem_append_right _ hz
 rw[Bool.true_and]
 cases he:x.Links.any λk=>decide (k.bh=y)
 ·exact fin true L A (λh=>by cases h) i3
 ·refine Ok.bnd (f_n i3 (by omega)) λu hu=>fin _ _ _ (λ_=>?_) hu.2
  obtain⟨k,hk,h1⟩:=List.any_eq_true.1 he
  exact⟨k,hk,by simpa using h1⟩
theorem alk{e:aI}(hE:Ve e){B:Int}{n:Int}{pay:ByteArray}(hB:∀i:Nat,tbi B i=true→(i:Int)<e.Length)(hn:0≤n∧n≤63)(hp:(pay.size:Int)≤64):Pk e (aK.mk 2 0 0 e.Length n 0 0 0 B pay):=by
 refine⟨nu.2 ⟨by simp only;omega,by simp only;omega,by simp only;omega,wB.2 ⟨?_,hB⟩,hn,by simp only;omega,by simp only;omega,by simp only;omega,hp⟩,rfl,rfl⟩
 have:=hE.len;simpa [j9]using this
theorem ag7{g:af}(hv:Vt g){n:Int}{e:aI}(he:me g n=(e,0)):e.Length=n:=by
 obtain⟨_,q2,_⟩:=z8 (n:=n) hv (by rw[he])
 rw[he]at q2
 rw[(Prod.mk.inj q2).1]
theorem hi64(B:Int)(i:Nat)(h:tbi B i=true):(i:Int)<64:=by
 by_cases hi:i<64
 ·omega
 ·rw[aa3 B (by omega)]at h;cases h
theorem ack{α:Type}(f:α→Int):∀(l:List α) (s:List Int),(l.map f).Nodup→s.Pairwise (·<·)→(∀y∈l.map f,y∉s)→(l.foldl (λs x=>iq s (f x)) s).Pairwise (·<·)∧∀y,y∈l.foldl (λs x=>iq s (f x)) s↔y∈s∨y∈l.map f
 |[],s,_,h,_=>⟨h,by simp⟩
 |a::l,s,hn,h,hd=>by
  rw[List.map_cons,List.nodup_cons]at hn
  have hlt:=zW (x:=f a) h
  obtain⟨h1,h2⟩:=ack f l (iq s (f a)) hn.2 hlt λy hy hm=>by
   rcases sy.1 hm with rfl|hm
   ·exact hn.1 hy
   ·exact hd y (by simp[List.mem_map.1 hy]) hm
  refine⟨h1,λy=>?_⟩
  rw[List.foldl_cons,h2,sy,List.map_cons,List.mem_cons]
  constructor
  ·rintro((h|h)|h)
   ·exact .inr (.inl h)
   ·exact .inl h
   ·exact .inr (.inr h)
  ·rintro(h|h|h)
   ·exact .inl (.inr h)
   ·exact .inl (.inl h)
   ·exact .inr h
end Go.Proofs.YtdjeacigeegklaaGreat
