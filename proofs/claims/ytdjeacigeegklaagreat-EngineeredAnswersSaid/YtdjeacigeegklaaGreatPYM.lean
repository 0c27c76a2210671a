/- Plain: afx in agR mode: validity, what a aK makes of one. No condition but bU bx stand in each. -/
import Derived.Test.YtdjeacigeegklaaGreatPYI
import Derived.Test.YtdjeacigeegklaaGreatPN
import Derived.Test.YtdjeacigeegklaaGreatDA
namespace Go.Proofs.YtdjeacigeegklaaGreat
set_option linter.all false
open Go
def inN(n m:Int):Bool:=decide (0≤n)&&decide (n≤m)
def uk(n:Int):Int:=if n=8 then 255 else if n=16 then 65535 else if n=32 then 4294967295 else 18446744073709551615
def vR(b n:Int):Bool:=kX n&&decide (bB .andNot .u64 b (uk n)=0)
def ng(p:aD):Bool:=(decide (1≤p.Mode)&&decide (p.Mode≤3))&&inN p.bL 7&&inN p.Set 31&&vR p.Bits p.Length&&inN p.TTL 63&&inN p.cn 1023&&inN p.cq 256&&inN p.dg 7&&decide ((p.cm.size:Int)≤64)
theorem um{n:Int}(h:kX n=true):n=8∨n=16∨n=32∨n=64:=by simpa [kX]using h
theorem arY{n:Int}(h:kX n=true):qv n=some (uk n):=by
 rcases um h with rfl|rfl|rfl|rfl<;>kernel_rfl
theorem amh(b n:Int):nJ b n=some (vR b n):=by
 unfold nJ vR
 show(bnd (some (kX n)) _:Option Bool)=_
 rw[aV]
 cases h:kX n
 ·rfl
 ·simp only[cond_true,arY h,aV,Bool.true_and]
theorem ah8(a b c d e f g h i j:Bool):(bif a then(bif b then(bif c then(bif d then(bif e then(bif f then(bif g then(bif h then(bif i then some j else some false)else some false)else some false)else some false)else some false)else some false)else some false)else some false)else some false)=some ((a&&b)&&c&&d&&e&&f&&g&&h&&i&&j):=by
 cases a<;>cases b<;>cases c<;>cases d<;>cases e<;>cases f<;>cases g<;>cases h<;>cases i<;>rfl
theorem lZ(p:aD):iV p=some (ng p):=by
 unfold iV j9 ng
 simp only[aV,amh]
 exact ah8 _ _ _ _ _ _ _ _ _ _
theorem agS{n:Int}(h:kX n=true):sE n=some (uk n):=by
 rcases um h with rfl|rfl|rfl|rfl<;>kernel_rfl
theorem ae0(b n:Int):ov b n=some (vR b n):=by
 unfold ov vR
 show(bnd (some (kX n)) _:Option Bool)=_
 rw[aV]
 cases h:kX n
 ·rfl
 ·simp only[cond_true,agS h,aV,Bool.true_and]
theorem oE(p:aD):kV p=some (ng p):=by
 unfold kV gX ng
 simp only[aV,ae0]
 exact ah8 _ _ _ _ _ _ _ _ _ _
theorem aeG{n:Int}(h:kX n=true)(i:Nat):tbi (uk n) i=decide ((i:Int)<n):=by
 by_cases hi:i<64
 ·have hc:∀m:Nat,m≤64→tbi (((2 ^ m-1:Nat)):Int) i=decide (i<m):=λm hm=>by
   have hb:B64 ((2 ^ m-1:Nat):Int):=by
    have:=Nat.pow_le_pow_right (n:=2) (by decide) hm
    have h0:0<2 ^ m:=Nat.pow_pos (by decide)
    unfold B64;omega
   rw[afp hb,Int.toNat_natCast,Nat.testBit_two_pow_sub_one]
  rcases um h with rfl|rfl|rfl|rfl
  ·rw[show uk 8=((2 ^ 8-1:Nat):Int)from rfl,hc 8 (by decide)];exact decide_eq_decide.2 (by omega)
  ·rw[show uk 16=((2 ^ 16-1:Nat):Int)from rfl,hc 16 (by decide)];exact decide_eq_decide.2 (by omega)
  ·rw[show uk 32=((2 ^ 32-1:Nat):Int)from rfl,hc 32 (by decide)];exact decide_eq_decide.2 (by omega)
  ·rw[show uk 64=((2 ^ 64-1:Nat):Int)from rfl,hc 64 (by decide)];exact decide_eq_decide.2 (by omega)
 ·rw[agH _ (by omega)]
  have:=um h
  rw[decide_eq_false (by omega)]
theorem zl{b n:Int}:vR b n=true↔kX n=true∧∀i:Nat,tbi b i=true→(i:Int)<n:=by
 unfold vR
 rw[Bool.and_eq_true,decide_eq_true_eq]
 constructor
 ·rintro⟨h,h0⟩
  refine⟨h,λi hi=>?_⟩
  have:=tbn b (uk n) i
  rw[h0,rJ,hi,aeG h]at this
  simpa using this
 ·rintro⟨h,h1⟩
  refine⟨h,ab1 al2 ab2 λi _=>?_⟩
  rw[tbn,rJ,aeG h]
  cases hb:tbi b i
  ·rfl
  ·simp[h1 i hb]
def zm(a:ak):Int:=tP a.Bit.toNat
def vp(r:Int)(p:aD)(a:ak):Bool:=decide (a.aN=r)&&tbi p.Bits a.Bit.toNat
def eR(e:aG)(r:Int)(p:aD):Int:=bB .andNot .u64 p.Bits (tT e r)
def goP(e:aG)(r:Int)(p:aD):aD:=aD.mk p.Mode p.bL p.Set p.Length (w64 (p.TTL-1)) p.cn p.cq p.dg (eR e r p) p.cm
def eS(e:aG)(r:Int)(p:aD)(a:ak):eP:=eP.mk a.To (kZ.mk (if a.Kind=2 then[a.To]else[]) (goP e r p))
def orA(s:Int)(a:ak):Int:=bB .or .u64 s (zm a)
def eT(e:aG)(r:Int)(p:aD)(a:ak):Bool:=vp r p a&&!decide (a.Kind=3)&&!decide (p.TTL=0)&&!decide (eR e r p=0)
def eN(r:Int)(p:aD)(a:ak):Bool:=vp r p a&&decide (a.Kind=3)
def iR(r:Int)(p:aD)(a:ak):Bool:=vp r p a&&!decide (a.Kind=3)&&decide (p.TTL=0)
def cV(e:aG)(r:Int)(p:aD):List ak:=e.List.filter (eT e r p)
def oK(e:aG)(r:Int)(p:aD):dz:=dz.mk ((e.List.filter (eN r p)).foldl orA 0) ((e.List.filter (iR r p)).foldl orA 0) ((cV e r p).map (eS e r p))
theorem afy{x b:Int}(h0:0≤b)(h:b<64):decide (bB .and .u64 x (tP b.toNat)=0)=!tbi x b.toNat:=by
 have hk:b.toNat<64:=by omega
 by_cases hz:bB .and .u64 x (tP b.toNat)=0
 ·rw[decide_eq_true hz]
  have:=tba x (tP b.toNat) b.toNat
  rw[hz,rJ,ta _ _ hk,decide_eq_true rfl,Bool.and_true]at this
  rw[←this];rfl
 ·rw[decide_eq_false hz]
  obtain⟨i,_,hi⟩:=arQ anY hz
  rw[tba,ta _ _ hk,Bool.and_eq_true,decide_eq_true_eq]at hi
  rw[←hi.2,hi.1];rfl
theorem ab4{e:aG}(hv:Ve e)(r:Int)(p:aD):iD e r p=some (oK e r p,(cV e r p).map λa=>bG.mk a (eS e r p a)):=by
 have hl:=hv.small
 unfold iD oK cV
 rw[arS e r (by omega),aV]
 refine jX (L:=e.List) (λq (sg:List bG×Int×Int×List eP)=>sg=((q.filter (eT e r p)).map (λa=>bG.mk a (eS e r p a)),(q.filter (eN r p)).foldl orA 0,(q.filter (iR r p)).foldl orA 0,(q.filter (eT e r p)).map (eS e r p))) (λq l=>some (dz.mk ((e.List.filter (eN r p)).foldl orA 0) ((e.List.filter (iR r p)).foldl orA 0) ((e.List.filter (eT e r p)).map (eS e r p)),(e.List.filter (eT e r p)).map λa=>bG.mk a (eS e r p a))) (λs hs=>by rw[hs]) (λq x rest s Z h hi hZ=>?_) e.List [] _ rfl rfl
 subst hi
 have hx:x∈e.List:=by rw[←h];simp
 obtain⟨b0,b1⟩:=hv.bit hx
 have hql:q.length≤64:=by
  have:e.List.length=q.length+(rest.length+1):=by rw[←h];simp
  omega
 have hfl:∀f:ak→Bool,(q.filter f).length≤64:=λf=>Nat.le_trans (List.length_filter_le _ _) hql
 have pass:(∀f,f=eT e r p∨f=eN r p∨f=iR r p→f x=false)→Z ((q.filter (eT e r p)).map (λa=>bG.mk a (eS e r p a)),(q.filter (eN r p)).foldl orA 0,(q.filter (iR r p)).foldl orA 0,(q.filter (eT e r p)).map (eS e r p))=some (dz.mk ((e.List.filter (eN r p)).foldl orA 0) ((e.List.filter (iR r p)).foldl orA 0) ((e.List.filter (eT e r p)).map (eS e r p)),(e.List.filter (eT e r p)).map λa=>bG.mk a (eS e r p a)):=λhf=>hZ _ (by
  simp only[List.filter_append,List.filter_cons,List.filter_nil,hf _ (.inl rfl),hf _ (.inr (.inl rfl)),hf _ (.inr (.inr rfl)),Bool.false_eq_true,if_false,List.append_nil])
 simp only[jn]
 rw[decide_eq_true b0,tQ b0 b1,afy b0 b1]
 simp only[chk,cond_true]
 have eh:(!decide (x.aN=r)||!tbi p.Bits x.Bit.toNat)=!vp r p x:=by unfold vp;cases decide (x.aN=r)<;>rfl
 rw[eh]
 cases hh:vp r p x
 ·exact pass λf hf=>by rcases hf with rfl|rfl|rfl<;>simp[eT,eN,iR,hh]
 simp only[Bool.not_true,cond_false]
 by_cases h3:x.Kind=3
 ·rw[decide_eq_true h3,cond_true]
  refine hZ _ ?_
  have e1:eT e r p x=false:=by simp[eT,h3]
  have e2:eN r p x=true:=by simp[eN,hh,h3]
  have e3:iR r p x=false:=by simp[iR,h3]
  simp only[List.filter_append,List.filter_cons,List.filter_nil,e1,e2,e3,Bool.false_eq_true,if_false,if_true,List.append_nil,List.foldl_append,List.foldl_cons,List.foldl_nil]
  rfl
 rw[decide_eq_false h3,cond_false]
 by_cases h4:p.TTL=0
 ·rw[decide_eq_true h4,cond_true]
  refine hZ _ ?_
  have e1:eT e r p x=false:=by simp[eT,h4]
  have e2:eN r p x=false:=by simp[eN,h3]
  have e3:iR r p x=true:=by simp[iR,hh,h3,h4]
  simp only[List.filter_append,List.filter_cons,List.filter_nil,e1,e2,e3,Bool.false_eq_true,if_false,if_true,List.append_nil,List.foldl_append,List.foldl_cons,List.foldl_nil]
  rfl
 rw[decide_eq_false h4,cond_false]
 by_cases h5:eR e r p=0
 ·have h5':bB .andNot .u64 p.Bits (tT e r)=0:=h5
  rw[decide_eq_true h5']
  exact pass λf hf=>by rcases hf with rfl|rfl|rfl<;>simp[eT,eN,iR,h3,h4,h5]
 ·have h5':¬bB .andNot .u64 p.Bits (tT e r)=0:=h5
  rw[decide_eq_false h5']
  simp only[Bool.not_false,cond_true]
  have e1:eT e r p x=true:=by simp[eT,hh,h3,h4,h5]
  have e2:eN r p x=false:=by simp[eN,h3]
  have e3:iR r p x=false:=by simp[iR,h4]
  have fin:∀rt:List Int,rt=(if x.Kind=2 then[x.To]else[])→(bnd (dK ((q.filter (eT e r p)).map (eS e r p)) ([(eP.mk x.To (kZ.mk rt (aD.mk p.Mode p.bL p.Set p.Length (w64 (p.TTL-(1:Int))) p.cn p.cq p.dg (bB .andNot .u64 p.Bits (tT e r)) p.cm)))]:List eP)) λ(l_1:List eP)=>bnd (dK ((q.filter (eT e r p)).map (λa=>bG.mk a (eS e r p a))) ([(bG.mk x (eP.mk x.To (kZ.mk rt (aD.mk p.Mode p.bL p.Set p.Length (w64 (p.TTL-(1:Int))) p.cn p.cq p.dg (bB .andNot .u64 p.Bits (tT e r)) p.cm))))]:List bG)) λ(l_2:List bG)=>Z (l_2,(q.filter (eN r p)).foldl orA 0,(q.filter (iR r p)).foldl orA 0,l_1))=some (dz.mk ((e.List.filter (eN r p)).foldl orA 0) ((e.List.filter (iR r p)).foldl orA 0) ((e.List.filter (eT e r p)).map (eS e r p)),(e.List.filter (eT e r p)).map λa=>bG.mk a (eS e r p a)):=λrt hrt=>by
   have:=hfl (eT e r p)
   rw[mY (by simp;omega),aV,mY (by simp;omega),aV]
   refine hZ _ ?_
   simp only[List.filter_append,List.filter_cons,List.filter_nil,e1,e2,e3,Bool.false_eq_true,if_false,if_true,List.append_nil,List.map_append,List.map_cons,List.map_nil,hrt]
   rfl
  by_cases h2:x.Kind=2
  ·rw[decide_eq_true h2,cond_true];exact fin _ (by rw[if_pos h2])
  ·rw[decide_eq_false h2,cond_false];exact fin _ (by rw[if_neg h2])
end Go.Proofs.YtdjeacigeegklaaGreat
