/- Plain: aeb in aiw mode: validity, what a aN makes of one. No condition but bK bn stand in each. -/
import Derived.Test.YtdjeacigeegklaaGreatPYI
import Derived.Test.YtdjeacigeegklaaGreatPN
namespace Go.Proofs.YtdjeacigeegklaaGreat
set_option linter.all false
open Go
def inN(n m:Int):Bool:=decide (0≤n)&&decide (n≤m)
def vk(n:Int):Int:=if n=8 then 255 else if n=16 then 65535 else if n=32 then 4294967295 else 18446744073709551615
def xq(b n:Int):Bool:=kU n&&decide (aS .andNot .u64 b (vk n)=0)
def l9(p:aH):Bool:=(decide (1≤p.Mode)&&decide (p.Mode≤3))&&inN p.bU 7&&inN p.Set 31&&xq p.Bits p.Length&&inN p.TTL 63&&inN p.cR 1023&&inN p.cS 256&&inN p.dV 7&&decide ((p.cu.size:Int)≤64)
theorem vl{n:Int}(h:kU n=true):n=8∨n=16∨n=32∨n=64:=by simpa [kU]using h
theorem aqQ{n:Int}(h:kU n=true):rD n=some (vk n):=by
 rcases vl h with rfl|rfl|rfl|rfl<;>kernel_rfl
theorem al9(b n:Int):oy b n=some (xq b n):=by
 unfold oy xq
 show(bnd (some (kU n)) _:Option Bool)=_
 rw[aM]
 cases h:kU n
 ·rfl
 ·simp only[cond_true,aqQ h,aM,Bool.true_and]
theorem ajL(a b c d e f g h i j:Bool):(bif a then(bif b then(bif c then(bif d then(bif e then(bif f then(bif g then(bif h then(bif i then some j else some false)else some false)else some false)else some false)else some false)else some false)else some false)else some false)else some false)=some ((a&&b)&&c&&d&&e&&f&&g&&h&&i&&j):=by
 cases a<;>cases b<;>cases c<;>cases d<;>cases e<;>cases f<;>cases g<;>cases h<;>cases i<;>rfl
theorem mU(p:aH):kQ p=some (l9 p):=by
 unfold kQ kW l9
 simp only[aM,al9]
 exact ajL _ _ _ _ _ _ _ _ _ _
theorem aix{n:Int}(h:kU n=true):tj n=some (vk n):=by
 rcases vl h with rfl|rfl|rfl|rfl<;>kernel_rfl
theorem agS(b n:Int):pe b n=some (xq b n):=by
 unfold pe xq
 show(bnd (some (kU n)) _:Option Bool)=_
 rw[aM]
 cases h:kU n
 ·rfl
 ·simp only[cond_true,aix h,aM,Bool.true_and]
theorem pH(p:aH):l6 p=some (l9 p):=by
 unfold l6 iw l9
 simp only[aM,agS]
 exact ajL _ _ _ _ _ _ _ _ _ _
theorem agq{n:Int}(h:kU n=true)(i:Nat):tbi (vk n) i=decide ((i:Int)<n):=by
 by_cases hi:i<64
 ·have hc:∀m:Nat,m≤64→tbi (((2 ^ m-1:Nat)):Int) i=decide (i<m):=λm hm=>by
   have hb:B64 ((2 ^ m-1:Nat):Int):=by
    have:=Nat.pow_le_pow_right (n:=2) (by decide) hm
    have h0:0<2 ^ m:=Nat.pow_pos (by decide)
    unfold B64;omega
   rw[ahm hb,Int.toNat_natCast,Nat.testBit_two_pow_sub_one]
  rcases vl h with rfl|rfl|rfl|rfl
  ·rw[show vk 8=((2 ^ 8-1:Nat):Int)from rfl,hc 8 (by decide)];exact decide_eq_decide.2 (by omega)
  ·rw[show vk 16=((2 ^ 16-1:Nat):Int)from rfl,hc 16 (by decide)];exact decide_eq_decide.2 (by omega)
  ·rw[show vk 32=((2 ^ 32-1:Nat):Int)from rfl,hc 32 (by decide)];exact decide_eq_decide.2 (by omega)
  ·rw[show vk 64=((2 ^ 64-1:Nat):Int)from rfl,hc 64 (by decide)];exact decide_eq_decide.2 (by omega)
 ·rw[afn _ (by omega)]
  have:=vl h
  rw[decide_eq_false (by omega)]
theorem aaC{b n:Int}:xq b n=true↔kU n=true∧∀i:Nat,tbi b i=true→(i:Int)<n:=by
 unfold xq
 rw[Bool.and_eq_true,decide_eq_true_eq]
 constructor
 ·rintro⟨h,h0⟩
  refine⟨h,λi hi=>?_⟩
  have:=tbn b (vk n) i
  rw[h0,oE,hi,agq h]at this
  simpa using this
 ·rintro⟨h,h1⟩
  refine⟨h,adh al2 yt λi _=>?_⟩
  rw[tbn,oE,agq h]
  cases hb:tbi b i
  ·rfl
  ·simp[h1 i hb]
def aaE(a:ay):Int:=uN a.Bit.toNat
def kj(r:Int)(p:aH)(a:ay):Bool:=decide (a.aK=r)&&tbi p.Bits a.Bit.toNat
def ep(e:aC)(r:Int)(p:aH):Int:=aS .andNot .u64 p.Bits (qK e r)
def goP(e:aC)(r:Int)(p:aH):aH:=aH.mk p.Mode p.bU p.Set p.Length (w64 (p.TTL-1)) p.cR p.cS p.dV (ep e r p) p.cu
def fM(e:aC)(r:Int)(p:aH)(a:ay):bg:=bg.mk a.To (eP.mk (if a.Kind=2 then[a.To]else[]) (goP e r p))
def orA(s:Int)(a:ay):Int:=aS .or .u64 s (aaE a)
def eY(e:aC)(r:Int)(p:aH)(a:ay):Bool:=kj r p a&&!decide (a.Kind=3)&&!decide (p.TTL=0)&&!decide (ep e r p=0)
def eO(r:Int)(p:aH)(a:ay):Bool:=kj r p a&&decide (a.Kind=3)
def iz(r:Int)(p:aH)(a:ay):Bool:=kj r p a&&!decide (a.Kind=3)&&decide (p.TTL=0)
def cH(e:aC)(r:Int)(p:aH):List ay:=e.List.filter (eY e r p)
def gf(e:aC)(r:Int)(p:aH):cG:=cG.mk ((e.List.filter (eO r p)).foldl orA 0) ((e.List.filter (iz r p)).foldl orA 0) ((cH e r p).map (fM e r p))
theorem abh{x b:Int}(h0:0≤b)(h:b<64):decide (aS .and .u64 x (uN b.toNat)=0)=!tbi x b.toNat:=by
 have hk:b.toNat<64:=by omega
 by_cases hz:aS .and .u64 x (uN b.toNat)=0
 ·rw[decide_eq_true hz]
  have:=tba x (uN b.toNat) b.toNat
  rw[hz,oE,sD _ _ hk,decide_eq_true rfl,Bool.and_true]at this
  rw[←this];rfl
 ·rw[decide_eq_false hz]
  obtain⟨i,_,hi⟩:=aqJ anA hz
  rw[tba,sD _ _ hk,Bool.and_eq_true,decide_eq_true_eq]at hi
  rw[←hi.2,hi.1];rfl
theorem aiy{e:aC}(hv:Ve e)(r:Int)(p:aH):kK e r p=some (gf e r p,(cH e r p).map λa=>cI.mk a (fM e r p a)):=by
 have hl:=hv.small
 unfold kK gf cH
 rw[aho e r (by omega),aM]
 refine jQ (L:=e.List) (λq (sg:List cI×Int×Int×List bg)=>sg=((q.filter (eY e r p)).map (λa=>cI.mk a (fM e r p a)),(q.filter (eO r p)).foldl orA 0,(q.filter (iz r p)).foldl orA 0,(q.filter (eY e r p)).map (fM e r p))) (λq l=>some (cG.mk ((e.List.filter (eO r p)).foldl orA 0) ((e.List.filter (iz r p)).foldl orA 0) ((e.List.filter (eY e r p)).map (fM e r p)),(e.List.filter (eY e r p)).map λa=>cI.mk a (fM e r p a))) (λs hs=>by rw[hs]) (λq x rest s Z h hi hZ=>?_) e.List [] _ rfl rfl
 subst hi
 have hx:x∈e.List:=by rw[←h];simp
 obtain⟨b0,b1⟩:=hv.bit hx
 have hql:q.length≤64:=by
  have:e.List.length=q.length+(rest.length+1):=by rw[←h];simp
  omega
 have hfl:∀f:ay→Bool,(q.filter f).length≤64:=λf=>Nat.le_trans (List.length_filter_le _ _) hql
 have pass:(∀f,f=eY e r p∨f=eO r p∨f=iz r p→f x=false)→Z ((q.filter (eY e r p)).map (λa=>cI.mk a (fM e r p a)),(q.filter (eO r p)).foldl orA 0,(q.filter (iz r p)).foldl orA 0,(q.filter (eY e r p)).map (fM e r p))=some (cG.mk ((e.List.filter (eO r p)).foldl orA 0) ((e.List.filter (iz r p)).foldl orA 0) ((e.List.filter (eY e r p)).map (fM e r p)),(e.List.filter (eY e r p)).map λa=>cI.mk a (fM e r p a)):=λhf=>hZ _ (by
  simp only[List.filter_append,List.filter_cons,List.filter_nil,hf _ (.inl rfl),hf _ (.inr (.inl rfl)),hf _ (.inr (.inr rfl)),Bool.false_eq_true,if_false,List.append_nil])
 simp only[jn]
 rw[decide_eq_true b0,wD b0 b1,abh b0 b1]
 simp only[chk,cond_true]
 have eh:(!decide (x.aK=r)||!tbi p.Bits x.Bit.toNat)=!kj r p x:=by unfold kj;cases decide (x.aK=r)<;>rfl
 rw[eh]
 cases hh:kj r p x
 ·exact pass λf hf=>by rcases hf with rfl|rfl|rfl<;>simp[eY,eO,iz,hh]
 simp only[Bool.not_true,cond_false]
 by_cases h3:x.Kind=3
 ·rw[decide_eq_true h3,cond_true]
  refine hZ _ ?_
  have e1:eY e r p x=false:=by simp[eY,h3]
  have e2:eO r p x=true:=by simp[eO,hh,h3]
  have e3:iz r p x=false:=by simp[iz,h3]
  simp only[List.filter_append,List.filter_cons,List.filter_nil,e1,e2,e3,Bool.false_eq_true,if_false,if_true,List.append_nil,List.foldl_append,List.foldl_cons,List.foldl_nil]
  rfl
 rw[decide_eq_false h3,cond_false]
 by_cases h4:p.TTL=0
 ·rw[decide_eq_true h4,cond_true]
  refine hZ _ ?_
  have e1:eY e r p x=false:=by simp[eY,h4]
  have e2:eO r p x=false:=by simp[eO,h3]
  have e3:iz r p x=true:=by simp[iz,hh,h3,h4]
  simp only[List.filter_append,List.filter_cons,List.filter_nil,e1,e2,e3,Bool.false_eq_true,if_false,if_true,List.append_nil,List.foldl_append,List.foldl_cons,List.foldl_nil]
  rfl
 rw[decide_eq_false h4,cond_false]
 by_cases h5:ep e r p=0
 ·have h5':aS .andNot .u64 p.Bits (qK e r)=0:=h5
  rw[decide_eq_true h5']
  exact pass λf hf=>by rcases hf with rfl|rfl|rfl<;>simp[eY,eO,iz,h3,h4,h5]
 ·have h5':¬aS .andNot .u64 p.Bits (qK e r)=0:=h5
  rw[decide_eq_false h5']
  simp only[Bool.not_false,cond_true]
  have e1:eY e r p x=true:=by simp[eY,hh,h3,h4,h5]
  have e2:eO r p x=false:=by simp[eO,h3]
  have e3:iz r p x=false:=by simp[iz,h4]
  have fin:∀rt:List Int,rt=(if x.Kind=2 then[x.To]else[])→(bnd (dB ((q.filter (eY e r p)).map (fM e r p)) ([(bg.mk x.To (eP.mk rt (aH.mk p.Mode p.bU p.Set p.Length (w64 (p.TTL-(1:Int))) p.cR p.cS p.dV (aS .andNot .u64 p.Bits (qK e r)) p.cu)))]:List bg)) λ(l_1:List bg)=>bnd (dB ((q.filter (eY e r p)).map (λa=>cI.mk a (fM e r p a))) ([(cI.mk x (bg.mk x.To (eP.mk rt (aH.mk p.Mode p.bU p.Set p.Length (w64 (p.TTL-(1:Int))) p.cR p.cS p.dV (aS .andNot .u64 p.Bits (qK e r)) p.cu))))]:List cI)) λ(l_2:List cI)=>Z (l_2,(q.filter (eO r p)).foldl orA 0,(q.filter (iz r p)).foldl orA 0,l_1))=some (cG.mk ((e.List.filter (eO r p)).foldl orA 0) ((e.List.filter (iz r p)).foldl orA 0) ((e.List.filter (eY e r p)).map (fM e r p)),(e.List.filter (eY e r p)).map λa=>cI.mk a (fM e r p a)):=λrt hrt=>by
   have:=hfl (eY e r p)
   rw[ki (by simp;omega),aM,ki (by simp;omega),aM]
   refine hZ _ ?_
   simp only[List.filter_append,List.filter_cons,List.filter_nil,e1,e2,e3,Bool.false_eq_true,if_false,if_true,List.append_nil,List.map_append,List.map_cons,List.map_nil,hrt]
   rfl
  by_cases h2:x.Kind=2
  ·rw[decide_eq_true h2,cond_true];exact fin _ (by rw[if_pos h2])
  ·rw[decide_eq_false h2,cond_false];exact fin _ (by rw[if_neg h2])
end Go.Proofs.YtdjeacigeegklaaGreat
