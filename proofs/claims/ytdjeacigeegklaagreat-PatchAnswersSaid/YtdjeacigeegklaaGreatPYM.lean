/- Plain: agM in ahT mode: validity, what a aD makes of one. No condition but bO bx stand in each. -/
import Derived.Test.YtdjeacigeegklaaGreatPYI
import Derived.Test.YtdjeacigeegklaaGreatPN
namespace Go.Proofs.YtdjeacigeegklaaGreat
set_option linter.all false
open Go
def inN(n m:Int):Bool:=decide (0≤n)&&decide (n≤m)
def vu(n:Int):Int:=if n=8 then 255 else if n=16 then 65535 else if n=32 then 4294967295 else 18446744073709551615
def xA(b n:Int):Bool:=lX n&&decide (aU .andNot .u64 b (vu n)=0)
def nW(p:aH):Bool:=(decide (1≤p.Mode)&&decide (p.Mode≤3))&&inN p.bQ 7&&inN p.Set 31&&xA p.Bits p.Length&&inN p.TTL 63&&inN p.cI 1023&&inN p.cK 256&&inN p.dU 7&&decide ((p.cD.size:Int)≤64)
theorem vv{n:Int}(h:lX n=true):n=8∨n=16∨n=32∨n=64:=by simpa [lX]using h
theorem apT{n:Int}(h:lX n=true):rE n=some (vu n):=by
 rcases vv h with rfl|rfl|rfl|rfl<;>kernel_rfl
theorem alk(b n:Int):oI b n=some (xA b n):=by
 unfold oI xA
 show(bnd (some (lX n)) _:Option Bool)=_
 rw[aN]
 cases h:lX n
 ·rfl
 ·simp only[cond_true,apT h,aN,Bool.true_and]
theorem ai0(a b c d e f g h i j:Bool):(bif a then(bif b then(bif c then(bif d then(bif e then(bif f then(bif g then(bif h then(bif i then some j else some false)else some false)else some false)else some false)else some false)else some false)else some false)else some false)else some false)=some ((a&&b)&&c&&d&&e&&f&&g&&h&&i&&j):=by
 cases a<;>cases b<;>cases c<;>cases d<;>cases e<;>cases f<;>cases g<;>cases h<;>cases i<;>rfl
theorem mR(p:aH):kK p=some (nW p):=by
 unfold kK kT nW
 simp only[aN,alk]
 exact ai0 _ _ _ _ _ _ _ _ _ _
theorem ahU{n:Int}(h:lX n=true):tc n=some (vu n):=by
 rcases vv h with rfl|rfl|rfl|rfl<;>kernel_rfl
theorem af6(b n:Int):pg b n=some (xA b n):=by
 unfold pg xA
 show(bnd (some (lX n)) _:Option Bool)=_
 rw[aN]
 cases h:lX n
 ·rfl
 ·simp only[cond_true,ahU h,aN,Bool.true_and]
theorem pI(p:aH):nt p=some (nW p):=by
 unfold nt ij nW
 simp only[aN,af6]
 exact ai0 _ _ _ _ _ _ _ _ _ _
theorem afJ{n:Int}(h:lX n=true)(i:Nat):tbi (vu n) i=decide ((i:Int)<n):=by
 by_cases hi:i<64
 ·have hc:∀m:Nat,m≤64→tbi (((2 ^ m-1:Nat)):Int) i=decide (i<m):=λm hm=>by
   have hb:B64 ((2 ^ m-1:Nat):Int):=by
    have:=Nat.pow_le_pow_right (n:=2) (by decide) hm
    have h0:0<2 ^ m:=Nat.pow_pos (by decide)
    unfold B64;omega
   rw[agF hb,Int.toNat_natCast,Nat.testBit_two_pow_sub_one]
  rcases vv h with rfl|rfl|rfl|rfl
  ·rw[show vu 8=((2 ^ 8-1:Nat):Int)from rfl,hc 8 (by decide)];exact decide_eq_decide.2 (by omega)
  ·rw[show vu 16=((2 ^ 16-1:Nat):Int)from rfl,hc 16 (by decide)];exact decide_eq_decide.2 (by omega)
  ·rw[show vu 32=((2 ^ 32-1:Nat):Int)from rfl,hc 32 (by decide)];exact decide_eq_decide.2 (by omega)
  ·rw[show vu 64=((2 ^ 64-1:Nat):Int)from rfl,hc 64 (by decide)];exact decide_eq_decide.2 (by omega)
 ·rw[ahM _ (by omega)]
  have:=vv h
  rw[decide_eq_false (by omega)]
theorem aeh{b n:Int}:xA b n=true↔lX n=true∧∀i:Nat,tbi b i=true→(i:Int)<n:=by
 unfold xA
 rw[Bool.and_eq_true,decide_eq_true_eq]
 constructor
 ·rintro⟨h,h0⟩
  refine⟨h,λi hi=>?_⟩
  have:=tbn b (vu n) i
  rw[h0,qA,hi,afJ h]at this
  simpa using this
 ·rintro⟨h,h1⟩
  refine⟨h,afA ala aiS λi _=>?_⟩
  rw[tbn,qA,afJ h]
  cases hb:tbi b i
  ·rfl
  ·simp[h1 i hb]
def adz(a:az):Int:=wN a.Bit.toNat
def lZ(r:Int)(p:aH)(a:az):Bool:=decide (a.br=r)&&tbi p.Bits a.Bit.toNat
def kV(e:aF)(r:Int)(p:aH):Int:=aU .andNot .u64 p.Bits (uQ e r)
def goP(e:aF)(r:Int)(p:aH):aH:=aH.mk p.Mode p.bQ p.Set p.Length (w64 (p.TTL-1)) p.cI p.cK p.dU (kV e r p) p.cD
def lN(e:aF)(r:Int)(p:aH)(a:az):bh:=bh.mk a.To (dP.mk (if a.Kind=2 then[a.To]else[]) (goP e r p))
def orA(s:Int)(a:az):Int:=aU .or .u64 s (adz a)
def fm(e:aF)(r:Int)(p:aH)(a:az):Bool:=lZ r p a&&!decide (a.Kind=3)&&!decide (p.TTL=0)&&!decide (kV e r p=0)
def eW(r:Int)(p:aH)(a:az):Bool:=lZ r p a&&decide (a.Kind=3)
def iY(r:Int)(p:aH)(a:az):Bool:=lZ r p a&&!decide (a.Kind=3)&&decide (p.TTL=0)
def uF(e:aF)(r:Int)(p:aH):List az:=e.List.filter (fm e r p)
def ni(e:aF)(r:Int)(p:aH):cg:=cg.mk ((e.List.filter (eW r p)).foldl orA 0) ((e.List.filter (iY r p)).foldl orA 0) ((uF e r p).map (lN e r p))
theorem aaZ{x b:Int}(h0:0≤b)(h:b<64):decide (aU .and .u64 x (wN b.toNat)=0)=!tbi x b.toNat:=by
 have hk:b.toNat<64:=by omega
 by_cases hz:aU .and .u64 x (wN b.toNat)=0
 ·rw[decide_eq_true hz]
  have:=tba x (wN b.toNat) b.toNat
  rw[hz,qA,ue _ _ hk,decide_eq_true rfl,Bool.and_true]at this
  rw[←this];rfl
 ·rw[decide_eq_false hz]
  obtain⟨i,_,hi⟩:=apN amD hz
  rw[tba,ue _ _ hk,Bool.and_eq_true,decide_eq_true_eq]at hi
  rw[←hi.2,hi.1];rfl
theorem ahV{e:aF}(hv:Ve e)(r:Int)(p:aH):ki e r p=some (ni e r p,(uF e r p).map λa=>cE.mk a (lN e r p a)):=by
 have hl:=hv.small
 unfold ki ni uF
 rw[agG e r (by omega),aN]
 refine jM (L:=e.List) (λq (sg:List cE×Int×Int×List bh)=>sg=((q.filter (fm e r p)).map (λa=>cE.mk a (lN e r p a)),(q.filter (eW r p)).foldl orA 0,(q.filter (iY r p)).foldl orA 0,(q.filter (fm e r p)).map (lN e r p))) (λq l=>some (cg.mk ((e.List.filter (eW r p)).foldl orA 0) ((e.List.filter (iY r p)).foldl orA 0) ((e.List.filter (fm e r p)).map (lN e r p)),(e.List.filter (fm e r p)).map λa=>cE.mk a (lN e r p a))) (λs hs=>by rw[hs]) (λq x rest s Z h hi hZ=>?_) e.List [] _ rfl rfl
 subst hi
 have hx:x∈e.List:=by rw[←h];simp
 obtain⟨b0,b1⟩:=hv.bit hx
 have hql:q.length≤64:=by
  have:e.List.length=q.length+(rest.length+1):=by rw[←h];simp
  omega
 have hfl:∀f:az→Bool,(q.filter f).length≤64:=λf=>Nat.le_trans (List.length_filter_le _ _) hql
 have pass:(∀f,f=fm e r p∨f=eW r p∨f=iY r p→f x=false)→Z ((q.filter (fm e r p)).map (λa=>cE.mk a (lN e r p a)),(q.filter (eW r p)).foldl orA 0,(q.filter (iY r p)).foldl orA 0,(q.filter (fm e r p)).map (lN e r p))=some (cg.mk ((e.List.filter (eW r p)).foldl orA 0) ((e.List.filter (iY r p)).foldl orA 0) ((e.List.filter (fm e r p)).map (lN e r p)),(e.List.filter (fm e r p)).map λa=>cE.mk a (lN e r p a)):=λhf=>hZ _ (by
  simp only[List.filter_append,List.filter_cons,List.filter_nil,hf _ (.inl rfl),hf _ (.inr (.inl rfl)),hf _ (.inr (.inr rfl)),Bool.false_eq_true,if_false,List.append_nil])
 simp only[jn]
 rw[decide_eq_true b0,za b0 b1,aaZ b0 b1]
 simp only[chk,cond_true]
 have eh:(!decide (x.br=r)||!tbi p.Bits x.Bit.toNat)=!lZ r p x:=by unfold lZ;cases decide (x.br=r)<;>rfl
 rw[eh]
 cases hh:lZ r p x
 ·exact pass λf hf=>by rcases hf with rfl|rfl|rfl<;>simp[fm,eW,iY,hh]
 simp only[Bool.not_true,cond_false]
 by_cases h3:x.Kind=3
 ·rw[decide_eq_true h3,cond_true]
  refine hZ _ ?_
  have e1:fm e r p x=false:=by simp[fm,h3]
  have e2:eW r p x=true:=by simp[eW,hh,h3]
  have e3:iY r p x=false:=by simp[iY,h3]
  simp only[List.filter_append,List.filter_cons,List.filter_nil,e1,e2,e3,Bool.false_eq_true,if_false,if_true,List.append_nil,List.foldl_append,List.foldl_cons,List.foldl_nil]
  rfl
 rw[decide_eq_false h3,cond_false]
 by_cases h4:p.TTL=0
 ·rw[decide_eq_true h4,cond_true]
  refine hZ _ ?_
  have e1:fm e r p x=false:=by simp[fm,h4]
  have e2:eW r p x=false:=by simp[eW,h3]
  have e3:iY r p x=true:=by simp[iY,hh,h3,h4]
  simp only[List.filter_append,List.filter_cons,List.filter_nil,e1,e2,e3,Bool.false_eq_true,if_false,if_true,List.append_nil,List.foldl_append,List.foldl_cons,List.foldl_nil]
  rfl
 rw[decide_eq_false h4,cond_false]
 by_cases h5:kV e r p=0
 ·have h5':aU .andNot .u64 p.Bits (uQ e r)=0:=h5
  rw[decide_eq_true h5']
  exact pass λf hf=>by rcases hf with rfl|rfl|rfl<;>simp[fm,eW,iY,h3,h4,h5]
 ·have h5':¬aU .andNot .u64 p.Bits (uQ e r)=0:=h5
  rw[decide_eq_false h5']
  simp only[Bool.not_false,cond_true]
  have e1:fm e r p x=true:=by simp[fm,hh,h3,h4,h5]
  have e2:eW r p x=false:=by simp[eW,h3]
  have e3:iY r p x=false:=by simp[iY,h4]
  have fin:∀rt:List Int,rt=(if x.Kind=2 then[x.To]else[])→(bnd (dx ((q.filter (fm e r p)).map (lN e r p)) ([(bh.mk x.To (dP.mk rt (aH.mk p.Mode p.bQ p.Set p.Length (w64 (p.TTL-(1:Int))) p.cI p.cK p.dU (aU .andNot .u64 p.Bits (uQ e r)) p.cD)))]:List bh)) λ(l_1:List bh)=>bnd (dx ((q.filter (fm e r p)).map (λa=>cE.mk a (lN e r p a))) ([(cE.mk x (bh.mk x.To (dP.mk rt (aH.mk p.Mode p.bQ p.Set p.Length (w64 (p.TTL-(1:Int))) p.cI p.cK p.dU (aU .andNot .u64 p.Bits (uQ e r)) p.cD))))]:List cE)) λ(l_2:List cE)=>Z (l_2,(q.filter (eW r p)).foldl orA 0,(q.filter (iY r p)).foldl orA 0,l_1))=some (cg.mk ((e.List.filter (eW r p)).foldl orA 0) ((e.List.filter (iY r p)).foldl orA 0) ((e.List.filter (fm e r p)).map (lN e r p)),(e.List.filter (fm e r p)).map λa=>cE.mk a (lN e r p a)):=λrt hrt=>by
   have:=hfl (fm e r p)
   rw[lW (by simp;omega),aN,lW (by simp;omega),aN]
   refine hZ _ ?_
   simp only[List.filter_append,List.filter_cons,List.filter_nil,e1,e2,e3,Bool.false_eq_true,if_false,if_true,List.append_nil,List.map_append,List.map_cons,List.map_nil,hrt]
   rfl
  by_cases h2:x.Kind=2
  ·rw[decide_eq_true h2,cond_true];exact fin _ (by rw[if_pos h2])
  ·rw[decide_eq_false h2,cond_false];exact fin _ (by rw[if_neg h2])
end Go.Proofs.YtdjeacigeegklaaGreat
