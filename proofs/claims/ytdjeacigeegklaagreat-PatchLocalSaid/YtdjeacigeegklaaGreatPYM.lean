/- Plain: ad3 in afc mode: validity, what a aY makes of one. No condition but bB aX stand in each. -/
import Derived.Test.YtdjeacigeegklaaGreatPYI
import Derived.Test.YtdjeacigeegklaaGreatPN
import Derived.Test.YtdjeacigeegklaaGreatDA
namespace Go.Proofs.YtdjeacigeegklaaGreat
set_option linter.all false
open Go
def inN(n m:Int):Bool:=decide (0≤n)&&decide (n≤m)
def sD(n:Int):Int:=if n=8 then 255 else if n=16 then 65535 else if n=32 then 4294967295 else 18446744073709551615
def um(b n:Int):Bool:=jj n&&decide (aS .andNot .u64 b (sD n)=0)
def rR(p:aT):Bool:=(decide (1≤p.Mode)&&decide (p.Mode≤3))&&inN p.cA 7&&inN p.Set 31&&um p.Bits p.Length&&inN p.TTL 63&&inN p.cZ 1023&&inN p.de 256&&inN p.eE 7&&decide ((p.cS.size:Int)≤64)
theorem sE{n:Int}(h:jj n=true):n=8∨n=16∨n=32∨n=64:=by simpa [jj]using h
theorem ap4{n:Int}(h:jj n=true):oh n=some (sD n):=by
 rcases sE h with rfl|rfl|rfl|rfl<;>kernel_rfl
theorem akk(b n:Int):lZ b n=some (um b n):=by
 unfold lZ um
 show(bnd (some (jj n)) _:Option Bool)=_
 rw[aR]
 cases h:jj n
 ·rfl
 ·simp only[cond_true,ap4 h,aR,Bool.true_and]
theorem agk(a b c d e f g h i j:Bool):(bif a then(bif b then(bif c then(bif d then(bif e then(bif f then(bif g then(bif h then(bif i then some j else some false)else some false)else some false)else some false)else some false)else some false)else some false)else some false)else some false)=some ((a&&b)&&c&&d&&e&&f&&g&&h&&i&&j):=by
 cases a<;>cases b<;>cases c<;>cases d<;>cases e<;>cases f<;>cases g<;>cases h<;>cases i<;>rfl
theorem ac7(p:aT):l7 p=some (rR p):=by
 unfold l7 iS rR
 simp only[aR,akk]
 exact agk _ _ _ _ _ _ _ _ _ _
theorem afd{n:Int}(h:jj n=true):pU n=some (sD n):=by
 rcases sE h with rfl|rfl|rfl|rfl<;>kernel_rfl
theorem adp(b n:Int):mF b n=some (um b n):=by
 unfold mF um
 show(bnd (some (jj n)) _:Option Bool)=_
 rw[aR]
 cases h:jj n
 ·rfl
 ·simp only[cond_true,afd h,aR,Bool.true_and]
theorem adq(p:aT):mG p=some (rR p):=by
 unfold mG gb rR
 simp only[aR,adp]
 exact agk _ _ _ _ _ _ _ _ _ _
theorem ac8{n:Int}(h:jj n=true)(i:Nat):tbi (sD n) i=decide ((i:Int)<n):=by
 by_cases hi:i<64
 ·have hc:∀m:Nat,m≤64→tbi (((2 ^ m-1:Nat)):Int) i=decide (i<m):=λm hm=>by
   have hb:B64 ((2 ^ m-1:Nat):Int):=by
    have:=Nat.pow_le_pow_right (n:=2) (by decide) hm
    have h0:0<2 ^ m:=Nat.pow_pos (by decide)
    unfold B64;omega
   rw[adX hb,Int.toNat_natCast,Nat.testBit_two_pow_sub_one]
  rcases sE h with rfl|rfl|rfl|rfl
  ·rw[show sD 8=((2 ^ 8-1:Nat):Int)from rfl,hc 8 (by decide)];exact decide_eq_decide.2 (by omega)
  ·rw[show sD 16=((2 ^ 16-1:Nat):Int)from rfl,hc 16 (by decide)];exact decide_eq_decide.2 (by omega)
  ·rw[show sD 32=((2 ^ 32-1:Nat):Int)from rfl,hc 32 (by decide)];exact decide_eq_decide.2 (by omega)
  ·rw[show sD 64=((2 ^ 64-1:Nat):Int)from rfl,hc 64 (by decide)];exact decide_eq_decide.2 (by omega)
 ·rw[ae6 _ (by omega)]
  have:=sE h
  rw[decide_eq_false (by omega)]
theorem xG{b n:Int}:um b n=true↔jj n=true∧∀i:Nat,tbi b i=true→(i:Int)<n:=by
 unfold um
 rw[Bool.and_eq_true,decide_eq_true_eq]
 constructor
 ·rintro⟨h,h0⟩
  refine⟨h,λi hi=>?_⟩
  have:=tbn b (sD n) i
  rw[h0,vg,hi,ac8 h]at this
  simpa using this
 ·rintro⟨h,h1⟩
  refine⟨h,af9 aka agb λi _=>?_⟩
  rw[tbn,vg,ac8 h]
  cases hb:tbi b i
  ·rfl
  ·simp[h1 i hb]
def bitA(a:aj):Int:=uJ a.Bit.toNat
def kI(r:Int)(p:aT)(a:aj):Bool:=decide (a.bx=r)&&tbi p.Bits a.Bit.toNat
def iT(e:aK)(r:Int)(p:aT):Int:=aS .andNot .u64 p.Bits (rP e r)
def goP(e:aK)(r:Int)(p:aT):aT:=aT.mk p.Mode p.cA p.Set p.Length (w64 (p.TTL-1)) p.cZ p.de p.eE (iT e r p) p.cS
def jv(e:aK)(r:Int)(p:aT)(a:aj):bp:=bp.mk a.To (gG.mk (if a.Kind=2 then[a.To]else[]) (goP e r p))
def orA(s:Int)(a:aj):Int:=aS .or .u64 s (bitA a)
def dZ(e:aK)(r:Int)(p:aT)(a:aj):Bool:=kI r p a&&!decide (a.Kind=3)&&!decide (p.TTL=0)&&!decide (iT e r p=0)
def gD(r:Int)(p:aT)(a:aj):Bool:=kI r p a&&decide (a.Kind=3)
def gE(r:Int)(p:aT)(a:aj):Bool:=kI r p a&&!decide (a.Kind=3)&&decide (p.TTL=0)
def p8(e:aK)(r:Int)(p:aT):List aj:=e.List.filter (dZ e r p)
def l9(e:aK)(r:Int)(p:aT):bQ:=bQ.mk ((e.List.filter (gD r p)).foldl orA 0) ((e.List.filter (gE r p)).foldl orA 0) ((p8 e r p).map (jv e r p))
theorem yf{x b:Int}(h0:0≤b)(h:b<64):decide (aS .and .u64 x (uJ b.toNat)=0)=!tbi x b.toNat:=by
 have hk:b.toNat<64:=by omega
 by_cases hz:aS .and .u64 x (uJ b.toNat)=0
 ·rw[decide_eq_true hz]
  have:=tba x (uJ b.toNat) b.toNat
  rw[hz,vg,aaU _ _ hk,decide_eq_true rfl,Bool.and_true]at this
  rw[←this];rfl
 ·rw[decide_eq_false hz]
  obtain⟨i,_,hi⟩:=apZ azm hz
  rw[tba,aaU _ _ hk,Bool.and_eq_true,decide_eq_true_eq]at hi
  rw[←hi.2,hi.1];rfl
theorem afe{e:aK}(hv:Ve e)(r:Int)(p:aT):iI e r p=some (l9 e r p,(p8 e r p).map λa=>cc.mk a (jv e r p a)):=by
 have hl:=hv.small
 unfold iI l9 p8
 rw[adY e r (by omega),aR]
 refine kg (L:=e.List) (λq (sg:List cc×Int×Int×List bp)=>sg=((q.filter (dZ e r p)).map (λa=>cc.mk a (jv e r p a)),(q.filter (gD r p)).foldl orA 0,(q.filter (gE r p)).foldl orA 0,(q.filter (dZ e r p)).map (jv e r p))) (λq l=>some (bQ.mk ((e.List.filter (gD r p)).foldl orA 0) ((e.List.filter (gE r p)).foldl orA 0) ((e.List.filter (dZ e r p)).map (jv e r p)),(e.List.filter (dZ e r p)).map λa=>cc.mk a (jv e r p a))) (λs hs=>by rw[hs]) (λq x rest s Z h hi hZ=>?_) e.List [] _ rfl rfl
 subst hi
 have hx:x∈e.List:=by rw[←h];simp
 obtain⟨b0,b1⟩:=hv.bit hx
 have hql:q.length≤64:=by
  have:e.List.length=q.length+(rest.length+1):=by rw[←h];simp
  omega
 have hfl:∀f:aj→Bool,(q.filter f).length≤64:=λf=>Nat.le_trans (List.length_filter_le _ _) hql
 have pass:(∀f,f=dZ e r p∨f=gD r p∨f=gE r p→f x=false)→Z ((q.filter (dZ e r p)).map (λa=>cc.mk a (jv e r p a)),(q.filter (gD r p)).foldl orA 0,(q.filter (gE r p)).foldl orA 0,(q.filter (dZ e r p)).map (jv e r p))=some (bQ.mk ((e.List.filter (gD r p)).foldl orA 0) ((e.List.filter (gE r p)).foldl orA 0) ((e.List.filter (dZ e r p)).map (jv e r p)),(e.List.filter (dZ e r p)).map λa=>cc.mk a (jv e r p a)):=λhf=>hZ _ (by
  simp only[List.filter_append,List.filter_cons,List.filter_nil,hf _ (.inl rfl),hf _ (.inr (.inl rfl)),hf _ (.inr (.inr rfl)),Bool.false_eq_true,if_false,List.append_nil])
 simp only[jn]
 rw[decide_eq_true b0,zn b0 b1,yf b0 b1]
 simp only[chk,cond_true]
 have eh:(!decide (x.bx=r)||!tbi p.Bits x.Bit.toNat)=!kI r p x:=by unfold kI;cases decide (x.bx=r)<;>rfl
 rw[eh]
 cases hh:kI r p x
 ·exact pass λf hf=>by rcases hf with rfl|rfl|rfl<;>simp[dZ,gD,gE,hh]
 simp only[Bool.not_true,cond_false]
 by_cases h3:x.Kind=3
 ·rw[decide_eq_true h3,cond_true]
  refine hZ _ ?_
  have e1:dZ e r p x=false:=by simp[dZ,h3]
  have e2:gD r p x=true:=by simp[gD,hh,h3]
  have e3:gE r p x=false:=by simp[gE,h3]
  simp only[List.filter_append,List.filter_cons,List.filter_nil,e1,e2,e3,Bool.false_eq_true,if_false,if_true,List.append_nil,List.foldl_append,List.foldl_cons,List.foldl_nil]
  rfl
 rw[decide_eq_false h3,cond_false]
 by_cases h4:p.TTL=0
 ·rw[decide_eq_true h4,cond_true]
  refine hZ _ ?_
  have e1:dZ e r p x=false:=by simp[dZ,h4]
  have e2:gD r p x=false:=by simp[gD,h3]
  have e3:gE r p x=true:=by simp[gE,hh,h3,h4]
  simp only[List.filter_append,List.filter_cons,List.filter_nil,e1,e2,e3,Bool.false_eq_true,if_false,if_true,List.append_nil,List.foldl_append,List.foldl_cons,List.foldl_nil]
  rfl
 rw[decide_eq_false h4,cond_false]
 by_cases h5:iT e r p=0
 ·have h5':aS .andNot .u64 p.Bits (rP e r)=0:=h5
  rw[decide_eq_true h5']
  exact pass λf hf=>by rcases hf with rfl|rfl|rfl<;>simp[dZ,gD,gE,h3,h4,h5]
 ·have h5':¬aS .andNot .u64 p.Bits (rP e r)=0:=h5
  rw[decide_eq_false h5']
  simp only[Bool.not_false,cond_true]
  have e1:dZ e r p x=true:=by simp[dZ,hh,h3,h4,h5]
  have e2:gD r p x=false:=by simp[gD,h3]
  have e3:gE r p x=false:=by simp[gE,h4]
  have fin:∀rt:List Int,rt=(if x.Kind=2 then[x.To]else[])→(bnd (dy ((q.filter (dZ e r p)).map (jv e r p)) ([(bp.mk x.To (gG.mk rt (aT.mk p.Mode p.cA p.Set p.Length (w64 (p.TTL-(1:Int))) p.cZ p.de p.eE (aS .andNot .u64 p.Bits (rP e r)) p.cS)))]:List bp)) λ(l_1:List bp)=>bnd (dy ((q.filter (dZ e r p)).map (λa=>cc.mk a (jv e r p a))) ([(cc.mk x (bp.mk x.To (gG.mk rt (aT.mk p.Mode p.cA p.Set p.Length (w64 (p.TTL-(1:Int))) p.cZ p.de p.eE (aS .andNot .u64 p.Bits (rP e r)) p.cS))))]:List cc)) λ(l_2:List cc)=>Z (l_2,(q.filter (gD r p)).foldl orA 0,(q.filter (gE r p)).foldl orA 0,l_1))=some (bQ.mk ((e.List.filter (gD r p)).foldl orA 0) ((e.List.filter (gE r p)).foldl orA 0) ((e.List.filter (dZ e r p)).map (jv e r p)),(e.List.filter (dZ e r p)).map λa=>cc.mk a (jv e r p a)):=λrt hrt=>by
   have:=hfl (dZ e r p)
   rw[kH (by simp;omega),aR,kH (by simp;omega),aR]
   refine hZ _ ?_
   simp only[List.filter_append,List.filter_cons,List.filter_nil,e1,e2,e3,Bool.false_eq_true,if_false,if_true,List.append_nil,List.map_append,List.map_cons,List.map_nil,hrt]
   rfl
  by_cases h2:x.Kind=2
  ·rw[decide_eq_true h2,cond_true];exact fin _ (by rw[if_pos h2])
  ·rw[decide_eq_false h2,cond_false];exact fin _ (by rw[if_neg h2])
end Go.Proofs.YtdjeacigeegklaaGreat
