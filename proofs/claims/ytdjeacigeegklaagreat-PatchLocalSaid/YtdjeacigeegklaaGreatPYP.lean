/- Plain: the ads Forward and Run wB to what the tY do. No condition but bB aX stand in each. -/
import Derived.Test.YtdjeacigeegklaaGreatPYO
import Derived.Test.YtdjeacigeegklaaGreatPYI
namespace Go.Proofs.YtdjeacigeegklaaGreat
set_option linter.all false
open Go
noncomputable def oE(e:aK)(r:Int)(p:aT):bQ×Int:=if oD e=0 then bif rR p then(if nH e p=0 then(l9 e r p,0)else(bQ.mk 0 0 [],nH e p))else(bQ.mk 0 0 [],1)else(bQ.mk 0 0 [],1)
theorem aaq(e:aK)(r:Int)(p:aT)(hl:e.List.length≤1000):ij e r p=some (oE e r p):=by
 unfold ij oE
 simp only[jn,tK e (by omega),aR,ac7,agm]
 by_cases hv:oD e=0
 ·simp only[hv,decide_true,Bool.not_true,cond_false,if_true]
  cases hp:rR p
  ·rfl
  ·by_cases hs:nH e p=0
   ·simp only[hs,decide_true,Bool.not_true,cond_false,if_true,afe (ry.1 hv),aR,cond_true]
   ·simp[hs]
 ·simp[hv]
theorem rX(e:aK)(r:Int)(p:aT)(hl:e.List.length≤1000):jr e r p=some (oE e r p):=by
 unfold jr oE
 simp only[qA e (show e.List.length≤1000000 by omega),aR,adq,adr,abD e r (show e.List.length≤1000000 by omega)]
 by_cases hve:oD e=0
 rotate_left
 ·simp only[jn];simp[hve]
 have hv:=ry.1 hve
 cases hp:rR p
 ·simp only[jn];simp[hve]
 by_cases hs:nH e p=0
 rotate_left
 ·simp only[jn];simp[hve,hs]
 unfold jn
 simp only[hve,hs,decide_true,Bool.not_true,cond_false,if_true,cond_true]
 unfold l9 p8
 refine kg (L:=e.List) (λq (sg:Int×Int×List bp)=>sg=((q.filter (gD r p)).foldl orA 0,(q.filter (gE r p)).foldl orA 0,(q.filter (dZ e r p)).map (jv e r p))) (λq l=>some (bQ.mk ((e.List.filter (gD r p)).foldl orA 0) ((e.List.filter (gE r p)).foldl orA 0) ((e.List.filter (dZ e r p)).map (jv e r p)),(0:Int))) (λs hs=>by rw[hs]) (λq x rest s Z h hi hZ=>?_) e.List [] _ rfl rfl
 subst hi
 have hx:x∈e.List:=by rw[←h];simp
 obtain⟨b0,b1⟩:=hv.bit hx
 have hel:=hv.small
 have hql:q.length≤64:=by
  have:e.List.length=q.length+(rest.length+1):=by rw[←h];simp
  omega
 have hfl:∀f:aj→Bool,(q.filter f).length≤64:=λf=>Nat.le_trans (List.length_filter_le _ _) hql
 have pass:(∀f,f=dZ e r p∨f=gD r p∨f=gE r p→f x=false)→Z ((q.filter (gD r p)).foldl orA 0,(q.filter (gE r p)).foldl orA 0,(q.filter (dZ e r p)).map (jv e r p))=some (bQ.mk ((e.List.filter (gD r p)).foldl orA 0) ((e.List.filter (gE r p)).foldl orA 0) ((e.List.filter (dZ e r p)).map (jv e r p)),(0:Int)):=λhf=>hZ _ (by
  simp only[List.filter_append,List.filter_cons,List.filter_nil,hf _ (.inl rfl),hf _ (.inr (.inl rfl)),hf _ (.inr (.inr rfl)),Bool.false_eq_true,if_false,List.append_nil])
 have ew:IntKind.wrap .u64 x.Bit=x.Bit:=wrap_u64 b0 (by omega)
 simp only[ew]
 rw[decide_eq_true b0,zn b0 b1,yf b0 b1]
 simp only[chk,cond_true]
 have eh:(!decide (x.bx=r)||!tbi p.Bits x.Bit.toNat)=!kI r p x:=by unfold kI;cases decide (x.bx=r)<;>rfl
 rw[eh]
 cases hh:kI r p x
 ·exact pass λf hf=>by rcases hf with rfl|rfl|rfl<;>simp[dZ,gD,gE,hh]
 simp only[Bool.not_true,cond_false]
 by_cases h3:x.Kind=3
 ·rw[decide_eq_true h3,cond_true]
  refine hZ _ ?_
  have e1:dZ e r p x=false:=by simp[dZ,h3]
  have e2:gD r p x=true:=by simp[gD,hh,h3]
  have e3:gE r p x=false:=by simp[gE,h3]
  simp only[List.filter_append,List.filter_cons,List.filter_nil,e1,e2,e3,Bool.false_eq_true,if_false,if_true,List.append_nil,List.foldl_append,List.foldl_cons,List.foldl_nil]
  rfl
 rw[decide_eq_false h3,cond_false]
 by_cases h4:p.TTL=0
 ·rw[decide_eq_true h4,cond_true]
  refine hZ _ ?_
  have e1:dZ e r p x=false:=by simp[dZ,h4]
  have e2:gD r p x=false:=by simp[gD,h3]
  have e3:gE r p x=true:=by simp[gE,hh,h3,h4]
  simp only[List.filter_append,List.filter_cons,List.filter_nil,e1,e2,e3,Bool.false_eq_true,if_false,if_true,List.append_nil,List.foldl_append,List.foldl_cons,List.foldl_nil]
  rfl
 rw[decide_eq_false h4,cond_false]
 by_cases h5:iT e r p=0
 ·have h5':aS .andNot .u64 p.Bits (rP e r)=0:=h5
  rw[decide_eq_true h5']
  exact pass λf hf=>by rcases hf with rfl|rfl|rfl<;>simp[dZ,gD,gE,h3,h4,h5]
 ·have h5':¬aS .andNot .u64 p.Bits (rP e r)=0:=h5
  rw[decide_eq_false h5']
  simp only[Bool.not_false,cond_true]
  have e1:dZ e r p x=true:=by simp[dZ,hh,h3,h4,h5]
  have e2:gD r p x=false:=by simp[gD,h3]
  have e3:gE r p x=false:=by simp[gE,h4]
  have:=hfl (dZ e r p)
  have fin:∀rt:List Int,rt=(if x.Kind=2 then[x.To]else[])→(bnd (dy ((q.filter (dZ e r p)).map (jv e r p)) ([(bp.mk x.To (gG.mk rt (aT.mk p.Mode p.cA p.Set p.Length (w64 (p.TTL-(1:Int))) p.cZ p.de p.eE (aS .andNot .u64 p.Bits (rP e r)) p.cS)))]:List bp)) λ(l_1:List bp)=>Z ((q.filter (gD r p)).foldl orA 0,(q.filter (gE r p)).foldl orA 0,l_1))=some (bQ.mk ((e.List.filter (gD r p)).foldl orA 0) ((e.List.filter (gE r p)).foldl orA 0) ((e.List.filter (dZ e r p)).map (jv e r p)),(0:Int)):=λrt hrt=>by
   rw[kH (by simp;omega),aR]
   refine hZ _ ?_
   simp only[List.filter_append,List.filter_cons,List.filter_nil,e1,e2,e3,Bool.false_eq_true,if_false,if_true,List.append_nil,List.map_append,List.map_cons,List.map_nil,hrt]
   rfl
  by_cases h2:x.Kind=2
  ·rw[decide_eq_true h2,cond_true];exact fin _ (by rw[if_pos h2])
  ·rw[decide_eq_false h2,cond_false];exact fin _ (by rw[if_neg h2])
theorem agn{e:aK}{r:Int}{p:aT}{a:aj}(h:a∈p8 e r p):a∈e.List∧a.bx=r∧tbi p.Bits a.Bit.toNat=true∧a.Kind≠3∧p.TTL≠0∧iT e r p≠0:=by
 obtain⟨h1,h2⟩:=List.mem_filter.1 h
 simp only[dZ,kI,Bool.and_eq_true,Bool.not_eq_true',decide_eq_false_iff_not,decide_eq_true_eq]at h2
 exact⟨h1,h2.1.1.1.1,h2.1.1.1.2,h2.1.1.2,h2.1.2,h2.2⟩
theorem azo{e:aK}{p:aT}(hp:rR p=true)(hs:nH e p=0):Pk e p:=by
 unfold nH at hs
 by_cases h1:p.Mode=2
 ·by_cases h2:p.Length=e.Length
  ·exact⟨hp,h1,h2⟩
  ·rw[if_pos h1,if_neg h2]at hs;cases hs
 ·rw[if_neg h1]at hs;cases hs
theorem ago{α β:Type}{a:List α}{q:α→α→Bool}(hq:∀x,q x x=true)(n:Option β){B:Int→α→(Unit→Option β)→Unit→Option β}{K:Unit→Option β}
  (hB:∀j x Z,B j x Z ()=bnd (elO a j) λe=>bif !q x e then n else Z ()):bJ a 0 B K ()=K ():=
 kg (L:=a) (λ_ _=>True) (λ_ _=>K ()) (λs _=>rfl) (λp x r s Z h _ hZ=>by
  rw[hB,←h,aad,aR,hq];exact hZ () trivial) a [] () rfl trivial
theorem akm(p:aT):jO p p=true:=by simp[jO]
theorem ac9(x:bQ):fM x x=some true:=by
 unfold fM
 simp only[decide_true,Bool.not_true,Bool.or_false,cond_false]
 refine kg (L:=x.bu) (λ_ _=>True) (λ_ _=>some true) (λs _=>rfl) (λp c r s Z h _ hZ=>?_) x.bu [] () rfl trivial
 have e0:elO x.bu (p.length:Int)=some c:=by rw[←h,aad]
 simp only[e0,aR,decide_true,Bool.not_true,akm,Bool.or_false,cond_false]
 refine(ago (a:=c.Frame.eF) (q:=λa b=>decide (a=b)) (λd=>by simp) (some false) (by intros;rfl)).trans ?_
 exact hZ () trivial
end Go.Proofs.YtdjeacigeegklaaGreat
