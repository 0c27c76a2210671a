/- Plain: afx of the tape; what Forward comes to. No condition but bU bx stand in each. -/
import Derived.Test.YtdjeacigeegklaaGreatPYM
import Derived.Test.YtdjeacigeegklaaGreatDL
namespace Go.Proofs.YtdjeacigeegklaaGreat
set_option linter.all false
open Go
theorem afz:oA=some true:=by kernel_rfl
structure Pk(e:aG)(p:aD):Prop where
 v:ng p=true
 m:p.Mode=2
 l:p.Length=e.Length
variable {p:aD}
theorem pI:ng p=true↔(1≤p.Mode∧p.Mode≤3)∧(0≤p.bL∧p.bL≤7)∧(0≤p.Set∧p.Set≤31)∧vR p.Bits p.Length=true∧(0≤p.TTL∧p.TTL≤63)∧(0≤p.cn∧p.cn≤1023)∧(0≤p.cq∧p.cq≤256)∧(0≤p.dg∧p.dg≤7)∧(p.cm.size:Int)≤64:=by
 unfold ng inN
 simp only[Bool.and_eq_true,decide_eq_true_eq,and_assoc]
theorem Pk.ttl{e:aG}(h:Pk e p)(n:Int)(hn:0≤n∧n≤63):Pk e (aD.mk p.Mode p.bL p.Set p.Length n p.cn p.cq p.dg p.Bits p.cm):=by
 obtain⟨h1,h2,h3⟩:=h
 rw[pI]at h1
 refine⟨pI.2 ?_,h2,h3⟩
 obtain⟨a1,a2,a3,a4,a5,a6⟩:=h1
 exact⟨a1,a2,a3,a4,hn,a6⟩
theorem Pk.bits{e:aG}(h:Pk e p)(b:Int)(hb:∀i,tbi b i=true→tbi p.Bits i=true):Pk e (aD.mk p.Mode p.bL p.Set p.Length p.TTL p.cn p.cq p.dg b p.cm):=by
 obtain⟨h1,h2,h3⟩:=h
 rw[pI]at h1
 refine⟨pI.2 ?_,h2,h3⟩
 obtain⟨a1,a2,a3,a4,a5⟩:=h1
 rw[zl]at a4
 exact⟨a1,a2,a3,zl.2 ⟨a4.1,λi hi=>a4.2 i (hb i hi)⟩,a5⟩
theorem ami{e:aG}{r:Int}{i:Nat}(h:tbi (eR e r p) i=true):tbi p.Bits i=true:=by
 rw[eR,tbn,Bool.and_eq_true]at h;exact h.1
theorem Pk.go{e:aG}(hE:Ve e)(h:Pk e p)(r:Int)(hr:eR e r p≠0)(ht:0<p.TTL):Pk e (goP e r p):=by
 have h2:=(h.bits (eR e r p) λi hi=>ami hi)
 have h3:=pI.1 h.v
 have:=h2.ttl (w64 (p.TTL-1)) (by rw[gj (by omega) (by omega)];omega)
 exact this
def nk(e:aG)(p:aD):Int:=if p.Mode=2 then if p.Length=e.Length then 0 else 8 else 7
theorem zn(e:aG)(p:aD):iW e p=some (nk e p):=by
 unfold iW nk
 by_cases h1:p.Mode=2<;>by_cases h2:p.Length=e.Length<;>simp[h1,h2]
theorem wC(e:aG)(p:aD):jS e p=some (nk e p):=by
 unfold jS nk
 by_cases h1:p.Mode=2<;>by_cases h2:p.Length=e.Length<;>simp[h1,h2]
theorem Pk.agT{e:aG}(h:Pk e p):nk e p=0:=by unfold nk;rw[if_pos h.m,if_pos h.l]
theorem agU{t:aR}{e:aG}(h:dh t)(hE:Ve e):Ok (nN t e) (λq=>Pk e q.1∧dh q.2):=by
 unfold nN
 refine Ok.bnd (pG h (by simp) (by simp)) λa ha=>Ok.bnd (f_n ha.2 (by omega)) λb hb=>Ok.bnd (f_n hb.2 (by omega)) λc hc=>Ok.bnd (pG hc.2 (by simp) (by simp)) λn hn=>?_
 refine Ok.wq (L:=e.List) (λp (sg:Int×List Int×Int)=>(∀i:Nat,tbi sg.1 i=true→(i:Int)<e.Length)∧dh (aR.mk sg.2.1 sg.2.2)) (λp x rest s Z hL hI hZ=>?_) _ ⟨λi hi=>(by rw[rJ]at hi;cases hi),hn.2⟩ (λs hs=>?_)
 ·obtain⟨m,L,A⟩:=s
  obtain⟨i1,i2⟩:=hI
  have hx:x∈e.List:=by rw[hL];simp
  have hxb:=hE.bit hx
  have hxr:=hE.rng x hx
  unfold jn
  have hn2:=hn.1
  simp only[List.mem_cons,List.not_mem_nil,or_false]at hn2
  refine Ok.bnd (f_n i2 (by omega)) λu hu=>Ok.cs (λ_=>?_) λ_=>hZ _ ⟨i1,hu.2⟩
  have ew:IntKind.wrap .u64 x.Bit=x.Bit:=wrap_u64 hxb.1 (by omega)
  rw[ew]
  refine Ok.chk (by simp;omega) (hZ _ ⟨λi hi=>?_,hu.2⟩)
  rw[tQ hxb.1 hxb.2,tbo,ta x.Bit.toNat i (by omega),Bool.or_eq_true,decide_eq_true_eq]at hi
  rcases hi with hi|hi
  ·exact i1 i hi
  ·omega
 ·obtain⟨m,L,A⟩:=s
  have ha2:=ha.1
  simp only[List.mem_cons,List.not_mem_nil,or_false]at ha2
  have hb2:=hb.1.2.1 (by omega);have hb3:=hb.1.1
  have hc2:=hc.1.2.1 (by omega);have hc3:=hc.1.1
  refine Ok.s ⟨⟨pI.2 ⟨by simp only;omega,by simp only;omega,by simp only;omega,zl.2 ⟨?_,hs.1⟩,by simp only;omega,by simp only;omega,by simp only;omega,by simp only;omega,?_⟩,rfl,rfl⟩,hs.2⟩
  ·have:=hE.len;simpa [kX]using this
  ·show((4:Nat):Int)≤64;decide
end Go.Proofs.YtdjeacigeegklaaGreat
