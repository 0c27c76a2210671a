/- Plain: the bits of a number of 64 bits. No condition. -/
import Derived.Test.YtdjeacigeegklaaGreatPM
namespace Go.Proofs.YtdjeacigeegklaaGreat
set_option linter.all false
open Go
def B64(x:Int):Prop:=0≤x∧x<18446744073709551616
def tbi(x:Int)(i:Nat):Bool:=(BitVec.ofInt 64 x).getLsbD i
theorem afm(n:Int):IntKind.wrap .u64 n=n%18446744073709551616:=by
 simp[IntKind.wrap,IntKind.bits,IntKind.signed]
theorem wrap_u64{n:Int}(h0:0≤n)(h:n<18446744073709551616):IntKind.wrap .u64 n=n:=by
 rw[afm];omega
theorem anz(a:BitVec 64):((a.toNat:Nat):Int)<18446744073709551616:=by
 have:=a.isLt;omega
theorem za(a:BitVec 64):BitVec.ofInt 64 (IntKind.wrap .u64 (a.toNat:Int))=a:=by
 rw[wrap_u64 (by omega) (anz a)]
 apply BitVec.eq_of_toNat_eq
 rw[BitVec.toNat_ofInt]
 have:=anz a
 omega
variable {a b:Int}
theorem auB:B64 (aS .or .u64 a b):=by
 unfold aS B64;simp only;rw[afm];omega
theorem anA:B64 (aS .and .u64 a b):=by
 unfold aS B64;simp only;rw[afm];omega
theorem al2:B64 (aS .andNot .u64 a b):=by
 unfold aS B64;simp only;rw[afm];omega
theorem tbo(a b:Int)(i:Nat):tbi (aS .or .u64 a b) i=(tbi a i||tbi b i):=by
 unfold tbi
 rw[show aS .or .u64 a b=IntKind.wrap .u64 ((BitVec.ofInt 64 a ||| BitVec.ofInt 64 b).toNat:Int)from rfl,za,BitVec.getLsbD_or]
theorem tba(a b:Int)(i:Nat):tbi (aS .and .u64 a b) i=(tbi a i&&tbi b i):=by
 unfold tbi
 rw[show aS .and .u64 a b=IntKind.wrap .u64 ((BitVec.ofInt 64 a &&& BitVec.ofInt 64 b).toNat:Int)from rfl,za,BitVec.getLsbD_and]
theorem afn(a:Int){i:Nat}(hi:64≤i):tbi a i=false:=BitVec.getLsbD_of_ge _ _ hi
theorem tbn(a b:Int)(i:Nat):tbi (aS .andNot .u64 a b) i=(tbi a i&&!tbi b i):=by
 by_cases h:i<64
 ·unfold tbi
  rw[show aS .andNot .u64 a b=IntKind.wrap .u64 ((BitVec.ofInt 64 a &&& ~~~BitVec.ofInt 64 b).toNat:Int)from rfl,za,BitVec.getLsbD_and,BitVec.getLsbD_not]
  simp[h]
 ·rw[afn _ (by omega),afn a (by omega),Bool.false_and]
theorem anB(_:B64 a)(_:B64 b)(i:Nat):tbi (aS .or .u64 a b) i=(tbi a i||tbi b i):=tbo a b i
theorem oE(i:Nat):tbi 0 i=false:=by simp[tbi]
theorem xN{x:Int}(h:B64 x):(BitVec.ofInt 64 x).toNat=x.toNat:=by
 obtain⟨h0,h1⟩:=h
 rw[BitVec.toNat_ofInt]
 have:x%((2 ^ 64:Nat):Int)=x:=Int.emod_eq_of_lt h0 (by simpa using h1)
 rw[this]
theorem adh(ha:B64 a)(hb:B64 b)(h:∀i,i<64→tbi a i=tbi b i):a=b:=by
 have e:BitVec.ofInt 64 a=BitVec.ofInt 64 b:=BitVec.eq_of_getLsbD_eq λi hi=>h i hi
 have:=congrArg BitVec.toNat e
 rw[xN ha,xN hb]at this
 have:=ha.1;have:=hb.1;omega
def uN(k:Nat):Int:=2 ^ k
variable {k:Nat}
theorem adi(h:k<64):B64 (uN k):=by
 unfold B64 uN
 have h1:(2:Int) ^ k≤2 ^ 63:=by
  have:=Nat.pow_le_pow_right (n:=2) (by decide) (show k≤63 by omega)
  exact_mod_cast this
 have h2:0<(2:Int) ^ k:=Int.pow_pos (by decide)
 omega
theorem wD{n:Int}(h0:0≤n)(h:n<64):IntKind.wrap .u64 ((1:Int)*2 ^ min n.toNat 64)=uN n.toNat:=by
 rw[Nat.min_eq_left (by omega),Int.one_mul]
 have:=adi (k:=n.toNat) (by omega)
 exact wrap_u64 this.1 this.2
theorem ahm(ha:B64 a)(i:Nat):tbi a i=a.toNat.testBit i:=by
 unfold tbi;rw[←BitVec.testBit_toNat,xN ha]
theorem sD(k i:Nat)(hk:k<64):tbi (uN k) i=decide (i=k):=by
 rw[ahm (adi hk)]
 unfold uN
 rw[show((2:Int) ^ k).toNat=2 ^ k by rw[show(2:Int) ^ k=((2 ^ k:Nat):Int)by simp];rfl,Nat.testBit_two_pow]
 by_cases h:i=k
 ·subst h;simp
 ·simp[h,Ne.symm h]
theorem yt:B64 0:=by unfold B64;omega
theorem aqJ(ha:B64 a)(h:a≠0):∃i,i<64∧tbi a i=true:=by
 refine Classical.byContradiction λhn=>h (adh ha yt λi hi=>?_)
 rw[oE]
 cases hb:tbi a i with
 |false=>rfl
 |true=>exact absurd ⟨i,hi,hb⟩ hn
theorem fdiv_pow(a:Int)(k:Nat):Int.fdiv a (2 ^ k)=a / ((2 ^ k:Nat):Int):=by
 rw[Int.fdiv_eq_ediv_of_nonneg _ (Int.le_of_lt (Int.pow_pos (by decide)))];simp
theorem aqK(a:Int)(hk:k<64):tbi (Int.fdiv a (2 ^ k)) 0=tbi a k:=by
 unfold tbi
 rw[fdiv_pow,←BitVec.testBit_toNat,←BitVec.testBit_toNat,BitVec.toNat_ofInt,BitVec.toNat_ofInt]
 generalize hm:a%((2 ^ 64:Nat):Int)=m
 have h0:0≤m:=by rw[←hm];exact Int.emod_nonneg _ (by decide)
 have hd:a=((2 ^ 64:Nat):Int)*(a / ((2 ^ 64:Nat):Int))+m:=by rw[←hm];exact(Int.mul_ediv_add_emod a _).symm
 have hp:((2 ^ 64:Nat):Int)=((2 ^ k:Nat):Int)*((2 ^ (63-k):Nat):Int)*2:=by
  rw[←Int.natCast_mul,←Nat.pow_add,show k+(63-k)=63 by omega];rfl
 have e1:a / ((2 ^ k:Nat):Int)=((2 ^ (63-k):Nat):Int)*2*(a / ((2 ^ 64:Nat):Int))+m / ((2 ^ k:Nat):Int):=by
  generalize a / ((2 ^ 64:Nat):Int)=q at hd
  rw[hd,hp,Int.mul_assoc ((2 ^ k:Nat):Int),Int.mul_assoc ((2 ^ k:Nat):Int),Int.mul_add_ediv_left _ _ (by have:=Nat.pow_pos (n:=k) (show 0<2 by decide);omega)]
 have e2:(m / ((2 ^ k:Nat):Int))=((m.toNat / 2 ^ k:Nat):Int):=by
  rw[Int.natCast_ediv,Int.toNat_of_nonneg h0]
 rw[e1,e2,Nat.testBit_zero]
 rw[show m.toNat.testBit k=decide (m.toNat / 2 ^ k%2=1)by rw[Nat.testBit_eq_decide_div_mod_eq]]
 congr 1
 generalize m.toNat / 2 ^ k=c
 generalize a / ((2 ^ 64:Nat):Int)=q
 generalize ((2 ^ (63-k):Nat):Int)=z
 have:(z*2*q+(c:Int))%((2 ^ 64:Nat):Int)%2=(c:Int)%2:=by
  rw[Int.emod_emod_of_dvd _ (by decide),Int.mul_comm z 2,Int.mul_assoc,Int.mul_add_emod_self_left]
 have h64:0≤(z*2*q+(c:Int))%((2 ^ 64:Nat):Int):=Int.emod_nonneg _ (by decide)
 generalize (z*2*q+(c:Int))%((2 ^ 64:Nat):Int)=y at this h64
 apply propext
 omega
theorem air(a:Int){n:Int}(h0:0≤n)(h:n<64):aS .and .u64 (Int.fdiv a (2 ^ min n.toNat 64)) 1=if tbi a n.toNat then 1 else 0:=by
 rw[Nat.min_eq_left (by omega)]
 have h1:B64 1:=by unfold B64;omega
 refine adh anA (by split<;>(unfold B64;omega)) λi _=>?_
 rw[tba]
 have ho:tbi 1 i=decide (i=0):=sD 0 i (by omega)
 rw[ho]
 by_cases hi:i=0
 ·subst hi
  rw[aqK a (by omega)]
  cases tbi a n.toNat
  ·simp[oE]
  ·simp[show tbi 1 0=true from sD 0 0 (by omega)]
 ·simp only[hi,decide_false,Bool.and_false]
  split
  ·rw[ho];simp[hi]
  ·rw[oE]
end Go.Proofs.YtdjeacigeegklaaGreat
