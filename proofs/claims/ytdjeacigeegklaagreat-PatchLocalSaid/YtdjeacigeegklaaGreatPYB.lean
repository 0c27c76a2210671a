/- Plain: the bits of a number of 64 bits. No condition. -/
import Derived.Test.YtdjeacigeegklaaGreatPM
namespace Go.Proofs.YtdjeacigeegklaaGreat
set_option linter.all false
open Go
def B64(x:Int):Prop:=0≤x∧x<18446744073709551616
def tbi(x:Int)(i:Nat):Bool:=(BitVec.ofInt 64 x).getLsbD i
theorem ae5(n:Int):IntKind.wrap .u64 n=n%18446744073709551616:=by
 simp[IntKind.wrap,IntKind.bits,IntKind.signed]
theorem wrap_u64{n:Int}(h0:0≤n)(h:n<18446744073709551616):IntKind.wrap .u64 n=n:=by
 rw[ae5];omega
theorem al2(a:BitVec 64):((a.toNat:Nat):Int)<18446744073709551616:=by
 have:=a.isLt;omega
theorem vX(a:BitVec 64):BitVec.ofInt 64 (IntKind.wrap .u64 (a.toNat:Int))=a:=by
 rw[wrap_u64 (by omega) (al2 a)]
 apply BitVec.eq_of_toNat_eq
 rw[BitVec.toNat_ofInt]
 have:=al2 a
 omega
variable {a b:Int}
theorem azm:B64 (aS .and .u64 a b):=by
 unfold aS B64;simp only;rw[ae5];omega
theorem aka:B64 (aS .andNot .u64 a b):=by
 unfold aS B64;simp only;rw[ae5];omega
theorem tbo(a b:Int)(i:Nat):tbi (aS .or .u64 a b) i=(tbi a i||tbi b i):=by
 unfold tbi
 rw[show aS .or .u64 a b=IntKind.wrap .u64 ((BitVec.ofInt 64 a ||| BitVec.ofInt 64 b).toNat:Int)from rfl,vX,BitVec.getLsbD_or]
theorem tba(a b:Int)(i:Nat):tbi (aS .and .u64 a b) i=(tbi a i&&tbi b i):=by
 unfold tbi
 rw[show aS .and .u64 a b=IntKind.wrap .u64 ((BitVec.ofInt 64 a &&& BitVec.ofInt 64 b).toNat:Int)from rfl,vX,BitVec.getLsbD_and]
theorem ae6(a:Int){i:Nat}(hi:64≤i):tbi a i=false:=BitVec.getLsbD_of_ge _ _ hi
theorem tbn(a b:Int)(i:Nat):tbi (aS .andNot .u64 a b) i=(tbi a i&&!tbi b i):=by
 by_cases h:i<64
 ·unfold tbi
  rw[show aS .andNot .u64 a b=IntKind.wrap .u64 ((BitVec.ofInt 64 a &&& ~~~BitVec.ofInt 64 b).toNat:Int)from rfl,vX,BitVec.getLsbD_and,BitVec.getLsbD_not]
  simp[h]
 ·rw[ae6 _ (by omega),ae6 a (by omega),Bool.false_and]
theorem vg(i:Nat):tbi 0 i=false:=by simp[tbi]
theorem uI{x:Int}(h:B64 x):(BitVec.ofInt 64 x).toNat=x.toNat:=by
 obtain⟨h0,h1⟩:=h
 rw[BitVec.toNat_ofInt]
 have:x%((2 ^ 64:Nat):Int)=x:=Int.emod_eq_of_lt h0 (by simpa using h1)
 rw[this]
theorem af9(ha:B64 a)(hb:B64 b)(h:∀i,i<64→tbi a i=tbi b i):a=b:=by
 have e:BitVec.ofInt 64 a=BitVec.ofInt 64 b:=BitVec.eq_of_getLsbD_eq λi hi=>h i hi
 have:=congrArg BitVec.toNat e
 rw[uI ha,uI hb]at this
 have:=ha.1;have:=hb.1;omega
def uJ(k:Nat):Int:=2 ^ k
theorem aga{k:Nat}(h:k<64):B64 (uJ k):=by
 unfold B64 uJ
 have h1:(2:Int) ^ k≤2 ^ 63:=by
  have:=Nat.pow_le_pow_right (n:=2) (by decide) (show k≤63 by omega)
  exact_mod_cast this
 have h2:0<(2:Int) ^ k:=Int.pow_pos (by decide)
 omega
theorem zn{n:Int}(h0:0≤n)(h:n<64):IntKind.wrap .u64 ((1:Int)*2 ^ min n.toNat 64)=uJ n.toNat:=by
 rw[Nat.min_eq_left (by omega),Int.one_mul]
 have:=aga (k:=n.toNat) (by omega)
 exact wrap_u64 this.1 this.2
theorem adX(ha:B64 a)(i:Nat):tbi a i=a.toNat.testBit i:=by
 unfold tbi;rw[←BitVec.testBit_toNat,uI ha]
theorem aaU(k i:Nat)(hk:k<64):tbi (uJ k) i=decide (i=k):=by
 rw[adX (aga hk)]
 unfold uJ
 rw[show((2:Int) ^ k).toNat=2 ^ k by rw[show(2:Int) ^ k=((2 ^ k:Nat):Int)by simp];rfl,Nat.testBit_two_pow]
 by_cases h:i=k
 ·subst h;simp
 ·simp[h,Ne.symm h]
theorem agb:B64 0:=by unfold B64;omega
theorem apZ(ha:B64 a)(h:a≠0):∃i,i<64∧tbi a i=true:=by
 refine Classical.byContradiction λhn=>h (af9 ha agb λi hi=>?_)
 rw[vg]
 cases hb:tbi a i with
 |false=>rfl
 |true=>exact absurd ⟨i,hi,hb⟩ hn
end Go.Proofs.YtdjeacigeegklaaGreat
