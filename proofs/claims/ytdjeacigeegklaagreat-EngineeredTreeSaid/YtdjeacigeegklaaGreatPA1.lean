/- Several texts in one. No condition but those that stand in each. -/
import Derived.Test.YtdjeacigeegklaaGreatPM
namespace Go.Proofs.YtdjeacigeegklaaGreat
set_option linter.all false
open Go
def fO(t:bJ):Prop:=0≤t.At∧t.At≤t.L.length∧t.L.length≤2000
theorem aeY(n:Int):w64 n≤9223372036854775807∧-9223372036854775808≤w64 n:=by
 unfold w64
 rw[IntKind.wrap_i64];omega
theorem arS(l:List Int):Ok (jq l) fO:=by
 unfold jq
 refine Ok.bnd (uc ⟨by omega,?_,?_⟩) λm hm=>Ok.s ⟨by simp,by simp,?_⟩
 ·split<;>omega
 ·split<;>omega
 ·have:=hm.2;simp only;split at this<;>omega
variable {t:bJ}
theorem arT(h:fO t):Ok (gz t) (λp=>fO p.2):=by
 obtain⟨h0,h1,h2⟩:=h
 unfold gz
 refine Ok.cs (λ_=>Ok.s ⟨h0,h1,h2⟩) λhc=>?_
 simp at hc
 have e:w64 (t.At+1)=t.At+1:=gh (by omega) (by omega)
 rw[e,gh (by omega) (by omega)]
 refine Ok.bnd (lU (by omega) (by omega)) λa _=>Ok.s ⟨?_,?_,h2⟩<;>show _<;>simp<;>omega
theorem arU{x n:Int}(hn:n≤9223372036854775807):Ok (jr x n) (λr=>0≤r∧(1≤n→r<n)∧(n<1→r=0)):=by
 unfold jr
 refine Ok.cs (λh=>Ok.s ?_) λh=>?_
 ·simp at h;omega
 have h:1≤n:=by simpa using h
 have h1:Int.tmod x n<n:=Int.tmod_lt_of_pos _ (by omega)
 have h2 : -n<Int.tmod x n:=Int.lt_tmod_of_pos _ (by omega)
 refine Ok.chk (by simp;omega) ?_
 refine Ok.jn (λr=>0≤r∧r<n) (λs hs=>Ok.s ⟨hs.1,λ_=>hs.2,by omega⟩) λJ hJ=>?_
 refine Ok.cs (λhc=>hJ _ ?_) λhc=>hJ _ ?_
 ·simp at hc;rw[gh (by omega) (by omega)];omega
 ·simp at hc;omega
theorem f_n{n:Int}(h:fO t)(hn:n≤9223372036854775807):Ok (cc t n) (λp=>(0≤p.1∧(1≤n→p.1<n)∧(n<1→p.1=0))∧fO p.2):=by
 unfold cc
 exact Ok.bnd (arT h) λp hp=>Ok.bnd (arU hn) λr hr=>Ok.s ⟨hr,hp⟩
theorem zV{low high:Int}(h:fO t):Ok (eo t low high) (λp=>(-2305843009213693952≤low→low≤high→high<2305843009213693952→low≤p.1∧p.1≤high)∧fO p.2):=by
 unfold eo
 refine Ok.bnd (f_n h (aeY _).1) λp hp=>Ok.s ⟨λh1 h2 h3=>?_,hp.2⟩
 obtain⟨⟨q1,q2,_⟩,_⟩:=hp
 rw[gh (n:=high-low) (by omega) (by omega),gh (n:=high-low+1) (by omega) (by omega)]at q2
 show low≤w64 (low+p.1)∧w64 (low+p.1)≤high
 rw[gh (by omega) (by omega)];omega
theorem y5{l:List Int}(h:fO t)(h0:1≤l.length)(h1:l.length≤1000000):Ok (dS t l) (λp=>p.1∈l∧fO p.2):=by
 unfold dS
 refine Ok.bnd (f_n h (by omega)) λp hp=>?_
 exact Ok.bnd (lU hp.1.1 (hp.1.2.1 (by omega))) λa ha=>Ok.s ⟨ha.1,hp.2⟩
theorem adU(l:List Int)(n:Int):eR l n=some (decide (n∈l)):=by
 unfold eR
 rw[iJ (λx=>decide (x=n)) (some true) (λj x Z s=>rfl) l 0 (),akU]
 by_cases h:n∈l<;>simp[h]
theorem aoH(a b:List Int):iY a b=some (decide (a=b)):=by
 unfold iY
 by_cases hl:a.length=b.length
 ·rw[show(!decide ((a.length:Int)=(b.length:Int)))=false by simp[hl],cond_false]
  have key:=abF (L:=a) (f:=λp l (_:Unit)=>some (decide (l=b.drop p.length))) (K:=λsg:Unit=>match sg with|()=>some true) (B:=λ(j1:Int) (e1:Int) (Z1:Unit→Option _) (sg:Unit)=>match sg with|()=>bnd (elO b (j1:Int)) λ(e_1:Int)=>bif !decide (e1=e_1)then some false else Z1 ())
   (λs=>by rw[List.drop_of_length_le (by omega)];rfl) (λp x r s Z hp hZ=>by
    have hlt:p.length<b.length:=by rw[←hl,←hp];simp
    simp only[elO,if_pos (Int.natCast_nonneg _),Int.toNat_natCast,List.getElem?_eq_getElem hlt,bn]
    rw[List.drop_eq_getElem_cons hlt]
    by_cases hx:x=b[p.length]
    ·simp only[hx,decide_true,Bool.not_true,cond_false,hZ,List.length_append,List.length_singleton,List.cons.injEq,true_and]
    ·rw[decide_eq_false hx,Bool.not_false,cond_true,decide_eq_false (λh=>hx (List.cons.inj h).1)]) a [] () rfl
  simpa using key
 ·rw[show(!decide ((a.length:Int)=(b.length:Int)))=true by simp;omega,cond_true]
  rw[decide_eq_false (λh=>hl (by rw[h]))]
def iq:List Int→Int→List Int
 |[],x=>[x]
 |y::r,x=>if y<x then y::iq r x else if y=x then y::r else x::y::r
theorem sy:∀{l:List Int} {x y:Int},y∈iq l x↔y=x∨y∈l
 |[],x,y=>by simp[iq]
 |z::r,x,y=>by
  rw[iq]
  split
  ·rw[List.mem_cons,sy,List.mem_cons]
   constructor
   ·rintro(h|h|h)<;>simp[h]
   ·rintro(h|h|h)<;>simp[h]
  ·split
   ·rename_i h;subst h;simp
   ·simp
theorem zW:∀{l:List Int} {x:Int},l.Pairwise (·<·)→(iq l x).Pairwise (·<·)
 |[],x,_=>by simp[iq]
 |z::r,x,h=>by
  rw[iq]
  rw[List.pairwise_cons]at h
  split
  ·rw[List.pairwise_cons]
   refine⟨λy hy=>?_,zW h.2⟩
   rcases sy.1 hy with rfl|hy
   ·assumption
   ·exact h.1 y hy
  ·split
   ·exact List.pairwise_cons.2 h
   ·rw[List.pairwise_cons]
    refine⟨λy hy=>?_,List.pairwise_cons.2 h⟩
    rcases List.mem_cons.1 hy with rfl|hy
    ·omega
    ·have:=h.1 y hy;omega
theorem uO:∀(l:List Int) (x:Int),(iq l x).length≤l.length+1
 |[],x=>by simp[iq]
 |z::r,x=>by
  rw[iq]
  have:=uO r x
  split
  ·simp;omega
  ·split<;>simp
theorem acR:∀(p r:List Int) (x:Int),(∀y∈p,y<x)→(∀y∈r.head?,x≤y)→iq (p++r) x=if r.head?=some x then p++r else p++x::r
 |[],r,x,_,h=>by
  cases r with
  |nil=>simp[iq]
  |cons y r=>
   have:=h y (by simp)
   simp only[List.nil_append,iq,if_neg (show ¬y<x by omega),List.head?_cons,Option.some.injEq]
 |z::p,r,x,hp,h=>by
  have:=hp z (by simp)
  rw[List.cons_append,iq,if_pos this,acR p r x (λy hy=>hp y (by simp[hy])) h]
  split<;>rfl
theorem ahY(l:List Int)(x:Int)(hl:l.length≤100000):gn l x=some (iq l x):=by
 unfold gn
 refine Ok.eq (Ok.whl (λk:Int=>0≤k∧k≤l.length∧∀y∈l.take k.toNat,y<x) (λk:Int=>((l.length:Int)-k).toNat) ⟨by omega,by omega,by simp⟩ (by omega) ?_)
 rintro k Z ⟨h0,h1,h2⟩ hZ
 refine Ok.jn (λv:Bool=>(v=true↔∃y∈(l.drop k.toNat).head?,y<x)) ?_ ?_
 ·intro v hv
  refine Ok.cs (λh=>?_) λh=>?_
  ·obtain⟨y,hy,hyx⟩:=hv.1 h
   have hlt:k.toNat<l.length:=by
    cases hd:l.drop k.toNat with
    |nil=>rw[hd]at hy;simp at hy
    |cons z r=>have:=congrArg List.length hd;simp at this;omega
   rw[gh (by omega) (by omega)]
   refine hZ _ ⟨by omega,by omega,λz hz=>?_⟩ (by omega)
   rw[show(k+1).toNat=k.toNat+1 by omega,List.take_succ]at hz
   rcases List.mem_append.1 hz with hz|hz
   ·exact h2 z hz
   ·rw[List.head?_drop]at hy
    have e:l[k.toNat]?=some z:=by simpa using hz
    have e2:l[k.toNat]?=some y:=hy
    rw[e]at e2;cases e2;exact hyx
  ·have hno:∀y∈(l.drop k.toNat).head?,x≤y:=λy hy=>by
    have:¬y<x:=λhh=>by rw[hv.2 ⟨y,hy,hh⟩]at h;cases h
    omega
   have key:=acR (l.take k.toNat) (l.drop k.toNat) x h2 hno
   rw[List.take_append_drop]at key
   refine Ok.jn (λv:Bool=>(v=true↔(l.drop k.toNat).head?=some x)) ?_ ?_
   ·intro v2 hv2
    refine Ok.cs (λh2=>Ok.s ?_) λh2=>?_
    ·rw[key,if_pos (hv2.1 h2)]
    ·have hne:¬(l.drop k.toNat).head?=some x:=λhh=>by rw[hv2.2 hh]at h2;cases h2
     rw[if_neg hne]at key
     refine Ok.bnd (uc ⟨by omega,by omega,by omega⟩) λl1 q1=>?_
     refine Ok.bnd (qq (by simp;omega)) λl2 q2=>?_
     refine Ok.bnd (uc ⟨by omega,by omega,by omega⟩) λl3 q3=>?_
     refine Ok.bnd (qq (by simp at q2 q3 q1 ⊢;omega)) λl4 q4=>Ok.s ?_
     rw[q4.1,q3.1,q2.1,q1.1,key]
     simp
   ·intro J hJ
    refine Ok.cs (λhc=>?_) λhc=>hJ _ ?_
    ·simp at hc
     refine Ok.bnd (lU h0 hc) λe he=>hJ _ ?_
     rw[List.head?_drop,he.2];simp
    ·simp at hc
     rw[List.drop_of_length_le (by omega)];simp
 ·intro J hJ
  refine Ok.cs (λhc=>?_) λhc=>hJ _ ?_
  ·simp at hc
   refine Ok.bnd (lU h0 hc) λe he=>hJ _ ?_
   rw[List.head?_drop,he.2];simp
  ·simp at hc
   rw[List.drop_of_length_le (by omega)];simp
end Go.Proofs.YtdjeacigeegklaaGreat
namespace Go.Proofs.YtdjeacigeegklaaGreat
set_option linter.all false
open Go
def B64(x:Int):Prop:=0≤x∧x<18446744073709551616
def tbi(x:Int)(i:Nat):Bool:=(BitVec.ofInt 64 x).getLsbD i
theorem aa2(n:Int):IntKind.wrap .u64 n=n%18446744073709551616:=by
 simp[IntKind.wrap,IntKind.bits,IntKind.signed]
theorem wrap_u64{n:Int}(h0:0≤n)(h:n<18446744073709551616):IntKind.wrap .u64 n=n:=by
 rw[aa2];omega
theorem ahZ(a:BitVec 64):((a.toNat:Nat):Int)<18446744073709551616:=by
 have:=a.isLt;omega
theorem uP(a:BitVec 64):BitVec.ofInt 64 (IntKind.wrap .u64 (a.toNat:Int))=a:=by
 rw[wrap_u64 (by omega) (ahZ a)]
 apply BitVec.eq_of_toNat_eq
 rw[BitVec.toNat_ofInt]
 have:=ahZ a
 omega
variable {a b:Int}
theorem aoI:B64 (bX .or .u64 a b):=by
 unfold bX B64;simp only;rw[aa2];omega
theorem ah0:B64 (bX .and .u64 a b):=by
 unfold bX B64;simp only;rw[aa2];omega
theorem agN:B64 (bX .andNot .u64 a b):=by
 unfold bX B64;simp only;rw[aa2];omega
theorem tbo(a b:Int)(i:Nat):tbi (bX .or .u64 a b) i=(tbi a i||tbi b i):=by
 unfold tbi
 rw[show bX .or .u64 a b=IntKind.wrap .u64 ((BitVec.ofInt 64 a ||| BitVec.ofInt 64 b).toNat:Int)from rfl,uP,BitVec.getLsbD_or]
theorem tba(a b:Int)(i:Nat):tbi (bX .and .u64 a b) i=(tbi a i&&tbi b i):=by
 unfold tbi
 rw[show bX .and .u64 a b=IntKind.wrap .u64 ((BitVec.ofInt 64 a &&& BitVec.ofInt 64 b).toNat:Int)from rfl,uP,BitVec.getLsbD_and]
theorem aa3(a:Int){i:Nat}(hi:64≤i):tbi a i=false:=BitVec.getLsbD_of_ge _ _ hi
theorem tbn(a b:Int)(i:Nat):tbi (bX .andNot .u64 a b) i=(tbi a i&&!tbi b i):=by
 by_cases h:i<64
 ·unfold tbi
  rw[show bX .andNot .u64 a b=IntKind.wrap .u64 ((BitVec.ofInt 64 a &&& ~~~BitVec.ofInt 64 b).toNat:Int)from rfl,uP,BitVec.getLsbD_and,BitVec.getLsbD_not]
  simp[h]
 ·rw[aa3 _ (by omega),aa3 a (by omega),Bool.false_and]
theorem ah1(_:B64 a)(_:B64 b)(i:Nat):tbi (bX .or .u64 a b) i=(tbi a i||tbi b i):=tbo a b i
theorem mE(i:Nat):tbi 0 i=false:=by simp[tbi]
theorem tF{x:Int}(h:B64 x):(BitVec.ofInt 64 x).toNat=x.toNat:=by
 obtain⟨h0,h1⟩:=h
 rw[BitVec.toNat_ofInt]
 have:x%((2 ^ 64:Nat):Int)=x:=Int.emod_eq_of_lt h0 (by simpa using h1)
 rw[this]
theorem abS(ha:B64 a)(hb:B64 b)(h:∀i,i<64→tbi a i=tbi b i):a=b:=by
 have e:BitVec.ofInt 64 a=BitVec.ofInt 64 b:=BitVec.eq_of_getLsbD_eq λi hi=>h i hi
 have:=congrArg BitVec.toNat e
 rw[tF ha,tF hb]at this
 have:=ha.1;have:=hb.1;omega
def qI(k:Nat):Int:=2 ^ k
variable {k:Nat}
theorem y6(h:k<64):B64 (qI k):=by
 unfold B64 qI
 have h1:(2:Int) ^ k≤2 ^ 63:=by
  have:=Nat.pow_le_pow_right (n:=2) (by decide) (show k≤63 by omega)
  exact_mod_cast this
 have h2:0<(2:Int) ^ k:=Int.pow_pos (by decide)
 omega
theorem abT{n:Int}(h0:0≤n)(h:n<64):IntKind.wrap .u64 ((1:Int)*2 ^ min n.toNat 64)=qI n.toNat:=by
 rw[Nat.min_eq_left (by omega),Int.one_mul]
 have:=y6 (k:=n.toNat) (by omega)
 exact wrap_u64 this.1 this.2
theorem acS(ha:B64 a)(i:Nat):tbi a i=a.toNat.testBit i:=by
 unfold tbi;rw[←BitVec.testBit_toNat,tF ha]
theorem qd(k i:Nat)(hk:k<64):tbi (qI k) i=decide (i=k):=by
 rw[acS (y6 hk)]
 unfold qI
 rw[show((2:Int) ^ k).toNat=2 ^ k by rw[show(2:Int) ^ k=((2 ^ k:Nat):Int)by simp];rfl,Nat.testBit_two_pow]
 by_cases h:i=k
 ·subst h;simp
 ·simp[h,Ne.symm h]
theorem y7:B64 0:=by unfold B64;omega
theorem ak7(ha:B64 a)(h:a≠0):∃i,i<64∧tbi a i=true:=by
 refine Classical.byContradiction λhn=>h (abS ha y7 λi hi=>?_)
 rw[mE]
 cases hb:tbi a i with
 |false=>rfl
 |true=>exact absurd ⟨i,hi,hb⟩ hn
theorem fdiv_pow(a:Int)(k:Nat):Int.fdiv a (2 ^ k)=a / ((2 ^ k:Nat):Int):=by
 rw[Int.fdiv_eq_ediv_of_nonneg _ (Int.le_of_lt (Int.pow_pos (by decide)))];simp
theorem ak8(a:Int)(hk:k<64):tbi (Int.fdiv a (2 ^ k)) 0=tbi a k:=by
 unfold tbi
 rw[fdiv_pow,←BitVec.testBit_toNat,←BitVec.testBit_toNat,BitVec.toNat_ofInt,BitVec.toNat_ofInt]
 generalize hm:a%((2 ^ 64:Nat):Int)=m
 have h0:0≤m:=by rw[←hm];exact Int.emod_nonneg _ (by decide)
 have hd:a=((2 ^ 64:Nat):Int)*(a / ((2 ^ 64:Nat):Int))+m:=by rw[←hm];exact(Int.mul_ediv_add_emod a _).symm
 have hp:((2 ^ 64:Nat):Int)=((2 ^ k:Nat):Int)*((2 ^ (63-k):Nat):Int)*2:=by
  rw[←Int.natCast_mul,←Nat.pow_add,show k+(63-k)=63 by omega];rfl
 have e1:a / ((2 ^ k:Nat):Int)=((2 ^ (63-k):Nat):Int)*2*(a / ((2 ^ 64:Nat):Int))+m / ((2 ^ k:Nat):Int):=by
  generalize a / ((2 ^ 64:Nat):Int)=q at hd
  rw[hd,hp,Int.mul_assoc ((2 ^ k:Nat):Int),Int.mul_assoc ((2 ^ k:Nat):Int),Int.mul_add_ediv_left _ _ (by have:=Nat.pow_pos (n:=k) (show 0<2 by decide);omega)]
 have e2:(m / ((2 ^ k:Nat):Int))=((m.toNat / 2 ^ k:Nat):Int):=by
  rw[Int.natCast_ediv,Int.toNat_of_nonneg h0]
 rw[e1,e2,Nat.testBit_zero]
 rw[show m.toNat.testBit k=decide (m.toNat / 2 ^ k%2=1)by rw[Nat.testBit_eq_decide_div_mod_eq]]
 congr 1
 generalize m.toNat / 2 ^ k=c
 generalize a / ((2 ^ 64:Nat):Int)=q
 generalize ((2 ^ (63-k):Nat):Int)=z
 have:(z*2*q+(c:Int))%((2 ^ 64:Nat):Int)%2=(c:Int)%2:=by
  rw[Int.emod_emod_of_dvd _ (by decide),Int.mul_comm z 2,Int.mul_assoc,Int.mul_add_emod_self_left]
 have h64:0≤(z*2*q+(c:Int))%((2 ^ 64:Nat):Int):=Int.emod_nonneg _ (by decide)
 generalize (z*2*q+(c:Int))%((2 ^ 64:Nat):Int)=y at this h64
 apply propext
 omega
theorem ah2(a:Int){n:Int}(h0:0≤n)(h:n<64):bX .and .u64 (Int.fdiv a (2 ^ min n.toNat 64)) 1=if tbi a n.toNat then 1 else 0:=by
 rw[Nat.min_eq_left (by omega)]
 have h1:B64 1:=by unfold B64;omega
 refine abS ah0 (by split<;>(unfold B64;omega)) λi _=>?_
 rw[tba]
 have ho:tbi 1 i=decide (i=0):=qd 0 i (by omega)
 rw[ho]
 by_cases hi:i=0
 ·subst hi
  rw[ak8 a (by omega)]
  cases tbi a n.toNat
  ·simp[mE]
  ·simp[show tbi 1 0=true from qd 0 0 (by omega)]
 ·simp only[hi,decide_false,Bool.and_false]
  split
  ·rw[ho];simp[hi]
  ·rw[mE]
end Go.Proofs.YtdjeacigeegklaaGreat
namespace Go.Proofs.YtdjeacigeegklaaGreat
set_option linter.all false
open Go
theorem jW{α σ β:Type}{B:Int→α→(σ→Option β)→σ→Option β}{K:σ→Option β}{L:List α}(I:List α→σ→Prop)(f:List α→List α→Option β)(hn:∀s,I L s→K s=f L [])
  (hc:∀p x r s Z,p++x::r=L→I p s→(∀s',I (p++[x]) s'→Z s'=f (p++[x]) r)→B (p.length:Int) x Z s=f p (x::r)):∀(l p:List α) (s:σ),p++l=L→I p s→bH l p.length B K s=f p l
 |[],p,s,h,hi=>by rw[List.append_nil]at h;subst h;exact hn s hi
 |x::r,p,s,h,hi=>hc p x r s _ h hi λs' hs=>by
   have:=jW (B:=B) (K:=K) I f hn hc r (p++[x]) s' (by simpa using h) hs
   rw[List.length_append]at this
   exact this
variable {α:Type}{L:List α}
theorem ak9{p r:List α}{x:α}(h:p++x::r=L):oh L 0 (p.length:Int)=some p:=by
 unfold oh
 rw[if_pos ⟨by omega,by omega,by rw[←h];simp;omega⟩,←h]
 simp
def j9(n:Int):Bool:=decide (n=8)||(decide (n=16)||(decide (n=32)||decide (n=64)))
def rtB(n:Int):Bool:=decide (1≤n)&&decide (n≤99)
def wz(n:Int)(a:az):Bool:=decide (a.Bit<0)||(decide (n≤a.Bit)||(!rtB a.aR||!rtB a.To))
def yg(a:az):Bool:=decide (a.Kind<1)||decide (3<a.Kind)
def yh(a:az):Bool:=!(decide (a.To=a.aR)==decide (a.Kind=3))
def ltA(a b:az):Bool:=decide (a.Bit<b.Bit)
def pJ(a b:az):Bool:=decide (a.aR=b.aR)&&(decide (a.Kind=b.Kind)&&decide (a.To=b.To))
def tG{α:Type}(q:α→α→Bool):List α→List α→Bool
 |_,[]=>false
 |p,x::r=>p.any (q x)||tG q (p++[x]) r
def ou(e:aI):Int:=
 bif !j9 e.Length||e.List.any (wz e.Length)then 2 else bif e.List.any yg then 1 else bif e.List.any yh then 8 else bif iK ltA e.List then(bif tG pJ [] e.List then 5 else 0)else 25
variable {β:Type}
theorem abU{B:Int→α→(Bool→Option β)→Bool→Option β}{K:Bool→Option β}(p:α→Bool)(hB:∀j x Z s,B j x Z s=Z (s&&!p x))(l:List α)(j:Nat)(s:Bool):bH l j B K s=K (s&&!l.any p):=
 ua (f:=λl s=>K (s&&!l.any p)) (λs=>by simp) (λj x r s Z hZ=>by
  rw[hB,hZ,List.any_cons];cases s<;>cases p x<;>simp) l j s
theorem agO{κ:Type}{q:κ→κ→Bool}(hq:∀a b,q a b=true↔a=b)(l:List (κ×α))(n m:κ)(b:α):iC q (nG q l n b) m=bif q m n then some b else iC q l m:=by
 induction l with
 |nil=>simp only[nG,iC,List.find?];cases q m n<;>rfl
 |cons p r ih=>
  simp only[nG]
  cases h1:q n p.1
  ·simp only[cond_false,iC,List.find?]at ih ⊢
   cases h2:q m p.1
   ·simpa using ih
   ·have e:=(hq _ _).1 h2
    have:q m n=false:=by
     cases h3:q m n
     ·rfl
     ·have:=(hq _ _).1 h3;subst this;subst e;rw[(hq _ _).2 rfl]at h1;cases h1
    simp[this]
  ·have e:=(hq _ _).1 h1
   simp only[cond_true,iC,List.find?]at ih ⊢
   subst e
   cases q m p.1<;>simp
theorem agP(a b:aD):cn a b=true↔a=b:=by
 cases a;cases b;simp[cn]
def tgA(a:az):aD:=aD.mk a.aR a.Kind a.To
variable {a:az}
theorem sW{b:az}:pJ a b=true↔tgA a=tgA b:=by simp[pJ,tgA]
theorem sA(e:aI)(hl:e.List.length≤1000000):fL e=some (ou e):=by
 unfold fL gd eM
 simp only[bn]
 unfold ou
 show(bif !j9 e.Length then _ else _)=_
 cases j9 e.Length
 ·rfl
 simp only[Bool.not_true,cond_false,Bool.false_or]
 refine(iJ (wz e.Length) (some 2) (λj x Z s=>by
  unfold wz rtB jn
  cases decide (x.Bit<0)
  ·cases decide (e.Length≤x.Bit)
   ·cases decide (1≤x.aR)&&decide (x.aR≤99)<;>rfl
   ·rfl
  ·rfl) _ _ _).trans ?_
 cases e.List.any (wz e.Length)
 ·simp only[cond_false]
  refine(iJ yg (some 1) (by intros;rfl) _ _ _).trans ?_
  cases e.List.any yg
  ·simp only[cond_false]
   refine(iJ yh (some 8) (by intros;rfl) _ _ _).trans ?_
   cases e.List.any yh
   ·simp only[cond_false]
    refine(oI ltA (some 25) (λj x y r q s Z hL hj=>by
     simp only[nh hL hj (by omega),bn,ltA]
     by_cases h:y.Bit<x.Bit
     ·have:¬x.Bit≤y.Bit:=by omega
      simp[h,this]
     ·have:x.Bit≤y.Bit:=by omega
      simp[h,this]) _).trans ?_
    cases iK ltA e.List
    ·rfl
    ·simp only[cond_true,iF,bn]
     refine(jW (L:=e.List) (λp m=>∀t,(iC cn m t).getD false=true↔∃a∈p,tgA a=t) (λp l=>bif tG pJ p l then some 5 else some 0) (λs _=>rfl) (λp x r s Z h hi hZ=>?_) e.List [] [] rfl (λt=>by simp[iC])).trans ?_
     ·have hx:=hi (tgA x)
      rw[tG]
      cases hc:(iC cn s (aD.mk x.aR x.Kind x.To)).getD false
      ·have hno:p.any (pJ x)=false:=by
        rw[any_false]
        intro a ha
        cases hs:pJ x a
        ·rfl
        ·have h1:=hx.2 ⟨a,ha,(sW.1 hs).symm⟩
         exact absurd (hc.symm.trans h1) (by simp)
       rw[hno,cond_false,Bool.false_or]
       refine hZ _ λt=>?_
       rw[agO agP]
       cases ht:cn t (aD.mk x.aR x.Kind x.To)
       ·rw[cond_false,hi t]
        constructor
        ·rintro⟨a,ha,e⟩;exact⟨a,by simp[ha],e⟩
        ·rintro⟨a,ha,e⟩
         rcases List.mem_append.1 ha with ha|ha
         ·exact⟨a,ha,e⟩
         ·simp at ha;subst ha;exact absurd (ht.symm.trans ((agP t (tgA a)).2 e.symm)) (by simp)
       ·have:=(agP _ _).1 ht
        subst this
        simp only[cond_true,Option.getD_some,true_iff]
        exact⟨x,by simp,rfl⟩
      ·obtain⟨a,ha,e⟩:=hx.1 hc
       have:p.any (pJ x)=true:=List.any_eq_true.2 ⟨a,ha,sW.2 e.symm⟩
       rw[this];rfl
     ·cases tG pJ [] e.List<;>rfl
   ·rfl
  ·rfl
 ·rfl
structure Ve(e:aI):Prop where
 len:e.Length=8∨e.Length=16∨e.Length=32∨e.Length=64
 rng:∀a∈e.List,0≤a.Bit∧a.Bit<e.Length∧(1≤a.aR∧a.aR≤99)∧1≤a.To∧a.To≤99
 kind:∀a∈e.List,1≤a.Kind∧a.Kind≤3
 adV:∀a∈e.List,a.To=a.aR↔a.Kind=3
 asc:e.List.Pairwise λa b=>a.Bit<b.Bit
 dup:e.List.Pairwise λa b=>tgA a≠tgA b
theorem yj{α:Type}{q:α→α→Bool}:∀{l p:List α},tG q p l=false↔(∀a∈p,∀b∈l,q b a=false)∧l.Pairwise λa b=>q b a=false
 |[],p=>by simp[tG]
 |x::r,p=>by
  rw[tG,Bool.or_eq_false_iff,yj,any_false,List.pairwise_cons]
  constructor
  ·rintro⟨h1,h2,h3⟩
   refine⟨λa ha b hb=>?_,λb hb=>h2 x (by simp) b hb,h3⟩
   rcases List.mem_cons.1 hb with rfl|hb
   ·exact h1 a ha
   ·exact h2 a (by simp[ha]) b hb
  ·rintro⟨h1,h2,h3⟩
   refine⟨λa ha=>h1 a ha x (by simp),λa ha b hb=>?_,h3⟩
   rcases List.mem_append.1 ha with ha|ha
   ·exact h1 a ha b (by simp[hb])
   ·simp at ha;subst ha;exact h2 b hb
theorem aeZ(a b c:az)(h1:ltA a b=true)(h2:ltA b c=true):ltA a c=true:=by simp[ltA]at *;omega
theorem abV{n:Int}:wz n a=false↔0≤a.Bit∧a.Bit<n∧(1≤a.aR∧a.aR≤99)∧1≤a.To∧a.To≤99:=by
 simp[wz,rtB]
theorem abW:yg a=false↔1≤a.Kind∧a.Kind≤3:=by simp[yg]
theorem abX:yh a=false↔(a.To=a.aR↔a.Kind=3):=by
 unfold yh
 by_cases h1:a.To=a.aR<;>by_cases h2:a.Kind=3<;>simp[h1,h2]
theorem pK{e:aI}:ou e=0↔Ve e:=by
 unfold ou
 constructor
 ·intro h
  cases h1:j9 e.Length with
  |false=>simp[h1]at h
  |true=>
  cases h2:e.List.any (wz e.Length)with
  |true=>simp[h1,h2]at h
  |false=>
  cases h3:e.List.any yg with
  |true=>simp[h1,h2,h3]at h
  |false=>
  cases h4:e.List.any yh with
  |true=>simp[h1,h2,h3,h4]at h
  |false=>
  cases h5:iK ltA e.List with
  |false=>simp[h1,h2,h3,h4,h5]at h
  |true=>
  cases h6:tG pJ [] e.List with
  |true=>simp[h1,h2,h3,h4,h5,h6]at h
  |false=>
  rw[any_false]at h2 h3 h4
  refine⟨by simpa [j9]using h1,λa ha=>abV.1 (h2 a ha),λa ha=>abW.1 (h3 a ha),λa ha=>abX.1 (h4 a ha),?_,?_⟩
  ·exact(ni aeZ h5).imp (λh=>by simpa [ltA]using h)
  ·exact(yj.1 h6).2.imp (λ{a b} h e=>by rw[sW.2 e.symm]at h;cases h)
 ·intro h
  have h1:j9 e.Length=true:=by simpa [j9]using h.len
  have h2:e.List.any (wz e.Length)=false:=any_false.2 λa ha=>abV.2 (h.rng a ha)
  have h3:e.List.any yg=false:=any_false.2 λa ha=>abW.2 (h.kind a ha)
  have h4:e.List.any yh=false:=any_false.2 λa ha=>abX.2 (h.adV a ha)
  have h5:iK ltA e.List=true:=jT (h.asc.imp λh=>by simpa [ltA]using h)
  have h6:tG pJ [] e.List=false:=yj.2 ⟨by simp,h.dup.imp λ{a b} h=>by
   cases hs:pJ b a
   ·rfl
   ·exact absurd (sW.1 hs).symm h⟩
  simp[h1,h2,h3,h4,h5,h6]
def uQ(r:Int)(a:Int)(x:az):Int:=if x.aR=r then bX .or .u64 a (qI x.Bit.toNat)else a
def sB(e:aI)(r:Int):Int:=if ou e=0 then e.List.foldl (uQ r) 0 else 0
theorem ae0{σ:Type}{B:Int→α→(σ→Option β)→σ→Option β}{K:σ→Option β}(g:σ→α→σ)(hB:∀j x,x∈L→∀Z s,B j x Z s=Z (g s x))(s:σ):bH L 0 B K s=K (L.foldl g s):=by
 have key:∀(l:List α) (j:Nat) (s:σ),(∀x∈l,x∈L)→bH l j B K s=K (l.foldl g s):=by
  intro l
  induction l with
  |nil=>intro j s _;rfl
  |cons x r ih=>
   intro j s h
   simp only[bH]
   rw[hB _ x (h x (by simp)),ih (j+1) _ (λy hy=>h y (by simp[hy])),List.foldl_cons]
 exact key L 0 s (λ_ h=>h)
theorem Ve.bit{e:aI}(h:Ve e)(ha:a∈e.List):0≤a.Bit∧a.Bit<64:=by
 have:=h.rng a ha;have:=h.len;omega
theorem ala(e:aI)(r:Int)(hl:e.List.length≤1000000):kR e r=some (sB e r):=by
 unfold kR sB
 simp only[sA e hl,bn,jn]
 by_cases h:ou e=0
 ·have hv:=pK.1 h
  simp only[h,decide_true,cond_true,if_true]
  refine ae0 (uQ r) (λj x hx Z s=>?_) 0
  obtain⟨b1,b2⟩:=hv.bit hx
  unfold uQ
  by_cases hr:x.aR=r
  ·simp only[hr,decide_true,cond_true,if_true,b1,chk,abT b1 b2]
  ·simp[hr]
 ·simp[h]
def sX(e:aI)(r k t:Int):Int×Bool:=match e.List.find? (λa=>decide (a.aR=r)&&(decide (a.Kind=k)&&decide (a.To=t)))with|some a=>(a.Bit,true)|none=>(0,false)
def oL(e:aI)(r k t:Int):Int×Bool:=if ou e=0 then sX e r k t else(0,false)
theorem agQ{B:Int→α→(Unit→Option Int)→Unit→Option Int}{K:Unit→Option Int}(p:α→Bool)(hB:∀j x Z s,B j x Z s=bif p x then some j else Z s)(hK:∀s,K s=some (-1))(g:α→β)(z:β):
  ∃r,bH L 0 B K ()=some r∧(bif decide (r<0)then some z else bnd (elO L r) λx=>some (g x))=some (match L.find? p with|some x=>g x|none=>z):=by
 have key:∀(l q:List α),q++l=L→∃r,bH l q.length B K ()=some r∧(bif decide (r<0)then some z else bnd (elO L r) λx=>some (g x))=some (match l.find? p with|some x=>g x|none=>z):=by
  intro l
  induction l with
  |nil=>intro q h;exact⟨-1,hK (),rfl⟩
  |cons x r ih=>
   intro q h
   simp only[bH]
   rw[hB,List.find?]
   cases hp:p x
   ·obtain⟨v,h1,h2⟩:=ih (q++[x]) (by simpa using h)
    simp only[List.length_append,List.length_singleton]at h1
    exact⟨v,h1,h2⟩
   ·refine⟨(q.length:Int),rfl,?_⟩
    have:¬((q.length:Int)<0):=by omega
    rw[decide_eq_false this,cond_false,←h,abG];rfl
 exact key L [] rfl
theorem ae1(e:aI)(t:aD):jQ e t=some (sX e t.aT t.l8 t.to_):=by
 unfold jQ dB sX
 simp only[kS,iF,bn]
 obtain⟨v,h1,h2⟩:=agQ (L:=e.List) (B:=λ(j1:Int) (e1:az) (Z1:Unit→Option Int) (sg:Unit)=>bif cn {aT:=e1.aR,l8:=e1.Kind,to_:=e1.To} t then some j1 else Z1 ()) (K:=λ_=>some (-1)) (λa:az=>decide (a.aR=t.aT)&&(decide (a.Kind=t.l8)&&decide (a.To=t.to_))) (λj x Z s=>by
  unfold cn;simp) (λs=>rfl) (λa:az=>(a.Bit,true)) ((0:Int),false)
 rw[show bH e.List 0 _ _ ()=some v from h1,bn]
 refine Eq.trans h2 ?_
 cases List.find? (λa:az=>decide (a.aR=t.aT)&&(decide (a.Kind=t.l8)&&decide (a.To=t.to_))) e.List<;>rfl
end Go.Proofs.YtdjeacigeegklaaGreat
namespace Go.Proofs.YtdjeacigeegklaaGreat
set_option linter.all false
open Go
def qe(h:aX):Bool:=!rtB h.bh||!rtB h.To
def ltH(a b:aX):Bool:=decide (a.bh<b.bh)||(decide (a.bh=b.bh)&&decide (a.To<b.To))
def qw(a b:aX):Bool:=decide (b.To=a.To)
def ov(root:Int):List aX→List aX→Bool
 |_,[]=>false
 |p,x::r=>(p.any (qw x)||decide (x.To=root))||ov root (p++[x]) r
inductive Rch(root:Int)(L:List aX):Int→Prop
 |root:Rch root L root
 |step (h:aX):h∈L→Rch root L h.bh→Rch root L h.To
noncomputable def ckT(t:cE):Int:=
 bif !rtB t.b9||t.Links.any qe then 2 else bif iK ltH t.Links then(bif ov t.b9 [] t.Links then 8 else @ite Int (∀h∈t.Links,Rch t.b9 t.Links h.bh) (Classical.propDecidable _) 0 10)else 25
def mJ(f:Int→Bool)(L:List aX):Nat:=(L.filter λh=>!f h.To).length
variable {f:Int→Bool}
theorem acT{g:Int→Bool}(h:∀x,f x=true→g x=true)(L:List aX):mJ g L≤mJ f L:=by
 unfold mJ
 induction L with
 |nil=>simp
 |cons a r ih=>
  simp only[List.filter_cons]
  cases hf:f a.To
  ·cases hg:g a.To<;>simp<;>omega
  ·rw[h _ hf];simpa using ih
theorem zY{f g:Int→Bool}(h:∀x,f x=true→g x=true){a:aX}:∀{L:List aX},a∈L→f a.To=false→g a.To=true→mJ g L<mJ f L
 |[],ha,_,_=>by cases ha
 |b::r,ha,h1,h2=>by
  have hle:=acT h r
  unfold mJ at *
  simp only[List.filter_cons]
  rcases List.mem_cons.1 ha with rfl|ha
  ·rw[h1,h2];simp;omega
  ·have ih:=zY h ha h1 h2
   unfold mJ at ih
   cases hf:f b.To
   ·cases hg:g b.To<;>simp<;>omega
   ·rw[h _ hf];simpa using ih
structure RI(root:Int)(L:List aX)(f:Int→Bool):Prop where
 rt:f root=true
 sub:∀x,f x=true→Rch root L x
structure RJ(root:Int)(L:List aX)(f0:Int→Bool)(p:List aX)(g:Bool)(f:Int→Bool):Prop where
 ri:RI root L f
 up:∀x,f0 x=true→f x=true
 no:g=false→(∀x,f x=f0 x)∧∀h∈p,f h.bh=true→f h.To=true
 yes:g=true→mJ f L<mJ f0 L
variable {L:List aX}{root:Int}
theorem RJ.start(h:RI root L f):RJ root L f [] false f:=⟨h,λ_=>id,λ_=>⟨λ_=>rfl,by simp⟩,λh=>by cases h⟩
variable {f0:Int→Bool}{h:aX}{p:List aX}
theorem RJ.add{f':Int→Bool}{g:Bool}(j:RJ root L f0 p g f)(hm:h∈L)(h1:f h.bh=true)(h2:f h.To=false)(hf:∀y,f' y=(decide (y=h.To)||f y)):RJ root L f0 (p++[h]) true f':=by
 have up:∀x,f x=true→f' x=true:=λx hx=>by rw[hf,hx];simp
 have hl:mJ f' L<mJ f L:=zY up hm h2 (by rw[hf];simp)
 refine⟨⟨up _ j.ri.rt,λx hx=>?_⟩,λx hx=>up x (j.up x hx),λh=>(by cases h),λ_=>?_⟩
 ·rw[hf,Bool.or_eq_true,decide_eq_true_eq]at hx
  rcases hx with rfl|hx
  ·exact .step h hm (j.ri.sub _ h1)
  ·exact j.ri.sub x hx
 ·have:=acT j.up L;omega
theorem RJ.pass{g:Bool}(j:RJ root L f0 p g f)(hn:f h.bh=false∨f h.To=true):RJ root L f0 (p++[h]) g f:=by
 refine⟨j.ri,j.up,λhg=>⟨(j.no hg).1,λx hx hf=>?_⟩,j.yes⟩
 rcases List.mem_append.1 hx with hx|hx
 ·exact(j.no hg).2 x hx hf
 ·simp at hx;subst hx
  rcases hn with hn|hn
  ·rw[hn]at hf;cases hf
  ·exact hn
theorem RI.done(h:RI root L f)(hc:∀x∈L,f x.bh=true→f x.To=true)(x:Int):f x=true↔Rch root L x:=by
 refine⟨h.sub x,λhr=>?_⟩
 induction hr with
 |root=>exact h.rt
 |step y hy _ ih=>exact hc y hy ih
theorem yl(f:Int→Bool)(L:List aX):mJ f L≤L.length:=List.length_filter_le _ _
def ir(m:List (Int×Bool))(x:Int):Bool:=(aA m x).getD false
theorem sC(m:List (Int×Bool))(n x:Int):ir (bq m n true) x=(decide (x=n)||ir m x):=by
 unfold ir;rw[ep];by_cases h:x=n<;>simp[h]
theorem acv(t:cE)(hl:t.Links.length≤1000000):Ok (iy t) (λm=>∀x,ir m x=true↔Rch t.b9 t.Links x):=by
 unfold iy
 refine Ok.whl (λsg:Bool×List (Int×Bool)=>RI t.b9 t.Links (ir sg.2)∧(sg.1=false→∀x∈t.Links,ir sg.2 x.bh=true→ir sg.2 x.To=true)) (λsg=>2*mJ (ir sg.2) t.Links+if sg.1 then 1 else 0) ?_ ?_ ?_
 ·refine⟨⟨?_,λx hx=>?_⟩,λh=>by cases h⟩
  ·show ir (bq [] t.b9 true) t.b9=true
   rw[sC];simp
  ·have hx:ir (bq [] t.b9 true) x=true:=hx
   rw[sC]at hx
   simp[ir,aA]at hx
   subst hx;exact .root
 ·have:=yl (ir (bq [] t.b9 true)) t.Links
  show 2*mJ (ir (bq [] t.b9 true)) t.Links+1<_
  omega
 ·rintro⟨g,m⟩ Z ⟨h1,h2⟩ hZ
  refine Ok.cs (λhg=>?_) (λhg=>Ok.s (h1.done (h2 hg)))
  refine Ok.zS (L:=t.Links) (λp (sg:Bool×List (Int×Bool))=>RJ t.b9 t.Links (ir m) p sg.1 (ir sg.2)) (λp x r s Z2 hL hI hZ2=>?_) (false,m) (RJ.start h1) (λs hs=>?_)
  ·obtain⟨g2,m2⟩:=s
   unfold jn
   have hm:x∈t.Links:=by rw[hL];simp
   refine Ok.cs (λhc=>hZ2 _ ?_) (λhc=>hZ2 _ ?_)
   ·simp only[Bool.and_eq_true,Bool.not_eq_true']at hc
    exact hI.add hm hc.1 hc.2 (λy=>sC m2 x.To y)
   ·refine hI.pass ?_
    change (ir m2 x.bh&&!ir m2 x.To)=false at hc
    revert hc;cases ir m2 x.bh<;>cases ir m2 x.To<;>simp
  ·obtain⟨g2,m2⟩:=s
   refine hZ (g2,m2) ⟨hs.ri,λhg2=>(hs.no hg2).2⟩ ?_
   cases g2
   ·have e:ir m2=ir m:=funext (hs.no rfl).1
    have hg:g=true:=hg
    subst hg
    simp[e]
   ·have:=hs.yes rfl
    have hg:g=true:=hg
    subst hg
    simp;omega
theorem alb(l:List Int)(a x:Int):decide (x∈l++[a])=(decide (x=a)||decide (x∈l)):=by
 by_cases h1:x=a<;>by_cases h2:x∈l<;>simp[h1,h2]
theorem aoJ{a b:aX}:(decide (b.bh<a.bh)||(decide (a.bh=b.bh)&&decide (b.To≤a.To)))=!ltH a b:=by
 unfold ltH
 by_cases h1:b.bh<a.bh
 ·have h2:¬a.bh<b.bh:=by omega
  have h3:¬a.bh=b.bh:=by omega
  simp[h1,h2,h3]
 ·by_cases h2:a.bh=b.bh
  ·by_cases h3:a.To<b.To
   ·have h4:¬b.To≤a.To:=by omega
    simp[h1,h2,h3,h4]
   ·have h4:b.To≤a.To:=by omega
    simp[h1,h2,h3,h4]
  ·have h3:a.bh<b.bh:=by omega
   simp[h1,h2,h3]
theorem y8(t:cE)(hl:t.Links.length≤1000000):jt t=some (ckT t):=by
 unfold jt jH
 simp only[bn]
 refine(abU qe (λj x Z s=>by
  unfold qe rtB
  cases s
  ·rfl
  cases decide (1≤x.bh)&&decide (x.bh≤99)<;>simp) _ _ _).trans ?_
 unfold ckT
 have e0:((decide (1≤t.b9)&&decide (t.b9≤99))&&!t.Links.any qe)=!(!rtB t.b9||t.Links.any qe):=by
  unfold rtB;cases(decide (1≤t.b9)&&decide (t.b9≤99))<;>simp
 rw[e0,Bool.not_not]
 cases(!rtB t.b9||t.Links.any qe)
 ·simp only[cond_false]
  refine(oI ltH (some 25) (λj x y r q s Z hL hj=>by
   simp only[nh hL hj (by omega),bn,aoJ]
   cases ltH y x<;>rfl) _).trans ?_
  cases iK ltH t.Links
  ·rfl
  ·simp only[cond_true]
   refine(jW (L:=t.Links) (λ_ _=>True) (λp l=>bif ov t.b9 p l then some 8 else some (@ite Int (∀h∈t.Links,Rch t.b9 t.Links h.bh) (Classical.propDecidable _) 0 10)) (λs _=>?_) (λp x r s Z h _ hZ=>?_) t.Links [] () rfl trivial).trans ?_
   ·simp only[ov,cond_false]
    refine Ok.eq (Ok.whl (λsg:List Int×Bool=>(RI t.b9 t.Links (λx=>decide (x∈sg.1))∧(sg.2=false→∀x∈t.Links,x.bh∈sg.1→x.To∈sg.1))∧sg.1.length+mJ (λx=>decide (x∈sg.1)) t.Links≤1+t.Links.length) (λsg=>2*mJ (λx=>decide (x∈sg.1)) t.Links+if sg.2 then 1 else 0) ?_ ?_ ?_)
    ·refine⟨⟨⟨by simp,λx hx=>?_⟩,λh=>by cases h⟩,?_⟩
     ·simp at hx;subst hx;exact .root
     ·have:=yl (λx=>decide (x∈[t.b9])) t.Links
      simp only[List.length_singleton];omega
    ·have:=yl (λx=>decide (x∈[t.b9])) t.Links
     show 2*mJ (λx=>decide (x∈[t.b9])) t.Links+1<_
     omega
    ·rintro⟨m,g⟩ Z ⟨⟨h1,h2⟩,h3⟩ hZ
     refine Ok.cs (λhg=>?_) (λhg=>?_)
     ·refine Ok.zS (L:=t.Links) (λp (sg:List Int×Bool)=>RJ t.b9 t.Links (λx=>decide (x∈m)) p sg.2 (λx=>decide (x∈sg.1))∧sg.1.length+mJ (λx=>decide (x∈sg.1)) t.Links≤1+t.Links.length) (λp x r s Z2 hL hI hZ2=>?_) (m,false) ⟨RJ.start h1,h3⟩ (λs hs=>?_)
      ·obtain⟨m2,g2⟩:=s
       obtain⟨hI,hI2⟩:=hI
       simp only at hI2
       have hm:x∈t.Links:=by rw[hL];simp
       simp only[jn,adU,bn]
       by_cases c1:x.bh∈m2
       ·by_cases c2:x.To∈m2
        ·simp only[c1,c2,decide_true,cond_true,Bool.not_true,cond_false]
         exact hZ2 _ ⟨hI.pass (.inr (by simpa using c2)),hI2⟩
        ·simp only[c1,c2,decide_true,cond_true,decide_false,Bool.not_false]
         refine Ok.bnd (qq (by simp only[List.length_singleton];omega)) λm3 q3=>?_
         rw[q3.1]
         have hlt:=zY (f:=λy=>decide (y∈m2)) (g:=λy=>decide (y∈m2++[x.To])) (λy hy=>by simp at hy;simp[hy]) hm (by simpa using c2) (by simp)
         refine hZ2 _ ⟨hI.add hm (by simpa using c1) (by simpa using c2) (λy=>alb m2 x.To y),?_⟩
         simp only[List.length_append,List.length_singleton];omega
       ·simp only[c1,decide_false,cond_false]
        exact hZ2 _ ⟨hI.pass (.inl (by simpa using c1)),hI2⟩
      ·obtain⟨m2,g2⟩:=s
       obtain⟨hs,hs2⟩:=hs
       have hg:g=true:=hg
       subst hg
       refine hZ (m2,g2) ⟨⟨hs.ri,λhg2 x hx hf=>by simpa using (hs.no hg2).2 x hx (by simpa using hf)⟩,hs2⟩ ?_
       cases g2
       ·have e:(λx=>decide (x∈m2))=(λx=>decide (x∈m)):=funext (hs.no rfl).1
        simp only[e];simp
       ·have:=hs.yes rfl
        simp;omega
     ·have hd:=h1.done (λx hx hf=>by simpa using h2 hg x hx (by simpa using hf))
      refine⟨@ite Int (∀h∈t.Links,Rch t.b9 t.Links h.bh) (Classical.propDecidable _) 0 10,(iJ (λx:aX=>!decide (x.bh∈m)) (some 10) (λj x Z s=>by simp only[adU,bn]) _ _ _).trans ?_,rfl⟩
      by_cases hall:∀h∈t.Links,Rch t.b9 t.Links h.bh
      ·rw[if_pos hall,any_false.2 (λx hx=>by have:=(hd x.bh).2 (hall x hx);simpa using this)];rfl
      ·rw[if_neg hall]
       have:t.Links.any (λx:aX=>!decide (x.bh∈m))=true:=by
        refine Classical.byContradiction λhn=>hall λh hh=>(hd h.bh).1 ?_
        have:=any_false.1 (Bool.not_eq_true _▸hn) h hh
        simpa using this
       rw[this];rfl
   ·simp only[ak9 h,bn]
    refine(iJ (qw x) (some 8) (by intros;rfl) _ _ _).trans ?_
    rw[hZ () trivial,ov]
    cases p.any (qw x)
    ·cases decide (x.To=t.b9)<;>rfl
    ·rfl
   ·cases ov t.b9 [] t.Links<;>rfl
 ·rfl
theorem agR{a b c d:Int}:decide ((0:Int)≤orI [eP a b,eP c d])=!(decide (a<b)||(decide (a=b)&&decide (c<d))):=by
 by_cases h1:a<b
 ·have e:eP a b = -1:=by unfold eP;rw[if_pos h1]
  simp[e,orI,h1]
 ·by_cases h2:a=b
  ·subst h2
   have e:eP a a=0:=jI.2 rfl
   by_cases h3:c<d
   ·have e2:eP c d = -1:=by unfold eP;rw[if_pos h3]
    simp[e,e2,orI,h3]
   ·by_cases h4:d<c
    ·have e2:eP c d=1:=by unfold eP;rw[if_neg h3,if_pos h4]
     simp[e,e2,orI,h3]
    ·have e2:eP c d=0:=by unfold eP;rw[if_neg h3,if_neg h4]
     simp[e,e2,orI,h3]
  ·have h3:b<a:=by omega
   have e:eP a b=1:=by unfold eP;rw[if_neg h1,if_pos h3]
   simp[e,orI,h1,h2]
theorem ve(t:cE)(hl:t.Links.length≤1000000):fV t=some (ckT t):=by
 unfold fV eM
 simp only[bn]
 unfold ckT
 show(bif !rtB t.b9 then _ else _)=_
 cases rtB t.b9
 ·rfl
 simp only[Bool.not_true,cond_false,Bool.false_or]
 refine(iJ qe (some 2) (λj x Z s=>by
  unfold qe rtB jn
  cases decide (1≤x.bh)&&decide (x.bh≤99)<;>rfl) _ _ _).trans ?_
 cases t.Links.any qe
 ·simp only[cond_false]
  refine(oI ltH (some 25) (λj x y r q s Z hL hj=>by
   simp only[nh hL hj (by omega),bn,zM,abH,agR]
   show(bif !ltH y x then _ else _)=_
   cases ltH y x<;>rfl) _).trans ?_
  cases iK ltH t.Links
  ·rfl
  ·simp only[cond_true]
   refine(jW (L:=t.Links) (λp m=>∀x,ir m x=true↔x=t.b9∨∃h∈p,h.To=x) (λp l=>bif ov t.b9 p l then some 8 else some (@ite Int (∀h∈t.Links,Rch t.b9 t.Links h.bh) (Classical.propDecidable _) 0 10)) (λs _=>?_) (λp x r s Z h hi hZ=>?_) t.Links [] _ rfl ?_).trans ?_
   ·obtain⟨m,h1,h2⟩:=acv t hl
    simp only[h1,bn,ov,cond_false]
    refine(iJ (λx:aX=>!ir m x.bh) (some 10) (by intros;rfl) _ _ _).trans ?_
    by_cases hall:∀h∈t.Links,Rch t.b9 t.Links h.bh
    ·rw[if_pos hall,any_false.2 (λx hx=>by rw[(h2 x.bh).2 (hall x hx)];rfl)];rfl
    ·rw[if_neg hall]
     have:t.Links.any (λx:aX=>!ir m x.bh)=true:=by
      refine Classical.byContradiction λhn=>hall λh hh=>(h2 h.bh).1 ?_
      have:=any_false.1 (Bool.not_eq_true _▸hn) h hh
      simpa using this
     rw[this];rfl
   ·show(bif ir s x.To then _ else _)=_
    rw[ov]
    have e:(p.any (qw x)||decide (x.To=t.b9))=ir s x.To:=by
     rw[Bool.eq_iff_iff,Bool.or_eq_true,List.any_eq_true,hi,decide_eq_true_eq]
     constructor
     ·rintro(⟨a,ha,hs⟩|h)
      ·exact .inr ⟨a,ha,by simpa [qw]using hs⟩
      ·exact .inl h
     ·rintro(h|⟨a,ha,hs⟩)
      ·exact .inr h
      ·exact .inl ⟨a,ha,by simpa [qw]using hs⟩
    rw[e]
    cases ir s x.To
    ·refine hZ _ λy=>?_
     rw[sC,Bool.or_eq_true,decide_eq_true_eq,hi]
     constructor
     ·rintro(h|h|⟨a,ha,h⟩)
      ·exact .inr ⟨x,by simp,h.symm⟩
      ·exact .inl h
      ·exact .inr ⟨a,by simp[ha],h⟩
     ·rintro(h|⟨a,ha,h⟩)
      ·exact .inr (.inl h)
      ·rcases List.mem_append.1 ha with ha|ha
       ·exact .inr (.inr ⟨a,ha,h⟩)
       ·simp at ha;rw[ha]at h;exact .inl h.symm
    ·rfl
   ·intro x
    rw[sC];simp[ir,aA]
   ·cases ov t.b9 [] t.Links<;>rfl
 ·rfl
structure Vr(t:cE):Prop where
 rt:1≤t.b9∧t.b9≤99
 rng:∀h∈t.Links,(1≤h.bh∧h.bh≤99)∧1≤h.To∧h.To≤99
 asc:t.Links.Pairwise λa b=>ltH a b=true
 dup:t.Links.Pairwise λa b=>a.To≠b.To
 nrt:∀h∈t.Links,h.To≠t.b9
 rch:∀h∈t.Links,Rch t.b9 t.Links h.bh
theorem aaQ(a b c:aX)(h1:ltH a b=true)(h2:ltH b c=true):ltH a c=true:=by
 simp[ltH]at *;omega
theorem ym{root:Int}:∀{l p:List aX},ov root p l=false↔(∀a∈p,∀b∈l,a.To≠b.To)∧(∀b∈l,b.To≠root)∧l.Pairwise λa b=>a.To≠b.To
 |[],p=>by simp[ov]
 |x::r,p=>by
  rw[ov,Bool.or_eq_false_iff,Bool.or_eq_false_iff,ym,any_false,List.pairwise_cons]
  constructor
  ·rintro⟨⟨h1,h0⟩,h2,h4,h3⟩
   refine⟨λa ha b hb=>?_,λb hb=>?_,λb hb=>h2 x (by simp) b hb,h3⟩
   ·rcases List.mem_cons.1 hb with rfl|hb
    ·have:=h1 a ha;simpa [qw]using this
    ·exact h2 a (by simp[ha]) b hb
   ·rcases List.mem_cons.1 hb with rfl|hb
    ·simpa using h0
    ·exact h4 b hb
  ·rintro⟨h1,h4,h2,h3⟩
   refine⟨⟨λa ha=>by simpa [qw]using h1 a ha x (by simp),by simpa using h4 x (by simp)⟩,λa ha b hb=>?_,λb hb=>h4 b (by simp[hb]),h3⟩
   rcases List.mem_append.1 ha with ha|ha
   ·exact h1 a ha b (by simp[hb])
   ·simp at ha;subst ha;exact h2 b hb
theorem zZ{n:Int}:rtB n=true↔1≤n∧n≤99:=by simp[rtB]
theorem abY:qe h=false↔(1≤h.bh∧h.bh≤99)∧1≤h.To∧h.To≤99:=by
 simp[qe,zZ]
variable {t:cE}
theorem y9:ckT t=0↔Vr t:=by
 unfold ckT
 constructor
 ·intro h
  cases h1:rtB t.b9 with
  |false=>simp[h1]at h
  |true=>
  cases h2:t.Links.any qe with
  |true=>simp[h1,h2]at h
  |false=>
  cases h3:iK ltH t.Links with
  |false=>simp[h1,h2,h3]at h
  |true=>
  cases h4:ov t.b9 [] t.Links with
  |true=>simp[h1,h2,h3,h4]at h
  |false=>
  by_cases h5:∀h∈t.Links,Rch t.b9 t.Links h.bh
  ·obtain⟨d1,d2,d3⟩:=ym.1 h4
   exact⟨zZ.1 h1,λx hx=>abY.1 (any_false.1 h2 x hx),ni aaQ h3,d3,d2,h5⟩
  ·simp only[h1,h2,h3,h4,if_neg h5]at h
   cases h
 ·intro h
  have h1:rtB t.b9=true:=zZ.2 h.rt
  have h2:t.Links.any qe=false:=any_false.2 λx hx=>abY.2 (h.rng x hx)
  have h3:iK ltH t.Links=true:=jT h.asc
  have h4:ov t.b9 [] t.Links=false:=ym.2 ⟨by simp,h.nrt,h.dup⟩
  simp only[h1,h2,h3,h4,if_pos h.rch];rfl
noncomputable def lW(t:cE):List Int:=if ckT t=0 then iL (t.b9::t.Links.map (·.To))else[]
theorem Vr.nodup(h:Vr t):(t.b9::t.Links.map (·.To)).Nodup:=by
 rw[List.nodup_cons]
 refine⟨λhm=>?_,?_⟩
 ·obtain⟨x,hx,e⟩:=List.mem_map.1 hm
  exact h.nrt x hx e
 ·exact List.pairwise_map.2 h.dup
theorem z6(h:Vr t){x:Int}:x∈lW t↔x=t.b9∨∃h∈t.Links,h.To=x:=by
 unfold lW;rw[if_pos (y9.2 h),aaH];simp
theorem ae2(t:cE):(lW t).Pairwise (·<·):=by
 unfold lW
 by_cases h:ckT t=0
 ·rw[if_pos h];exact abJ (y9.1 h).nodup
 ·rw[if_neg h];simp
theorem acU(t:cE):(lW t).length≤t.Links.length+1:=by
 unfold lW
 split
 ·rw[vE];simp
 ·simp
theorem acw(t:cE)(hl:t.Links.length≤100000):iz t=some (lW t):=by
 unfold iz lW
 simp only[ve t (by omega),bn]
 by_cases h:ckT t=0
 ·simp only[h,decide_true,Bool.not_true,cond_false,if_true]
  refine(qt (λ_:aX=>true) (λx:aX=>x.To) t.Links 0 [t.b9] (λj x Z s hx hs=>by rw[nK hs];rfl) (by simp;omega)).trans ?_
  rw[show t.Links.filter (λ_:aX=>true)=t.Links from List.filter_eq_self.2 λ_ _=>rfl]
  simp only[List.cons_append,List.nil_append,chk]
  rw[decide_eq_true (by simp;omega)];rfl
 ·simp[h]
theorem ae3(l:List Int):∀(s:List Int),s.Pairwise (·<·)→(l.foldl iq s).Pairwise (·<·)∧(∀x,x∈l.foldl iq s↔x∈s∨x∈l)∧(l.foldl iq s).length≤s.length+l.length:=by
 induction l with
 |nil=>intro s h;exact⟨h,λx=>by simp,by simp⟩
 |cons a r ih=>
  intro s h
  obtain⟨h1,h2,h3⟩:=ih (iq s a) (zW h)
  refine⟨h1,λx=>?_,?_⟩
  ·rw[List.foldl_cons,h2,sy,List.mem_cons]
   constructor
   ·rintro((h|h)|h)<;>simp[h]
   ·rintro(h|h|h)<;>simp[h]
  ·have:=uO s a
   rw[List.foldl_cons,List.length_cons];omega
theorem abZ{α β:Type}{B:Int→α→(List Int→Option β)→List Int→Option β}{K:List Int→Option β}(f:α→Int)(hB:∀j x Z (s:List Int),s.length≤100000→B j x Z s=Z (iq s (f x))):∀(l:List α) (j:Nat) (s:List Int),s.length+l.length≤100000→bH l j B K s=K ((l.map f).foldl iq s)
 |[],_,s,_=>rfl
 |x::r,j,s,h=>by
  have:=uO s (f x)
  simp only[List.length_cons]at h
  simp only[bH]
  rw[hB _ _ _ _ (by omega),abZ f hB r (j+1) _ (by omega),List.map_cons,List.foldl_cons]
theorem aaU(t:cE)(hl:t.Links.length≤90000):kQ t=some (lW t):=by
 unfold kQ lW
 simp only[y8 t (by omega),bn]
 by_cases h:ckT t=0
 ·simp only[h,decide_true,Bool.not_true,cond_false,if_true]
  refine(abZ (λx:aX=>x.To) (λj x Z s hs=>by rw[ahY _ _ hs];rfl) t.Links 0 [t.b9] (by simp;omega)).trans ?_
  obtain⟨h1,h2,h3⟩:=ae3 (t.Links.map (·.To)) [t.b9] (by simp)
  rw[aaG h1 (abJ (y9.1 h).nodup) (λx=>by rw[h2,aaH];simp)]
 ·simp[h]
end Go.Proofs.YtdjeacigeegklaaGreat
namespace Go.Proofs.YtdjeacigeegklaaGreat
set_option linter.all false
open Go
structure Vn(g:af)(most:Int):Prop where
 v:Vt g
 n:1≤g.aF.length∧(g.aF.length:Int)≤most
 c:∀r∈g.aF,r.wT=true
 i:∀r∈g.aF,r.ID≤5*most
def tri(n:Nat):Nat→Nat
 |0=>0
 |a+1=>tri n a+(n-1-a)
theorem ae4:∀n,n≤9→∀a,a≤n→tri n a≤36:=by decide
structure Mx(n:Nat)(M:List (List Bool)):Prop where
 len:M.length=n
 row:∀r∈M,r.length=n
 up:∀(a b:Nat) (r:List Bool),M[a]?=some r→r[b]?=some true→a<b
theorem Mx.set{n:Nat}{M:List (List Bool)}(h:Mx n M){a b:Nat}{r:List Bool}(hr:M[a]?=some r)(hab:a<b)(hb:b<n):Mx n (M.set a (r.set b true)):=by
 obtain⟨h1,h2,h3⟩:=h
 have hm:r∈M:=List.mem_of_getElem? hr
 refine⟨by simpa using h1,λq hq=>?_,λi j q hq hj=>?_⟩
 ·rcases List.mem_or_eq_of_mem_set hq with hq|rfl
  ·exact h2 q hq
  ·simpa using h2 r hm
 ·rw[List.getElem?_set]at hq
  by_cases hi:a=i
  ·subst hi
   have hlt:a<M.length:=(List.getElem?_eq_some_iff.1 hr).1
   simp only[if_true,hlt,Option.some.injEq]at hq
   subst hq
   rw[List.getElem?_set]at hj
   by_cases hbj:b=j
   ·omega
   ·rw[if_neg hbj]at hj;exact h3 a j r hr hj
  ·rw[if_neg hi]at hq;exact h3 i j q hq hj
variable {M:List (List Bool)}{i:Int}
theorem ae5{n:Nat}(h:Mx n M)(h0:0≤i)(hi:i<n):Ok (elO M i) (λr=>M[i.toNat]?=some r∧r.length=n):=by
 refine(lU h0 (by rw[h.len];exact hi)).mono λr hr=>⟨hr.2,h.row r hr.1⟩
theorem ab0{n:Nat}(h:Mx n M){j:Int}{γ:Type}{Q:γ→Prop}(k:List Bool→List Bool→Option γ)(h0:0≤i)(hij:i<j)(hj:j<n)(hk:∀r r2,Mx n (List.set M i.toNat r2)→Ok (k r r2) Q):
  Ok (bnd (elO M i) λe=>bnd (elO e j) λ_=>bnd (vG e j true) λl=>k e l) Q:=by
 refine Ok.bnd (ae5 h h0 (by omega)) λr hr=>Ok.bnd (lU (by omega) (by rw[hr.2];omega)) λ_ _=>?_
 refine Ok.bnd (aoA (by omega) (by rw[hr.2];omega)) λl hl=>hk r l ?_
 rw[hl.1]
 exact h.set hr.1 (by omega) (by omega)
structure Lx(R:List aP)(ls:List aZ)(a b:Nat):Prop where
 at_:∀l∈ls,∃i j x y,i<j∧R[i]?=some x∧R[j]?=some y∧l.A=x.ID∧l.B=y.ID∧(i<a∨i=a∧j<b)
 ok:∀l∈ls,qH l=false
 asc:ls.Pairwise λx y=>ltL x y=true
 len:ls.length≤tri R.length a+(b-(a+1))
variable {x:aP}
theorem adW{R:List aP}(h:R.Pairwise λa b=>a.ID<b.ID){i j:Nat}{y:aP}(hx:R[i]?=some x)(hy:R[j]?=some y)(hij:i<j):x.ID<y.ID:=by
 obtain⟨h1,rfl⟩:=List.getElem?_eq_some_iff.1 hx
 obtain⟨h2,rfl⟩:=List.getElem?_eq_some_iff.1 hy
 exact List.pairwise_iff_getElem.1 h i j h1 h2 hij
variable {a b:Nat}{ls:List aZ}
theorem Lx.add{R:List aP}(h:Lx R ls a b)(hR:R.Pairwise λa b=>a.ID<b.ID){l:aZ}{y:aP}(hab:a<b)(hx:R[a]?=some x)(hy:R[b]?=some y)(hA:l.A=x.ID)(hB:l.B=y.ID)(hl:qH l=false):Lx R (ls++[l]) a (b+1):=by
 refine⟨λm hm=>?_,λm hm=>?_,?_,?_⟩
 ·rcases List.mem_append.1 hm with hm|hm
  ·obtain⟨i,j,x,y,h1,h2,h3,h4,h5,h6⟩:=h.at_ m hm
   exact⟨i,j,x,y,h1,h2,h3,h4,h5,by omega⟩
  ·simp at hm;subst hm
   exact⟨a,b,x,y,hab,hx,hy,hA,hB,by omega⟩
 ·rcases List.mem_append.1 hm with hm|hm
  ·exact h.ok m hm
  ·simp at hm;subst hm;exact hl
 ·refine List.pairwise_append.2 ⟨h.asc,by simp,λm hm q hq=>?_⟩
  simp at hq;subst hq
  obtain⟨i,j,x',y',h1,h2,h3,h4,h5,h6⟩:=h.at_ m hm
  simp only[ltL,Bool.or_eq_true,Bool.and_eq_true,decide_eq_true_eq]
  rcases h6 with h6|⟨rfl,h6⟩
  ·have:=adW hR h2 hx h6;left;omega
  ·rw[hx]at h2;cases h2
   have:=adW hR h3 hy h6;right;omega
 ·have:=h.len;simp;omega
theorem Lx.skip{R:List aP}(h:Lx R ls a b):Lx R ls a (b+1):=
 ⟨λm hm=>by
  obtain⟨i,j,x,y,h1,h2,h3,h4,h5,h6⟩:=h.at_ m hm
  exact⟨i,j,x,y,h1,h2,h3,h4,h5,by omega⟩,h.ok,h.asc,by have:=h.len;omega⟩
theorem Lx.next{R:List aP}(h:Lx R ls a b)(hb:b=R.length):Lx R ls (a+1) 0:=
 ⟨λm hm=>by
  obtain⟨i,j,x,y,h1,h2,h3,h4,h5,h6⟩:=h.at_ m hm
  exact⟨i,j,x,y,h1,h2,h3,h4,h5,by omega⟩,h.ok,h.asc,by have:=h.len;simp only[tri];omega⟩
theorem ab1{t:bJ}{most:Int}(h:fO t)(hm:1≤most∧most≤9):Ok (lN t most) (λp=>Vn p.1 most∧fO p.2):=by
 unfold lN
 refine Ok.bnd (zV h) λp hp=>?_
 obtain⟨n,t1⟩:=p
 obtain⟨hn,ht⟩:=hp
 have hn:1≤n∧n≤most:=hn (by omega) (by omega) (by omega)
 have ht:fO t1:=ht
 refine Ok.chk (by simp;omega) ?_
 refine Ok.l6 (λj (sg:Int×List aP×List Int×Int)=>(0≤sg.1∧sg.1≤5*j)∧(sg.2.1.length:Int)=j∧sg.2.1.Pairwise (λa b=>a.ID<b.ID)∧(∀r∈sg.2.1,(1≤r.ID∧r.ID≤sg.1)∧r.wT=true)∧fO (bJ.mk sg.2.2.1 sg.2.2.2)) 0 n ?_ ?_ _ _ _ rfl (by omega) (by omega) ⟨by simp,by simp,by simp,by simp,ht⟩
 ·rintro j ⟨id,m,L,A⟩ Z h1 h2 ⟨⟨i0,i1⟩,i2,i3,i4,i5⟩ hZ
  simp only at i0 i1 i2 i3 i4
  refine Ok.bnd (y5 i5 (by simp) (by simp)) λq hq=>?_
  obtain⟨hq,hq2⟩:=hq
  have hb:1≤q.1∧q.1≤5:=by
   simp only[List.mem_cons,List.not_mem_nil,or_false]at hq;omega
  rw[gh (by omega) (by omega)]
  refine Ok.bnd (qq (by simp;omega)) λm2 q2=>hZ _ ⟨⟨by simp only;omega,by simp only;omega⟩,?_,?_,?_,hq2⟩
  ·have:=q2.2;simp at this ⊢;omega
  ·simp only[q2.1]
   refine List.pairwise_append.2 ⟨i3,by simp,λa ha b hb2=>?_⟩
   simp at hb2;subst hb2
   have:=(i4 a ha).1;simp only;omega
  ·simp only[q2.1]
   intro r hr
   rcases List.mem_append.1 hr with hr|hr
   ·have:=i4 r hr;exact⟨⟨this.1.1,by have:=this.1.2;omega⟩,this.2⟩
   ·simp at hr;subst hr;exact⟨⟨by simp only;omega,by simp only;omega⟩,rfl⟩
 rintro j ⟨id,R,L,A⟩ h1 h2 ⟨⟨i0,i1⟩,i2,i3,i4,i5⟩
 have hj:j=n:=h2 (by omega)
 subst hj
 simp only at i0 i1 i2 i3 i4
 have hN:R.length=j.toNat:=by omega
 refine Ok.chk (by simp;omega) (Ok.chk (by simp;omega) ?_)
 refine Ok.l6 (λi (M:List (List Bool))=>M.length=j.toNat∧∀(k:Nat),(k:Int)<i→M[k]?=some (List.replicate j.toNat false)) 0 j ?_ ?_ _ _ _ (by simp;omega) (by omega) (by omega) ⟨by simp,λk hk=>by omega⟩
 ·rintro i M Z q1 q2 ⟨e1,e2⟩ hZ
  refine Ok.chk (by simp;omega) (Ok.bnd (lU q1 (by omega)) λ_ _=>hZ _ ⟨by simpa using e1,λk hk=>?_⟩)
  rw[List.getElem?_set]
  by_cases hki:i.toNat=k
  ·rw[if_pos hki,if_pos (by omega)]
  ·rw[if_neg hki];exact e2 k (by omega)
 rintro i M q1 q2 ⟨e1,e2⟩
 have hi:i=j:=q2 (by omega)
 subst hi
 have hM:Mx i.toNat M:=by
  have hall:∀(a:Nat) r,M[a]?=some r→r=List.replicate i.toNat false:=λa r hr=>by
   have hlt:a<M.length:=(List.getElem?_eq_some_iff.1 hr).1
   rw[e2 a (by omega)]at hr;exact(Option.some.inj hr).symm
  refine⟨e1,λr hr=>?_,λa b r hr hb=>?_⟩
  ·obtain⟨a,ha⟩:=List.getElem?_of_mem hr
   rw[hall a r ha];simp
  ·rw[hall a r hr]at hb
   have:=List.mem_of_getElem? hb
   simp at this
 clear e1 e2
 refine Ok.chk (by simp;omega) ?_
 refine Ok.l6 (λk (sg:List Int×Int×List (List Bool))=>fO (bJ.mk sg.1 sg.2.1)∧Mx i.toNat sg.2.2) 1 i ?_ ?_ _ _ _ rfl (by omega) (by omega) ⟨i5,hM⟩
 ·rintro k ⟨L1,A1,M1⟩ Z k1 k2 ⟨e1,e2⟩ hZ
  refine Ok.jn (λsg:List (List Bool)×List Int×Int=>fO (bJ.mk sg.2.1 sg.2.2)∧Mx i.toNat sg.1) (λs hs=>hZ _ hs) λJ hJ=>?_
  refine Ok.bnd (f_n e1 (by omega)) λv hv=>Ok.cs (λ_=>?_) λ_=>hJ _ ⟨hv.2,e2⟩
  refine Ok.bnd (f_n hv.2 (by omega)) λu hu=>?_
  exact ab0 e2 (λ_ l=>J (List.set M1 u.1.toNat l,u.2.L,u.2.At)) hu.1.1 (hu.1.2.1 (by omega)) (by omega) λr r2 hr2=>hJ _ ⟨hu.2,hr2⟩
 rintro k ⟨L1,A1,M1⟩ k1 k2 ⟨e1,e2⟩
 refine Ok.bnd (f_n e1 (aeY _).1) λv hv=>?_
 rw[gh (n:=i+2) (by omega) (by omega)]at hv
 have hv1:=hv.1.2.1 (by omega)
 refine Ok.whl (λsg:Int×List Int×Int×List (List Bool)=>(0≤sg.1∧sg.1≤11)∧fO (bJ.mk sg.2.1 sg.2.2.1)∧Mx i.toNat sg.2.2.2) (λsg=>sg.1.toNat) ⟨⟨hv.1.1,by simp only;omega⟩,hv.2,e2⟩ (by simp only;omega) ?_
 rintro⟨c,L2,A2,M2⟩ Z ⟨⟨c0,c1⟩,e3,e4⟩ hZ
 simp only at c0 c1
 refine Ok.cs (λhc=>?_) λhc=>?_
 ·have hc:0<c:=by simpa using hc
  refine Ok.jn (λsg:List (List Bool)×List Int×Int=>fO (bJ.mk sg.2.1 sg.2.2)∧Mx i.toNat sg.1) (λs hs=>?_) λJ hJ=>?_
  ·rw[gh (n:=c-1) (by omega) (by omega)]
   exact hZ _ ⟨⟨by simp only;omega,by simp only;omega⟩,hs.1,hs.2⟩ (by simp only;omega)
  ·refine Ok.bnd (f_n e3 (by omega)) λa ha=>Ok.bnd (f_n ha.2 (by omega)) λb hb=>?_
   have ha1:=ha.1.2.1 (by omega);have hb1:=hb.1.2.1 (by omega);have ha0:=ha.1.1;have hb0:=hb.1.1
   refine Ok.cs (λhne=>?_) λ_=>hJ _ ⟨hb.2,e4⟩
   have hne:a.1≠b.1:=by simpa using hne
   refine ab0 e4 (λ_ l=>J (List.set M2 _ l,b.2.L,b.2.At)) (by split<;>omega) (by split<;>split<;>omega) (by split<;>omega) λr r2 hr2=>hJ _ ⟨hb.2,hr2⟩
 clear hZ e2 hM hv hv1 e1
 refine Ok.bnd (f_n e3 (by omega)) λw hw=>?_
 have hML:M2.length=i.toNat:=e4.len
 refine Ok.chk (by simp;omega) ?_
 refine Ok.l6 (λa (sg:List aZ×List Int×Int)=>Lx R sg.1 a.toNat 0∧fO (bJ.mk sg.2.1 sg.2.2)) 0 i ?_ ?_ _ _ _ (by rw[hML];omega) (by omega) (by omega) ⟨⟨by simp,by simp,by simp,by simp⟩,hw.2⟩
 ·rintro a ⟨ls,L3,A3⟩ Z a0 a1 ⟨e5,e6⟩ hZ
  refine Ok.chk (by simp;omega) ?_
  refine Ok.l6 (λb (sg:List aZ×List Int×Int)=>Lx R sg.1 a.toNat b.toNat∧fO (bJ.mk sg.2.1 sg.2.2)) 0 i ?_ ?_ _ _ _ (by rw[hML];omega) (by omega) (by omega) ⟨e5,e6⟩
  ·rintro b ⟨ls,L4,A4⟩ Z2 b0 b1 ⟨e7,e8⟩ hZ2
   have e7:Lx R ls a.toNat b.toNat:=e7
   have e8:fO (bJ.mk L4 A4):=e8
   have hsk:Lx R ls a.toNat (b+1).toNat:=by rw[show(b+1).toNat=b.toNat+1 by omega];exact e7.skip
   refine Ok.jn (λsg:List Int×Int×List aZ=>fO (bJ.mk sg.1 sg.2.1)∧Lx R sg.2.2 a.toNat (b+1).toNat) (λs hs=>hZ2 _ ⟨hs.2,hs.1⟩) λJ3 hJ3=>?_
   refine Ok.bnd (ae5 e4 a0 (by omega)) λrow hrow=>Ok.bnd (lU b0 (by rw[hrow.2];omega)) λc hc=>?_
   cases c with
   |false=>exact hJ3 _ ⟨e8,hsk⟩
   |true=>
    have hab:a.toNat<b.toNat:=e4.up _ _ _ hrow.1 hc.2
    simp only[Bool.not_true,cond_false]
    refine Ok.bnd (lU a0 (by omega)) λx hx=>Ok.bnd (lU b0 (by omega)) λy hy=>Ok.bnd (y5 e8 (by simp) (by simp)) λcp hcp=>?_
    have hcap:0≤cp.1∧cp.1≤1000:=by
     have:=hcp.1;simp only[List.mem_cons,List.not_mem_nil,or_false]at this;omega
    have hlen:ls.length≤36+9:=by
     have:=e7.len;have:=ae4 R.length (by omega) a.toNat (by omega);omega
    refine Ok.jn (λsg:List Int×Int×Int×Int=>fO (bJ.mk sg.1 sg.2.1)∧(1≤sg.2.2.1∧sg.2.2.1≤1000)∧1≤sg.2.2.2∧sg.2.2.2≤1000) (λs hs=>?_) λJ4 hJ4=>?_
    ·obtain⟨L5,A5,ca,cb⟩:=s
     obtain⟨s1,s2,s3⟩:=hs
     simp only at s2 s3
     refine Ok.bnd (qq (by simp;omega)) λls2 q2=>hJ3 _ ⟨s1,?_⟩
     rw[q2.1,show(b+1).toNat=b.toNat+1 by omega]
     refine e7.add i3 hab hx.2 hy.2 rfl rfl ?_
     simp only[qH,sU]
     simp;omega
    ·refine Ok.cs (λ_=>?_) λ_=>hJ4 _ ⟨hcp.2,by simp only;omega,by simp only;omega⟩
     refine Ok.bnd (zV hcp.2) λr1 hr1=>Ok.bnd (y5 hr1.2 (by simp) (by simp)) λp1 hp1=>Ok.bnd (zV hp1.2) λr2 hr2=>Ok.bnd (y5 hr2.2 (by simp) (by simp)) λp2 hp2=>hJ4 _ ⟨hp2.2,?_,?_⟩
     ·have h1:=hr1.1 (by omega) (by omega) (by omega);have h2:=hp1.1
      simp only[List.mem_cons,List.not_mem_nil,or_false]at h2 ⊢;omega
     ·have h1:=hr1.1 (by omega) (by omega) (by omega);have h2:=hp1.1;have h3:=hr2.1 (by omega) (by omega) (by omega);have h4:=hp2.1
      simp only[List.mem_cons,List.not_mem_nil,or_false]at h2 h4 ⊢;omega
  ·rintro b ⟨ls,L4,A4⟩ b0 b1 ⟨e7,e8⟩
   have hb:b=i:=b1 (by omega)
   subst hb
   refine hZ _ ⟨?_,e8⟩
   rw[show(a+1).toNat=a.toNat+1 by omega]
   exact e7.next (by omega)
 ·rintro a ⟨ls,L3,A3⟩ a0 a1 ⟨e5,e6⟩
  have ha:a=i:=a1 (by omega)
  subst ha
  have e5:Lx R ls a.toNat 0:=e5
  have hlen:ls.length≤36:=by
   have:=e5.len;have:=ae4 R.length (by omega) a.toNat (by omega);omega
  refine Ok.s ⟨⟨⟨?_,?_,λr hr=>?_,i3,e5.ok,λl hl=>?_,λl hl=>?_,e5.asc⟩,⟨?_,?_⟩,λr hr=>(i4 r hr).2,λr hr=>?_⟩,e6⟩
  ·show R.length≤24;omega
  ·show ls.length≤60;omega
  ·have:=(i4 r hr).1;omega
  ·obtain⟨i,j,x,y,q1,q2,q3,q4,q5,_⟩:=e5.at_ l hl
   exact⟨yc.2 ⟨x,List.mem_of_getElem? q2,q4.symm⟩,yc.2 ⟨y,List.mem_of_getElem? q3,q5.symm⟩⟩
  ·obtain⟨i,j,x,y,q1,q2,q3,q4,q5,_⟩:=e5.at_ l hl
   have:=adW i3 q2 q3 q1;omega
  ·show 1≤R.length;omega
  ·show(R.length:Int)≤most;omega
  ·have:=(i4 r hr).1;omega
end Go.Proofs.YtdjeacigeegklaaGreat
namespace Go.Proofs.YtdjeacigeegklaaGreat
set_option linter.all false
open Go
def je:List aX→aX→List aX
 |[],x=>[x]
 |y::r,x=>if ltH y x then y::je r x else x::y::r
theorem jm:∀{l:List aX} {x y:aX},y∈je l x↔y=x∨y∈l
 |[],x,y=>by simp[je]
 |z::r,x,y=>by
  rw[je]
  split
  ·rw[List.mem_cons,jm,List.mem_cons]
   constructor
   ·rintro(h|h|h)<;>simp[h]
   ·rintro(h|h|h)<;>simp[h]
  ·simp
theorem sY:∀(l:List aX) (x:aX),(je l x).Perm (x::l)
 |[],x=>by simp[je]
 |z::r,x=>by
  rw[je]
  split
  ·exact((sY r x).cons z).trans (.swap x z r)
  ·exact .refl _
theorem ae6{a b:aX}(h:ltH a b=false)(hne:a≠b):ltH b a=true:=by
 cases a;cases b
 simp[ltH]at *
 omega
theorem z7:∀{l:List aX} {x:aX},l.Pairwise (λa b=>ltH a b=true)→x∉l→(je l x).Pairwise (λa b=>ltH a b=true)
 |[],x,_,_=>by simp[je]
 |z::r,x,h,hx=>by
  rw[je]
  rw[List.pairwise_cons]at h
  simp only[List.mem_cons,not_or]at hx
  split
  ·rename_i hz
   rw[List.pairwise_cons]
   refine⟨λy hy=>?_,z7 h.2 hx.2⟩
   rcases jm.1 hy with rfl|hy
   ·exact hz
   ·exact h.1 y hy
  ·rename_i hz
   have hzx:ltH x z=true:=ae6 (by simpa using hz) (Ne.symm hx.1)
   rw[List.pairwise_cons,List.pairwise_cons]
   refine⟨λy hy=>?_,h⟩
   rcases List.mem_cons.1 hy with rfl|hy
   ·exact hzx
   ·exact aaQ _ _ _ hzx (h.1 y hy)
theorem acV:∀(p r:List aX) (x:aX),(∀y∈p,ltH y x=true)→(∀y∈r.head?,ltH y x=false)→je (p++r) x=p++x::r
 |[],r,x,_,h=>by
  cases r with
  |nil=>simp[je]
  |cons y r=>have:=h y (by simp);simp only[List.nil_append,je,this];rfl
 |z::p,r,x,hp,h=>by
  have:=hp z (by simp)
  rw[List.cons_append,je,if_pos this,acV p r x (λy hy=>hp y (by simp[hy])) h]
  rfl
theorem acW(l:List aX)(x:aX)(hl:l.length≤100000):mZ l x=some (je l x):=by
 unfold mZ
 refine Ok.eq (Ok.whl (λk:Int=>0≤k∧k≤l.length∧∀y∈l.take k.toNat,ltH y x=true) (λk:Int=>((l.length:Int)-k).toNat) ⟨by omega,by omega,by simp⟩ (by omega) ?_)
 rintro k Z ⟨h0,h1,h2⟩ hZ
 refine Ok.jn (λv:Bool=>(v=true↔∃y∈(l.drop k.toNat).head?,ltH y x=true)) ?_ ?_
 ·intro v hv
  refine Ok.cs (λh=>?_) λh=>?_
  ·obtain⟨y,hy,hyx⟩:=hv.1 h
   have hlt:k.toNat<l.length:=by
    cases hd:l.drop k.toNat with
    |nil=>rw[hd]at hy;simp at hy
    |cons z r=>have:=congrArg List.length hd;simp at this;omega
   rw[gh (by omega) (by omega)]
   refine hZ _ ⟨by omega,by omega,λz hz=>?_⟩ (by omega)
   rw[show(k+1).toNat=k.toNat+1 by omega,List.take_succ]at hz
   rcases List.mem_append.1 hz with hz|hz
   ·exact h2 z hz
   ·rw[List.head?_drop]at hy
    have e:l[k.toNat]?=some z:=by simpa using hz
    have e2:l[k.toNat]?=some y:=hy
    rw[e]at e2;cases e2;exact hyx
  ·have hno:∀y∈(l.drop k.toNat).head?,ltH y x=false:=λy hy=>by
    cases hq:ltH y x
    ·rfl
    ·rw[hv.2 ⟨y,hy,hq⟩]at h;cases h
   have key:=acV (l.take k.toNat) (l.drop k.toNat) x h2 hno
   rw[List.take_append_drop]at key
   refine Ok.bnd (uc ⟨by omega,by omega,by omega⟩) λl1 q1=>?_
   refine Ok.bnd (qq (by simp;omega)) λl2 q2=>?_
   refine Ok.bnd (uc ⟨by omega,by omega,by omega⟩) λl3 q3=>?_
   refine Ok.bnd (qq (by simp at q2 q3 q1 ⊢;omega)) λl4 q4=>Ok.s ?_
   rw[q4.1,q3.1,q2.1,q1.1,key]
   simp
 ·intro J hJ
  refine Ok.cs (λhc=>?_) λhc=>hJ _ ?_
  ·simp at hc
   refine Ok.bnd (lU h0 hc) λe he=>?_
   have hh:(l.drop k.toNat).head?=some e:=by rw[List.head?_drop,he.2]
   refine Ok.cs (λc1=>hJ _ ?_) λc1=>Ok.cs (λc2=>hJ _ ?_) λc2=>hJ _ ?_
   ·rw[hh];simp[ltH]at *;left;exact c1
   ·rw[hh];simp[ltH]at *;omega
   ·rw[hh];simp[ltH]at *;omega
  ·simp at hc
   rw[List.drop_of_length_le (by omega)];simp
variable {root:Int}
theorem Rch.mono{L L':List aX}(h:∀x∈L,x∈L'){y:Int}(hr:Rch root L y):Rch root L' y:=by
 induction hr with
 |root=>exact .root
 |step x hx _ ih=>exact .step x (h x hx) ih
variable {t:cE}{x:Int}
theorem Vr.reach(h:Vr t)(hx:x=t.b9∨∃h∈t.Links,h.To=x):Rch t.b9 t.Links x:=by
 rcases hx with rfl|⟨y,hy,rfl⟩
 ·exact .root
 ·exact .step y hy (h.rch y hy)
theorem Vr.add(h:Vr t){x:aX}(hr:(1≤x.bh∧x.bh≤99)∧1≤x.To∧x.To≤99)(hf:x.bh=t.b9∨∃h∈t.Links,h.To=x.bh)(ht:¬(x.To=t.b9∨∃h∈t.Links,h.To=x.To)):Vr (cE.mk t.b9 (je t.Links x)):=by
 rw[not_or]at ht
 have hx:x∉t.Links:=λhm=>ht.2 ⟨x,hm,rfl⟩
 have hsub:∀y∈t.Links,y∈je t.Links x:=λy hy=>jm.2 (.inr hy)
 refine⟨h.rt,λy hy=>?_,z7 h.asc hx,?_,λy hy=>?_,λy hy=>?_⟩
 ·rcases jm.1 hy with rfl|hy
  ·exact hr
  ·exact h.rng y hy
 ·refine((sY t.Links x).pairwise_iff (λ{a b} (hab:a.To≠b.To)=>Ne.symm hab)).2 ?_
  rw[List.pairwise_cons]
  exact⟨λy hy e=>ht.2 ⟨y,hy,e.symm⟩,h.dup⟩
 ·rcases jm.1 hy with rfl|hy
  ·exact ht.1
  ·exact h.nrt y hy
 ·rcases jm.1 hy with rfl|hy
  ·exact(h.reach hf).mono hsub
  ·exact(h.rch y hy).mono hsub
structure Tn(g:af)(root:Int)(t:cE):Prop where
 rt:t.b9=root
 len:t.Links.length≤200
 v:root∈ids g→Vr t
 no:root∉ids g→t.Links=[]
 adj:∀h∈t.Links,jl g h.bh h.To=true
theorem za{g:af}(hv:Vt g)(h:x∈ids g):1≤x∧x≤99:=by
 obtain⟨r,hr,rfl⟩:=List.mem_map.1 h
 exact hv.idr r hr
theorem agS{t:bJ}{g:af}(h:fO t)(hv:Vt g):Ok (pH t g root) (λp=>Tn g root p.1∧fO p.2):=by
 unfold pH
 have hnl:=hv.nl
 rw[gh (n:=2*(g.Links.length:Int)) (by omega) (by omega),gh (by omega) (by omega)]
 refine Ok.bnd (f_n h (by omega)) λq hq=>?_
 have hq1:=hq.1.2.1 (by omega)
 refine Ok.whl (λsg:List Int×Int×List aX×List Int×Int=>(Tn g root (cE.mk root sg.2.2.1)∧(∀x,x∈sg.1↔x=root∨∃h∈sg.2.2.1,h.To=x))∧(0≤sg.2.1∧(sg.1.length:Int)+sg.2.1≤130∧sg.2.2.1.length≤sg.1.length)∧fO (bJ.mk sg.2.2.2.1 sg.2.2.2.2)∧(0<sg.2.1→1≤g.Links.length)) (λsg=>sg.2.1.toNat) ?_ (by simp only;omega) ?_
 ·refine⟨⟨⟨rfl,by simp,λhr=>⟨za hv hr,by simp,by simp,by simp,by simp,by simp⟩,λ_=>rfl,by simp⟩,by simp⟩,⟨hq.1.1,by simp;omega,by simp⟩,hq.2,λh0=>?_⟩
  simp only at h0;omega
 rintro⟨vin,i,ls,L,A⟩ Z ⟨⟨h1,h2⟩,⟨h3,h4,h5⟩,h6,h7⟩ hZ
 simp only at h1 h2 h3 h4 h5 h7
 refine Ok.cs (λhc=>?_) λhc=>Ok.s ⟨h1,h6⟩
 have hc:0<i:=by simpa using hc
 refine Ok.jn (λsg:List Int×List Int×Int×List aX=>(Tn g root (cE.mk root sg.2.2.2)∧(∀x,x∈sg.1↔x=root∨∃h∈sg.2.2.2,h.To=x))∧((sg.1.length:Int)≤vin.length+1∧sg.2.2.2.length≤sg.1.length)∧fO (bJ.mk sg.2.1 sg.2.2.1)) (λs hs=>?_) λJ hJ=>?_
 ·obtain⟨s1,s2,s3⟩:=hs
  rw[gh (by omega) (by omega)]
  exact hZ _ ⟨s1,⟨by simp only;omega,by simp only;omega,s2.2⟩,s3,λ_=>h7 hc⟩ (by simp only;omega)
 refine Ok.bnd (f_n h6 (by omega)) λp hp=>Ok.bnd (lU hp.1.1 (hp.1.2.1 (by have:=h7 hc;omega))) λl hl=>?_
 have adX:jl g l.A l.B=true:=kj.2 ⟨l,hl.1,.inl ⟨rfl,rfl⟩⟩
 refine Ok.jn (λsg:Int×Int=>jl g sg.1 sg.2=true) (λs hs=>?_) λJ2 hJ2=>?_
 ·obtain⟨a,b⟩:=s
  have hs:jl g a b=true:=hs
  refine Ok.jn (λv:Bool=>v=true→a∈vin∧b∉vin) (λv hv2=>?_) λJ3 hJ3=>?_
  ·refine Ok.cs (λhc2=>?_) λ_=>hJ _ ⟨⟨h1,h2⟩,⟨by simp only;omega,h5⟩,hp.2⟩
   obtain⟨ha,hb⟩:=hv2 hc2
   refine Ok.bnd (qq (by simp;omega)) λv2 q2=>?_
   rw[acW _ _ (by omega),bn,q2.1]
   have hpl:=(sY ls (aX.mk a b)).length_eq
   simp only[List.length_cons]at hpl
   have hin:∀x,x∈vin++[b]↔x=root∨∃h∈je ls (aX.mk a b),h.To=x:=λx=>by
    rw[List.mem_append,h2]
    constructor
    ·rintro((h|⟨y,hy,h⟩)|h)
     ·exact .inl h
     ·exact .inr ⟨y,jm.2 (.inr hy),h⟩
     ·simp at h;subst h;exact .inr ⟨aX.mk a x,jm.2 (.inl rfl),rfl⟩
    ·rintro(h|⟨y,hy,h⟩)
     ·exact .inl (.inl h)
     ·rcases jm.1 hy with rfl|hy
      ·exact .inr (by simp[←h])
      ·exact .inl (.inr ⟨y,hy,h⟩)
   refine hJ _ ⟨⟨⟨rfl,?_,λhr=>?_,λhr=>?_,λy hy=>?_⟩,hin⟩,⟨by simp,by simp;omega⟩,hp.2⟩
   ·show(je ls (aX.mk a b)).length≤200;omega
   ·have e1:=za hv (lV hv (qc hs));have e2:=za hv (lV hv hs)
    exact(h1.v hr).add (x:=aX.mk a b) ⟨e1,e2⟩ ((h2 a).1 ha) (λhh=>hb ((h2 b).2 hh))
   ·have:=h1.no hr
    simp only at this
    subst this
    have:=(h2 a).1 ha
    simp at this
    subst this
    exact absurd (lV hv (qc hs)) hr
   ·rcases jm.1 hy with rfl|hy
    ·exact hs
    ·exact h1.adj y hy
  ·simp only[adU,bn]
   refine Ok.cs (λhca=>hJ3 _ λhcb=>⟨by simpa using hca,by simpa using hcb⟩) λ_=>hJ3 _ λh=>by cases h
 ·simp only[adU,bn]
  exact Ok.cs (λ_=>hJ2 _ (qc adX)) λ_=>hJ2 _ adX
end Go.Proofs.YtdjeacigeegklaaGreat
namespace Go.Proofs.YtdjeacigeegklaaGreat
set_option linter.all false
open Go
def nt(t:af)(r:Int):List (Int×Int×Int):=(r,3,r)::(mc t r).map λq=>(r,1,q)
def fW(t:af):List (Int×Int×Int):=(ids t).flatMap (nt t)
def gM:Nat→List (Int×Int×Int)→List az
 |_,[]=>[]
 |n,(r,k,q)::l=>az.mk (n:Int) r k q::gM (n+1) l
theorem qf:∀(n:Nat) (l:List (Int×Int×Int)),(gM n l).length=l.length
 |_,[]=>rfl
 |n,(r,k,q)::l=>by simp only[gM,List.length_cons,qf (n+1) l]
theorem ab2:∀(n:Nat) (a b:List (Int×Int×Int)),gM n (a++b)=gM n a++gM (n+a.length) b
 |n,[],b=>by simp[gM]
 |n,(r,k,q)::l,b=>by
  simp only[List.cons_append,gM,ab2 (n+1) l b,List.length_cons]
  rw[show n+1+l.length=n+(l.length+1)by omega]
theorem sD:∀(n:Nat) (l:List (Int×Int×Int)) (i:Nat) (a:az),(gM n l)[i]?=some a→a.Bit=((n+i:Nat):Int)∧l[i]?=some (a.aR,a.Kind,a.To)
 |n,[],i,a,h=>by simp[gM]at h
 |n,(r,k,q)::l,0,a,h=>by simp[gM]at h;subst h;simp
 |n,(r,k,q)::l,i+1,a,h=>by
  simp only[gM,List.getElem?_cons_succ]at h
  obtain⟨h1,h2⟩:=sD (n+1) l i a h
  exact⟨by rw[h1];omega,by simpa using h2⟩
theorem acX:∀(n:Nat) (l:List (Int×Int×Int)) (i:Nat) (r k q:Int),l[i]?=some (r,k,q)→(gM n l)[i]?=some (az.mk ((n+i:Nat):Int) r k q)
 |n,[],i,r,k,q,h=>by simp at h
 |n,(r',k',q')::l,0,r,k,q,h=>by simp at h;obtain⟨rfl,rfl,rfl⟩:=h;simp[gM]
 |n,(r',k',q')::l,i+1,r,k,q,h=>by
  simp only[gM,List.getElem?_cons_succ]at h ⊢
  rw[acX (n+1) l i r k q h]
  congr 2;omega
theorem ab3{n:Nat}{l:List (Int×Int×Int)}{a:az}(h:a∈gM n l):(a.aR,a.Kind,a.To)∈l∧(n:Int)≤a.Bit∧a.Bit<n+l.length:=by
 obtain⟨i,hi⟩:=List.getElem?_of_mem h
 obtain⟨h1,h2⟩:=sD _ _ _ _ hi
 have:=(List.getElem?_eq_some_iff.1 h2).1
 exact⟨List.mem_of_getElem? h2,by omega,by omega⟩
variable {t:af}
theorem ae7(hv:Vt t)(r:Int):(mc t r).Perm (t.Links.filterMap (jv r)):=
 (List.perm_ext_iff_of_nodup ((yd hv r).imp λh=>by omega) (xC hv r)).2 λx=>by rw[sV hv,aeU hv]
theorem alc(hv:Vt t):((ids t).map λr=>(mc t r).length).sum=2*t.Links.length:=by
 have e:((ids t).map λr=>(mc t r).length)=(ids t).map λr=>(t.Links.filterMap (jv r)).length:=List.map_congr_left λr _=>(ae7 hv r).length_eq
 rw[e]
 have hnd:(ids t).Nodup:=(wu hv).imp λh=>by omega
 have key:∀L:List aZ,(∀l∈L,l.A∈ids t∧l.B∈ids t∧l.A<l.B)→((ids t).map λr=>(L.filterMap (jv r)).length).sum=2*L.length:=by
  intro L
  induction L with
  |nil=>intro _;simp;induction (ids t)<;>simp_all
  |cons l L ih=>
   intro h
   have ih:=ih λx hx=>h x (by simp[hx])
   obtain⟨hA,hB,hlt⟩:=h l (by simp)
   have e2:∀r,((l::L).filterMap (jv r)).length=(if r=l.A then 1 else 0)+(if r=l.B then 1 else 0)+(L.filterMap (jv r)).length:=λr=>by
    unfold jv
    by_cases h1:r=l.A
    ·subst h1
     have:¬l.A=l.B:=by omega
     rw[List.filterMap_cons_some (b:=l.B) (by simp)]
     simp[this];omega
    ·by_cases h2:r=l.B
     ·subst h2
      rw[List.filterMap_cons_some (b:=l.A) (by simp[h1])]
      simp[h1];omega
     ·rw[List.filterMap_cons_none (by simp[h1,h2])]
      simp[h1,h2]
   simp only[e2]
   have cnt:∀(I:List Int) (x:Int),I.Nodup→x∈I→(I.map λr=>if r=x then 1 else 0).sum=1:=by
    intro I x
    induction I with
    |nil=>intro _ h;cases h
    |cons a I ih2=>
     intro hn hx
     rw[List.nodup_cons]at hn
     simp only[List.map_cons,List.sum_cons]
     by_cases e3:a=x
     ·subst e3
      have:(I.map λr=>if r=a then 1 else 0).sum=0:=by
       have h0:∀J:List Int,a∉J→(J.map λr=>if r=a then 1 else 0).sum=0:=by
        intro J
        induction J with
        |nil=>intro _;rfl
        |cons b J ih4=>
         intro hb
         simp only[List.mem_cons,not_or]at hb
         simp only[List.map_cons,List.sum_cons,ih4 hb.2,if_neg (Ne.symm hb.1)]
       exact h0 I hn.1
      rw[if_pos rfl,this]
     ·rcases List.mem_cons.1 hx with rfl|hx
      ·exact absurd rfl e3
      ·rw[if_neg e3,ih2 hn.2 hx]
   have sum3:∀(I:List Int) (f g k:Int→Nat),(I.map λr=>f r+g r+k r).sum=(I.map f).sum+(I.map g).sum+(I.map k).sum:=by
    intro I f g k
    induction I with
    |nil=>rfl
    |cons a I ih3=>simp only[List.map_cons,List.sum_cons,ih3];omega
   rw[sum3 (ids t) (λr=>if r=l.A then 1 else 0) (λr=>if r=l.B then 1 else 0) (λr=>(L.filterMap (jv r)).length),cnt _ _ hnd hA,cnt _ _ hnd hB,ih,List.length_cons]
   omega
 exact key t.Links λl hl=>⟨rC.2 (hv.ends l hl).1,rC.2 (hv.ends l hl).2,hv.lt l hl⟩
theorem agU(hv:Vt t):(fW t).length=t.aF.length+2*t.Links.length:=by
 rw[←alc hv,fW,List.length_flatMap]
 have:∀I:List Int,(I.map λr=>(nt t r).length).sum=I.length+(I.map λr=>(mc t r).length).sum:=by
  intro I
  induction I with
  |nil=>rfl
  |cons a I ih=>
   have hr:(nt t a).length=1+(mc t a).length:=by simp[nt];omega
   simp only[List.map_cons,List.sum_cons,ih,List.length_cons,hr];omega
 rw[this,show(ids t).length=t.aF.length by simp[ids]]
def me(t:af)(n:Int):aI×Int:=
 if jC t=0 then bif !j9 n then(aI.mk 0 [],2)else if n<((fW t).length:Int)then(aI.mk 0 [],3)else(aI.mk n (gM 0 (fW t)),0)else(aI.mk 0 [],1)
theorem zb(hv:Vt t):(fW t).length≤144:=by
 rw[agU hv];have:=hv.nr;have:=hv.nl;omega
theorem ab4{α:Type}{β:Type}(f:α→Int×Int×Int){B:Int→α→(List az→Option β)→List az→Option β}{K:List az→Option β}
  (hB:∀j x Z (s:List az),s.length<1000→B j x Z s=Z (s++[az.mk (s.length:Int) (f x).1 (f x).2.1 (f x).2.2])):∀(l:List α) (j:Nat) (s:List az),s.length+l.length≤1000→bH l j B K s=K (s++gM s.length (l.map f))
 |[],_,s,_=>by simp[bH,gM]
 |x::r,j,s,h=>by
  simp only[List.length_cons]at h
  simp only[bH]
  rw[hB _ _ _ _ (by omega),ab4 f hB r (j+1) _ (by simp;omega)]
  simp only[List.length_append,List.length_singleton,List.map_cons,gM,List.append_assoc,List.singleton_append]
theorem ae8{α:Type}{β:Type}(f:α→List (Int×Int×Int)){L:List α}{B:Int→α→(List az→Option β)→List az→Option β}{K:List az→Option β}(hL:(L.flatMap f).length≤900)
  (hB:∀j x Z (s:List az),x∈L→s.length+(f x).length≤900→B j x Z s=Z (s++gM s.length (f x))):bH L 0 B K []=K (gM 0 (L.flatMap f)):=by
 refine(jW (L:=L) (λp s=>s=gM 0 (p.flatMap f)) (λp l=>K (gM 0 (L.flatMap f))) (λs hs=>by rw[hs]) (λp x r s Z h hi hZ=>?_) L [] [] rfl rfl)
 subst hi
 have hlen:(gM 0 (p.flatMap f)).length+(f x).length≤900:=by
  rw[qf]
  have:(L.flatMap f).length=(p.flatMap f).length+((f x).length+(r.flatMap f).length):=by rw[←h];simp
  omega
 rw[hB _ _ _ _ (by rw[←h];simp) hlen]
 refine hZ _ ?_
 rw[List.flatMap_append,ab2,qf]
 simp
theorem adY(t:af)(n:Int):lM t n=some (me t n):=by
 unfold lM me nA
 simp only[aaF,bn]
 by_cases hc:jC t=0
 ·have hv:=nj.1 hc
  have hk:=zb hv
  simp only[hc,decide_true,Bool.not_true,cond_false,if_true]
  show(bif !j9 n then _ else _)=_
  cases j9 n
  ·rfl
  simp only[Bool.not_true,cond_false]
  have e:fW t=t.aF.flatMap λr=>nt t r.ID:=by unfold fW ids;rw[List.flatMap_map]
  refine(ae8 (λr:aP=>nt t r.ID) (by rw[←e];omega) (λj x Z s hx hs=>?_)).trans ?_
  ·simp only[nt,List.length_cons,List.length_map]at hs
   rw[nK (by omega),bn,zR,bn,if_pos hc]
   refine(ab4 (λq:Int=>(x.ID,(1:Int),q)) (λj q Z s hs=>by rw[nK (by omega),bn]) _ _ _ (by simp;omega)).trans ?_
   simp only[List.append_assoc,nt,gM,List.length_append,List.length_singleton,List.singleton_append]
  ·rw[←e,qf]
   by_cases hn:n<((fW t).length:Int)
   ·simp[hn]
   ·simp[hn]
 ·simp[hc]
structure adZ(t:af)(a:az):Prop where
 r:a.aR∈ids t
 q:a.To∈ids t
 k:(a.Kind=3∧a.To=a.aR)∨(a.Kind=1∧jl t a.aR a.To=true)∨(a.Kind=2∧a.To≠a.aR)
structure EL(t:af)(n:Nat)(m:List az):Prop where
 bit:∀i a,m[i]?=some a→a.Bit=((n+i:Nat):Int)
 ok:∀a∈m,adZ t a
 dup:m.Pairwise λa b=>tgA a≠tgA b
theorem EL.nil(t:af)(n:Nat):EL t n []:=⟨by simp,by simp,by simp⟩
variable {m:List az}
theorem EL.add(h:EL t 0 m){x:az}(hb:x.Bit=m.length)(hx:adZ t x)(hd:∀a∈m,tgA a≠tgA x):EL t 0 (m++[x]):=by
 refine⟨λi a hi=>?_,λa ha=>?_,List.pairwise_append.2 ⟨h.dup,by simp,λa ha b hb=>?_⟩⟩
 ·rw[List.getElem?_append]at hi
  split at hi
  ·exact h.bit i a hi
  ·rename_i hlt
   have e:i=m.length:=by
    have:=(List.getElem?_eq_some_iff.1 hi).1;simp at this;omega
   subst e;simp at hi;subst hi;rw[hb];simp
 ·rcases List.mem_append.1 ha with ha|ha
  ·exact h.ok a ha
  ·simp at ha;subst ha;exact hx
 ·simp at hb;subst hb;exact hd a ha
theorem EL.take{t:af}{n k:Nat}{m:List az}(h:EL t n m):EL t n (m.take k):=
 ⟨λi a hi=>h.bit i a (by rw[List.getElem?_take]at hi;split at hi;exact hi;cases hi),λa ha=>h.ok a (List.mem_of_mem_take ha),h.dup.sublist (List.take_sublist k m)⟩
structure Ef(t:af)(e:aI):Prop where
 v:Ve e
 ok:∀a∈e.List,adZ t a
theorem EL.ef{n:Nat}{len:Int}(hv:Vt t)(h:EL t n m)(hl:len=8∨len=16∨len=32∨len=64)(hm:(n:Int)+m.length≤len):Ef t (aI.mk len m):=by
 have asc:m.Pairwise λa b=>a.Bit<b.Bit:=List.pairwise_iff_getElem.2 λi j hi hj hij=>by
  have h1:=h.bit i _ (List.getElem?_eq_getElem hi);have h2:=h.bit j _ (List.getElem?_eq_getElem hj)
  omega
 refine⟨⟨hl,λa ha=>?_,λa ha=>?_,λa ha=>?_,asc,h.dup⟩,h.ok⟩
 ·obtain⟨i,hi⟩:=List.getElem?_of_mem ha
  have hb:=h.bit i a hi
  have hlt:i<m.length:=(List.getElem?_eq_some_iff.1 hi).1
  exact⟨by omega,by simp only;omega,za hv (h.ok a ha).r,za hv (h.ok a ha).q⟩
 ·have:=(h.ok a ha).k;omega
 ·rcases(h.ok a ha).k with⟨h1,h2⟩|⟨h1,h2⟩|⟨h1,h2⟩
  ·simp[h1,h2]
  ·have:=aoD hv h2
   simp[h1,Ne.symm this]
  ·simp[h1,h2]
theorem uR(hv:Vt t){r k q:Int}:(r,k,q)∈fW t↔r∈ids t∧((k=3∧q=r)∨(k=1∧jl t r q=true)):=by
 unfold fW nt
 simp only[List.mem_flatMap,List.mem_cons,List.mem_map,Prod.mk.injEq,sV hv]
 constructor
 ·rintro⟨a,ha,⟨rfl,rfl,rfl⟩|⟨b,hb,rfl,rfl,rfl⟩⟩
  ·exact⟨ha,.inl ⟨rfl,rfl⟩⟩
  ·exact⟨ha,.inr ⟨rfl,hb⟩⟩
 ·rintro⟨ha,⟨rfl,rfl⟩|⟨rfl,hb⟩⟩
  ·exact⟨q,ha,.inl ⟨rfl,rfl,rfl⟩⟩
  ·exact⟨r,ha,.inr ⟨q,hb,rfl,rfl,rfl⟩⟩
theorem ad0(hv:Vt t):(fW t).Nodup:=by
 unfold fW
 refine List.pairwise_flatMap.2 ⟨λr _=>?_,?_⟩
 ·show(nt t r).Nodup
  unfold nt
  rw[List.nodup_cons]
  refine⟨λh=>?_,?_⟩
  ·obtain⟨x,_,hx⟩:=List.mem_map.1 h;cases hx
  ·exact List.Pairwise.map _ (λa b (hab:a<b) he=>by simp at he;omega) (yd hv r)
 ·refine(wu hv).imp λ{a b} hab=>?_
  intro x hx y hy hxy
  subst hxy
  have e1:x.1=a:=by
   rcases List.mem_cons.1 hx with rfl|hx
   ·rfl
   ·obtain⟨_,_,rfl⟩:=List.mem_map.1 hx;rfl
  have e2:x.1=b:=by
   rcases List.mem_cons.1 hy with rfl|hy
   ·rfl
   ·obtain⟨_,_,rfl⟩:=List.mem_map.1 hy;rfl
  omega
theorem ald(hv:Vt t):EL t 0 (gM 0 (fW t)):=by
 refine⟨λi a hi=>(sD _ _ _ _ hi).1,λa ha=>?_,?_⟩
 ·obtain⟨h1,h2⟩:=(uR hv).1 (ab3 ha).1
  rcases h2 with⟨h2,h3⟩|⟨h2,h3⟩
  ·exact⟨h1,by rw[h3];exact h1,.inl ⟨h2,h3⟩⟩
  ·exact⟨h1,lV hv h3,.inr (.inl ⟨h2,h3⟩)⟩
 ·refine List.pairwise_iff_getElem.2 λi j hi hj hij he=>?_
  have h1:=(sD _ _ _ _ (List.getElem?_eq_getElem hi)).2;have h2:=(sD _ _ _ _ (List.getElem?_eq_getElem hj)).2
  simp only[tgA,aD.mk.injEq]at he
  obtain⟨q1,e1⟩:=List.getElem?_eq_some_iff.1 h1
  obtain⟨q2,e2⟩:=List.getElem?_eq_some_iff.1 h2
  have:=List.pairwise_iff_getElem.1 (ad0 hv) i j q1 q2 hij
  exact this (by rw[e1,e2,he.1,he.2.1,he.2.2])
end Go.Proofs.YtdjeacigeegklaaGreat
namespace Go.Proofs.YtdjeacigeegklaaGreat
set_option linter.all false
open Go
def shA(c:Int)(a:az):az:=az.mk (a.Bit+c) a.aR a.Kind a.To
theorem EL.shift{t:af}{m:List az}(h:EL t 0 m)(c:Nat):EL t c (m.map (shA (c:Int))):=by
 refine⟨λi a hi=>?_,λa ha=>?_,?_⟩
 ·rw[List.getElem?_map]at hi
  cases hm:m[i]? with
  |none=>rw[hm]at hi;cases hi
  |some b=>
   rw[hm]at hi;cases hi
   have:=h.bit i b hm
   simp only[shA];omega
 ·obtain⟨b,hb,rfl⟩:=List.mem_map.1 ha
  obtain⟨h1,h2,h3⟩:=h.ok b hb
  exact⟨h1,h2,h3⟩
 ·exact List.pairwise_map.2 (h.dup.imp λh=>h)
theorem z8{t:af}(hv:Vt t){n:Int}(h:(me t n).2=0):Ef t (me t n).1∧me t n=(aI.mk n (gM 0 (fW t)),0)∧((fW t).length:Int)≤n:=by
 unfold me at *
 rw[if_pos (nj.2 hv)]at *
 cases hl:j9 n
 ·rw[hl]at h;simp at h
 ·rw[hl]at h
  simp only[Bool.not_true,cond_false]at h ⊢
  by_cases hn:n<((fW t).length:Int)
  ·rw[if_pos hn]at h;simp at h
  ·rw[if_neg hn]
   refine⟨(ald hv).ef hv (by simpa [j9]using hl) (by rw[qf];omega),rfl,by omega⟩
end Go.Proofs.YtdjeacigeegklaaGreat
namespace Go.Proofs.YtdjeacigeegklaaGreat
set_option linter.all false
open Go
theorem acY:∀(l:List Int) (lo hi:Int),l.Pairwise (·<·)→(∀x∈l,lo≤x∧x<hi)→(l.length:Int)≤max (hi-lo) 0
 |[],lo,hi,_,_=>by simp;omega
 |x::r,lo,hi,h,hb=>by
  rw[List.pairwise_cons]at h
  have:=acY r (x+1) hi h.2 λy hy=>⟨by have:=h.1 y hy;omega,(hb y (by simp[hy])).2⟩
  have:=hb x (by simp)
  rw[List.length_cons];omega
theorem Ve.small{e:aI}(h:Ve e):e.List.length≤64:=by
 have:=acY (e.List.map (·.Bit)) 0 64 (List.pairwise_map.2 h.asc) λx hx=>by
  obtain⟨a,ha,rfl⟩:=List.mem_map.1 hx
  exact h.bit ha
 rw[List.length_map]at this;omega
variable {a b:az}
theorem Ve.aaa{e:aI}(h:Ve e)(ha:a∈e.List)(hb:b∈e.List)(hab:a.Bit=b.Bit):a=b:=by
 obtain⟨i,hi⟩:=List.getElem?_of_mem ha
 obtain⟨j,hj⟩:=List.getElem?_of_mem hb
 obtain⟨h1,rfl⟩:=List.getElem?_eq_some_iff.1 hi
 obtain⟨h2,rfl⟩:=List.getElem?_eq_some_iff.1 hj
 have hp:=List.pairwise_iff_getElem.1 h.asc
 rcases Nat.lt_trichotomy i j with hij|hij|hij
 ·have:=hp i j h1 h2 hij;omega
 ·subst hij;rfl
 ·have:=hp j i h2 h1 hij;omega
theorem Ve.key_inj{e:aI}(h:Ve e)(ha:a∈e.List)(hb:b∈e.List)(hab:tgA a=tgA b):a=b:=by
 obtain⟨i,hi⟩:=List.getElem?_of_mem ha
 obtain⟨j,hj⟩:=List.getElem?_of_mem hb
 obtain⟨h1,rfl⟩:=List.getElem?_eq_some_iff.1 hi
 obtain⟨h2,rfl⟩:=List.getElem?_eq_some_iff.1 hj
 have hp:=List.pairwise_iff_getElem.1 h.dup
 rcases Nat.lt_trichotomy i j with hij|hij|hij
 ·exact absurd hab (hp i j h1 h2 hij)
 ·subst hij;rfl
 ·exact absurd hab.symm (hp j i h2 h1 hij)
theorem ab5{r:Int}:∀(l:List az) (acc:Int),B64 acc→(∀a∈l,0≤a.Bit∧a.Bit<64)→B64 (l.foldl (uQ r) acc)∧∀i,tbi (l.foldl (uQ r) acc) i=(tbi acc i||decide (∃a∈l,a.aR=r∧a.Bit=i))
 |[],acc,h,_=>⟨h,λi=>by simp⟩
 |a::l,acc,h,hb=>by
  have hb1:=hb a (by simp)
  have hB:B64 (uQ r acc a):=by unfold uQ;split;exact aoI;exact h
  obtain⟨h1,h2⟩:=ab5 l (uQ r acc a) hB λx hx=>hb x (by simp[hx])
  refine⟨h1,λi=>?_⟩
  rw[List.foldl_cons,h2]
  unfold uQ
  by_cases hr:a.aR=r
  ·rw[if_pos hr,ah1 h (y6 (by omega)),qd a.Bit.toNat i (by omega),Bool.eq_iff_iff]
   simp only[Bool.or_eq_true,decide_eq_true_eq,List.mem_cons]
   constructor
   ·rintro((h|h)|⟨x,hx,h3⟩)
    ·exact .inl h
    ·exact .inr ⟨a,.inl rfl,hr,by omega⟩
    ·exact .inr ⟨x,.inr hx,h3⟩
   ·rintro(h|⟨x,rfl|hx,h3,h4⟩)
    ·exact .inl (.inl h)
    ·exact .inl (.inr (by omega))
    ·exact .inr ⟨x,hx,h3,h4⟩
  ·rw[if_neg hr];simp[hr]
theorem aoL{e:aI}(h:Ve e)(r:Int)(i:Nat):tbi (sB e r) i=true↔∃a∈e.List,a.aR=r∧a.Bit=i:=by
 unfold sB;rw[if_pos (pK.2 h)]
 rw[(ab5 e.List 0 y7 λa ha=>h.bit ha).2,mE,Bool.false_or,decide_eq_true_eq]
theorem ae9{e:aI}(h:Ve e)(ha:a∈e.List):oL e a.aR a.Kind a.To=(a.Bit,true):=by
 unfold oL sX;rw[if_pos (pK.2 h)]
 cases hf:e.List.find? (λx=>decide (x.aR=a.aR)&&(decide (x.Kind=a.Kind)&&decide (x.To=a.To)))with
 |none=>
  have:=List.find?_eq_none.1 hf a ha
  simp at this
 |some b=>
  have h1:=List.find?_some hf
  have h2:=List.mem_of_find?_eq_some hf
  simp only[Bool.and_eq_true,decide_eq_true_eq]at h1
  have:b=a:=h.key_inj h2 ha (by simp[tgA,h1.1,h1.2.1,h1.2.2])
  subst this;rfl
theorem acz{e:aI}{r k q b:Int}(hf:oL e r k q=(b,true)):Ve e∧∃a∈e.List,a.aR=r∧a.Kind=k∧a.To=q∧a.Bit=b:=by
 unfold oL sX at hf
 by_cases h:ou e=0
 ·rw[if_pos h]at hf
  refine⟨pK.1 h,?_⟩
  cases hq:e.List.find? (λx=>decide (x.aR=r)&&(decide (x.Kind=k)&&decide (x.To=q)))with
  |none=>rw[hq]at hf;simp at hf
  |some a=>
   rw[hq]at hf;simp at hf
   have h1:=List.find?_some hq
   simp only[Bool.and_eq_true,decide_eq_true_eq]at h1
   exact⟨a,List.mem_of_find?_eq_some hq,h1.1,h1.2.1,h1.2.2,hf⟩
 ·rw[if_neg h]at hf;simp at hf
end Go.Proofs.YtdjeacigeegklaaGreat
namespace Go.Proofs.YtdjeacigeegklaaGreat
set_option linter.all false
open Go
theorem aoM{l:List Int}(hl:l.length≤1000000)(ha:l.Pairwise (·<·))(x:Int):∃i,eG l x=some (i,decide (x∈l)):=by
 have e:bsT (λy:Int=>eP y x) l=decide (x∈l):=by
  rw[Bool.eq_iff_iff,decide_eq_true_eq,zQ (ot (ha.imp λ{a b} h=>?_))]
  ·constructor
   ·rintro⟨y,hy,h⟩;rw[jI]at h;subst h;exact hy
   ·intro h;exact⟨x,h,jI.2 rfl⟩
  ·unfold eP;repeat' split
   all_goals omega
 refine⟨(bsR (λy:Int=>eP y x) l:Int),?_⟩
 rw[←e]
 unfold eG
 have less:∀y:Int,lQ y x=some (decide (y<x)):=λy=>by
  unfold lQ fS
  simp[bn]
 refine zP l (λy:Int=>eP y x) hl λi j Z hj=>?_
 by_cases hij:i<j
 ·rw[dif_pos hij]
  simp only[zO (i:=i) (j:=j) (by omega),qs (show(i+j) / 2<l.length by omega),bn,less,mA]
  rw[if_pos (by omega),gh (by omega) (by omega)]
  by_cases h:el l ((i+j) / 2:Nat)<x
  ·rw[if_pos h,if_pos (wY.2 h)];rfl
  ·rw[if_neg h,if_neg (λhh=>h (wY.1 hh))]
 ·rw[dif_neg hij]
  simp only[mA]
  rw[if_neg (by omega)]
  by_cases hi:i<l.length
  ·rw[if_pos (by omega),qs hi]
   simp only[bn,jb]
   by_cases h:el l i=x
   ·rw[if_pos h,decide_eq_true hi,decide_eq_true (jI.2 h)];rfl
   ·rw[if_neg h,decide_eq_true hi,decide_eq_false (λhh=>h (jI.1 hh))];simp
  ·rw[if_neg (by omega)];simp[hi]
theorem agV(l:List Int):jc l=some (orI l):=by
 unfold jc
 exact(abH l).symm▸by
  unfold jO;rfl
def ab6(r:Int):aD:=aD.mk r 3 r
def ab7(h:aX):aD:=aD.mk h.bh 1 h.To
def jf(e:aI)(k:aD):Int×Bool:=sX e k.aT k.l8 k.to_
def nB(t:cE)(rs:List Int):List aD:=rs.map ab6++t.Links.map ab7
def orK(e:aI)(s:Int)(k:aD):Int:=bX .or .u64 s (qI (jf e k).1.toNat)
noncomputable def qZ(e:aI)(t:cE)(rs:List Int):Int×Int:=
 if ou e=0 then if ckT t=0 then
  bif !iK (λa b=>decide (a<b)) rs then(0,25)else bif rs.any (λr=>!decide (r∈lW t))then(0,8)else
  bif (nB t rs).any (λk=>!(jf e k).2)then(0,4)else((nB t rs).foldl (orK e) 0,0)
 else(0,ckT t)else(0,ou e)
theorem acZ{e:aI}(h:Ve e){k:aD}(hk:(jf e k).2=true):0≤(jf e k).1∧(jf e k).1<64:=by
 unfold jf sX at *
 cases hf:e.List.find? (λx=>decide (x.aR=k.aT)&&(decide (x.Kind=k.l8)&&decide (x.To=k.to_)))with
 |none=>rw[hf]at hk;cases hk
 |some a=>exact h.bit (List.mem_of_find?_eq_some hf)
theorem afa{α β:Type}{L:List α}{B:Int→α→(Int→Option β)→Int→Option β}{K:Int→Option β}(fi:α→Int×Bool)(a:Option β)(g:Int→α→Int)(hB:∀j x Z s,x∈L→B j x Z s=bif !(fi x).2 then a else Z (g s x))(s:Int):
  bH L 0 B K s=bif L.any (λx=>!(fi x).2)then a else K (L.foldl g s):=by
 have key:∀(l:List α) (j:Nat) (s:Int),(∀x∈l,x∈L)→bH l j B K s=bif l.any (λx=>!(fi x).2)then a else K (l.foldl g s):=by
  intro l
  induction l with
  |nil=>intro j s _;rfl
  |cons x r ih=>
   intro j s h
   simp only[bH]
   rw[hB _ _ _ _ (h x (by simp)),ih (j+1) _ (λy hy=>h y (by simp[hy])),List.any_cons,List.foldl_cons]
   cases(fi x).2<;>rfl
 exact key L 0 s λ_ h=>h
theorem yo{α γ β:Type}{B:Int→α→(List γ→Option β)→List γ→Option β}{K:List γ→Option β}(f:α→γ)(p:α→Bool)(a:Option β)(hB:∀j x Z s,s.length<1000000→B j x Z s=bif p x then a else Z (s++[f x])):∀(l:List α) (j:Nat) (s:List γ),s.length+l.length≤1000000→bH l j B K s=bif l.any p then a else K (s++l.map f)
 |[],_,s,_=>by simp[bH]
 |x::r,j,s,h=>by
  simp only[List.length_cons]at h
  simp only[bH]
  rw[hB _ _ _ _ (by omega),yo f p a hB r (j+1) _ (by simp;omega),List.any_cons]
  cases p x
  ·simp
  ·rfl
theorem agW{β:Type}{l:List Int}(hl:l.length≤1000000){B:Int→Int→(Unit→Option β)→Unit→Option β}{K:Unit→Option β}(a:Option β)(hB:∀j x Z s,B j x Z s=bnd (elO l (w64 (j-1))) λe=>bif decide (x≤e)then a else Z s):bH (List.drop 1 l) 1 B K ()=bif iK (λa b=>decide (a<b)) l then K ()else a:=
 oI (λa b:Int=>decide (a<b)) a (λj x y r q s Z hL hj=>by
  rw[hB,nh hL hj (by omega),bn]
  by_cases h:y<x
  ·have:¬x≤y:=by omega
   simp[h,this]
  ·have:x≤y:=by omega
   simp[h,this]) _
theorem agX(e:aI)(t:cE)(rs:List Int)(h1:e.List.length≤100000)(h2:t.Links.length≤100000)(h3:rs.length≤100000):jR e t rs=some (qZ e t rs):=by
 unfold jR qZ
 simp only[sA e (by omega),ve t (by omega),bn,agV]
 by_cases hv:ou e=0
 ·by_cases hc:ckT t=0
  ·have e0:orI [ou e,ckT t]=0:=by rw[hv,hc];rfl
   simp only[e0,decide_true,Bool.not_true,cond_false,hv,hc,if_true]
   refine(agW (by omega) (some ((0:Int),(25:Int))) (by intros;rfl)).trans ?_
   cases iK (λa b:Int=>decide (a<b)) rs
   ·rfl
   simp only[cond_true,Bool.not_true,cond_false,acw t h2,bn]
   refine(yo ab6 (λr=>!decide (r∈lW t)) (some ((0:Int),(8:Int))) (λj x Z s hs=>?_) _ _ _ (by simp;omega)).trans ?_
   ·obtain⟨i,hi⟩:=aoM (l:=lW t) (by have:=acU t;omega) (ae2 t) x
    rw[hi,bn,nK hs,bn];rfl
   cases rs.any (λr=>!decide (r∈lW t))
   ·simp only[cond_false,List.nil_append]
    refine(yo ab7 (λ_=>false) none (λj x Z s hs=>by rw[nK hs,bn];rfl) _ _ _ (by simp;omega)).trans ?_
    rw[show t.Links.any (λ_=>false)=false by rw[any_false];intros;rfl,cond_false]
    show bH (nB t rs) 0 _ _ _=_
    refine(afa (jf e) (some ((0:Int),(4:Int))) (orK e) (λj x Z s hx=>?_) _).trans ?_
    ·rw[ae1,bn]
     show(bif !(jf e x).2 then _ else _)=_
     cases hf:(jf e x).2
     ·rfl
     ·obtain⟨b1,b2⟩:=acZ (pK.1 hv) hf
      show chk (decide (0≤(jf e x).1)) (Z (bX .or .u64 s (IntKind.wrap .u64 ((1:Int)*2 ^ min (jf e x).1.toNat 64))))=_
      rw[decide_eq_true b1,abT b1 b2];rfl
    ·cases(nB t rs).any (λk=>!(jf e k).2)<;>rfl
   ·rfl
  ·have e0:orI [ou e,ckT t]=ckT t:=by simp[orI,hv,hc]
   rw[e0,if_pos hv,if_neg hc,decide_eq_false hc];rfl
 ·have e0:orI [ou e,ckT t]=ou e:=by simp[orI,hv]
  simp[e0,hv]
theorem ac0{e:aI}:∀(l:List aD) (acc:Int),B64 acc→(∀k∈l,0≤(jf e k).1∧(jf e k).1<64)→B64 (l.foldl (orK e) acc)∧∀i,tbi (l.foldl (orK e) acc) i=true↔tbi acc i=true∨∃k∈l,(jf e k).1=(i:Int)
 |[],acc,h,_=>⟨h,λi=>by simp⟩
 |a::l,acc,h,hb=>by
  have hb1:=hb a (by simp)
  obtain⟨h1,h2⟩:=ac0 l (orK e acc a) aoI λx hx=>hb x (by simp[hx])
  refine⟨h1,λi=>?_⟩
  rw[List.foldl_cons,h2]
  unfold orK
  rw[ah1 h (y6 (by omega)),qd (jf e a).1.toNat i (by omega),Bool.or_eq_true,decide_eq_true_eq]
  constructor
  ·rintro((h|h)|⟨x,hx,h3⟩)
   ·exact .inl h
   ·exact .inr ⟨a,by simp,by omega⟩
   ·exact .inr ⟨x,by simp[hx],h3⟩
  ·rintro(h|⟨x,hx,h3⟩)
   ·exact .inl (.inl h)
   ·rcases List.mem_cons.1 hx with rfl|hx
    ·exact .inl (.inr (by omega))
    ·exact .inr ⟨x,hx,h3⟩
end Go.Proofs.YtdjeacigeegklaaGreat
