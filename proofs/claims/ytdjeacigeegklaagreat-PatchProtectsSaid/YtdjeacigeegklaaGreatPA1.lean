/- Several texts in one. No condition but those that stand in each. -/
import Derived.Test.YtdjeacigeegklaaGreatPM
namespace Go.Proofs.YtdjeacigeegklaaGreat
set_option linter.all false
open Go
def ga(t:bM):Prop:=0≤t.At∧t.At≤t.L.length∧t.L.length≤2000
theorem ajT(n:Int):w64 n≤9223372036854775807∧-9223372036854775808≤w64 n:=by
 unfold w64
 rw[IntKind.wrap_i64];omega
theorem ax1(l:List Int):Ok (l7 l) ga:=by
 unfold l7
 refine Ok.bnd (wg ⟨by omega,?_,?_⟩) λm hm=>Ok.s ⟨by simp,by simp,?_⟩
 ·split<;>omega
 ·split<;>omega
 ·have:=hm.2;simp only;split at this<;>omega
variable {t:bM}
theorem ax2(h:ga t):Ok (iP t) (λp=>ga p.2):=by
 obtain⟨h0,h1,h2⟩:=h
 unfold iP
 refine Ok.cs (λ_=>Ok.s ⟨h0,h1,h2⟩) λhc=>?_
 simp at hc
 have e:w64 (t.At+1)=t.At+1:=gO (by omega) (by omega)
 rw[e,gO (by omega) (by omega)]
 refine Ok.bnd (iQ (by omega) (by omega)) λa _=>Ok.s ⟨?_,?_,h2⟩<;>show _<;>simp<;>omega
theorem ax3{x n:Int}(hn:n≤9223372036854775807):Ok (l8 x n) (λr=>0≤r∧(1≤n→r<n)∧(n<1→r=0)):=by
 unfold l8
 refine Ok.cs (λh=>Ok.s ?_) λh=>?_
 ·simp at h;omega
 have h:1≤n:=by simpa using h
 have h1:Int.tmod x n<n:=Int.tmod_lt_of_pos _ (by omega)
 have h2 : -n<Int.tmod x n:=Int.lt_tmod_of_pos _ (by omega)
 refine Ok.chk (by simp;omega) ?_
 refine Ok.jn (λr=>0≤r∧r<n) (λs hs=>Ok.s ⟨hs.1,λ_=>hs.2,by omega⟩) λJ hJ=>?_
 refine Ok.cs (λhc=>hJ _ ?_) λhc=>hJ _ ?_
 ·simp at hc;rw[gO (by omega) (by omega)];omega
 ·simp at hc;omega
theorem f_n{n:Int}(h:ga t)(hn:n≤9223372036854775807):Ok (cn t n) (λp=>(0≤p.1∧(1≤n→p.1<n)∧(n<1→p.1=0))∧ga p.2):=by
 unfold cn
 exact Ok.bnd (ax2 h) λp hp=>Ok.bnd (ax3 hn) λr hr=>Ok.s ⟨hr,hp⟩
theorem aeb{low high:Int}(h:ga t):Ok (fJ t low high) (λp=>(-2305843009213693952≤low→low≤high→high<2305843009213693952→low≤p.1∧p.1≤high)∧ga p.2):=by
 unfold fJ
 refine Ok.bnd (f_n h (ajT _).1) λp hp=>Ok.s ⟨λh1 h2 h3=>?_,hp.2⟩
 obtain⟨⟨q1,q2,_⟩,_⟩:=hp
 rw[gO (n:=high-low) (by omega) (by omega),gO (n:=high-low+1) (by omega) (by omega)]at q2
 show low≤w64 (low+p.1)∧w64 (low+p.1)≤high
 rw[gO (by omega) (by omega)];omega
theorem adm{l:List Int}(h:ga t)(h0:1≤l.length)(h1:l.length≤1000000):Ok (fq t l) (λp=>p.1∈l∧ga p.2):=by
 unfold fq
 refine Ok.bnd (f_n h (by omega)) λp hp=>?_
 exact Ok.bnd (iQ hp.1.1 (hp.1.2.1 (by omega))) λa ha=>Ok.s ⟨ha.1,hp.2⟩
theorem acq(l:List Int)(n:Int):eG l n=some (decide (n∈l)):=by
 unfold eG
 rw[gL (λx=>decide (x=n)) (some true) (λj x Z s=>rfl) l 0 (),ahB]
 by_cases h:n∈l<;>simp[h]
theorem auH(a b:List Int):fV a b=some (decide (a=b)):=by
 unfold fV
 by_cases hl:a.length=b.length
 ·rw[show(!decide ((a.length:Int)=(b.length:Int)))=false by simp[hl],cond_false]
  have key:=agf (L:=a) (f:=λp l (_:Unit)=>some (decide (l=b.drop p.length))) (K:=λsg:Unit=>match sg with|()=>some true) (B:=λ(j1:Int) (e1:Int) (Z1:Unit→Option _) (sg:Unit)=>match sg with|()=>bnd (elO b (j1:Int)) λ(e_1:Int)=>bif !decide (e1=e_1)then some false else Z1 ())
   (λs=>by rw[List.drop_of_length_le (by omega)];rfl) (λp x r s Z hp hZ=>by
    have hlt:p.length<b.length:=by rw[←hl,←hp];simp
    simp only[elO,if_pos (Int.natCast_nonneg _),Int.toNat_natCast,List.getElem?_eq_getElem hlt,aM]
    rw[List.drop_eq_getElem_cons hlt]
    by_cases hx:x=b[p.length]
    ·simp only[hx,decide_true,Bool.not_true,cond_false,hZ,List.length_append,List.length_singleton,List.cons.injEq,true_and]
    ·rw[decide_eq_false hx,Bool.not_false,cond_true,decide_eq_false (λh=>hx (List.cons.inj h).1)]) a [] () rfl
  simpa using key
 ·rw[show(!decide ((a.length:Int)=(b.length:Int)))=true by simp;omega,cond_true]
  rw[decide_eq_false (λh=>hl (by rw[h]))]
def j8:List Int→Int→List Int
 |[],x=>[x]
 |y::r,x=>if y<x then y::j8 r x else if y=x then y::r else x::y::r
theorem wz:∀{l:List Int} {x y:Int},y∈j8 l x↔y=x∨y∈l
 |[],x,y=>by simp[j8]
 |z::r,x,y=>by
  rw[j8]
  split
  ·rw[List.mem_cons,wz,List.mem_cons]
   constructor
   ·rintro(h|h|h)<;>simp[h]
   ·rintro(h|h|h)<;>simp[h]
  ·split
   ·rename_i h;subst h;simp
   ·simp
theorem aec:∀{l:List Int} {x:Int},l.Pairwise (·<·)→(j8 l x).Pairwise (·<·)
 |[],x,_=>by simp[j8]
 |z::r,x,h=>by
  rw[j8]
  rw[List.pairwise_cons]at h
  split
  ·rw[List.pairwise_cons]
   refine⟨λy hy=>?_,aec h.2⟩
   rcases wz.1 hy with rfl|hy
   ·assumption
   ·exact h.1 y hy
  ·split
   ·exact List.pairwise_cons.2 h
   ·rw[List.pairwise_cons]
    refine⟨λy hy=>?_,List.pairwise_cons.2 h⟩
    rcases List.mem_cons.1 hy with rfl|hy
    ·omega
    ·have:=h.1 y hy;omega
theorem y5:∀(l:List Int) (x:Int),(j8 l x).length≤l.length+1
 |[],x=>by simp[j8]
 |z::r,x=>by
  rw[j8]
  have:=y5 r x
  split
  ·simp;omega
  ·split<;>simp
theorem ahI:∀(p r:List Int) (x:Int),(∀y∈p,y<x)→(∀y∈r.head?,x≤y)→j8 (p++r) x=if r.head?=some x then p++r else p++x::r
 |[],r,x,_,h=>by
  cases r with
  |nil=>simp[j8]
  |cons y r=>
   have:=h y (by simp)
   simp only[List.nil_append,j8,if_neg (show ¬y<x by omega),List.head?_cons,Option.some.injEq]
 |z::p,r,x,hp,h=>by
  have:=hp z (by simp)
  rw[List.cons_append,j8,if_pos this,ahI p r x (λy hy=>hp y (by simp[hy])) h]
  split<;>rfl
theorem anJ(l:List Int)(x:Int)(hl:l.length≤100000):iF l x=some (j8 l x):=by
 unfold iF
 refine Ok.eq (Ok.whl (λk:Int=>0≤k∧k≤l.length∧∀y∈l.take k.toNat,y<x) (λk:Int=>((l.length:Int)-k).toNat) ⟨by omega,by omega,by simp⟩ (by omega) ?_)
 rintro k Z ⟨h0,h1,h2⟩ hZ
 refine Ok.jn (λv:Bool=>(v=true↔∃y∈(l.drop k.toNat).head?,y<x)) ?_ ?_
 ·intro v hv
  refine Ok.cs (λh=>?_) λh=>?_
  ·obtain⟨y,hy,hyx⟩:=hv.1 h
   have hlt:k.toNat<l.length:=by
    cases hd:l.drop k.toNat with
    |nil=>rw[hd]at hy;simp at hy
    |cons z r=>have:=congrArg List.length hd;simp at this;omega
   rw[gO (by omega) (by omega)]
   refine hZ _ ⟨by omega,by omega,λz hz=>?_⟩ (by omega)
   rw[show(k+1).toNat=k.toNat+1 by omega,List.take_succ]at hz
   rcases List.mem_append.1 hz with hz|hz
   ·exact h2 z hz
   ·rw[List.head?_drop]at hy
    have e:l[k.toNat]?=some z:=by simpa using hz
    have e2:l[k.toNat]?=some y:=hy
    rw[e]at e2;cases e2;exact hyx
  ·have hno:∀y∈(l.drop k.toNat).head?,x≤y:=λy hy=>by
    have:¬y<x:=λhh=>by rw[hv.2 ⟨y,hy,hh⟩]at h;cases h
    omega
   have key:=ahI (l.take k.toNat) (l.drop k.toNat) x h2 hno
   rw[List.take_append_drop]at key
   refine Ok.jn (λv:Bool=>(v=true↔(l.drop k.toNat).head?=some x)) ?_ ?_
   ·intro v2 hv2
    refine Ok.cs (λh2=>Ok.s ?_) λh2=>?_
    ·rw[key,if_pos (hv2.1 h2)]
    ·have hne:¬(l.drop k.toNat).head?=some x:=λhh=>by rw[hv2.2 hh]at h2;cases h2
     rw[if_neg hne]at key
     refine Ok.bnd (wg ⟨by omega,by omega,by omega⟩) λl1 q1=>?_
     refine Ok.bnd (p8 (by simp;omega)) λl2 q2=>?_
     refine Ok.bnd (wg ⟨by omega,by omega,by omega⟩) λl3 q3=>?_
     refine Ok.bnd (p8 (by simp at q2 q3 q1 ⊢;omega)) λl4 q4=>Ok.s ?_
     rw[q4.1,q3.1,q2.1,q1.1,key]
     simp
   ·intro J hJ
    refine Ok.cs (λhc=>?_) λhc=>hJ _ ?_
    ·simp at hc
     refine Ok.bnd (iQ h0 hc) λe he=>hJ _ ?_
     rw[List.head?_drop,he.2];simp
    ·simp at hc
     rw[List.drop_of_length_le (by omega)];simp
 ·intro J hJ
  refine Ok.cs (λhc=>?_) λhc=>hJ _ ?_
  ·simp at hc
   refine Ok.bnd (iQ h0 hc) λe he=>hJ _ ?_
   rw[List.head?_drop,he.2];simp
  ·simp at hc
   rw[List.drop_of_length_le (by omega)];simp
end Go.Proofs.YtdjeacigeegklaaGreat
namespace Go.Proofs.YtdjeacigeegklaaGreat
set_option linter.all false
open Go
def B64(x:Int):Prop:=0≤x∧x<18446744073709551616
def tbi(x:Int)(i:Nat):Bool:=(BitVec.ofInt 64 x).getLsbD i
theorem afw(n:Int):IntKind.wrap .u64 n=n%18446744073709551616:=by
 simp[IntKind.wrap,IntKind.bits,IntKind.signed]
theorem wrap_u64{n:Int}(h0:0≤n)(h:n<18446744073709551616):IntKind.wrap .u64 n=n:=by
 rw[afw];omega
theorem anK(a:BitVec 64):((a.toNat:Nat):Int)<18446744073709551616:=by
 have:=a.isLt;omega
theorem y6(a:BitVec 64):BitVec.ofInt 64 (IntKind.wrap .u64 (a.toNat:Int))=a:=by
 rw[wrap_u64 (by omega) (anK a)]
 apply BitVec.eq_of_toNat_eq
 rw[BitVec.toNat_ofInt]
 have:=anK a
 omega
variable {a b:Int}
theorem auI:B64 (br .or .u64 a b):=by
 unfold br B64;simp only;rw[afw];omega
theorem anL:B64 (br .and .u64 a b):=by
 unfold br B64;simp only;rw[afw];omega
theorem al9:B64 (br .andNot .u64 a b):=by
 unfold br B64;simp only;rw[afw];omega
theorem tbo(a b:Int)(i:Nat):tbi (br .or .u64 a b) i=(tbi a i||tbi b i):=by
 unfold tbi
 rw[show br .or .u64 a b=IntKind.wrap .u64 ((BitVec.ofInt 64 a ||| BitVec.ofInt 64 b).toNat:Int)from rfl,y6,BitVec.getLsbD_or]
theorem tba(a b:Int)(i:Nat):tbi (br .and .u64 a b) i=(tbi a i&&tbi b i):=by
 unfold tbi
 rw[show br .and .u64 a b=IntKind.wrap .u64 ((BitVec.ofInt 64 a &&& BitVec.ofInt 64 b).toNat:Int)from rfl,y6,BitVec.getLsbD_and]
theorem afx(a:Int){i:Nat}(hi:64≤i):tbi a i=false:=BitVec.getLsbD_of_ge _ _ hi
theorem tbn(a b:Int)(i:Nat):tbi (br .andNot .u64 a b) i=(tbi a i&&!tbi b i):=by
 by_cases h:i<64
 ·unfold tbi
  rw[show br .andNot .u64 a b=IntKind.wrap .u64 ((BitVec.ofInt 64 a &&& ~~~BitVec.ofInt 64 b).toNat:Int)from rfl,y6,BitVec.getLsbD_and,BitVec.getLsbD_not]
  simp[h]
 ·rw[afx _ (by omega),afx a (by omega),Bool.false_and]
theorem anM(_:B64 a)(_:B64 b)(i:Nat):tbi (br .or .u64 a b) i=(tbi a i||tbi b i):=tbo a b i
theorem mF(i:Nat):tbi 0 i=false:=by simp[tbi]
theorem xN{x:Int}(h:B64 x):(BitVec.ofInt 64 x).toNat=x.toNat:=by
 obtain⟨h0,h1⟩:=h
 rw[BitVec.toNat_ofInt]
 have:x%((2 ^ 64:Nat):Int)=x:=Int.emod_eq_of_lt h0 (by simpa using h1)
 rw[this]
theorem adn(ha:B64 a)(hb:B64 b)(h:∀i,i<64→tbi a i=tbi b i):a=b:=by
 have e:BitVec.ofInt 64 a=BitVec.ofInt 64 b:=BitVec.eq_of_getLsbD_eq λi hi=>h i hi
 have:=congrArg BitVec.toNat e
 rw[xN ha,xN hb]at this
 have:=ha.1;have:=hb.1;omega
def uK(k:Nat):Int:=2 ^ k
variable {k:Nat}
theorem ado(h:k<64):B64 (uK k):=by
 unfold B64 uK
 have h1:(2:Int) ^ k≤2 ^ 63:=by
  have:=Nat.pow_le_pow_right (n:=2) (by decide) (show k≤63 by omega)
  exact_mod_cast this
 have h2:0<(2:Int) ^ k:=Int.pow_pos (by decide)
 omega
theorem aaA{n:Int}(h0:0≤n)(h:n<64):IntKind.wrap .u64 ((1:Int)*2 ^ min n.toNat 64)=uK n.toNat:=by
 rw[Nat.min_eq_left (by omega),Int.one_mul]
 have:=ado (k:=n.toNat) (by omega)
 exact wrap_u64 this.1 this.2
theorem ahJ(ha:B64 a)(i:Nat):tbi a i=a.toNat.testBit i:=by
 unfold tbi;rw[←BitVec.testBit_toNat,xN ha]
theorem qq(k i:Nat)(hk:k<64):tbi (uK k) i=decide (i=k):=by
 rw[ahJ (ado hk)]
 unfold uK
 rw[show((2:Int) ^ k).toNat=2 ^ k by rw[show(2:Int) ^ k=((2 ^ k:Nat):Int)by simp];rfl,Nat.testBit_two_pow]
 by_cases h:i=k
 ·subst h;simp
 ·simp[h,Ne.symm h]
theorem yh:B64 0:=by unfold B64;omega
theorem aqP(ha:B64 a)(h:a≠0):∃i,i<64∧tbi a i=true:=by
 refine Classical.byContradiction λhn=>h (adn ha yh λi hi=>?_)
 rw[mF]
 cases hb:tbi a i with
 |false=>rfl
 |true=>exact absurd ⟨i,hi,hb⟩ hn
theorem fdiv_pow(a:Int)(k:Nat):Int.fdiv a (2 ^ k)=a / ((2 ^ k:Nat):Int):=by
 rw[Int.fdiv_eq_ediv_of_nonneg _ (Int.le_of_lt (Int.pow_pos (by decide)))];simp
theorem aqQ(a:Int)(hk:k<64):tbi (Int.fdiv a (2 ^ k)) 0=tbi a k:=by
 unfold tbi
 rw[fdiv_pow,←BitVec.testBit_toNat,←BitVec.testBit_toNat,BitVec.toNat_ofInt,BitVec.toNat_ofInt]
 generalize hm:a%((2 ^ 64:Nat):Int)=m
 have h0:0≤m:=by rw[←hm];exact Int.emod_nonneg _ (by decide)
 have hd:a=((2 ^ 64:Nat):Int)*(a / ((2 ^ 64:Nat):Int))+m:=by rw[←hm];exact(Int.mul_ediv_add_emod a _).symm
 have hp:((2 ^ 64:Nat):Int)=((2 ^ k:Nat):Int)*((2 ^ (63-k):Nat):Int)*2:=by
  rw[←Int.natCast_mul,←Nat.pow_add,show k+(63-k)=63 by omega];rfl
 have e1:a / ((2 ^ k:Nat):Int)=((2 ^ (63-k):Nat):Int)*2*(a / ((2 ^ 64:Nat):Int))+m / ((2 ^ k:Nat):Int):=by
  generalize a / ((2 ^ 64:Nat):Int)=q at hd
  rw[hd,hp,Int.mul_assoc ((2 ^ k:Nat):Int),Int.mul_assoc ((2 ^ k:Nat):Int),Int.mul_add_ediv_left _ _ (by have:=Nat.pow_pos (n:=k) (show 0<2 by decide);omega)]
 have e2:(m / ((2 ^ k:Nat):Int))=((m.toNat / 2 ^ k:Nat):Int):=by
  rw[Int.natCast_ediv,Int.toNat_of_nonneg h0]
 rw[e1,e2,Nat.testBit_zero]
 rw[show m.toNat.testBit k=decide (m.toNat / 2 ^ k%2=1)by rw[Nat.testBit_eq_decide_div_mod_eq]]
 congr 1
 generalize m.toNat / 2 ^ k=c
 generalize a / ((2 ^ 64:Nat):Int)=q
 generalize ((2 ^ (63-k):Nat):Int)=z
 have:(z*2*q+(c:Int))%((2 ^ 64:Nat):Int)%2=(c:Int)%2:=by
  rw[Int.emod_emod_of_dvd _ (by decide),Int.mul_comm z 2,Int.mul_assoc,Int.mul_add_emod_self_left]
 have h64:0≤(z*2*q+(c:Int))%((2 ^ 64:Nat):Int):=Int.emod_nonneg _ (by decide)
 generalize (z*2*q+(c:Int))%((2 ^ 64:Nat):Int)=y at this h64
 apply propext
 omega
theorem anN(a:Int){n:Int}(h0:0≤n)(h:n<64):br .and .u64 (Int.fdiv a (2 ^ min n.toNat 64)) 1=if tbi a n.toNat then 1 else 0:=by
 rw[Nat.min_eq_left (by omega)]
 have h1:B64 1:=by unfold B64;omega
 refine adn anL (by split<;>(unfold B64;omega)) λi _=>?_
 rw[tba]
 have ho:tbi 1 i=decide (i=0):=qq 0 i (by omega)
 rw[ho]
 by_cases hi:i=0
 ·subst hi
  rw[aqQ a (by omega)]
  cases tbi a n.toNat
  ·simp[mF]
  ·simp[show tbi 1 0=true from qq 0 0 (by omega)]
 ·simp only[hi,decide_false,Bool.and_false]
  split
  ·rw[ho];simp[hi]
  ·rw[mF]
end Go.Proofs.YtdjeacigeegklaaGreat
namespace Go.Proofs.YtdjeacigeegklaaGreat
set_option linter.all false
open Go
theorem kS{α σ β:Type}{B:Int→α→(σ→Option β)→σ→Option β}{K:σ→Option β}{L:List α}(I:List α→σ→Prop)(f:List α→List α→Option β)(hn:∀s,I L s→K s=f L [])
  (hc:∀p x r s Z,p++x::r=L→I p s→(∀s',I (p++[x]) s'→Z s'=f (p++[x]) r)→B (p.length:Int) x Z s=f p (x::r)):∀(l p:List α) (s:σ),p++l=L→I p s→bO l p.length B K s=f p l
 |[],p,s,h,hi=>by rw[List.append_nil]at h;subst h;exact hn s hi
 |x::r,p,s,h,hi=>hc p x r s _ h hi λs' hs=>by
   have:=kS (B:=B) (K:=K) I f hn hc r (p++[x]) s' (by simpa using h) hs
   rw[List.length_append]at this
   exact this
variable {α:Type}{L:List α}
theorem ahK{p r:List α}{x:α}(h:p++x::r=L):mJ L 0 (p.length:Int)=some p:=by
 unfold mJ
 rw[if_pos ⟨by omega,by omega,by rw[←h];simp;omega⟩,←h]
 simp
def kT(n:Int):Bool:=decide (n=8)||(decide (n=16)||(decide (n=32)||decide (n=64)))
def rtB(n:Int):Bool:=decide (1≤n)&&decide (n≤99)
def rK(n:Int)(a:aq):Bool:=decide (a.Bit<0)||(decide (n≤a.Bit)||(!rtB a.aO||!rtB a.To))
def y7(a:aq):Bool:=decide (a.Kind<1)||decide (3<a.Kind)
def y8(a:aq):Bool:=!(decide (a.To=a.aO)==decide (a.Kind=3))
def ltA(a b:aq):Bool:=decide (a.Bit<b.Bit)
def pL(a b:aq):Bool:=decide (a.aO=b.aO)&&(decide (a.Kind=b.Kind)&&decide (a.To=b.To))
def th{α:Type}(q:α→α→Bool):List α→List α→Bool
 |_,[]=>false
 |p,x::r=>p.any (q x)||th q (p++[x]) r
def mT(e:aC):Int:=
 bif !kT e.Length||e.List.any (rK e.Length)then 2 else bif e.List.any y7 then 1 else bif e.List.any y8 then 8 else bif jZ ltA e.List then(bif th pL [] e.List then 5 else 0)else 25
variable {β:Type}
theorem acr{B:Int→α→(Bool→Option β)→Bool→Option β}{K:Bool→Option β}(p:α→Bool)(hB:∀j x Z s,B j x Z s=Z (s&&!p x))(l:List α)(j:Nat)(s:Bool):bO l j B K s=K (s&&!l.any p):=
 yb (f:=λl s=>K (s&&!l.any p)) (λs=>by simp) (λj x r s Z hZ=>by
  rw[hB,hZ,List.any_cons];cases s<;>cases p x<;>simp) l j s
theorem ama(q:α→α→Bool)(a:Option β){B:Int→α→(Unit→Option β)→Unit→Option β}{K:Unit→Option β}
  (hB:∀p x r Z,p++x::r=L→B (p.length:Int) x Z ()=bif p.any (q x)then a else Z ()):bO L 0 B K ()=bif th q [] L then a else K ():=
 kS (L:=L) (λ_ _=>True) (λp l=>bif th q p l then a else K ()) (λs _=>rfl) (λp x r s Z h _ hZ=>by
  rw[hB p x r Z h,hZ () trivial,th];cases p.any (q x)<;>rfl) L [] () rfl trivial
theorem oE(e:aC)(hl:e.List.length≤1000000):gD e=some (mT e):=by
 unfold gD mB ir
 simp only[aM]
 refine(acr (rK e.Length) (λj x Z s=>by
  unfold rK rtB
  cases s
  ·rfl
  by_cases h1:x.Bit<0
  ·have:¬(0≤x.Bit):=by omega
   simp[h1,this]
  have h1':0≤x.Bit:=by omega
  by_cases h2:e.Length≤x.Bit
  ·have:¬(x.Bit<e.Length):=by omega
   simp[h1',h2,this]
  have h2':x.Bit<e.Length:=by omega
  simp only[h1',h2',decide_true,cond_true,h1,h2,decide_false,Bool.false_or,Bool.true_and]
  cases decide (1≤x.aO)&&decide (x.aO≤99)<;>simp) _ _ _).trans ?_
 unfold mT kT
 have hgo:∀{b:Bool} {x y z:Option Int},b=true→(bif b then x else y)=x:=λh=>by subst h;rfl
 cases hb:(decide (e.Length=8)||(decide (e.Length=16)||(decide (e.Length=32)||decide (e.Length=64))))&&!e.List.any (rK e.Length)
 ·have:(!(decide (e.Length=8)||(decide (e.Length=16)||(decide (e.Length=32)||decide (e.Length=64))))||e.List.any (rK e.Length))=true:=by
   revert hb;cases(decide (e.Length=8)||(decide (e.Length=16)||(decide (e.Length=32)||decide (e.Length=64))))<;>cases e.List.any (rK e.Length)<;>simp
  rw[this];rfl
 ·have:(!(decide (e.Length=8)||(decide (e.Length=16)||(decide (e.Length=32)||decide (e.Length=64))))||e.List.any (rK e.Length))=false:=by
   revert hb;cases(decide (e.Length=8)||(decide (e.Length=16)||(decide (e.Length=32)||decide (e.Length=64))))<;>cases e.List.any (rK e.Length)<;>simp
  rw[this]
  simp only[Bool.not_true,cond_false]
  refine(gL y7 (some 1) (by intros;rfl) _ _ _).trans ?_
  cases e.List.any y7
  ·simp only[cond_false]
   refine(gL y8 (some 8) (by intros;rfl) _ _ _).trans ?_
   cases e.List.any y8
   ·simp only[cond_false]
    refine(rX ltA (some 25) (λj x y r q s Z hL hj=>by
     simp only[p9 hL hj (by omega),aM,ltA]
     by_cases h:y.Bit<x.Bit
     ·have:¬x.Bit≤y.Bit:=by omega
      simp[h,this]
     ·have:x.Bit≤y.Bit:=by omega
      simp[h,this]) _).trans ?_
    cases jZ ltA e.List
    ·rfl
    ·simp only[cond_true]
     refine(ama pL (some 5) (λp x r Z h=>by
      simp only[ahK h,aM]
      exact gL (pL x) (some 5) (by intros;rfl) _ _ _)).trans ?_
     cases th pL [] e.List<;>rfl
   ·rfl
  ·rfl
theorem amb{κ:Type}{q:κ→κ→Bool}(hq:∀a b,q a b=true↔a=b)(l:List (κ×α))(n m:κ)(b:α):kJ q (qx q l n b) m=bif q m n then some b else kJ q l m:=by
 induction l with
 |nil=>simp only[qx,kJ,List.find?];cases q m n<;>rfl
 |cons p r ih=>
  simp only[qx]
  cases h1:q n p.1
  ·simp only[cond_false,kJ,List.find?]at ih ⊢
   cases h2:q m p.1
   ·simpa using ih
   ·have e:=(hq _ _).1 h2
    have:q m n=false:=by
     cases h3:q m n
     ·rfl
     ·have:=(hq _ _).1 h3;subst this;subst e;rw[(hq _ _).2 rfl]at h1;cases h1
    simp[this]
  ·have e:=(hq _ _).1 h1
   simp only[cond_true,kJ,List.find?]at ih ⊢
   subst e
   cases q m p.1<;>simp
theorem amc(a b:bN):eo a b=true↔a=b:=by
 cases a;cases b;simp[eo]
def tgA(a:aq):bN:=bN.mk a.aO a.Kind a.To
variable {a:aq}
theorem xk{b:aq}:pL a b=true↔tgA a=tgA b:=by simp[pL,tgA]
theorem wA(e:aC)(hl:e.List.length≤1000000):gE e=some (mT e):=by
 unfold gE iu lG
 simp only[aM]
 unfold mT
 show(bif !kT e.Length then _ else _)=_
 cases kT e.Length
 ·rfl
 simp only[Bool.not_true,cond_false,Bool.false_or]
 refine(gL (rK e.Length) (some 2) (λj x Z s=>by
  unfold rK rtB jn
  cases decide (x.Bit<0)
  ·cases decide (e.Length≤x.Bit)
   ·cases decide (1≤x.aO)&&decide (x.aO≤99)<;>rfl
   ·rfl
  ·rfl) _ _ _).trans ?_
 cases e.List.any (rK e.Length)
 ·simp only[cond_false]
  refine(gL y7 (some 1) (by intros;rfl) _ _ _).trans ?_
  cases e.List.any y7
  ·simp only[cond_false]
   refine(gL y8 (some 8) (by intros;rfl) _ _ _).trans ?_
   cases e.List.any y8
   ·simp only[cond_false]
    refine(rX ltA (some 25) (λj x y r q s Z hL hj=>by
     simp only[p9 hL hj (by omega),aM,ltA]
     by_cases h:y.Bit<x.Bit
     ·have:¬x.Bit≤y.Bit:=by omega
      simp[h,this]
     ·have:x.Bit≤y.Bit:=by omega
      simp[h,this]) _).trans ?_
    cases jZ ltA e.List
    ·rfl
    ·simp only[cond_true,oz,aM]
     refine(kS (L:=e.List) (λp m=>∀t,(kJ eo m t).getD false=true↔∃a∈p,tgA a=t) (λp l=>bif th pL p l then some 5 else some 0) (λs _=>rfl) (λp x r s Z h hi hZ=>?_) e.List [] [] rfl (λt=>by simp[kJ])).trans ?_
     ·have hx:=hi (tgA x)
      rw[th]
      cases hc:(kJ eo s (bN.mk x.aO x.Kind x.To)).getD false
      ·have hno:p.any (pL x)=false:=by
        rw[any_false]
        intro a ha
        cases hs:pL x a
        ·rfl
        ·have h1:=hx.2 ⟨a,ha,(xk.1 hs).symm⟩
         exact absurd (hc.symm.trans h1) (by simp)
       rw[hno,cond_false,Bool.false_or]
       refine hZ _ λt=>?_
       rw[amb amc]
       cases ht:eo t (bN.mk x.aO x.Kind x.To)
       ·rw[cond_false,hi t]
        constructor
        ·rintro⟨a,ha,e⟩;exact⟨a,by simp[ha],e⟩
        ·rintro⟨a,ha,e⟩
         rcases List.mem_append.1 ha with ha|ha
         ·exact⟨a,ha,e⟩
         ·simp at ha;subst ha;exact absurd (ht.symm.trans ((amc t (tgA a)).2 e.symm)) (by simp)
       ·have:=(amc _ _).1 ht
        subst this
        simp only[cond_true,Option.getD_some,true_iff]
        exact⟨x,by simp,rfl⟩
      ·obtain⟨a,ha,e⟩:=hx.1 hc
       have:p.any (pL x)=true:=List.any_eq_true.2 ⟨a,ha,xk.2 e.symm⟩
       rw[this];rfl
     ·cases th pL [] e.List<;>rfl
   ·rfl
  ·rfl
 ·rfl
structure Ve(e:aC):Prop where
 len:e.Length=8∨e.Length=16∨e.Length=32∨e.Length=64
 rng:∀a∈e.List,0≤a.Bit∧a.Bit<e.Length∧(1≤a.aO∧a.aO≤99)∧1≤a.To∧a.To≤99
 kind:∀a∈e.List,1≤a.Kind∧a.Kind≤3
 aee:∀a∈e.List,a.To=a.aO↔a.Kind=3
 asc:e.List.Pairwise λa b=>a.Bit<b.Bit
 dup:e.List.Pairwise λa b=>tgA a≠tgA b
theorem acs{α:Type}{q:α→α→Bool}:∀{l p:List α},th q p l=false↔(∀a∈p,∀b∈l,q b a=false)∧l.Pairwise λa b=>q b a=false
 |[],p=>by simp[th]
 |x::r,p=>by
  rw[th,Bool.or_eq_false_iff,acs,any_false,List.pairwise_cons]
  constructor
  ·rintro⟨h1,h2,h3⟩
   refine⟨λa ha b hb=>?_,λb hb=>h2 x (by simp) b hb,h3⟩
   rcases List.mem_cons.1 hb with rfl|hb
   ·exact h1 a ha
   ·exact h2 a (by simp[ha]) b hb
  ·rintro⟨h1,h2,h3⟩
   refine⟨λa ha=>h1 a ha x (by simp),λa ha b hb=>?_,h3⟩
   rcases List.mem_append.1 ha with ha|ha
   ·exact h1 a ha b (by simp[hb])
   ·simp at ha;subst ha;exact h2 b hb
theorem ajU(a b c:aq)(h1:ltA a b=true)(h2:ltA b c=true):ltA a c=true:=by simp[ltA]at *;omega
theorem agw{n:Int}:rK n a=false↔0≤a.Bit∧a.Bit<n∧(1≤a.aO∧a.aO≤99)∧1≤a.To∧a.To≤99:=by
 simp[rK,rtB]
theorem agx:y7 a=false↔1≤a.Kind∧a.Kind≤3:=by simp[y7]
theorem agy:y8 a=false↔(a.To=a.aO↔a.Kind=3):=by
 unfold y8
 by_cases h1:a.To=a.aO<;>by_cases h2:a.Kind=3<;>simp[h1,h2]
theorem kH{e:aC}:mT e=0↔Ve e:=by
 unfold mT
 constructor
 ·intro h
  cases h1:kT e.Length with
  |false=>simp[h1]at h
  |true=>
  cases h2:e.List.any (rK e.Length)with
  |true=>simp[h1,h2]at h
  |false=>
  cases h3:e.List.any y7 with
  |true=>simp[h1,h2,h3]at h
  |false=>
  cases h4:e.List.any y8 with
  |true=>simp[h1,h2,h3,h4]at h
  |false=>
  cases h5:jZ ltA e.List with
  |false=>simp[h1,h2,h3,h4,h5]at h
  |true=>
  cases h6:th pL [] e.List with
  |true=>simp[h1,h2,h3,h4,h5,h6]at h
  |false=>
  rw[any_false]at h2 h3 h4
  refine⟨by simpa [kT]using h1,λa ha=>agw.1 (h2 a ha),λa ha=>agx.1 (h3 a ha),λa ha=>agy.1 (h4 a ha),?_,?_⟩
  ·exact(qa ajU h5).imp (λh=>by simpa [ltA]using h)
  ·exact(acs.1 h6).2.imp (λ{a b} h e=>by rw[xk.2 e.symm]at h;cases h)
 ·intro h
  have h1:kT e.Length=true:=by simpa [kT]using h.len
  have h2:e.List.any (rK e.Length)=false:=any_false.2 λa ha=>agw.2 (h.rng a ha)
  have h3:e.List.any y7=false:=any_false.2 λa ha=>agx.2 (h.kind a ha)
  have h4:e.List.any y8=false:=any_false.2 λa ha=>agy.2 (h.aee a ha)
  have h5:jZ ltA e.List=true:=mR (h.asc.imp λh=>by simpa [ltA]using h)
  have h6:th pL [] e.List=false:=acs.2 ⟨by simp,h.dup.imp λ{a b} h=>by
   cases hs:pL b a
   ·rfl
   ·exact absurd (xk.1 hs).symm h⟩
  simp[h1,h2,h3,h4,h5,h6]
def wB(r:Int)(a:Int)(x:aq):Int:=if x.aO=r then br .or .u64 a (uK x.Bit.toNat)else a
def qI(e:aC)(r:Int):Int:=if mT e=0 then e.List.foldl (wB r) 0 else 0
theorem ae2{σ:Type}{B:Int→α→(σ→Option β)→σ→Option β}{K:σ→Option β}(g:σ→α→σ)(hB:∀j x,x∈L→∀Z s,B j x Z s=Z (g s x))(s:σ):bO L 0 B K s=K (L.foldl g s):=by
 have key:∀(l:List α) (j:Nat) (s:σ),(∀x∈l,x∈L)→bO l j B K s=K (l.foldl g s):=by
  intro l
  induction l with
  |nil=>intro j s _;rfl
  |cons x r ih=>
   intro j s h
   simp only[bO]
   rw[hB _ x (h x (by simp)),ih (j+1) _ (λy hy=>h y (by simp[hy])),List.foldl_cons]
 exact key L 0 s (λ_ h=>h)
theorem Ve.bit{e:aC}(h:Ve e)(ha:a∈e.List):0≤a.Bit∧a.Bit<64:=by
 have:=h.rng a ha;have:=h.len;omega
theorem ahL(e:aC)(r:Int)(hl:e.List.length≤1000000):lP e r=some (qI e r):=by
 unfold lP qI
 simp only[wA e hl,aM,jn]
 by_cases h:mT e=0
 ·have hv:=kH.1 h
  simp only[h,decide_true,cond_true,if_true]
  refine ae2 (wB r) (λj x hx Z s=>?_) 0
  obtain⟨b1,b2⟩:=hv.bit hx
  unfold wB
  by_cases hr:x.aO=r
  ·simp only[hr,decide_true,cond_true,if_true,b1,chk,aaA b1 b2]
  ·simp[hr]
 ·simp[h]
theorem ae3(e:aC)(r:Int)(hl:e.List.length≤1000000):ue e r=some (qI e r):=by
 unfold ue qI
 simp only[oE e hl,aM,jn]
 by_cases h:mT e=0
 ·have hv:=kH.1 h
  simp only[h,decide_true,cond_true,if_true]
  refine ae2 (wB r) (λj x hx Z s=>?_) 0
  obtain⟨b1,b2⟩:=hv.bit hx
  unfold wB
  by_cases hr:x.aO=r
  ·have e1:IntKind.wrap .u64 x.Bit=x.Bit:=wrap_u64 b1 (by omega)
   simp only[hr,decide_true,cond_true,if_true,e1,b1,chk,aaA b1 b2]
  ·simp[hr]
 ·simp[h]
def xm(e:aC)(r k t:Int):Int×Bool:=match e.List.find? (λa=>decide (a.aO=r)&&(decide (a.Kind=k)&&decide (a.To=t)))with|some a=>(a.Bit,true)|none=>(0,false)
def nw(e:aC)(r k t:Int):Int×Bool:=if mT e=0 then xm e r k t else(0,false)
theorem adp(e:aC)(r k t:Int)(hl:e.List.length≤1000000):ov e r k t=some (nw e r k t):=by
 unfold ov nw xm
 simp only[oE e hl,aM,jn]
 by_cases h:mT e=0
 ·simp only[h,decide_true,cond_true,if_true]
  refine(aeS (λa:aq=>decide (a.aO=r)&&(decide (a.Kind=k)&&decide (a.To=t))) (λa=>some (a.Bit,true)) (by intros;rfl) _ _ _).trans ?_
  cases e.List.find? (λa=>decide (a.aO=r)&&(decide (a.Kind=k)&&decide (a.To=t)))<;>rfl
 ·simp[h]
end Go.Proofs.YtdjeacigeegklaaGreat
namespace Go.Proofs.YtdjeacigeegklaaGreat
set_option linter.all false
open Go
def xO(h:aN):Bool:=!rtB h.bn||!rtB h.To
def ltH(a b:aN):Bool:=decide (a.bn<b.bn)||(decide (a.bn=b.bn)&&decide (a.To<b.To))
def aaB(a b:aN):Bool:=decide (b.To=a.To)
def wC(root:Int):List aN→List aN→Bool
 |_,[]=>false
 |p,x::r=>(p.any (aaB x)||decide (x.To=root))||wC root (p++[x]) r
inductive Rch(root:Int)(L:List aN):Int→Prop
 |root:Rch root L root
 |step (h:aN):h∈L→Rch root L h.bn→Rch root L h.To
noncomputable def ckT(t:dz):Int:=
 bif !rtB t.cz||t.Links.any xO then 2 else bif jZ ltH t.Links then(bif wC t.cz [] t.Links then 8 else @ite Int (∀h∈t.Links,Rch t.cz t.Links h.bn) (Classical.propDecidable _) 0 10)else 25
def qJ(f:Int→Bool)(L:List aN):Nat:=(L.filter λh=>!f h.To).length
variable {f:Int→Bool}
theorem ahM{g:Int→Bool}(h:∀x,f x=true→g x=true)(L:List aN):qJ g L≤qJ f L:=by
 unfold qJ
 induction L with
 |nil=>simp
 |cons a r ih=>
  simp only[List.filter_cons]
  cases hf:f a.To
  ·cases hg:g a.To<;>simp<;>omega
  ·rw[h _ hf];simpa using ih
theorem aef{f g:Int→Bool}(h:∀x,f x=true→g x=true){a:aN}:∀{L:List aN},a∈L→f a.To=false→g a.To=true→qJ g L<qJ f L
 |[],ha,_,_=>by cases ha
 |b::r,ha,h1,h2=>by
  have hle:=ahM h r
  unfold qJ at *
  simp only[List.filter_cons]
  rcases List.mem_cons.1 ha with rfl|ha
  ·rw[h1,h2];simp;omega
  ·have ih:=aef h ha h1 h2
   unfold qJ at ih
   cases hf:f b.To
   ·cases hg:g b.To<;>simp<;>omega
   ·rw[h _ hf];simpa using ih
structure RI(root:Int)(L:List aN)(f:Int→Bool):Prop where
 rt:f root=true
 sub:∀x,f x=true→Rch root L x
structure RJ(root:Int)(L:List aN)(f0:Int→Bool)(p:List aN)(g:Bool)(f:Int→Bool):Prop where
 ri:RI root L f
 up:∀x,f0 x=true→f x=true
 no:g=false→(∀x,f x=f0 x)∧∀h∈p,f h.bn=true→f h.To=true
 yes:g=true→qJ f L<qJ f0 L
variable {L:List aN}{root:Int}
theorem RJ.start(h:RI root L f):RJ root L f [] false f:=⟨h,λ_=>id,λ_=>⟨λ_=>rfl,by simp⟩,λh=>by cases h⟩
variable {f0:Int→Bool}{h:aN}{p:List aN}
theorem RJ.add{f':Int→Bool}{g:Bool}(j:RJ root L f0 p g f)(hm:h∈L)(h1:f h.bn=true)(h2:f h.To=false)(hf:∀y,f' y=(decide (y=h.To)||f y)):RJ root L f0 (p++[h]) true f':=by
 have up:∀x,f x=true→f' x=true:=λx hx=>by rw[hf,hx];simp
 have hl:qJ f' L<qJ f L:=aef up hm h2 (by rw[hf];simp)
 refine⟨⟨up _ j.ri.rt,λx hx=>?_⟩,λx hx=>up x (j.up x hx),λh=>(by cases h),λ_=>?_⟩
 ·rw[hf,Bool.or_eq_true,decide_eq_true_eq]at hx
  rcases hx with rfl|hx
  ·exact .step h hm (j.ri.sub _ h1)
  ·exact j.ri.sub x hx
 ·have:=ahM j.up L;omega
theorem RJ.pass{g:Bool}(j:RJ root L f0 p g f)(hn:f h.bn=false∨f h.To=true):RJ root L f0 (p++[h]) g f:=by
 refine⟨j.ri,j.up,λhg=>⟨(j.no hg).1,λx hx hf=>?_⟩,j.yes⟩
 rcases List.mem_append.1 hx with hx|hx
 ·exact(j.no hg).2 x hx hf
 ·simp at hx;subst hx
  rcases hn with hn|hn
  ·rw[hn]at hf;cases hf
  ·exact hn
theorem RI.done(h:RI root L f)(hc:∀x∈L,f x.bn=true→f x.To=true)(x:Int):f x=true↔Rch root L x:=by
 refine⟨h.sub x,λhr=>?_⟩
 induction hr with
 |root=>exact h.rt
 |step y hy _ ih=>exact hc y hy ih
theorem agz(f:Int→Bool)(L:List aN):qJ f L≤L.length:=List.length_filter_le _ _
theorem aqR(l:List Int)(a x:Int):decide (x∈l++[a])=(decide (x=a)||decide (x∈l)):=by
 by_cases h1:x=a<;>by_cases h2:x∈l<;>simp[h1,h2]
theorem auJ{a b:aN}:(decide (b.bn<a.bn)||(decide (a.bn=b.bn)&&decide (b.To≤a.To)))=!ltH a b:=by
 unfold ltH
 by_cases h1:b.bn<a.bn
 ·have h2:¬a.bn<b.bn:=by omega
  have h3:¬a.bn=b.bn:=by omega
  simp[h1,h2,h3]
 ·by_cases h2:a.bn=b.bn
  ·by_cases h3:a.To<b.To
   ·have h4:¬b.To≤a.To:=by omega
    simp[h1,h2,h3,h4]
   ·have h4:b.To≤a.To:=by omega
    simp[h1,h2,h3,h4]
  ·have h3:a.bn<b.bn:=by omega
   simp[h1,h2,h3]
theorem xo(t:dz)(hl:t.Links.length≤1000000):jO t=some (ckT t):=by
 unfold jO ir
 simp only[aM]
 refine(acr xO (λj x Z s=>by
  unfold xO rtB
  cases s
  ·rfl
  cases decide (1≤x.bn)&&decide (x.bn≤99)<;>simp) _ _ _).trans ?_
 unfold ckT
 have e0:((decide (1≤t.cz)&&decide (t.cz≤99))&&!t.Links.any xO)=!(!rtB t.cz||t.Links.any xO):=by
  unfold rtB;cases(decide (1≤t.cz)&&decide (t.cz≤99))<;>simp
 rw[e0,Bool.not_not]
 cases(!rtB t.cz||t.Links.any xO)
 ·simp only[cond_false]
  refine(rX ltH (some 25) (λj x y r q s Z hL hj=>by
   simp only[p9 hL hj (by omega),aM,auJ]
   cases ltH y x<;>rfl) _).trans ?_
  cases jZ ltH t.Links
  ·rfl
  ·simp only[cond_true]
   refine(kS (L:=t.Links) (λ_ _=>True) (λp l=>bif wC t.cz p l then some 8 else some (@ite Int (∀h∈t.Links,Rch t.cz t.Links h.bn) (Classical.propDecidable _) 0 10)) (λs _=>?_) (λp x r s Z h _ hZ=>?_) t.Links [] () rfl trivial).trans ?_
   ·simp only[wC,cond_false]
    refine Ok.eq (Ok.whl (λsg:List Int×Bool=>(RI t.cz t.Links (λx=>decide (x∈sg.1))∧(sg.2=false→∀x∈t.Links,x.bn∈sg.1→x.To∈sg.1))∧sg.1.length+qJ (λx=>decide (x∈sg.1)) t.Links≤1+t.Links.length) (λsg=>2*qJ (λx=>decide (x∈sg.1)) t.Links+if sg.2 then 1 else 0) ?_ ?_ ?_)
    ·refine⟨⟨⟨by simp,λx hx=>?_⟩,λh=>by cases h⟩,?_⟩
     ·simp at hx;subst hx;exact .root
     ·have:=agz (λx=>decide (x∈[t.cz])) t.Links
      simp only[List.length_singleton];omega
    ·have:=agz (λx=>decide (x∈[t.cz])) t.Links
     show 2*qJ (λx=>decide (x∈[t.cz])) t.Links+1<_
     omega
    ·rintro⟨m,g⟩ Z ⟨⟨h1,h2⟩,h3⟩ hZ
     refine Ok.cs (λhg=>?_) (λhg=>?_)
     ·refine Ok.yW (L:=t.Links) (λp (sg:List Int×Bool)=>RJ t.cz t.Links (λx=>decide (x∈m)) p sg.2 (λx=>decide (x∈sg.1))∧sg.1.length+qJ (λx=>decide (x∈sg.1)) t.Links≤1+t.Links.length) (λp x r s Z2 hL hI hZ2=>?_) (m,false) ⟨RJ.start h1,h3⟩ (λs hs=>?_)
      ·obtain⟨m2,g2⟩:=s
       obtain⟨hI,hI2⟩:=hI
       simp only at hI2
       have hm:x∈t.Links:=by rw[hL];simp
       simp only[jn,acq,aM]
       by_cases c1:x.bn∈m2
       ·by_cases c2:x.To∈m2
        ·simp only[c1,c2,decide_true,cond_true,Bool.not_true,cond_false]
         exact hZ2 _ ⟨hI.pass (.inr (by simpa using c2)),hI2⟩
        ·simp only[c1,c2,decide_true,cond_true,decide_false,Bool.not_false]
         refine Ok.bnd (p8 (by simp only[List.length_singleton];omega)) λm3 q3=>?_
         rw[q3.1]
         have hlt:=aef (f:=λy=>decide (y∈m2)) (g:=λy=>decide (y∈m2++[x.To])) (λy hy=>by simp at hy;simp[hy]) hm (by simpa using c2) (by simp)
         refine hZ2 _ ⟨hI.add hm (by simpa using c1) (by simpa using c2) (λy=>aqR m2 x.To y),?_⟩
         simp only[List.length_append,List.length_singleton];omega
       ·simp only[c1,decide_false,cond_false]
        exact hZ2 _ ⟨hI.pass (.inl (by simpa using c1)),hI2⟩
      ·obtain⟨m2,g2⟩:=s
       obtain⟨hs,hs2⟩:=hs
       have hg:g=true:=hg
       subst hg
       refine hZ (m2,g2) ⟨⟨hs.ri,λhg2 x hx hf=>by simpa using (hs.no hg2).2 x hx (by simpa using hf)⟩,hs2⟩ ?_
       cases g2
       ·have e:(λx=>decide (x∈m2))=(λx=>decide (x∈m)):=funext (hs.no rfl).1
        simp only[e];simp
       ·have:=hs.yes rfl
        simp;omega
     ·have hd:=h1.done (λx hx hf=>by simpa using h2 hg x hx (by simpa using hf))
      refine⟨@ite Int (∀h∈t.Links,Rch t.cz t.Links h.bn) (Classical.propDecidable _) 0 10,(gL (λx:aN=>!decide (x.bn∈m)) (some 10) (λj x Z s=>by simp only[acq,aM]) _ _ _).trans ?_,rfl⟩
      by_cases hall:∀h∈t.Links,Rch t.cz t.Links h.bn
      ·rw[if_pos hall,any_false.2 (λx hx=>by have:=(hd x.bn).2 (hall x hx);simpa using this)];rfl
      ·rw[if_neg hall]
       have:t.Links.any (λx:aN=>!decide (x.bn∈m))=true:=by
        refine Classical.byContradiction λhn=>hall λh hh=>(hd h.bn).1 ?_
        have:=any_false.1 (Bool.not_eq_true _▸hn) h hh
        simpa using this
       rw[this];rfl
   ·simp only[ahK h,aM]
    refine(gL (aaB x) (some 8) (by intros;rfl) _ _ _).trans ?_
    rw[hZ () trivial,wC]
    cases p.any (aaB x)
    ·cases decide (x.To=t.cz)<;>rfl
    ·rfl
   ·cases wC t.cz [] t.Links<;>rfl
 ·rfl
structure Vr(t:dz):Prop where
 rt:1≤t.cz∧t.cz≤99
 rng:∀h∈t.Links,(1≤h.bn∧h.bn≤99)∧1≤h.To∧h.To≤99
 asc:t.Links.Pairwise λa b=>ltH a b=true
 dup:t.Links.Pairwise λa b=>a.To≠b.To
 nrt:∀h∈t.Links,h.To≠t.cz
 rch:∀h∈t.Links,Rch t.cz t.Links h.bn
theorem ae4(a b c:aN)(h1:ltH a b=true)(h2:ltH b c=true):ltH a c=true:=by
 simp[ltH]at *;omega
theorem acu{root:Int}:∀{l p:List aN},wC root p l=false↔(∀a∈p,∀b∈l,a.To≠b.To)∧(∀b∈l,b.To≠root)∧l.Pairwise λa b=>a.To≠b.To
 |[],p=>by simp[wC]
 |x::r,p=>by
  rw[wC,Bool.or_eq_false_iff,Bool.or_eq_false_iff,acu,any_false,List.pairwise_cons]
  constructor
  ·rintro⟨⟨h1,h0⟩,h2,h4,h3⟩
   refine⟨λa ha b hb=>?_,λb hb=>?_,λb hb=>h2 x (by simp) b hb,h3⟩
   ·rcases List.mem_cons.1 hb with rfl|hb
    ·have:=h1 a ha;simpa [aaB]using this
    ·exact h2 a (by simp[ha]) b hb
   ·rcases List.mem_cons.1 hb with rfl|hb
    ·simpa using h0
    ·exact h4 b hb
  ·rintro⟨h1,h4,h2,h3⟩
   refine⟨⟨λa ha=>by simpa [aaB]using h1 a ha x (by simp),by simpa using h4 x (by simp)⟩,λa ha b hb=>?_,λb hb=>h4 b (by simp[hb]),h3⟩
   rcases List.mem_append.1 ha with ha|ha
   ·exact h1 a ha b (by simp[hb])
   ·simp at ha;subst ha;exact h2 b hb
theorem aeg{n:Int}:rtB n=true↔1≤n∧n≤99:=by simp[rtB]
theorem agA:xO h=false↔(1≤h.bn∧h.bn≤99)∧1≤h.To∧h.To≤99:=by
 simp[xO,aeg]
variable {t:dz}
theorem adq:ckT t=0↔Vr t:=by
 unfold ckT
 constructor
 ·intro h
  cases h1:rtB t.cz with
  |false=>simp[h1]at h
  |true=>
  cases h2:t.Links.any xO with
  |true=>simp[h1,h2]at h
  |false=>
  cases h3:jZ ltH t.Links with
  |false=>simp[h1,h2,h3]at h
  |true=>
  cases h4:wC t.cz [] t.Links with
  |true=>simp[h1,h2,h3,h4]at h
  |false=>
  by_cases h5:∀h∈t.Links,Rch t.cz t.Links h.bn
  ·obtain⟨d1,d2,d3⟩:=acu.1 h4
   exact⟨aeg.1 h1,λx hx=>agA.1 (any_false.1 h2 x hx),qa ae4 h3,d3,d2,h5⟩
  ·simp only[h1,h2,h3,h4,if_neg h5]at h
   cases h
 ·intro h
  have h1:rtB t.cz=true:=aeg.2 h.rt
  have h2:t.Links.any xO=false:=any_false.2 λx hx=>agA.2 (h.rng x hx)
  have h3:jZ ltH t.Links=true:=mR h.asc
  have h4:wC t.cz [] t.Links=false:=acu.2 ⟨by simp,h.nrt,h.dup⟩
  simp only[h1,h2,h3,h4,if_pos h.rch];rfl
noncomputable def qc(t:dz):List Int:=if ckT t=0 then jy (t.cz::t.Links.map (·.To))else[]
theorem Vr.nodup(h:Vr t):(t.cz::t.Links.map (·.To)).Nodup:=by
 rw[List.nodup_cons]
 refine⟨λhm=>?_,?_⟩
 ·obtain⟨x,hx,e⟩:=List.mem_map.1 hm
  exact h.nrt x hx e
 ·exact List.pairwise_map.2 h.dup
theorem aeh(h:Vr t){x:Int}:x∈qc t↔x=t.cz∨∃h∈t.Links,h.To=x:=by
 unfold qc;rw[if_pos (adq.2 h),xd];simp
theorem auK(t:dz):(qc t).Pairwise (·<·):=by
 unfold qc
 by_cases h:ckT t=0
 ·rw[if_pos h];exact yU (adq.1 h).nodup
 ·rw[if_neg h];simp
theorem aqS(t:dz):(qc t).length≤t.Links.length+1:=by
 unfold qc
 split
 ·rw[zS];simp
 ·simp
theorem ajV(l:List Int):∀(s:List Int),s.Pairwise (·<·)→(l.foldl j8 s).Pairwise (·<·)∧(∀x,x∈l.foldl j8 s↔x∈s∨x∈l)∧(l.foldl j8 s).length≤s.length+l.length:=by
 induction l with
 |nil=>intro s h;exact⟨h,λx=>by simp,by simp⟩
 |cons a r ih=>
  intro s h
  obtain⟨h1,h2,h3⟩:=ih (j8 s a) (aec h)
  refine⟨h1,λx=>?_,?_⟩
  ·rw[List.foldl_cons,h2,wz,List.mem_cons]
   constructor
   ·rintro((h|h)|h)<;>simp[h]
   ·rintro(h|h|h)<;>simp[h]
  ·have:=y5 s a
   rw[List.foldl_cons,List.length_cons];omega
theorem agB{α β:Type}{B:Int→α→(List Int→Option β)→List Int→Option β}{K:List Int→Option β}(f:α→Int)(hB:∀j x Z (s:List Int),s.length≤100000→B j x Z s=Z (j8 s (f x))):∀(l:List α) (j:Nat) (s:List Int),s.length+l.length≤100000→bO l j B K s=K ((l.map f).foldl j8 s)
 |[],_,s,_=>rfl
 |x::r,j,s,h=>by
  have:=y5 s (f x)
  simp only[List.length_cons]at h
  simp only[bO]
  rw[hB _ _ _ _ (by omega),agB f hB r (j+1) _ (by omega),List.map_cons,List.foldl_cons]
theorem zw(t:dz)(hl:t.Links.length≤90000):lN t=some (qc t):=by
 unfold lN qc
 simp only[xo t (by omega),aM]
 by_cases h:ckT t=0
 ·simp only[h,decide_true,Bool.not_true,cond_false,if_true]
  refine(agB (λx:aN=>x.To) (λj x Z s hs=>by rw[anJ _ _ hs];rfl) t.Links 0 [t.cz] (by simp;omega)).trans ?_
  obtain⟨h1,h2,h3⟩:=ajV (t.Links.map (·.To)) [t.cz] (by simp)
  rw[ux h1 (yU (adq.1 h).nodup) (λx=>by rw[h2,xd];simp)]
 ·simp[h]
theorem ajW(l:List Int)(hl:l.length≤1000000):l9 l=some (jZ (λa b=>decide (a<b)) l):=by
 unfold l9
 refine(rX (λa b:Int=>decide (a<b)) (some false) (λj x y r q s Z hL hj=>by
  simp only[p9 hL hj (by omega),aM]
  by_cases h:y<x
  ·have:¬x≤y:=by omega
   simp[h,this]
  ·have:x≤y:=by omega
   simp[h,this]) _).trans ?_
 cases jZ (λa b:Int=>decide (a<b)) l<;>rfl
end Go.Proofs.YtdjeacigeegklaaGreat
namespace Go.Proofs.YtdjeacigeegklaaGreat
set_option linter.all false
open Go
structure Vn(g:aa)(most:Int):Prop where
 v:Vt g
 n:1≤g.ah.length∧(g.ah.length:Int)≤most
 c:∀r∈g.ah,r.aa2=true
 i:∀r∈g.ah,r.ID≤5*most
def tri(n:Nat):Nat→Nat
 |0=>0
 |a+1=>tri n a+(n-1-a)
theorem ajX:∀n,n≤9→∀a,a≤n→tri n a≤36:=by decide
structure Mx(n:Nat)(M:List (List Bool)):Prop where
 len:M.length=n
 row:∀r∈M,r.length=n
 up:∀(a b:Nat) (r:List Bool),M[a]?=some r→r[b]?=some true→a<b
theorem Mx.set{n:Nat}{M:List (List Bool)}(h:Mx n M){a b:Nat}{r:List Bool}(hr:M[a]?=some r)(hab:a<b)(hb:b<n):Mx n (M.set a (r.set b true)):=by
 obtain⟨h1,h2,h3⟩:=h
 have hm:r∈M:=List.mem_of_getElem? hr
 refine⟨by simpa using h1,λq hq=>?_,λi j q hq hj=>?_⟩
 ·rcases List.mem_or_eq_of_mem_set hq with hq|rfl
  ·exact h2 q hq
  ·simpa using h2 r hm
 ·rw[List.getElem?_set]at hq
  by_cases hi:a=i
  ·subst hi
   have hlt:a<M.length:=(List.getElem?_eq_some_iff.1 hr).1
   simp only[if_true,hlt,Option.some.injEq]at hq
   subst hq
   rw[List.getElem?_set]at hj
   by_cases hbj:b=j
   ·omega
   ·rw[if_neg hbj]at hj;exact h3 a j r hr hj
  ·rw[if_neg hi]at hq;exact h3 i j q hq hj
variable {M:List (List Bool)}{i:Int}
theorem ajY{n:Nat}(h:Mx n M)(h0:0≤i)(hi:i<n):Ok (elO M i) (λr=>M[i.toNat]?=some r∧r.length=n):=by
 refine(iQ h0 (by rw[h.len];exact hi)).mono λr hr=>⟨hr.2,h.row r hr.1⟩
theorem agC{n:Nat}(h:Mx n M){j:Int}{γ:Type}{Q:γ→Prop}(k:List Bool→List Bool→Option γ)(h0:0≤i)(hij:i<j)(hj:j<n)(hk:∀r r2,Mx n (List.set M i.toNat r2)→Ok (k r r2) Q):
  Ok (bnd (elO M i) λe=>bnd (elO e j) λ_=>bnd (sO e j true) λl=>k e l) Q:=by
 refine Ok.bnd (ajY h h0 (by omega)) λr hr=>Ok.bnd (iQ (by omega) (by rw[hr.2];omega)) λ_ _=>?_
 refine Ok.bnd (agh (by omega) (by rw[hr.2];omega)) λl hl=>hk r l ?_
 rw[hl.1]
 exact h.set hr.1 (by omega) (by omega)
structure Lx(R:List aR)(ls:List aW)(a b:Nat):Prop where
 at_:∀l∈ls,∃i j x y,i<j∧R[i]?=some x∧R[j]?=some y∧l.A=x.ID∧l.B=y.ID∧(i<a∨i=a∧j<b)
 ok:∀l∈ls,uI l=false
 asc:ls.Pairwise λx y=>ltL x y=true
 len:ls.length≤tri R.length a+(b-(a+1))
variable {x:aR}
theorem aiL{R:List aR}(h:R.Pairwise λa b=>a.ID<b.ID){i j:Nat}{y:aR}(hx:R[i]?=some x)(hy:R[j]?=some y)(hij:i<j):x.ID<y.ID:=by
 obtain⟨h1,rfl⟩:=List.getElem?_eq_some_iff.1 hx
 obtain⟨h2,rfl⟩:=List.getElem?_eq_some_iff.1 hy
 exact List.pairwise_iff_getElem.1 h i j h1 h2 hij
variable {a b:Nat}{ls:List aW}
theorem Lx.add{R:List aR}(h:Lx R ls a b)(hR:R.Pairwise λa b=>a.ID<b.ID){l:aW}{y:aR}(hab:a<b)(hx:R[a]?=some x)(hy:R[b]?=some y)(hA:l.A=x.ID)(hB:l.B=y.ID)(hl:uI l=false):Lx R (ls++[l]) a (b+1):=by
 refine⟨λm hm=>?_,λm hm=>?_,?_,?_⟩
 ·rcases List.mem_append.1 hm with hm|hm
  ·obtain⟨i,j,x,y,h1,h2,h3,h4,h5,h6⟩:=h.at_ m hm
   exact⟨i,j,x,y,h1,h2,h3,h4,h5,by omega⟩
  ·simp at hm;subst hm
   exact⟨a,b,x,y,hab,hx,hy,hA,hB,by omega⟩
 ·rcases List.mem_append.1 hm with hm|hm
  ·exact h.ok m hm
  ·simp at hm;subst hm;exact hl
 ·refine List.pairwise_append.2 ⟨h.asc,by simp,λm hm q hq=>?_⟩
  simp at hq;subst hq
  obtain⟨i,j,x',y',h1,h2,h3,h4,h5,h6⟩:=h.at_ m hm
  simp only[ltL,Bool.or_eq_true,Bool.and_eq_true,decide_eq_true_eq]
  rcases h6 with h6|⟨rfl,h6⟩
  ·have:=aiL hR h2 hx h6;left;omega
  ·rw[hx]at h2;cases h2
   have:=aiL hR h3 hy h6;right;omega
 ·have:=h.len;simp;omega
theorem Lx.skip{R:List aR}(h:Lx R ls a b):Lx R ls a (b+1):=
 ⟨λm hm=>by
  obtain⟨i,j,x,y,h1,h2,h3,h4,h5,h6⟩:=h.at_ m hm
  exact⟨i,j,x,y,h1,h2,h3,h4,h5,by omega⟩,h.ok,h.asc,by have:=h.len;omega⟩
theorem Lx.next{R:List aR}(h:Lx R ls a b)(hb:b=R.length):Lx R ls (a+1) 0:=
 ⟨λm hm=>by
  obtain⟨i,j,x,y,h1,h2,h3,h4,h5,h6⟩:=h.at_ m hm
  exact⟨i,j,x,y,h1,h2,h3,h4,h5,by omega⟩,h.ok,h.asc,by have:=h.len;simp only[tri];omega⟩
theorem agD{t:bM}{most:Int}(h:ga t)(hm:1≤most∧most≤9):Ok (ow t most) (λp=>Vn p.1 most∧ga p.2):=by
 unfold ow
 refine Ok.bnd (aeb h) λp hp=>?_
 obtain⟨n,t1⟩:=p
 obtain⟨hn,ht⟩:=hp
 have hn:1≤n∧n≤most:=hn (by omega) (by omega) (by omega)
 have ht:ga t1:=ht
 refine Ok.chk (by simp;omega) ?_
 refine Ok.nM (λj (sg:Int×List aR×List Int×Int)=>(0≤sg.1∧sg.1≤5*j)∧(sg.2.1.length:Int)=j∧sg.2.1.Pairwise (λa b=>a.ID<b.ID)∧(∀r∈sg.2.1,(1≤r.ID∧r.ID≤sg.1)∧r.aa2=true)∧ga (bM.mk sg.2.2.1 sg.2.2.2)) 0 n ?_ ?_ _ _ _ rfl (by omega) (by omega) ⟨by simp,by simp,by simp,by simp,ht⟩
 ·rintro j ⟨id,m,L,A⟩ Z h1 h2 ⟨⟨i0,i1⟩,i2,i3,i4,i5⟩ hZ
  simp only at i0 i1 i2 i3 i4
  refine Ok.bnd (adm i5 (by simp) (by simp)) λq hq=>?_
  obtain⟨hq,hq2⟩:=hq
  have hb:1≤q.1∧q.1≤5:=by
   simp only[List.mem_cons,List.not_mem_nil,or_false]at hq;omega
  rw[gO (by omega) (by omega)]
  refine Ok.bnd (p8 (by simp;omega)) λm2 q2=>hZ _ ⟨⟨by simp only;omega,by simp only;omega⟩,?_,?_,?_,hq2⟩
  ·have:=q2.2;simp at this ⊢;omega
  ·simp only[q2.1]
   refine List.pairwise_append.2 ⟨i3,by simp,λa ha b hb2=>?_⟩
   simp at hb2;subst hb2
   have:=(i4 a ha).1;simp only;omega
  ·simp only[q2.1]
   intro r hr
   rcases List.mem_append.1 hr with hr|hr
   ·have:=i4 r hr;exact⟨⟨this.1.1,by have:=this.1.2;omega⟩,this.2⟩
   ·simp at hr;subst hr;exact⟨⟨by simp only;omega,by simp only;omega⟩,rfl⟩
 rintro j ⟨id,R,L,A⟩ h1 h2 ⟨⟨i0,i1⟩,i2,i3,i4,i5⟩
 have hj:j=n:=h2 (by omega)
 subst hj
 simp only at i0 i1 i2 i3 i4
 have hN:R.length=j.toNat:=by omega
 refine Ok.chk (by simp;omega) (Ok.chk (by simp;omega) ?_)
 refine Ok.nM (λi (M:List (List Bool))=>M.length=j.toNat∧∀(k:Nat),(k:Int)<i→M[k]?=some (List.replicate j.toNat false)) 0 j ?_ ?_ _ _ _ (by simp;omega) (by omega) (by omega) ⟨by simp,λk hk=>by omega⟩
 ·rintro i M Z q1 q2 ⟨e1,e2⟩ hZ
  refine Ok.chk (by simp;omega) (Ok.bnd (iQ q1 (by omega)) λ_ _=>hZ _ ⟨by simpa using e1,λk hk=>?_⟩)
  rw[List.getElem?_set]
  by_cases hki:i.toNat=k
  ·rw[if_pos hki,if_pos (by omega)]
  ·rw[if_neg hki];exact e2 k (by omega)
 rintro i M q1 q2 ⟨e1,e2⟩
 have hi:i=j:=q2 (by omega)
 subst hi
 have hM:Mx i.toNat M:=by
  have hall:∀(a:Nat) r,M[a]?=some r→r=List.replicate i.toNat false:=λa r hr=>by
   have hlt:a<M.length:=(List.getElem?_eq_some_iff.1 hr).1
   rw[e2 a (by omega)]at hr;exact(Option.some.inj hr).symm
  refine⟨e1,λr hr=>?_,λa b r hr hb=>?_⟩
  ·obtain⟨a,ha⟩:=List.getElem?_of_mem hr
   rw[hall a r ha];simp
  ·rw[hall a r hr]at hb
   have:=List.mem_of_getElem? hb
   simp at this
 clear e1 e2
 refine Ok.chk (by simp;omega) ?_
 refine Ok.nM (λk (sg:List Int×Int×List (List Bool))=>ga (bM.mk sg.1 sg.2.1)∧Mx i.toNat sg.2.2) 1 i ?_ ?_ _ _ _ rfl (by omega) (by omega) ⟨i5,hM⟩
 ·rintro k ⟨L1,A1,M1⟩ Z k1 k2 ⟨e1,e2⟩ hZ
  refine Ok.jn (λsg:List (List Bool)×List Int×Int=>ga (bM.mk sg.2.1 sg.2.2)∧Mx i.toNat sg.1) (λs hs=>hZ _ hs) λJ hJ=>?_
  refine Ok.bnd (f_n e1 (by omega)) λv hv=>Ok.cs (λ_=>?_) λ_=>hJ _ ⟨hv.2,e2⟩
  refine Ok.bnd (f_n hv.2 (by omega)) λu hu=>?_
  exact agC e2 (λ_ l=>J (List.set M1 u.1.toNat l,u.2.L,u.2.At)) hu.1.1 (hu.1.2.1 (by omega)) (by omega) λr r2 hr2=>hJ _ ⟨hu.2,hr2⟩
 rintro k ⟨L1,A1,M1⟩ k1 k2 ⟨e1,e2⟩
 refine Ok.bnd (f_n e1 (ajT _).1) λv hv=>?_
 rw[gO (n:=i+2) (by omega) (by omega)]at hv
 have hv1:=hv.1.2.1 (by omega)
 refine Ok.whl (λsg:Int×List Int×Int×List (List Bool)=>(0≤sg.1∧sg.1≤11)∧ga (bM.mk sg.2.1 sg.2.2.1)∧Mx i.toNat sg.2.2.2) (λsg=>sg.1.toNat) ⟨⟨hv.1.1,by simp only;omega⟩,hv.2,e2⟩ (by simp only;omega) ?_
 rintro⟨c,L2,A2,M2⟩ Z ⟨⟨c0,c1⟩,e3,e4⟩ hZ
 simp only at c0 c1
 refine Ok.cs (λhc=>?_) λhc=>?_
 ·have hc:0<c:=by simpa using hc
  refine Ok.jn (λsg:List (List Bool)×List Int×Int=>ga (bM.mk sg.2.1 sg.2.2)∧Mx i.toNat sg.1) (λs hs=>?_) λJ hJ=>?_
  ·rw[gO (n:=c-1) (by omega) (by omega)]
   exact hZ _ ⟨⟨by simp only;omega,by simp only;omega⟩,hs.1,hs.2⟩ (by simp only;omega)
  ·refine Ok.bnd (f_n e3 (by omega)) λa ha=>Ok.bnd (f_n ha.2 (by omega)) λb hb=>?_
   have ha1:=ha.1.2.1 (by omega);have hb1:=hb.1.2.1 (by omega);have ha0:=ha.1.1;have hb0:=hb.1.1
   refine Ok.cs (λhne=>?_) λ_=>hJ _ ⟨hb.2,e4⟩
   have hne:a.1≠b.1:=by simpa using hne
   refine agC e4 (λ_ l=>J (List.set M2 _ l,b.2.L,b.2.At)) (by split<;>omega) (by split<;>split<;>omega) (by split<;>omega) λr r2 hr2=>hJ _ ⟨hb.2,hr2⟩
 clear hZ e2 hM hv hv1 e1
 refine Ok.bnd (f_n e3 (by omega)) λw hw=>?_
 have hML:M2.length=i.toNat:=e4.len
 refine Ok.chk (by simp;omega) ?_
 refine Ok.nM (λa (sg:List aW×List Int×Int)=>Lx R sg.1 a.toNat 0∧ga (bM.mk sg.2.1 sg.2.2)) 0 i ?_ ?_ _ _ _ (by rw[hML];omega) (by omega) (by omega) ⟨⟨by simp,by simp,by simp,by simp⟩,hw.2⟩
 ·rintro a ⟨ls,L3,A3⟩ Z a0 a1 ⟨e5,e6⟩ hZ
  refine Ok.chk (by simp;omega) ?_
  refine Ok.nM (λb (sg:List aW×List Int×Int)=>Lx R sg.1 a.toNat b.toNat∧ga (bM.mk sg.2.1 sg.2.2)) 0 i ?_ ?_ _ _ _ (by rw[hML];omega) (by omega) (by omega) ⟨e5,e6⟩
  ·rintro b ⟨ls,L4,A4⟩ Z2 b0 b1 ⟨e7,e8⟩ hZ2
   have e7:Lx R ls a.toNat b.toNat:=e7
   have e8:ga (bM.mk L4 A4):=e8
   have hsk:Lx R ls a.toNat (b+1).toNat:=by rw[show(b+1).toNat=b.toNat+1 by omega];exact e7.skip
   refine Ok.jn (λsg:List Int×Int×List aW=>ga (bM.mk sg.1 sg.2.1)∧Lx R sg.2.2 a.toNat (b+1).toNat) (λs hs=>hZ2 _ ⟨hs.2,hs.1⟩) λJ3 hJ3=>?_
   refine Ok.bnd (ajY e4 a0 (by omega)) λrow hrow=>Ok.bnd (iQ b0 (by rw[hrow.2];omega)) λc hc=>?_
   cases c with
   |false=>exact hJ3 _ ⟨e8,hsk⟩
   |true=>
    have hab:a.toNat<b.toNat:=e4.up _ _ _ hrow.1 hc.2
    simp only[Bool.not_true,cond_false]
    refine Ok.bnd (iQ a0 (by omega)) λx hx=>Ok.bnd (iQ b0 (by omega)) λy hy=>Ok.bnd (adm e8 (by simp) (by simp)) λcp hcp=>?_
    have hcap:0≤cp.1∧cp.1≤1000:=by
     have:=hcp.1;simp only[List.mem_cons,List.not_mem_nil,or_false]at this;omega
    have hlen:ls.length≤36+9:=by
     have:=e7.len;have:=ajX R.length (by omega) a.toNat (by omega);omega
    refine Ok.jn (λsg:List Int×Int×Int×Int=>ga (bM.mk sg.1 sg.2.1)∧(1≤sg.2.2.1∧sg.2.2.1≤1000)∧1≤sg.2.2.2∧sg.2.2.2≤1000) (λs hs=>?_) λJ4 hJ4=>?_
    ·obtain⟨L5,A5,ca,cb⟩:=s
     obtain⟨s1,s2,s3⟩:=hs
     simp only at s2 s3
     refine Ok.bnd (p8 (by simp;omega)) λls2 q2=>hJ3 _ ⟨s1,?_⟩
     rw[q2.1,show(b+1).toNat=b.toNat+1 by omega]
     refine e7.add i3 hab hx.2 hy.2 rfl rfl ?_
     simp only[uI,xb]
     simp;omega
    ·refine Ok.cs (λ_=>?_) λ_=>hJ4 _ ⟨hcp.2,by simp only;omega,by simp only;omega⟩
     refine Ok.bnd (aeb hcp.2) λr1 hr1=>Ok.bnd (adm hr1.2 (by simp) (by simp)) λp1 hp1=>Ok.bnd (aeb hp1.2) λr2 hr2=>Ok.bnd (adm hr2.2 (by simp) (by simp)) λp2 hp2=>hJ4 _ ⟨hp2.2,?_,?_⟩
     ·have h1:=hr1.1 (by omega) (by omega) (by omega);have h2:=hp1.1
      simp only[List.mem_cons,List.not_mem_nil,or_false]at h2 ⊢;omega
     ·have h1:=hr1.1 (by omega) (by omega) (by omega);have h2:=hp1.1;have h3:=hr2.1 (by omega) (by omega) (by omega);have h4:=hp2.1
      simp only[List.mem_cons,List.not_mem_nil,or_false]at h2 h4 ⊢;omega
  ·rintro b ⟨ls,L4,A4⟩ b0 b1 ⟨e7,e8⟩
   have hb:b=i:=b1 (by omega)
   subst hb
   refine hZ _ ⟨?_,e8⟩
   rw[show(a+1).toNat=a.toNat+1 by omega]
   exact e7.next (by omega)
 ·rintro a ⟨ls,L3,A3⟩ a0 a1 ⟨e5,e6⟩
  have ha:a=i:=a1 (by omega)
  subst ha
  have e5:Lx R ls a.toNat 0:=e5
  have hlen:ls.length≤36:=by
   have:=e5.len;have:=ajX R.length (by omega) a.toNat (by omega);omega
  refine Ok.s ⟨⟨⟨?_,?_,λr hr=>?_,i3,e5.ok,λl hl=>?_,λl hl=>?_,e5.asc⟩,⟨?_,?_⟩,λr hr=>(i4 r hr).2,λr hr=>?_⟩,e6⟩
  ·show R.length≤24;omega
  ·show ls.length≤60;omega
  ·have:=(i4 r hr).1;omega
  ·obtain⟨i,j,x,y,q1,q2,q3,q4,q5,_⟩:=e5.at_ l hl
   exact⟨wj.2 ⟨x,List.mem_of_getElem? q2,q4.symm⟩,wj.2 ⟨y,List.mem_of_getElem? q3,q5.symm⟩⟩
  ·obtain⟨i,j,x,y,q1,q2,q3,q4,q5,_⟩:=e5.at_ l hl
   have:=aiL i3 q2 q3 q1;omega
  ·show 1≤R.length;omega
  ·show(R.length:Int)≤most;omega
  ·have:=(i4 r hr).1;omega
end Go.Proofs.YtdjeacigeegklaaGreat
namespace Go.Proofs.YtdjeacigeegklaaGreat
set_option linter.all false
open Go
def oP:List aN→aN→List aN
 |[],x=>[x]
 |y::r,x=>if ltH y x then y::oP r x else x::y::r
theorem nT:∀{l:List aN} {x y:aN},y∈oP l x↔y=x∨y∈l
 |[],x,y=>by simp[oP]
 |z::r,x,y=>by
  rw[oP]
  split
  ·rw[List.mem_cons,nT,List.mem_cons]
   constructor
   ·rintro(h|h|h)<;>simp[h]
   ·rintro(h|h|h)<;>simp[h]
  ·simp
theorem aaC:∀(l:List aN) (x:aN),(oP l x).Perm (x::l)
 |[],x=>by simp[oP]
 |z::r,x=>by
  rw[oP]
  split
  ·exact((aaC r x).cons z).trans (.swap x z r)
  ·exact .refl _
theorem ajZ{a b:aN}(h:ltH a b=false)(hne:a≠b):ltH b a=true:=by
 cases a;cases b
 simp[ltH]at *
 omega
theorem ahN:∀{l:List aN} {x:aN},l.Pairwise (λa b=>ltH a b=true)→x∉l→(oP l x).Pairwise (λa b=>ltH a b=true)
 |[],x,_,_=>by simp[oP]
 |z::r,x,h,hx=>by
  rw[oP]
  rw[List.pairwise_cons]at h
  simp only[List.mem_cons,not_or]at hx
  split
  ·rename_i hz
   rw[List.pairwise_cons]
   refine⟨λy hy=>?_,ahN h.2 hx.2⟩
   rcases nT.1 hy with rfl|hy
   ·exact hz
   ·exact h.1 y hy
  ·rename_i hz
   have hzx:ltH x z=true:=ajZ (by simpa using hz) (Ne.symm hx.1)
   rw[List.pairwise_cons,List.pairwise_cons]
   refine⟨λy hy=>?_,h⟩
   rcases List.mem_cons.1 hy with rfl|hy
   ·exact hzx
   ·exact ae4 _ _ _ hzx (h.1 y hy)
theorem ahO:∀(p r:List aN) (x:aN),(∀y∈p,ltH y x=true)→(∀y∈r.head?,ltH y x=false)→oP (p++r) x=p++x::r
 |[],r,x,_,h=>by
  cases r with
  |nil=>simp[oP]
  |cons y r=>have:=h y (by simp);simp only[List.nil_append,oP,this];rfl
 |z::p,r,x,hp,h=>by
  have:=hp z (by simp)
  rw[List.cons_append,oP,if_pos this,ahO p r x (λy hy=>hp y (by simp[hy])) h]
  rfl
theorem aqT(l:List aN)(x:aN)(hl:l.length≤100000):uu l x=some (oP l x):=by
 unfold uu
 refine Ok.eq (Ok.whl (λk:Int=>0≤k∧k≤l.length∧∀y∈l.take k.toNat,ltH y x=true) (λk:Int=>((l.length:Int)-k).toNat) ⟨by omega,by omega,by simp⟩ (by omega) ?_)
 rintro k Z ⟨h0,h1,h2⟩ hZ
 refine Ok.jn (λv:Bool=>(v=true↔∃y∈(l.drop k.toNat).head?,ltH y x=true)) ?_ ?_
 ·intro v hv
  refine Ok.cs (λh=>?_) λh=>?_
  ·obtain⟨y,hy,hyx⟩:=hv.1 h
   have hlt:k.toNat<l.length:=by
    cases hd:l.drop k.toNat with
    |nil=>rw[hd]at hy;simp at hy
    |cons z r=>have:=congrArg List.length hd;simp at this;omega
   rw[gO (by omega) (by omega)]
   refine hZ _ ⟨by omega,by omega,λz hz=>?_⟩ (by omega)
   rw[show(k+1).toNat=k.toNat+1 by omega,List.take_succ]at hz
   rcases List.mem_append.1 hz with hz|hz
   ·exact h2 z hz
   ·rw[List.head?_drop]at hy
    have e:l[k.toNat]?=some z:=by simpa using hz
    have e2:l[k.toNat]?=some y:=hy
    rw[e]at e2;cases e2;exact hyx
  ·have hno:∀y∈(l.drop k.toNat).head?,ltH y x=false:=λy hy=>by
    cases hq:ltH y x
    ·rfl
    ·rw[hv.2 ⟨y,hy,hq⟩]at h;cases h
   have key:=ahO (l.take k.toNat) (l.drop k.toNat) x h2 hno
   rw[List.take_append_drop]at key
   refine Ok.bnd (wg ⟨by omega,by omega,by omega⟩) λl1 q1=>?_
   refine Ok.bnd (p8 (by simp;omega)) λl2 q2=>?_
   refine Ok.bnd (wg ⟨by omega,by omega,by omega⟩) λl3 q3=>?_
   refine Ok.bnd (p8 (by simp at q2 q3 q1 ⊢;omega)) λl4 q4=>Ok.s ?_
   rw[q4.1,q3.1,q2.1,q1.1,key]
   simp
 ·intro J hJ
  refine Ok.cs (λhc=>?_) λhc=>hJ _ ?_
  ·simp at hc
   refine Ok.bnd (iQ h0 hc) λe he=>?_
   have hh:(l.drop k.toNat).head?=some e:=by rw[List.head?_drop,he.2]
   refine Ok.cs (λc1=>hJ _ ?_) λc1=>Ok.cs (λc2=>hJ _ ?_) λc2=>hJ _ ?_
   ·rw[hh];simp[ltH]at *;left;exact c1
   ·rw[hh];simp[ltH]at *;omega
   ·rw[hh];simp[ltH]at *;omega
  ·simp at hc
   rw[List.drop_of_length_le (by omega)];simp
variable {root:Int}
theorem Rch.mono{L L':List aN}(h:∀x∈L,x∈L'){y:Int}(hr:Rch root L y):Rch root L' y:=by
 induction hr with
 |root=>exact .root
 |step x hx _ ih=>exact .step x (h x hx) ih
variable {t:dz}{x:Int}
theorem Vr.reach(h:Vr t)(hx:x=t.cz∨∃h∈t.Links,h.To=x):Rch t.cz t.Links x:=by
 rcases hx with rfl|⟨y,hy,rfl⟩
 ·exact .root
 ·exact .step y hy (h.rch y hy)
theorem Vr.add(h:Vr t){x:aN}(hr:(1≤x.bn∧x.bn≤99)∧1≤x.To∧x.To≤99)(hf:x.bn=t.cz∨∃h∈t.Links,h.To=x.bn)(ht:¬(x.To=t.cz∨∃h∈t.Links,h.To=x.To)):Vr (dz.mk t.cz (oP t.Links x)):=by
 rw[not_or]at ht
 have hx:x∉t.Links:=λhm=>ht.2 ⟨x,hm,rfl⟩
 have hsub:∀y∈t.Links,y∈oP t.Links x:=λy hy=>nT.2 (.inr hy)
 refine⟨h.rt,λy hy=>?_,ahN h.asc hx,?_,λy hy=>?_,λy hy=>?_⟩
 ·rcases nT.1 hy with rfl|hy
  ·exact hr
  ·exact h.rng y hy
 ·refine((aaC t.Links x).pairwise_iff (λ{a b} (hab:a.To≠b.To)=>Ne.symm hab)).2 ?_
  rw[List.pairwise_cons]
  exact⟨λy hy e=>ht.2 ⟨y,hy,e.symm⟩,h.dup⟩
 ·rcases nT.1 hy with rfl|hy
  ·exact ht.1
  ·exact h.nrt y hy
 ·rcases nT.1 hy with rfl|hy
  ·exact(h.reach hf).mono hsub
  ·exact(h.rch y hy).mono hsub
structure Tn(g:aa)(root:Int)(t:dz):Prop where
 rt:t.cz=root
 len:t.Links.length≤200
 v:root∈ids g→Vr t
 no:root∉ids g→t.Links=[]
 adj:∀h∈t.Links,dR g h.bn h.To=true
theorem adr{g:aa}(hv:Vt g)(h:x∈ids g):1≤x∧x≤99:=by
 obtain⟨r,hr,rfl⟩:=List.mem_map.1 h
 exact hv.idr r hr
theorem amd{t:bM}{g:aa}(h:ga t)(hv:Vt g):Ok (sY t g root) (λp=>Tn g root p.1∧ga p.2):=by
 unfold sY
 have hnl:=hv.nl
 rw[gO (n:=2*(g.Links.length:Int)) (by omega) (by omega),gO (by omega) (by omega)]
 refine Ok.bnd (f_n h (by omega)) λq hq=>?_
 have hq1:=hq.1.2.1 (by omega)
 refine Ok.whl (λsg:List Int×Int×List aN×List Int×Int=>(Tn g root (dz.mk root sg.2.2.1)∧(∀x,x∈sg.1↔x=root∨∃h∈sg.2.2.1,h.To=x))∧(0≤sg.2.1∧(sg.1.length:Int)+sg.2.1≤130∧sg.2.2.1.length≤sg.1.length)∧ga (bM.mk sg.2.2.2.1 sg.2.2.2.2)∧(0<sg.2.1→1≤g.Links.length)) (λsg=>sg.2.1.toNat) ?_ (by simp only;omega) ?_
 ·refine⟨⟨⟨rfl,by simp,λhr=>⟨adr hv hr,by simp,by simp,by simp,by simp,by simp⟩,λ_=>rfl,by simp⟩,by simp⟩,⟨hq.1.1,by simp;omega,by simp⟩,hq.2,λh0=>?_⟩
  simp only at h0;omega
 rintro⟨vin,i,ls,L,A⟩ Z ⟨⟨h1,h2⟩,⟨h3,h4,h5⟩,h6,h7⟩ hZ
 simp only at h1 h2 h3 h4 h5 h7
 refine Ok.cs (λhc=>?_) λhc=>Ok.s ⟨h1,h6⟩
 have hc:0<i:=by simpa using hc
 refine Ok.jn (λsg:List Int×List Int×Int×List aN=>(Tn g root (dz.mk root sg.2.2.2)∧(∀x,x∈sg.1↔x=root∨∃h∈sg.2.2.2,h.To=x))∧((sg.1.length:Int)≤vin.length+1∧sg.2.2.2.length≤sg.1.length)∧ga (bM.mk sg.2.1 sg.2.2.1)) (λs hs=>?_) λJ hJ=>?_
 ·obtain⟨s1,s2,s3⟩:=hs
  rw[gO (by omega) (by omega)]
  exact hZ _ ⟨s1,⟨by simp only;omega,by simp only;omega,s2.2⟩,s3,λ_=>h7 hc⟩ (by simp only;omega)
 refine Ok.bnd (f_n h6 (by omega)) λp hp=>Ok.bnd (iQ hp.1.1 (hp.1.2.1 (by have:=h7 hc;omega))) λl hl=>?_
 have lZ:dR g l.A l.B=true:=jf.2 ⟨l,hl.1,.inl ⟨rfl,rfl⟩⟩
 refine Ok.jn (λsg:Int×Int=>dR g sg.1 sg.2=true) (λs hs=>?_) λJ2 hJ2=>?_
 ·obtain⟨a,b⟩:=s
  have hs:dR g a b=true:=hs
  refine Ok.jn (λv:Bool=>v=true→a∈vin∧b∉vin) (λv hv2=>?_) λJ3 hJ3=>?_
  ·refine Ok.cs (λhc2=>?_) λ_=>hJ _ ⟨⟨h1,h2⟩,⟨by simp only;omega,h5⟩,hp.2⟩
   obtain⟨ha,hb⟩:=hv2 hc2
   refine Ok.bnd (p8 (by simp;omega)) λv2 q2=>?_
   rw[aqT _ _ (by omega),aM,q2.1]
   have hpl:=(aaC ls (aN.mk a b)).length_eq
   simp only[List.length_cons]at hpl
   have hin:∀x,x∈vin++[b]↔x=root∨∃h∈oP ls (aN.mk a b),h.To=x:=λx=>by
    rw[List.mem_append,h2]
    constructor
    ·rintro((h|⟨y,hy,h⟩)|h)
     ·exact .inl h
     ·exact .inr ⟨y,nT.2 (.inr hy),h⟩
     ·simp at h;subst h;exact .inr ⟨aN.mk a x,nT.2 (.inl rfl),rfl⟩
    ·rintro(h|⟨y,hy,h⟩)
     ·exact .inl (.inl h)
     ·rcases nT.1 hy with rfl|hy
      ·exact .inr (by simp[←h])
      ·exact .inl (.inr ⟨y,hy,h⟩)
   refine hJ _ ⟨⟨⟨rfl,?_,λhr=>?_,λhr=>?_,λy hy=>?_⟩,hin⟩,⟨by simp,by simp;omega⟩,hp.2⟩
   ·show(oP ls (aN.mk a b)).length≤200;omega
   ·have e1:=adr hv (nv hv (qb hs));have e2:=adr hv (nv hv hs)
    exact(h1.v hr).add (x:=aN.mk a b) ⟨e1,e2⟩ ((h2 a).1 ha) (λhh=>hb ((h2 b).2 hh))
   ·have:=h1.no hr
    simp only at this
    subst this
    have:=(h2 a).1 ha
    simp at this
    subst this
    exact absurd (nv hv (qb hs)) hr
   ·rcases nT.1 hy with rfl|hy
    ·exact hs
    ·exact h1.adj y hy
  ·simp only[acq,aM]
   refine Ok.cs (λhca=>hJ3 _ λhcb=>⟨by simpa using hca,by simpa using hcb⟩) λ_=>hJ3 _ λh=>by cases h
 ·simp only[acq,aM]
  exact Ok.cs (λ_=>hJ2 _ (qb lZ)) λ_=>hJ2 _ lZ
end Go.Proofs.YtdjeacigeegklaaGreat
namespace Go.Proofs.YtdjeacigeegklaaGreat
set_option linter.all false
open Go
def qd(t:aa)(r:Int):List (Int×Int×Int):=(r,3,r)::(lS t r).map λq=>(r,1,q)
def gJ(t:aa):List (Int×Int×Int):=(ids t).flatMap (qd t)
def jk:Nat→List (Int×Int×Int)→List aq
 |_,[]=>[]
 |n,(r,k,q)::l=>aq.mk (n:Int) r k q::jk (n+1) l
theorem rL:∀(n:Nat) (l:List (Int×Int×Int)),(jk n l).length=l.length
 |_,[]=>rfl
 |n,(r,k,q)::l=>by simp only[jk,List.length_cons,rL (n+1) l]
theorem agE:∀(n:Nat) (a b:List (Int×Int×Int)),jk n (a++b)=jk n a++jk (n+a.length) b
 |n,[],b=>by simp[jk]
 |n,(r,k,q)::l,b=>by
  simp only[List.cons_append,jk,agE (n+1) l b,List.length_cons]
  rw[show n+1+l.length=n+(l.length+1)by omega]
theorem wD:∀(n:Nat) (l:List (Int×Int×Int)) (i:Nat) (a:aq),(jk n l)[i]?=some a→a.Bit=((n+i:Nat):Int)∧l[i]?=some (a.aO,a.Kind,a.To)
 |n,[],i,a,h=>by simp[jk]at h
 |n,(r,k,q)::l,0,a,h=>by simp[jk]at h;subst h;simp
 |n,(r,k,q)::l,i+1,a,h=>by
  simp only[jk,List.getElem?_cons_succ]at h
  obtain⟨h1,h2⟩:=wD (n+1) l i a h
  exact⟨by rw[h1];omega,by simpa using h2⟩
theorem ahP:∀(n:Nat) (l:List (Int×Int×Int)) (i:Nat) (r k q:Int),l[i]?=some (r,k,q)→(jk n l)[i]?=some (aq.mk ((n+i:Nat):Int) r k q)
 |n,[],i,r,k,q,h=>by simp at h
 |n,(r',k',q')::l,0,r,k,q,h=>by simp at h;obtain⟨rfl,rfl,rfl⟩:=h;simp[jk]
 |n,(r',k',q')::l,i+1,r,k,q,h=>by
  simp only[jk,List.getElem?_cons_succ]at h ⊢
  rw[ahP (n+1) l i r k q h]
  congr 2;omega
theorem agF{n:Nat}{l:List (Int×Int×Int)}{a:aq}(h:a∈jk n l):(a.aO,a.Kind,a.To)∈l∧(n:Int)≤a.Bit∧a.Bit<n+l.length:=by
 obtain⟨i,hi⟩:=List.getElem?_of_mem h
 obtain⟨h1,h2⟩:=wD _ _ _ _ hi
 have:=(List.getElem?_eq_some_iff.1 h2).1
 exact⟨List.mem_of_getElem? h2,by omega,by omega⟩
variable {t:aa}
theorem aj0(hv:Vt t)(r:Int):(lS t r).Perm (t.Links.filterMap (jL r)):=
 (List.perm_ext_iff_of_nodup ((yV hv r).imp λh=>by omega) (xJ hv r)).2 λx=>by rw[jV hv,aeT hv]
theorem aqU(hv:Vt t):((ids t).map λr=>(lS t r).length).sum=2*t.Links.length:=by
 have e:((ids t).map λr=>(lS t r).length)=(ids t).map λr=>(t.Links.filterMap (jL r)).length:=List.map_congr_left λr _=>(aj0 hv r).length_eq
 rw[e]
 have hnd:(ids t).Nodup:=(ye hv).imp λh=>by omega
 have key:∀L:List aW,(∀l∈L,l.A∈ids t∧l.B∈ids t∧l.A<l.B)→((ids t).map λr=>(L.filterMap (jL r)).length).sum=2*L.length:=by
  intro L
  induction L with
  |nil=>intro _;simp;induction (ids t)<;>simp_all
  |cons l L ih=>
   intro h
   have ih:=ih λx hx=>h x (by simp[hx])
   obtain⟨hA,hB,hlt⟩:=h l (by simp)
   have e2:∀r,((l::L).filterMap (jL r)).length=(if r=l.A then 1 else 0)+(if r=l.B then 1 else 0)+(L.filterMap (jL r)).length:=λr=>by
    unfold jL
    by_cases h1:r=l.A
    ·subst h1
     have:¬l.A=l.B:=by omega
     rw[List.filterMap_cons_some (b:=l.B) (by simp)]
     simp[this];omega
    ·by_cases h2:r=l.B
     ·subst h2
      rw[List.filterMap_cons_some (b:=l.A) (by simp[h1])]
      simp[h1];omega
     ·rw[List.filterMap_cons_none (by simp[h1,h2])]
      simp[h1,h2]
   simp only[e2]
   have cnt:∀(I:List Int) (x:Int),I.Nodup→x∈I→(I.map λr=>if r=x then 1 else 0).sum=1:=by
    intro I x
    induction I with
    |nil=>intro _ h;cases h
    |cons a I ih2=>
     intro hn hx
     rw[List.nodup_cons]at hn
     simp only[List.map_cons,List.sum_cons]
     by_cases e3:a=x
     ·subst e3
      have:(I.map λr=>if r=a then 1 else 0).sum=0:=by
       have h0:∀J:List Int,a∉J→(J.map λr=>if r=a then 1 else 0).sum=0:=by
        intro J
        induction J with
        |nil=>intro _;rfl
        |cons b J ih4=>
         intro hb
         simp only[List.mem_cons,not_or]at hb
         simp only[List.map_cons,List.sum_cons,ih4 hb.2,if_neg (Ne.symm hb.1)]
       exact h0 I hn.1
      rw[if_pos rfl,this]
     ·rcases List.mem_cons.1 hx with rfl|hx
      ·exact absurd rfl e3
      ·rw[if_neg e3,ih2 hn.2 hx]
   have sum3:∀(I:List Int) (f g k:Int→Nat),(I.map λr=>f r+g r+k r).sum=(I.map f).sum+(I.map g).sum+(I.map k).sum:=by
    intro I f g k
    induction I with
    |nil=>rfl
    |cons a I ih3=>simp only[List.map_cons,List.sum_cons,ih3];omega
   rw[sum3 (ids t) (λr=>if r=l.A then 1 else 0) (λr=>if r=l.B then 1 else 0) (λr=>(L.filterMap (jL r)).length),cnt _ _ hnd hA,cnt _ _ hnd hB,ih,List.length_cons]
   omega
 exact key t.Links λl hl=>⟨iy.2 (hv.ends l hl).1,iy.2 (hv.ends l hl).2,hv.lt l hl⟩
theorem amf(hv:Vt t):(gJ t).length=t.ah.length+2*t.Links.length:=by
 rw[←aqU hv,gJ,List.length_flatMap]
 have:∀I:List Int,(I.map λr=>(qd t r).length).sum=I.length+(I.map λr=>(lS t r).length).sum:=by
  intro I
  induction I with
  |nil=>rfl
  |cons a I ih=>
   have hr:(qd t a).length=1+(lS t a).length:=by simp[qd];omega
   simp only[List.map_cons,List.sum_cons,ih,List.length_cons,hr];omega
 rw[this,show(ids t).length=t.ah.length by simp[ids]]
def kW(t:aa)(n:Int):aC×Int:=
 if eS t=0 then bif !kT n then(aC.mk 0 [],2)else if n<((gJ t).length:Int)then(aC.mk 0 [],3)else(aC.mk n (jk 0 (gJ t)),0)else(aC.mk 0 [],1)
theorem y9(hv:Vt t):(gJ t).length≤144:=by
 rw[amf hv];have:=hv.nr;have:=hv.nl;omega
theorem agG{α:Type}{β:Type}(f:α→Int×Int×Int){B:Int→α→(List aq→Option β)→List aq→Option β}{K:List aq→Option β}
  (hB:∀j x Z (s:List aq),s.length<1000→B j x Z s=Z (s++[aq.mk (s.length:Int) (f x).1 (f x).2.1 (f x).2.2])):∀(l:List α) (j:Nat) (s:List aq),s.length+l.length≤1000→bO l j B K s=K (s++jk s.length (l.map f))
 |[],_,s,_=>by simp[bO,jk]
 |x::r,j,s,h=>by
  simp only[List.length_cons]at h
  simp only[bO]
  rw[hB _ _ _ _ (by omega),agG f hB r (j+1) _ (by simp;omega)]
  simp only[List.length_append,List.length_singleton,List.map_cons,jk,List.append_assoc,List.singleton_append]
theorem aj1{α:Type}{β:Type}(f:α→List (Int×Int×Int)){L:List α}{B:Int→α→(List aq→Option β)→List aq→Option β}{K:List aq→Option β}(hL:(L.flatMap f).length≤900)
  (hB:∀j x Z (s:List aq),x∈L→s.length+(f x).length≤900→B j x Z s=Z (s++jk s.length (f x))):bO L 0 B K []=K (jk 0 (L.flatMap f)):=by
 refine(kS (L:=L) (λp s=>s=jk 0 (p.flatMap f)) (λp l=>K (jk 0 (L.flatMap f))) (λs hs=>by rw[hs]) (λp x r s Z h hi hZ=>?_) L [] [] rfl rfl)
 subst hi
 have hlen:(jk 0 (p.flatMap f)).length+(f x).length≤900:=by
  rw[rL]
  have:(L.flatMap f).length=(p.flatMap f).length+((f x).length+(r.flatMap f).length):=by rw[←h];simp
  omega
 rw[hB _ _ _ _ (by rw[←h];simp) hlen]
 refine hZ _ ?_
 rw[List.flatMap_append,agE,rL]
 simp
theorem ads(t:aa)(n:Int):mN t n=some (kW t n):=by
 unfold mN kW mB
 simp only[rY,aM]
 by_cases hc:eS t=0
 ·have hv:=fC.1 hc
  have hk:=y9 hv
  simp only[hc,decide_true,Bool.not_true,cond_false,if_true]
  show(bif !kT n then _ else _)=_
  cases kT n
  ·rfl
  simp only[Bool.not_true,cond_false]
  have e:gJ t=t.ah.flatMap λr=>qd t r.ID:=by unfold gJ ids;rw[List.flatMap_map]
  refine(aj1 (λr:aR=>qd t r.ID) (by rw[←e];omega) (λj x Z s hx hs=>?_)).trans ?_
  ·simp only[qd,List.length_cons,List.length_map]at hs
   rw[lY (by omega),aM,ad4,aM,if_pos hc]
   refine(agG (λq:Int=>(x.ID,(1:Int),q)) (λj q Z s hs=>by rw[lY (by omega),aM]) _ _ _ (by simp;omega)).trans ?_
   simp only[List.append_assoc,qd,jk,List.length_append,List.length_singleton,List.singleton_append]
  ·rw[←e,rL]
   by_cases hn:n<((gJ t).length:Int)
   ·simp[hn]
   ·simp[hn]
 ·simp[hc]
structure aiM(t:aa)(a:aq):Prop where
 r:a.aO∈ids t
 q:a.To∈ids t
 k:(a.Kind=3∧a.To=a.aO)∨(a.Kind=1∧dR t a.aO a.To=true)∨(a.Kind=2∧a.To≠a.aO)
structure EL(t:aa)(n:Nat)(m:List aq):Prop where
 bit:∀i a,m[i]?=some a→a.Bit=((n+i:Nat):Int)
 ok:∀a∈m,aiM t a
 dup:m.Pairwise λa b=>tgA a≠tgA b
theorem EL.nil(t:aa)(n:Nat):EL t n []:=⟨by simp,by simp,by simp⟩
variable {m:List aq}
theorem EL.add(h:EL t 0 m){x:aq}(hb:x.Bit=m.length)(hx:aiM t x)(hd:∀a∈m,tgA a≠tgA x):EL t 0 (m++[x]):=by
 refine⟨λi a hi=>?_,λa ha=>?_,List.pairwise_append.2 ⟨h.dup,by simp,λa ha b hb=>?_⟩⟩
 ·rw[List.getElem?_append]at hi
  split at hi
  ·exact h.bit i a hi
  ·rename_i hlt
   have e:i=m.length:=by
    have:=(List.getElem?_eq_some_iff.1 hi).1;simp at this;omega
   subst e;simp at hi;subst hi;rw[hb];simp
 ·rcases List.mem_append.1 ha with ha|ha
  ·exact h.ok a ha
  ·simp at ha;subst ha;exact hx
 ·simp at hb;subst hb;exact hd a ha
theorem EL.take{t:aa}{n k:Nat}{m:List aq}(h:EL t n m):EL t n (m.take k):=
 ⟨λi a hi=>h.bit i a (by rw[List.getElem?_take]at hi;split at hi;exact hi;cases hi),λa ha=>h.ok a (List.mem_of_mem_take ha),h.dup.sublist (List.take_sublist k m)⟩
structure Ef(t:aa)(e:aC):Prop where
 v:Ve e
 ok:∀a∈e.List,aiM t a
theorem EL.ef{n:Nat}{len:Int}(hv:Vt t)(h:EL t n m)(hl:len=8∨len=16∨len=32∨len=64)(hm:(n:Int)+m.length≤len):Ef t (aC.mk len m):=by
 have asc:m.Pairwise λa b=>a.Bit<b.Bit:=List.pairwise_iff_getElem.2 λi j hi hj hij=>by
  have h1:=h.bit i _ (List.getElem?_eq_getElem hi);have h2:=h.bit j _ (List.getElem?_eq_getElem hj)
  omega
 refine⟨⟨hl,λa ha=>?_,λa ha=>?_,λa ha=>?_,asc,h.dup⟩,h.ok⟩
 ·obtain⟨i,hi⟩:=List.getElem?_of_mem ha
  have hb:=h.bit i a hi
  have hlt:i<m.length:=(List.getElem?_eq_some_iff.1 hi).1
  exact⟨by omega,by simp only;omega,adr hv (h.ok a ha).r,adr hv (h.ok a ha).q⟩
 ·have:=(h.ok a ha).k;omega
 ·rcases(h.ok a ha).k with⟨h1,h2⟩|⟨h1,h2⟩|⟨h1,h2⟩
  ·simp[h1,h2]
  ·have:=agk hv h2
   simp[h1,Ne.symm this]
  ·simp[h1,h2]
theorem za(hv:Vt t){r k q:Int}:(r,k,q)∈gJ t↔r∈ids t∧((k=3∧q=r)∨(k=1∧dR t r q=true)):=by
 unfold gJ qd
 simp only[List.mem_flatMap,List.mem_cons,List.mem_map,Prod.mk.injEq,jV hv]
 constructor
 ·rintro⟨a,ha,⟨rfl,rfl,rfl⟩|⟨b,hb,rfl,rfl,rfl⟩⟩
  ·exact⟨ha,.inl ⟨rfl,rfl⟩⟩
  ·exact⟨ha,.inr ⟨rfl,hb⟩⟩
 ·rintro⟨ha,⟨rfl,rfl⟩|⟨rfl,hb⟩⟩
  ·exact⟨q,ha,.inl ⟨rfl,rfl,rfl⟩⟩
  ·exact⟨r,ha,.inr ⟨q,hb,rfl,rfl,rfl⟩⟩
theorem aiN(hv:Vt t):(gJ t).Nodup:=by
 unfold gJ
 refine List.pairwise_flatMap.2 ⟨λr _=>?_,?_⟩
 ·show(qd t r).Nodup
  unfold qd
  rw[List.nodup_cons]
  refine⟨λh=>?_,?_⟩
  ·obtain⟨x,_,hx⟩:=List.mem_map.1 h;cases hx
  ·exact List.Pairwise.map _ (λa b (hab:a<b) he=>by simp at he;omega) (yV hv r)
 ·refine(ye hv).imp λ{a b} hab=>?_
  intro x hx y hy hxy
  subst hxy
  have e1:x.1=a:=by
   rcases List.mem_cons.1 hx with rfl|hx
   ·rfl
   ·obtain⟨_,_,rfl⟩:=List.mem_map.1 hx;rfl
  have e2:x.1=b:=by
   rcases List.mem_cons.1 hy with rfl|hy
   ·rfl
   ·obtain⟨_,_,rfl⟩:=List.mem_map.1 hy;rfl
  omega
theorem aqV(hv:Vt t):EL t 0 (jk 0 (gJ t)):=by
 refine⟨λi a hi=>(wD _ _ _ _ hi).1,λa ha=>?_,?_⟩
 ·obtain⟨h1,h2⟩:=(za hv).1 (agF ha).1
  rcases h2 with⟨h2,h3⟩|⟨h2,h3⟩
  ·exact⟨h1,by rw[h3];exact h1,.inl ⟨h2,h3⟩⟩
  ·exact⟨h1,nv hv h3,.inr (.inl ⟨h2,h3⟩)⟩
 ·refine List.pairwise_iff_getElem.2 λi j hi hj hij he=>?_
  have h1:=(wD _ _ _ _ (List.getElem?_eq_getElem hi)).2;have h2:=(wD _ _ _ _ (List.getElem?_eq_getElem hj)).2
  simp only[tgA,bN.mk.injEq]at he
  obtain⟨q1,e1⟩:=List.getElem?_eq_some_iff.1 h1
  obtain⟨q2,e2⟩:=List.getElem?_eq_some_iff.1 h2
  have:=List.pairwise_iff_getElem.1 (aiN hv) i j q1 q2 hij
  exact this (by rw[e1,e2,he.1,he.2.1,he.2.2])
end Go.Proofs.YtdjeacigeegklaaGreat
namespace Go.Proofs.YtdjeacigeegklaaGreat
set_option linter.all false
open Go
def shA(c:Int)(a:aq):aq:=aq.mk (a.Bit+c) a.aO a.Kind a.To
theorem EL.shift{t:aa}{m:List aq}(h:EL t 0 m)(c:Nat):EL t c (m.map (shA (c:Int))):=by
 refine⟨λi a hi=>?_,λa ha=>?_,?_⟩
 ·rw[List.getElem?_map]at hi
  cases hm:m[i]? with
  |none=>rw[hm]at hi;cases hi
  |some b=>
   rw[hm]at hi;cases hi
   have:=h.bit i b hm
   simp only[shA];omega
 ·obtain⟨b,hb,rfl⟩:=List.mem_map.1 ha
  obtain⟨h1,h2,h3⟩:=h.ok b hb
  exact⟨h1,h2,h3⟩
 ·exact List.pairwise_map.2 (h.dup.imp λh=>h)
theorem aei{t:aa}(hv:Vt t){n:Int}(h:(kW t n).2=0):Ef t (kW t n).1∧kW t n=(aC.mk n (jk 0 (gJ t)),0)∧((gJ t).length:Int)≤n:=by
 unfold kW at *
 rw[if_pos (fC.2 hv)]at *
 cases hl:kT n
 ·rw[hl]at h;simp at h
 ·rw[hl]at h
  simp only[Bool.not_true,cond_false]at h ⊢
  by_cases hn:n<((gJ t).length:Int)
  ·rw[if_pos hn]at h;simp at h
  ·rw[if_neg hn]
   refine⟨(aqV hv).ef hv (by simpa [kT]using hl) (by rw[rL];omega),rfl,by omega⟩
end Go.Proofs.YtdjeacigeegklaaGreat
namespace Go.Proofs.YtdjeacigeegklaaGreat
set_option linter.all false
open Go
theorem ahQ:∀(l:List Int) (lo hi:Int),l.Pairwise (·<·)→(∀x∈l,lo≤x∧x<hi)→(l.length:Int)≤max (hi-lo) 0
 |[],lo,hi,_,_=>by simp;omega
 |x::r,lo,hi,h,hb=>by
  rw[List.pairwise_cons]at h
  have:=ahQ r (x+1) hi h.2 λy hy=>⟨by have:=h.1 y hy;omega,(hb y (by simp[hy])).2⟩
  have:=hb x (by simp)
  rw[List.length_cons];omega
theorem Ve.small{e:aC}(h:Ve e):e.List.length≤64:=by
 have:=ahQ (e.List.map (·.Bit)) 0 64 (List.pairwise_map.2 h.asc) λx hx=>by
  obtain⟨a,ha,rfl⟩:=List.mem_map.1 hx
  exact h.bit ha
 rw[List.length_map]at this;omega
variable {a b:aq}
theorem Ve.abd{e:aC}(h:Ve e)(ha:a∈e.List)(hb:b∈e.List)(hab:a.Bit=b.Bit):a=b:=by
 obtain⟨i,hi⟩:=List.getElem?_of_mem ha
 obtain⟨j,hj⟩:=List.getElem?_of_mem hb
 obtain⟨h1,rfl⟩:=List.getElem?_eq_some_iff.1 hi
 obtain⟨h2,rfl⟩:=List.getElem?_eq_some_iff.1 hj
 have hp:=List.pairwise_iff_getElem.1 h.asc
 rcases Nat.lt_trichotomy i j with hij|hij|hij
 ·have:=hp i j h1 h2 hij;omega
 ·subst hij;rfl
 ·have:=hp j i h2 h1 hij;omega
theorem Ve.key_inj{e:aC}(h:Ve e)(ha:a∈e.List)(hb:b∈e.List)(hab:tgA a=tgA b):a=b:=by
 obtain⟨i,hi⟩:=List.getElem?_of_mem ha
 obtain⟨j,hj⟩:=List.getElem?_of_mem hb
 obtain⟨h1,rfl⟩:=List.getElem?_eq_some_iff.1 hi
 obtain⟨h2,rfl⟩:=List.getElem?_eq_some_iff.1 hj
 have hp:=List.pairwise_iff_getElem.1 h.dup
 rcases Nat.lt_trichotomy i j with hij|hij|hij
 ·exact absurd hab (hp i j h1 h2 hij)
 ·subst hij;rfl
 ·exact absurd hab.symm (hp j i h2 h1 hij)
theorem agH{r:Int}:∀(l:List aq) (acc:Int),B64 acc→(∀a∈l,0≤a.Bit∧a.Bit<64)→B64 (l.foldl (wB r) acc)∧∀i,tbi (l.foldl (wB r) acc) i=(tbi acc i||decide (∃a∈l,a.aO=r∧a.Bit=i))
 |[],acc,h,_=>⟨h,λi=>by simp⟩
 |a::l,acc,h,hb=>by
  have hb1:=hb a (by simp)
  have hB:B64 (wB r acc a):=by unfold wB;split;exact auI;exact h
  obtain⟨h1,h2⟩:=agH l (wB r acc a) hB λx hx=>hb x (by simp[hx])
  refine⟨h1,λi=>?_⟩
  rw[List.foldl_cons,h2]
  unfold wB
  by_cases hr:a.aO=r
  ·rw[if_pos hr,anM h (ado (by omega)),qq a.Bit.toNat i (by omega),Bool.eq_iff_iff]
   simp only[Bool.or_eq_true,decide_eq_true_eq,List.mem_cons]
   constructor
   ·rintro((h|h)|⟨x,hx,h3⟩)
    ·exact .inl h
    ·exact .inr ⟨a,.inl rfl,hr,by omega⟩
    ·exact .inr ⟨x,.inr hx,h3⟩
   ·rintro(h|⟨x,rfl|hx,h3,h4⟩)
    ·exact .inl (.inl h)
    ·exact .inl (.inr (by omega))
    ·exact .inr ⟨x,hx,h3,h4⟩
  ·rw[if_neg hr];simp[hr]
theorem aj2{e:aC}(h:Ve e)(r:Int)(i:Nat):tbi (qI e r) i=true↔∃a∈e.List,a.aO=r∧a.Bit=i:=by
 unfold qI;rw[if_pos (kH.2 h)]
 rw[(agH e.List 0 yh λa ha=>h.bit ha).2,mF,Bool.false_or,decide_eq_true_eq]
theorem aj3{e:aC}(h:Ve e)(ha:a∈e.List):nw e a.aO a.Kind a.To=(a.Bit,true):=by
 unfold nw xm;rw[if_pos (kH.2 h)]
 cases hf:e.List.find? (λx=>decide (x.aO=a.aO)&&(decide (x.Kind=a.Kind)&&decide (x.To=a.To)))with
 |none=>
  have:=List.find?_eq_none.1 hf a ha
  simp at this
 |some b=>
  have h1:=List.find?_some hf
  have h2:=List.mem_of_find?_eq_some hf
  simp only[Bool.and_eq_true,decide_eq_true_eq]at h1
  have:b=a:=h.key_inj h2 ha (by simp[tgA,h1.1,h1.2.1,h1.2.2])
  subst this;rfl
theorem ag8{e:aC}{r k q b:Int}(hf:nw e r k q=(b,true)):Ve e∧∃a∈e.List,a.aO=r∧a.Kind=k∧a.To=q∧a.Bit=b:=by
 unfold nw xm at hf
 by_cases h:mT e=0
 ·rw[if_pos h]at hf
  refine⟨kH.1 h,?_⟩
  cases hq:e.List.find? (λx=>decide (x.aO=r)&&(decide (x.Kind=k)&&decide (x.To=q)))with
  |none=>rw[hq]at hf;simp at hf
  |some a=>
   rw[hq]at hf;simp at hf
   have h1:=List.find?_some hq
   simp only[Bool.and_eq_true,decide_eq_true_eq]at h1
   exact⟨a,List.mem_of_find?_eq_some hq,h1.1,h1.2.1,h1.2.2,hf⟩
 ·rw[if_neg h]at hf;simp at hf
end Go.Proofs.YtdjeacigeegklaaGreat
namespace Go.Proofs.YtdjeacigeegklaaGreat
set_option linter.all false
open Go
def tV(r:Int):bN:=bN.mk r 3 r
def tW(h:aN):bN:=bN.mk h.bn 1 h.To
def gU(e:aC)(k:bN):Int×Bool:=xm e k.cc k.sU k.to_
def oQ(t:dz)(rs:List Int):List bN:=rs.map tV++t.Links.map tW
def orK(e:aC)(s:Int)(k:bN):Int:=br .or .u64 s (uK (gU e k).1.toNat)
noncomputable def u9(e:aC)(t:dz)(rs:List Int):Int×Int:=
 if mT e=0 then if ckT t=0 then
  bif !jZ (λa b=>decide (a<b)) rs then(0,25)else bif rs.any (λr=>!decide (r∈qc t))then(0,8)else
  bif (oQ t rs).any (λk=>!(gU e k).2)then(0,4)else((oQ t rs).foldl (orK e) 0,0)
 else(0,ckT t)else(0,mT e)
theorem abe{e:aC}(h:Ve e){k:bN}(hk:(gU e k).2=true):0≤(gU e k).1∧(gU e k).1<64:=by
 unfold gU xm at *
 cases hf:e.List.find? (λx=>decide (x.aO=k.cc)&&(decide (x.Kind=k.sU)&&decide (x.To=k.to_)))with
 |none=>rw[hf]at hk;cases hk
 |some a=>exact h.bit (List.mem_of_find?_eq_some hf)
theorem ae5{α β:Type}{L:List α}{B:Int→α→(Int→Option β)→Int→Option β}{K:Int→Option β}(fi:α→Int×Bool)(a:Option β)(g:Int→α→Int)(hB:∀j x Z s,x∈L→B j x Z s=bif !(fi x).2 then a else Z (g s x))(s:Int):
  bO L 0 B K s=bif L.any (λx=>!(fi x).2)then a else K (L.foldl g s):=by
 have key:∀(l:List α) (j:Nat) (s:Int),(∀x∈l,x∈L)→bO l j B K s=bif l.any (λx=>!(fi x).2)then a else K (l.foldl g s):=by
  intro l
  induction l with
  |nil=>intro j s _;rfl
  |cons x r ih=>
   intro j s h
   simp only[bO]
   rw[hB _ _ _ _ (h x (by simp)),ih (j+1) _ (λy hy=>h y (by simp[hy])),List.any_cons,List.foldl_cons]
   cases(fi x).2<;>rfl
 exact key L 0 s λ_ h=>h
theorem abf{e:aC}:∀(l:List bN) (acc:Int),B64 acc→(∀k∈l,0≤(gU e k).1∧(gU e k).1<64)→B64 (l.foldl (orK e) acc)∧∀i,tbi (l.foldl (orK e) acc) i=true↔tbi acc i=true∨∃k∈l,(gU e k).1=(i:Int)
 |[],acc,h,_=>⟨h,λi=>by simp⟩
 |a::l,acc,h,hb=>by
  have hb1:=hb a (by simp)
  obtain⟨h1,h2⟩:=abf l (orK e acc a) auI λx hx=>hb x (by simp[hx])
  refine⟨h1,λi=>?_⟩
  rw[List.foldl_cons,h2]
  unfold orK
  rw[anM h (ado (by omega)),qq (gU e a).1.toNat i (by omega),Bool.or_eq_true,decide_eq_true_eq]
  constructor
  ·rintro((h|h)|⟨x,hx,h3⟩)
   ·exact .inl h
   ·exact .inr ⟨a,by simp,by omega⟩
   ·exact .inr ⟨x,by simp[hx],h3⟩
  ·rintro(h|⟨x,hx,h3⟩)
   ·exact .inl (.inl h)
   ·rcases List.mem_cons.1 hx with rfl|hx
    ·exact .inl (.inr (by omega))
    ·exact .inr ⟨x,hx,h3⟩
theorem aiO(e:aC)(t:dz)(rs:List Int)(h1:e.List.length≤90000)(h2:t.Links.length≤90000)(h3:rs.length≤90000):mO e t rs=some (u9 e t rs):=by
 unfold mO u9
 simp only[oE e (by omega),xo t (by omega),aM,ajW rs (by omega)]
 by_cases hv:mT e=0
 ·by_cases hc:ckT t=0
  ·simp only[decide_true,Bool.not_true,cond_false,hv,hc,if_true]
   cases jZ (λa b:Int=>decide (a<b)) rs
   ·rfl
   simp only[Bool.not_true,cond_false,zw t h2,aM]
   refine(gL (λr=>!decide (r∈qc t)) (some ((0:Int),(8:Int))) (λj x Z s=>by rw[acq,aM]) _ _ _).trans ?_
   cases rs.any (λr=>!decide (r∈qc t))
   ·simp only[cond_false]
    have step:∀(k:bN) (s:Int) (Z:Int→Option (Int×Int)),(bif !(gU e k).2 then some ((0:Int),(4:Int))else chk (decide (0≤IntKind.wrap .u64 (gU e k).1))<|Z (br .or .u64 s (IntKind.wrap .u64 ((1:Int)*2 ^ min (IntKind.wrap .u64 (gU e k).1).toNat 64))))=bif !(gU e k).2 then some ((0:Int),(4:Int))else Z (orK e s k):=λk s Z=>by
     cases hf:(gU e k).2
     ·rfl
     ·obtain⟨b1,b2⟩:=abe (kH.1 hv) hf
      rw[wrap_u64 b1 (by omega),decide_eq_true b1,aaA b1 b2];rfl
    have hfT:∀r k q,nw e r k q=xm e r k q:=λr k q=>by unfold nw;rw[if_pos hv]
    refine(ae5 (λh:aN=>gU e (tW h)) (some ((0:Int),(4:Int))) (λs h=>orK e s (tW h)) (λj x Z s hx=>?_) _).trans ?_
    ·rw[adp e _ _ _ (by omega),aM,hfT];exact step (tW x) s Z
    have ea:(oQ t rs).any (λk=>!(gU e k).2)=(rs.any (λr=>!(gU e (tV r)).2)||t.Links.any (λh=>!(gU e (tW h)).2)):=by
     unfold oQ;rw[List.any_append,List.any_map,List.any_map];rfl
    rw[ea]
    cases hl:t.Links.any (λh=>!(gU e (tW h)).2)
    ·simp only[cond_false,Bool.or_false]
     refine(ae5 (λr:Int=>gU e (tV r)) (some ((0:Int),(4:Int))) (λs r=>orK e s (tV r)) (λj x Z s hx=>?_) _).trans ?_
     ·rw[adp e _ _ _ (by omega),aM,hfT];exact step (tV x) s Z
     cases hr:rs.any (λr=>!(gU e (tV r)).2)
     ·simp only[cond_false,Option.some.injEq,Prod.mk.injEq,and_true]
      have hR:∀k∈rs.map tV,0≤(gU e k).1∧(gU e k).1<64:=λk hk=>by
       obtain⟨r,hr2,rfl⟩:=List.mem_map.1 hk
       exact abe (kH.1 hv) (by have:=any_false.1 hr r hr2;simpa using this)
      have hH:∀k∈t.Links.map tW,0≤(gU e k).1∧(gU e k).1<64:=λk hk=>by
       obtain⟨r,hr2,rfl⟩:=List.mem_map.1 hk
       exact abe (kH.1 hv) (by have:=any_false.1 hl r hr2;simpa using this)
      have e1:rs.foldl (λs r=>orK e s (tV r)) (t.Links.foldl (λs h=>orK e s (tW h)) 0)=(t.Links.map tW++rs.map tV).foldl (orK e) 0:=by
       rw[List.foldl_append,List.foldl_map,List.foldl_map]
      rw[e1]
      obtain⟨a1,a2⟩:=abf (e:=e) (t.Links.map tW++rs.map tV) 0 yh λk hk=>(List.mem_append.1 hk).elim (hH k) (hR k)
      obtain⟨b1,b2⟩:=abf (e:=e) (oQ t rs) 0 yh λk hk=>(List.mem_append.1 hk).elim (hR k) (hH k)
      refine adn a1 b1 λi _=>?_
      rw[Bool.eq_iff_iff,a2,b2]
      unfold oQ
      simp only[List.mem_append]
      constructor
      ·rintro(h|⟨k,h|h,hk⟩)
       ·exact .inl h
       ·exact .inr ⟨k,.inr h,hk⟩
       ·exact .inr ⟨k,.inl h,hk⟩
      ·rintro(h|⟨k,h|h,hk⟩)
       ·exact .inl h
       ·exact .inr ⟨k,.inr h,hk⟩
       ·exact .inr ⟨k,.inl h,hk⟩
     ·rfl
    ·simp
   ·rfl
  ·simp[hv,hc]
 ·simp[hv]
end Go.Proofs.YtdjeacigeegklaaGreat
