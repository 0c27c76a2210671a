/- Plain: the tape of the later layers, and its small words. No condition. -/
import Derived.Test.YtdjeacigeegklaaGreatPM
namespace Go.Proofs.YtdjeacigeegklaaGreat
set_option linter.all false
open Go
def fV(t:bL):Prop:=0≤t.At∧t.At≤t.L.length∧t.L.length≤2000
theorem ajC(n:Int):w64 n≤9223372036854775807∧-9223372036854775808≤w64 n:=by
 unfold w64
 rw[IntKind.wrap_i64];omega
theorem ax2(l:List Int):Ok (mb l) fV:=by
 unfold mb
 refine Ok.bnd (aar ⟨by omega,?_,?_⟩) λm hm=>Ok.s ⟨by simp,by simp,?_⟩
 ·split<;>omega
 ·split<;>omega
 ·have:=hm.2;simp only;split at this<;>omega
variable {t:bL}
theorem ax3(h:fV t):Ok (iU t) (λp=>fV p.2):=by
 obtain⟨h0,h1,h2⟩:=h
 unfold iU
 refine Ok.cs (λ_=>Ok.s ⟨h0,h1,h2⟩) λhc=>?_
 simp at hc
 have e:w64 (t.At+1)=t.At+1:=iA (by omega) (by omega)
 rw[e,iA (by omega) (by omega)]
 refine Ok.bnd (jM (by omega) (by omega)) λa _=>Ok.s ⟨?_,?_,h2⟩<;>show _<;>simp<;>omega
theorem ax4{x n:Int}(hn:n≤9223372036854775807):Ok (mc x n) (λr=>0≤r∧(1≤n→r<n)∧(n<1→r=0)):=by
 unfold mc
 refine Ok.cs (λh=>Ok.s ?_) λh=>?_
 ·simp at h;omega
 have h:1≤n:=by simpa using h
 have h1:Int.tmod x n<n:=Int.tmod_lt_of_pos _ (by omega)
 have h2 : -n<Int.tmod x n:=Int.lt_tmod_of_pos _ (by omega)
 refine Ok.chk (by simp;omega) ?_
 refine Ok.jn (λr=>0≤r∧r<n) (λs hs=>Ok.s ⟨hs.1,λ_=>hs.2,by omega⟩) λJ hJ=>?_
 refine Ok.cs (λhc=>hJ _ ?_) λhc=>hJ _ ?_
 ·simp at hc;rw[iA (by omega) (by omega)];omega
 ·simp at hc;omega
theorem f_n{n:Int}(h:fV t)(hn:n≤9223372036854775807):Ok (cv t n) (λp=>(0≤p.1∧(1≤n→p.1<n)∧(n<1→p.1=0))∧fV p.2):=by
 unfold cv
 exact Ok.bnd (ax3 h) λp hp=>Ok.bnd (ax4 hn) λr hr=>Ok.s ⟨hr,hp⟩
theorem ad6{low high:Int}(h:fV t):Ok (fJ t low high) (λp=>(-2305843009213693952≤low→low≤high→high<2305843009213693952→low≤p.1∧p.1≤high)∧fV p.2):=by
 unfold fJ
 refine Ok.bnd (f_n h (ajC _).1) λp hp=>Ok.s ⟨λh1 h2 h3=>?_,hp.2⟩
 obtain⟨⟨q1,q2,_⟩,_⟩:=hp
 rw[iA (n:=high-low) (by omega) (by omega),iA (n:=high-low+1) (by omega) (by omega)]at q2
 show low≤w64 (low+p.1)∧w64 (low+p.1)≤high
 rw[iA (by omega) (by omega)];omega
theorem adg{l:List Int}(h:fV t)(h0:1≤l.length)(h1:l.length≤1000000):Ok (fA t l) (λp=>p.1∈l∧fV p.2):=by
 unfold fA
 refine Ok.bnd (f_n h (by omega)) λp hp=>?_
 exact Ok.bnd (jM hp.1.1 (hp.1.2.1 (by omega))) λa ha=>Ok.s ⟨ha.1,hp.2⟩
theorem acm(l:List Int)(n:Int):eF l n=some (decide (n∈l)):=by
 unfold eF
 rw[gO (λx=>decide (x=n)) (some true) (λj x Z s=>rfl) l 0 (),ahf]
 by_cases h:n∈l<;>simp[h]
def nW:List Int→Int→List Int
 |[],x=>[x]
 |y::r,x=>if y<x then y::nW r x else if y=x then y::r else x::y::r
theorem acn:∀{l:List Int} {x y:Int},y∈nW l x↔y=x∨y∈l
 |[],x,y=>by simp[nW]
 |z::r,x,y=>by
  rw[nW]
  split
  ·rw[List.mem_cons,acn,List.mem_cons]
   constructor
   ·rintro(h|h|h)<;>simp[h]
   ·rintro(h|h|h)<;>simp[h]
  ·split
   ·rename_i h;subst h;simp
   ·simp
theorem ahk:∀{l:List Int} {x:Int},l.Pairwise (·<·)→(nW l x).Pairwise (·<·)
 |[],x,_=>by simp[nW]
 |z::r,x,h=>by
  rw[nW]
  rw[List.pairwise_cons]at h
  split
  ·rw[List.pairwise_cons]
   refine⟨λy hy=>?_,ahk h.2⟩
   rcases acn.1 hy with rfl|hy
   ·assumption
   ·exact h.1 y hy
  ·split
   ·exact List.pairwise_cons.2 h
   ·rw[List.pairwise_cons]
    refine⟨λy hy=>?_,List.pairwise_cons.2 h⟩
    rcases List.mem_cons.1 hy with rfl|hy
    ·omega
    ·have:=h.1 y hy;omega
theorem aco:∀(l:List Int) (x:Int),(nW l x).length≤l.length+1
 |[],x=>by simp[nW]
 |z::r,x=>by
  rw[nW]
  have:=aco r x
  split
  ·simp;omega
  ·split<;>simp
theorem ahl:∀(p r:List Int) (x:Int),(∀y∈p,y<x)→(∀y∈r.head?,x≤y)→nW (p++r) x=if r.head?=some x then p++r else p++x::r
 |[],r,x,_,h=>by
  cases r with
  |nil=>simp[nW]
  |cons y r=>
   have:=h y (by simp)
   simp only[List.nil_append,nW,if_neg (show ¬y<x by omega),List.head?_cons,Option.some.injEq]
 |z::p,r,x,hp,h=>by
  have:=hp z (by simp)
  rw[List.cons_append,nW,if_pos this,ahl p r x (λy hy=>hp y (by simp[hy])) h]
  split<;>rfl
theorem ax5(l:List Int)(x:Int)(hl:l.length≤100000):me l x=some (nW l x):=by
 unfold me
 refine Ok.eq (Ok.whl (λk:Int=>0≤k∧k≤l.length∧∀y∈l.take k.toNat,y<x) (λk:Int=>((l.length:Int)-k).toNat) ⟨by omega,by omega,by simp⟩ (by omega) ?_)
 rintro k Z ⟨h0,h1,h2⟩ hZ
 refine Ok.jn (λv:Bool=>(v=true↔∃y∈(l.drop k.toNat).head?,y<x)) ?_ ?_
 ·intro v hv
  refine Ok.cs (λh=>?_) λh=>?_
  ·obtain⟨y,hy,hyx⟩:=hv.1 h
   have hlt:k.toNat<l.length:=by
    cases hd:l.drop k.toNat with
    |nil=>rw[hd]at hy;simp at hy
    |cons z r=>have:=congrArg List.length hd;simp at this;omega
   rw[iA (by omega) (by omega)]
   refine hZ _ ⟨by omega,by omega,λz hz=>?_⟩ (by omega)
   rw[show(k+1).toNat=k.toNat+1 by omega,List.take_succ]at hz
   rcases List.mem_append.1 hz with hz|hz
   ·exact h2 z hz
   ·rw[List.head?_drop]at hy
    have e:l[k.toNat]?=some z:=by simpa using hz
    have e2:l[k.toNat]?=some y:=hy
    rw[e]at e2;cases e2;exact hyx
  ·have hno:∀y∈(l.drop k.toNat).head?,x≤y:=λy hy=>by
    have:¬y<x:=λhh=>by rw[hv.2 ⟨y,hy,hh⟩]at h;cases h
    omega
   have key:=ahl (l.take k.toNat) (l.drop k.toNat) x h2 hno
   rw[List.take_append_drop]at key
   refine Ok.jn (λv:Bool=>(v=true↔(l.drop k.toNat).head?=some x)) ?_ ?_
   ·intro v2 hv2
    refine Ok.cs (λh2=>Ok.s ?_) λh2=>?_
    ·rw[key,if_pos (hv2.1 h2)]
    ·have hne:¬(l.drop k.toNat).head?=some x:=λhh=>by rw[hv2.2 hh]at h2;cases h2
     rw[if_neg hne]at key
     refine Ok.bnd (aar ⟨by omega,by omega,by omega⟩) λl1 q1=>?_
     refine Ok.bnd (tv (by simp;omega)) λl2 q2=>?_
     refine Ok.bnd (aar ⟨by omega,by omega,by omega⟩) λl3 q3=>?_
     refine Ok.bnd (tv (by simp at q2 q3 q1 ⊢;omega)) λl4 q4=>Ok.s ?_
     rw[q4.1,q3.1,q2.1,q1.1,key]
     simp
   ·intro J hJ
    refine Ok.cs (λhc=>?_) λhc=>hJ _ ?_
    ·simp at hc
     refine Ok.bnd (jM h0 hc) λe he=>hJ _ ?_
     rw[List.head?_drop,he.2];simp
    ·simp at hc
     rw[List.drop_of_length_le (by omega)];simp
 ·intro J hJ
  refine Ok.cs (λhc=>?_) λhc=>hJ _ ?_
  ·simp at hc
   refine Ok.bnd (jM h0 hc) λe he=>hJ _ ?_
   rw[List.head?_drop,he.2];simp
  ·simp at hc
   rw[List.drop_of_length_le (by omega)];simp
end Go.Proofs.YtdjeacigeegklaaGreat
