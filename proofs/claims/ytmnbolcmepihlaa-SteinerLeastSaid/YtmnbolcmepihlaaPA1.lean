/- Several texts in one. No condition but those that stand in each. -/
import Derived.Test.YtmnbolcmepihlaaPM
namespace Go.Proofs.Ytmnbolcmepihlaa
set_option linter.all false
open Go
def ei(t:bg):Prop:=0≤t.At∧t.At≤t.L.length∧t.L.length≤2000
theorem y4(n:Int):w64 n≤9223372036854775807∧-9223372036854775808≤w64 n:=by
 unfold w64
 rw[IntKind.wrap_i64];omega
theorem ahE(l:List Int):Ok (fP l) ei:=by
 unfold fP
 refine Ok.bnd (sY ⟨by omega,?_,?_⟩) λm hm=>Ok.s ⟨by simp,by simp,?_⟩
 ·split<;>omega
 ·split<;>omega
 ·have:=hm.2;simp only;split at this<;>omega
variable {t:bg}
theorem ahF(h:ei t):Ok (eA t) (λp=>ei p.2):=by
 obtain⟨h0,h1,h2⟩:=h
 unfold eA
 refine Ok.cs (λ_=>Ok.s ⟨h0,h1,h2⟩) λhc=>?_
 simp at hc
 have e:w64 (t.At+1)=t.At+1:=cn (by omega) (by omega)
 rw[e,cn (by omega) (by omega)]
 refine Ok.bnd (je (by omega) (by omega)) λa _=>Ok.s ⟨?_,?_,h2⟩<;>show _<;>simp<;>omega
theorem ahG{x n:Int}(hn:n≤9223372036854775807):Ok (fQ x n) (λr=>0≤r∧(1≤n→r<n)∧(n<1→r=0)):=by
 unfold fQ
 refine Ok.cs (λh=>Ok.s ?_) λh=>?_
 ·simp at h;omega
 have h:1≤n:=by simpa using h
 have h1:Int.tmod x n<n:=Int.tmod_lt_of_pos _ (by omega)
 have h2 : -n<Int.tmod x n:=Int.lt_tmod_of_pos _ (by omega)
 refine Ok.chk (by simp;omega) ?_
 refine Ok.jn (λr=>0≤r∧r<n) (λs hs=>Ok.s ⟨hs.1,λ_=>hs.2,by omega⟩) λJ hJ=>?_
 refine Ok.cs (λhc=>hJ _ ?_) λhc=>hJ _ ?_
 ·simp at hc;rw[cn (by omega) (by omega)];omega
 ·simp at hc;omega
theorem f_n{n:Int}(h:ei t)(hn:n≤9223372036854775807):Ok (bx t n) (λp=>(0≤p.1∧(1≤n→p.1<n)∧(n<1→p.1=0))∧ei p.2):=by
 unfold bx
 exact Ok.bnd (ahF h) λp hp=>Ok.bnd (ahG hn) λr hr=>Ok.s ⟨hr,hp⟩
theorem ue{low high:Int}(h:ei t):Ok (cM t low high) (λp=>(-2305843009213693952≤low→low≤high→high<2305843009213693952→low≤p.1∧p.1≤high)∧ei p.2):=by
 unfold cM
 refine Ok.bnd (f_n h (y4 _).1) λp hp=>Ok.s ⟨λh1 h2 h3=>?_,hp.2⟩
 obtain⟨⟨q1,q2,_⟩,_⟩:=hp
 rw[cn (n:=high-low) (by omega) (by omega),cn (n:=high-low+1) (by omega) (by omega)]at q2
 show low≤w64 (low+p.1)∧w64 (low+p.1)≤high
 rw[cn (by omega) (by omega)];omega
theorem s5{l:List Int}(h:ei t)(h0:1≤l.length)(h1:l.length≤1000000):Ok (cD t l) (λp=>p.1∈l∧ei p.2):=by
 unfold cD
 refine Ok.bnd (f_n h (by omega)) λp hp=>?_
 exact Ok.bnd (je hp.1.1 (hp.1.2.1 (by omega))) λa ha=>Ok.s ⟨ha.1,hp.2⟩
theorem agw(l:List Int)(n:Int):ec l n=some (decide (n∈l)):=by
 unfold ec
 rw[vZ (λx=>decide (x=n)) (some true) (λj x Z s=>rfl) l 0 (),acT]
 by_cases h:n∈l<;>simp[h]
def jA:List Int→Int→List Int
 |[],x=>[x]
 |y::r,x=>if y<x then y::jA r x else if y=x then y::r else x::y::r
theorem jP:∀{l:List Int} {x y:Int},y∈jA l x↔y=x∨y∈l
 |[],x,y=>by simp[jA]
 |z::r,x,y=>by
  rw[jA]
  split
  ·rw[List.mem_cons,jP,List.mem_cons]
   constructor
   ·rintro(h|h|h)<;>simp[h]
   ·rintro(h|h|h)<;>simp[h]
  ·split
   ·rename_i h;subst h;simp
   ·simp
theorem uf:∀{l:List Int} {x:Int},l.Pairwise (·<·)→(jA l x).Pairwise (·<·)
 |[],x,_=>by simp[jA]
 |z::r,x,h=>by
  rw[jA]
  rw[List.pairwise_cons]at h
  split
  ·rw[List.pairwise_cons]
   refine⟨λy hy=>?_,uf h.2⟩
   rcases jP.1 hy with rfl|hy
   ·assumption
   ·exact h.1 y hy
  ·split
   ·exact List.pairwise_cons.2 h
   ·rw[List.pairwise_cons]
    refine⟨λy hy=>?_,List.pairwise_cons.2 h⟩
    rcases List.mem_cons.1 hy with rfl|hy
    ·omega
    ·have:=h.1 y hy;omega
theorem su:∀(l:List Int) (x:Int),(jA l x).length≤l.length+1
 |[],x=>by simp[jA]
 |z::r,x=>by
  rw[jA]
  have:=su r x
  split
  ·simp;omega
  ·split<;>simp
theorem xd:∀(p r:List Int) (x:Int),(∀y∈p,y<x)→(∀y∈r.head?,x≤y)→jA (p++r) x=if r.head?=some x then p++r else p++x::r
 |[],r,x,_,h=>by
  cases r with
  |nil=>simp[jA]
  |cons y r=>
   have:=h y (by simp)
   simp only[List.nil_append,jA,if_neg (show ¬y<x by omega),List.head?_cons,Option.some.injEq]
 |z::p,r,x,hp,h=>by
  have:=hp z (by simp)
  rw[List.cons_append,jA,if_pos this,xd p r x (λy hy=>hp y (by simp[hy])) h]
  split<;>rfl
theorem aaQ(l:List Int)(x:Int)(hl:l.length≤100000):dD l x=some (jA l x):=by
 unfold dD
 refine Ok.eq (Ok.whl (λk:Int=>0≤k∧k≤l.length∧∀y∈l.take k.toNat,y<x) (λk:Int=>((l.length:Int)-k).toNat) ⟨by omega,by omega,by simp⟩ (by omega) ?_)
 rintro k Z ⟨h0,h1,h2⟩ hZ
 refine Ok.jn (λv:Bool=>(v=true↔∃y∈(l.drop k.toNat).head?,y<x)) ?_ ?_
 ·intro v hv
  refine Ok.cs (λh=>?_) λh=>?_
  ·obtain⟨y,hy,hyx⟩:=hv.1 h
   have hlt:k.toNat<l.length:=by
    cases hd:l.drop k.toNat with
    |nil=>rw[hd]at hy;simp at hy
    |cons z r=>have:=congrArg List.length hd;simp at this;omega
   rw[cn (by omega) (by omega)]
   refine hZ _ ⟨by omega,by omega,λz hz=>?_⟩ (by omega)
   rw[show(k+1).toNat=k.toNat+1 by omega,List.take_succ]at hz
   rcases List.mem_append.1 hz with hz|hz
   ·exact h2 z hz
   ·rw[List.head?_drop]at hy
    have e:l[k.toNat]?=some z:=by simpa using hz
    have e2:l[k.toNat]?=some y:=hy
    rw[e]at e2;cases e2;exact hyx
  ·have hno:∀y∈(l.drop k.toNat).head?,x≤y:=λy hy=>by
    have:¬y<x:=λhh=>by rw[hv.2 ⟨y,hy,hh⟩]at h;cases h
    omega
   have key:=xd (l.take k.toNat) (l.drop k.toNat) x h2 hno
   rw[List.take_append_drop]at key
   refine Ok.jn (λv:Bool=>(v=true↔(l.drop k.toNat).head?=some x)) ?_ ?_
   ·intro v2 hv2
    refine Ok.cs (λh2=>Ok.s ?_) λh2=>?_
    ·rw[key,if_pos (hv2.1 h2)]
    ·have hne:¬(l.drop k.toNat).head?=some x:=λhh=>by rw[hv2.2 hh]at h2;cases h2
     rw[if_neg hne]at key
     refine Ok.bnd (sY ⟨by omega,by omega,by omega⟩) λl1 q1=>?_
     refine Ok.bnd (sX (by simp;omega)) λl2 q2=>?_
     refine Ok.bnd (sY ⟨by omega,by omega,by omega⟩) λl3 q3=>?_
     refine Ok.bnd (sX (by simp at q2 q3 q1 ⊢;omega)) λl4 q4=>Ok.s ?_
     rw[q4.1,q3.1,q2.1,q1.1,key]
     simp
   ·intro J hJ
    refine Ok.cs (λhc=>?_) λhc=>hJ _ ?_
    ·simp at hc
     refine Ok.bnd (je h0 hc) λe he=>hJ _ ?_
     rw[List.head?_drop,he.2];simp
    ·simp at hc
     rw[List.drop_of_length_le (by omega)];simp
 ·intro J hJ
  refine Ok.cs (λhc=>?_) λhc=>hJ _ ?_
  ·simp at hc
   refine Ok.bnd (je h0 hc) λe he=>hJ _ ?_
   rw[List.head?_drop,he.2];simp
  ·simp at hc
   rw[List.drop_of_length_le (by omega)];simp
end Go.Proofs.Ytmnbolcmepihlaa
namespace Go.Proofs.Ytmnbolcmepihlaa
set_option linter.all false
open Go
theorem ahH(n:Int):IntKind.wrap .u64 n=n%18446744073709551616:=by
 simp[IntKind.wrap,IntKind.bits,IntKind.signed]
theorem wrap_u64{n:Int}(h0:0≤n)(h:n<18446744073709551616):IntKind.wrap .u64 n=n:=by
 rw[ahH];omega
end Go.Proofs.Ytmnbolcmepihlaa
namespace Go.Proofs.Ytmnbolcmepihlaa
set_option linter.all false
open Go
def ltH(a b:aV):Bool:=decide (a.bf<b.bf)||(decide (a.bf=b.bf)&&decide (a.To<b.To))
inductive Rch(root:Int)(L:List aV):Int→Prop
 |root:Rch root L root
 |step (h:aV):h∈L→Rch root L h.bf→Rch root L h.To
def mU(f:Int→Bool)(L:List aV):Nat:=(L.filter λh=>!f h.To).length
variable {f:Int→Bool}
theorem xe{g:Int→Bool}(h:∀x,f x=true→g x=true)(L:List aV):mU g L≤mU f L:=by
 unfold mU
 induction L with
 |nil=>simp
 |cons a r ih=>
  simp only[List.filter_cons]
  cases hf:f a.To
  ·cases hg:g a.To<;>simp<;>omega
  ·rw[h _ hf];simpa using ih
theorem xg{f g:Int→Bool}(h:∀x,f x=true→g x=true){a:aV}:∀{L:List aV},a∈L→f a.To=false→g a.To=true→mU g L<mU f L
 |[],ha,_,_=>by cases ha
 |b::r,ha,h1,h2=>by
  have hle:=xe h r
  unfold mU at *
  simp only[List.filter_cons]
  rcases List.mem_cons.1 ha with rfl|ha
  ·rw[h1,h2];simp;omega
  ·have ih:=xg h ha h1 h2
   unfold mU at ih
   cases hf:f b.To
   ·cases hg:g b.To<;>simp<;>omega
   ·rw[h _ hf];simpa using ih
structure RI(root:Int)(L:List aV)(f:Int→Bool):Prop where
 rt:f root=true
 sub:∀x,f x=true→Rch root L x
structure RJ(root:Int)(L:List aV)(f0:Int→Bool)(p:List aV)(g:Bool)(f:Int→Bool):Prop where
 ri:RI root L f
 up:∀x,f0 x=true→f x=true
 no:g=false→(∀x,f x=f0 x)∧∀h∈p,f h.bf=true→f h.To=true
 yes:g=true→mU f L<mU f0 L
variable {L p:List aV}{f0:Int→Bool}{h:aV}
theorem RJ.add{root:Int}{f':Int→Bool}{g:Bool}(j:RJ root L f0 p g f)(hm:h∈L)(h1:f h.bf=true)(h2:f h.To=false)(hf:∀y,f' y=(decide (y=h.To)||f y)):RJ root L f0 (p++[h]) true f':=by
 have up:∀x,f x=true→f' x=true:=λx hx=>by rw[hf,hx];simp
 have hl:mU f' L<mU f L:=xg up hm h2 (by rw[hf];simp)
 refine⟨⟨up _ j.ri.rt,λx hx=>?_⟩,λx hx=>up x (j.up x hx),λh=>(by cases h),λ_=>?_⟩
 ·rw[hf,Bool.or_eq_true,decide_eq_true_eq]at hx
  rcases hx with rfl|hx
  ·exact .step h hm (j.ri.sub _ h1)
  ·exact j.ri.sub x hx
 ·have:=xe j.up L;omega
theorem RJ.pass{root:Int}{g:Bool}(j:RJ root L f0 p g f)(hn:f h.bf=false∨f h.To=true):RJ root L f0 (p++[h]) g f:=by
 refine⟨j.ri,j.up,λhg=>⟨(j.no hg).1,λx hx hf=>?_⟩,j.yes⟩
 rcases List.mem_append.1 hx with hx|hx
 ·exact(j.no hg).2 x hx hf
 ·simp at hx;subst hx
  rcases hn with hn|hn
  ·rw[hn]at hf;cases hf
  ·exact hn
theorem RI.done{root:Int}(h:RI root L f)(hc:∀x∈L,f x.bf=true→f x.To=true)(x:Int):f x=true↔Rch root L x:=by
 refine⟨h.sub x,λhr=>?_⟩
 induction hr with
 |root=>exact h.rt
 |step y hy _ ih=>exact hc y hy ih
structure Vr(t:ef):Prop where
 rt:1≤t.jx∧t.jx≤99
 rng:∀h∈t.Links,(1≤h.bf∧h.bf≤99)∧1≤h.To∧h.To≤99
 asc:t.Links.Pairwise λa b=>ltH a b=true
 dup:t.Links.Pairwise λa b=>a.To≠b.To
 nrt:∀h∈t.Links,h.To≠t.jx
 rch:∀h∈t.Links,Rch t.jx t.Links h.bf
theorem y5(a b c:aV)(h1:ltH a b=true)(h2:ltH b c=true):ltH a c=true:=by
 simp[ltH]at *;omega
theorem Vr.nodup{t:ef}(h:Vr t):(t.jx::t.Links.map (·.To)).Nodup:=by
 rw[List.nodup_cons]
 refine⟨λhm=>?_,?_⟩
 ·obtain⟨x,hx,e⟩:=List.mem_map.1 hm
  exact h.nrt x hx e
 ·exact List.pairwise_map.2 h.dup
end Go.Proofs.Ytmnbolcmepihlaa
namespace Go.Proofs.Ytmnbolcmepihlaa
set_option linter.all false
open Go
structure Vn(g:az)(most:Int):Prop where
 v:Vt g
 n:1≤g.ay.length∧(g.ay.length:Int)≤most
 c:∀r∈g.ay,r.qt=true
 i:∀r∈g.ay,r.ID≤5*most
def tri(n:Nat):Nat→Nat
 |0=>0
 |a+1=>tri n a+(n-1-a)
theorem y6:∀n,n≤9→∀a,a≤n→tri n a≤36:=by decide
structure Mx(n:Nat)(M:List (List Bool)):Prop where
 len:M.length=n
 row:∀r∈M,r.length=n
 up:∀(a b:Nat) (r:List Bool),M[a]?=some r→r[b]?=some true→a<b
theorem Mx.set{n:Nat}{M:List (List Bool)}(h:Mx n M){a b:Nat}{r:List Bool}(hr:M[a]?=some r)(hab:a<b)(hb:b<n):Mx n (M.set a (r.set b true)):=by
 obtain⟨h1,h2,h3⟩:=h
 have hm:r∈M:=List.mem_of_getElem? hr
 refine⟨by simpa using h1,λq hq=>?_,λi j q hq hj=>?_⟩
 ·rcases List.mem_or_eq_of_mem_set hq with hq|rfl
  ·exact h2 q hq
  ·simpa using h2 r hm
 ·rw[List.getElem?_set]at hq
  by_cases hi:a=i
  ·subst hi
   have hlt:a<M.length:=(List.getElem?_eq_some_iff.1 hr).1
   simp only[if_true,hlt,Option.some.injEq]at hq
   subst hq
   rw[List.getElem?_set]at hj
   by_cases hbj:b=j
   ·omega
   ·rw[if_neg hbj]at hj;exact h3 a j r hr hj
  ·rw[if_neg hi]at hq;exact h3 i j q hq hj
variable {M:List (List Bool)}{i:Int}
theorem y7{n:Nat}(h:Mx n M)(h0:0≤i)(hi:i<n):Ok (elO M i) (λr=>M[i.toNat]?=some r∧r.length=n):=by
 refine(je h0 (by rw[h.len];exact hi)).mono λr hr=>⟨hr.2,h.row r hr.1⟩
theorem wh{n:Nat}(h:Mx n M){j:Int}{γ:Type}{Q:γ→Prop}(k:List Bool→List Bool→Option γ)(h0:0≤i)(hij:i<j)(hj:j<n)(hk:∀r r2,Mx n (List.set M i.toNat r2)→Ok (k r r2) Q):
  Ok (bnd (elO M i) λe=>bnd (elO e j) λ_=>bnd (pL e j true) λl=>k e l) Q:=by
 refine Ok.bnd (y7 h h0 (by omega)) λr hr=>Ok.bnd (je (by omega) (by rw[hr.2];omega)) λ_ _=>?_
 refine Ok.bnd (agr (by omega) (by rw[hr.2];omega)) λl hl=>hk r l ?_
 rw[hl.1]
 exact h.set hr.1 (by omega) (by omega)
structure Lx(R:List aK)(ls:List bh)(a b:Nat):Prop where
 at_:∀l∈ls,∃i j x y,i<j∧R[i]?=some x∧R[j]?=some y∧l.A=x.ID∧l.B=y.ID∧(i<a∨i=a∧j<b)
 ok:∀l∈ls,mR l=false
 asc:ls.Pairwise λx y=>ltL x y=true
 len:ls.length≤tri R.length a+(b-(a+1))
variable {x:aK}
theorem x5{R:List aK}(h:R.Pairwise λa b=>a.ID<b.ID){i j:Nat}{y:aK}(hx:R[i]?=some x)(hy:R[j]?=some y)(hij:i<j):x.ID<y.ID:=by
 obtain⟨h1,rfl⟩:=List.getElem?_eq_some_iff.1 hx
 obtain⟨h2,rfl⟩:=List.getElem?_eq_some_iff.1 hy
 exact List.pairwise_iff_getElem.1 h i j h1 h2 hij
variable {a b:Nat}{ls:List bh}
theorem Lx.add{R:List aK}(h:Lx R ls a b)(hR:R.Pairwise λa b=>a.ID<b.ID){l:bh}{y:aK}(hab:a<b)(hx:R[a]?=some x)(hy:R[b]?=some y)(hA:l.A=x.ID)(hB:l.B=y.ID)(hl:mR l=false):Lx R (ls++[l]) a (b+1):=by
 refine⟨λm hm=>?_,λm hm=>?_,?_,?_⟩
 ·rcases List.mem_append.1 hm with hm|hm
  ·obtain⟨i,j,x,y,h1,h2,h3,h4,h5,h6⟩:=h.at_ m hm
   exact⟨i,j,x,y,h1,h2,h3,h4,h5,by omega⟩
  ·simp at hm;subst hm
   exact⟨a,b,x,y,hab,hx,hy,hA,hB,by omega⟩
 ·rcases List.mem_append.1 hm with hm|hm
  ·exact h.ok m hm
  ·simp at hm;subst hm;exact hl
 ·refine List.pairwise_append.2 ⟨h.asc,by simp,λm hm q hq=>?_⟩
  simp at hq;subst hq
  obtain⟨i,j,x',y',h1,h2,h3,h4,h5,h6⟩:=h.at_ m hm
  simp only[ltL,Bool.or_eq_true,Bool.and_eq_true,decide_eq_true_eq]
  rcases h6 with h6|⟨rfl,h6⟩
  ·have:=x5 hR h2 hx h6;left;omega
  ·rw[hx]at h2;cases h2
   have:=x5 hR h3 hy h6;right;omega
 ·have:=h.len;simp;omega
theorem Lx.skip{R:List aK}(h:Lx R ls a b):Lx R ls a (b+1):=
 ⟨λm hm=>by
  obtain⟨i,j,x,y,h1,h2,h3,h4,h5,h6⟩:=h.at_ m hm
  exact⟨i,j,x,y,h1,h2,h3,h4,h5,by omega⟩,h.ok,h.asc,by have:=h.len;omega⟩
theorem Lx.next{R:List aK}(h:Lx R ls a b)(hb:b=R.length):Lx R ls (a+1) 0:=
 ⟨λm hm=>by
  obtain⟨i,j,x,y,h1,h2,h3,h4,h5,h6⟩:=h.at_ m hm
  exact⟨i,j,x,y,h1,h2,h3,h4,h5,by omega⟩,h.ok,h.asc,by have:=h.len;simp only[tri];omega⟩
theorem wj{t:bg}{most:Int}(h:ei t)(hm:1≤most∧most≤9):Ok (ig t most) (λp=>Vn p.1 most∧ei p.2):=by
 unfold ig
 refine Ok.bnd (ue h) λp hp=>?_
 obtain⟨n,t1⟩:=p
 obtain⟨hn,ht⟩:=hp
 have hn:1≤n∧n≤most:=hn (by omega) (by omega) (by omega)
 have ht:ei t1:=ht
 refine Ok.chk (by simp;omega) ?_
 refine Ok.gY (λj (sg:Int×List aK×List Int×Int)=>(0≤sg.1∧sg.1≤5*j)∧(sg.2.1.length:Int)=j∧sg.2.1.Pairwise (λa b=>a.ID<b.ID)∧(∀r∈sg.2.1,(1≤r.ID∧r.ID≤sg.1)∧r.qt=true)∧ei (bg.mk sg.2.2.1 sg.2.2.2)) 0 n ?_ ?_ _ _ _ rfl (by omega) (by omega) ⟨by simp,by simp,by simp,by simp,ht⟩
 ·rintro j ⟨id,m,L,A⟩ Z h1 h2 ⟨⟨i0,i1⟩,i2,i3,i4,i5⟩ hZ
  simp only at i0 i1 i2 i3 i4
  refine Ok.bnd (s5 i5 (by simp) (by simp)) λq hq=>?_
  obtain⟨hq,hq2⟩:=hq
  have hb:1≤q.1∧q.1≤5:=by
   simp only[List.mem_cons,List.not_mem_nil,or_false]at hq;omega
  rw[cn (by omega) (by omega)]
  refine Ok.bnd (sX (by simp;omega)) λm2 q2=>hZ _ ⟨⟨by simp only;omega,by simp only;omega⟩,?_,?_,?_,hq2⟩
  ·have:=q2.2;simp at this ⊢;omega
  ·simp only[q2.1]
   refine List.pairwise_append.2 ⟨i3,by simp,λa ha b hb2=>?_⟩
   simp at hb2;subst hb2
   have:=(i4 a ha).1;simp only;omega
  ·simp only[q2.1]
   intro r hr
   rcases List.mem_append.1 hr with hr|hr
   ·have:=i4 r hr;exact⟨⟨this.1.1,by have:=this.1.2;omega⟩,this.2⟩
   ·simp at hr;subst hr;exact⟨⟨by simp only;omega,by simp only;omega⟩,rfl⟩
 rintro j ⟨id,R,L,A⟩ h1 h2 ⟨⟨i0,i1⟩,i2,i3,i4,i5⟩
 have hj:j=n:=h2 (by omega)
 subst hj
 simp only at i0 i1 i2 i3 i4
 have hN:R.length=j.toNat:=by omega
 refine Ok.chk (by simp;omega) (Ok.chk (by simp;omega) ?_)
 refine Ok.gY (λi (M:List (List Bool))=>M.length=j.toNat∧∀(k:Nat),(k:Int)<i→M[k]?=some (List.replicate j.toNat false)) 0 j ?_ ?_ _ _ _ (by simp;omega) (by omega) (by omega) ⟨by simp,λk hk=>by omega⟩
 ·rintro i M Z q1 q2 ⟨e1,e2⟩ hZ
  refine Ok.chk (by simp;omega) (Ok.bnd (je q1 (by omega)) λ_ _=>hZ _ ⟨by simpa using e1,λk hk=>?_⟩)
  rw[List.getElem?_set]
  by_cases hki:i.toNat=k
  ·rw[if_pos hki,if_pos (by omega)]
  ·rw[if_neg hki];exact e2 k (by omega)
 rintro i M q1 q2 ⟨e1,e2⟩
 have hi:i=j:=q2 (by omega)
 subst hi
 have hM:Mx i.toNat M:=by
  have hall:∀(a:Nat) r,M[a]?=some r→r=List.replicate i.toNat false:=λa r hr=>by
   have hlt:a<M.length:=(List.getElem?_eq_some_iff.1 hr).1
   rw[e2 a (by omega)]at hr;exact(Option.some.inj hr).symm
  refine⟨e1,λr hr=>?_,λa b r hr hb=>?_⟩
  ·obtain⟨a,ha⟩:=List.getElem?_of_mem hr
   rw[hall a r ha];simp
  ·rw[hall a r hr]at hb
   have:=List.mem_of_getElem? hb
   simp at this
 clear e1 e2
 refine Ok.chk (by simp;omega) ?_
 refine Ok.gY (λk (sg:List Int×Int×List (List Bool))=>ei (bg.mk sg.1 sg.2.1)∧Mx i.toNat sg.2.2) 1 i ?_ ?_ _ _ _ rfl (by omega) (by omega) ⟨i5,hM⟩
 ·rintro k ⟨L1,A1,M1⟩ Z k1 k2 ⟨e1,e2⟩ hZ
  refine Ok.jn (λsg:List (List Bool)×List Int×Int=>ei (bg.mk sg.2.1 sg.2.2)∧Mx i.toNat sg.1) (λs hs=>hZ _ hs) λJ hJ=>?_
  refine Ok.bnd (f_n e1 (by omega)) λv hv=>Ok.cs (λ_=>?_) λ_=>hJ _ ⟨hv.2,e2⟩
  refine Ok.bnd (f_n hv.2 (by omega)) λu hu=>?_
  exact wh e2 (λ_ l=>J (List.set M1 u.1.toNat l,u.2.L,u.2.At)) hu.1.1 (hu.1.2.1 (by omega)) (by omega) λr r2 hr2=>hJ _ ⟨hu.2,hr2⟩
 rintro k ⟨L1,A1,M1⟩ k1 k2 ⟨e1,e2⟩
 refine Ok.bnd (f_n e1 (y4 _).1) λv hv=>?_
 rw[cn (n:=i+2) (by omega) (by omega)]at hv
 have hv1:=hv.1.2.1 (by omega)
 refine Ok.whl (λsg:Int×List Int×Int×List (List Bool)=>(0≤sg.1∧sg.1≤11)∧ei (bg.mk sg.2.1 sg.2.2.1)∧Mx i.toNat sg.2.2.2) (λsg=>sg.1.toNat) ⟨⟨hv.1.1,by simp only;omega⟩,hv.2,e2⟩ (by simp only;omega) ?_
 rintro⟨c,L2,A2,M2⟩ Z ⟨⟨c0,c1⟩,e3,e4⟩ hZ
 simp only at c0 c1
 refine Ok.cs (λhc=>?_) λhc=>?_
 ·have hc:0<c:=by simpa using hc
  refine Ok.jn (λsg:List (List Bool)×List Int×Int=>ei (bg.mk sg.2.1 sg.2.2)∧Mx i.toNat sg.1) (λs hs=>?_) λJ hJ=>?_
  ·rw[cn (n:=c-1) (by omega) (by omega)]
   exact hZ _ ⟨⟨by simp only;omega,by simp only;omega⟩,hs.1,hs.2⟩ (by simp only;omega)
  ·refine Ok.bnd (f_n e3 (by omega)) λa ha=>Ok.bnd (f_n ha.2 (by omega)) λb hb=>?_
   have ha1:=ha.1.2.1 (by omega);have hb1:=hb.1.2.1 (by omega);have ha0:=ha.1.1;have hb0:=hb.1.1
   refine Ok.cs (λhne=>?_) λ_=>hJ _ ⟨hb.2,e4⟩
   have hne:a.1≠b.1:=by simpa using hne
   refine wh e4 (λ_ l=>J (List.set M2 _ l,b.2.L,b.2.At)) (by split<;>omega) (by split<;>split<;>omega) (by split<;>omega) λr r2 hr2=>hJ _ ⟨hb.2,hr2⟩
 clear hZ e2 hM hv hv1 e1
 refine Ok.bnd (f_n e3 (by omega)) λw hw=>?_
 have hML:M2.length=i.toNat:=e4.len
 refine Ok.chk (by simp;omega) ?_
 refine Ok.gY (λa (sg:List bh×List Int×Int)=>Lx R sg.1 a.toNat 0∧ei (bg.mk sg.2.1 sg.2.2)) 0 i ?_ ?_ _ _ _ (by rw[hML];omega) (by omega) (by omega) ⟨⟨by simp,by simp,by simp,by simp⟩,hw.2⟩
 ·rintro a ⟨ls,L3,A3⟩ Z a0 a1 ⟨e5,e6⟩ hZ
  refine Ok.chk (by simp;omega) ?_
  refine Ok.gY (λb (sg:List bh×List Int×Int)=>Lx R sg.1 a.toNat b.toNat∧ei (bg.mk sg.2.1 sg.2.2)) 0 i ?_ ?_ _ _ _ (by rw[hML];omega) (by omega) (by omega) ⟨e5,e6⟩
  ·rintro b ⟨ls,L4,A4⟩ Z2 b0 b1 ⟨e7,e8⟩ hZ2
   have e7:Lx R ls a.toNat b.toNat:=e7
   have e8:ei (bg.mk L4 A4):=e8
   have hsk:Lx R ls a.toNat (b+1).toNat:=by rw[show(b+1).toNat=b.toNat+1 by omega];exact e7.skip
   refine Ok.jn (λsg:List Int×Int×List bh=>ei (bg.mk sg.1 sg.2.1)∧Lx R sg.2.2 a.toNat (b+1).toNat) (λs hs=>hZ2 _ ⟨hs.2,hs.1⟩) λJ3 hJ3=>?_
   refine Ok.bnd (y7 e4 a0 (by omega)) λrow hrow=>Ok.bnd (je b0 (by rw[hrow.2];omega)) λc hc=>?_
   cases c with
   |false=>exact hJ3 _ ⟨e8,hsk⟩
   |true=>
    have hab:a.toNat<b.toNat:=e4.up _ _ _ hrow.1 hc.2
    simp only[Bool.not_true,cond_false]
    refine Ok.bnd (je a0 (by omega)) λx hx=>Ok.bnd (je b0 (by omega)) λy hy=>Ok.bnd (s5 e8 (by simp) (by simp)) λcp hcp=>?_
    have hcap:0≤cp.1∧cp.1≤1000:=by
     have:=hcp.1;simp only[List.mem_cons,List.not_mem_nil,or_false]at this;omega
    have hlen:ls.length≤36+9:=by
     have:=e7.len;have:=y6 R.length (by omega) a.toNat (by omega);omega
    refine Ok.jn (λsg:List Int×Int×Int×Int=>ei (bg.mk sg.1 sg.2.1)∧(1≤sg.2.2.1∧sg.2.2.1≤1000)∧1≤sg.2.2.2∧sg.2.2.2≤1000) (λs hs=>?_) λJ4 hJ4=>?_
    ·obtain⟨L5,A5,ca,cb⟩:=s
     obtain⟨s1,s2,s3⟩:=hs
     simp only at s2 s3
     refine Ok.bnd (sX (by simp;omega)) λls2 q2=>hJ3 _ ⟨s1,?_⟩
     rw[q2.1,show(b+1).toNat=b.toNat+1 by omega]
     refine e7.add i3 hab hx.2 hy.2 rfl rfl ?_
     simp only[mR,sZ]
     simp;omega
    ·refine Ok.cs (λ_=>?_) λ_=>hJ4 _ ⟨hcp.2,by simp only;omega,by simp only;omega⟩
     refine Ok.bnd (ue hcp.2) λr1 hr1=>Ok.bnd (s5 hr1.2 (by simp) (by simp)) λp1 hp1=>Ok.bnd (ue hp1.2) λr2 hr2=>Ok.bnd (s5 hr2.2 (by simp) (by simp)) λp2 hp2=>hJ4 _ ⟨hp2.2,?_,?_⟩
     ·have h1:=hr1.1 (by omega) (by omega) (by omega);have h2:=hp1.1
      simp only[List.mem_cons,List.not_mem_nil,or_false]at h2 ⊢;omega
     ·have h1:=hr1.1 (by omega) (by omega) (by omega);have h2:=hp1.1;have h3:=hr2.1 (by omega) (by omega) (by omega);have h4:=hp2.1
      simp only[List.mem_cons,List.not_mem_nil,or_false]at h2 h4 ⊢;omega
  ·rintro b ⟨ls,L4,A4⟩ b0 b1 ⟨e7,e8⟩
   have hb:b=i:=b1 (by omega)
   subst hb
   refine hZ _ ⟨?_,e8⟩
   rw[show(a+1).toNat=a.toNat+1 by omega]
   exact e7.next (by omega)
 ·rintro a ⟨ls,L3,A3⟩ a0 a1 ⟨e5,e6⟩
  have ha:a=i:=a1 (by omega)
  subst ha
  have e5:Lx R ls a.toNat 0:=e5
  have hlen:ls.length≤36:=by
   have:=e5.len;have:=y6 R.length (by omega) a.toNat (by omega);omega
  refine Ok.s ⟨⟨⟨?_,?_,λr hr=>?_,i3,e5.ok,λl hl=>?_,λl hl=>?_,e5.asc⟩,⟨?_,?_⟩,λr hr=>(i4 r hr).2,λr hr=>?_⟩,e6⟩
  ·show R.length≤24;omega
  ·show ls.length≤60;omega
  ·have:=(i4 r hr).1;omega
  ·obtain⟨i,j,x,y,q1,q2,q3,q4,q5,_⟩:=e5.at_ l hl
   exact⟨mT.2 ⟨x,List.mem_of_getElem? q2,q4.symm⟩,mT.2 ⟨y,List.mem_of_getElem? q3,q5.symm⟩⟩
  ·obtain⟨i,j,x,y,q1,q2,q3,q4,q5,_⟩:=e5.at_ l hl
   have:=x5 i3 q2 q3 q1;omega
  ·show 1≤R.length;omega
  ·show(R.length:Int)≤most;omega
  ·have:=(i4 r hr).1;omega
end Go.Proofs.Ytmnbolcmepihlaa
namespace Go.Proofs.Ytmnbolcmepihlaa
set_option linter.all false
open Go
theorem rm{t:bg}{g:az}{γ:Type}{Q:γ→Prop}{k:Int×bg→aK→Option γ}(h:ei t)(hg:1≤g.ay.length∧g.ay.length≤1000)(hk:∀p r,ei p.2→r∈g.ay→r.ID∈ids g→Ok (k p r) Q):
  Ok (bnd (bx t (g.ay.length:Int)) λp=>bnd (elO g.ay p.1) λr=>k p r) Q:=
 Ok.bnd (f_n h (by omega)) λp hp=>Ok.bnd (je hp.1.1 (hp.1.2.1 (by omega))) λr hr=>hk p r hp.2 hr.1 (List.mem_map.2 ⟨r,hr.1,rfl⟩)
theorem aar{t:bg}{g:az}{n:Int}(h:ei t)(hg:g.ay.length≤1000)(hn:0≤n∧n≤1000):Ok (kJ t g n) (λp=>(p.1.Pairwise (·<·)∧(∀x∈p.1,x∈ids g)∧(p.1.length:Int)≤n)∧ei p.2):=by
 unfold kJ
 rw[cn (by omega) (by omega)]
 refine Ok.bnd (f_n h (by omega)) λq hq=>?_
 have hq1:=hq.1.2.1 (by omega)
 refine Ok.whl (λsg:List Int×Int×List Int×Int=>(sg.1.Pairwise (·<·)∧(∀x∈sg.1,x∈ids g)∧(sg.1.length:Int)+sg.2.1≤n∧0≤sg.2.1)∧ei (bg.mk sg.2.2.1 sg.2.2.2)) (λsg=>sg.2.1.toNat) ⟨⟨by simp,by simp,by simp;omega,hq.1.1⟩,hq.2⟩ (by simp only;omega) ?_
 rintro⟨out,i,L,A⟩ Z ⟨⟨h1,h2,h3,h4⟩,h5⟩ hZ
 simp only at h1 h2 h3 h4
 refine Ok.cs (λhc=>?_) λhc=>Ok.s ⟨⟨h1,h2,by simp only;omega⟩,h5⟩
 simp only[Bool.and_eq_true,decide_eq_true_eq]at hc
 refine rm h5 (by omega) λp r hp hr hid=>?_
 rw[aaQ _ _ (by omega),cO,cn (by omega) (by omega)]
 have:=su out r.ID
 refine hZ _ ⟨⟨uf h1,λx hx=>?_,by simp only;omega,by simp only;omega⟩,hp⟩ (by simp only;omega)
 rcases jP.1 hx with rfl|hx
 ·exact hid
 ·exact h2 x hx
def lP:List aV→aV→List aV
 |[],x=>[x]
 |y::r,x=>if ltH y x then y::lP r x else x::y::r
theorem kY:∀{l:List aV} {x y:aV},y∈lP l x↔y=x∨y∈l
 |[],x,y=>by simp[lP]
 |z::r,x,y=>by
  rw[lP]
  split
  ·rw[List.mem_cons,kY,List.mem_cons]
   constructor
   ·rintro(h|h|h)<;>simp[h]
   ·rintro(h|h|h)<;>simp[h]
  ·simp
theorem uN:∀(l:List aV) (x:aV),(lP l x).Perm (x::l)
 |[],x=>by simp[lP]
 |z::r,x=>by
  rw[lP]
  split
  ·exact((uN r x).cons z).trans (.swap x z r)
  ·exact .refl _
theorem y8{a b:aV}(h:ltH a b=false)(hne:a≠b):ltH b a=true:=by
 cases a;cases b
 simp[ltH]at *
 omega
theorem xk:∀{l:List aV} {x:aV},l.Pairwise (λa b=>ltH a b=true)→x∉l→(lP l x).Pairwise (λa b=>ltH a b=true)
 |[],x,_,_=>by simp[lP]
 |z::r,x,h,hx=>by
  rw[lP]
  rw[List.pairwise_cons]at h
  simp only[List.mem_cons,not_or]at hx
  split
  ·rename_i hz
   rw[List.pairwise_cons]
   refine⟨λy hy=>?_,xk h.2 hx.2⟩
   rcases kY.1 hy with rfl|hy
   ·exact hz
   ·exact h.1 y hy
  ·rename_i hz
   have hzx:ltH x z=true:=y8 (by simpa using hz) (Ne.symm hx.1)
   rw[List.pairwise_cons,List.pairwise_cons]
   refine⟨λy hy=>?_,h⟩
   rcases List.mem_cons.1 hy with rfl|hy
   ·exact hzx
   ·exact y5 _ _ _ hzx (h.1 y hy)
theorem Rch.mono{root:Int}{L L':List aV}(h:∀x∈L,x∈L'){y:Int}(hr:Rch root L y):Rch root L' y:=by
 induction hr with
 |root=>exact .root
 |step x hx _ ih=>exact .step x (h x hx) ih
theorem Vr.reach{t:ef}(h:Vr t){x:Int}(hx:x=t.jx∨∃h∈t.Links,h.To=x):Rch t.jx t.Links x:=by
 rcases hx with rfl|⟨y,hy,rfl⟩
 ·exact .root
 ·exact .step y hy (h.rch y hy)
theorem Vr.add{t:ef}(h:Vr t){x:aV}(hr:(1≤x.bf∧x.bf≤99)∧1≤x.To∧x.To≤99)(hf:x.bf=t.jx∨∃h∈t.Links,h.To=x.bf)(ht:¬(x.To=t.jx∨∃h∈t.Links,h.To=x.To)):Vr (ef.mk t.jx (lP t.Links x)):=by
 rw[not_or]at ht
 have hx:x∉t.Links:=λhm=>ht.2 ⟨x,hm,rfl⟩
 have hsub:∀y∈t.Links,y∈lP t.Links x:=λy hy=>kY.2 (.inr hy)
 refine⟨h.rt,λy hy=>?_,xk h.asc hx,?_,λy hy=>?_,λy hy=>?_⟩
 ·rcases kY.1 hy with rfl|hy
  ·exact hr
  ·exact h.rng y hy
 ·refine((uN t.Links x).pairwise_iff (λ{a b} (hab:a.To≠b.To)=>Ne.symm hab)).2 ?_
  rw[List.pairwise_cons]
  exact⟨λy hy e=>ht.2 ⟨y,hy,e.symm⟩,h.dup⟩
 ·rcases kY.1 hy with rfl|hy
  ·exact ht.1
  ·exact h.nrt y hy
 ·rcases kY.1 hy with rfl|hy
  ·exact(h.reach hf).mono hsub
  ·exact(h.rch y hy).mono hsub
end Go.Proofs.Ytmnbolcmepihlaa
