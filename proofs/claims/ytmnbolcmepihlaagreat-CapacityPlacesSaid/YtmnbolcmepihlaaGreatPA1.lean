/- Several texts in one. No condition but those that stand in each. -/
import Derived.Test.YtmnbolcmepihlaaGreatPM
namespace Go.Proofs.YtmnbolcmepihlaaGreat
set_option linter.all false
open Go
section
def fH(t:bL):Prop:=0≤t.At∧t.At≤t.L.length∧t.L.length≤2000
theorem agJ(n:Int):w64 n≤9223372036854775807∧-9223372036854775808≤w64 n:=by
 unfold w64;rw[IntKind.wrap_i64];omega
theorem asH(l:List Int):Ok (jf l) fH:=by
 unfold jf;refine Ok.bnd (uz ⟨by omega,?_,?_⟩) λm hm=>Ok.s ⟨by simp,by simp,?_⟩
 ·split<;>omega
 ·split<;>omega
 ·have:=hm.2;simp only;split at this<;>omega
variable {t:bL}
theorem asI(h:fH t):Ok (gw t) (λp=>fH p.2):=by
 obtain⟨h0,h1,h2⟩:=h;unfold gw;refine Ok.cs (λ_=>Ok.s ⟨h0,h1,h2⟩) λhc=>?_;simp at hc;have e:w64 (t.At+1)=t.At+1:=cH (by omega) (by omega);rw[e,cH (by omega) (by omega)];refine Ok.bnd (mR (by omega) (by omega)) λa _=>Ok.s ⟨?_,?_,h2⟩<;>show _<;>simp<;>omega
theorem asJ{x n:Int}(hn:n≤9223372036854775807):Ok (jg x n) (λr=>0≤r∧(1≤n→r<n)∧(n<1→r=0)):=by
 unfold jg;refine Ok.cs (λh=>Ok.s ?_) λh=>?_
 ·simp at h;omega
 have h:1≤n:=by simpa using h
 have h1:Int.tmod x n<n:=Int.tmod_lt_of_pos _ (by omega);have h2 : -n<Int.tmod x n:=Int.lt_tmod_of_pos _ (by omega);refine Ok.chk (by simp;omega) ?_;refine Ok.jn (λr=>0≤r∧r<n) (λs hs=>Ok.s ⟨hs.1,λ_=>hs.2,by omega⟩) λJ hJ=>?_;refine Ok.cs (λhc=>hJ _ ?_) λhc=>hJ _ ?_
 ·simp at hc;rw[cH (by omega) (by omega)];omega
 ·simp at hc;omega
theorem f_n{n:Int}(h:fH t)(hn:n≤9223372036854775807):Ok (ck t n) (λp=>(0≤p.1∧(1≤n→p.1<n)∧(n<1→p.1=0))∧fH p.2):=by
 unfold ck;exact Ok.bnd (asI h) λp hp=>Ok.bnd (asJ hn) λr hr=>Ok.s ⟨hr,hp⟩
theorem aa0{low high:Int}(h:fH t):Ok (eA t low high) (λp=>(-2305843009213693952≤low→low≤high→high<2305843009213693952→low≤p.1∧p.1≤high)∧fH p.2):=by
 unfold eA;refine Ok.bnd (f_n h (agJ _).1) λp hp=>Ok.s ⟨λh1 h2 h3=>?_,hp.2⟩;obtain⟨⟨q1,q2,_⟩,_⟩:=hp;rw[cH (n:=high-low) (by omega) (by omega),cH (n:=high-low+1) (by omega) (by omega)]at q2;show low≤w64 (low+p.1)∧w64 (low+p.1)≤high;rw[cH (by omega) (by omega)];omega
theorem xD{l:List Int}(h:fH t)(h0:1≤l.length)(h1:l.length≤1000000):Ok (dL t l) (λp=>p.1∈l∧fH p.2):=by
 unfold dL;refine Ok.bnd (f_n h (by omega)) λp hp=>?_;exact Ok.bnd (mR hp.1.1 (hp.1.2.1 (by omega))) λa ha=>Ok.s ⟨ha.1,hp.2⟩
theorem adh(l:List Int)(n:Int):dF l n=some (decide (n∈l)):=by
 unfold dF;rw[fh (λx=>decide (x=n)) (some true) (λj x Z s=>rfl) l 0 (),alS];by_cases h:n∈l<;>simp[h]
theorem apL(a b:List Int):iT a b=some (decide (a=b)):=by
 unfold iT;by_cases hl:a.length=b.length
 ·rw[show(!decide ((a.length:Int)=(b.length:Int)))=false by simp[hl],cond_false]
  have key:=ac7 (L:=a) (f:=λp l (_:Unit)=>some (decide (l=b.drop p.length))) (K:=λsg:Unit=>match sg with|()=>some true) (B:=λ(j1:Int) (e1:Int) (Z1:Unit→Option _) (sg:Unit)=>match sg with|()=>bnd (elO b (j1:Int)) λ(e_1:Int)=>bif !decide (e1=e_1)then some false else Z1 ())
   (λs=>by rw[List.drop_of_length_le (by omega)];rfl) (λp x r s Z hp hZ=>by
    have hlt:p.length<b.length:=by rw[←hl,←hp];simp
    simp only[elO,if_pos (Int.natCast_nonneg _),Int.toNat_natCast,List.getElem?_eq_getElem hlt,aI];rw[List.drop_eq_getElem_cons hlt];by_cases hx:x=b[p.length]
    ·simp only[hx,decide_true,Bool.not_true,cond_false,hZ,List.length_append,List.length_singleton,List.cons.injEq,true_and]
    ·rw[decide_eq_false hx,Bool.not_false,cond_true,decide_eq_false (λh=>hx (List.cons.inj h).1)]) a [] () rfl
  simpa using key
 ·rw[show(!decide ((a.length:Int)=(b.length:Int)))=true by simp;omega,cond_true];rw[decide_eq_false (λh=>hl (by rw[h]))]
def jV:List Int→Int→List Int
 |[],x=>[x]
 |y::r,x=>if y<x then y::jV r x else if y=x then y::r else x::y::r
theorem nG:∀{l:List Int} {x y:Int},y∈jV l x↔y=x∨y∈l
 |[],x,y=>by simp[jV]
 |z::r,x,y=>by
  rw[jV];split
  ·rw[List.mem_cons,nG,List.mem_cons];constructor
   ·rintro(h|h|h)<;>simp[h]
   ·rintro(h|h|h)<;>simp[h]
  ·split
   ·rename_i h;subst h;simp
   ·simp
theorem xZ:∀{l:List Int} {x:Int},l.Pairwise (·<·)→(jV l x).Pairwise (·<·)
 |[],x,_=>by simp[jV]
 |z::r,x,h=>by
  rw[jV];rw[List.pairwise_cons]at h;split
  ·rw[List.pairwise_cons];refine⟨λy hy=>?_,xZ h.2⟩;rcases nG.1 hy with rfl|hy
   ·assumption
   ·exact h.1 y hy
  ·split
   ·exact List.pairwise_cons.2 h
   ·rw[List.pairwise_cons];refine⟨λy hy=>?_,List.pairwise_cons.2 h⟩;rcases List.mem_cons.1 hy with rfl|hy
    ·omega
    ·have:=h.1 y hy;omega
theorem sR:∀(l:List Int) (x:Int),(jV l x).length≤l.length+1
 |[],x=>by simp[jV]
 |z::r,x=>by
  rw[jV];have:=sR r x;split
  ·simp;omega
  ·split<;>simp
theorem aef:∀(p r:List Int) (x:Int),(∀y∈p,y<x)→(∀y∈r.head?,x≤y)→jV (p++r) x=if r.head?=some x then p++r else p++x::r
 |[],r,x,_,h=>by
  cases r with
  |nil=>simp[jV]
  |cons y r=>
   have:=h y (by simp);simp only[List.nil_append,jV,if_neg (show ¬y<x by omega),List.head?_cons,Option.some.injEq]
 |z::p,r,x,hp,h=>by
  have:=hp z (by simp);rw[List.cons_append,jV,if_pos this,aef p r x (λy hy=>hp y (by simp[hy])) h];split<;>rfl
theorem afw(l:List Int)(x:Int)(hl:l.length≤100000):ee l x=some (jV l x):=by
 unfold ee;refine Ok.eq (Ok.whl (λk:Int=>0≤k∧k≤l.length∧∀y∈l.take k.toNat,y<x) (λk:Int=>((l.length:Int)-k).toNat) ⟨by omega,by omega,by simp⟩ (by omega) ?_);rintro k Z ⟨h0,h1,h2⟩ hZ;refine Ok.jn (λv:Bool=>(v=true↔∃y∈(l.drop k.toNat).head?,y<x)) ?_ ?_
 ·intro v hv;refine Ok.cs (λh=>?_) λh=>?_
  ·obtain⟨y,hy,hyx⟩:=hv.1 h;have hlt:k.toNat<l.length:=by
    cases hd:l.drop k.toNat with
    |nil=>rw[hd]at hy;simp at hy
    |cons z r=>have:=congrArg List.length hd;simp at this;omega
   rw[cH (by omega) (by omega)];refine hZ _ ⟨by omega,by omega,λz hz=>?_⟩ (by omega);rw[show(k+1).toNat=k.toNat+1 by omega,List.take_succ]at hz;rcases List.mem_append.1 hz with hz|hz
   ·exact h2 z hz
   ·rw[List.head?_drop]at hy;have e:l[k.toNat]?=some z:=by simpa using hz
    have e2:l[k.toNat]?=some y:=hy;rw[e]at e2;cases e2;exact hyx
  ·have hno:∀y∈(l.drop k.toNat).head?,x≤y:=λy hy=>by
    have:¬y<x:=λhh=>by rw[hv.2 ⟨y,hy,hh⟩]at h;cases h
    omega
   have key:=aef (l.take k.toNat) (l.drop k.toNat) x h2 hno;rw[List.take_append_drop]at key;refine Ok.jn (λv:Bool=>(v=true↔(l.drop k.toNat).head?=some x)) ?_ ?_
   ·intro v2 hv2;refine Ok.cs (λh2=>Ok.s ?_) λh2=>?_
    ·rw[key,if_pos (hv2.1 h2)]
    ·have hne:¬(l.drop k.toNat).head?=some x:=λhh=>by rw[hv2.2 hh]at h2;cases h2
     rw[if_neg hne]at key;refine Ok.bnd (uz ⟨by omega,by omega,by omega⟩) λl1 q1=>?_;refine Ok.bnd (xq (by simp;omega)) λl2 q2=>?_;refine Ok.bnd (uz ⟨by omega,by omega,by omega⟩) λl3 q3=>?_;refine Ok.bnd (xq (by simp at q2 q3 q1 ⊢;omega)) λl4 q4=>Ok.s ?_;rw[q4.1,q3.1,q2.1,q1.1,key];simp
   ·intro J hJ;refine Ok.cs (λhc=>?_) λhc=>hJ _ ?_
    ·simp at hc;refine Ok.bnd (mR h0 hc) λe he=>hJ _ ?_;rw[List.head?_drop,he.2];simp
    ·simp at hc;rw[List.drop_of_length_le (by omega)];simp
 ·intro J hJ;refine Ok.cs (λhc=>?_) λhc=>hJ _ ?_
  ·simp at hc;refine Ok.bnd (mR h0 hc) λe he=>hJ _ ?_;rw[List.head?_drop,he.2];simp
  ·simp at hc;rw[List.drop_of_length_le (by omega)];simp
end
section
theorem asK(n:Int):IntKind.wrap .u64 n=n%18446744073709551616:=by
 simp[IntKind.wrap,IntKind.bits,IntKind.signed]
theorem wrap_u64{n:Int}(h0:0≤n)(h:n<18446744073709551616):IntKind.wrap .u64 n=n:=by
 rw[asK];omega
end
section
theorem zg{α σ β:Type}{B:Int→α→(σ→Option β)→σ→Option β}{K:σ→Option β}{L:List α}(I:List α→σ→Prop)(f:List α→List α→Option β)(hn:∀s,I L s→K s=f L [])
  (hc:∀p x r s Z,p++x::r=L→I p s→(∀s',I (p++[x]) s'→Z s'=f (p++[x]) r)→B (p.length:Int) x Z s=f p (x::r)):∀(l p:List α) (s:σ),p++l=L→I p s→bJ l p.length B K s=f p l
 |[],p,s,h,hi=>by rw[List.append_nil]at h;subst h;exact hn s hi
 |x::r,p,s,h,hi=>hc p x r s _ h hi λs' hs=>by
   have:=zg (B:=B) (K:=K) I f hn hc r (p++[x]) s' (by simpa using h) hs;rw[List.length_append]at this;exact this
theorem alX{α:Type}{L p r:List α}{x:α}(h:p++x::r=L):lH L 0 (p.length:Int)=some p:=by
 unfold lH;rw[if_pos ⟨by omega,by omega,by rw[←h];simp;omega⟩,←h];simp
def rtB(n:Int):Bool:=decide (1≤n)&&decide (n≤99)
theorem aiN{α β:Type}{B:Int→α→(Bool→Option β)→Bool→Option β}{K:Bool→Option β}(p:α→Bool)(hB:∀j x Z s,B j x Z s=Z (s&&!p x))(l:List α)(j:Nat)(s:Bool):bJ l j B K s=K (s&&!l.any p):=
 uy (f:=λl s=>K (s&&!l.any p)) (λs=>by simp) (λj x r s Z hZ=>by
  rw[hB,hZ,List.any_cons];cases s<;>cases p x<;>simp) l j s
end
section
def qw(h:az):Bool:=!rtB h.aD||!rtB h.To
def ltH(a b:az):Bool:=decide (a.aD<b.aD)||(decide (a.aD=b.aD)&&decide (a.To<b.To))
def qV(a b:az):Bool:=decide (b.To=a.To)
def oL(root:Int):List az→List az→Bool
 |_,[]=>false
 |p,x::r=>(p.any (qV x)||decide (x.To=root))||oL root (p++[x]) r
inductive Rch(root:Int)(L:List az):Int→Prop
 |root:Rch root L root
 |step (h:az):h∈L→Rch root L h.aD→Rch root L h.To
noncomputable def ckT(t:aT):Int:=
 bif !rtB t.bw||t.Links.any qw then 2 else bif gW ltH t.Links then(bif oL t.bw [] t.Links then 8 else @ite Int (∀h∈t.Links,Rch t.bw t.Links h.aD) (Classical.propDecidable _) 0 10)else 25
def mY(f:Int→Bool)(L:List az):Nat:=(L.filter λh=>!f h.To).length
variable {f:Int→Bool}
theorem aeg{g:Int→Bool}(h:∀x,f x=true→g x=true)(L:List az):mY g L≤mY f L:=by
 unfold mY;induction L with
 |nil=>simp
 |cons a r ih=>
  simp only[List.filter_cons];cases hf:f a.To
  ·cases hg:g a.To<;>simp<;>omega
  ·rw[h _ hf];simpa using ih
theorem aa1{f g:Int→Bool}(h:∀x,f x=true→g x=true){a:az}:∀{L:List az},a∈L→f a.To=false→g a.To=true→mY g L<mY f L
 |[],ha,_,_=>by cases ha
 |b::r,ha,h1,h2=>by
  have hle:=aeg h r;unfold mY at *;simp only[List.filter_cons];rcases List.mem_cons.1 ha with rfl|ha
  ·rw[h1,h2];simp;omega
  ·have ih:=aa1 h ha h1 h2;unfold mY at ih;cases hf:f b.To
   ·cases hg:g b.To<;>simp<;>omega
   ·rw[h _ hf];simpa using ih
structure RI(root:Int)(L:List az)(f:Int→Bool):Prop where
 rt:f root=true
 sub:∀x,f x=true→Rch root L x
structure RJ(root:Int)(L:List az)(f0:Int→Bool)(p:List az)(g:Bool)(f:Int→Bool):Prop where
 ri:RI root L f
 up:∀x,f0 x=true→f x=true
 no:g=false→(∀x,f x=f0 x)∧∀h∈p,f h.aD=true→f h.To=true
 yes:g=true→mY f L<mY f0 L
variable {L:List az}
theorem RJ.start{root:Int}(h:RI root L f):RJ root L f [] false f:=⟨h,λ_=>id,λ_=>⟨λ_=>rfl,by simp⟩,λh=>by cases h⟩
variable {f0:Int→Bool}{h:az}{p:List az}
theorem RJ.add{root:Int}{f':Int→Bool}{g:Bool}(j:RJ root L f0 p g f)(hm:h∈L)(h1:f h.aD=true)(h2:f h.To=false)(hf:∀y,f' y=(decide (y=h.To)||f y)):RJ root L f0 (p++[h]) true f':=by
 have up:∀x,f x=true→f' x=true:=λx hx=>by rw[hf,hx];simp
 have hl:mY f' L<mY f L:=aa1 up hm h2 (by rw[hf];simp);refine⟨⟨up _ j.ri.rt,λx hx=>?_⟩,λx hx=>up x (j.up x hx),λh=>(by cases h),λ_=>?_⟩
 ·rw[hf,Bool.or_eq_true,decide_eq_true_eq]at hx;rcases hx with rfl|hx
  ·exact .step h hm (j.ri.sub _ h1)
  ·exact j.ri.sub x hx
 ·have:=aeg j.up L;omega
theorem RJ.pass{root:Int}{g:Bool}(j:RJ root L f0 p g f)(hn:f h.aD=false∨f h.To=true):RJ root L f0 (p++[h]) g f:=by
 refine⟨j.ri,j.up,λhg=>⟨(j.no hg).1,λx hx hf=>?_⟩,j.yes⟩;rcases List.mem_append.1 hx with hx|hx
 ·exact(j.no hg).2 x hx hf
 ·simp at hx;subst hx
  rcases hn with hn|hn
  ·rw[hn]at hf;cases hf
  ·exact hn
theorem RI.done{root:Int}(h:RI root L f)(hc:∀x∈L,f x.aD=true→f x.To=true)(x:Int):f x=true↔Rch root L x:=by
 refine⟨h.sub x,λhr=>?_⟩;induction hr with
 |root=>exact h.rt
 |step y hy _ ih=>exact hc y hy ih
theorem zh(f:Int→Bool)(L:List az):mY f L≤L.length:=List.length_filter_le _ _
def ig(m:List (Int×Bool))(x:Int):Bool:=(aY m x).getD false
theorem sU(m:List (Int×Bool))(n x:Int):ig (bN m n true) x=(decide (x=n)||ig m x):=by
 unfold ig;rw[adg];by_cases h:x=n<;>simp[h]
theorem adR(t:aT)(hl:t.Links.length≤1000000):Ok (ir t) (λm=>∀x,ig m x=true↔Rch t.bw t.Links x):=by
 unfold ir;refine Ok.whl (λsg:Bool×List (Int×Bool)=>RI t.bw t.Links (ig sg.2)∧(sg.1=false→∀x∈t.Links,ig sg.2 x.aD=true→ig sg.2 x.To=true)) (λsg=>2*mY (ig sg.2) t.Links+if sg.1 then 1 else 0) ?_ ?_ ?_
 ·refine⟨⟨?_,λx hx=>?_⟩,λh=>by cases h⟩
  ·show ig (bN [] t.bw true) t.bw=true;rw[sU];simp
  ·have hx:ig (bN [] t.bw true) x=true:=hx;rw[sU]at hx;simp[ig,aY]at hx;subst hx;exact .root
 ·have:=zh (ig (bN [] t.bw true)) t.Links;show 2*mY (ig (bN [] t.bw true)) t.Links+1<_;omega
 ·rintro⟨g,m⟩ Z ⟨h1,h2⟩ hZ;refine Ok.cs (λhg=>?_) (λhg=>Ok.s (h1.done (h2 hg)));refine Ok.nX (L:=t.Links) (λp (sg:Bool×List (Int×Bool))=>RJ t.bw t.Links (ig m) p sg.1 (ig sg.2)) (λp x r s Z2 hL hI hZ2=>?_) (false,m) (RJ.start h1) (λs hs=>?_)
  ·obtain⟨g2,m2⟩:=s;unfold jn;have hm:x∈t.Links:=by rw[hL];simp
   refine Ok.cs (λhc=>hZ2 _ ?_) (λhc=>hZ2 _ ?_)
   ·simp only[Bool.and_eq_true,Bool.not_eq_true']at hc;exact hI.add hm hc.1 hc.2 (λy=>sU m2 x.To y)
   ·refine hI.pass ?_
    change (ig m2 x.aD&&!ig m2 x.To)=false at hc
    revert hc;cases ig m2 x.aD<;>cases ig m2 x.To<;>simp
  ·obtain⟨g2,m2⟩:=s;refine hZ (g2,m2) ⟨hs.ri,λhg2=>(hs.no hg2).2⟩ ?_;cases g2
   ·have e:ig m2=ig m:=funext (hs.no rfl).1;have hg:g=true:=hg;subst hg;simp[e]
   ·have:=hs.yes rfl;have hg:g=true:=hg;subst hg;simp;omega
theorem alY(l:List Int)(a x:Int):decide (x∈l++[a])=(decide (x=a)||decide (x∈l)):=by
 by_cases h1:x=a<;>by_cases h2:x∈l<;>simp[h1,h2]
theorem apM{a b:az}:(decide (b.aD<a.aD)||(decide (a.aD=b.aD)&&decide (b.To≤a.To)))=!ltH a b:=by
 unfold ltH;by_cases h1:b.aD<a.aD
 ·have h2:¬a.aD<b.aD:=by omega
  have h3:¬a.aD=b.aD:=by omega
  simp[h1,h2,h3]
 ·by_cases h2:a.aD=b.aD
  ·by_cases h3:a.To<b.To
   ·have h4:¬b.To≤a.To:=by omega
    simp[h1,h2,h3,h4]
   ·have h4:b.To≤a.To:=by omega
    simp[h1,h2,h3,h4]
  ·have h3:a.aD<b.aD:=by omega
   simp[h1,h2,h3]
theorem tE(t:aT)(hl:t.Links.length≤1000000):gX t=some (ckT t):=by
 unfold gX jt;simp only[aI]
 refine(aiN qw (λj x Z s=>by
  unfold qw rtB;cases s
  ·rfl
  cases decide (1≤x.aD)&&decide (x.aD≤99)<;>simp) _ _ _).trans ?_
 unfold ckT;have e0:((decide (1≤t.bw)&&decide (t.bw≤99))&&!t.Links.any qw)=!(!rtB t.bw||t.Links.any qw):=by
  unfold rtB;cases(decide (1≤t.bw)&&decide (t.bw≤99))<;>simp
 rw[e0,Bool.not_not];cases(!rtB t.bw||t.Links.any qw)
 ·simp only[cond_false]
  refine(nF ltH (some 25) (λj x y r q s Z hL hj=>by
   simp only[mz hL hj (by omega),aI,apM];cases ltH y x<;>rfl) _).trans ?_
  cases gW ltH t.Links
  ·rfl
  ·simp only[cond_true];refine(zg (L:=t.Links) (λ_ _=>True) (λp l=>bif oL t.bw p l then some 8 else some (@ite Int (∀h∈t.Links,Rch t.bw t.Links h.aD) (Classical.propDecidable _) 0 10)) (λs _=>?_) (λp x r s Z h _ hZ=>?_) t.Links [] () rfl trivial).trans ?_
   ·simp only[oL,cond_false];refine Ok.eq (Ok.whl (λsg:List Int×Bool=>(RI t.bw t.Links (λx=>decide (x∈sg.1))∧(sg.2=false→∀x∈t.Links,x.aD∈sg.1→x.To∈sg.1))∧sg.1.length+mY (λx=>decide (x∈sg.1)) t.Links≤1+t.Links.length) (λsg=>2*mY (λx=>decide (x∈sg.1)) t.Links+if sg.2 then 1 else 0) ?_ ?_ ?_)
    ·refine⟨⟨⟨by simp,λx hx=>?_⟩,λh=>by cases h⟩,?_⟩
     ·simp at hx;subst hx;exact .root
     ·have:=zh (λx=>decide (x∈[t.bw])) t.Links;simp only[List.length_singleton];omega
    ·have:=zh (λx=>decide (x∈[t.bw])) t.Links;show 2*mY (λx=>decide (x∈[t.bw])) t.Links+1<_;omega
    ·rintro⟨m,g⟩ Z ⟨⟨h1,h2⟩,h3⟩ hZ;refine Ok.cs (λhg=>?_) (λhg=>?_)
     ·refine Ok.nX (L:=t.Links) (λp (sg:List Int×Bool)=>RJ t.bw t.Links (λx=>decide (x∈m)) p sg.2 (λx=>decide (x∈sg.1))∧sg.1.length+mY (λx=>decide (x∈sg.1)) t.Links≤1+t.Links.length) (λp x r s Z2 hL hI hZ2=>?_) (m,false) ⟨RJ.start h1,h3⟩ (λs hs=>?_)
      ·obtain⟨m2,g2⟩:=s;obtain⟨hI,hI2⟩:=hI;simp only at hI2;have hm:x∈t.Links:=by rw[hL];simp
       simp only[jn,adh,aI];by_cases c1:x.aD∈m2
       ·by_cases c2:x.To∈m2
        ·simp only[c1,c2,decide_true,cond_true,Bool.not_true,cond_false];exact hZ2 _ ⟨hI.pass (.inr (by simpa using c2)),hI2⟩
        ·simp only[c1,c2,decide_true,cond_true,decide_false,Bool.not_false];refine Ok.bnd (xq (by simp only[List.length_singleton];omega)) λm3 q3=>?_;rw[q3.1];have hlt:=aa1 (f:=λy=>decide (y∈m2)) (g:=λy=>decide (y∈m2++[x.To])) (λy hy=>by simp at hy;simp[hy]) hm (by simpa using c2) (by simp);refine hZ2 _ ⟨hI.add hm (by simpa using c1) (by simpa using c2) (λy=>alY m2 x.To y),?_⟩;simp only[List.length_append,List.length_singleton];omega
       ·simp only[c1,decide_false,cond_false];exact hZ2 _ ⟨hI.pass (.inl (by simpa using c1)),hI2⟩
      ·obtain⟨m2,g2⟩:=s;obtain⟨hs,hs2⟩:=hs;have hg:g=true:=hg;subst hg;refine hZ (m2,g2) ⟨⟨hs.ri,λhg2 x hx hf=>by simpa using (hs.no hg2).2 x hx (by simpa using hf)⟩,hs2⟩ ?_;cases g2
       ·have e:(λx=>decide (x∈m2))=(λx=>decide (x∈m)):=funext (hs.no rfl).1;simp only[e];simp
       ·have:=hs.yes rfl;simp;omega
     ·have hd:=h1.done (λx hx hf=>by simpa using h2 hg x hx (by simpa using hf));refine⟨@ite Int (∀h∈t.Links,Rch t.bw t.Links h.aD) (Classical.propDecidable _) 0 10,(fh (λx:az=>!decide (x.aD∈m)) (some 10) (λj x Z s=>by simp only[adh,aI]) _ _ _).trans ?_,rfl⟩;by_cases hall:∀h∈t.Links,Rch t.bw t.Links h.aD
      ·rw[if_pos hall,any_false.2 (λx hx=>by have:=(hd x.aD).2 (hall x hx);simpa using this)];rfl
      ·rw[if_neg hall]
       have:t.Links.any (λx:az=>!decide (x.aD∈m))=true:=by
        refine Classical.byContradiction λhn=>hall λh hh=>(hd h.aD).1 ?_;have:=any_false.1 (Bool.not_eq_true _▸hn) h hh;simpa using this
       rw[this];rfl
   ·simp only[alX h,aI];refine(fh (qV x) (some 8) (by intros;rfl) _ _ _).trans ?_;rw[hZ () trivial,oL];cases p.any (qV x)
    ·cases decide (x.To=t.bw)<;>rfl
    ·rfl
   ·cases oL t.bw [] t.Links<;>rfl
 ·rfl
theorem aiO{a b c d:Int}:decide ((0:Int)≤orI [eM a b,eM c d])=!(decide (a<b)||(decide (a=b)&&decide (c<d))):=by
 by_cases h1:a<b
 ·have e:eM a b = -1:=by unfold eM;rw[if_pos h1]
  simp[e,orI,h1]
 ·by_cases h2:a=b
  ·subst h2;have e:eM a a=0:=jx.2 rfl;by_cases h3:c<d
   ·have e2:eM c d = -1:=by unfold eM;rw[if_pos h3]
    simp[e,e2,orI,h3]
   ·by_cases h4:d<c
    ·have e2:eM c d=1:=by unfold eM;rw[if_neg h3,if_pos h4]
     simp[e,e2,orI,h3]
    ·have e2:eM c d=0:=by unfold eM;rw[if_neg h3,if_neg h4]
     simp[e,e2,orI,h3]
  ·have h3:b<a:=by omega
   have e:eM a b=1:=by unfold eM;rw[if_neg h1,if_pos h3]
   simp[e,orI,h1,h2]
theorem we(t:aT)(hl:t.Links.length≤1000000):fT t=some (ckT t):=by
 unfold fT gH;simp only[aI];unfold ckT;show(bif !rtB t.bw then _ else _)=_;cases rtB t.bw
 ·rfl
 simp only[Bool.not_true,cond_false,Bool.false_or]
 refine(fh qw (some 2) (λj x Z s=>by
  unfold qw rtB jn;cases decide (1≤x.aD)&&decide (x.aD≤99)<;>rfl) _ _ _).trans ?_
 cases t.Links.any qw
 ·simp only[cond_false]
  refine(nF ltH (some 25) (λj x y r q s Z hL hj=>by
   simp only[mz hL hj (by omega),aI,aaT,agB,aiO];show(bif !ltH y x then _ else _)=_;cases ltH y x<;>rfl) _).trans ?_
  cases gW ltH t.Links
  ·rfl
  ·simp only[cond_true];refine(zg (L:=t.Links) (λp m=>∀x,ig m x=true↔x=t.bw∨∃h∈p,h.To=x) (λp l=>bif oL t.bw p l then some 8 else some (@ite Int (∀h∈t.Links,Rch t.bw t.Links h.aD) (Classical.propDecidable _) 0 10)) (λs _=>?_) (λp x r s Z h hi hZ=>?_) t.Links [] _ rfl ?_).trans ?_
   ·obtain⟨m,h1,h2⟩:=adR t hl;simp only[h1,aI,oL,cond_false];refine(fh (λx:az=>!ig m x.aD) (some 10) (by intros;rfl) _ _ _).trans ?_;by_cases hall:∀h∈t.Links,Rch t.bw t.Links h.aD
    ·rw[if_pos hall,any_false.2 (λx hx=>by rw[(h2 x.aD).2 (hall x hx)];rfl)];rfl
    ·rw[if_neg hall]
     have:t.Links.any (λx:az=>!ig m x.aD)=true:=by
      refine Classical.byContradiction λhn=>hall λh hh=>(h2 h.aD).1 ?_;have:=any_false.1 (Bool.not_eq_true _▸hn) h hh;simpa using this
     rw[this];rfl
   ·show(bif ig s x.To then _ else _)=_;rw[oL];have e:(p.any (qV x)||decide (x.To=t.bw))=ig s x.To:=by
     rw[Bool.eq_iff_iff,Bool.or_eq_true,List.any_eq_true,hi,decide_eq_true_eq];constructor
     ·rintro(⟨a,ha,hs⟩|h)
      ·exact .inr ⟨a,ha,by simpa [qV]using hs⟩
      ·exact .inl h
     ·rintro(h|⟨a,ha,hs⟩)
      ·exact .inr h
      ·exact .inl ⟨a,ha,by simpa [qV]using hs⟩
    rw[e];cases ig s x.To
    ·refine hZ _ λy=>?_;rw[sU,Bool.or_eq_true,decide_eq_true_eq,hi];constructor
     ·rintro(h|h|⟨a,ha,h⟩)
      ·exact .inr ⟨x,by simp,h.symm⟩
      ·exact .inl h
      ·exact .inr ⟨a,by simp[ha],h⟩
     ·rintro(h|⟨a,ha,h⟩)
      ·exact .inr (.inl h)
      ·rcases List.mem_append.1 ha with ha|ha
       ·exact .inr (.inr ⟨a,ha,h⟩)
       ·simp at ha;rw[ha]at h;exact .inl h.symm
    ·rfl
   ·intro x;rw[sU];simp[ig,aY]
   ·cases oL t.bw [] t.Links<;>rfl
 ·rfl
structure Vr(t:aT):Prop where
 rt:1≤t.bw∧t.bw≤99
 rng:∀h∈t.Links,(1≤h.aD∧h.aD≤99)∧1≤h.To∧h.To≤99
 asc:t.Links.Pairwise λa b=>ltH a b=true
 dup:t.Links.Pairwise λa b=>a.To≠b.To
 nrt:∀h∈t.Links,h.To≠t.bw
 rch:∀h∈t.Links,Rch t.bw t.Links h.aD
theorem abH(a b c:az)(h1:ltH a b=true)(h2:ltH b c=true):ltH a c=true:=by
 simp[ltH]at *;omega
theorem zi{root:Int}:∀{l p:List az},oL root p l=false↔(∀a∈p,∀b∈l,a.To≠b.To)∧(∀b∈l,b.To≠root)∧l.Pairwise λa b=>a.To≠b.To
 |[],p=>by simp[oL]
 |x::r,p=>by
  rw[oL,Bool.or_eq_false_iff,Bool.or_eq_false_iff,zi,any_false,List.pairwise_cons];constructor
  ·rintro⟨⟨h1,h0⟩,h2,h4,h3⟩;refine⟨λa ha b hb=>?_,λb hb=>?_,λb hb=>h2 x (by simp) b hb,h3⟩
   ·rcases List.mem_cons.1 hb with rfl|hb
    ·have:=h1 a ha;simpa [qV]using this
    ·exact h2 a (by simp[ha]) b hb
   ·rcases List.mem_cons.1 hb with rfl|hb
    ·simpa using h0
    ·exact h4 b hb
  ·rintro⟨h1,h4,h2,h3⟩;refine⟨⟨λa ha=>by simpa [qV]using h1 a ha x (by simp),by simpa using h4 x (by simp)⟩,λa ha b hb=>?_,λb hb=>h4 b (by simp[hb]),h3⟩;rcases List.mem_append.1 ha with ha|ha
   ·exact h1 a ha b (by simp[hb])
   ·simp at ha;subst ha;exact h2 b hb
theorem aa2{n:Int}:rtB n=true↔1≤n∧n≤99:=by simp[rtB]
theorem adi:qw h=false↔(1≤h.aD∧h.aD≤99)∧1≤h.To∧h.To≤99:=by
 simp[qw,aa2]
variable {t:aT}
theorem adj:ckT t=0↔Vr t:=by
 unfold ckT;constructor
 ·intro h;cases h1:rtB t.bw with
  |false=>simp[h1]at h
  |true=>
  cases h2:t.Links.any qw with
  |true=>simp[h1,h2]at h
  |false=>
  cases h3:gW ltH t.Links with
  |false=>simp[h1,h2,h3]at h
  |true=>
  cases h4:oL t.bw [] t.Links with
  |true=>simp[h1,h2,h3,h4]at h
  |false=>
  by_cases h5:∀h∈t.Links,Rch t.bw t.Links h.aD
  ·obtain⟨d1,d2,d3⟩:=zi.1 h4;exact⟨aa2.1 h1,λx hx=>adi.1 (any_false.1 h2 x hx),pY abH h3,d3,d2,h5⟩
  ·simp only[h1,h2,h3,h4,if_neg h5]at h;cases h
 ·intro h;have h1:rtB t.bw=true:=aa2.2 h.rt;have h2:t.Links.any qw=false:=any_false.2 λx hx=>adi.2 (h.rng x hx);have h3:gW ltH t.Links=true:=l5 h.asc;have h4:oL t.bw [] t.Links=false:=zi.2 ⟨by simp,h.nrt,h.dup⟩;simp only[h1,h2,h3,h4,if_pos h.rch];rfl
noncomputable def rF(t:aT):List Int:=if ckT t=0 then gP (t.bw::t.Links.map (·.To))else[]
theorem Vr.nodup(h:Vr t):(t.bw::t.Links.map (·.To)).Nodup:=by
 rw[List.nodup_cons];refine⟨λhm=>?_,?_⟩
 ·obtain⟨x,hx,e⟩:=List.mem_map.1 hm;exact h.nrt x hx e
 ·exact List.pairwise_map.2 h.dup
theorem alZ(h:Vr t){x:Int}:x∈rF t↔x=t.bw∨∃h∈t.Links,h.To=x:=by
 unfold rF;rw[if_pos (adj.2 h),xB];simp
theorem adS(t:aT)(hl:t.Links.length≤100000):iu t=some (rF t):=by
 unfold iu rF;simp only[we t (by omega),aI];by_cases h:ckT t=0
 ·simp only[h,decide_true,Bool.not_true,cond_false,if_true];refine(xz (λ_:az=>true) (λx:az=>x.To) t.Links 0 [t.bw] (λj x Z s hx hs=>by rw[app1 hs];rfl) (by simp;omega)).trans ?_;rw[show t.Links.filter (λ_:az=>true)=t.Links from List.filter_eq_self.2 λ_ _=>rfl];simp only[List.cons_append,List.nil_append,chk];rw[decide_eq_true (by simp;omega)];rfl
 ·simp[h]
theorem agK(l:List Int):∀(s:List Int),s.Pairwise (·<·)→(l.foldl jV s).Pairwise (·<·)∧(∀x,x∈l.foldl jV s↔x∈s∨x∈l)∧(l.foldl jV s).length≤s.length+l.length:=by
 induction l with
 |nil=>intro s h;exact⟨h,λx=>by simp,by simp⟩
 |cons a r ih=>
  intro s h;obtain⟨h1,h2,h3⟩:=ih (jV s a) (xZ h);refine⟨h1,λx=>?_,?_⟩
  ·rw[List.foldl_cons,h2,nG,List.mem_cons];constructor
   ·rintro((h|h)|h)<;>simp[h]
   ·rintro(h|h|h)<;>simp[h]
  ·have:=sR s a;rw[List.foldl_cons,List.length_cons];omega
theorem adk{α β:Type}{B:Int→α→(List Int→Option β)→List Int→Option β}{K:List Int→Option β}(f:α→Int)(hB:∀j x Z (s:List Int),s.length≤100000→B j x Z s=Z (jV s (f x))):∀(l:List α) (j:Nat) (s:List Int),s.length+l.length≤100000→bJ l j B K s=K ((l.map f).foldl jV s)
 |[],_,s,_=>rfl
 |x::r,j,s,h=>by
  have:=sR s (f x);simp only[List.length_cons]at h;simp only[bJ];rw[hB _ _ _ _ (by omega),adk f hB r (j+1) _ (by omega),List.map_cons,List.foldl_cons]
theorem abV(t:aT)(hl:t.Links.length≤90000):kG t=some (rF t):=by
 unfold kG rF;simp only[tE t (by omega),aI];by_cases h:ckT t=0
 ·simp only[h,decide_true,Bool.not_true,cond_false,if_true];refine(adk (λx:az=>x.To) (λj x Z s hs=>by rw[afw _ _ hs];rfl) t.Links 0 [t.bw] (by simp;omega)).trans ?_;obtain⟨h1,h2,h3⟩:=agK (t.Links.map (·.To)) [t.bw] (by simp);rw[xA h1 (ac9 (adj.1 h).nodup) (λx=>by rw[h2,xB];simp)]
 ·simp[h]
theorem abI(l:List Int)(hl:l.length≤1000000):gY l=some (gW (λa b=>decide (a<b)) l):=by
 unfold gY
 refine(nF (λa b:Int=>decide (a<b)) (some false) (λj x y r q s Z hL hj=>by
  simp only[mz hL hj (by omega),aI];by_cases h:y<x
  ·have:¬x≤y:=by omega
   simp[h,this]
  ·have:x≤y:=by omega
   simp[h,this]) _).trans ?_
 cases gW (λa b:Int=>decide (a<b)) l<;>rfl
end
section
structure Vn(g:ai)(most:Int):Prop where
 v:Vt g
 n:1≤g.aC.length∧(g.aC.length:Int)≤most
 c:∀r∈g.aC,r.xU=true
 i:∀r∈g.aC,r.ID≤5*most
def tri(n:Nat):Nat→Nat
 |0=>0
 |a+1=>tri n a+(n-1-a)
theorem agL:∀n,n≤9→∀a,a≤n→tri n a≤36:=by decide
structure Mx(n:Nat)(M:List (List Bool)):Prop where
 len:M.length=n
 row:∀r∈M,r.length=n
 up:∀(a b:Nat) (r:List Bool),M[a]?=some r→r[b]?=some true→a<b
theorem Mx.set{n:Nat}{M:List (List Bool)}(h:Mx n M){a b:Nat}{r:List Bool}(hr:M[a]?=some r)(hab:a<b)(hb:b<n):Mx n (M.set a (r.set b true)):=by
 obtain⟨h1,h2,h3⟩:=h;have hm:r∈M:=List.mem_of_getElem? hr;refine⟨by simpa using h1,λq hq=>?_,λi j q hq hj=>?_⟩
 ·rcases List.mem_or_eq_of_mem_set hq with hq|rfl
  ·exact h2 q hq
  ·simpa using h2 r hm
 ·rw[List.getElem?_set]at hq;by_cases hi:a=i
  ·subst hi;have hlt:a<M.length:=(List.getElem?_eq_some_iff.1 hr).1;simp only[if_true,hlt,Option.some.injEq]at hq;subst hq;rw[List.getElem?_set]at hj;by_cases hbj:b=j
   ·omega
   ·rw[if_neg hbj]at hj;exact h3 a j r hr hj
  ·rw[if_neg hi]at hq;exact h3 i j q hq hj
variable {M:List (List Bool)}{i:Int}
theorem agM{n:Nat}(h:Mx n M)(h0:0≤i)(hi:i<n):Ok (elO M i) (λr=>M[i.toNat]?=some r∧r.length=n):=by
 refine(mR h0 (by rw[h.len];exact hi)).mono λr hr=>⟨hr.2,h.row r hr.1⟩
theorem adl{n:Nat}(h:Mx n M){j:Int}{γ:Type}{Q:γ→Prop}(k:List Bool→List Bool→Option γ)(h0:0≤i)(hij:i<j)(hj:j<n)(hk:∀r r2,Mx n (List.set M i.toNat r2)→Ok (k r r2) Q):
  Ok (bnd (elO M i) λe=>bnd (elO e j) λ_=>bnd (nu e j true) λl=>k e l) Q:=by
 refine Ok.bnd (agM h h0 (by omega)) λr hr=>Ok.bnd (mR (by omega) (by rw[hr.2];omega)) λ_ _=>?_;refine Ok.bnd (xu (by omega) (by rw[hr.2];omega)) λl hl=>hk r l ?_;rw[hl.1];exact h.set hr.1 (by omega) (by omega)
structure Lx(R:List bg)(ls:List bk)(a b:Nat):Prop where
 at_:∀l∈ls,∃i j x y,i<j∧R[i]?=some x∧R[j]?=some y∧l.A=x.ID∧l.B=y.ID∧(i<a∨i=a∧j<b)
 ok:∀l∈ls,oJ l=false
 asc:ls.Pairwise λx y=>ltL x y=true
 len:ls.length≤tri R.length a+(b-(a+1))
variable {x:bg}
theorem afx{R:List bg}(h:R.Pairwise λa b=>a.ID<b.ID){i j:Nat}{y:bg}(hx:R[i]?=some x)(hy:R[j]?=some y)(hij:i<j):x.ID<y.ID:=by
 obtain⟨h1,rfl⟩:=List.getElem?_eq_some_iff.1 hx;obtain⟨h2,rfl⟩:=List.getElem?_eq_some_iff.1 hy;exact List.pairwise_iff_getElem.1 h i j h1 h2 hij
variable {a b:Nat}{ls:List bk}
theorem Lx.add{R:List bg}(h:Lx R ls a b)(hR:R.Pairwise λa b=>a.ID<b.ID){l:bk}{y:bg}(hab:a<b)(hx:R[a]?=some x)(hy:R[b]?=some y)(hA:l.A=x.ID)(hB:l.B=y.ID)(hl:oJ l=false):Lx R (ls++[l]) a (b+1):=by
 refine⟨λm hm=>?_,λm hm=>?_,?_,?_⟩
 ·rcases List.mem_append.1 hm with hm|hm
  ·obtain⟨i,j,x,y,h1,h2,h3,h4,h5,h6⟩:=h.at_ m hm;exact⟨i,j,x,y,h1,h2,h3,h4,h5,by omega⟩
  ·simp at hm;subst hm
   exact⟨a,b,x,y,hab,hx,hy,hA,hB,by omega⟩
 ·rcases List.mem_append.1 hm with hm|hm
  ·exact h.ok m hm
  ·simp at hm;subst hm;exact hl
 ·refine List.pairwise_append.2 ⟨h.asc,by simp,λm hm q hq=>?_⟩;simp at hq;subst hq
  obtain⟨i,j,x',y',h1,h2,h3,h4,h5,h6⟩:=h.at_ m hm;simp only[ltL,Bool.or_eq_true,Bool.and_eq_true,decide_eq_true_eq];rcases h6 with h6|⟨rfl,h6⟩
  ·have:=afx hR h2 hx h6;left;omega
  ·rw[hx]at h2;cases h2
   have:=afx hR h3 hy h6;right;omega
 ·have:=h.len;simp;omega
theorem Lx.skip{R:List bg}(h:Lx R ls a b):Lx R ls a (b+1):=
 ⟨λm hm=>by
  obtain⟨i,j,x,y,h1,h2,h3,h4,h5,h6⟩:=h.at_ m hm;exact⟨i,j,x,y,h1,h2,h3,h4,h5,by omega⟩,h.ok,h.asc,by have:=h.len;omega⟩
theorem Lx.next{R:List bg}(h:Lx R ls a b)(hb:b=R.length):Lx R ls (a+1) 0:=
 ⟨λm hm=>by
  obtain⟨i,j,x,y,h1,h2,h3,h4,h5,h6⟩:=h.at_ m hm;exact⟨i,j,x,y,h1,h2,h3,h4,h5,by omega⟩,h.ok,h.asc,by have:=h.len;simp only[tri];omega⟩
theorem adm{t:bL}{most:Int}(h:fH t)(hm:1≤most∧most≤9):Ok (lQ t most) (λp=>Vn p.1 most∧fH p.2):=by
 unfold lQ;refine Ok.bnd (aa0 h) λp hp=>?_;obtain⟨n,t1⟩:=p;obtain⟨hn,ht⟩:=hp;have hn:1≤n∧n≤most:=hn (by omega) (by omega) (by omega);have ht:fH t1:=ht;refine Ok.chk (by simp;omega) ?_;refine Ok.jd (λj (sg:Int×List bg×List Int×Int)=>(0≤sg.1∧sg.1≤5*j)∧(sg.2.1.length:Int)=j∧sg.2.1.Pairwise (λa b=>a.ID<b.ID)∧(∀r∈sg.2.1,(1≤r.ID∧r.ID≤sg.1)∧r.xU=true)∧fH (bL.mk sg.2.2.1 sg.2.2.2)) 0 n ?_ ?_ _ _ _ rfl (by omega) (by omega) ⟨by simp,by simp,by simp,by simp,ht⟩
 ·rintro j ⟨id,m,L,A⟩ Z h1 h2 ⟨⟨i0,i1⟩,i2,i3,i4,i5⟩ hZ;simp only at i0 i1 i2 i3 i4;refine Ok.bnd (xD i5 (by simp) (by simp)) λq hq=>?_;obtain⟨hq,hq2⟩:=hq;have hb:1≤q.1∧q.1≤5:=by
   simp only[List.mem_cons,List.not_mem_nil,or_false]at hq;omega
  rw[cH (by omega) (by omega)];refine Ok.bnd (xq (by simp;omega)) λm2 q2=>hZ _ ⟨⟨by simp only;omega,by simp only;omega⟩,?_,?_,?_,hq2⟩
  ·have:=q2.2;simp at this ⊢;omega
  ·simp only[q2.1];refine List.pairwise_append.2 ⟨i3,by simp,λa ha b hb2=>?_⟩;simp at hb2;subst hb2
   have:=(i4 a ha).1;simp only;omega
  ·simp only[q2.1];intro r hr;rcases List.mem_append.1 hr with hr|hr
   ·have:=i4 r hr;exact⟨⟨this.1.1,by have:=this.1.2;omega⟩,this.2⟩
   ·simp at hr;subst hr;exact⟨⟨by simp only;omega,by simp only;omega⟩,rfl⟩
 rintro j ⟨id,R,L,A⟩ h1 h2 ⟨⟨i0,i1⟩,i2,i3,i4,i5⟩;have hj:j=n:=h2 (by omega);subst hj;simp only at i0 i1 i2 i3 i4;have hN:R.length=j.toNat:=by omega
 refine Ok.chk (by simp;omega) (Ok.chk (by simp;omega) ?_);refine Ok.jd (λi (M:List (List Bool))=>M.length=j.toNat∧∀(k:Nat),(k:Int)<i→M[k]?=some (List.replicate j.toNat false)) 0 j ?_ ?_ _ _ _ (by simp;omega) (by omega) (by omega) ⟨by simp,λk hk=>by omega⟩
 ·rintro i M Z q1 q2 ⟨e1,e2⟩ hZ;refine Ok.chk (by simp;omega) (Ok.bnd (mR q1 (by omega)) λ_ _=>hZ _ ⟨by simpa using e1,λk hk=>?_⟩);rw[List.getElem?_set];by_cases hki:i.toNat=k
  ·rw[if_pos hki,if_pos (by omega)]
  ·rw[if_neg hki];exact e2 k (by omega)
 rintro i M q1 q2 ⟨e1,e2⟩;have hi:i=j:=q2 (by omega);subst hi;have hM:Mx i.toNat M:=by
  have hall:∀(a:Nat) r,M[a]?=some r→r=List.replicate i.toNat false:=λa r hr=>by
   have hlt:a<M.length:=(List.getElem?_eq_some_iff.1 hr).1;rw[e2 a (by omega)]at hr;exact(Option.some.inj hr).symm
  refine⟨e1,λr hr=>?_,λa b r hr hb=>?_⟩
  ·obtain⟨a,ha⟩:=List.getElem?_of_mem hr;rw[hall a r ha];simp
  ·rw[hall a r hr]at hb;have:=List.mem_of_getElem? hb;simp at this
 clear e1 e2;refine Ok.chk (by simp;omega) ?_;refine Ok.jd (λk (sg:List Int×Int×List (List Bool))=>fH (bL.mk sg.1 sg.2.1)∧Mx i.toNat sg.2.2) 1 i ?_ ?_ _ _ _ rfl (by omega) (by omega) ⟨i5,hM⟩
 ·rintro k ⟨L1,A1,M1⟩ Z k1 k2 ⟨e1,e2⟩ hZ;refine Ok.jn (λsg:List (List Bool)×List Int×Int=>fH (bL.mk sg.2.1 sg.2.2)∧Mx i.toNat sg.1) (λs hs=>hZ _ hs) λJ hJ=>?_;refine Ok.bnd (f_n e1 (by omega)) λv hv=>Ok.cs (λ_=>?_) λ_=>hJ _ ⟨hv.2,e2⟩;refine Ok.bnd (f_n hv.2 (by omega)) λu hu=>?_;exact adl e2 (λ_ l=>J (List.set M1 u.1.toNat l,u.2.L,u.2.At)) hu.1.1 (hu.1.2.1 (by omega)) (by omega) λr r2 hr2=>hJ _ ⟨hu.2,hr2⟩
 rintro k ⟨L1,A1,M1⟩ k1 k2 ⟨e1,e2⟩;refine Ok.bnd (f_n e1 (agJ _).1) λv hv=>?_;rw[cH (n:=i+2) (by omega) (by omega)]at hv;have hv1:=hv.1.2.1 (by omega);refine Ok.whl (λsg:Int×List Int×Int×List (List Bool)=>(0≤sg.1∧sg.1≤11)∧fH (bL.mk sg.2.1 sg.2.2.1)∧Mx i.toNat sg.2.2.2) (λsg=>sg.1.toNat) ⟨⟨hv.1.1,by simp only;omega⟩,hv.2,e2⟩ (by simp only;omega) ?_;rintro⟨c,L2,A2,M2⟩ Z ⟨⟨c0,c1⟩,e3,e4⟩ hZ;simp only at c0 c1;refine Ok.cs (λhc=>?_) λhc=>?_
 ·have hc:0<c:=by simpa using hc
  refine Ok.jn (λsg:List (List Bool)×List Int×Int=>fH (bL.mk sg.2.1 sg.2.2)∧Mx i.toNat sg.1) (λs hs=>?_) λJ hJ=>?_
  ·rw[cH (n:=c-1) (by omega) (by omega)];exact hZ _ ⟨⟨by simp only;omega,by simp only;omega⟩,hs.1,hs.2⟩ (by simp only;omega)
  ·refine Ok.bnd (f_n e3 (by omega)) λa ha=>Ok.bnd (f_n ha.2 (by omega)) λb hb=>?_;have ha1:=ha.1.2.1 (by omega);have hb1:=hb.1.2.1 (by omega);have ha0:=ha.1.1;have hb0:=hb.1.1
   refine Ok.cs (λhne=>?_) λ_=>hJ _ ⟨hb.2,e4⟩;have hne:a.1≠b.1:=by simpa using hne
   refine adl e4 (λ_ l=>J (List.set M2 _ l,b.2.L,b.2.At)) (by split<;>omega) (by split<;>split<;>omega) (by split<;>omega) λr r2 hr2=>hJ _ ⟨hb.2,hr2⟩
 clear hZ e2 hM hv hv1 e1;refine Ok.bnd (f_n e3 (by omega)) λw hw=>?_;have hML:M2.length=i.toNat:=e4.len;refine Ok.chk (by simp;omega) ?_;refine Ok.jd (λa (sg:List bk×List Int×Int)=>Lx R sg.1 a.toNat 0∧fH (bL.mk sg.2.1 sg.2.2)) 0 i ?_ ?_ _ _ _ (by rw[hML];omega) (by omega) (by omega) ⟨⟨by simp,by simp,by simp,by simp⟩,hw.2⟩
 ·rintro a ⟨ls,L3,A3⟩ Z a0 a1 ⟨e5,e6⟩ hZ;refine Ok.chk (by simp;omega) ?_;refine Ok.jd (λb (sg:List bk×List Int×Int)=>Lx R sg.1 a.toNat b.toNat∧fH (bL.mk sg.2.1 sg.2.2)) 0 i ?_ ?_ _ _ _ (by rw[hML];omega) (by omega) (by omega) ⟨e5,e6⟩
  ·rintro b ⟨ls,L4,A4⟩ Z2 b0 b1 ⟨e7,e8⟩ hZ2;have e7:Lx R ls a.toNat b.toNat:=e7;have e8:fH (bL.mk L4 A4):=e8;have hsk:Lx R ls a.toNat (b+1).toNat:=by rw[show(b+1).toNat=b.toNat+1 by omega];exact e7.skip
   refine Ok.jn (λsg:List Int×Int×List bk=>fH (bL.mk sg.1 sg.2.1)∧Lx R sg.2.2 a.toNat (b+1).toNat) (λs hs=>hZ2 _ ⟨hs.2,hs.1⟩) λJ3 hJ3=>?_;refine Ok.bnd (agM e4 a0 (by omega)) λrow hrow=>Ok.bnd (mR b0 (by rw[hrow.2];omega)) λc hc=>?_;cases c with
   |false=>exact hJ3 _ ⟨e8,hsk⟩
   |true=>
    have hab:a.toNat<b.toNat:=e4.up _ _ _ hrow.1 hc.2;simp only[Bool.not_true,cond_false];refine Ok.bnd (mR a0 (by omega)) λx hx=>Ok.bnd (mR b0 (by omega)) λy hy=>Ok.bnd (xD e8 (by simp) (by simp)) λcp hcp=>?_;have hcap:0≤cp.1∧cp.1≤1000:=by
     have:=hcp.1;simp only[List.mem_cons,List.not_mem_nil,or_false]at this;omega
    have hlen:ls.length≤36+9:=by
     have:=e7.len;have:=agL R.length (by omega) a.toNat (by omega);omega
    refine Ok.jn (λsg:List Int×Int×Int×Int=>fH (bL.mk sg.1 sg.2.1)∧(1≤sg.2.2.1∧sg.2.2.1≤1000)∧1≤sg.2.2.2∧sg.2.2.2≤1000) (λs hs=>?_) λJ4 hJ4=>?_
    ·obtain⟨L5,A5,ca,cb⟩:=s;obtain⟨s1,s2,s3⟩:=hs;simp only at s2 s3;refine Ok.bnd (xq (by simp;omega)) λls2 q2=>hJ3 _ ⟨s1,?_⟩;rw[q2.1,show(b+1).toNat=b.toNat+1 by omega];refine e7.add i3 hab hx.2 hy.2 rfl rfl ?_;simp only[oJ,tC];simp;omega
    ·refine Ok.cs (λ_=>?_) λ_=>hJ4 _ ⟨hcp.2,by simp only;omega,by simp only;omega⟩;refine Ok.bnd (aa0 hcp.2) λr1 hr1=>Ok.bnd (xD hr1.2 (by simp) (by simp)) λp1 hp1=>Ok.bnd (aa0 hp1.2) λr2 hr2=>Ok.bnd (xD hr2.2 (by simp) (by simp)) λp2 hp2=>hJ4 _ ⟨hp2.2,?_,?_⟩
     ·have h1:=hr1.1 (by omega) (by omega) (by omega);have h2:=hp1.1
      simp only[List.mem_cons,List.not_mem_nil,or_false]at h2 ⊢;omega
     ·have h1:=hr1.1 (by omega) (by omega) (by omega);have h2:=hp1.1;have h3:=hr2.1 (by omega) (by omega) (by omega);have h4:=hp2.1
      simp only[List.mem_cons,List.not_mem_nil,or_false]at h2 h4 ⊢;omega
  ·rintro b ⟨ls,L4,A4⟩ b0 b1 ⟨e7,e8⟩;have hb:b=i:=b1 (by omega);subst hb;refine hZ _ ⟨?_,e8⟩;rw[show(a+1).toNat=a.toNat+1 by omega];exact e7.next (by omega)
 ·rintro a ⟨ls,L3,A3⟩ a0 a1 ⟨e5,e6⟩;have ha:a=i:=a1 (by omega);subst ha;have e5:Lx R ls a.toNat 0:=e5;have hlen:ls.length≤36:=by
   have:=e5.len;have:=agL R.length (by omega) a.toNat (by omega);omega
  refine Ok.s ⟨⟨⟨?_,?_,λr hr=>?_,i3,e5.ok,λl hl=>?_,λl hl=>?_,e5.asc⟩,⟨?_,?_⟩,λr hr=>(i4 r hr).2,λr hr=>?_⟩,e6⟩
  ·show R.length≤24;omega
  ·show ls.length≤60;omega
  ·have:=(i4 r hr).1;omega
  ·obtain⟨i,j,x,y,q1,q2,q3,q4,q5,_⟩:=e5.at_ l hl;exact⟨sQ.2 ⟨x,List.mem_of_getElem? q2,q4.symm⟩,sQ.2 ⟨y,List.mem_of_getElem? q3,q5.symm⟩⟩
  ·obtain⟨i,j,x,y,q1,q2,q3,q4,q5,_⟩:=e5.at_ l hl;have:=afx i3 q2 q3 q1;omega
  ·show 1≤R.length;omega
  ·show(R.length:Int)≤most;omega
  ·have:=(i4 r hr).1;omega
end
section
theorem yD{t:bL}{g:ai}{γ:Type}{Q:γ→Prop}{k:Int×bL→bg→Option γ}(h:fH t)(hg:1≤g.aC.length∧g.aC.length≤1000)(hk:∀p r,fH p.2→r∈g.aC→r.ID∈ids g→Ok (k p r) Q):
  Ok (bnd (ck t (g.aC.length:Int)) λp=>bnd (elO g.aC p.1) λr=>k p r) Q:=
 Ok.bnd (f_n h (by omega)) λp hp=>Ok.bnd (mR hp.1.1 (hp.1.2.1 (by omega))) λr hr=>hk p r hp.2 hr.1 (List.mem_map.2 ⟨r,hr.1,rfl⟩)
theorem aiP{t:bL}{g:ai}{n:Int}(h:fH t)(hg:g.aC.length≤1000)(hn:0≤n∧n≤1000):Ok (pS t g n) (λp=>(p.1.Pairwise (·<·)∧(∀x∈p.1,x∈ids g)∧(p.1.length:Int)≤n)∧fH p.2):=by
 unfold pS;rw[cH (by omega) (by omega)];refine Ok.bnd (f_n h (by omega)) λq hq=>?_;have hq1:=hq.1.2.1 (by omega);refine Ok.whl (λsg:List Int×Int×List Int×Int=>(sg.1.Pairwise (·<·)∧(∀x∈sg.1,x∈ids g)∧(sg.1.length:Int)+sg.2.1≤n∧0≤sg.2.1)∧fH (bL.mk sg.2.2.1 sg.2.2.2)) (λsg=>sg.2.1.toNat) ⟨⟨by simp,by simp,by simp;omega,hq.1.1⟩,hq.2⟩ (by simp only;omega) ?_;rintro⟨out,i,L,A⟩ Z ⟨⟨h1,h2,h3,h4⟩,h5⟩ hZ;simp only at h1 h2 h3 h4;refine Ok.cs (λhc=>?_) λhc=>Ok.s ⟨⟨h1,h2,by simp only;omega⟩,h5⟩;simp only[Bool.and_eq_true,decide_eq_true_eq]at hc;refine yD h5 (by omega) λp r hp hr hid=>?_;rw[afw _ _ (by omega),aI,cH (by omega) (by omega)];have:=sR out r.ID;refine hZ _ ⟨⟨xZ h1,λx hx=>?_,by simp only;omega,by simp only;omega⟩,hp⟩ (by simp only;omega);rcases nG.1 hx with rfl|hx
 ·exact hid
 ·exact h2 x hx
def rG:List az→az→List az
 |[],x=>[x]
 |y::r,x=>if ltH y x then y::rG r x else x::y::r
theorem qx:∀{l:List az} {x y:az},y∈rG l x↔y=x∨y∈l
 |[],x,y=>by simp[rG]
 |z::r,x,y=>by
  rw[rG];split
  ·rw[List.mem_cons,qx,List.mem_cons];constructor
   ·rintro(h|h|h)<;>simp[h]
   ·rintro(h|h|h)<;>simp[h]
  ·simp
theorem abJ:∀(l:List az) (x:az),(rG l x).Perm (x::l)
 |[],x=>by simp[rG]
 |z::r,x=>by
  rw[rG];split
  ·exact((abJ r x).cons z).trans (.swap x z r)
  ·exact .refl _
theorem agN{a b:az}(h:ltH a b=false)(hne:a≠b):ltH b a=true:=by
 cases a;cases b
 simp[ltH]at *;omega
theorem aei:∀{l:List az} {x:az},l.Pairwise (λa b=>ltH a b=true)→x∉l→(rG l x).Pairwise (λa b=>ltH a b=true)
 |[],x,_,_=>by simp[rG]
 |z::r,x,h,hx=>by
  rw[rG];rw[List.pairwise_cons]at h;simp only[List.mem_cons,not_or]at hx;split
  ·rename_i hz;rw[List.pairwise_cons];refine⟨λy hy=>?_,aei h.2 hx.2⟩;rcases qx.1 hy with rfl|hy
   ·exact hz
   ·exact h.1 y hy
  ·rename_i hz;have hzx:ltH x z=true:=agN (by simpa using hz) (Ne.symm hx.1);rw[List.pairwise_cons,List.pairwise_cons];refine⟨λy hy=>?_,h⟩;rcases List.mem_cons.1 hy with rfl|hy
   ·exact hzx
   ·exact abH _ _ _ hzx (h.1 y hy)
theorem Rch.mono{root:Int}{L L':List az}(h:∀x∈L,x∈L'){y:Int}(hr:Rch root L y):Rch root L' y:=by
 induction hr with
 |root=>exact .root
 |step x hx _ ih=>exact .step x (h x hx) ih
theorem Vr.reach{t:aT}(h:Vr t){x:Int}(hx:x=t.bw∨∃h∈t.Links,h.To=x):Rch t.bw t.Links x:=by
 rcases hx with rfl|⟨y,hy,rfl⟩
 ·exact .root
 ·exact .step y hy (h.rch y hy)
theorem Vr.add{t:aT}(h:Vr t){x:az}(hr:(1≤x.aD∧x.aD≤99)∧1≤x.To∧x.To≤99)(hf:x.aD=t.bw∨∃h∈t.Links,h.To=x.aD)(ht:¬(x.To=t.bw∨∃h∈t.Links,h.To=x.To)):Vr (aT.mk t.bw (rG t.Links x)):=by
 rw[not_or]at ht;have hx:x∉t.Links:=λhm=>ht.2 ⟨x,hm,rfl⟩;have hsub:∀y∈t.Links,y∈rG t.Links x:=λy hy=>qx.2 (.inr hy);refine⟨h.rt,λy hy=>?_,aei h.asc hx,?_,λy hy=>?_,λy hy=>?_⟩
 ·rcases qx.1 hy with rfl|hy
  ·exact hr
  ·exact h.rng y hy
 ·refine((abJ t.Links x).pairwise_iff (λ{a b} (hab:a.To≠b.To)=>Ne.symm hab)).2 ?_;rw[List.pairwise_cons];exact⟨λy hy e=>ht.2 ⟨y,hy,e.symm⟩,h.dup⟩
 ·rcases qx.1 hy with rfl|hy
  ·exact ht.1
  ·exact h.nrt y hy
 ·rcases qx.1 hy with rfl|hy
  ·exact(h.reach hf).mono hsub
  ·exact(h.rch y hy).mono hsub
end
end Go.Proofs.YtmnbolcmepihlaaGreat
