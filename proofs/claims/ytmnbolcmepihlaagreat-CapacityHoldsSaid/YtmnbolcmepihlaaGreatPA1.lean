/- Several texts in one. No condition but those that stand in each. -/
import Derived.Test.YtmnbolcmepihlaaGreatPM
namespace Go.Proofs.YtmnbolcmepihlaaGreat
set_option linter.all false
open Go
section
def jA(t:dX):Prop:=0≤t.At∧t.At≤t.L.length∧t.L.length≤2000
theorem OX(n:Int):bK n≤9223372036854775807∧-9223372036854775808≤bK n:=by
 unfold bK;rw[IntKind.wrap_i64];omega
theorem aeo(l:List Int):Ok (Ct l) jA:=by
 unfold Ct;refine Ok.bf (G4 ⟨by omega,?_,?_⟩) λm hm=>Ok.s ⟨by simp,by simp,?_⟩
 ·split<;>omega
 ·split<;>omega
 ·have:=hm.2;simp only;split at this<;>omega
variable {t:dX}
theorem aep(h:jA t):Ok (BK t) (λp=>jA p.2):=by
 obtain⟨bJ,h1,D⟩:=h;unfold BK;refine Ok.cs (λ_=>Ok.s ⟨bJ,h1,D⟩) λaa=>?_;simp at aa;have e:bK (t.At+1)=t.At+1:=hW (by omega) (by omega);rw[e,hW (by omega) (by omega)];refine Ok.bf (q4 (by omega) (by omega)) λa _=>Ok.s ⟨?_,?_,D⟩<;>show _<;>simp<;>omega
theorem aeq{x n:Int}(aT:n≤9223372036854775807):Ok (Cu x n) (λr=>0≤r∧(1≤n→r<n)∧(n<1→r=0)):=by
 unfold Cu;refine Ok.cs (λh=>Ok.s ?_) λh=>?_
 ·simp at h;omega
 have h:1≤n:=by simpa using h
 have h1:Int.tmod x n<n:=Int.tmod_lt_of_pos _ (by omega);have D : -n<Int.tmod x n:=Int.lt_tmod_of_pos _ (by omega);refine Ok.ij (by simp;omega) ?_;refine Ok.jn (λr=>0≤r∧r<n) (λs W=>Ok.s ⟨W.1,λ_=>W.2,by omega⟩) λJ lz=>?_;refine Ok.cs (λaa=>lz _ ?_) λaa=>lz _ ?_
 ·simp at aa;rw[hW (by omega) (by omega)];omega
 ·simp at aa;omega
theorem rR{n:Int}(h:jA t)(aT:n≤9223372036854775807):Ok (np t n) (λp=>(0≤p.1∧(1≤n→p.1<n)∧(n<1→p.1=0))∧jA p.2):=by
 unfold np;exact Ok.bf (aep h) λp aB=>Ok.bf (aeq aT) λr ax=>Ok.s ⟨ax,aB⟩
theorem MD{low high:Int}(h:jA t):Ok (xx t low high) (λp=>(-2305843009213693952≤low→low≤high→high<2305843009213693952→low≤p.1∧p.1≤high)∧jA p.2):=by
 unfold xx;refine Ok.bf (rR h (OX _).1) λp aB=>Ok.s ⟨λh1 D ak=>?_,aB.2⟩;obtain⟨⟨an,au,_⟩,_⟩:=aB;rw[hW (n:=high-low) (by omega) (by omega),hW (n:=high-low+1) (by omega) (by omega)]at au;show low≤bK (low+p.1)∧bK (low+p.1)≤high;rw[hW (by omega) (by omega)];omega
theorem Dm{l:List Int}(h:jA t)(bJ:1≤l.length)(h1:l.length≤1000000):Ok (ua t l) (λp=>p.1∈l∧jA p.2):=by
 unfold ua;refine Ok.bf (rR h (by omega)) λp aB=>?_;exact Ok.bf (q4 aB.1.1 (aB.1.2.1 (by omega))) λa aC=>Ok.s ⟨aC.1,aB.2⟩
theorem ab7(a b:List Int):BM a b=some (decide (a=b)):=by
 unfold BM;by_cases aJ:a.length=b.length
 ·rw[show(!decide ((a.length:Int)=(b.length:Int)))=false by simp[aJ],cond_false]
  have key:=Nw (L:=a) (f:=λp l (_:Unit)=>some (decide (l=b.drop p.length))) (K:=λav:Unit=>match av with|()=>some true) (B:=λ(bp:Int) (aA:Int) (dh:Unit→Option _) (av:Unit)=>match av with|()=>bf (dj b (bp:Int)) λ(ej:Int)=>bif !decide (aA=ej)then some false else dh ())
   (λs=>by rw[List.drop_of_length_le (by omega)];rfl) (λp x r s bW aB hb=>by
    have bQ:p.length<b.length:=by rw[←aJ,←aB];simp
    simp only[dj,if_pos (Int.natCast_nonneg _),Int.toNat_natCast,List.getElem?_eq_getElem bQ,ee];rw[List.drop_eq_getElem_cons bQ];by_cases u:x=b[p.length]
    ·simp only[u,decide_true,Bool.not_true,cond_false,hb,List.length_append,List.length_singleton,List.cons.injEq,true_and]
    ·rw[decide_eq_false u,Bool.not_false,cond_true,decide_eq_false (λh=>u (List.cons.inj h).1)]) a [] () rfl
  simpa using key
 ·rw[show(!decide ((a.length:Int)=(b.length:Int)))=true by simp;omega,cond_true];rw[decide_eq_false (λh=>aJ (by rw[h]))]
def oQ:List Int→Int→List Int
 |[],x=>[x]
 |y::r,x=>if y<x then y::oQ r x else if y=x then y::r else x::y::r
theorem Mj:∀{l:List Int} {x y:Int},y∈oQ l x↔y=x∨y∈l
 |[],x,y=>by simp[oQ]
 |z::r,x,y=>by
  rw[oQ];split
  ·rw[List.mem_cons,Mj,List.mem_cons];constructor
   ·rintro(h|h|h)<;>simp[h]
   ·rintro(h|h|h)<;>simp[h]
  ·split
   ·rename_i h;subst h;simp
   ·simp
theorem N3:∀{l:List Int} {x:Int},l.Pairwise (·<·)→(oQ l x).Pairwise (·<·)
 |[],x,_=>by simp[oQ]
 |z::r,x,h=>by
  rw[oQ];rw[List.pairwise_cons]at h;split
  ·rw[List.pairwise_cons];refine⟨λy ah=>?_,N3 h.2⟩;rcases Mj.1 ah with rfl|ah
   ·assumption
   ·exact h.1 y ah
  ·split
   ·exact List.pairwise_cons.2 h
   ·rw[List.pairwise_cons];refine⟨λy ah=>?_,List.pairwise_cons.2 h⟩;rcases List.mem_cons.1 ah with rfl|ah
    ·omega
    ·have:=h.1 y ah;omega
theorem Nd:∀(l:List Int) (x:Int),(oQ l x).length≤l.length+1
 |[],x=>by simp[oQ]
 |z::r,x=>by
  rw[oQ];have:=Nd r x;split
  ·simp;omega
  ·split<;>simp
theorem N4:∀(p r:List Int) (x:Int),(∀y∈p,y<x)→(∀y∈r.head?,x≤y)→oQ (p++r) x=if r.head?=some x then p++r else p++x::r
 |[],r,x,_,h=>by
  cases r with
  |nil=>simp[oQ]
  |cons y r=>
   have:=h y (by simp);simp only[List.nil_append,oQ,if_neg (show ¬y<x by omega),List.head?_cons,Option.some.injEq]
 |z::p,r,x,aB,h=>by
  have:=aB z (by simp);rw[List.cons_append,oQ,if_pos this,N4 p r x (λy ah=>aB y (by simp[ah])) h];split<;>rfl
theorem aer(l:List Int)(x:Int)(aJ:l.length≤100000):Cv l x=some (oQ l x):=by
 unfold Cv;refine Ok.eq (Ok.kW (λk:Int=>0≤k∧k≤l.length∧∀y∈l.take k.toNat,y<x) (λk:Int=>((l.length:Int)-k).toNat) ⟨by omega,by omega,by simp⟩ (by omega) ?_);rintro k bW ⟨bJ,h1,D⟩ hb;refine Ok.jn (λv:Bool=>(v=true↔∃y∈(l.drop k.toNat).head?,y<x)) ?_ ?_
 ·intro v af;refine Ok.cs (λh=>?_) λh=>?_
  ·obtain⟨y,ah,Ck⟩:=af.1 h;have bQ:k.toNat<l.length:=by
    cases Z:l.drop k.toNat with
    |nil=>rw[Z]at ah;simp at ah
    |cons z r=>have:=congrArg List.length Z;simp at this;omega
   rw[hW (by omega) (by omega)];refine hb _ ⟨by omega,by omega,λz hz=>?_⟩ (by omega);rw[show(k+1).toNat=k.toNat+1 by omega,List.take_succ]at hz;rcases List.mem_append.1 hz with hz|hz
   ·exact D z hz
   ·rw[List.head?_drop]at ah;have e:l[k.toNat]?=some z:=by simpa using hz
    have e2:l[k.toNat]?=some y:=ah;rw[e]at e2;cases e2;exact Ck
  ·have s5:∀y∈(l.drop k.toNat).head?,x≤y:=λy ah=>by
    have:¬y<x:=λcb=>by rw[af.2 ⟨y,ah,cb⟩]at h;cases h
    omega
   have key:=N4 (l.take k.toNat) (l.drop k.toNat) x D s5;rw[List.take_append_drop]at key;refine Ok.jn (λv:Bool=>(v=true↔(l.drop k.toNat).head?=some x)) ?_ ?_
   ·intro hL Ch;refine Ok.cs (λD=>Ok.s ?_) λD=>?_
    ·rw[key,if_pos (Ch.1 D)]
    ·have ct:¬(l.drop k.toNat).head?=some x:=λcb=>by rw[Ch.2 cb]at D;cases D
     rw[if_neg ct]at key;refine Ok.bf (G4 ⟨by omega,by omega,by omega⟩) λjt an=>?_;refine Ok.bf (G3 (by simp;omega)) λhQ au=>?_;refine Ok.bf (G4 ⟨by omega,by omega,by omega⟩) λKz aK=>?_;refine Ok.bf (G3 (by simp at au aK an ⊢;omega)) λan6 aG=>Ok.s ?_;rw[aG.1,aK.1,au.1,an.1,key];simp
   ·intro J lz;refine Ok.cs (λaa=>?_) λaa=>lz _ ?_
    ·simp at aa;refine Ok.bf (q4 bJ aa) λe he=>lz _ ?_;rw[List.head?_drop,he.2];simp
    ·simp at aa;rw[List.drop_of_length_le (by omega)];simp
 ·intro J lz;refine Ok.cs (λaa=>?_) λaa=>lz _ ?_
  ·simp at aa;refine Ok.bf (q4 bJ aa) λe he=>lz _ ?_;rw[List.head?_drop,he.2];simp
  ·simp at aa;rw[List.drop_of_length_le (by omega)];simp
end
section
theorem Nf{α σ β:Type}{B:Int→α→(σ→Option β)→σ→Option β}{K:σ→Option β}{L:List α}(I:List α→σ→Prop)(f:List α→List α→Option β)(aT:∀s,I L s→K s=f L [])
  (aa:∀p x r s bW,p++x::r=L→I p s→(∀dg,I (p++[x]) dg→bW dg=f (p++[x]) r)→B (p.length:Int) x bW s=f p (x::r)):∀(l p:List α) (s:σ),p++l=L→I p s→ez l p.length B K s=f p l
 |[],p,s,h,hi=>by rw[List.append_nil]at h;subst h;exact aT s hi
 |x::r,p,s,h,hi=>aa p x r s _ h hi λdg W=>by
   have:=Nf (B:=B) (K:=K) I f aT aa r (p++[x]) dg (by simpa using h) W;rw[List.length_append]at this;exact this
def tH(n:Int):Bool:=decide (1≤n)&&decide (n≤99)
end
section
def wS(h:bh):Bool:=!tH h.bg||!tH h.aQ
def mw(a b:bh):Bool:=decide (a.bg<b.bg)||(decide (a.bg=b.bg)&&decide (a.aQ<b.aQ))
def Ao(a b:bh):Bool:=decide (b.aQ=a.aQ)
def sH(root:Int):List bh→List bh→Bool
 |_,[]=>false
 |p,x::r=>(p.any (Ao x)||decide (x.aQ=root))||sH root (p++[x]) r
inductive mA(root:Int)(L:List bh):Int→Prop
 |root:mA root L root
 |step (h:bh):h∈L→mA root L h.bg→mA root L h.aQ
noncomputable def tZ(t:c0):Int:=
 bif !tH t.er||t.Links.any wS then 2 else bif l1 mw t.Links then(bif sH t.er [] t.Links then 8 else @ite Int (∀h∈t.Links,mA t.er t.Links h.bg) (Classical.propDecidable _) 0 10)else 25
def pF(f:Int→Bool)(L:List bh):Nat:=(L.filter λh=>!f h.aQ).length
variable {f:Int→Bool}
theorem N5{g:Int→Bool}(h:∀x,f x=true→g x=true)(L:List bh):pF g L≤pF f L:=by
 unfold pF;induction L with
 |nil=>simp
 |cons a r bD=>
  simp only[List.filter_cons];cases be:f a.aQ
  ·cases bl:g a.aQ<;>simp<;>omega
  ·rw[h _ be];simpa using bD
theorem N6{f g:Int→Bool}(h:∀x,f x=true→g x=true){a:bh}:∀{L:List bh},a∈L→f a.aQ=false→g a.aQ=true→pF g L<pF f L
 |[],aC,_,_=>by cases aC
 |b::r,aC,h1,D=>by
  have hle:=N5 h r;unfold pF at *;simp only[List.filter_cons];rcases List.mem_cons.1 aC with rfl|aC
  ·rw[h1,D];simp;omega
  ·have bD:=N6 h aC h1 D;unfold pF at bD;cases be:f b.aQ
   ·cases bl:g b.aQ<;>simp<;>omega
   ·rw[h _ be];simpa using bD
structure Ba(root:Int)(L:List bh)(f:Int→Bool):Prop where
 rt:f root=true
 sub:∀x,f x=true→mA root L x
structure sP(root:Int)(L:List bh)(f0:Int→Bool)(p:List bh)(g:Bool)(f:Int→Bool):Prop where
 tG:Ba root L f
 up:∀x,f0 x=true→f x=true
 no:g=false→(∀x,f x=f0 x)∧∀h∈p,f h.bg=true→f h.aQ=true
 yes:g=true→pF f L<pF f0 L
variable {L:List bh}
theorem sP.start{root:Int}(h:Ba root L f):sP root L f [] false f:=⟨h,λ_=>id,λ_=>⟨λ_=>rfl,by simp⟩,λh=>by cases h⟩
variable {f0:Int→Bool}{h:bh}{p:List bh}
theorem sP.add{root:Int}{mb:Int→Bool}{g:Bool}(j:sP root L f0 p g f)(hm:h∈L)(h1:f h.bg=true)(D:f h.aQ=false)(be:∀y,mb y=(decide (y=h.aQ)||f y)):sP root L f0 (p++[h]) true mb:=by
 have up:∀x,f x=true→mb x=true:=λx u=>by rw[be,u];simp
 have aJ:pF mb L<pF f L:=N6 up hm D (by rw[be];simp);refine⟨⟨up _ j.tG.rt,λx u=>?_⟩,λx u=>up x (j.up x u),λh=>(by cases h),λ_=>?_⟩
 ·rw[be,Bool.or_eq_true,decide_eq_true_eq]at u;rcases u with rfl|u
  ·exact .step h hm (j.tG.sub _ h1)
  ·exact j.tG.sub x u
 ·have:=N5 j.up L;omega
theorem sP.pass{root:Int}{g:Bool}(j:sP root L f0 p g f)(aT:f h.bg=false∨f h.aQ=true):sP root L f0 (p++[h]) g f:=by
 refine⟨j.tG,j.up,λbl=>⟨(j.no bl).1,λx u be=>?_⟩,j.yes⟩;rcases List.mem_append.1 u with u|u
 ·exact(j.no bl).2 x u be
 ·simp at u;subst u
  rcases aT with aT|aT
  ·rw[aT]at be;cases be
  ·exact aT
theorem Ba.done{root:Int}(h:Ba root L f)(aa:∀x∈L,f x.bg=true→f x.aQ=true)(x:Int):f x=true↔mA root L x:=by
 refine⟨h.sub x,λax=>?_⟩;induction ax with
 |root=>exact h.rt
 |step y ah _ bD=>exact aa y ah bD
theorem XL(f:Int→Bool)(L:List bh):pF f L≤L.length:=List.length_filter_le _ _
def jP(m:List (Int×Bool))(x:Int):Bool:=(bT m x).getD false
theorem C8(m:List (Int×Bool))(n x:Int):jP (c6 m n true) x=(decide (x=n)||jP m x):=by
 unfold jP;rw[Nc];by_cases h:x=n<;>simp[h]
theorem VH(t:c0)(aJ:t.Links.length≤1000000):Ok (BP t) (λm=>∀x,jP m x=true↔mA t.er t.Links x):=by
 unfold BP;refine Ok.kW (λav:Bool×List (Int×Bool)=>Ba t.er t.Links (jP av.2)∧(av.1=false→∀x∈t.Links,jP av.2 x.bg=true→jP av.2 x.aQ=true)) (λav=>2*pF (jP av.2) t.Links+if av.1 then 1 else 0) ?_ ?_ ?_
 ·refine⟨⟨?_,λx u=>?_⟩,λh=>by cases h⟩
  ·show jP (c6 [] t.er true) t.er=true;rw[C8];simp
  ·have u:jP (c6 [] t.er true) x=true:=u;rw[C8]at u;simp[jP,bT]at u;subst u;exact .root
 ·have:=XL (jP (c6 [] t.er true)) t.Links;show 2*pF (jP (c6 [] t.er true)) t.Links+1<_;omega
 ·rintro⟨g,m⟩ bW ⟨h1,D⟩ hb;refine Ok.cs (λbl=>?_) (λbl=>Ok.s (h1.done (D bl)));refine Ok.Bc (L:=t.Links) (λp (av:Bool×List (Int×Bool))=>sP t.er t.Links (jP m) p av.1 (jP av.2)) (λp x r s jM iZ gR EM=>?_) (false,m) (sP.start h1) (λs W=>?_)
  ·obtain⟨cW,m2⟩:=s;unfold jn;have hm:x∈t.Links:=by rw[iZ];simp
   refine Ok.cs (λaa=>EM _ ?_) (λaa=>EM _ ?_)
   ·simp only[Bool.and_eq_true,Bool.not_eq_true']at aa;exact gR.add hm aa.1 aa.2 (λy=>C8 m2 x.aQ y)
   ·refine gR.pass ?_
    change (jP m2 x.bg&&!jP m2 x.aQ)=false at aa
    revert aa;cases jP m2 x.bg<;>cases jP m2 x.aQ<;>simp
  ·obtain⟨cW,m2⟩:=s;refine hb (cW,m2) ⟨W.tG,λagU=>(W.no agU).2⟩ ?_;cases cW
   ·have e:jP m2=jP m:=funext (W.no rfl).1;have bl:g=true:=bl;subst bl;simp[e]
   ·have:=W.yes rfl;have bl:g=true:=bl;subst bl;simp;omega
theorem XM{a b c d:Int}:decide ((0:Int)≤pI [hs a b,hs c d])=!(decide (a<b)||(decide (a=b)&&decide (c<d))):=by
 by_cases h1:a<b
 ·have e:hs a b = -1:=by unfold hs;rw[if_pos h1]
  simp[e,pI,h1]
 ·by_cases D:a=b
  ·subst D;have e:hs a a=0:=p9.2 rfl;by_cases ak:c<d
   ·have e2:hs c d = -1:=by unfold hs;rw[if_pos ak]
    simp[e,e2,pI,ak]
   ·by_cases bc:d<c
    ·have e2:hs c d=1:=by unfold hs;rw[if_neg ak,if_pos bc]
     simp[e,e2,pI,ak]
    ·have e2:hs c d=0:=by unfold hs;rw[if_neg ak,if_neg bc]
     simp[e,e2,pI,ak]
  ·have ak:b<a:=by omega
   have e:hs a b=1:=by unfold hs;rw[if_neg h1,if_pos ak]
   simp[e,pI,h1,D]
theorem KP(t:c0)(aJ:t.Links.length≤1000000):xy t=some (tZ t):=by
 unfold xy y7;simp only[ee];unfold tZ;show(bif !tH t.er then _ else _)=_;cases tH t.er
 ·rfl
 simp only[Bool.not_true,cond_false,Bool.false_or]
 refine(ya wS (some 2) (λj x bW s=>by
  unfold wS tH jn;cases decide (1≤x.bg)&&decide (x.bg≤99)<;>rfl) _ _ _).trans ?_
 cases t.Links.any wS
 ·simp only[cond_false]
  refine(LK mw (some 25) (λj x y r q s bW iZ aM=>by
   simp only[C6 iZ aM (by omega),ee,Mx,OS,XM];show(bif !mw y x then _ else _)=_;cases mw y x<;>rfl) _).trans ?_
  cases l1 mw t.Links
  ·rfl
  ·simp only[cond_true];refine(Nf (L:=t.Links) (λp m=>∀x,jP m x=true↔x=t.er∨∃h∈p,h.aQ=x) (λp l=>bif sH t.er p l then some 8 else some (@ite Int (∀h∈t.Links,mA t.er t.Links h.bg) (Classical.propDecidable _) 0 10)) (λs _=>?_) (λp x r s bW h hi hb=>?_) t.Links [] _ rfl ?_).trans ?_
   ·obtain⟨m,h1,D⟩:=VH t aJ;simp only[h1,ee,sH,cond_false];refine(ya (λx:bh=>!jP m x.bg) (some 10) (by intros;rfl) _ _ _).trans ?_;by_cases me:∀h∈t.Links,mA t.er t.Links h.bg
    ·rw[if_pos me,nk.2 (λx u=>by rw[(D x.bg).2 (me x u)];rfl)];rfl
    ·rw[if_neg me]
     have:t.Links.any (λx:bh=>!jP m x.bg)=true:=by
      refine Classical.byContradiction λaT=>me λh cb=>(D h.bg).1 ?_;have:=nk.1 (Bool.not_eq_true _▸aT) h cb;simpa using this
     rw[this];rfl
   ·show(bif jP s x.aQ then _ else _)=_;rw[sH];have e:(p.any (Ao x)||decide (x.aQ=t.er))=jP s x.aQ:=by
     rw[Bool.eq_iff_iff,Bool.or_eq_true,List.any_eq_true,hi,decide_eq_true_eq];constructor
     ·rintro(⟨a,aC,W⟩|h)
      ·exact .inr ⟨a,aC,by simpa [Ao]using W⟩
      ·exact .inl h
     ·rintro(h|⟨a,aC,W⟩)
      ·exact .inr h
      ·exact .inl ⟨a,aC,by simpa [Ao]using W⟩
    rw[e];cases jP s x.aQ
    ·refine hb _ λy=>?_;rw[C8,Bool.or_eq_true,decide_eq_true_eq,hi];constructor
     ·rintro(h|h|⟨a,aC,h⟩)
      ·exact .inr ⟨x,by simp,h.symm⟩
      ·exact .inl h
      ·exact .inr ⟨a,by simp[aC],h⟩
     ·rintro(h|⟨a,aC,h⟩)
      ·exact .inr (.inl h)
      ·rcases List.mem_append.1 aC with aC|aC
       ·exact .inr (.inr ⟨a,aC,h⟩)
       ·simp at aC;rw[aC]at h;exact .inl h.symm
    ·rfl
   ·intro x;rw[C8];simp[jP,bT]
   ·cases sH t.er [] t.Links<;>rfl
 ·rfl
structure qC(t:c0):Prop where
 rt:1≤t.er∧t.er≤99
 K8:∀h∈t.Links,(1≤h.bg∧h.bg≤99)∧1≤h.aQ∧h.aQ≤99
 mP:t.Links.Pairwise λa b=>mw a b=true
 dup:t.Links.Pairwise λa b=>a.aQ≠b.aQ
 KM:∀h∈t.Links,h.aQ≠t.er
 Ak:∀h∈t.Links,mA t.er t.Links h.bg
theorem UX(a b c:bh)(h1:mw a b=true)(D:mw b c=true):mw a c=true:=by
 simp[mw]at *;omega
theorem LX{root:Int}:∀{l p:List bh},sH root p l=false↔(∀a∈p,∀b∈l,a.aQ≠b.aQ)∧(∀b∈l,b.aQ≠root)∧l.Pairwise λa b=>a.aQ≠b.aQ
 |[],p=>by simp[sH]
 |x::r,p=>by
  rw[sH,Bool.or_eq_false_iff,Bool.or_eq_false_iff,LX,nk,List.pairwise_cons];constructor
  ·rintro⟨⟨h1,bJ⟩,D,bc,ak⟩;refine⟨λa aC b V=>?_,λb V=>?_,λb V=>D x (by simp) b V,ak⟩
   ·rcases List.mem_cons.1 V with rfl|V
    ·have:=h1 a aC;simpa [Ao]using this
    ·exact D a (by simp[aC]) b V
   ·rcases List.mem_cons.1 V with rfl|V
    ·simpa using bJ
    ·exact bc b V
  ·rintro⟨h1,bc,D,ak⟩;refine⟨⟨λa aC=>by simpa [Ao]using h1 a aC x (by simp),by simpa using bc x (by simp)⟩,λa aC b V=>?_,λb V=>bc b (by simp[V]),ak⟩;rcases List.mem_append.1 aC with aC|aC
   ·exact h1 a aC b (by simp[V])
   ·simp at aC;subst aC;exact D b V
theorem ME{n:Int}:tH n=true↔1≤n∧n≤99:=by simp[tH]
theorem Ng:wS h=false↔(1≤h.bg∧h.bg≤99)∧1≤h.aQ∧h.aQ≤99:=by
 simp[wS,ME]
variable {t:c0}
theorem HF:tZ t=0↔qC t:=by
 unfold tZ;constructor
 ·intro h;cases h1:tH t.er with
  |false=>simp[h1]at h
  |true=>
  cases D:t.Links.any wS with
  |true=>simp[h1,D]at h
  |false=>
  cases ak:l1 mw t.Links with
  |false=>simp[h1,D,ak]at h
  |true=>
  cases bc:sH t.er [] t.Links with
  |true=>simp[h1,D,ak,bc]at h
  |false=>
  by_cases bX:∀h∈t.Links,mA t.er t.Links h.bg
  ·obtain⟨d1,d2,d3⟩:=LX.1 bc;exact⟨ME.1 h1,λx u=>Ng.1 (nk.1 D x u),FJ UX ak,d3,d2,bX⟩
  ·simp only[h1,D,ak,bc,if_neg bX]at h;cases h
 ·intro h;have h1:tH t.er=true:=ME.2 h.rt;have D:t.Links.any wS=false:=nk.2 λx u=>Ng.2 (h.K8 x u);have ak:l1 mw t.Links=true:=zI h.mP;have bc:sH t.er [] t.Links=false:=LX.2 ⟨by simp,h.KM,h.dup⟩;simp only[h1,D,ak,bc,if_pos h.Ak];rfl
noncomputable def xd(t:c0):List Int:=if tZ t=0 then kZ (t.er::t.Links.map (·.aQ))else[]
theorem qC.nodup(h:qC t):(t.er::t.Links.map (·.aQ)).Nodup:=by
 rw[List.nodup_cons];refine⟨λhm=>?_,?_⟩
 ·obtain⟨x,u,e⟩:=List.mem_map.1 hm;exact h.KM x u e
 ·exact List.pairwise_map.2 h.dup
theorem aac(h:qC t){x:Int}:x∈xd t↔x=t.er∨∃h∈t.Links,h.aQ=x:=by
 unfold xd;rw[if_pos (HF.2 h),UU];simp
theorem VI(t:c0)(aJ:t.Links.length≤100000):BQ t=some (xd t):=by
 unfold BQ xd;simp only[KP t (by omega),ee];by_cases h:tZ t=0
 ·simp only[h,decide_true,Bool.not_true,cond_false,if_true];refine(LM (λ_:bh=>true) (λx:bh=>x.aQ) t.Links 0 [t.er] (λj x bW s u W=>by rw[aeL W];rfl) (by simp;omega)).trans ?_;rw[show t.Links.filter (λ_:bh=>true)=t.Links from List.filter_eq_self.2 λ_ _=>rfl];simp only[List.cons_append,List.nil_append,ij];rw[decide_eq_true (by simp;omega)];rfl
 ·simp[h]
end
section
structure Vl(g:b0)(kU:Int):Prop where
 v:h6 g
 n:1≤g.dU.length∧(g.dU.length:Int)≤kU
 c:∀r∈g.dU,r.GY=true
 i:∀r∈g.dU,r.ff≤5*kU
def GK(n:Nat):Nat→Nat
 |0=>0
 |a+1=>GK n a+(n-1-a)
theorem OY:∀n,n≤9→∀a,a≤n→GK n a≤36:=by decide
structure rK(n:Nat)(M:List (List Bool)):Prop where
 len:M.length=n
 row:∀r∈M,r.length=n
 up:∀(a b:Nat) (r:List Bool),M[a]?=some r→r[b]?=some true→a<b
theorem rK.set{n:Nat}{M:List (List Bool)}(h:rK n M){a b:Nat}{r:List Bool}(ax:M[a]?=some r)(iN:a<b)(V:b<n):rK n (M.set a (r.set b true)):=by
 obtain⟨h1,D,ak⟩:=h;have hm:r∈M:=List.mem_of_getElem? ax;refine⟨by simpa using h1,λq bR=>?_,λi j q bR aM=>?_⟩
 ·rcases List.mem_or_eq_of_mem_set bR with bR|rfl
  ·exact D q bR
  ·simpa using D r hm
 ·rw[List.getElem?_set]at bR;by_cases hi:a=i
  ·subst hi;have bQ:a<M.length:=(List.getElem?_eq_some_iff.1 ax).1;simp only[if_true,bQ,Option.some.injEq]at bR;subst bR;rw[List.getElem?_set]at aM;by_cases ags:b=j
   ·omega
   ·rw[if_neg ags]at aM;exact ak a j r ax aM
  ·rw[if_neg hi]at bR;exact ak i j q bR aM
variable {M:List (List Bool)}{i:Int}
theorem OZ{n:Nat}(h:rK n M)(bJ:0≤i)(hi:i<n):Ok (dj M i) (λr=>M[i.toNat]?=some r∧r.length=n):=by
 refine(q4 bJ (by rw[h.len];exact hi)).mono λr ax=>⟨ax.2,h.row r ax.1⟩
theorem Nh{n:Nat}(h:rK n M){j:Int}{mN:Type}{Q:mN→Prop}(k:List Bool→List Bool→Option mN)(bJ:0≤i)(g2:i<j)(aM:j<n)(hk:∀r hl,rK n (List.set M i.toNat hl)→Ok (k r hl) Q):
  Ok (bf (dj M i) λe=>bf (dj e j) λ_=>bf (rB e j true) λl=>k e l) Q:=by
 refine Ok.bf (OZ h bJ (by omega)) λr ax=>Ok.bf (q4 (by omega) (by rw[ax.2];omega)) λ_ _=>?_;refine Ok.bf (HK (by omega) (by rw[ax.2];omega)) λl aJ=>hk r l ?_;rw[aJ.1];exact h.set ax.1 (by omega) (by omega)
structure oq(R:List eC)(ls:List c8)(a b:Nat):Prop where
 at_:∀l∈ls,∃i j x y,i<j∧R[i]?=some x∧R[j]?=some y∧l.A=x.ff∧l.B=y.ff∧(i<a∨i=a∧j<b)
 ok:∀l∈ls,sF l=false
 mP:ls.Pairwise λx y=>mM x y=true
 len:ls.length≤GK R.length a+(b-(a+1))
variable {x:eC}
theorem It{R:List eC}(h:R.Pairwise λa b=>a.ff<b.ff){i j:Nat}{y:eC}(u:R[i]?=some x)(ah:R[j]?=some y)(g2:i<j):x.ff<y.ff:=by
 obtain⟨h1,rfl⟩:=List.getElem?_eq_some_iff.1 u;obtain⟨D,rfl⟩:=List.getElem?_eq_some_iff.1 ah;exact List.pairwise_iff_getElem.1 h i j h1 D g2
variable {a b:Nat}{ls:List c8}
theorem oq.add{R:List eC}(h:oq R ls a b)(b2:R.Pairwise λa b=>a.ff<b.ff){l:c8}{y:eC}(iN:a<b)(u:R[a]?=some x)(ah:R[b]?=some y)(dR:l.A=x.ff)(fv:l.B=y.ff)(aJ:sF l=false):oq R (ls++[l]) a (b+1):=by
 refine⟨λm hm=>?_,λm hm=>?_,?_,?_⟩
 ·rcases List.mem_append.1 hm with hm|hm
  ·obtain⟨i,j,x,y,h1,D,ak,bc,bX,dV⟩:=h.at_ m hm;exact⟨i,j,x,y,h1,D,ak,bc,bX,by omega⟩
  ·simp at hm;subst hm
   exact⟨a,b,x,y,iN,u,ah,dR,fv,by omega⟩
 ·rcases List.mem_append.1 hm with hm|hm
  ·exact h.ok m hm
  ·simp at hm;subst hm;exact aJ
 ·refine List.pairwise_append.2 ⟨h.mP,by simp,λm hm q bR=>?_⟩;simp at bR;subst bR
  obtain⟨i,j,aps,Mt,h1,D,ak,bc,bX,dV⟩:=h.at_ m hm;simp only[mM,Bool.or_eq_true,Bool.and_eq_true,decide_eq_true_eq];rcases dV with dV|⟨rfl,dV⟩
  ·have:=It b2 D u dV;left;omega
  ·rw[u]at D;cases D
   have:=It b2 ak ah dV;right;omega
 ·have:=h.len;simp;omega
theorem oq.skip{R:List eC}(h:oq R ls a b):oq R ls a (b+1):=
 ⟨λm hm=>by
  obtain⟨i,j,x,y,h1,D,ak,bc,bX,dV⟩:=h.at_ m hm;exact⟨i,j,x,y,h1,D,ak,bc,bX,by omega⟩,h.ok,h.mP,by have:=h.len;omega⟩
theorem oq.next{R:List eC}(h:oq R ls a b)(V:b=R.length):oq R ls (a+1) 0:=
 ⟨λm hm=>by
  obtain⟨i,j,x,y,h1,D,ak,bc,bX,dV⟩:=h.at_ m hm;exact⟨i,j,x,y,h1,D,ak,bc,bX,by omega⟩,h.ok,h.mP,by have:=h.len;simp only[GK];omega⟩
theorem Vp{t:dX}{kU:Int}(h:jA t)(hm:1≤kU∧kU≤9):Ok (Cw t kU) (λp=>Vl p.1 kU∧jA p.2):=by
 unfold Cw;refine Ok.bf (MD h) λp aB=>?_;obtain⟨n,t1⟩:=p;obtain⟨aT,bB⟩:=aB;have aT:1≤n∧n≤kU:=aT (by omega) (by omega) (by omega);have bB:jA t1:=bB;refine Ok.ij (by simp;omega) ?_;refine Ok.mK (λj (av:Int×List eC×List Int×Int)=>(0≤av.1∧av.1≤5*j)∧(av.2.1.length:Int)=j∧av.2.1.Pairwise (λa b=>a.ff<b.ff)∧(∀r∈av.2.1,(1≤r.ff∧r.ff≤av.1)∧r.GY=true)∧jA (dX.mk av.2.2.1 av.2.2.2)) 0 n ?_ ?_ _ _ _ rfl (by omega) (by omega) ⟨by simp,by simp,by simp,by simp,bB⟩
 ·rintro j ⟨id,m,L,A⟩ bW h1 D ⟨⟨nD,p6⟩,qW,p7,vR,Kh⟩ hb;simp only at nD p6 qW p7 vR;refine Ok.bf (Dm Kh (by simp) (by simp)) λq bR=>?_;obtain⟨bR,Ce⟩:=bR;have V:1≤q.1∧q.1≤5:=by
   simp only[List.mem_cons,List.not_mem_nil,or_false]at bR;omega
  rw[hW (by omega) (by omega)];refine Ok.bf (G3 (by simp;omega)) λm2 au=>hb _ ⟨⟨by simp only;omega,by simp only;omega⟩,?_,?_,?_,Ce⟩
  ·have:=au.2;simp at this ⊢;omega
  ·simp only[au.1];refine List.pairwise_append.2 ⟨p7,by simp,λa aC b fG=>?_⟩;simp at fG;subst fG
   have:=(vR a aC).1;simp only;omega
  ·simp only[au.1];intro r ax;rcases List.mem_append.1 ax with ax|ax
   ·have:=vR r ax;exact⟨⟨this.1.1,by have:=this.1.2;omega⟩,this.2⟩
   ·simp at ax;subst ax;exact⟨⟨by simp only;omega,by simp only;omega⟩,rfl⟩
 rintro j ⟨id,R,L,A⟩ h1 D ⟨⟨nD,p6⟩,qW,p7,vR,Kh⟩;have aM:j=n:=D (by omega);subst aM;simp only at nD p6 qW p7 vR;have mV:R.length=j.toNat:=by omega
 refine Ok.ij (by simp;omega) (Ok.ij (by simp;omega) ?_);refine Ok.mK (λi (M:List (List Bool))=>M.length=j.toNat∧∀(k:Nat),(k:Int)<i→M[k]?=some (List.replicate j.toNat false)) 0 j ?_ ?_ _ _ _ (by simp;omega) (by omega) (by omega) ⟨by simp,λk hk=>by omega⟩
 ·rintro i M bW an au ⟨aA,e2⟩ hb;refine Ok.ij (by simp;omega) (Ok.bf (q4 an (by omega)) λ_ _=>hb _ ⟨by simpa using aA,λk hk=>?_⟩);rw[List.getElem?_set];by_cases o9:i.toNat=k
  ·rw[if_pos o9,if_pos (by omega)]
  ·rw[if_neg o9];exact e2 k (by omega)
 rintro i M an au ⟨aA,e2⟩;have hi:i=j:=au (by omega);subst hi;have mU:rK i.toNat M:=by
  have me:∀(a:Nat) r,M[a]?=some r→r=List.replicate i.toNat false:=λa r ax=>by
   have bQ:a<M.length:=(List.getElem?_eq_some_iff.1 ax).1;rw[e2 a (by omega)]at ax;exact(Option.some.inj ax).symm
  refine⟨aA,λr ax=>?_,λa b r ax V=>?_⟩
  ·obtain⟨a,aC⟩:=List.getElem?_of_mem ax;rw[me a r aC];simp
  ·rw[me a r ax]at V;have:=List.mem_of_getElem? V;simp at this
 clear aA e2;refine Ok.ij (by simp;omega) ?_;refine Ok.mK (λk (av:List Int×Int×List (List Bool))=>jA (dX.mk av.1 av.2.1)∧rK i.toNat av.2.2) 1 i ?_ ?_ _ _ _ rfl (by omega) (by omega) ⟨Kh,mU⟩
 ·rintro k ⟨Vh,U0,M4⟩ bW gK dN ⟨aA,e2⟩ hb;refine Ok.jn (λav:List (List Bool)×List Int×Int=>jA (dX.mk av.2.1 av.2.2)∧rK i.toNat av.1) (λs W=>hb _ W) λJ lz=>?_;refine Ok.bf (rR aA (by omega)) λv af=>Ok.cs (λ_=>?_) λ_=>lz _ ⟨af.2,e2⟩;refine Ok.bf (rR af.2 (by omega)) λay hu=>?_;exact Nh e2 (λ_ l=>J (List.set M4 ay.1.toNat l,ay.2.L,ay.2.At)) hu.1.1 (hu.1.2.1 (by omega)) (by omega) λr hl jR=>lz _ ⟨hu.2,jR⟩
 rintro k ⟨Vh,U0,M4⟩ gK dN ⟨aA,e2⟩;refine Ok.bf (rR aA (OX _).1) λv af=>?_;rw[hW (n:=i+2) (by omega) (by omega)]at af;have Kc:=af.1.2.1 (by omega);refine Ok.kW (λav:Int×List Int×Int×List (List Bool)=>(0≤av.1∧av.1≤11)∧jA (dX.mk av.2.1 av.2.2.1)∧rK i.toNat av.2.2.2) (λav=>av.1.toNat) ⟨⟨af.1.1,by simp only;omega⟩,af.2,e2⟩ (by simp only;omega) ?_;rintro⟨c,aml,al5,M5⟩ bW ⟨⟨kI,bk⟩,b6,cQ⟩ hb;simp only at kI bk;refine Ok.cs (λaa=>?_) λaa=>?_
 ·have aa:0<c:=by simpa using aa
  refine Ok.jn (λav:List (List Bool)×List Int×Int=>jA (dX.mk av.2.1 av.2.2)∧rK i.toNat av.1) (λs W=>?_) λJ lz=>?_
  ·rw[hW (n:=c-1) (by omega) (by omega)];exact hb _ ⟨⟨by simp only;omega,by simp only;omega⟩,W.1,W.2⟩ (by simp only;omega)
  ·refine Ok.bf (rR b6 (by omega)) λa aC=>Ok.bf (rR aC.2 (by omega)) λb V=>?_;have xJ:=aC.1.2.1 (by omega);have fZ:=V.1.2.1 (by omega);have RX:=aC.1.1;have zj:=V.1.1
   refine Ok.cs (λct=>?_) λ_=>lz _ ⟨V.2,cQ⟩;have ct:a.1≠b.1:=by simpa using ct
   refine Nh cQ (λ_ l=>J (List.set M5 _ l,b.2.L,b.2.At)) (by split<;>omega) (by split<;>split<;>omega) (by split<;>omega) λr hl jR=>lz _ ⟨V.2,jR⟩
 clear hb e2 mU af Kc aA;refine Ok.bf (rR b6 (by omega)) λw aq=>?_;have RT:M5.length=i.toNat:=cQ.len;refine Ok.ij (by simp;omega) ?_;refine Ok.mK (λa (av:List c8×List Int×Int)=>oq R av.1 a.toNat 0∧jA (dX.mk av.2.1 av.2.2)) 0 i ?_ ?_ _ _ _ (by rw[RT];omega) (by omega) (by omega) ⟨⟨by simp,by simp,by simp,by simp⟩,aq.2⟩
 ·rintro a ⟨ls,Vi,U1⟩ bW a0 jj ⟨fo,jX⟩ hb;refine Ok.ij (by simp;omega) ?_;refine Ok.mK (λb (av:List c8×List Int×Int)=>oq R av.1 a.toNat b.toNat∧jA (dX.mk av.2.1 av.2.2)) 0 i ?_ ?_ _ _ _ (by rw[RT];omega) (by omega) (by omega) ⟨fo,jX⟩
  ·rintro b ⟨ls,M3,MV⟩ jM tW dJ ⟨kK,vl⟩ EM;have kK:oq R ls a.toNat b.toNat:=kK;have vl:jA (dX.mk M3 MV):=vl;have J8:oq R ls a.toNat (b+1).toNat:=by rw[show(b+1).toNat=b.toNat+1 by omega];exact kK.skip
   refine Ok.jn (λav:List Int×Int×List c8=>jA (dX.mk av.1 av.2.1)∧oq R av.2.2 a.toNat (b+1).toNat) (λs W=>EM _ ⟨W.2,W.1⟩) λsO vw=>?_;refine Ok.bf (OZ cQ a0 (by omega)) λrow h0=>Ok.bf (q4 tW (by rw[h0.2];omega)) λc aa=>?_;cases c with
   |false=>exact vw _ ⟨vl,J8⟩
   |true=>
    have iN:a.toNat<b.toNat:=cQ.up _ _ _ h0.1 aa.2;simp only[Bool.not_true,cond_false];refine Ok.bf (q4 a0 (by omega)) λx u=>Ok.bf (q4 tW (by omega)) λy ah=>Ok.bf (Dm vl (by simp) (by simp)) λnr JM=>?_;have mF:0≤nr.1∧nr.1≤1000:=by
     have:=JM.1;simp only[List.mem_cons,List.not_mem_nil,or_false]at this;omega
    have eF:ls.length≤36+9:=by
     have:=kK.len;have:=OY R.length (by omega) a.toNat (by omega);omega
    refine Ok.jn (λav:List Int×Int×Int×Int=>jA (dX.mk av.1 av.2.1)∧(1≤av.2.2.1∧av.2.2.1≤1000)∧1≤av.2.2.2∧av.2.2.2≤1000) (λs W=>?_) λA6 EJ=>?_
    ·obtain⟨amm,al6,ca,amW⟩:=s;obtain⟨dF,dO,s3⟩:=W;simp only at dO s3;refine Ok.bf (G3 (by simp;omega)) λaod au=>vw _ ⟨dF,?_⟩;rw[au.1,show(b+1).toNat=b.toNat+1 by omega];refine kK.add p7 iN u.2 ah.2 rfl rfl ?_;simp only[sF,DB];simp;omega
    ·refine Ok.cs (λ_=>?_) λ_=>EJ _ ⟨JM.2,by simp only;omega,by simp only;omega⟩;refine Ok.bf (MD JM.2) λhr oE=>Ok.bf (Dm oE.2 (by simp) (by simp)) λbU p4=>Ok.bf (MD p4.2) λhl jR=>Ok.bf (Dm jR.2 (by simp) (by simp)) λcG n2=>EJ _ ⟨n2.2,?_,?_⟩
     ·have h1:=oE.1 (by omega) (by omega) (by omega);have D:=p4.1
      simp only[List.mem_cons,List.not_mem_nil,or_false]at D ⊢;omega
     ·have h1:=oE.1 (by omega) (by omega) (by omega);have D:=p4.1;have ak:=jR.1 (by omega) (by omega) (by omega);have bc:=n2.1
      simp only[List.mem_cons,List.not_mem_nil,or_false]at D bc ⊢;omega
  ·rintro b ⟨ls,M3,MV⟩ tW dJ ⟨kK,vl⟩;have V:b=i:=dJ (by omega);subst V;refine hb _ ⟨?_,vl⟩;rw[show(a+1).toNat=a.toNat+1 by omega];exact kK.next (by omega)
 ·rintro a ⟨ls,Vi,U1⟩ a0 jj ⟨fo,jX⟩;have aC:a=i:=jj (by omega);subst aC;have fo:oq R ls a.toNat 0:=fo;have eF:ls.length≤36:=by
   have:=fo.len;have:=OY R.length (by omega) a.toNat (by omega);omega
  refine Ok.s ⟨⟨⟨?_,?_,λr ax=>?_,p7,fo.ok,λl aJ=>?_,λl aJ=>?_,fo.mP⟩,⟨?_,?_⟩,λr ax=>(vR r ax).2,λr ax=>?_⟩,jX⟩
  ·show R.length≤24;omega
  ·show ls.length≤60;omega
  ·have:=(vR r ax).1;omega
  ·obtain⟨i,j,x,y,an,au,aK,aG,bb,_⟩:=fo.at_ l aJ;exact⟨C7.2 ⟨x,List.mem_of_getElem? au,aG.symm⟩,C7.2 ⟨y,List.mem_of_getElem? aK,bb.symm⟩⟩
  ·obtain⟨i,j,x,y,an,au,aK,aG,bb,_⟩:=fo.at_ l aJ;have:=It p7 au aK an;omega
  ·show 1≤R.length;omega
  ·show(R.length:Int)≤kU;omega
  ·have:=(vR r ax).1;omega
end
section
theorem T4{t:dX}{g:b0}{mN:Type}{Q:mN→Prop}{k:Int×dX→eC→Option mN}(h:jA t)(bl:1≤g.dU.length∧g.dU.length≤1000)(hk:∀p r,jA p.2→r∈g.dU→r.ff∈ids g→Ok (k p r) Q):
  Ok (bf (np t (g.dU.length:Int)) λp=>bf (dj g.dU p.1) λr=>k p r) Q:=
 Ok.bf (rR h (by omega)) λp aB=>Ok.bf (q4 aB.1.1 (aB.1.2.1 (by omega))) λr ax=>hk p r aB.2 ax.1 (List.mem_map.2 ⟨r,ax.1,rfl⟩)
theorem XN{t:dX}{g:b0}{n:Int}(h:jA t)(bl:g.dU.length≤1000)(aT:0≤n∧n≤1000):Ok (CR t g n) (λp=>(p.1.Pairwise (·<·)∧(∀x∈p.1,x∈ids g)∧(p.1.length:Int)≤n)∧jA p.2):=by
 unfold CR;rw[hW (by omega) (by omega)];refine Ok.bf (rR h (by omega)) λq bR=>?_;have vP:=bR.1.2.1 (by omega);refine Ok.kW (λav:List Int×Int×List Int×Int=>(av.1.Pairwise (·<·)∧(∀x∈av.1,x∈ids g)∧(av.1.length:Int)+av.2.1≤n∧0≤av.2.1)∧jA (dX.mk av.2.2.1 av.2.2.2)) (λav=>av.2.1.toNat) ⟨⟨by simp,by simp,by simp;omega,bR.1.1⟩,bR.2⟩ (by simp only;omega) ?_;rintro⟨out,i,L,A⟩ bW ⟨⟨h1,D,ak,bc⟩,bX⟩ hb;simp only at h1 D ak bc;refine Ok.cs (λaa=>?_) λaa=>Ok.s ⟨⟨h1,D,by simp only;omega⟩,bX⟩;simp only[Bool.and_eq_true,decide_eq_true_eq]at aa;refine T4 bX (by omega) λp r aB ax JR=>?_;rw[aer _ _ (by omega),ee,hW (by omega) (by omega)];have:=Nd out r.ff;refine hb _ ⟨⟨N3 h1,λx u=>?_,by simp only;omega,by simp only;omega⟩,aB⟩ (by simp only;omega);rcases Mj.1 u with rfl|u
 ·exact JR
 ·exact D x u
def rG:List bh→bh→List bh
 |[],x=>[x]
 |y::r,x=>if mw y x then y::rG r x else x::y::r
theorem zY:∀{l:List bh} {x y:bh},y∈rG l x↔y=x∨y∈l
 |[],x,y=>by simp[rG]
 |z::r,x,y=>by
  rw[rG];split
  ·rw[List.mem_cons,zY,List.mem_cons];constructor
   ·rintro(h|h|h)<;>simp[h]
   ·rintro(h|h|h)<;>simp[h]
  ·simp
theorem UY:∀(l:List bh) (x:bh),(rG l x).Perm (x::l)
 |[],x=>by simp[rG]
 |z::r,x=>by
  rw[rG];split
  ·exact((UY r x).cons z).trans (.swap x z r)
  ·exact .refl _
theorem WX{a b:bh}(h:mw a b=false)(ct:a≠b):mw b a=true:=by
 cases a;cases b
 simp[mw]at *;omega
theorem N8:∀{l:List bh} {x:bh},l.Pairwise (λa b=>mw a b=true)→x∉l→(rG l x).Pairwise (λa b=>mw a b=true)
 |[],x,_,_=>by simp[rG]
 |z::r,x,h,u=>by
  rw[rG];rw[List.pairwise_cons]at h;simp only[List.mem_cons,not_or]at u;split
  ·rename_i hz;rw[List.pairwise_cons];refine⟨λy ah=>?_,N8 h.2 u.2⟩;rcases zY.1 ah with rfl|ah
   ·exact hz
   ·exact h.1 y ah
  ·rename_i hz;have SJ:mw x z=true:=WX (by simpa using hz) (Ne.symm u.1);rw[List.pairwise_cons,List.pairwise_cons];refine⟨λy ah=>?_,h⟩;rcases List.mem_cons.1 ah with rfl|ah
   ·exact SJ
   ·exact UX _ _ _ SJ (h.1 y ah)
theorem mA.mono{root:Int}{L va:List bh}(h:∀x∈L,x∈va){y:Int}(ax:mA root L y):mA root va y:=by
 induction ax with
 |root=>exact .root
 |step x u _ bD=>exact .step x (h x u) bD
theorem qC.reach{t:c0}(h:qC t){x:Int}(u:x=t.er∨∃h∈t.Links,h.aQ=x):mA t.er t.Links x:=by
 rcases u with rfl|⟨y,ah,rfl⟩
 ·exact .root
 ·exact .step y ah (h.Ak y ah)
theorem qC.add{t:c0}(h:qC t){x:bh}(ax:(1≤x.bg∧x.bg≤99)∧1≤x.aQ∧x.aQ≤99)(be:x.bg=t.er∨∃h∈t.Links,h.aQ=x.bg)(bB:¬(x.aQ=t.er∨∃h∈t.Links,h.aQ=x.aQ)):qC (c0.mk t.er (rG t.Links x)):=by
 rw[not_or]at bB;have u:x∉t.Links:=λhm=>bB.2 ⟨x,hm,rfl⟩;have jq:∀y∈t.Links,y∈rG t.Links x:=λy ah=>zY.2 (.inr ah);refine⟨h.rt,λy ah=>?_,N8 h.mP u,?_,λy ah=>?_,λy ah=>?_⟩
 ·rcases zY.1 ah with rfl|ah
  ·exact ax
  ·exact h.K8 y ah
 ·refine((UY t.Links x).pairwise_iff (λ{a b} (iN:a.aQ≠b.aQ)=>Ne.symm iN)).2 ?_;rw[List.pairwise_cons];exact⟨λy ah e=>bB.2 ⟨y,ah,e.symm⟩,h.dup⟩
 ·rcases zY.1 ah with rfl|ah
  ·exact bB.1
  ·exact h.KM y ah
 ·rcases zY.1 ah with rfl|ah
  ·exact(h.reach be).mono jq
  ·exact(h.Ak y ah).mono jq
end
end Go.Proofs.YtmnbolcmepihlaaGreat
