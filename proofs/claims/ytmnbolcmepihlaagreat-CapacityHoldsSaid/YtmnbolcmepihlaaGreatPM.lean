/- Several texts in one. No condition but those that stand in each. -/
import Derived.Test.YtmnbolcmepihlaaGreatDA
namespace Go.Proofs.YtmnbolcmepihlaaGreat
set_option linter.all false
open Go
section
variable {α β:Type}
theorem ee(a:α)(k:α→Option β):bf (some a) k=k a:=rfl
theorem tr{p:Prop}[Decidable p]{x y:α}:(bif decide p then x else y)=if p then x else y:=by
 by_cases h:p<;>simp[h]
theorem Mw{α σ β:Type}{B:Int→α→(σ→Option β)→σ→Option β}{K:σ→Option β}(f:List α→σ→Option β)(aT:∀s,K s=f [] s)
  (aa:∀(j:Int) x r s bW,(∀dg,bW dg=f r dg)→B j x bW s=f (x::r) s):∀(l:List α) (j:Nat) (s:σ),ez l j B K s=f l s
 |[],_,s=>aT s
 |x::r,j,s=>aa j x r s _ λdg=>Mw f aT aa r (j+1) dg
theorem Nw{α σ β:Type}{B:Int→α→(σ→Option β)→σ→Option β}{K:σ→Option β}{L:List α}(f:List α→List α→σ→Option β)(aT:∀s,K s=f L [] s)
  (aa:∀p x r s bW,p++x::r=L→(∀dg,bW dg=f (p++[x]) r dg)→B (p.length:Int) x bW s=f p (x::r) s):∀(l p:List α) (s:σ),p++l=L→ez l p.length B K s=f p l s
 |[],p,s,h=>by rw[List.append_nil]at h;subst h;exact aT s
 |x::r,p,s,h=>aa p x r s _ h λdg=>by
   have:=Nw (B:=B) (K:=K) f aT aa r (p++[x]) dg (by simpa using h);rw[List.length_append]at this;exact this
def Ok{β:Type}(o:Option β)(Q:β→Prop):Prop:=∃r,o=some r∧Q r
variable {Q:β→Prop}
theorem Ok.s{r:β}(h:Q r):Ok (some r) Q:=⟨r,rfl,h⟩
theorem Ok.bf{α β:Type}{o:Option α}{k:α→Option β}{P:α→Prop}{Q:β→Prop}(h:Ok o P)(hk:∀a,P a→Ok (k a) Q):Ok (bf o k) Q:=by
 obtain⟨a,rfl,aC⟩:=h;exact hk a aC
theorem Ok.cs{c:Bool}{x y:Option β}(h1:c=true→Ok x Q)(D:c=false→Ok y Q):Ok (bif c then x else y) Q:=by
 cases c
 ·exact D rfl
 ·exact h1 rfl
theorem Ok.ij{β:Type}{c:Bool}{k:Option β}{Q:β→Prop}(h:c=true)(hk:Ok k Q):Ok (ij c k) Q:=by subst h;exact hk
theorem Ok.jn{σ β:Type}{k:σ→Option β}{t:(σ→Option β)→Option β}{Q:β→Prop}(R:σ→Prop)(h1:∀s,R s→Ok (k s) Q)(D:∀J,(∀s,R s→Ok (J s) Q)→Ok (t J) Q):Ok (jn k t) Q:=D k h1
variable {o:Option β}
theorem Ok.mono{A9:β→Prop}(h:Ok o Q)(bR:∀r,Q r→A9 r):Ok o A9:=by
 obtain⟨r,h1,D⟩:=h;exact⟨r,h1,bR r D⟩
theorem Ok.ez{α σ β:Type}{B:Int→α→(σ→Option β)→σ→Option β}{K:σ→Option β}{Q:β→Prop}(I:Nat→σ→Prop)
  (aa:∀(j:Nat) x s bW,I j s→(∀dg,I (j+1) dg→Ok (bW dg) Q)→Ok (B (j:Int) x bW s) Q):∀(l:List α) (j:Nat) (s:σ),I j s→(∀s,I (j+l.length) s→Ok (K s) Q)→Ok (ez l j B K s) Q
 |[],j,s,h,aT=>aT s (by simpa using h)
 |x::r,j,s,h,aT=>aa j x s _ h λdg dc=>Ok.ez I aa r (j+1) dg dc λs W=>aT s (by rwa [List.length_cons,←Nat.add_assoc,Nat.add_right_comm])
variable {σ:Type}{B:Int→α→(σ→Option β)→σ→Option β}{K:σ→Option β}
theorem Ok.forM(I:Nat→σ→Prop){L:List α}
  (aa:∀(j:Nat) x s bW,j<L.length→x∈L→I j s→(∀dg,I (j+1) dg→Ok (bW dg) Q)→Ok (B (j:Int) x bW s) Q) (s:σ) (h:I 0 s) (aT:∀s,I L.length s→Ok (K s) Q):Ok (Go.Proofs.YtmnbolcmepihlaaGreat.ez L 0 B K s) Q:=by
 have key:∀(l:List α) (j:Nat) (s:σ),(∀x∈l,x∈L)→j+l.length=L.length→I j s→Ok (Go.Proofs.YtmnbolcmepihlaaGreat.ez l j B K s) Q:=by
  intro l;induction l with
  |nil=>intro j s _ aM h;exact aT s (by simpa [←aM]using h)
  |cons x r bD=>
   intro j s hm aM h;simp only[List.length_cons]at aM;exact aa j x s _ (by omega) (hm x (by simp)) h λdg dc=>bD (j+1) dg (λy ah=>hm y (by simp[ah])) (by omega) dc
 exact key L 0 s (λ_ h=>h) (by simp) h
theorem Ok.mK{σ β:Type}{B:Int→(σ→Option β)→σ→Option β}{K:Int→σ→Option β}{Q:β→Prop}(I:Int→σ→Prop)(lo hi:Int)
  (aa:∀(i:Int) s bW,lo≤i→i<hi→I i s→(∀dg,I (i+1) dg→Ok (bW dg) Q)→Ok (B i bW s) Q) (aT:∀i s,lo≤i→(lo≤hi→i=hi)→I i s→Ok (K i s) Q):∀(n:Nat) (i:Int) (s:σ),n=(hi-i).toNat→lo≤i→(lo≤hi→i≤hi)→I i s→Ok (mK n i B K s) Q
 |0,i,s,Sl,h1,D,h=>aT i s h1 (λcb=>by have:=D cb;omega) h
 |n+1,i,s,Sl,h1,D,h=>aa i s _ h1 (by omega) h λdg dc=>Ok.mK I lo hi aa aT n (i+1) dg (by omega) (by omega) (λ_=>by omega) dc
theorem Ok.iter{σ β:Type}{F:(σ→Option β)→σ→Option β}{Q:β→Prop}(I:σ→Prop)(μ:σ→Nat)
  (aa:∀s bW,I s→(∀dg,I dg→μ dg<μ s→Ok (bW dg) Q)→Ok (F bW s) Q):∀(n:Nat) (s:σ),I s→μ s<n→Ok (iter F n s) Q
 |0,s,_,h=>by omega
 |n+1,s,h,hm=>aa s _ h λdg dc k1=>Ok.iter I μ aa n dg dc (by omega)
theorem Ok.kW{σ β:Type}{F:(σ→Option β)→σ→Option β}{Q:β→Prop}(I:σ→Prop)(μ:σ→Nat){s:σ}(h:I s)(hm:μ s<1099511627776)
  (aa:∀s bW,I s→(∀dg,I dg→μ dg<μ s→Ok (bW dg) Q)→Ok (F bW s) Q):Ok (kW F s) Q:=Ok.iter I μ aa fuel s h hm
theorem Ok.get(h:Ok o Q):∃r,o=some r∧Q r:=h
theorem Ok.eq{r:β}(h:Ok o (λx=>x=r)):o=some r:=by obtain⟨x,h1,rfl⟩:=h;exact h1
theorem OR(p:List α)(x:α)(r:List α):dj (p++x::r) (p.length:Int)=some x:=by
 unfold dj;rw[if_pos (by omega)];simp
variable {i:Int}{l:List α}
theorem q4(bJ:0≤i)(h:i<l.length):Ok (dj l i) (λx=>x∈l∧l[i.toNat]?=some x):=by
 unfold dj;rw[if_pos bJ]
 have:i.toNat<l.length:=by omega
 exact⟨l[i.toNat],List.getElem?_eq_getElem this,List.getElem_mem this,List.getElem?_eq_getElem this⟩
variable {r:List α}
theorem yf(h:l.length+r.length≤549755813888):j7 l r=some (l++r):=by unfold j7;rw[if_pos (by unfold aF;exact h)]
theorem G3(h:l.length+r.length≤549755813888):Ok (j7 l r) (λm=>m=l++r∧m.length=l.length+r.length):=⟨_,yf h,rfl,by simp⟩
theorem HK{x:α}(bJ:0≤i)(h:i<l.length):Ok (rB l i x) (λm=>m=l.set i.toNat x∧m.length=l.length):=by
 unfold rB;rw[if_pos ⟨bJ,h⟩];exact⟨_,rfl,rfl,by simp⟩
theorem G4{a b:Int}(h:0≤a∧a≤b∧b≤l.length):Ok (qo l a b) (λm=>m=(l.take b.toNat).drop a.toNat∧(m.length:Int)=b-a):=by
 unfold qo;rw[if_pos h];exact⟨_,rfl,rfl,by simp;omega⟩
theorem ya(p:α→Bool)(a:Option β)(fv:∀j x bW s,B j x bW s=bif p x then a else bW s)(l:List α)(j:Nat)(s:σ):ez l j B K s=bif l.any p then a else K s:=
 Mw (f:=λl s=>bif l.any p then a else K s) (λs=>rfl) (λj x r s bW hb=>by
  rw[fv,hb,List.any_cons];cases p x<;>rfl) l j s
end
section
def DB(n:Int):Bool:=decide (1≤n)&&decide (n≤1000)
def lW(t:b0)(r:Int):Bool:=t.dU.any λx=>decide (x.ff=r)
def AQ(r:eC):Bool:=decide (r.ff<1)||decide (99<r.ff)
def sF(l:c8):Bool:=!DB l.qi||!DB l.qj||decide (l.kY<0)||decide (1000<l.kY)
def mM(a b:c8):Bool:=decide (a.A<b.A)||(decide (a.A=b.A)&&decide (a.B<b.B))
def l1{α:Type}(p:α→α→Bool):List α→Bool
 |a::b::r=>p a b&&l1 p (b::r)
 |_=>true
def Fj(t:b0):Bool:=t.dU.any AQ
def uo(t:b0):Bool:=l1 (λa b=>decide (a.ff<b.ff)) t.dU
def Fk(t:b0):Bool:=t.Links.any sF
def Fl(t:b0):Bool:=t.Links.any λl=>!lW t l.A||!lW t l.B
def Fm(t:b0):Bool:=t.Links.any λl=>decide (l.B≤l.A)
def Fo(t:b0):Bool:=l1 mM t.Links
def sG(t:b0):Int:=
 bif decide (24<(t.dU.length:Int))||decide (60<(t.Links.length:Int))then 3
 else bif Fj t then 2 else bif uo t then(bif Fk t then 2 else bif Fl t then 4 else bif Fm t then 8 else bif Fo t then 0 else 25)else 25
theorem Mh{α σ β:Type}{B:Int→α→(σ→Option β)→σ→Option β}{K:σ→Option β}{L:List α}(p:α→α→Bool)(a:Option β)
  (fv:∀(j:Nat) x y r q s bW,L=q++y::x::r→j=q.length+1→B (j:Int) x bW s=bif p y x then bW s else a):∀(r q:List α) (y:α) (s:σ),L=q++y::r→ez r (q.length+1) B K s=bif l1 p (y::r)then K s else a
 |[],q,y,s,h=>rfl
 |x::r,q,y,s,h=>by
  simp only[ez];rw[fv (q.length+1) x y r q s _ h rfl];have:=Mh (B:=B) (K:=K) p a fv r (q++[y]) x s (by simpa using h);simp only[List.length_append,List.length_cons,List.length_nil]at this;rw[this];simp only[l1];cases p y x<;>rfl
variable {α β σ:Type}{L:List α}{B:Int→α→(σ→Option β)→σ→Option β}{K:σ→Option β}
theorem LK(p:α→α→Bool)(a:Option β)
  (fv:∀(j:Nat) x y r q s bW,L=q++y::x::r→j=q.length+1→B (j:Int) x bW s=bif p y x then bW s else a) (s:σ):ez (L.drop 1) 1 B K s=bif l1 p L then K s else a:=by
 cases L with
 |nil=>rfl
 |cons y r=>exact Mh (B:=B) (K:=K) p a fv r [] y s rfl
theorem UT(p:α→α→Bool)(a:Option β)(bJ:∀x bW s,B ((0:Nat):Int) x bW s=bW s)
  (fv:∀(j:Nat) x y r q s bW,L=q++y::x::r→j=q.length+1→B (j:Int) x bW s=bif p y x then bW s else a) (s:σ):ez L 0 B K s=bif l1 p L then K s else a:=by
 cases L with
 |nil=>rfl
 |cons y r=>
  simp only[ez];rw[bJ];exact Mh (B:=B) (K:=K) p a fv r [] y s rfl
variable {j:Nat}
theorem C6{y x:α}{r q:List α}(h:L=q++y::x::r)(aM:j=q.length+1)(iZ:(L.length:Int)≤9223372036854775807):dj L (bK ((j:Int)-1))=some y:=by
 have aJ:q.length+2≤L.length:=by rw[h];simp
 rw[hW (by omega) (by omega),show(j:Int)-1=(q.length:Int)by omega,h,OR]
theorem GG{α σ:Type}{B:Int→α→(σ→Option Int)→σ→Option Int}{K:σ→Option Int}(p:α→Bool)(fv:∀j x bW s,B j x bW s=bif p x then some j else bW s)(fz:∀s,K s=some (-1)):∀(l:List α) (j:Nat) (s:σ),∃r,ez l j B K s=some r∧decide (0≤r)=l.any p
 |[],j,s=>⟨-1,fz s,rfl⟩
 |x::r,j,s=>by
  simp only[ez,fv,List.any_cons];cases p x
  ·simpa using GG p fv fz r (j+1) s
  ·exact⟨j,rfl,by simp⟩
theorem ae9(l:List eC)(f:eC→Option Bool)(p:eC→Bool)(be:∀x,f x=some (p x)):BA l f=some (l.any p):=by
 unfold BA Et;obtain⟨r,h1,D⟩:=GG (B:=λ(bp:Int) (aA:eC) (dh:Unit→Option Int) (av:Unit)=>match av with|()=>bf (f aA) λ(a8:Bool)=>bif a8 then some (bp:Int)else dh ()) (K:=λ(av:Unit)=>match av with|()=>some (-1:Int)) p (λj x bW s=>by simp only[be,ee]) (λ_=>rfl) l 0 ();simp only[h1,ee,D]
theorem Ji(l:List c8)(f:c8→Option Bool)(p:c8→Bool)(be:∀x,f x=some (p x)):xq l f=some (l.any p):=by
 unfold xq Ev;obtain⟨r,h1,D⟩:=GG (B:=λ(bp:Int) (aA:c8) (dh:Unit→Option Int) (av:Unit)=>match av with|()=>bf (f aA) λ(a8:Bool)=>bif a8 then some (bp:Int)else dh ()) (K:=λ(av:Unit)=>match av with|()=>some (-1:Int)) p (λj x bW s=>by simp only[be,ee]) (λ_=>rfl) l 0 ();simp only[h1,ee,D]
def hs(x y:Int):Int:=if x<y then -1 else if y<x then 1 else 0
theorem Mx(x y:Int):nt x y=some (hs x y):=by
 unfold nt uc hs;simp only[ee,decide_true,Bool.not_true,cond_false,tr];split<;>(try split)<;>rfl
variable {x:Int}
theorem GM{y:Int}:hs x y<0↔x<y:=by unfold hs;split<;>(try split)<;>omega
theorem p9{y:Int}:hs x y=0↔x=y:=by unfold hs;split<;>(try split)<;>omega
def pI:List Int→Int
 |[]=>0
 |x::r=>if x=0 then pI r else x
theorem OS(l:List Int):qL l=some (pI l):=by
 unfold qL;refine(Mw (f:=λl _=>some (pI l)) ?_ ?_ _ _ _)
 ·intros;rfl
 ·intro j x r s bW hb;simp only[pI,hb];by_cases h:x=0<;>simp[h]
def lG(a b:c8):Int:=pI [hs a.A b.A,hs a.B b.B]
theorem T3(a b:c8):y5 a b=some (lG a b):=by
 unfold y5;simp only[Mx,ee,OS];rfl
theorem Nx(r:eC)(id:Int):zf r id=some (hs r.ff id):=by
 unfold zf;simp only[Mx,ee]
variable {a b:c8}
theorem GN:lG a b<0↔mM a b=true:=by
 have:lG a b<0↔a.A<b.A∨(a.A=b.A∧a.B<b.B):=by
  simp only[lG,pI];split
  ·rename_i h;rw[p9]at h;split
   ·rename_i D;rw[p9]at D;omega
   ·rw[GM];omega
  ·rename_i h;rw[p9]at h;rw[GM];omega
 rw[this];simp[mM]
theorem GO:lG a b=0↔a.A=b.A∧a.B=b.B:=by
 simp only[lG,pI];split
 ·rename_i h;rw[p9]at h;split
  ·rename_i D;rw[p9]at D;omega
  ·rename_i D;rw[p9]at D ⊢;omega
 ·rename_i h;rw[p9]at h ⊢;omega
def ou{α:Type}[Inhabited α](f:α→Int)(l:List α)(i j:Nat):Nat:=
 if h:i<j then if f (el l ((i+j) / 2:Nat))<0 then ou f l ((i+j) / 2+1) j else ou f l i ((i+j) / 2)else i
 termination_by j-i
 decreasing_by all_goals omega
def lM{α:Type}[Inhabited α](f:α→Int)(l:List α):Nat:=ou f l 0 l.length
def o3{α:Type}[Inhabited α](f:α→Int)(l:List α):Bool:=decide (lM f l<l.length)&&decide (f (el l (lM f l))=0)
variable {f:α→Int}{i:Nat}{l:List α}
theorem OT[Inhabited α](h:i<j)(be:f (el l ((i+j) / 2:Nat))<0):ou f l i j=ou f l ((i+j) / 2+1) j:=by
 rw[ou,dif_pos h,if_pos be]
theorem OU[Inhabited α](h:i<j)(be:¬f (el l ((i+j) / 2:Nat))<0):ou f l i j=ou f l i ((i+j) / 2):=by
 rw[ou,dif_pos h,if_neg be]
theorem My[Inhabited α](h:j≤i):ou f l i j=i:=by
 rw[ou,dif_neg (by omega)]
theorem Dr[Inhabited α](h:i<l.length):el l i=l[i]:=by
 simp[el,List.getD_eq_getElem?_getD,h]
theorem OV[Inhabited α](h:i<l.length):el l i∈l:=by
 rw[Dr h];exact List.getElem_mem h
theorem wz[Inhabited α](h:i<l.length):dj l (i:Int)=some (el l i):=by
 unfold dj;rw[if_pos (by omega),Dr h];simp[h]
theorem Mz(h:i+j≤4611686018427387904):bK (Int.fdiv (IntKind.wrap .u64 (bK ((i:Int)+(j:Int)))) (2 ^ min (1:Int).toNat 64))=(((i+j) / 2:Nat):Int):=by
 have aA:bK ((i:Int)+(j:Int))=((i+j:Nat):Int):=by rw[hW (by omega) (by omega)];simp
 have e2:IntKind.wrap .u64 ((i+j:Nat):Int)=((i+j:Nat):Int):=Yg (by omega) (by omega);rw[aA,e2];have b6:(2:Int) ^ min (1:Int).toNat 64=2:=rfl;rw[b6,Int.fdiv_eq_ediv_of_nonneg _ (by omega)];rw[hW (by omega) (by omega)];simp
theorem MA[Inhabited α]{F:((Int×Int)→Option (Int×Bool))→(Int×Int)→Option (Int×Bool)}(l:List α)(f:α→Int)(aJ:l.length≤1000000)
  (ny:∀(i j:Nat) bW,j≤l.length→F bW ((i:Int),(j:Int))=if h:i<j then(if f (el l ((i+j) / 2:Nat))<0 then bW ((((i+j) / 2+1:Nat):Int),(j:Int))else bW ((i:Int),(((i+j) / 2:Nat):Int)))else some ((i:Int),decide (i<l.length)&&decide (f (el l i)=0))) :
  kW F ((0:Int),(l.length:Int))=some ((lM f l:Int),o3 f l):=by
 refine Ok.eq (Ok.kW (I:=λs=>∃i j:Nat,s=((i:Int),(j:Int))∧i≤j∧j≤l.length∧ou f l i j=lM f l) (μ:=λs=>(s.2-s.1).toNat) ⟨0,l.length,rfl,by omega,by omega,rfl⟩ ?_ ?_)
 ·show((l.length:Int)-0).toNat<_;omega
 ·rintro s bW ⟨i,j,rfl,h1,D,ak⟩ hz;rw[ny i j bW D];split
  ·rename_i g2;split
   ·rename_i be;exact hz _ ⟨_,_,rfl,by omega,D,by rw[←ak,OT g2 be]⟩ (by show((j:Int)-_).toNat<((j:Int)-i).toNat;omega)
   ·rename_i be;exact hz _ ⟨_,_,rfl,by omega,by omega,by rw[←ak,OU g2 be]⟩ (by show((((i+j) / 2:Nat):Int)-i).toNat<((j:Int)-i).toNat;omega)
  ·rename_i g2;have:lM f l=i:=by rw[←ak,My (by omega)]
   exact⟨_,rfl,by simp only[o3,this]⟩
theorem Q6(l:List eC)(x:Int)(c:eC→Int→Option Int)(f:eC→Int)(aJ:l.length≤1000000)(aa:∀r,c r x=some (f r)):yV l x c=some ((lM f l:Int),o3 f l):=by
 unfold yV;refine MA l f aJ λi j bW aM=>?_;by_cases g2:i<j
 ·rw[dif_pos g2];simp only[Mz (i:=i) (j:=j) (by omega),wz (show(i+j) / 2<l.length by omega),ee,aa,tr];rw[if_pos (by omega),hW (by omega) (by omega)];rfl
 ·rw[dif_neg g2];simp only[tr];rw[if_neg (by omega)];by_cases hi:i<l.length
  ·rw[if_pos (by omega),wz hi];simp only[ee,aa];simp[hi]
  ·rw[if_neg (by omega)];simp[hi]
theorem ae6(l:List c8)(x:c8)(c:c8→c8→Option Int)(f:c8→Int)(aJ:l.length≤1000000)(aa:∀r,c r x=some (f r)):BB l x c=some ((lM f l:Int),o3 f l):=by
 unfold BB;refine MA l f aJ λi j bW aM=>?_;by_cases g2:i<j
 ·rw[dif_pos g2];simp only[Mz (i:=i) (j:=j) (by omega),wz (show(i+j) / 2<l.length by omega),ee,aa,tr];rw[if_pos (by omega),hW (by omega) (by omega)];rfl
 ·rw[dif_neg g2];simp only[tr];rw[if_neg (by omega)];by_cases hi:i<l.length
  ·rw[if_pos (by omega),wz hi];simp only[ee,aa];simp[hi]
  ·rw[if_neg (by omega)];simp[hi]
theorem XG[Inhabited α](hm:∀a b:Nat,a≤b→b<l.length→f (el l a)≤f (el l b)):∀(n i j:Nat),j-i≤n→i≤j→j≤l.length→(∀m:Nat,m<i→f (el l m)<0)→(∀m:Nat,j≤m→m<l.length→0≤f (el l m))→
  ou f l i j≤l.length∧(∀m:Nat,m<ou f l i j→f (el l m)<0)∧(∀m:Nat,ou f l i j≤m→m<l.length→0≤f (el l m)):=by
 intro n;induction n with
 |zero=>
  intro i j aT g2 aM h1 D;rw[My (by omega)];exact⟨by omega,h1,λm k1=>D m (by omega)⟩
 |succ n bD=>
  intro i j aT g2 aM h1 D;by_cases h:i<j
  ·by_cases be:f (el l ((i+j) / 2:Nat))<0
   ·rw[OT h be];refine bD _ _ (by omega) (by omega) aM (λm k1=>?_) D;have:=hm m ((i+j) / 2) (by omega) (by omega);omega
   ·rw[OU h be];refine bD _ _ (by omega) (by omega) (by omega) h1 (λm k1 Sk=>?_);have:=hm ((i+j) / 2) m k1 Sk;omega
  ·rw[My (by omega)];exact⟨by omega,h1,λm k1=>D m (by omega)⟩
theorem XH[Inhabited α](hm:∀a b:Nat,a≤b→b<l.length→f (el l a)≤f (el l b)):
  lM f l≤l.length∧(∀m:Nat,m<lM f l→f (el l m)<0)∧(∀m:Nat,lM f l≤m→m<l.length→0≤f (el l m)):=
 XG hm l.length 0 l.length (by omega) (by omega) (by omega) (λm h=>by omega) (λm h1 D=>by omega)
theorem MB[Inhabited α](hm:∀a b:Nat,a≤b→b<l.length→f (el l a)≤f (el l b)):o3 f l=true↔∃x∈l,f x=0:=by
 obtain⟨h1,D,ak⟩:=XH hm;simp only[o3,Bool.and_eq_true,decide_eq_true_eq];constructor
 ·rintro⟨an,au⟩;exact⟨_,OV an,au⟩
 ·rintro⟨x,u,be⟩;obtain⟨m,r3,rfl⟩:=List.getElem_of_mem u;rw[←Dr r3]at be;have hle:lM f l≤m:=by
   by_cases q:m<lM f l
   ·have:=D m q;omega
   ·omega
  have bQ:lM f l<l.length:=by omega
  have:=ak _ (Nat.le_refl _) bQ;have:=hm _ _ hle r3;exact⟨bQ,by omega⟩
theorem KD[Inhabited α](h:l.Pairwise (λa b=>f a≤f b)):∀a b:Nat,a≤b→b<l.length→f (el l a)≤f (el l b):=by
 intro a b iN V;rcases Nat.lt_or_eq_of_le iN with iN|rfl
 ·have:=List.pairwise_iff_getElem.1 h a b (by omega) V iN
  rwa [Dr (by omega),Dr V]
 ·exact Int.le_refl _
theorem FJ{α:Type}{p:α→α→Bool}(bB:∀a b c,p a b=true→p b c=true→p a c=true):∀{l:List α},l1 p l=true→l.Pairwise (λa b=>p a b=true)
 |[],_=>List.Pairwise.nil
 |[x],_=>by simp
 |a::b::r,h=>by
  simp only[l1,Bool.and_eq_true]at h;have bD:=FJ bB h.2;rw[List.pairwise_cons];refine⟨λz hz=>?_,bD⟩;rcases List.mem_cons.1 hz with rfl|hz
  ·exact h.1
  ·exact bB _ _ _ h.1 ((List.pairwise_cons.1 bD).1 z hz)
theorem zI{α:Type}{p:α→α→Bool}:∀{l:List α},l.Pairwise (λa b=>p a b=true)→l1 p l=true
 |[],_=>rfl
 |[x],_=>rfl
 |a::b::r,h=>by
  rw[List.pairwise_cons]at h;simp only[l1,Bool.and_eq_true];exact⟨h.1 b (by simp),zI h.2⟩
variable {t:b0}
theorem OW(h:uo t=true):t.dU.Pairwise (λa b=>a.ff<b.ff):=by
 have:=FJ (p:=λa b:eC=>decide (a.ff<b.ff)) (λa b c h1 D=>by simp at h1 D ⊢;omega) h;exact this.imp (λh=>by simpa using h)
theorem Z7(h:uo t=true)(id:Int):∀a b:Nat,a≤b→b<t.dU.length→hs (el t.dU a).ff id≤hs (el t.dU b).ff id:=
 KD (f:=λr:eC=>hs r.ff id) ((OW h).imp (λ{a b} h=>by unfold hs;split<;>(try split)<;>(try split)<;>(try split)<;>omega))
def I6(t:b0)(id:Int):Bool:=!o3 (λr=>hs r.ff id) t.dU
theorem N0(h:uo t=true)(id:Int):I6 t id=!lW t id:=by
 simp only[I6,lW];congr 1;rw[Bool.eq_iff_iff,MB (Z7 h id)];simp[p9]
theorem LL(t:b0):xz t=some (sG t):=by
 unfold xz sG;by_cases eF:(decide (24<(t.dU.length:Int))||decide (60<(t.Links.length:Int)))=true
 ·rw[eF];rfl
 rw[Bool.not_eq_true]at eF;rw[eF];simp only[cond_false];simp only[Bool.or_eq_false_iff,decide_eq_false_iff_not]at eF;rw[ae9 t.dU _ AQ (λx=>by simp only[Fc,vu,ee,AQ];congr 1;rw[Bool.eq_iff_iff];simp)];simp only[ee];unfold Fj;cases t.dU.any AQ
 case true=>rfl
 simp only[cond_false];refine(UT (λa b:eC=>decide (a.ff<b.ff)) (some 25) ?_ ?_ _).trans ?_
 ·intros;rfl
 ·intro j x y r q s bW h aM;simp only[jn,C6 h aM (by omega),ee,tr];rw[if_pos (by omega)];split<;>split<;>first|rfl|omega
 cases fv:uo t
 case false=>unfold uo at fv;rw[fv];rfl
 have BU:=fv;unfold uo at BU;rw[BU];simp only[cond_true]
 rw[Ji t.Links BL sF (λx=>by
  simp only[BL,vu,ee,sF,DB];simp only[tr,Bool.not_and,Bool.cond_eq_ite,Bool.or_eq_true,Bool.not_eq_true',decide_eq_false_iff_not];split
  ·congr 1;symm;rw[Bool.eq_iff_iff];simp;omega
  ·split
   ·congr 1;symm;rw[Bool.eq_iff_iff];simp;omega
   ·congr 1;rw[Bool.eq_iff_iff];simp;omega)]
 simp only[ee];unfold Fk;cases t.Links.any sF
 case true=>rfl
 simp only[cond_false]
 have hu:∀id,y6 id t=some (!lW t id):=λid=>by
  unfold y6;rw[Q6 t.dU id _ (λr=>hs r.ff id) (by omega) (λr=>Nx r id)];simp only[ee];rw[←N0 fv];rfl
 rw[Ji t.Links _ (λl=>!lW t l.A||!lW t l.B) (λx=>by
  simp only[Fe,hu,ee];cases lW t x.A<;>rfl)]
 simp only[ee];unfold Fl;cases t.Links.any _
 case true=>rfl
 simp only[cond_false];rw[Ji t.Links Ff (λl=>decide (l.B≤l.A)) (λx=>rfl)];simp only[ee];unfold Fm;cases t.Links.any _
 case true=>rfl
 simp only[cond_false];refine(UT mM (some 25) ?_ ?_ _).trans ?_
 ·intros;rfl
 ·intro j x y r q s bW h aM;simp only[jn,C6 h aM (by omega),ee,T3,tr];rw[if_pos (by omega)];cases bQ:mM y x
  ·have:¬lG y x<0:=by rw[GN,bQ];simp
   rw[if_pos (by omega)];rfl
  ·have:=GN.2 bQ;rw[if_neg (by omega)];rfl
 unfold Fo;cases l1 mM t.Links<;>rfl
end
section
theorem Z8(l:List Int)(n:Int):BF l n=some (decide (n∈l)):=by
 unfold BF EF;obtain⟨r,h1,D⟩:=GG (B:=λ(bp:Int) (aA:Int) (dh:Unit→Option Int) (av:Unit)=>match av with|()=>bif decide (n=aA)then some (bp:Int)else dh ()) (K:=λ(av:Unit)=>match av with|()=>some (-1:Int)) (λx=>decide (n=x)) (λj x bW s=>rfl) (λ_=>rfl) l 0 ();simp only[h1,ee,D];congr 1;rw[Bool.eq_iff_iff];simp
theorem o4(a b:bh):c2 a b=true↔a=b:=by
 cases a;cases b;simp[c2]
theorem LM{α mN β:Type}{B:Int→α→(List mN→Option β)→List mN→Option β}{K:List mN→Option β}(p:α→Bool)(f:α→mN):
  ∀(l:List α) (j:Nat) (s:List mN),(∀(j:Nat) x bW s,x∈l→s.length<1000000→B j x bW s=bif p x then bW (s++[f x])else bW s)→l.length+s.length≤1000000→ez l j B K s=K (s++(l.filter p).map f)
 |[],j,s,_,_=>by simp[ez]
 |x::r,j,s,fv,h=>by
  simp only[List.length_cons]at h;simp only[ez];rw[fv j x _ s (by simp) (by omega)];have BU:∀(j:Nat) y bW s,y∈r→s.length<1000000→B j y bW s=bif p y then bW (s++[f y])else bW s:=λj y bW s ah=>fv j y bW s (by simp[ah])
  cases aB:p x
  ·rw[cond_false,LM p f r (j+1) s BU (by omega),List.filter_cons_of_neg (by simp[aB])]
  ·rw[cond_true,LM p f r (j+1) (s++[f x]) BU (by simp;omega),List.filter_cons_of_pos aB];simp
variable {α:Type}
theorem aeL{s:List α}{x:α}(h:s.length<1000000):j7 s [x]=some (s++[x]):=yf (by simp;omega)
theorem WV{a b:List Int}(aC:a.Pairwise (·<·))(V:b.Pairwise (·<·))(h:∀x,x∈a↔x∈b):a=b:=by
 induction a generalizing b with
 |nil=>
  cases b with
  |nil=>rfl
  |cons y b=>exact absurd ((h y).2 (by simp)) (by simp)
 |cons x a bD=>
  cases b with
  |nil=>exact absurd ((h x).1 (by simp)) (by simp)
  |cons y b=>
   rw[List.pairwise_cons]at aC V;have n5:x=y:=by
    have h1:=(h x).1 (by simp);have D:=(h y).2 (by simp);rw[List.mem_cons]at h1 D;rcases h1 with h1|h1
    ·exact h1
    ·rcases D with D|D
     ·exact D.symm
     ·have:=V.1 _ h1;have:=aC.1 _ D;omega
   subst n5;congr 1;refine bD aC.2 V.2 λz=>?_;have:=h z;simp only[List.mem_cons]at this;constructor
   ·intro hz;rcases this.1 (.inr hz)with q|q
    ·subst q;have:=aC.1 _ hz;omega
    ·exact q
   ·intro hz;rcases this.2 (.inr hz)with q|q
    ·subst q;have:=V.1 _ hz;omega
    ·exact q
variable {l:List Int}
theorem XI(h:l.Nodup):(kZ l).Pairwise (·<·):=by
 have h1:=K1 l;have D:(kZ l).Nodup:=(CP l).nodup_iff.2 h;have:=h1.and D;exact this.imp (λ⟨a,b⟩=>by omega)
theorem UU{x:Int}:x∈kZ l↔x∈l:=(CP l).mem_iff
structure h6(t:b0):Prop where
 FN:t.dU.length≤24
 nl:t.Links.length≤60
 E7:∀r∈t.dU,1≤r.ff∧r.ff≤99
 mP:t.dU.Pairwise (λa b=>a.ff<b.ff)
 KR:∀l∈t.Links,sF l=false
 ends:∀l∈t.Links,lW t l.A=true∧lW t l.B=true
 lt:∀l∈t.Links,l.A<l.B
 Bj:t.Links.Pairwise (λa b=>mM a b=true)
theorem WW(a b c:c8)(h1:mM a b=true)(D:mM b c=true):mM a c=true:=by
 simp[mM]at *;omega
theorem nk{l:List α}{p:α→Bool}:l.any p=false↔∀x∈l,p x=false:=by
 rw[List.any_eq_false];simp
variable {t:b0}
theorem yo:sG t=0↔h6 t:=by
 unfold sG;constructor
 ·intro h;by_cases h1:(decide (24<(t.dU.length:Int))||decide (60<(t.Links.length:Int)))=true
  ·rw[h1]at h;cases h
  simp only[Bool.not_eq_true]at h1;rw[h1,cond_false]at h;cases D:Fj t<;>rw[D]at h<;>first|cases h;done|skip
  cases ak:uo t<;>rw[ak]at h<;>first|cases h;done|skip
  cases bc:Fk t<;>rw[bc]at h<;>first|cases h;done|skip
  cases bX:Fl t<;>rw[bX]at h<;>first|cases h;done|skip
  cases dV:Fm t<;>rw[dV]at h<;>first|cases h;done|skip
  cases fF:Fo t<;>rw[fF]at h<;>first|cases h;done|skip
  simp only[Bool.or_eq_false_iff,decide_eq_false_iff_not]at h1;refine⟨by omega,by omega,λr ax=>?_,OW ak,nk.1 bc,λl aJ=>?_,λl aJ=>?_,FJ WW fF⟩
  ·have:=nk.1 D r ax;simp[AQ]at this;omega
  ·have:=nk.1 bX l aJ;simpa using this
  ·have:=nk.1 dV l aJ;simpa using this
 ·intro h;have h1:(decide (24<(t.dU.length:Int))||decide (60<(t.Links.length:Int)))=false:=by
   have:=h.FN;have:=h.nl;simp;omega
  have D:Fj t=false:=nk.2 λr ax=>by have:=h.E7 r ax;simp[AQ];omega
  have ak:uo t=true:=zI (h.mP.imp λh=>by simpa using h);have bc:Fk t=false:=nk.2 h.KR;have bX:Fl t=false:=nk.2 λl aJ=>by have:=h.ends l aJ;simp[this]
  have dV:Fm t=false:=nk.2 λl aJ=>by have:=h.lt l aJ;simp;omega
  have fF:Fo t=true:=zI h.Bj;rw[h1,D,ak,bc,bX,dV,fF];rfl
theorem UW(t:b0):zb t=some (decide (sG t=0)):=by
 unfold zb;rw[LL];rfl
variable {r:Int}
theorem C7:lW t r=true↔∃x∈t.dU,x.ff=r:=by simp[lW]
def Is(t:b0)(r:Int):eC×Bool:=if o3 (λx:eC=>hs x.ff r) t.dU then(el t.dU (lM (λx:eC=>hs x.ff r) t.dU),true)else(eC.mk 0 false,false)
theorem XJ(t:b0)(r:Int)(aJ:t.dU.length≤1000000):Cy t r=some (Is t r):=by
 unfold Cy Is;rw[Q6 t.dU r _ (λx=>hs x.ff r) aJ (λx=>Nx x r)];simp only[ee];cases h:o3 (λx:eC=>hs x.ff r) t.dU
 ·rfl
 ·have D:lM (λx:eC=>hs x.ff r) t.dU<t.dU.length:=by
   simp only[o3,Bool.and_eq_true,decide_eq_true_eq]at h;exact h.1
  simp only[Bool.not_true,cond_false,wz D,ee,if_true]
theorem Z9(h:h6 t)(r:Int):o3 (λx:eC=>hs x.ff r) t.dU=lW t r:=by
 have:=N0 (t:=t) (zI (h.mP.imp λh=>by simpa using h)) r;simpa [I6]using this
theorem N1(t:b0)(r:Int)(aJ:t.dU.length≤1000000):zD t r=some (decide (sG t=0)&&lW t r):=by
 unfold zD;simp only[XJ t r aJ,UW,ee];by_cases h:sG t=0
 ·simp only[h,decide_true,cond_true,Bool.true_and,Is,Z9 (yo.1 h)];cases lW t r<;>rfl
 ·simp[h]
theorem ab6(h:h6 t){a b:c8}(aC:a∈t.Links)(V:b∈t.Links)(dR:a.A=b.A)(fv:a.B=b.B):a=b:=by
 obtain⟨i,hi,rfl⟩:=List.getElem_of_mem aC;obtain⟨j,aM,rfl⟩:=List.getElem_of_mem V;have:=List.pairwise_iff_getElem.1 h.Bj;rcases Nat.lt_trichotomy i j with q|q|q
 ·have:=this i j hi aM q;simp[mM]at this;omega
 ·subst q;rfl
 ·have:=this j i aM hi q;simp[mM]at this;omega
def qX(l:c8)(a b:Int):Bool:=(decide (l.A=a)&&decide (l.B=b))||(decide (l.B=a)&&decide (l.A=b))
def Dg(a b:Int)(l:c8):Int×Bool:=(bif decide (l.A=a)&&decide (l.B=b)then l.qi else l.qj,true)
def q5(t:b0)(a b:Int):Int×Bool:=match t.Links.find? (λl=>qX l a b)with|some l=>Dg a b l|none=>(0,false)
def wZ(t:b0)(a b:Int):Bool:=t.Links.any λl=>qX l a b
variable {a b:Int}
theorem Mi(h:h6 t){l:c8}(hm:l∈t.Links)(he:qX l a b=true):q5 t a b=Dg a b l:=by
 unfold q5;cases be:t.Links.find? (λl=>qX l a b)with
 |none=>exact absurd he (List.find?_eq_none.1 be l hm)
 |some x=>
  have u:=List.mem_of_find?_eq_some be;have aB:=List.find?_some be;have h1:=h.lt _ hm;have D:=h.lt _ u;simp[qX]at he aB;rw[ab6 h u hm (by omega) (by omega)]
theorem aaa(h:h6 t)(v:c8):∀a b:Nat,a≤b→b<t.Links.length→lG (el t.Links a) v≤lG (el t.Links b) v:=by
 refine KD (f:=λl:c8=>lG l v) (h.Bj.imp λ{a b} iN=>?_)
 have c1:∀x y:Int,hs x y = -1∨hs x y=0∨hs x y=1:=λx y=>by
  unfold hs;split
  ·exact .inl rfl
  ·split
   ·exact .inr (.inr rfl)
   ·exact .inr (.inl rfl)
 have:∀x y:c8,lG x y = -1∨lG x y=0∨lG x y=1:=λx y=>by
  have an:=c1 x.A y.A;have au:=c1 x.B y.B;simp only[lG,pI];generalize hs x.A y.A=p at *;generalize hs x.B y.B=q at *;by_cases h1:p=0
  ·by_cases D:q=0<;>simp[h1,D];omega
  ·simp[h1];omega
 have h1:=@GN a v;have D:=@GN b v;have ak:=@GO a v;have bc:=@GO b v;have an:=this a v;have au:=this b v;simp[mM]at iN h1 D;omega
theorem XK(t:b0)(a b:Int)(aJ:t.Links.length≤1000000):Cz t a b=some (if sG t=0 then q5 t a b else(0,false)):=by
 unfold Cz;simp only[UW,ee];by_cases h:sG t=0
 ·have af:=yo.1 h;simp only[h,decide_true,Bool.not_true,cond_false,if_true];generalize Ch:c8.mk (if b<a then b else a) (if b>a then b else a) 0 0 0=v;rw[ae6 t.Links v _ (λx=>lG x v) aJ (λx=>T3 x v)];simp only[ee];have dR:v.A=if b<a then b else a:=by rw[←Ch]
  have fv:v.B=if b>a then b else a:=by rw[←Ch]
  cases aH:o3 (λx:c8=>lG x v) t.Links
  ·simp only[Bool.not_false,cond_true];congr 1;unfold q5;cases be:t.Links.find? (λl=>qX l a b)with
   |none=>rfl
   |some x=>
    exfalso;have u:=List.mem_of_find?_eq_some be;have aB:=List.find?_some be;have D:=h
    have:=(MB (f:=λx:c8=>lG x v) (aaa af v)).2 ⟨x,u,by
     rw[GO,dR,fv];have:=af.lt _ u;simp[qX]at aB;split<;>split<;>omega⟩
    rw[aH]at this;cases this
  ·simp only[o3,Bool.and_eq_true,decide_eq_true_eq]at aH;obtain⟨an,au⟩:=aH;rw[GO,dR,fv]at au;have hm:=OV an;simp only[Bool.not_true,cond_false,wz an,ee];have bQ:=af.lt _ hm
   have e:qX (el t.Links (lM (λx:c8=>lG x v) t.Links)) a b=true:=by
    simp[qX];by_cases aK:b<a<;>by_cases aG:b>a<;>simp only[aK,aG,if_true,if_false]at au<;>omega
   rw[Mi af hm e];unfold Dg;by_cases iN:a<b
   ·have:decide (a<b)=true:=by simpa using iN
    rw[this,cond_true]
    have:(decide ((el t.Links (lM (λx:c8=>lG x v) t.Links)).A=a)&&decide ((el t.Links (lM (λx:c8=>lG x v) t.Links)).B=b))=true:=by
     simp;by_cases aK:b<a<;>by_cases aG:b>a<;>simp only[aK,aG,if_true,if_false]at au<;>omega
    rw[this];rfl
   ·have:decide (a<b)=false:=by simpa using iN
    rw[this,cond_false]
    have:(decide ((el t.Links (lM (λx:c8=>lG x v) t.Links)).A=a)&&decide ((el t.Links (lM (λx:c8=>lG x v) t.Links)).B=b))=false:=by
     simp;by_cases aK:b<a<;>by_cases aG:b>a<;>simp only[aK,aG,if_true,if_false]at au<;>omega
    rw[this];rfl
 ·simp[h]
def ids(t:b0):List Int:=t.dU.map (·.ff)
theorem uw:r∈ids t↔lW t r=true:=by rw[C7];simp[ids]
theorem N2:wZ t a b=true↔∃l∈t.Links,(l.A=a∧l.B=b)∨(l.B=a∧l.A=b):=by
 simp[wZ,qX]
theorem Nb(h:wZ t a b=true):wZ t b a=true:=by
 rw[N2]at h ⊢;obtain⟨l,aJ,h⟩:=h;exact⟨l,aJ,by omega⟩
theorem MC(af:h6 t)(h:wZ t a b=true):b∈ids t:=by
 rw[N2]at h;obtain⟨l,aJ,h⟩:=h;have:=af.ends l aJ;rcases h with⟨h1,D⟩|⟨h1,D⟩<;>rw[uw,←D]
 ·exact this.2
 ·exact this.1
end
section
theorem Ok.Bc{α σ β:Type}{B:Int→α→(σ→Option β)→σ→Option β}{K:σ→Option β}{Q:β→Prop}(I:List α→σ→Prop){L:List α}
  (aa:∀(p:List α) x r s bW,L=p++x::r→I p s→(∀dg,I (p++[x]) dg→Ok (bW dg) Q)→Ok (B (p.length:Int) x bW s) Q) (s:σ) (h:I [] s) (aT:∀s,I L s→Ok (K s) Q):Ok (Go.Proofs.YtmnbolcmepihlaaGreat.ez L 0 B K s) Q:=by
 have key:∀(l p:List α) (s:σ),L=p++l→I p s→Ok (Go.Proofs.YtmnbolcmepihlaaGreat.ez l p.length B K s) Q:=by
  intro l;induction l with
  |nil=>intro p s aM h;exact aT s (by rw[aM,List.append_nil];exact h)
  |cons x r bD=>
   intro p s aM h;refine aa p x r s _ aM h λdg dc=>?_;have:=bD (p++[x]) dg (by simp[aM]) dc
   rwa [List.length_append]at this
 exact key L [] s rfl h
inductive nj(t:b0)(c:List Int):Int→Int→Prop
 |refl {a:Int} (h:a∉c):nj t c a a
 |step {a b d:Int} (h:nj t c a b) (aC:wZ t b d=true) (Z:d∉c):nj t c a d
variable {a b:Int}{c:List Int}{t:b0}
theorem nj.trans{d:Int}(h1:nj t c a b)(D:nj t c b d):nj t c a d:=by
 induction D with
 |refl _=>exact h1
 |step _ aC Z bD=>exact .step bD aC Z
theorem nj.left(h:nj t c a b):a∉c:=by
 induction h with
 |refl h=>exact h
 |step _ _ _ bD=>exact bD
theorem nj.right(h:nj t c a b):b∉c:=by
 cases h with
 |refl h=>exact h
 |step _ _ Z=>exact Z
theorem nj.symm(h:nj t c a b):nj t c b a:=by
 induction h with
 |refl h=>exact .refl h
 |step h aC Z bD=>exact(nj.step (.refl Z) (Nb aC) h.right).trans bD
theorem nj.ids{t:b0}(af:h6 t){c:List Int}{a b:Int}(h:nj t c a b)(aC:a∈ids t):b∈ids t:=by
 cases h with
 |refl h=>exact aC
 |step _ Z _=>exact MC af Z
end
section
theorem Nc{α:Type}(l:List (Int×α))(n m:Int)(b:α):bT (c6 l n b) m=if m=n then some b else bT l m:=by
 induction l with
 |nil=>
  simp only[c6,bT,List.find?];by_cases h:n=m
  ·simp[h]
  ·simp[h,Ne.symm h]
 |cons p r bD=>
  simp only[c6];by_cases h1:p.1=n
  ·rw[if_pos h1];simp only[bT,List.find?]at bD ⊢;by_cases D:n=m
   ·simp[D]
   ·have:p.1≠m:=by omega
    simp[D,this,Ne.symm D]
  ·rw[if_neg h1];simp only[bT,List.find?]at bD ⊢;by_cases D:p.1=m
   ·have:m≠n:=by omega
    simp[D,this]
   ·simp[D];exact bD
end
end Go.Proofs.YtmnbolcmepihlaaGreat
