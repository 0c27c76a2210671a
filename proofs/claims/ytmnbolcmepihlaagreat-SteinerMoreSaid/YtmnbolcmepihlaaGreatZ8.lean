/- Several texts in one. No condition but those that stand in each. -/
import Derived.Test.YtmnbolcmepihlaaGreatZ7
import Derived.Test.YtmnbolcmepihlaaGreatZ5
import Derived.Test.YtmnbolcmepihlaaGreatZ6
namespace Go.Proofs.YtmnbolcmepihlaaGreat
section
set_option linter.all false
open Go List
section
def RN(l:cq)(aH:l.length≤1000000):AU l=some (nh (λa b=>decide (a<b)) l):=by
 unfold AU
 refine(NG (λa b:Int=>decide (a<b)) (some false) (λj x y r q s b7 mh aT=>by
  simp only[EX mh aT (by omega),eu];by_cases h:y<x
  ·have:¬x≤y:=by omega
   simp[h,this]
  ·have:x≤y:=by omega
   simp[h,this]) _).trans ?_
 cases nh (λa b:Int=>decide (a<b)) l<;>rfl
def F7(t:bA)(root:Int)(rs:cq):Int:=bif !decide (oj t=0)then 1 else bif !nh (λa b:Int=>decide (a<b)) rs then 25 else bif (root::rs).any (λr=>!jH t r)then 4 else 0
def NZ(t:bA)(root:Int)(rs:cq)(aH:rs.length≤100000):yJ t root rs=some (F7 t root rs):=by
 unfold yJ F7;rw[NH,eu];by_cases h:oj t=0
 ·have aa:=wk.1 h;have Vo:=aa.vg;rw[decide_eq_true h,RN _ (by omega),eu];simp only[Bool.not_true,cond_false];cases nh (λa b:Int=>decide (a<b)) rs with
  |false=>rfl
  |true=>
   simp only[Bool.not_true,cond_false];rw[v8 (by simp;omega),eu]
   refine(zK (λr=>!jH t r) (some 4) (λj x b7 s=>by
    rw[Rh t x (by omega),eu,decide_eq_true h,Bool.true_and]) _ _ _).trans ?_
   show(bif (root::rs).any (λr=>!jH t r)then some 4 else some 0)=_;cases(root::rs).any (λr=>!jH t r)<;>rfl
 ·rw[decide_eq_false h];rfl
def JV{t:bA}(aa:fH t){root:Int}(aB:root∈ids t){rs:cq}(h1:rs.Pairwise (·<·))(D:∀x∈rs,x∈ids t):F7 t root rs=0:=by
 unfold F7;have aj:nh (λa b:Int=>decide (a<b)) rs=true:=Bq (h1.imp λh=>by simpa using h)
 have a1:(root::rs).any (λr=>!jH t r)=false:=vB.2 λx u=>by
  rcases mem_cons.1 u with rfl|u
  ·rw[uc.1 aB];rfl
  ·rw[uc.1 (D x u)];rfl
 rw[aj,a1,decide_eq_true (wk.2 aa)];rfl
def CK(l:dR):wX:=[bB.mk (b6.mk l.A l.B) l.kP,bB.mk (b6.mk l.B l.A) l.kQ]
def hU(g:bA):wX:=g.Links.flatMap CK
def QH{α sn β:Type}{B:Int→α→(List sn→Option β)→List sn→Option β}{K:List sn→Option β}(f:α→List sn)(dc:∀j x b7 s,B j x b7 s=aW (jR s (f x)) λl=>b7 l)(k:Nat)(hk:∀x,(f x).length≤k):∀(l:List α) (j:Nat) (s:List sn),s.length+k*l.length≤1000000→ez l j B K s=K (s++l.flatMap f)
 |[],j,s,_=>by simp[ez]
 |x::r,j,s,h=>by
  have:=hk x;simp only[length_cons,Nat.mul_add,Nat.mul_one]at h;rw[ez,dc,v8 (by omega),eu,QH f dc k hk r (j+1) _ (by simp;omega)];simp
variable {g:bA}
def zL{a:bB}:a∈hU g↔∃l∈g.Links,a=bB.mk (b6.mk l.A l.B) l.kP∨a=bB.mk (b6.mk l.B l.A) l.kQ:=by
 simp[hU,CK]
def ae0{a b:b6}(h:a≠b):ht [λx:b6=>x.bz,λx:b6=>x.br] a b<0∨ht [λx:b6=>x.bz,λx:b6=>x.br] b a<0:=by
 rw[sy,sy,sy,sy];have D:a.bz≠b.bz∨a.br≠b.br:=by
  apply Classical.byContradiction;intro aR;have aJ:a.bz=b.bz:=Classical.byContradiction λx=>aR (.inl x);have e2:a.br=b.br:=Classical.byContradiction λx=>aR (.inr x);apply h;cases a;cases b
  simp only at aJ e2;rw[aJ,e2]
 simp only[ht];omega
def Rm(aa:fH g):(hU g).Pairwise λa b=>a.Hop≠b.Hop:=by
 unfold hU;rw[pairwise_flatMap];refine⟨λl aH=>?_,aa.Gh.imp_of_mem λ{a b} ay U hW=>?_⟩
 ·have:=aa.lt l aH;simp only[CK,pairwise_cons,mem_cons,not_mem_nil,or_false,forall_eq,Pairwise.nil,and_true,false_imp_iff,implies_true];intro h;injection h with h1 D
  omega
 ·have h1:=aa.lt a ay;have D:=aa.lt b U;simp only[mq,Bool.or_eq_true,Bool.and_eq_true,decide_eq_true_eq]at hW;intro x u y ag;simp only[CK,mem_cons,not_mem_nil,or_false]at u ag;rcases u with rfl|rfl<;>rcases ag with rfl|rfl<;>(simp only;intro h;injection h with aj a1;omega)
def aai{l:dR}(h:qx l=false):(1≤l.kP∧l.kP≤1000)∧1≤l.kQ∧l.kQ≤1000:=by
 simp only[qx,wq,Bool.or_eq_false_iff,Bool.not_eq_false',Bool.and_eq_true,decide_eq_true_eq]at h;exact⟨h.1.1.1,h.1.1.2⟩
def E0(g:bA):(hU g).length=2*g.Links.length:=by
 unfold hU;induction g.Links with
 |nil=>rfl
 |cons a r bg=>rw[flatMap_cons,length_append,bg];simp[CK];omega
def RO{α sn:Type}{f:α→sn}:∀{l:List α},(l.Pairwise λa b=>f a≠f b)→∀a∈l,∀b∈l,f a=f b→a=b
 |[],_,a,ay,_,_,_=>by cases ay
 |x::r,h,a,ay,b,U,e=>by
  rw[pairwise_cons]at h;rcases mem_cons.1 ay with h1|h1<;>rcases mem_cons.1 U with D|D
  ·rw[h1,D]
  ·subst h1;exact absurd e (h.1 b D)
  ·subst D;exact absurd e.symm (h.1 a h1)
  ·exact RO h.2 a h1 b D e
def I4(aa:fH g):pR (hU g):=by
 refine⟨λa ay=>?_,λa ay=>?_,RO (Rm aa),?_⟩
 ·obtain⟨l,aH,h⟩:=zL.1 ay;have:=aai (aa.HX l aH);rcases h with rfl|rfl<;>(simp only;omega)
 ·obtain⟨l,aH,h⟩:=zL.1 ay;have h1:=aa.ends l aH;have D:=EZ.1 h1.1;have aj:=EZ.1 h1.2;obtain⟨x,u,gi⟩:=D;obtain⟨y,ag,zj⟩:=aj;have a1:=aa.Hf x u;have bU:=aa.Hf y ag;rcases h with rfl|rfl<;>(simp only;omega)
 ·have:=aa.nl;rw[E0];omega
def Kg(aa:fH g):∃m,zw g=some m∧m.Perm (hU g):=by
 have lD:=aa.nl;have eA:=E0 g;obtain⟨m,h1,D,aj⟩:=Pj (ks:=[λx:bB=>x.Hop.bz,λx:bB=>x.Hop.br]) (l:=hU g) ((Rm aa).imp λ{a b} h=>ae0 h) (by omega);refine⟨m,?_,D⟩;unfold zw;refine(QH CK (λj x b7 s=>rfl) 2 (λx=>Nat.le_refl _) _ _ _ (by simp;omega)).trans ?_;rw[nil_append];show aW (nG _ (hU g)) _=_;rw[h1];rfl
variable {a b:wX}
def Rn(h:a.Perm b)(U:pR b):pR a:=⟨λx u=>U.cost x (h.mem_iff.1 u),λx u=>U.to x (h.mem_iff.1 u),λx u y ag=>U.hop x (h.mem_iff.1 u) y (h.mem_iff.1 ag),by rw[h.length_eq];exact U.len⟩
variable {T:Int→Prop}
def lS.same{A:Type}[DecidableEq A]{N:w4 A}{L w1:List A}(X:∀a,a∈L↔a∈w1){v:Int}{H:List A}(h:lS N L T v H):lS N w1 T v H:=
 ⟨λa ay=>(X a).1 (h.sub a ay),λa ay=>h.pos a ((X a).2 ay),h.pF,λK h8=>h.min K λa ay=>(X a).2 (h8 a ay)⟩
def ae1{A:Type}[DecidableEq A]{N:w4 A}{L:List A}{v:Int}(aC:∀a∈L,0<N.cost a)(af:∀t,T t→eL N L v t):∃H,lS N L T v H:=by
 have:∀(n:Nat) (K:List A),(∀a∈K,a∈L)→(∀t,T t→eL N K v t)→gB N K≤n→∃H,lS N L T v H:=by
  intro n;induction n with
  |zero=>
   intro K h1 D aj;refine⟨K,h1,aC,D,λlQ a1 _=>?_⟩;have:0≤gB N lQ:=Nf λa ay=>by have:=aC a (a1 a ay);omega
   simp only[Int.ofNat_zero]at aj;omega
  |succ n bg=>
   intro K h1 D aj;by_cases u:∃lQ,(∀a∈lQ,a∈L)∧(∀t,T t→eL N lQ v t)∧gB N lQ<gB N K
   ·obtain⟨lQ,cp,cG,gC⟩:=u;exact bg lQ cp cG (by omega)
   ·refine⟨K,h1,aC,D,λlQ a1 bU=>?_⟩;apply Classical.byContradiction;intro bL;exact u ⟨lQ,a1,bU,by omega⟩
 exact this (gB N L).toNat L (λa ay=>ay) af (by omega)
def Ju(g:bA)(root:Int)(ts:cq)(x:hq×Int×Int):Prop:=(x.2.2=0∧x.1.mH=root∧oI (hU g) root ts x.1.Links x.2.1)∨(x=(hq.mk 0 [],0,9)∧¬∀t,t∈ts→eL eR (hU g) root t)
variable {ts:cq}
def YN(h:a.Perm b){root:Int}{X:zu}{c:Int}(U:oI a root ts X c):oI b root ts X c:=by
 obtain⟨⟨hf,h1,D,aj⟩,a1⟩:=U;exact⟨⟨hf,h1.same λa=>h.mem_iff,D,aj⟩,a1⟩
variable {aq:wX}
def aaj{hf:wX}(eo:pR aq)(h:∀a∈hf,a∈aq):(hf.length:Int)≤gB eR hf:=(xH λa ay=>eo.cost a (h a ay)).1
def abx(eo:pR aq){root:Int}(af:∀t,t∈ts→eL eR aq root t):∃X c,oI aq root ts X c:=by
 obtain⟨hf,kb⟩:=ae1 (N:=eR) (L:=aq) (T:=λt=>t∈ts) (λa ay=>by have:=(eo.cost a ay).1;show 0<a.c6;omega) af;have h1:=aaj eo kb.sub;have D:=kb.min aq (λa ay=>ay) af;have aj:=(xH eo.cost).2;have a1:=eo.len;obtain⟨m,_,cG,gC⟩:=NX eo kb (by omega);exact⟨m,_,⟨hf,kb,rfl,cG⟩,gC⟩
def EH{β:Type}{root:Int}{K:(hq×Int×Int)→Option β}{r:β}(aa:fH g)(aB:root∈ids g)(h1:ts.Pairwise (·<·))(D:∀x∈ts,x∈ids g)(aH:ts.length≤6)(h8:∀x,Ju g root ts x→K x=some r):vK g root ts K=some r:=by
 obtain⟨m,hm,aC⟩:=Kg aa;have eo:=Rn aC (I4 aa);unfold vK;rw[NZ _ _ _ (by omega),eu,JV aa aB h1 D,decide_eq_true rfl,decide_eq_false (by omega),hm,eu];simp only[Bool.not_true,cond_false];unfold Hw;rw[if_pos ⟨eo,aH⟩];refine abJ ?_ ?_
 ·by_cases af:∀t,t∈ts→eL eR m root t
  ·obtain⟨X,c,U⟩:=abx eo af;exact⟨(X,c,true),.inl ⟨rfl,U⟩⟩
  ·exact⟨([],0,false),.inr ⟨rfl,af⟩⟩
 ·rintro⟨X,c,ok⟩ h;rcases h with⟨h,U⟩|⟨h,af⟩
  ·simp only at h U;subst h;exact h8 _ (.inl ⟨rfl,rfl,YN aC U⟩)
  ·injection h with ay U
   injection U with U gd
   subst ay;subst U;subst gd
   exact h8 _ (.inr ⟨rfl,λu=>af λt bE=>(u t bE).mono λa ay=>aC.mem_iff.2 ay⟩)
end
section
set_option maxRecDepth 100000
def FC:bA:=bA.mk [dQ.mk 1 true,dQ.mk 2 true,dQ.mk 3 true,dQ.mk 4 true] [dR.mk 1 2 2 2 0,dR.mk 1 3 3 3 0,dR.mk 1 4 3 3 0,dR.mk 2 3 2 2 0,dR.mk 2 4 2 2 0]
def acV:EA=some FC:=by kernel_rfl
def acW:fH FC:=wk.1 (by kernel_rfl)
def Ye:yE FC 1 [3,4] [fe.mk [2,3,4] 1,fe.mk [3] 2,fe.mk [4] 2]=some (5,0):=by kernel_rfl
def wu:wX:=[⟨⟨1,2⟩,2⟩,⟨⟨2,1⟩,2⟩,⟨⟨1,3⟩,3⟩,⟨⟨3,1⟩,3⟩,⟨⟨1,4⟩,3⟩,⟨⟨4,1⟩,3⟩,⟨⟨2,3⟩,2⟩,⟨⟨3,2⟩,2⟩,⟨⟨2,4⟩,2⟩,⟨⟨4,2⟩,2⟩]
def Po:hU FC=wu:=rfl
def ae2:∀a∈wu,a.Hop.br=2→2≤a.c6:=by decide
def ae3:∀a∈wu,a.Hop.br=3→(a.Hop.bz=1∧a.c6=3)∨(a.Hop.bz=2∧a.c6=2):=by decide
def RP:∀a∈wu,a.Hop.br=4→(a.Hop.bz=1∧a.c6=3)∨(a.Hop.bz=2∧a.c6=2):=by decide
def QI{H:wX}(h1:bB.mk ⟨1,3⟩ 3∈H)(D:bB.mk ⟨1,4⟩ 3∈H):∀t,t∈([3,4]:cq)→eL eR H 1 t:=by
 intro t bE;simp only[mem_cons,not_mem_nil,or_false]at bE;rcases bE with rfl|rfl
 ·exact eL.step (N:=eR) (bB.mk ⟨1,3⟩ 3) h1 (.refl _)
 ·exact eL.step (N:=eR) (bB.mk ⟨1,4⟩ 3) D (.refl _)
def QJ{L H:wX}(aC:∀a∈L,0<a.c6)(X:∀a∈H,a∈L){a b:bB}(ay:a∈H)(U:b∈H)(hW:b≠a):a.c6+b.c6≤gB eR H∧2≤H.length:=by
 have h1:=Bv (N:=eR) ay;have eS:b∈H.erase a:=(List.mem_erase_of_ne hW).2 U;have D:=Bv (N:=eR) eS
 have aj:0≤gB eR ((H.erase a).erase b):=Nf λc af=>by
  have:=aC c (X c (List.mem_of_mem_erase (List.mem_of_mem_erase af)));show 0≤c.c6;omega
 have a1:=length_erase_of_mem ay;have bU:=length_pos_of_mem eS;refine⟨?_,by omega⟩;have aJ:eR.cost a=a.c6:=rfl;have e2:eR.cost b=b.c6:=rfl;omega
def Yf{L H:wX}(aC:∀a∈L,0<a.c6)(X:∀a∈H,a∈L){a b c:bB}(ay:a∈H)(U:b∈H)(af:c∈H)(hW:b≠a)(ajq:c≠a)(GL:c≠b):a.c6+b.c6+c.c6≤gB eR H:=by
 have h1:=Bv (N:=eR) ay;have D:=(QJ (L:=L) (H:=H.erase a) aC (λx u=>X x (List.mem_of_mem_erase u)) ((List.mem_erase_of_ne hW).2 U) ((List.mem_erase_of_ne ajq).2 af) GL).1;have aJ:eR.cost a=a.c6:=rfl;omega
def Yg{H:wX}(X:∀a∈H,a∈wu)(af:∀t,t∈([3,4]:cq)→eL eR H 1 t):6≤gB eR H∧2≤H.length:=by
 have aC:∀a∈wu,0<a.c6:=by decide
 rcases IT (af 3 (by simp))with h|⟨a,ay,GI,GJ⟩
 ·exact absurd h (by decide)
 rcases IT (af 4 (by simp))with h|⟨b,U,fA,eS⟩
 ·exact absurd h (by decide)
 have GI:a.Hop.br=3:=GI;have fA:b.Hop.br=4:=fA;have hW:b≠a:=λe=>by rw[e]at fA;omega
 have D:=QJ aC X ay U hW;refine⟨?_,D.2⟩
 have three:∀{x:bB} {p:bB→Bool},x.Hop.bz=2→eL eR (H.filter p) 1 x.Hop.bz→2+a.c6+b.c6≤gB eR H:=λ{x p} u Dt=>by
  rw[u]at Dt;rcases IT Dt with h|⟨c,gd,qh,_⟩
  ·exact absurd h (by decide)
  have UZ:=(List.mem_filter.1 gd).1;have qh:c.Hop.br=2:=qh;have:=ae2 c (X c UZ) qh;have:=Yf aC X ay U UZ hW (λe=>by rw[e]at qh;omega) (λe=>by rw[e]at qh;omega);omega
 rcases ae3 a (X a ay) GI with⟨_,aj⟩|⟨aj,Ll⟩
 ·rcases RP b (X b U) fA with⟨_,a1⟩|⟨a1,ajd⟩
  ·omega
  ·have:=three a1 eS;omega
 ·have bU:=three aj GJ;rcases RP b (X b U) fA with⟨_,a1⟩|⟨a1,ajd⟩<;>omega
def I5:zl=some true:=by
 unfold zl;rw[acV,eu];refine EH acW (by decide) (by simp) (by decide) (by simp) λx u=>?_;rw[eu,Ye,eu];have u:Ju FC 1 [3,4] x:=u;rcases u with⟨h1,_,⟨hf,aj,a1,bU⟩,_⟩|⟨_,h⟩
 ·rw[Po]at aj;obtain⟨cp,cG⟩:=Yg aj.sub aj.pF;have gC:=aj.min [⟨⟨1,3⟩,3⟩,⟨⟨1,4⟩,3⟩] (by intro a ay;simp only[mem_cons,not_mem_nil,or_false]at ay;rcases ay with rfl|rfl<;>simp[wu]) (QI (by simp) (by simp));have e:gB eR [⟨⟨1,3⟩,3⟩,⟨⟨1,4⟩,3⟩]=6:=rfl;have dP:=bU.length_eq;rw[length_map]at dP;have aJ:x.2.1=6:=by omega
  rw[decide_eq_true h1,decide_eq_true aJ,decide_eq_true (show(1:Int)<(x.1.Links.length:Int)by omega)];rfl
 ·rw[Po]at h;exact absurd (QI (by simp[wu]) (by simp[wu])) h
end
section
def si(S:Nat):Nat→wX→wX
 |_,[]=>[]
 |i,a::r=>if S.testBit i then a::si S (i+1) r else si S (i+1) r
def X9(v:cq)(a:bB):cq:=if a.Hop.bz∈v then mI v a.Hop.br else v
def Wd(H:wX)(v:cq):cq:=H.foldl X9 v
def B5(H:wX):Nat→cq→cq
 |0,v=>v
 |n+1,v=>B5 H n (Wd H v)
end
section
def OM{n:Int}(bM : -1000000≤n)(h1:n≤4000000000):aF n=n:=by unfold aF;rw[IntKind.wrap_i64];omega
def oo(t:bA)(x:Int):Nat:=(ids t).idxOf x
variable {t:bA}{x:Int}
def Jk(h:x∈ids t):oo t x<t.bC.length:=by
 have:=List.idxOf_lt_length_of_mem h;simpa [ids,oo]using this
def ac2{y:Int}(u:x∈ids t)(ag:y∈ids t)(h:oo t x=oo t y):x=y:=by
 have h1:=getElem_idxOf (List.idxOf_lt_length_of_mem u);have D:=getElem_idxOf (List.idxOf_lt_length_of_mem ag);unfold oo at h;rw[←h1,←D];simp only[h]
def Ov{β:Type}(x:Int)(g:Int→Option β)(a:Option β):∀(l:Ax) (j:Nat),ez l j (λ(bk:Int) (aJ:dQ) (c1:Unit→Option β) (_:Unit)=>bif decide (aJ.cu=x)then g bk else c1 ()) (λ_=>a) () =
  if x∈l.map (·.cu)then g ((j+(l.map (·.cu)).idxOf x:Nat):Int)else a
 |[],j=>by simp[ez]
 |r::l,j=>by
  show(bif decide (r.cu=x)then g (j:Int)else ez l (j+1) (λ(bk:Int) (aJ:dQ) (c1:Unit→Option β) (_:Unit)=>bif decide (aJ.cu=x)then g bk else c1 ()) (λ_=>a) ())=_;by_cases h:r.cu=x
  ·rw[decide_eq_true h,cond_true];subst h;simp
  ·have:=Ov x g a l (j+1);rw[decide_eq_false h,cond_false,this];simp only[map_cons,mem_cons,Ne.symm h,false_or,idxOf_cons];have U:(r.cu==x)=false:=by simpa using h
   rw[U];simp only[cond_false];rw[show j+1+List.idxOf x (List.map (λx=>x.cu) l)=j+(List.idxOf x (List.map (λx=>x.cu) l)+1)by omega]
def Pu(h:x∈ids t):Ev t x=some (oo t x:Int):=by
 have:=Ov x (λj=>some j) (some (0:Int)) t.bC 0;have b3:x∈t.bC.map (·.cu):=h;rw[if_pos b3,Nat.zero_add]at this;exact this
def ae5(t:bA)(d:cq)(x:Int):Bu t d x=if x∈ids t then di d (oo t x:Int)else some 1073741824:=by
 have:=Ov x (λj=>aW (di d j) λe=>some e) (some 1073741824) t.bC 0;rw[Nat.zero_add]at this;have e:∀o:jo,(aW o λe=>some e)=o:=λo=>by cases o<;>rfl
 unfold Bu;refine Eq.trans this ?_;rw[e];rfl
def fo(t:bA)(d:cq)(x:Int):Int:=d.getD (oo t x) 1073741824
def Ow{d:cq}(Z:d.length=t.bC.length)(u:x∈ids t):di d (oo t x:Int)=some (fo t d x):=by
 have h:=Jk u;rw[←Z]at h;unfold di fo;rw[if_pos (by omega)];simp[getD_eq_getElem?_getD,h]
def ac3{d:cq}(Z:d.length=t.bC.length){y v:Int}(u:x∈ids t)(ag:y∈ids t):fo t (d.set (oo t x) v) y=if y=x then v else fo t d y:=by
 have h:=Jk u;rw[←Z]at h;unfold fo;rw[getD_eq_getElem?_getD,getD_eq_getElem?_getD,List.getElem?_set];by_cases e:y=x
 ·subst e;simp[h]
 ·rw[if_neg (λcB=>e (ac2 ag u cB.symm)),if_neg e]
structure yt(t:bA)(to:Int)(d:List Int):Prop where
 len:d.length=t.bC.length
 le:∀x∈ids t,fo t d x≤1073741824
 Cr:∀x∈ids t,fo t d x<1073741824→hA (iL t) x to (fo t d x)
 z:fo t d to≤0
def vk(t:bA)(d:cq)(x y w:Int):cq:=if fo t d y<1073741824 then d.set (oo t x) (if w+fo t d y<fo t d x then w+fo t d y else fo t d x)else d
variable {to w:Int}
def Pv(aa:fH t){d:cq}(dc:yt t to d){y:Int}(u:x∈ids t)(ag:y∈ids t)(an:1≤w∧w≤1000){β:Type}(J:cq→Option β):
  (aW (di d (oo t y:Int)) λ(gb:Int)=>bif decide (gb<(1073741824:Int))then aW (di d (oo t x:Int)) λ(gU:Int)=>aW (lJ d (oo t x:Int) (if(aF (w+gb))<gU then aF (w+gb)else gU)) λ(My:cq)=>J My else J d)=J (vk t d x y w):=by
 rw[Ow dc.len ag,eu];unfold vk;by_cases h:fo t d y<1073741824
 ·rw[if_pos h,show decide (fo t d y<1073741824)=true from decide_eq_true h,cond_true,Ow dc.len u,eu];have bM:=(dc.Cr y ag h).qU (u7 aa);rw[OM (by omega) (by omega)];have aH:=Jk u;have eA:=dc.len;unfold lJ;rw[if_pos (by omega),eu];simp
 ·rw[if_neg h,show decide (fo t d y<1073741824)=false from decide_eq_false h,cond_false]
def QO(aa:fH t)(aN:to∈ids t){d:cq}(dc:yt t to d){y:Int}(an:iL t x y=some w):
  yt t to (vk t d x y w)∧(∀z∈ids t,fo t (vk t d x y w) z≤fo t d z)∧(fo t d y<1073741824→fo t (vk t d x y w) x≤w+fo t d y):=by
 obtain⟨u,ag⟩:=we aa an;unfold vk;by_cases h:fo t d y<1073741824
 ·rw[if_pos h];have o2:∀z∈ids t,fo t (d.set (oo t x) (if w+fo t d y<fo t d x then w+fo t d y else fo t d x)) z=if z=x then(if w+fo t d y<fo t d x then w+fo t d y else fo t d x)else fo t d z:=λz hz=>ac3 dc.len u hz
  have hle:∀z∈ids t,fo t (d.set (oo t x) (if w+fo t d y<fo t d x then w+fo t d y else fo t d x)) z≤fo t d z:=λz hz=>by
   rw[o2 z hz];split
   ·rename_i e;subst e;split<;>omega
   ·exact Int.le_refl _
  refine⟨⟨by simp[dc.len],λz hz=>Int.le_trans (hle z hz) (dc.le z hz),λz hz bL=>?_,Int.le_trans (hle to aN) dc.z⟩,hle,λ_=>?_⟩
  ·rw[o2 z hz]at bL ⊢;split
   ·rename_i e;subst e
    rw[if_pos rfl]at bL;split
    ·exact(hA.one an).trans (dc.Cr y ag h)
    ·rename_i aR;rw[if_neg aR]at bL;exact dc.Cr z hz bL
   ·rename_i e;rw[if_neg e]at bL;exact dc.Cr z hz bL
  ·rw[o2 x u,if_pos rfl];split<;>omega
 ·rw[if_neg h];exact⟨dc,λz _=>Int.le_refl _,λb3=>absurd b3 h⟩
open Classical in
noncomputable def q3(t:bA)(to:Int)(d:cq)(x:Int):Bool:=decide (∃k,dst (iL t) x to=some k∧k<fo t d x)
noncomputable def s2(t:bA)(to:Int)(d:cq):Nat:=((ids t).filter (q3 t to d)).length
variable {α:Type}
def XM{p q:α→Bool}{l:List α}(h:∀x∈l,q x=true→p x=true):(l.filter q).length≤(l.filter p).length∧∀x∈l,p x=true→q x=false→(l.filter q).length<(l.filter p).length:=by
 induction l with
 |nil=>simp
 |cons y l bg=>
  obtain⟨lG,lH⟩:=bg λx u=>h x (by simp[u]);have ag:=h y (by simp);cases bV:q y with
  |true=>
   rw[filter_cons_of_pos bV,filter_cons_of_pos (ag bV)];refine⟨by simpa using lG,λx u aC aR=>?_⟩;rcases mem_cons.1 u with rfl|u
   ·rw[bV]at aR;cases aR
   ·have:=lH x u aC aR;simpa using this
  |false=>
   rw[filter_cons_of_neg (by simp[bV])];cases aC:p y with
   |true=>
    rw[filter_cons_of_pos aC];simp only[length_cons];exact⟨by omega,λx u _ _=>by omega⟩
   |false=>
    rw[filter_cons_of_neg (by simp[aC])];refine⟨lG,λx u oV aR=>?_⟩;rcases mem_cons.1 u with rfl|u
    ·rw[aC]at oV;cases oV
    ·exact lH x u oV aR
def Fa(aa:fH t){l:dR}(aH:l∈t.Links):iL t l.A l.B=some l.kP∧iL t l.B l.A=some l.kQ:=by
 have bL:=aa.lt l aH;have cb:l.A≠l.B:=by omega
 constructor
 ·refine tY.2 ⟨rQ.2 ⟨l,aH,.inl ⟨rfl,rfl⟩⟩,?_⟩;rw[rP aa aH (by simp[lU])];simp[qn]
 ·refine tY.2 ⟨rQ.2 ⟨l,aH,.inr ⟨rfl,rfl⟩⟩,?_⟩;rw[rP aa aH (by simp[lU])];simp[qn,cb]
variable {g:bA}{k:Int}
def Cf(aa:fH g){y:Int}:iL g x y=some k↔bB.mk (b6.mk x y) k∈hU g:=by
 rw[zL];constructor
 ·intro h;obtain⟨h1,D⟩:=tY.1 h;obtain⟨l,aH,aj⟩:=rQ.1 h1;obtain⟨bl,b2⟩:=Fa aa aH;rcases aj with⟨rfl,rfl⟩|⟨rfl,rfl⟩
  ·rw[bl]at h;cases h
   exact⟨l,aH,.inl rfl⟩
  ·rw[b2]at h;cases h
   exact⟨l,aH,.inr rfl⟩
 ·rintro⟨l,aH,h|h⟩
  ·injection h with h1 D
   injection h1 with aj a1
   subst aj;subst a1;subst D
   exact(Fa aa aH).1
  ·injection h with h1 D
   injection h1 with aj a1
   subst aj;subst a1;subst D
   exact(Fa aa aH).2
def ae6(aa:fH g){y:Int}(h:eL eR (hU g) x y):∃m,hA (iL g) x y m:=by
 induction h with
 |refl v=>exact⟨0,.nil⟩
 |step a ay _ bg=>
  obtain⟨m,hm⟩:=bg;have:iL g a.Hop.bz a.Hop.br=some a.c6:=(Cf aa).2 ay;exact⟨_,(hA.one this).trans hm⟩
def RT(aa:fH g){y m:Int}(h:hA (iL g) x y m):eL eR (hU g) x y:=by
 induction h with
 |nil=>exact .refl _
 |@snoc x b m k _ hk bg=>exact bg.trans (eL.one (N:=eR) (a:=bB.mk (b6.mk x b) k) ((Cf aa).1 hk))
def YP(aa:fH g):∀(n:Nat) (C2:cq) (H:wX) (x t:Int),C2.length=n→(∀a∈H,a∈hU g)→(∀a∈H,a.Hop.bz∈C2)→eL eR H x t→∃m,hA (iL g) x t m∧m≤1000*(n:Int):=by
 intro n;induction n with
 |zero=>
  intro C2 H x t UU n2 bm h;cases h with
  |refl _=>exact⟨0,.nil,by omega⟩
  |step a ay _=>
   have:=bm a ay;rw[eq_nil_of_length_eq_zero UU]at this;cases this
 |succ n bg=>
  intro C2 H x t UU n2 bm h;by_cases uY:x=t
  ·subst uY;exact⟨0,.nil,by omega⟩
  ·obtain⟨e,he,X,af⟩:=NB h uY;have X:e.Hop.bz=x:=X;have U3:=bm e he;rw[X]at U3
   obtain⟨m,h1,D⟩:=bg (C2.erase x) _ e.Hop.br t (by rw[length_erase_of_mem U3];omega) (λa ay=>n2 a (List.mem_filter.1 ay).1) (λa ay=>by
    obtain⟨ak,ar⟩:=List.mem_filter.1 ay;have aM:¬eR.src a=x:=by simpa using ar
    exact(List.mem_erase_of_ne aM).2 (bm a ak)) af
   have hk:iL g x e.Hop.br=some e.c6:=by rw[←X];exact(Cf aa).2 (n2 e he)
   have:=(Ce aa hk).2;exact⟨_,(hA.one hk).trans h1,by omega⟩
variable {a b:Int}
def NJ(aa:fH t)(ay:a∈ids t)(h:dst (iL t) a b=some k):0≤k∧k≤24000:=by
 obtain⟨m,h1,D⟩:=YP aa _ (ids t) (hU t) a b rfl (λa ay=>ay) (λa ay=>(we aa ((Cf aa).2 ay)).1) (RT aa (nw.1 h).1);have aj:=(nw.1 h).2 _ h1;have a1:=aa.vg;have bU:(ids t).length=t.bC.length:=by simp[ids]
 exact⟨H3 (u7 aa) h,by omega⟩
def Yi(aa:fH t){d dh:cq}(dc:yt t to d)(hle:∀z∈ids t,fo t dh z≤fo t d z)
  (aB:∀l∈t.Links,(fo t d l.B<1073741824→fo t dh l.A≤l.kP+fo t d l.B)∧(fo t d l.A<1073741824→fo t dh l.B≤l.kQ+fo t d l.A)):s2 t to dh≤s2 t to d∧(s2 t to d≠0→s2 t to dh<s2 t to d):=by
 have akp:∀x∈ids t,q3 t to dh x=true→q3 t to d x=true:=λx u h=>by
  simp only[q3,decide_eq_true_eq]at h ⊢;obtain⟨k,h1,D⟩:=h;exact⟨k,h1,by have:=hle x u;omega⟩
 obtain⟨f1,f2⟩:=XM akp;refine⟨f1,λcb=>?_⟩;have ex:∀(n:Nat) (x k:Int),k.toNat=n→x∈ids t→dst (iL t) x to=some k→k<fo t d x→∃x k,x∈ids t∧dst (iL t) x to=some k∧k<fo t d x∧∀y m,y∈ids t→dst (iL t) y to=some m→m<k→fo t d y≤m:=by
  intro n;induction n using Nat.strongRecOn with
  |_ n bg=>
   intro x k aR u h1 D;by_cases ny:∀y m,y∈ids t→dst (iL t) y to=some m→m<k→fo t d y≤m
   ·exact⟨x,k,u,h1,D,ny⟩
   ·have:∃y m,y∈ids t∧dst (iL t) y to=some m∧m<k∧m<fo t d y:=by
     refine Classical.byContradiction λaf=>ny λy m ak ar aM=>?_;by_cases q:fo t d y≤m
     ·exact q
     ·exact absurd ⟨y,m,ak,ar,aM,by omega⟩ af
    obtain⟨y,m,ak,ar,aM,aK⟩:=this;have:=H3 (u7 aa) ar;exact bg m.toNat (by omega) y m rfl ak ar aK
 have:∃x,x∈(ids t).filter (q3 t to d):=by
  cases bm:(ids t).filter (q3 t to d)with
  |nil=>exact absurd (by unfold s2;rw[bm];rfl) cb
  |cons x r=>exact⟨x,by simp⟩
 obtain⟨l4,lZ⟩:=this;obtain⟨m1,m2⟩:=List.mem_filter.1 lZ;simp only[q3,decide_eq_true_eq]at m2;obtain⟨rR,sR,zC⟩:=m2;obtain⟨x,k,NW,CA,an6,an7⟩:=ex _ l4 rR rfl m1 sR zC;refine f2 x NW (by simp only[q3,decide_eq_true_eq];exact⟨k,CA,an6⟩) ?_;simp only[q3,decide_eq_false_iff_not];rintro⟨dS,j6,CB⟩;rw[CA]at j6;cases j6
 have uY:x≠to:=λe=>by
  subst e;have:=H3 (u7 aa) CA;have:=dc.z;omega
 obtain⟨y,w,m,np,qD,z3⟩:=YO CA uY;obtain⟨_,ag⟩:=we aa np;have an:=Ce aa np;have aqP:=an7 y m ag qD (by omega);have mD:=NJ aa ag qD;obtain⟨l,aH,he⟩:=rQ.1 (tY.1 np).1;have bL:=aa.lt l aH;rcases he with⟨rfl,rfl⟩|⟨rfl,rfl⟩
 ·have af:w=l.kP:=by
   rw[←(tY.1 np).2,rP aa aH (by simp[lU])];simp[qn]
  have:=(aB l aH).1 (by omega);omega
 ·have af:w=l.kQ:=by
   have:l.A≠l.B:=by omega
   rw[←(tY.1 np).2,rP aa aH (by simp[lU])];simp[qn,this]
  have:=(aB l aH).2 (by omega);omega
structure JG(t:bA)(to:Int)(d:List Int):Prop where
 len:d.length=t.bC.length
 val:∀x∈ids t,fo t d x=(dst (iL t) x to).getD 1073741824
def ae7(aa:fH t)(aN:to∈ids t):Ok (EK t to) (JG t to):=by
 have aR:t.bC.length≤24:=aa.vg;unfold EK;refine asP (by simp;omega) ?_;refine asW (λ(s:cq×Int)=>s.1.length=t.bC.length∧0≤s.2∧s.2≤(t.bC.length:Int)∧∀j:Nat,(j:Int)<s.2→s.1[j]?=((ids t)[j]?).map λy=>if y=to then 0 else 1073741824) (λ(s:cq×Int)=>((t.bC.length:Int)-s.2).toNat) (s:=(List.replicate ((t.bC.length:Int)).toNat (0:Int),(0:Int))) ⟨by simp,Int.le_refl _,by simp,λj aT=>by simp at aT;omega⟩ (by simp;omega) ?_;rintro⟨d,i⟩ b7 ⟨lG,lH,i3,l0⟩ jr;simp only at lG lH i3 l0 jr ⊢;refine Ok.cs (λh1=>?_) λh1=>?_
 ·have hi:i<d.length:=of_decide_eq_true h1;refine asQ (λd2=>d2.length=t.bC.length∧∀j:Nat,(j:Int)<i+1→d2[j]?=((ids t)[j]?).map λy=>if y=to then 0 else 1073741824) (λd2 tK=>?_) λJ iQ=>?_
  ·rw[OM (by omega) (by omega)];exact jr (d2,i+1) ⟨tK.1,by omega,by omega,tK.2⟩ (by simp only;omega)
  refine Ok.aW (qT lH (by omega)) λ_ _=>Ok.aW (JL lH hi) λo9 gh=>Ok.aW (qT lH (by omega)) λe he=>?_;have sB:(ids t)[i.toNat]?=some e.cu:=by simp[ids,he.2]
  obtain⟨rfl,kU⟩:=gh
  have Tg:∀(v:Int) (l:cq),l=d.set i.toNat v→v=(if e.cu=to then 0 else 1073741824)→l.length=t.bC.length∧∀j:Nat,(j:Int)<i+1→l[j]?=((ids t)[j]?).map λy=>if y=to then 0 else 1073741824:=by
   rintro v l rfl Mg;refine⟨by simpa using lG,λj aT=>?_⟩;rw[List.getElem?_set];by_cases aJ:i.toNat=j
   ·subst aJ;rw[if_pos rfl,if_pos (by omega),sB,Mg];rfl
   ·rw[if_neg aJ];exact l0 j (by omega)
  refine Ok.cs (λD=>?_) λD=>?_
  ·refine Ok.aW (qT lH (by simpa using hi)) λ_ _=>Ok.aW (JL lH (by simpa using hi)) λji mY=>iQ ji (Tg 0 ji (by rw[mY.1,List.set_set]) (by rw[if_pos (of_decide_eq_true D)]))
  ·exact iQ _ (Tg 1073741824 _ rfl (by rw[if_neg (of_decide_eq_false D)]))
 have hi:i=(t.bC.length:Int):=by have:=of_decide_eq_false h1;omega
 subst hi
 have Mf:∀x∈ids t,fo t d x=if x=to then 0 else 1073741824:=λx u=>by
  have aC:=Jk u;have:=l0 (oo t x) (by omega);rw[show(ids t)[oo t x]?=some x by
   unfold oo;rw[List.getElem?_eq_getElem (List.idxOf_lt_length_of_mem u)];exact congrArg some (getElem_idxOf _)]at this
  unfold fo;rw[getD_eq_getElem?_getD,this];rfl
 have aje:yt t to d:=⟨lG,λx u=>by rw[Mf x u];split<;>omega,λx u h=>by
  rw[Mf x u]at h ⊢;split
  ·rename_i e;subst e;exact .nil
  ·rename_i e;rw[if_neg e]at h;omega,by rw[Mf to aN,if_pos rfl];exact Int.le_refl _⟩
 have aqs:s2 t to d≤t.bC.length:=by
  have:=length_filter_le (q3 t to d) (ids t);simpa [s2,ids]using this
 refine asW (λ(s:cq×Int)=>yt t to s.1∧0≤s.2∧s.2≤(t.bC.length:Int)∧(s2 t to s.1:Int)+s.2≤(t.bC.length:Int)) (λ(s:cq×Int)=>((t.bC.length:Int)-s.2).toNat) (s:=(d,(0:Int))) ⟨aje,Int.le_refl _,by simp,by simp;omega⟩ (by simp;omega) ?_;rintro⟨d,round⟩ b7 ⟨bk,dn,eZ,mF⟩ jr;simp only at bk dn eZ mF jr ⊢;refine Ok.cs (λh1=>?_) λh1=>.s ?_
 ·have aB:round<(t.bC.length:Int):=by have:=of_decide_eq_true h1;rw[bk.len]at this;exact this
  refine as7 (λp dh=>yt t to dh∧(∀z∈ids t,fo t dh z≤fo t d z)∧∀l∈p,(fo t d l.B<1073741824→fo t dh l.A≤l.kP+fo t d l.B)∧(fo t d l.A<1073741824→fo t dh l.B≤l.kQ+fo t d l.A)) ?_ _ ⟨bk,λ_ _=>Int.le_refl _,by simp⟩ ?_
  ·rintro p l r d4 hR mh ⟨gv,cK,pT⟩ DN;have aH:l∈t.Links:=by rw[mh];simp
   obtain⟨bl,b2⟩:=Fa aa aH;obtain⟨jU,a2⟩:=we aa bl;obtain⟨gJ,gA,mM⟩:=QO aa aN gv bl;obtain⟨dW,eg,s3⟩:=QO aa aN gJ b2;have ak:=Pv (β:=cq) aa gv jU a2 (Ce aa bl);have ar:=Pv (β:=cq) aa gJ a2 jU (Ce aa b2)
   have aiV:=DN (vk t (vk t d4 l.A l.B l.kP) l.B l.A l.kQ) ⟨dW,λz hz=>Int.le_trans (eg z hz) (Int.le_trans (gA z hz) (cK z hz)),λm hm=>by
    rcases List.mem_append.1 hm with hm|hm
    ·obtain⟨hy,jA⟩:=pT m hm;have vS:m∈t.Links:=by rw[mh];simp[hm]
     obtain⟨dO,ep⟩:=we aa (Fa aa vS).1;exact⟨λh=>by have:=hy h;have:=eg _ dO;have:=gA _ dO;omega,λh=>by have:=jA h;have:=eg _ ep;have:=gA _ ep;omega⟩
    ·rw[List.mem_singleton.1 hm];refine⟨λh=>?_,λh=>?_⟩
     ·have aJ:=cK _ a2;have e2:=mM (by omega);have dm:=eg _ jU;omega
     ·have aJ:=cK _ jU;have e2:=gA _ jU;have dm:=s3 (by omega);omega⟩
   rw[Pu jU,Pu a2];refine Eq.mpr (congrArg (λo=>Ok o (JG t to)) ?_) aiV;refine(ak _).trans ?_;exact ar _
  ·rintro dh ⟨gv,cK,pT⟩;rw[OM (by omega) (by omega)];obtain⟨hH,g3⟩:=Yi aa bk cK pT;refine jr (dh,round+1) ⟨gv,by omega,by omega,?_⟩ (by simp only;omega);by_cases hz:s2 t to d=0
   ·simp only;omega
   ·have:=g3 hz;simp only;omega
 ·have aB:round=(t.bC.length:Int):=by have:=of_decide_eq_false h1;rw[bk.len]at this;omega
  have U:s2 t to d=0:=by omega
  refine⟨bk.len,λx u=>?_⟩;have vT:q3 t to d x=false:=by
   cases bV:q3 t to d x with
   |false=>rfl
   |true=>
    have:x∈(ids t).filter (q3 t to d):=List.mem_filter.2 ⟨u,bV⟩;have:=length_pos_of_mem this;unfold s2 at U;omega
  simp only[q3,decide_eq_false_iff_not]at vT;cases Z:dst (iL t) x to with
  |some k=>
   have mD:=NJ aa u Z;have h1:fo t d x≤k:=by
    by_cases q:fo t d x≤k
    ·exact q
    ·exact absurd ⟨k,Z,by omega⟩ vT
   have D:=(nw.1 Z).2 _ (bk.Cr x u (by omega));simp only[Option.getD_some];omega
  |none=>
   simp only[Option.getD_none];have h1:=bk.le x u;by_cases q:fo t d x<1073741824
   ·exact absurd (bk.Cr x u q) ((QK (u7 aa)).1 Z _)
   ·omega
open Classical in
noncomputable def pG(t:bA)(a b:Int):jo:=if oj t=0∧a∈ids t∧b∈ids t then dst (iL t) a b else none
def FY(aa:fH t)(ay:a∈ids t)(U:b∈ids t):pG t a b=dst (iL t) a b:=by
 unfold pG;rw[if_pos ⟨wk.2 aa,ay,U⟩]
def JW(h:pG t a b=some k):fH t∧a∈ids t∧b∈ids t∧dst (iL t) a b=some k:=by
 unfold pG at h;split at h
 ·rename_i af;exact⟨wk.1 af.1,af.2.1,af.2.2,h⟩
 ·cases h
def Fg(h:¬(oj t=0∧a∈ids t∧b∈ids t)):pG t a b=none:=by unfold pG;rw[if_neg h]
def QS(h:pG t a b=some k):0≤k∧k≤24000:=by
 obtain⟨aa,ay,U,Z⟩:=JW h;exact NJ aa ay Z
def ac4(aa:fH t)(ay:a∈ids t):pG t a a=some 0:=by rw[FY aa ay ay,QL (u7 aa)]
def ac5(aa:fH t)(ay:a∈ids t)(U:b∉ids t):dst (iL t) a b=none:=
 (QK (u7 aa)).2 λm hm=>U (hm.ids aa ay)
noncomputable def vl(t:bA)(a b:Int):Int×Bool:=((pG t a b).getD 0,(pG t a b).isSome)
def ahm(aa:fH t)(aN:to∈ids t){d:cq}(Z:JG t to d)(x:Int):Bu t d x=some ((pG t x to).getD 1073741824):=by
 rw[ae5];by_cases u:x∈ids t
 ·rw[if_pos u,Ow Z.len u,Z.val x u,FY aa u aN]
 ·rw[if_neg u,Fg λe=>u e.2.1];rfl
def I6{r:Int}:jH t r=decide (r∈ids t):=by
 by_cases h:r∈ids t
 ·rw[decide_eq_true h,uc.1 h]
 ·rw[decide_eq_false h];cases cA:jH t r with
  |false=>rfl
  |true=>exact absurd (uc.2 cA) h
def ZU(t:bA)(a b:Int)(k:Bool→Option α):(jn k λJ=>aW (xE t a) λ(dK:Bool)=>bif !dK then J true else aW (xE t b) λ(fS:Bool)=>J (!fS))=k (!decide (oj t=0∧a∈ids t∧b∈ids t)):=by
 simp only[jn];rw[Rg,Rg,eu,I6,I6];by_cases h:oj t=0<;>by_cases h1:a∈ids t<;>by_cases D:b∈ids t<;>simp[h,h1,D,aW]
def YQ(t:bA)(a b:Int):Ez t a b=some (vl t a b):=by
 unfold Ez;refine(ZU t a b _).trans ?_;by_cases h:oj t=0∧a∈ids t∧b∈ids t
 ·have aa:=wk.1 h.1;obtain⟨d,h1,D⟩:=ae7 aa h.2.2;rw[decide_eq_true h];simp only[Bool.not_true,cond_false];rw[h1,eu,ahm aa h.2.2 D,eu];unfold vl;cases Z:pG t a b with
  |none=>rfl
  |some k=>
   have:=QS Z;simp only[Option.getD_some,Option.isSome_some];rw[decide_eq_false (by omega)];rfl
 ·rw[decide_eq_false h];unfold vl;rw[Fg h];rfl
end
section
def QT{f:Int→Int}:∀(b:cq) (i:Nat),i<b.length→∀x,((b.set i x).map f).sum=(b.map f).sum-f (b.getD i 0)+f x
 |[],_,h,_=>by simp at h
 |y::b,0,_,x=>by simp;omega
 |y::b,i+1,h,x=>by
  have:=QT (f:=f) b i (by simpa using h) x;simp only[set_cons_succ,map_cons,sum_cons,getD_cons_succ];omega
def QU{f:Int→Int}{m:Int}(h:∀x,0≤f x∧f x≤m):∀b:cq,0≤(b.map f).sum∧(b.map f).sum≤m*b.length
 |[]=>by simp
 |y::b=>by
  have h1:=QU h b;have D:=h y;simp only[map_cons,sum_cons,length_cons,Int.natCast_add,Int.mul_add];omega
def Kh{b:cq}{i:Nat}(hi:i<b.length)(x:Int)(v:Nat):(b.set i x).getD v 0=if v=i then x else b.getD v 0:=by
 rw[getD_eq_getElem?_getD,getD_eq_getElem?_getD,List.getElem?_set];by_cases h:v=i
 ·subst h;simp[hi]
 ·rw[if_neg h,if_neg λe=>h e.symm]
abbrev vw:Int:=1099511627776
def s4(x:Int):Int:=if x<vw then 1 else 0
def fin(b:cq):Int:=(b.map s4).sum
def ac6(b:cq):0≤fin b∧fin b≤b.length:=by
 have:=QU (f:=s4) (m:=1) (λx=>by unfold s4;split<;>omega) b;unfold fin;omega
def ac7{b:cq}{i:Nat}(hi:i<b.length)(x:Int):fin (b.set i x)=fin b-s4 (b.getD i 0)+s4 x:=QT b i hi x
def nu(cs:nq)(aA v:Nat):Int:=(cs.getD aA []).getD v 0
structure KJ(V:List Int)(L:List bB)(cs:List (List Int)):Prop where
 nd:V.Nodup
 le:V.length≤24
 len:cs.length=V.length
 row:∀aA,aA<V.length→(cs.getD aA []).length=V.length
 K1:∀a∈L,a.Hop.bz∈V∧a.Hop.br∈V∧nu cs (V.idxOf a.Hop.bz) (V.idxOf a.Hop.br)=a.c6∧1≤a.c6∧a.c6≤1000
 hop:∀aA v,aA<V.length→v<V.length→0<nu cs aA v→bB.mk (b6.mk (V.getD aA 0) (V.getD v 0)) (nu cs aA v)∈L
def KJ.ak9{V:cq}{L:wX}{cs:nq}(h:KJ V L cs){aA v:Nat}(hu:aA<V.length)(aa:v<V.length)(he:0<nu cs aA v):nu cs aA v≤1000:=(h.K1 _ (h.hop aA v hu aa he)).2.2.2.2
section tab
variable {V:cq}{L:wX}{cs:nq}{ts:cq}
structure wS(V:List Int)(L:List bB)(ts:List Int)(S:Nat)(b:List Int):Prop where
 len:b.length=V.length
 bd:∀v,v<V.length→0≤b.getD v 0∧b.getD v 0≤vw
 ok:∀v,v<V.length→b.getD v 0<vw→b.getD v 0≤48000*S-48000+1000*fin b∧∃H,nr eR L ts.length (λi=>ts.getD i 0) S (V.getD v 0) H∧gB eR H=b.getD v 0
structure Du(V:List Int)(L:List bB)(cs:List (List Int))(ts:List Int)(rows:List (List Int))(S:Nat)(b:List Int):Prop where
 s:wS V L ts S b
 one:∀i,i<ts.length→S=2 ^ i→b.getD (V.idxOf (ts.getD i 0)) 0≤0
 hop:∀aA v,aA<V.length→v<V.length→0<nu cs aA v→b.getD aA 0≤nu cs aA v+b.getD v 0
 part:∀P R,0<P→0<R→P &&& R=0→P ||| R=S→∀v,v<V.length→b.getD v 0≤(rows.getD P []).getD v 0+(rows.getD R []).getD v 0
def wS.put{S:Nat}{b:cq}(h:wS V L ts S b){aA:Nat}(hu:aA<V.length){c:Int}(bM:0≤c)(af:c<vw)(U:c≤48000*S-48000+1000*fin b∨c≤48000*S-48000+1000*fin b+1000∧vw≤b.getD aA 0∨∃v,v<V.length∧v≠aA∧b.getD v 0<vw∧c≤b.getD v 0+1000∧c≤b.getD aA 0)
  (aQ:∃H,nr eR L ts.length (λi=>ts.getD i 0) S (V.getD aA 0) H∧gB eR H=c):wS V L ts S (b.set aA c):=by
 have kI:aA<b.length:=by rw[h.len];exact hu
 have kH:=h.bd aA hu;have ajZ:=ac7 kI c;have ajW:s4 c=1:=by unfold s4;rw[if_pos af]
 have U9:fin b≤fin (b.set aA c):=by
  rw[ajZ,ajW];unfold s4;split<;>omega
 refine⟨by rw[length_set];exact h.len,λv aa=>?_,λv aa vR=>?_⟩
 ·rw[Kh kI];split
  ·omega
  ·exact h.bd v aa
 ·rw[Kh kI]at vR ⊢;by_cases e:v=aA
  ·subst e;rw[if_pos rfl];refine⟨?_,aQ⟩;rcases U with U|⟨U,bm⟩|⟨w,hn,jl,ri,ase,asf⟩
   ·omega
   ·have:s4 (b.getD v 0)=0:=by unfold s4;rw[if_neg (by omega)]
    omega
   ·by_cases bm:b.getD v 0<vw
    ·have:=(h.ok v aa bm).1;omega
    ·have:s4 (b.getD v 0)=0:=by unfold s4;rw[if_neg bm]
     have:=(h.ok w hn ri).1;omega
  ·rw[if_neg e]at vR ⊢;obtain⟨h1,D⟩:=h.ok v aa vR;exact⟨by omega,D⟩
def Du.le{rows:nq}{S:Nat}{b:cq}(GH:V.length≤24)(h:Du V L cs ts rows S b){v:Nat}(aa:v<V.length)(bm:b.getD v 0<vw):b.getD v 0≤48000*S-24000:=by
 have h1:=(h.s.ok v aa bm).1;have D:=(ac6 b).2;have aj:=h.s.len;omega
def wS.step{S:Nat}{b:cq}(oC:KJ V L cs)(h:wS V L ts S b){aA v:Nat}(hu:aA<V.length)(aa:v<V.length)(he:0<nu cs aA v)(bL:nu cs aA v+b.getD v 0<b.getD aA 0):wS V L ts S (b.set aA (nu cs aA v+b.getD v 0)):=by
 have h1:=oC.ak9 hu aa he;have D:=h.bd v aa;have aj:=h.bd aA hu;have bm:b.getD v 0<vw:=by omega
 obtain⟨a1,H,bU,dP⟩:=h.ok v aa bm;refine h.put hu (by omega) (by omega) (.inr (.inr ⟨v,aa,λe=>by subst e;omega,bm,by omega,by omega⟩)) ⟨_,nr.hop (N:=eR) _ (oC.hop aA v hu aa he) bU,?_⟩;rw[qM,dP];rfl
end tab
end
section
def ZV{g:bA}(aa:fH g){x y:Int}(u:x∈ids g)(ag:y∈ids g):(vl g x y).2=true↔eL eR (hU g) x y:=by
 unfold vl;simp only;rw[FY aa u ag];constructor
 ·intro h;obtain⟨k,hk⟩:=Option.isSome_iff_exists.1 h;exact RT aa (nw.1 hk).1
 ·intro h;obtain⟨m,hm⟩:=ae6 aa h;obtain⟨k,hk,_⟩:=RR (u7 aa) hm;rw[hk];rfl
def ac8{g:bA}(aa:fH g){a:bB}(ay:a∈hU g):a.Hop.bz∈ids g∧a.Hop.br∈ids g:=by
 obtain⟨k,hk,h⟩:=zL.1 ay;have:=aa.ends k hk;rcases h with rfl|rfl
 ·exact⟨uc.2 this.1,uc.2 this.2⟩
 ·exact⟨uc.2 this.2,uc.2 this.1⟩
def zx{A:Type}[DecidableEq A]{a b:List A}(h:a.Nodup)(X:∀x∈a,x∈b):a.length≤b.length:=by
 induction a generalizing b with
 |nil=>simp
 |cons x a bg=>
  rw[nodup_cons]at h;have u:=X x (by simp);have:=bg (b:=b.erase x) h.2 λy ag=>(List.mem_erase_of_ne (λe=>h.1 (by rw[←e];exact ag))).2 (X y (by simp[ag]));rw[length_erase_of_mem u]at this;have:=length_pos_of_mem u;simp only[length_cons];omega
def ZW{aq:wX}(eo:pR aq){root:Int}{ts:cq}{X:zu}{c:Int}(h:oI aq root ts X c):X.length≤1000:=by
 obtain⟨⟨hf,kb,af,aC⟩,Dv⟩:=h;have h1:hf.length≤aq.length:=zx kb.nodup kb.sub;have D:=aC.length_eq;have aj:=eo.len;rw[length_map]at D;omega
end
section
def ZX{S P R:Nat}(bM:P &&& R=0)(h:P ||| R=S)(oD:0<P):R<S:=zN (by rw[Nat.and_comm];exact bM) (by rw[Nat.or_comm];exact h) oD
def Ox{α:Type}(d:α){l:List α}{i:Nat}(hi:i<l.length)(x:α)(v:Nat):(l.set i x).getD v d=if v=i then x else l.getD v d:=by
 rw[getD_eq_getElem?_getD,getD_eq_getElem?_getD,List.getElem?_set];by_cases h:v=i
 ·subst h;simp[hi]
 ·rw[if_neg h,if_neg λe=>h e.symm]
section tab
variable {V:cq}{L:wX}{cs:nq}{ts:cq}
def ave{rows Th:nq}{S:Nat}{b:cq}(h:Du V L cs ts rows S b)(he:∀P,P<S→Th.getD P []=rows.getD P []):Du V L cs ts Th S b:=by
 refine⟨h.s,h.one,h.hop,λP R oD cf bM ai v aa=>?_⟩;have h1:=zN bM ai cf;have D:=ZX bM ai oD;rw[he P h1,he R D];exact h.part P R oD cf bM ai v aa
structure Way(V:List Int)(L:List bB)(ts:List Int)(rows:List (List Int))(S:Nat)(j:Nat)(p:Nat→Nat→Prop)(b:List Int):Prop where
 len:b.length=V.length
 z:S=0→∀v,v<V.length→b.getD v 0=0
 s:0<S→wS V L ts S b
 one:∀i,i<j→i<ts.length→S=2 ^ i→b.getD (V.idxOf (ts.getD i 0)) 0≤0
 part:∀P v,p P v→0<P→P<S→P &&& S=P→v<V.length→b.getD v 0≤(rows.getD P []).getD v 0+(rows.getD (S ^^^ P) []).getD v 0
def Way.down{rows:nq}{S j:Nat}{p:Nat→Nat→Prop}{b:cq}(h:Way V L ts rows S j p b)(fq:0<S){aA:Nat}{c:Int}(hu:aA<V.length)(hle:c≤b.getD aA 0)(cf:wS V L ts S (b.set aA c)):Way V L ts rows S j p (b.set aA c):=by
 have kI:aA<b.length:=by rw[h.len];exact hu
 have GS:∀v,(b.set aA c).getD v 0≤b.getD v 0:=λv=>by
  rw[Kh kI];split
  ·rename_i e;subst e;exact hle
  ·exact Int.le_refl _
 exact⟨cf.len,λbM=>by omega,λ_=>cf,λi h1 D aj=>Int.le_trans (GS _) (h.one i h1 D aj),λP v h1 D aj a1 bU=>Int.le_trans (GS _) (h.part P v h1 D aj a1 bU)⟩
end tab
end
section
def ada{m:nq}{n aA v:Nat}{c:Int}(hm:m.length=n)(aB:∀aA,aA<n→(m.getD aA []).length=n)(hu:aA<n)(aa:v<n)(IL dF:Nat):nu (m.set aA ((m.getD aA []).set v c)) IL dF=if IL=aA∧dF=v then c else nu m IL dF:=by
 unfold nu;rw[Ox [] (by omega)];by_cases h:IL=aA
 ·subst h;rw[if_pos rfl,Ox 0 (by rw[aB _ hu];exact aa)];by_cases D:dF=v
  ·rw[if_pos D,if_pos ⟨rfl,D⟩]
  ·rw[if_neg D,if_neg λh=>D h.2]
 ·rw[if_neg h,if_neg λD=>h D.1]
def ZY{m:nq}{n aA v:Nat}{c:Int}(hm:m.length=n)(aB:∀aA,aA<n→(m.getD aA []).length=n)(hu:aA<n):∀w,w<n→((m.set aA ((m.getD aA []).set v c)).getD w []).length=n:=λw an=>by
 rw[Ox [] (by omega)];split
 ·rw[length_set];exact aB aA hu
 ·exact aB w an
end
section
abbrev Dw(l:cq):Bool:=nh (λa b=>decide (a<b)) l
def aay{l:cq}(h:l.Pairwise (·<·)):Dw l=true:=Bq (h.imp λh=>by simpa using h)
end
section
abbrev ja:=List (b6×Int)
instance aqG:DecidableEq b6:=λa b=>decidable_of_iff (i0 a b=true) (qL a b)
def Jl(l:ja)(n m:b6)(v:Int):mo i0 (p0 i0 l n v) m=if m=n then some v else mo i0 l m:=by
 induction l with
 |nil=>
  simp only[p0,mo,find?_cons,find?_nil];cases h:i0 m n with
  |true=>rw[if_pos ((qL _ _).1 h)];rfl
  |false=>rw[if_neg (λe=>by rw[(qL m n).2 e]at h;cases h)]
 |cons p r bg=>
  simp only[p0];cases aR:i0 n p.1 with
  |true=>
   have aR:=(qL _ _).1 aR;simp only[cond_true,mo,find?_cons];rw[←aR];cases h:i0 m n with
   |true=>rw[if_pos ((qL _ _).1 h)];rfl
   |false=>rw[if_neg (λe=>by rw[(qL m n).2 e]at h;cases h)]
  |false=>
   simp only[cond_false,mo,find?_cons];cases h:i0 m p.1 with
   |true=>
    have h:=(qL _ _).1 h;rw[if_neg (λe=>by rw[←e,h,(qL p.1 p.1).2 rfl]at aR;cases aR)]
   |false=>
    have:=bg;simp only[mo]at this;exact this
def ahn{l:ja}(Z:(l.map (·.1)).Nodup){n:b6}{v:Int}(h:(n,v)∈l):mo i0 l n=some v:=by
 induction l with
 |nil=>cases h
 |cons p r bg=>
  simp only[map_cons,nodup_cons]at Z;simp only[mo,find?_cons];rcases mem_cons.1 h with rfl|h
  ·rw[(qL n n).2 rfl];rfl
  ·cases he:i0 n p.1 with
   |true=>rw[(qL _ _).1 he]at h;exact(Z.1 (List.mem_map.2 ⟨_,h,rfl⟩)).elim
   |false=>exact bg Z.2 h
def adb{l:ja}{n:b6}:mo i0 l n=none↔n∉l.map (·.1):=by
 simp only[mo,Option.map_eq_none_iff,List.find?_eq_none,List.mem_map];constructor
 ·rintro h ⟨p,aC,rfl⟩;exact h p aC ((qL _ _).2 rfl)
 ·intro h p aC he;exact h ⟨p,aC,((qL _ _).1 he).symm⟩
def QV(l:ja)(n:b6)(v:Int):(p0 i0 l n v).map (·.1)=if n∈l.map (·.1)then l.map (·.1)else l.map (·.1)++[n]:=by
 induction l with
 |nil=>simp[p0]
 |cons p r bg=>
  simp only[p0];cases aR:i0 n p.1 with
  |true=>
   have aR:=(qL _ _).1 aR;simp[aR]
  |false=>
   have cb:n≠p.1:=λe=>by rw[(qL n p.1).2 e]at aR;cases aR
   simp only[cond_false,map_cons,bg,mem_cons,cb,false_or];split<;>simp
def Ki{l:ja}(h:(l.map (·.1)).Nodup)(n:b6)(v:Int):((p0 i0 l n v).map (·.1)).Nodup:=by
 rw[QV];split
 ·exact h
 ·rename_i aR;rw[nodup_append];exact⟨h,by simp,λa ay b U=>by rw[List.mem_singleton]at U;subst U;exact λe=>aR (e▸ay)⟩
def kA(r:ja)(h:b6):Int:=(mo i0 r h).getD 0
def z6(g:bA)(r:ja)(n:Int):wX:=(hU g).filter λa=>decide (n≤kA r a.Hop)
def Qv{g:bA}{r:ja}{n:Int}{a:bB}:a∈z6 g r n↔a∈hU g∧n≤kA r a.Hop:=by simp[z6]
def aaz{a b:wX}(h:∀x∈a,x∈b)(aH:a.length≤1000)(U:pR b):pR a:=⟨λx u=>U.cost x (h x u),λx u=>U.to x (h x u),λx u y ag=>U.hop x (h x u) y (h y ag),aH⟩
def ade{g:bA}(aa:fH g)(r:ja)(n:Int):pR (z6 g r n):=aaz (λ_ h=>(Qv.1 h).1) (by have:=length_filter_le (λa:bB=>decide (n≤kA r a.Hop)) (hU g);have:=E0 g;have:=aa.nl;unfold z6;omega) (I4 aa)
end
section
structure Jv(g:bA)(d:qm):Prop where
 root:d.mH∈ids g
 nQ:d.BF.Pairwise (·<·)
 arK:∀x∈d.BF,x∈ids g
 len:d.BF.length≤6
 Dh:1≤d.wT∧d.wT≤1000
structure rT(g:bA)(r:ja):Prop where
 nd:(r.map (·.1)).Nodup
 key:∀h,h∈r.map (·.1)↔∃a∈hU g,a.Hop=h
 val:∀h v,mo i0 r h=some v→0≤v∧v≤1000
variable {g:bA}{r:ja}
def rT.rg(h:rT g r)(x:b6):0≤kA r x∧kA r x≤1000:=by
 unfold kA;cases bu:mo i0 r x with
 |none=>simp
 |some v=>exact h.val x v bu
def rT.some{g:bA}{r:ja}(h:rT g r){a:bB}(ay:a∈hU g):(mo i0 r a.Hop).isSome=true:=by
 cases bu:mo i0 r a.Hop with
 |none=>exact absurd ((h.key _).2 ⟨a,ay,rfl⟩) (adb.1 bu)
 |some v=>rfl
def Fq(m:ja)(l:dR):ja:=p0 i0 (p0 i0 m (b6.mk l.A l.B) l.sH) (b6.mk l.B l.A) l.sH
def Fh(g:bA):ja:=g.Links.foldl Fq []
structure FN(ls:List dR)(m:ja):Prop where
 nd:(m.map (·.1)).Nodup
 get:∀h v,mo i0 m h=some v→∃l∈ls,(h=b6.mk l.A l.B∨h=b6.mk l.B l.A)∧v=l.sH
 key:∀l∈ls,b6.mk l.A l.B∈m.map (·.1)∧b6.mk l.B l.A∈m.map (·.1)
def Fi{l:ja}{n:b6}{v:Int}{h:b6}:h∈(p0 i0 l n v).map (·.1)↔h=n∨h∈l.map (·.1):=by
 rw[QV];split
 ·rename_i aR;exact⟨.inr,λcA=>cA.elim (λe=>e▸aR) id⟩
 ·rw[List.mem_append,List.mem_singleton,or_comm]
def RU:∀(ls pre:Aw) (m:ja),FN pre m→FN (pre++ls) (ls.foldl Fq m)
 |[],pre,m,h=>by simpa using h
 |x::r,pre,m,h=>by
  have:FN (pre++[x]) (Fq m x):=by
   refine⟨Ki (Ki h.nd _ _) _ _,λk v hk=>?_,λl aH=>?_⟩
   ·unfold Fq at hk;rw[Jl,Jl]at hk;split at hk
    ·rename_i e;cases hk
     exact⟨x,by simp,.inr e,rfl⟩
    ·split at hk
     ·rename_i e;cases hk
      exact⟨x,by simp,.inl e,rfl⟩
     ·obtain⟨l,h1,D⟩:=h.get k v hk;exact⟨l,by simp[h1],D⟩
   ·unfold Fq;rw[Fi,Fi,Fi,Fi];rcases List.mem_append.1 aH with aH|aH
    ·exact⟨.inr (.inr (h.key l aH).1),.inr (.inr (h.key l aH).2)⟩
    ·rw[List.mem_singleton]at aH;subst aH
     exact⟨.inr (.inl rfl),.inl rfl⟩
  have:=RU r (pre++[x]) _ this;simpa using this
def ae9(g:bA):FN g.Links (Fh g):=by
 have:=RU g.Links [] [] ⟨by simp,λh v hk=>by simp[mo]at hk,λl aH=>by cases aH⟩;unfold Fh;simpa using this
def aaA(aa:fH g):rT g (Fh g):=by
 have kg:=ae9 g;refine⟨kg.nd,λh=>⟨λhk=>?_,?_⟩,λh v hk=>?_⟩
 ·obtain⟨p,aC,rfl⟩:=List.mem_map.1 hk;obtain⟨l,h1,D,_⟩:=kg.get p.1 p.2 (ahn kg.nd aC);rcases D with D|D
  ·exact⟨_,zL.2 ⟨l,h1,.inl rfl⟩,D.symm⟩
  ·exact⟨_,zL.2 ⟨l,h1,.inr rfl⟩,D.symm⟩
 ·rintro⟨a,ay,rfl⟩;obtain⟨l,aH,rfl|rfl⟩:=zL.1 ay
  ·exact(kg.key l aH).1
  ·exact(kg.key l aH).2
 ·obtain⟨l,h1,_,rfl⟩:=kg.get h v hk;have:=aa.HX l h1;simp only[qx,Bool.or_eq_false_iff,decide_eq_false_iff_not]at this;omega
variable {X:zu}
def aaB(aB:rT g r){root n:Int}(aR:1≤n∧n≤1000)(Z:X.Nodup)(eV:∀h∈X,(∃a∈hU g,a.Hop=h)∧n≤kA r h):
  Ok (G8 r (hq.mk root X) n) λp=>p.1=true∧rT g p.2∧∀h,kA p.2 h=kA r h-if h∈X then n else 0:=by
 unfold G8;refine as7 (λpre (av:Bool×ja)=>av.1=true∧rT g av.2∧∀h,kA av.2 h=kA r h-if h∈pre then n else 0) ?_ _ ⟨rfl,aB,λh=>by simp⟩ ?_
 ·rintro pre x ij ⟨f,m⟩ b7 mh ⟨rfl,D,aj⟩ jr;simp only at D aj jr ⊢;have mh:X=pre++x::ij:=mh;have u:x∈X:=by rw[mh];simp
  have akT:x∉pre:=λh=>by
   rw[mh,nodup_append]at Z;exact Z.2.2 x h x (by simp) rfl
  obtain⟨⟨a,ay,rfl⟩,hle⟩:=eV x u;have bu:=aj a.Hop;rw[if_neg akT]at bu;have Ma:=D.rg a.Hop;have an:aF (((mo i0 m a.Hop).getD (0:Int))-n)=kA m a.Hop-n:=by
   show aF (kA m a.Hop-n)=_;exact iU (by omega) (by omega)
  have ig:∀h,kA (p0 i0 m a.Hop (kA m a.Hop-n)) h=if h=a.Hop then kA m a.Hop-n else kA m h:=λh=>by
   unfold kA;rw[Jl];split<;>simp
  refine asP (D.some ay) ?_;rw[cond_true,an];refine jr _ ⟨?_,⟨Ki D.nd _ _,λh=>?_,λh v hk=>?_⟩,λh=>?_⟩
  ·have:=ig a.Hop;rw[if_pos rfl]at this;show decide (0≤kA (p0 i0 m a.Hop (kA m a.Hop-n)) a.Hop)=true;rw[this,decide_eq_true];omega
  ·rw[Fi,D.key];exact⟨λcA=>cA.elim (λe=>⟨a,ay,e.symm⟩) id,.inr⟩
  ·rw[Jl]at hk;split at hk
   ·cases hk;omega
   ·exact D.val h v hk
  ·simp only;rw[ig];by_cases he:h=a.Hop
   ·subst he;rw[if_pos rfl,if_pos (by simp)];omega
   ·rw[if_neg he,aj h];by_cases aC:h∈pre
    ·rw[if_pos aC,if_pos (by simp[aC])]
    ·rw[if_neg aC,if_neg (by simp[aC,he])]
 ·rintro⟨f,m⟩ h;exact Ok.s h
def C1(g:bA)(r:ja)(d:qm)(t:hq)(r':ja):Prop:=
 (∃X c,t=hq.mk d.mH X∧oI (z6 g r d.wT) d.mH d.BF X c∧G8 r t d.wT=some (true,r'))∨(t=hq.mk 0 []∧(¬∀x,x∈d.BF→eL eR (z6 g r d.wT) d.mH x)∧r'=r)
inductive ry(g:bA):List qm→List hq→ja→Prop
 |nil:ry g [] [] (Fh g)
 |snoc {cS:List qm} {cL:List hq} {r r':ja} {d:qm} {t:hq} (h:ry g cS cL r) (X:C1 g r d t r'):ry g (cS++[d]) (cL++[t]) r'
def YA{aq:wX}(eo:pR aq){root:Int}{ts:cq}{c:Int}(h:oI aq root ts X c):X.Nodup∧∀x∈X,∃a∈aq,a.Hop=x:=by
 refine⟨h.nQ.imp λ{a b} bL e=>?_,λx u=>?_⟩
 ·subst e;simp[ht]at bL
 ·obtain⟨⟨hf,kb,_,aC⟩,_⟩:=h;obtain⟨a,ay,rfl⟩:=List.mem_map.1 (aC.mem_iff.1 u);exact⟨a,kb.sub a ay,rfl⟩
def YB(aa:fH g)(aB:rT g r){d:qm}(Z:Jv g d){root:Int}{c:Int}(h:oI (z6 g r d.wT) root d.BF X c):
  Ok (G8 r (hq.mk d.mH X) d.wT) λp=>p.1=true∧rT g p.2∧∀h,kA p.2 h=kA r h-if h∈X then d.wT else 0:=by
 obtain⟨h1,D⟩:=YA (ade aa r d.wT) h;refine aaB aB Z.Dh h1 λx u=>?_;obtain⟨a,ay,rfl⟩:=D x u;have:=Qv.1 ay;exact⟨⟨a,this.1,rfl⟩,this.2⟩
def C1.ok(aa:fH g){r':ja}{d:qm}{t:hq}(h:C1 g r d t r')(aB:rT g r)(Z:Jv g d):rT g r':=by
 rcases h with⟨X,c,rfl,U,bE⟩|⟨_,_,rfl⟩
 ·obtain⟨p,h1,_,aj,_⟩:=YB aa aB Z U;rw[bE]at h1;cases h1
  exact aj
 ·exact aB
def ry.ok{g:bA}(aa:fH g){cS:List qm}{cL:List hq}{r:ja}(h:ry g cS cL r)(Z:∀d∈cS,Jv g d):rT g r:=by
 induction h with
 |nil=>exact aaA aa
 |snoc h X bg=>exact X.ok aa (bg λd dH=>Z d (by simp[dH])) (Z _ (by simp))
def ry.len{cS:List qm}{cL:List hq}(h:ry g cS cL r):cL.length=cS.length:=by
 induction h with
 |nil=>rfl
 |snoc h X bg=>simp[bg]
def ry.at{g:bA}{cS:List qm}{cL:List hq}{r:ja}(h:ry g cS cL r):∀{i:Nat} {d:qm} {t:hq},cS[i]?=some d→cL[i]?=some t→∃wG r',ry g (cS.take i) (cL.take i) wG∧C1 g wG d t r':=by
 induction h with
 |nil=>intro i d t h;simp at h
 |@snoc cS cL r r' d0 t0 h X bg=>
  intro i d t h1 D;have aH:=h.len;by_cases hi:i<cS.length
  ·rw[List.getElem?_append_left hi]at h1;rw[List.getElem?_append_left (by omega)]at D;obtain⟨wG,alR,cp,cG⟩:=bg h1 D;exact⟨wG,alR,by rw[take_append_of_le_length (by omega),take_append_of_le_length (by omega)];exact cp,cG⟩
  ·obtain rfl:i=cS.length:=by
    have:=(List.getElem?_eq_some_iff.1 h1).1;simp at this;omega
   simp at h1;rw[←aH]at D;simp at D;subst h1;subst D
   refine⟨r,r',?_,X⟩;rw[take_left,←aH,take_left];exact h
end
section
def p1(x:vj):b6:=b6.mk x.bz x.br
end
section
def avm{g:bA}{cS:List qm}{d:qm}{cL:List hq}{r:ja}(h:ry g (cS++[d]) cL r):∃o t r',cL=o++[t]∧ry g cS o r'∧C1 g r' d t r:=by
 generalize he:cS++[d]=l at h;cases h with
 |nil=>simp at he
 |snoc h X=>
  obtain⟨h1,D⟩:=List.append_inj' he rfl;cases D;subst h1;exact⟨_,_,_,rfl,h,X⟩
end
section
def Fv(h k:b6):Prop:=h.bz<k.bz∨(h.bz=k.bz∧h.br<k.br)
def NK{h:b6}:¬Fv h h:=by unfold Fv;omega
structure w2(K:b6→Prop)(f:b6→Int)(l:List vj):Prop where
 nQ:l.Pairwise λa b=>Fv (p1 a) (p1 b)
 mem:∀x,x∈l↔K (p1 x)∧x.Count=f (p1 x)
 zero:∀h,¬K h→f h=0
def avh{K lQ:b6→Prop}{f oS:b6→Int}{l:List vj}(h:w2 K f l)(hk:∀h,K h↔lQ h)(bm:∀h,f h=oS h):w2 lQ oS l:=
 ⟨h.nQ,λx=>by rw[h.mem,hk,bm],λx u=>by rw[←bm];exact h.zero x (λcA=>u ((hk x).1 cA))⟩
def aaC{x y:vj}(h:p1 x=p1 y)(af:x.Count=y.Count):x=y:=by
 cases x;cases y
 simp only[p1,b6.mk.injEq]at h;simp only at af;rw[h.1,h.2,af]
def w2.put{K:b6→Prop}{f:b6→Int}{p mid r:List vj}{h:b6}{c:Int}(aH:w2 K f (p++mid++r))(aC:∀y∈p,Fv (p1 y) h)(aB:∀y∈r,Fv h (p1 y))(hm:∀y∈mid,p1 y=h):
  w2 (λk=>K k∨k=h) (λk=>if k=h then c else f k) (p++vj.mk h.bz h.br c::r):=by
 have sD:p1 (vj.mk h.bz h.br c)=h:=rfl
 have cb:∀y,(y∈p∨y∈r)→p1 y≠h:=λy ag e=>by
  rcases ag with ag|ag
  ·have:=aC y ag;rw[e]at this;exact NK this
  ·have:=aB y ag;rw[e]at this;exact NK this
 refine⟨?_,λx=>?_,λk hk=>?_⟩
 ·have ay:=aH.nQ;rw[List.append_assoc,pairwise_append]at ay;obtain⟨jU,a2,a3⟩:=ay;rw[pairwise_append]at a2;rw[pairwise_append,pairwise_cons];refine⟨jU,⟨λy ag=>aB y ag,a2.2.1⟩,λx u y ag=>?_⟩;rcases mem_cons.1 ag with rfl|ag
  ·exact aC x u
  ·exact a3 x u y (List.mem_append_right _ ag)
 ·rw[List.mem_append,mem_cons];by_cases he:p1 x=h
  ·simp only[he,or_true,if_true,true_and];constructor
   ·rintro(u|u|u)
    ·exact absurd he (cb x (.inl u))
    ·rw[u]
    ·exact absurd he (cb x (.inr u))
   ·intro af;exact .inr (.inl (aaC (by rw[he];rfl) af))
  ·simp only[he,or_false,if_false];rw[←aH.mem,List.mem_append,List.mem_append];constructor
   ·rintro(u|rfl|u)
    ·exact .inl (.inl u)
    ·exact absurd sD he
    ·exact .inr u
   ·rintro((u|u)|u)
    ·exact .inl u
    ·exact absurd (hm x u) he
    ·exact .inr (.inr u)
 ·have y0:k≠h:=λe=>hk (.inr e);simp only[if_neg y0];exact aH.zero k λcA=>hk (.inl cA)
end
section
def Xn(g:bA)(h:b6):Prop:=∃a∈hU g,a.Hop=h
def w2.len{g:bA}{K:b6→Prop}{f:b6→Int}{l:List vj}(h:w2 K f l)(h8:∀x,K x→Xn g x):l.length≤2*g.Links.length:=by
 have fR:(l.map p1).Nodup:=by
  show Pairwise _ _;rw[pairwise_map];exact h.nQ.imp λ{a b} bL (e:p1 a=p1 b)=>NK (e▸bL)
 have:=zx (b:=(hU g).map (·.Hop)) fR λx u=>by
  obtain⟨y,ag,rfl⟩:=List.mem_map.1 u;obtain⟨a,ay,he⟩:=h8 _ ((h.mem y).1 ag).1;exact List.mem_map.2 ⟨a,ay,he⟩
 simpa [E0]using this
end
section
def Xk(g:bA)(m:nq)(x y:Int):nq:=m.set ((ids g).idxOf x) ((m.getD ((ids g).idxOf x) []).set ((ids g).idxOf y) 0)
def F8(g:bA)(r:ja)(n:Int)(S:wX)(aA v:Nat):Prop:=∃a∈S,¬n≤kA r a.Hop∧(ids g).idxOf a.Hop.bz=aA∧(ids g).idxOf a.Hop.br=v
structure JH(g:bA)(r:ja)(n:Int)(HG:List (List Int))(S:List bB)(m:List (List Int)):Prop where
 len:m.length=(ids g).length
 row:∀aA,aA<(ids g).length→(m.getD aA []).length=(ids g).length
 shut:∀aA v,aA<(ids g).length→v<(ids g).length→F8 g r n S aA v→nu m aA v=0
 same:∀aA v,aA<(ids g).length→v<(ids g).length→¬F8 g r n S aA v→nu m aA v=nu HG aA v
def JH.step{g:bA}{r:ja}{n:Int}{HG:nq}{S:wX}{m:nq}(h:JH g r n HG S m){a:bB}(h1:a.Hop.bz∈ids g)(D:a.Hop.br∈ids g):
  JH g r n HG (S++[a]) (if kA r a.Hop<n then Xk g m a.Hop.bz a.Hop.br else m):=by
 have lG:=List.idxOf_lt_length_of_mem h1;have lH:=List.idxOf_lt_length_of_mem D
 have DY:∀aA v,F8 g r n (S++[a]) aA v↔F8 g r n S aA v∨(kA r a.Hop<n∧(ids g).idxOf a.Hop.bz=aA∧(ids g).idxOf a.Hop.br=v):=λaA v=>by
  constructor
  ·rintro⟨b,U,q⟩;rcases List.mem_append.1 U with U|U
   ·exact .inl ⟨b,U,q⟩
   ·rw[List.mem_singleton]at U;subst U
    exact .inr ⟨by omega,q.2⟩
  ·rintro(⟨b,U,q⟩|⟨ak,ar⟩)
   ·exact⟨b,by simp[U],q⟩
   ·exact⟨a,by simp,by omega,ar⟩
 by_cases af:kA r a.Hop<n
 ·rw[if_pos af];have he:=ada (c:=0) h.len h.row lG lH;refine⟨by unfold Xk;rw[length_set];exact h.len,ZY h.len h.row lG,λaA v hu ob X=>?_,λaA v hu ob X=>?_⟩
  ·show nu (m.set _ _) aA v=0;rw[he];by_cases bV:aA=(ids g).idxOf a.Hop.bz∧v=(ids g).idxOf a.Hop.br
   ·rw[if_pos bV]
   ·rw[if_neg bV];rcases(DY aA v).1 X with aj|⟨_,aj,a1⟩
    ·exact h.shut aA v hu ob aj
    ·exact absurd ⟨aj.symm,a1.symm⟩ bV
  ·show nu (m.set _ _) aA v=_;rw[he];have aR:¬(aA=(ids g).idxOf a.Hop.bz∧v=(ids g).idxOf a.Hop.br):=λbV=>X ((DY aA v).2 (.inr ⟨af,bV.1.symm,bV.2.symm⟩));rw[if_neg aR];exact h.same aA v hu ob λaj=>X ((DY aA v).2 (.inl aj))
 ·rw[if_neg af];refine⟨h.len,h.row,λaA v hu ob X=>?_,λaA v hu ob X=>h.same aA v hu ob λaj=>X ((DY aA v).2 (.inl aj))⟩;rcases(DY aA v).1 X with aj|aj
  ·exact h.shut aA v hu ob aj
  ·exact absurd aj.1 af
end
section
def vz.nd{x:hq}(h:vz x):x.Links.Nodup:=h.dup.imp λhW e=>hW (by rw[e])
end
section
inductive kr(aq:List bB)(t:Int):Int→Int→Prop
 |nil:kr aq t t 0
 |cons {a:bB} {c:Int} (ay:a∈aq) (h:kr aq t a.Hop.br c):kr aq t a.Hop.bz (a.c6+c)
def QX(m:List (Int×Int))(r c x:Int):hB (bG m r c) x=if x=r then c else hB m x:=by
 unfold hB;rw[k3];split<;>rfl
variable {m:List (Int×Int)}{x:Int}
def xK{c:Int}(h:aD m x=some c):hB m x=c:=by unfold hB;rw[h];rfl
def Om(m:List (Int×Int))(n c:Int):(bG m n c).map Prod.fst=if n∈m.map Prod.fst then m.map Prod.fst else m.map Prod.fst++[n]:=by
 induction m with
 |nil=>simp[bG]
 |cons p r bg=>
  unfold bG;by_cases h:p.1=n
  ·rw[if_pos h];simp[h]
  ·rw[if_neg h,map_cons,bg];have b3:¬n=p.1:=λe=>h e.symm;by_cases D:n∈r.map Prod.fst
   ·rw[if_pos D,if_pos (by simp only[map_cons];exact mem_cons_of_mem _ D)];rfl
   ·rw[if_neg D,if_neg (by simp only[map_cons,mem_cons,not_or];exact⟨b3,D⟩)];rfl
def E1:(aD m x).isSome=true↔x∈m.map Prod.fst:=by
 unfold aD;rw[Option.isSome_map,List.find?_isSome];simp
structure ru(aq:List bB)(t:Int)(m:List (Int×Int)):Prop where
 zero:aD m t=some 0
 wa:∀x c,aD m x=some c→kr aq t x c
 nd:(m.map Prod.fst).Nodup
 key:∀x∈m.map Prod.fst,x=t∨∃a∈aq,a.Hop.bz=x
 le:∀x c,aD m x=some c→c≤1000000*((m.length:Int)-1)
variable {aq:wX}{t:Int}
def kr.qU(ay:o8 aq){c:Int}(h:kr aq t x c):0≤c:=by
 induction h with
 |nil=>omega
 |cons hm _ bg=>have:=(ay _ hm).1;omega
def ru.len(h:ru aq t m):m.length≤aq.length+1:=by
 have:=zx (a:=m.map Prod.fst) (b:=t::aq.map (·.Hop.bz)) h.nd λx u=>by
  rcases h.key x u with rfl|⟨a,ay,rfl⟩
  ·simp
  ·exact mem_cons_of_mem _ (List.mem_map.2 ⟨a,ay,rfl⟩)
 simpa using this
def ru.bd(ay:o8 aq)(aH:aq.length≤100000)(h:ru aq t m)(x:Int):0≤hB m x∧hB m x≤2305843009213693951:=by
 unfold hB;cases u:aD m x with
 |none=>simp
 |some c=>
  have h1:=(h.wa x c u).qU ay;have D:=h.le x c u;have aj:=h.len;simp only[Option.getD_some];omega
def ru.step(ay:o8 aq)(aH:aq.length≤100000)(h:ru aq t m){a:bB}(hm:a∈aq)(bL:a.c6+hB m a.Hop.br<hB m a.Hop.bz):ru aq t (bG m a.Hop.bz (a.c6+hB m a.Hop.br)):=by
 obtain⟨kW,bl⟩:=ay a hm;have aQ:∃c,aD m a.Hop.br=some c:=by
  cases u:aD m a.Hop.br with
  |none=>
   have:hB m a.Hop.br=2305843009213693951:=by unfold hB;rw[u];rfl
   have:=(h.bd ay aH a.Hop.bz).2;omega
  |some c=>exact⟨c,rfl⟩
 obtain⟨c,af⟩:=aQ;have e:=xK af;rw[e]at bL ⊢;have an:=h.wa _ _ af;have LL:=an.qU ay
 have LV:t≠a.Hop.bz:=λhe=>by
  have:hB m a.Hop.bz=0:=by rw[←he];exact xK h.zero
  omega
 have eA:(bG m a.Hop.bz (a.c6+c)).length=if a.Hop.bz∈m.map Prod.fst then m.length else m.length+1:=by
  have:=congrArg List.length (Om m a.Hop.bz (a.c6+c));rw[length_map]at this;rw[this];split<;>simp
 refine⟨?_,λx k u=>?_,?_,λx u=>?_,λx k u=>?_⟩
 ·rw[k3,if_neg LV];exact h.zero
 ·rw[k3]at u;split at u
  ·rename_i D5;subst D5;cases u;exact .cons hm an
  ·exact h.wa x k u
 ·rw[Om];split
  ·exact h.nd
  ·rename_i aR;rw[nodup_append];exact⟨h.nd,by simp,λx u y ag m0=>by simp at ag;subst ag;subst m0;exact aR u⟩
 ·rw[Om]at u;split at u
  ·exact h.key x u
  ·rcases List.mem_append.1 u with u|u
   ·exact h.key x u
   ·simp at u;subst u;exact .inr ⟨a,hm,rfl⟩
 ·rw[eA];rw[k3]at u;have y7:1≤m.length:=by
   have:=E1.1 (show(aD m t).isSome=true by rw[h.zero];rfl);have:=length_pos_of_mem this;rw[length_map]at this;omega
  split at u
  ·rename_i D5;subst D5
   cases u;split
   ·rename_i hk;obtain⟨dS,xw⟩:=Option.isSome_iff_exists.1 (E1.2 hk);have:=h.le _ _ xw;rw[xK xw]at bL;omega
   ·have:=h.le _ _ af
    push_cast
    omega
  ·have:=h.le x k u;split<;>push_cast<;>omega
def qA(aq:wX)(m:List (Int×Int)):Nat:=(aq.map λa=>(hB m a.Hop.bz).toNat).sum
def RC{m hF:List (Int×Int)}(h:∀x,hB hF x≤hB m x):∀aq:wX,qA aq hF≤qA aq m
 |[]=>Nat.le_refl _
 |a::r=>by
  have h1:=RC h r;have D:=h a.Hop.bz;unfold qA at h1 ⊢;simp only[map_cons,sum_cons];omega
def RD{m hF:List (Int×Int)}(h:∀x,hB hF x≤hB m x){a:bB}(bM:0≤hB hF a.Hop.bz)(bL:hB hF a.Hop.bz<hB m a.Hop.bz):∀{aq:wX},a∈aq→qA aq hF<qA aq m
 |[],ay=>by cases ay
 |b::r,ay=>by
  have D:=h b.Hop.bz;rcases mem_cons.1 ay with rfl|ay
  ·have h1:=RC h r;unfold qA at h1 ⊢;simp only[map_cons,sum_cons];omega
  ·have h1:=RD h bM bL ay;unfold qA at h1 ⊢;simp only[map_cons,sum_cons];omega
def JI{aq:wX}(ay:o8 aq)(aH:aq.length≤100000){t:Int}:∀(l:wX) (m:List (Int×Int)) (b:Bool),(∀a∈l,a∈aq)→ru aq t m→
  ru aq t (l.foldl pX (m,b)).1∧qA aq (l.foldl pX (m,b)).1≤qA aq m∧(∀x,hB (l.foldl pX (m,b)).1 x≤hB m x)∧
  ((l.foldl pX (m,b)).2=true→b=true∨qA aq (l.foldl pX (m,b)).1<qA aq m)∧((l.foldl pX (m,b)).2=false→b=false∧(l.foldl pX (m,b)).1=m∧∀a∈l,hB m a.Hop.bz≤a.c6+hB m a.Hop.br)
 |[],m,b,_,h=>⟨h,Nat.le_refl _,λ_=>Int.le_refl _,λh=>.inl h,λh=>⟨h,rfl,λa ay=>by cases ay⟩⟩
 |a::r,m,b,X,h=>by
  have hm:=X a mem_cons_self;rw[foldl_cons];by_cases bL:a.c6+hB m a.Hop.br<hB m a.Hop.bz
  ·rw[show pX (m,b) a=(bG m a.Hop.bz (a.c6+hB m a.Hop.br),true)from if_pos bL];have b3:=h.step ay aH hm bL
   have hle:∀x,hB (bG m a.Hop.bz (a.c6+hB m a.Hop.br)) x≤hB m x:=λx=>by
    rw[QX];split
    ·rename_i u;subst u;omega
    ·omega
   have GX:qA aq (bG m a.Hop.bz (a.c6+hB m a.Hop.br))<qA aq m:=RD hle (b3.bd ay aH _).1 (by rw[QX,if_pos rfl];exact bL) hm;obtain⟨lG,lH,i3,l0,vU⟩:=JI ay aH r _ true (λa ay=>X a (mem_cons_of_mem _ ay)) b3;exact⟨lG,by omega,λx=>Int.le_trans (i3 x) (hle x),λ_=>.inr (by omega),λbm=>by have:=(vU bm).1;cases this⟩
  ·rw[show pX (m,b) a=(m,b)from if_neg bL];obtain⟨lG,lH,i3,l0,vU⟩:=JI ay aH r m b (λa ay=>X a (mem_cons_of_mem _ ay)) h;refine⟨lG,lH,i3,l0,λbm=>?_⟩;obtain⟨bk,dn,eZ⟩:=vU bm;refine⟨bk,dn,λx u=>?_⟩;rcases mem_cons.1 u with rfl|u
   ·omega
   ·exact eZ x u
def RE{aq:wX}(ay:o8 aq)(aH:aq.length≤100000){t:Int}:∀(k:Nat) (m:List (Int×Int)),qA aq m<k→ru aq t m→∃n,r2 aq m n∧ru aq t n∧∀a∈aq,hB n a.Hop.bz≤a.c6+hB n a.Hop.br
 |0,m,h,_=>absurd h (by omega)
 |k+1,m,h,eX=>by
  obtain⟨lG,lH,i3,l0,vU⟩:=JI ay aH (t:=t) aq m false (λa ay=>ay) eX;cases U:(x4 aq m).2 with
  |false=>exact⟨m,.done U,eX,(vU U).2.2⟩
  |true=>
   rcases l0 U with b3|b3
   ·cases b3
   ·obtain⟨n,h1,D,aj⟩:=RE ay aH k (x4 aq m).1 (by show qA aq (aq.foldl pX (m,false)).1<k;omega) lG;exact⟨n,.more U h1,D,aj⟩
structure Aq(aq:List bB)(t:Int)(n:List (Int×Int)):Prop where
 b5:ru aq t n
 fix:∀a∈aq,hB n a.Hop.bz≤a.c6+hB n a.Hop.br
def XR(ay:o8 aq)(aH:aq.length≤100000)(t:Int):Ok (yF aq t) (Aq aq t):=by
 have bM:ru aq t [(t,0)]:=by
  have bu:∀x c,aD [(t,(0:Int))] x=some c→x=t∧c=0:=λx c h=>by
   rw[jN]at h;split at h
   ·rename_i e;cases h;exact⟨e.symm,rfl⟩
   ·simp[aD]at h
  refine⟨by rw[jN,if_pos rfl],λx c h=>?_,by simp,λx u=>.inl (by simpa using u),λx c h=>?_⟩
  ·obtain⟨rfl,rfl⟩:=bu x c h;exact .nil
  ·obtain⟨_,rfl⟩:=bu x c h;simp
 obtain⟨n,h1,D,aj⟩:=RE ay aH _ _ (Nat.lt_succ_self _) bM;exact⟨n,XI ay h1,D,aj⟩
def Aq.least(ay:o8 aq)(aH:aq.length≤100000){n:List (Int×Int)}(h:Aq aq t n){c:Int}(an:kr aq t x c):∃k,aD n x=some k∧k≤c:=by
 induction an with
 |nil=>exact⟨0,h.b5.zero,Int.le_refl _⟩
 |@cons a c hm _ bg=>
  obtain⟨k,h1,D⟩:=bg;have aj:=h.fix a hm;rw[xK h1]at aj;have a1:=h.b5.le _ _ h1;have bU:=h.b5.len;have dP:=(ay a hm).2;cases u:aD n a.Hop.bz with
  |none=>
   have:hB n a.Hop.bz=2305843009213693951:=by unfold hB;rw[u];rfl
   omega
  |some dS=>
   rw[xK u]at aj;exact⟨dS,rfl,by omega⟩
end
section
def vW{x:Int}:∀{l:cq},x∈gG l↔x∈l
 |[]=>Iff.rfl
 |y::r=>by
  have bg:x∈gG r↔x∈r:=vW;unfold gG;split
  ·rename_i h;rw[h]at bg;rw[List.mem_singleton,mem_cons];exact⟨λe=>.inl e,λe=>e.elim id λb3=>absurd (bg.2 b3) (by simp)⟩
  ·rename_i z s h;rw[h]at bg;split
   ·rename_i e;subst e
    rw[bg,mem_cons];refine⟨.inr,λb3=>b3.elim (λe=>?_) id⟩;subst e;exact bg.1 mem_cons_self
   ·rw[mem_cons,bg,mem_cons]
def Pw:∀{l:cq},l.Pairwise (·≤·)→(gG l).Pairwise (·<·)
 |[],_=>Pairwise.nil
 |x::r,h=>by
  rw[pairwise_cons]at h;have bg:=Pw h.2;unfold gG;split
  ·simp
  ·rename_i y s e;rw[e]at bg;split
   ·exact bg
   ·rename_i cb;have ag:∀z∈y::s,x≤z:=λz hz=>h.1 z (vW.1 (by rw[e];exact hz));rw[pairwise_cons];refine⟨λz hz=>?_,bg⟩;have h1:=ag y mem_cons_self;rcases mem_cons.1 hz with rfl|hz
    ·omega
    ·have:=(pairwise_cons.1 bg).1 z hz;omega
def xL{x:Int}{l:cq}:x∈fN l↔x∈l:=(zz l).mem_iff
def s5(n:List (Int×Int))(b:Int):cq:=(fN (n.map Prod.fst)).filter λy=>decide ((aD n y).getD 0≤b)
def j9(n:List (Int×Int))(e:Int):cq→zy
 |[]=>[]
 |[_]=>[]
 |b::c::r=>if e≤b then[]else fe.mk (s5 n b) ((if e<c then e else c)-b)::j9 n e (c::r)
def nH(aA w:Int)(c:fe):Int:=if w∈c.bC∧aA∉c.bC then c.Value else 0
def om(l:zy)(aA w:Int):Int:=(l.map (nH aA w)).sum
def yh(l:zy):Int:=(l.map (·.Value)).sum
def kS(n:List (Int×Int)):cq:=gG (fN (n.map Prod.snd))
def Qw{n:List (Int×Int)}{x c:Int}(h:aD n x=some c):c∈n.map Prod.snd:=by
 unfold aD at h;rw[Option.map_eq_some_iff]at h;obtain⟨p,h1,D⟩:=h;exact List.mem_map.2 ⟨p,List.mem_of_find?_eq_some h1,D⟩
def IQ{n:List (Int×Int)}(aR:(n.map Prod.fst).Nodup){c:Int}(h:c∈n.map Prod.snd):∃x,aD n x=some c:=by
 obtain⟨p,aC,rfl⟩:=List.mem_map.1 h;refine⟨p.1,?_⟩;induction n with
 |nil=>cases aC
 |cons q r bg=>
  rw[jN];rw[map_cons,nodup_cons]at aR;rcases mem_cons.1 aC with rfl|aC
  ·rw[if_pos rfl]
  ·have:¬q.1=p.1:=λe=>aR.1 (by rw[e];exact List.mem_map.2 ⟨p,aC,rfl⟩);rw[if_neg this];exact bg aR.2 aC (List.mem_map.2 ⟨p,aC,rfl⟩)
def BV{n:List (Int×Int)}{b y:Int}:y∈s5 n b↔∃k,aD n y=some k∧k≤b:=by
 unfold s5;rw[List.mem_filter,xL,←E1];constructor
 ·rintro⟨h1,D⟩;obtain⟨k,hk⟩:=Option.isSome_iff_exists.1 h1;rw[hk]at D;exact⟨k,hk,by simpa using D⟩
 ·rintro⟨k,hk,h⟩;rw[hk];exact⟨rfl,by simpa using h⟩
def aaD{n:List (Int×Int)}(aR:(n.map Prod.fst).Nodup)(b:Int):(s5 n b).Pairwise (·<·):=by
 unfold s5;refine Pairwise.filter _ ?_;have h1:=Bp (n.map Prod.fst);have D:(fN (n.map Prod.fst)).Nodup:=(zz _).nodup_iff.2 aR;refine(h1.and D).imp λ{a b} h=>?_;obtain⟨aj,a1⟩:=h;have:a≠b:=a1;omega
def qB(x:Int):Int:=if 0<x then x else 0
def lN(a b:Int):Int:=if b<a then b else a
def Qx{n:List (Int×Int)}{e aA w l9 mb:Int}(hu:aD n aA=some l9)(an:aD n w=some mb):∀(b:Int) (r:cq),(b::r).Pairwise (·<·)→(e≤b∨e∈r)→(l9≤b∨l9∈r)→(mb≤b∨mb∈r)→
  om (j9 n e (b::r)) aA w=qB (lN l9 e-(if lN mb e<b then b else lN mb e))
 |b,[],_,he,LP,LQ=>by
  simp only[not_mem_nil,or_false]at he;show(0:Int)=_;unfold qB lN
  repeat' split
  all_goals omega
 |b,c::r,aC,he,LP,LQ=>by
  have oV:=pairwise_cons.1 aC;have GL:=oV.1 c mem_cons_self;have U0:=(pairwise_cons.1 oV.2).1
  have RF:∀x:Int,(x≤b∨x∈c::r)→x≤b∨c≤x:=λx u=>u.imp id λh=>by
   rcases mem_cons.1 h with rfl|h
   ·exact Int.le_refl _
   ·have:=U0 x h;omega
  have next:∀x:Int,(x≤b∨x∈c::r)→x≤c∨x∈r:=λx u=>by
   rcases u with h|h
   ·left;omega
   ·rcases mem_cons.1 h with rfl|h
    ·left;exact Int.le_refl _
    ·exact .inr h
  have bg:=Qx hu an c r oV.2 (next e he) (next l9 LP) (next mb LQ);have dW:=RF l9 LP;have eg:=RF mb LQ;unfold j9;by_cases U:e≤b
  ·rw[if_pos U];show(0:Int)=_;unfold qB lN
   repeat' split
   all_goals omega
  ·rw[if_neg U];have fB:nH aA w (fe.mk (s5 n b) ((if e<c then e else c)-b))=if mb≤b∧b<l9 then(if e<c then e else c)-b else 0:=by
    unfold nH;have h1:w∈s5 n b↔mb≤b:=by rw[BV,an];simp
    have D:aA∈s5 n b↔l9≤b:=by rw[BV,hu];simp
    simp only[h1,D,Int.not_le]
   show(nH aA w _+om (j9 n e (c::r)) aA w)=_;rw[fB,bg];unfold qB lN
   repeat' split
   all_goals omega
def Qy{n:List (Int×Int)}{e:Int}:∀(b:Int) (r:cq),(b::r).Pairwise (·<·)→(e≤b∨e∈r)→yh (j9 n e (b::r))=qB (e-b)
 |b,[],_,he=>by
  simp only[not_mem_nil,or_false]at he;show(0:Int)=_;unfold qB;split<;>omega
 |b,c::r,aC,he=>by
  have oV:=pairwise_cons.1 aC;have GL:=oV.1 c mem_cons_self;have U0:=(pairwise_cons.1 oV.2).1;have qi:e≤c∨e∈r:=by
   rcases he with h|h
   ·left;omega
   ·rcases mem_cons.1 h with rfl|h
    ·left;exact Int.le_refl _
    ·exact .inr h
  have bg:=Qy (n:=n) c r oV.2 qi;unfold j9;by_cases U:e≤b
  ·rw[if_pos U];show(0:Int)=_;unfold qB;split<;>omega
  ·rw[if_neg U];show(((if e<c then e else c)-b)+yh (j9 n e (c::r)))=_;rw[bg];unfold qB
   repeat' split
   all_goals omega
def JJ{n:List (Int×Int)}{e:Int}:∀(l:cq),l.Pairwise (·<·)→∀c∈j9 n e l,∃b∈l,b<e∧c.bC=s5 n b∧1≤c.Value∧c.Value≤e-b
 |[],_,c,h=>by cases h
 |[_],_,c,h=>by cases h
 |b::aP::r,aC,c,h=>by
  have oV:=pairwise_cons.1 aC;have GL:=oV.1 aP mem_cons_self;unfold j9 at h;split at h
  ·cases h
  ·rcases mem_cons.1 h with rfl|h
   ·refine⟨b,mem_cons_self,by omega,rfl,?_,?_⟩
    ·show 1≤(if e<aP then e else aP)-b;split<;>omega
    ·show(if e<aP then e else aP)-b≤e-b;split<;>omega
   ·obtain⟨x,h1,D⟩:=JJ (aP::r) oV.2 c h;exact⟨x,mem_cons_of_mem _ h1,D⟩
def Qz{n:List (Int×Int)}{e:Int}:∀(l:cq),(j9 n e l).length≤l.length
 |[]=>Nat.le_refl _
 |[_]=>Nat.zero_le _
 |b::aP::r=>by
  unfold j9;split
  ·exact Nat.zero_le _
  ·have:=Qz (n:=n) (e:=e) (aP::r);simp only[length_cons]at this ⊢;omega
end
section
def QA{α β:Type}{L:List α}(g:α→α){B:Int→α→(List α→Option β)→List α→Option β}{K:List α→Option β}
  (dc:∀(p:List α) x r b7,x∈L→(p++x::r).length≤L.length→B (p.length:Int) x b7 (p.map g++x::r)=b7 (p.map g++g x::r)) :
  ∀(l p:List α),p++l=L→ez l p.length B K (p.map g++l)=K (L.map g)
 |[],p,h=>by
  rw[append_nil]at h;subst h
  show K _=_;rw[append_nil]
 |x::r,p,h=>by
  show B (p.length:Int) x (λs=>ez r (p.length+1) B K s) (p.map g++x::r)=_;rw[dc p x r _ (by rw[←h];simp) (by rw[←h];exact Nat.le_refl _)];have:=QA (K:=K) g dc r (p++[x]) (by rw[←h];simp);rw[length_append,List.map_append,List.append_assoc]at this;exact this
def On{α β:Type}(q:α→Bool){B:Int→α→(List α→Option β)→List α→Option β}{K:List α→Option β}
  (dc:∀j x b7 s,s.length≤200000→B j x b7 s=b7 (if q x then s++[x]else s)):∀(l:List α) (j:Nat) (s:List α),s.length+l.length≤200000→ez l j B K s=K (s++l.filter q)
 |[],j,s,h=>by
  show K _=_;rw[filter_nil,append_nil]
 |x::r,j,s,h=>by
  rw[length_cons]at h;show B (j:Int) x (λs=>ez r (j+1) B K s) s=_;rw[dc _ _ _ _ (by omega)];by_cases bV:q x=true
  ·rw[if_pos bV,On q dc r (j+1) _ (by rw[length_append,length_singleton];omega),filter_cons,if_pos bV,List.append_assoc];rfl
  ·rw[if_neg bV,On q dc r (j+1) _ (by omega),filter_cons,if_neg bV]
def vm(l:zy)(a:bB):bB:=bB.mk a.Hop (a.c6-om l a.Hop.bz a.Hop.br)
def Oo{aq:wX}(ay:o8 aq){t:Int}{n:List (Int×Int)}(h:Aq aq t n):∃r,kS n=0::r∧(kS n).Pairwise (·<·):=by
 have aC:(kS n).Pairwise (·<·):=Pw (Bp _);have bM:(0:Int)∈kS n:=vW.2 (xL.2 (Qw h.b5.zero));cases U:kS n with
 |nil=>rw[U]at bM;cases bM
 |cons b r=>
  rw[U]at bM aC;have fA:b∈n.map Prod.snd:=by
   have:b∈kS n:=by rw[U];exact mem_cons_self
   exact xL.1 (vW.1 this)
  obtain⟨x,u⟩:=IQ h.b5.nd fA;have uO:=(h.b5.wa x b u).qU ay;rcases mem_cons.1 bM with e|e
  ·exact⟨r,by rw[←e],by rw[←e]at aC ⊢;exact aC⟩
  ·have:=(pairwise_cons.1 aC).1 0 e;omega
def JK{n:List (Int×Int)}{x c:Int}(h:aD n x=some c):c∈kS n:=vW.2 (xL.2 (Qw h))
def RG{aq:wX}(ay:o8 aq){t:Int}{n:List (Int×Int)}(h:Aq aq t n){root e:Int}(he:aD n root=some e){aA w l9 mb:Int}(hu:aD n aA=some l9)(an:aD n w=some mb):
  om (j9 n e (kS n)) aA w=qB (lN l9 e-lN mb e):=by
 obtain⟨r,aB,aC⟩:=Oo ay h;have h1:=(h.b5.wa _ _ he).qU ay;have D:=(h.b5.wa _ _ an).qU ay
 have m:∀{x c:Int},aD n x=some c→c≤0∨c∈r:=λ{x c} u=>by
  have:=JK u;rw[aB]at this;rcases mem_cons.1 this with h|h
  ·left;omega
  ·exact .inr h
 rw[aB]at aC ⊢;rw[Qx hu an 0 r aC (m he) (m hu) (m an)];have:¬lN mb e<0:=by unfold lN;split<;>omega
 rw[if_neg this]
def QB{n:List (Int×Int)}{e aA w:Int}(an:aD n w=none)(l:cq)(aH:l.Pairwise (·<·)):om (j9 n e l) aA w=0:=by
 unfold om
 have:∀c∈j9 n e l,nH aA w c=0:=λc af=>by
  obtain⟨b,_,_,h,_⟩:=JJ l aH c af;unfold nH;rw[if_neg];rw[h,BV,an];rintro⟨⟨k,hk,_⟩,_⟩;cases hk
 rw[List.map_congr_left this];generalize j9 n e l=q;induction q with
 |nil=>rfl
 |cons x r bg=>rw[map_cons,sum_cons,bg];rfl
structure T8(aq:List bB)(root x:Int)(p:List fe×List bB):Prop where
 ex:∃n e,Aq aq x n∧aD n root=some e∧p.1=j9 n e (kS n)∧p.2=aq.map (vm p.1)
def Yj{aq:wX}(ay:o8 aq)(aH:aq.length≤1000){root x c:Int}(an:kr aq x root c):Ok (El aq root x) (T8 aq root x):=by
 unfold El;refine Ok.aW (XR ay (by omega) x) λn aR=>?_;obtain⟨e,he,_⟩:=aR.least ay (by omega) an;have eA:=aR.b5.len;have aj1:(aD n root).getD 0=e:=by rw[he];rfl
 have iA:(fN (n.map Prod.snd)).length=n.length:=by rw[M0,length_map]
 have Vf:(fN (n.map Prod.fst)).length=n.length:=by rw[M0,length_map]
 refine asP (decide_eq_true (by omega)) (asP (decide_eq_true (by omega)) ?_);rw[aj1];have vP:(kS n).length≤n.length:=by
  have:∀l:cq,(gG l).length≤l.length:=by
   intro l;induction l with
   |nil=>exact Nat.le_refl _
   |cons x r bg=>
    unfold gG;split
    ·simp
    ·rename_i y t e;rw[e]at bg;split<;>simp at bg ⊢<;>omega
  have:=this (fN (n.map Prod.snd));show(gG (fN (n.map Prod.snd))).length≤_;omega
 have o2:∀{x c:Int},aD n x=some c→0≤c∧c≤1100000000:=λ{x c} u=>⟨(aR.b5.wa x c u).qU ay,by have:=aR.b5.le x c u;omega⟩;obtain⟨aqJ,Vb,Dv⟩:=Oo ay aR;refine asQ (λcL=>cL=j9 n e (kS n)) ?_ ?_
 ·rintro cL rfl;refine⟨(j9 n e (kS n),aq.map (vm (j9 n e (kS n)))),?_,⟨⟨n,e,aR,he,rfl,rfl⟩⟩⟩;refine QA (vm (j9 n e (kS n))) ?_ aq [] rfl;intro p a r b7 hm nD;have vQ:di (p.map (vm (j9 n e (kS n)))++a::r) (p.length:Int)=some a:=gT (by rw[List.getElem?_append_right (by simp)];simp)
  have uW:∀b,lJ (p.map (vm (j9 n e (kS n)))++a::r) (p.length:Int) b=some (p.map (vm (j9 n e (kS n)))++b::r):=λb=>by
   unfold lJ;rw[if_pos ⟨by omega,by simp;omega⟩,Int.toNat_natCast,List.set_append_right _ _ (by simp)];simp
  unfold jn;rw[vQ];simp only[eu];obtain⟨kW,bl⟩:=ay a hm;cases aQ:aD n a.Hop.br with
  |none=>
   simp only[Option.isSome_none,Bool.and_false,cond_false];have:vm (j9 n e (kS n)) a=a:=by unfold vm;rw[QB aQ _ Dv,Int.sub_zero]
   rw[this]
  |some mb=>
   have k0:∃l9,aD n a.Hop.bz=some l9:=by
    have h1:=aR.fix a hm;rw[xK aQ]at h1;have:=(o2 aQ).2;cases u:aD n a.Hop.bz with
    |none=>
     have:hB n a.Hop.bz=2305843009213693951:=by unfold hB;rw[u];rfl
     omega
    |some k=>exact⟨k,rfl⟩
   obtain⟨l9,k0⟩:=k0;obtain⟨anw,hy⟩:=o2 k0;obtain⟨w0,hn⟩:=o2 aQ;obtain⟨mT,aJ⟩:=o2 he;rw[k0];simp only[Option.isSome_some,Bool.and_self,cond_true,Option.getD_some];rw[uW,eu];have:∀v:Int,-1100000000≤v→v≤1100000000→aF v=v:=λv h1 D=>iU (by omega) (by omega);have Z:aF ((if e<l9 then e else l9)-(if e<mb then e else mb))=lN l9 e-lN mb e:=by
    unfold lN;refine this _ ?_ ?_<;>(repeat' split)<;>omega
   rw[Z];have Bb:(if lN l9 e-lN mb e>0 then lN l9 e-lN mb e else 0)=qB (lN l9 e-lN mb e):=rfl;rw[Bb];have U:0≤qB (lN l9 e-lN mb e)∧qB (lN l9 e-lN mb e)≤1100000000:=by
    unfold qB lN
    repeat' split
    all_goals omega
   rw[iU (by omega) (by omega)];unfold vm;rw[RG ay aR he k0 aQ]
 ·intro J iQ
  have key:∀{β:Type} (J:zy→Option β) (B:Int→Int→(zy→Option β)→zy→Option β),
    (∀(pre:cq) b r b7 (cL:zy),kS n=pre++b::r→cL.length≤100000→(e≤b∨e∈r)→B (pre.length:Int) b b7 cL=if e≤b then J cL else match r with|[]=>none|c::_=>b7 (cL++[fe.mk (s5 n b) ((if e<c then e else c)-b)]))→
    ∀(wK pre:cq) (cL:zy),kS n=pre++wK→cL.length+wK.length≤100000→(∀b r,wK=b::r→e≤b∨e∈r)→(∀b r,wK=b::r→∀y∈r,b<y)→wK.Pairwise (·<·)→
    ez wK pre.length B (λjq=>J jq) cL=J (cL++j9 n e wK):=by
   intro β J B dc wK;induction wK with
   |nil=>intro pre cL _ _ _ _ _;show J cL=_;rw[show j9 n e []=[]from rfl,append_nil]
   |cons b r bg=>
    intro pre cL za eA qi bL aC;rw[length_cons]at eA;show B (pre.length:Int) b (λs=>ez r (pre.length+1) B (λjq=>J jq) s) cL=_;rw[dc pre b r _ cL za (by omega) (qi b r rfl)];by_cases U:e≤b
    ·rw[if_pos U];cases r with
     |nil=>rw[show j9 n e [b]=[]from rfl,append_nil]
     |cons c r=>rw[show j9 n e (b::c::r)=[]from if_pos U,append_nil]
    ·rw[if_neg U];cases r with
     |nil=>rcases qi b [] rfl with h|h;exact absurd h U;cases h
     |cons c r=>
      have oV:=pairwise_cons.1 aC
      have:=bg (pre++[b]) (cL++[fe.mk (s5 n b) ((if e<c then e else c)-b)]) (by rw[za];simp) (by rw[length_append,length_singleton];omega) (λaP r' h=>by
       cases h;rcases qi b (c::r) rfl with h|h
       ·exact absurd h U
       ·rcases mem_cons.1 h with rfl|h
        ·left;exact Int.le_refl _
        ·exact .inr h) (λaP r' h y ag=>by cases h;exact(pairwise_cons.1 oV.2).1 y ag) oV.2
      rw[length_append]at this;rw[show j9 n e (b::c::r)=fe.mk (s5 n b) ((if e<c then e else c)-b)::j9 n e (c::r)from if_neg U];rw[List.append_assoc]at this;exact this
  obtain⟨mT,aJ⟩:=o2 he;have sC:=JK he;rw[Vb]at sC;refine Eq.mpr (congrArg (λz=>Ok z _) (key J _ ?_ (kS n) [] [] rfl (by rw[length_nil];omega) (λb r h=>?_) (λb r h=>?_) Dv)) (iQ _ rfl)
  rotate_left
  ·rw[Vb]at h;cases h
   rcases mem_cons.1 sC with h|h
   ·left;omega
   ·exact .inr h
  ·rw[h]at Dv;exact(pairwise_cons.1 Dv).1
  ·intro pre b r b7 cL za qR DQ;have aqu:0≤b∧b≤1100000000:=by
    have:b∈kS n:=by rw[za];simp
    obtain⟨y,ag⟩:=IQ aR.b5.nd (xL.1 (vW.1 this));exact o2 ag
   by_cases U:e≤b
   ·rw[if_pos U,decide_eq_true U,cond_true]
   ·rw[if_neg U,decide_eq_false U,cond_false];cases r with
    |nil=>rcases DQ with h|h;exact absurd h U;cases h
    |cons c r=>
     have nD:pre.length≤100000:=by
      have:=congrArg List.length za;rw[length_append]at this;omega
     have U1:0≤c∧c≤1100000000:=by
      have:c∈kS n:=by rw[za];simp
      obtain⟨y,ag⟩:=IQ aR.b5.nd (xL.1 (vW.1 this));exact o2 ag
     have vQ:di (kS n) (aF ((pre.length:Int)+(1:Int)))=some c:=by
      rw[iU (by omega) (by omega),show(pre.length:Int)+1=((pre.length+1:Nat):Int)by omega];refine gT ?_;rw[za,List.getElem?_append_right (by omega),show pre.length+1-pre.length=1 by omega];rfl
     have ajR:di (gG (fN (n.map Prod.snd))) (aF ((pre.length:Int)+(1:Int)))=some c:=vQ;rw[ajR,eu,ahi (decide_eq_true (by omega)),On (λy=>decide ((aD n y).getD 0≤b)) (λj y b7 s X=>?_) _ _ _ (by rw[length_nil];omega)]
     ·rw[v8 (by simp;omega),eu,iU (by split<;>omega) (by split<;>omega)];rfl
     ·unfold jn;by_cases ag:(aD n y).getD 0≤b
      ·simp only[decide_eq_true ag,cond_true,v8 (show s.length+[y].length≤549755813888 by simp;omega),eu];rfl
      ·simp only[decide_eq_false ag,cond_false];rfl
end
section
def aib{t:bA}(aa:fH t){g:xg}(bu:O6 t g)(a:Int):∃l,xa g.CN a=some l∧∀x,aD l x=pG t a x:=by
 by_cases ay:a∈ids t
 ·obtain⟨l,h1,_,D,_⟩:=aiJ bu.fw ay;refine⟨l,h1,λx=>?_⟩;rw[D];by_cases u:x∈ids t
  ·rw[FY aa ay u]
  ·rw[Fg (λh=>u h.2.2),ac5 aa ay u]
 ·refine⟨[],acY ?_,λx=>by rw[Fg (λh=>ay h.2.1)];rfl⟩;have:=bu.fw.keys a;cases h:(aD g.CN a).isSome with
  |false=>rfl
  |true=>exact absurd (this.1 h) ay
def YD(t:bA)(a b:Int):Bh t a b=some (vl t a b):=by
 unfold Bh Hy;rw[NH,eu];by_cases h:oj t=0
 ·have aa:=wk.1 h;obtain⟨g,h1,D⟩:=ac1 aa;obtain⟨l,aj,a1⟩:=aib aa D a;rw[decide_eq_true h,eu,h1,eu,aj,eu,a1];rfl
 ·rw[decide_eq_false h];unfold vl;rw[Fg λe=>h e.1];rfl
variable {g:bA}{x:Int}
def aid(aa:fH g){a m:Int}(h:hA (iL g) a x m):∀{t k:Int},kr (hU g) t x k→kr (hU g) t a (m+k):=by
 induction h with
 |nil=>intro t k an;rw[Int.zero_add];exact an
 |@snoc x b m dS _ hk bg=>
  intro t k an;have:=bg (kr.cons (a:=bB.mk (b6.mk x b) dS) ((Cf aa).1 hk) an);rw[Int.add_assoc];exact this
def afa(aa:fH g){t c:Int}(h:kr (hU g) t x c):∃k,dst (iL g) x t=some k∧k≤c:=by
 induction h with
 |nil=>exact⟨0,QL (u7 aa) _,Int.le_refl _⟩
 |@cons a c ay _ bg=>
  obtain⟨k,h1,D⟩:=bg;obtain⟨dS,aj,a1⟩:=XL (u7 aa) ((Cf aa).2 ay) h1;exact⟨dS,aj,by omega⟩
structure Dq(g:bA)(root:Int)(rs:List Int)(c:fe):Prop where
 val:1≤c.Value∧c.Value≤24000
 nQ:c.bC.Pairwise (·<·)
 vg:root∉c.bC
 ids:∀y∈c.bC,y∈ids g
 hit:∃x∈rs,x∈c.bC
structure XA(g:bA)(aq:List bB)(root x:Int)(p:List fe×List bB):Prop where
 cut:∀c∈p.1,Dq g root [x] c
 nu:∀a∈aq,om p.1 a.Hop.bz a.Hop.br≤a.c6
 len:p.1.length≤24
 val:kr aq x root (yh p.1)∧∀c,kr aq x root c→yh p.1≤c
 arM:p.2=aq.map (vm p.1)
def YE(aa:fH g){aq:wX}{root kW:Int}{p:zy×wX}(ay:o8 aq)(aH:aq.length≤1000)(eo:∀a∈aq,a.Hop.bz∈ids g∧a.Hop.br∈ids g)(u:x∈ids g)(an:kr aq x root kW)(af:kW≤24000)(h:T8 aq root x p):XA g aq root x p:=by
 obtain⟨n,e,aR,he,h1,D⟩:=h.ex;obtain⟨r,aB,aC⟩:=Oo ay aR;have aqy:=(aR.b5.wa _ _ he).qU ay;have U5:e≤kW:=by
  obtain⟨k,aj,a1⟩:=aR.least ay (by omega) an;rw[he]at aj;cases aj;exact a1
 have uO:∀b∈kS n,0≤b:=λb U=>by
  obtain⟨y,ag⟩:=IQ aR.b5.nd (xL.1 (vW.1 U));exact(aR.b5.wa _ _ ag).qU ay
 have Ve:∀y k,aD n y=some k→y∈ids g:=λy k ag=>by
  rcases aR.b5.key y (E1.1 (by rw[ag];rfl))with rfl|⟨a,LI,rfl⟩
  ·exact u
  ·exact(eo a LI).1
 have o2:yh p.1=e:=by
  have hm:=JK he;rw[h1];rw[aB]at aC hm ⊢;rw[Qy 0 r aC (by rcases mem_cons.1 hm with h|h;left;omega;exact .inr h)];unfold qB;split<;>omega
 refine⟨λc af=>?_,λa GK=>?_,?_,?_,D⟩
 ·rw[h1]at af;obtain⟨b,cp,cG,gC,kB,uL⟩:=JJ _ aC c af;have:=uO b cp;refine⟨⟨kB,by omega⟩,by rw[gC];exact aaD aR.b5.nd b,?_,λy ag=>?_,x,by simp,?_⟩
  ·rw[gC,BV,he];rintro⟨k,hk,hle⟩;cases hk;omega
  ·rw[gC,BV]at ag;obtain⟨k,hk,_⟩:=ag;exact Ve y k hk
  ·rw[gC,BV];exact⟨0,aR.b5.zero,this⟩
 ·rw[h1];obtain⟨bl,b2⟩:=ay a GK;have U8:=aR.fix a GK;cases aQ:aD n a.Hop.br with
  |none=>rw[QB aQ _ aC];exact bl
  |some mb=>
   rw[xK aQ]at U8;cases k0:aD n a.Hop.bz with
   |none=>
    have:hB n a.Hop.bz=2305843009213693951:=by unfold hB;rw[k0];rfl
    have:=aR.b5.le _ _ aQ;have:=aR.b5.len;omega
   |some l9=>
    rw[xK k0]at U8;rw[RG ay aR he k0 aQ];unfold qB lN
    repeat' split
    all_goals omega
 ·rw[h1];have aj:=Qz (n:=n) (e:=e) (kS n);have a1:(kS n).length≤n.length:=by
   have bU:(kS n).Nodup:=aC.imp λ{a b} h=>by omega
   have:=zx bU (b:=n.map Prod.snd) λy ag=>xL.1 (vW.1 ag)
   rwa [length_map]at this
  have bU:=zx aR.b5.nd (b:=ids g) λy ag=>by
   obtain⟨k,hk⟩:=Option.isSome_iff_exists.1 (E1.2 ag);exact Ve y k hk
  rw[length_map]at bU;have dP:=aa.vg;have fz:(ids g).length=g.bC.length:=by simp[ids]
  omega
 ·rw[o2];refine⟨aR.b5.wa _ _ he,λc af=>?_⟩;obtain⟨k,aj,a1⟩:=aR.least ay (by omega) af;rw[he]at aj;cases aj;exact a1
end
section
def Oq{σ β:Type}{F:(σ→Option β)→σ→Option β}{s:σ}{v:β}(h:∀b7,F b7 s=some v):jL F s=some v:=
 atb (asW (λcO=>cO=s) (λ_=>0) rfl (by omega) λcO b7 X _=>⟨v,by rw[X];exact h b7,rfl⟩)
def ZD(x:Int):G9 [x]=some [x]:=by
 show AO [x]=_;unfold AO;rw[v8 (by simp),eu];rfl
def Yk(x:Int)(c:Int→Int→jo):DF [x] c=some [x]:=by
 have h1:AL [x] 0 1 c=some [x]:=by
  unfold AL;refine Oq λb7=>?_;rw[show aF ((0:Int)+(1:Int))=1 from iU (by omega) (by omega)];rfl
 have D:AN [x] 1 c=some [x]:=by
  unfold AN;refine Oq λb7=>?_;show(bif decide ((20:Int)≤1)then _ else _)=_;rw[decide_eq_false (by omega),cond_false,h1,eu];refine Oq λb7=>?_;rfl
 unfold DF;show aW (AN [x] 1 c) _=_;rw[D,eu]
def afb{aq:wX}(h:pR aq):o8 aq:=λa ay=>by
 have:=h.cost a ay;omega
def QY{a b:wX}(h:∀x∈a,x∈b){t x c:Int}(an:kr a t x c):kr b t x c:=by
 induction an with
 |nil=>exact .nil
 |cons ay _ bg=>exact .cons (h _ ay) bg
def Tj{g:bA}(aa:fH g){a b k:Int}(h:dst (iL g) a b=some k):kr (hU g) b a k:=by
 have:=aid aa (nw.1 h).1 (t:=b) (k:=0) .nil
 rwa [Int.add_zero]at this
def Px{g:bA}(aa:fH g){root x k:Int}(aB:root∈ids g)(u:x∈ids g)(hk:pG g root x=some k):
  ∃cL,Ei g root [x]=some (cL,0)∧(∀c∈cL,Dq g root [x] c)∧(∀a∈hU g,om cL a.Hop.bz a.Hop.br≤a.c6)∧cL.length≤24∧yh cL=k:=by
 obtain⟨m,hm,aC⟩:=Kg aa;have eo:=I4 aa;have Lm:=Rn aC eo;have eX:=afb Lm;have Z:=(JW hk).2.2.2;have y1:=QS hk;have D4:kr m x root k:=QY (λa ay=>aC.mem_iff.2 ay) (Tj aa Z);unfold Ei;rw[NZ _ _ _ (by simp),eu,JV aa aB (by simp) (λy ag=>by rw[List.mem_singleton.1 ag];exact u),decide_eq_true rfl];show ∃cL,(aW (Bh g root x) λbt=>bif !bt.2 then some ([],(9:Int))else _)=_∧_;rw[YD,eu];unfold vl;simp only[hk,Option.isSome_some,Bool.not_true,cond_false,Option.getD_some];simp only[ez];rw[ZD];simp only[eu,Yk,hm,ez,jn];by_cases Mj:x=root
 ·refine⟨[],?_,λc af=>(by cases af),λa ay=>?_,(by simp),?_⟩
  ·rw[decide_eq_true Mj,cond_true]
  ·have:=(eo.cost a ay).1;show(0:Int)≤_;omega
  ·subst Mj;rw[ac4 aa u]at hk;cases hk;rfl
 ·obtain⟨p,h1,D⟩:=Yj eX Lm.len D4;have bV:=YE aa eX Lm.len (λa ay=>ac8 aa (aC.mem_iff.1 ay)) u D4 (by omega) D;have aH:=bV.len;refine⟨p.1,?_,bV.cut,λa ay=>bV.nu a (aC.mem_iff.2 ay),aH,?_⟩
  ·rw[decide_eq_false Mj,cond_false,h1,eu];rw[show(([]:zy).length:Int)+(p.1.length:Int)=(p.1.length:Int)by simp,iU (by omega) (by omega),decide_eq_false (by omega),cond_false,v8 (by simp;omega),eu];rfl
  ·have aj:=bV.val.2 k D4;obtain⟨dS,a1,bU⟩:=afa aa (QY (λa ay=>aC.mem_iff.1 ay) bV.val.1);rw[Z]at a1;cases a1
   omega
end
section
def Fb{α σ β:Type}{B:Int→α→(σ→Option β)→σ→Option β}{K:σ→Option β}(p:α→Bool)(a:Option β):∀(l:List α) (j:Nat) (s:σ),(∀j x b7 s,x∈l→B j x b7 s=bif p x then a else b7 s)→ez l j B K s=bif l.any p then a else K s
 |[],_,_,_=>rfl
 |x::r,j,s,dc=>by
  show B (j:Int) x (λs=>ez r (j+1) B K s) s=_;rw[dc _ _ _ _ mem_cons_self,Fb p a r (j+1) s λj x b7 s u=>dc j x b7 s (mem_cons_of_mem _ u),any_cons];cases p x<;>rfl
def aiw(l:cq)(f:Int→lz)(p:Int→Bool)(bm:∀x,f x=some (p x)):DC l f=some (l.any p):=by
 unfold DC GA;obtain⟨r,h1,D⟩:=EY (B:=λ(bk:Int) (aJ:Int) (c1:Unit→jo) (av:Unit)=>match av with|()=>aW (f aJ) λ(aG:Bool)=>bif aG then some (bk:Int)else c1 ()) (K:=λ(av:Unit)=>match av with|()=>some (-1:Int)) p (λj x b7 s=>by simp only[bm,eu]) (λ_=>rfl) l 0 ();simp only[h1,eu,D]
def adf{l:cq}(h:Dw l=true):l.Pairwise (·<·):=(HS (λa b c h1 D=>by simp only[decide_eq_true_eq]at *;omega) h).imp λh=>by simpa using h
def Dr(g:bA)(root:Int)(rs:cq)(c:fe):Bool:=
 decide (c.Value<1)||(decide (24000<c.Value)||(!Dw c.bC||(decide (root∈c.bC)||(c.bC.any (λy=>!jH g y)||!rs.any (λx=>decide (x∈c.bC))))))
variable {g:bA}{rs:cq}
def QC{root:Int}{c:fe}:Dr g root rs c=false↔Dq g root rs c:=by
 unfold Dr;simp only[Bool.or_eq_false_iff,decide_eq_false_iff_not,Bool.not_eq_false',List.any_eq_true,decide_eq_true_eq,List.any_eq_false,Bool.not_eq_true',Bool.not_eq_false];constructor
 ·rintro⟨h1,D,aj,a1,bU,dP⟩;refine⟨⟨by omega,by omega⟩,adf aj,a1,λy ag=>?_,dP⟩;have:=bU y ag;rw[I6]at this;simpa using this
 ·rintro⟨h1,D,aj,a1,bU⟩;refine⟨by omega,by omega,aay D,aj,λy ag=>?_,bU⟩;rw[I6];simpa using a1 y ag
def F9(g:bA)(root:Int)(rs:cq)(l:zy):Prop:=l.length≤200∧(∀c∈l,Dq g root rs c)∧∀a∈hU g,om l a.Hop.bz a.Hop.br≤a.c6
def Ot{β:Type}(f:fe→Int){K:Int→Option β}:∀(l:zy) (j:Nat) (s:Int) {B:Int→fe→(Int→Option β)→Int→Option β},(∀j x b7 s,x∈l→B j x b7 s=b7 (aF (s+f x))∨(f x=0∧B j x b7 s=b7 s))→(∀c∈l,0≤f c∧f c≤24000)→0≤s→s+24000*(l.length:Int)≤1000000000→
  ez l j B K s=K (s+(l.map f).sum)
 |[],j,s,B,_,_,_,_=>by show K s=_;simp
 |x::r,j,s,B,dc,bm,bM,h1=>by
  rw[length_cons]at h1
  push_cast at h1
  have u:=bm x mem_cons_self;show B (j:Int) x (λs=>ez r (j+1) B K s) s=_;have bg:=λcO ai7 ai8=>Ot f (K:=K) r (j+1) cO (B:=B) (λj y b7 s ag=>dc j y b7 s (mem_cons_of_mem _ ag)) (λc af=>bm c (mem_cons_of_mem _ af)) ai7 ai8;rw[map_cons,sum_cons];rcases dc (j:Int) x (λs=>ez r (j+1) B K s) s mem_cons_self with e|⟨mT,e⟩
  ·rw[e,iU (by omega) (by omega),bg (s+f x) (by omega) (by omega)];congr 1;omega
  ·rw[e,bg s bM (by omega),mT];congr 1;omega
variable {l:zy}
def aaE(aa:fH g){root:Int}(eA:∀c∈l,c.bC.length≤1000000):Ok (Ec g root rs l) (λb=>b=true↔F9 g root rs l):=by
 obtain⟨m,hm,aC⟩:=Kg aa;have Vo:=aa.vg;unfold Ec;by_cases aqh:200<l.length
 ·rw[decide_eq_true (by omega),cond_true];exact⟨false,rfl,λh=>(by cases h),λh=>by have:=h.1;omega⟩
 rw[decide_eq_false (by omega),cond_false];rw[Fb (Dr g root rs) (some false) l 0 () (λj c b7 s af=>?_)]
 rotate_left
 ·unfold Dr jn;by_cases h1:c.Value<1
  ·simp[h1]
  rw[decide_eq_false h1];by_cases D:24000<c.Value
  ·simp[D]
  rw[decide_eq_false D,RN _ (eA c af)];simp only[eu,cond_false,Bool.false_or];cases aj:Dw c.bC with
  |false=>simp[Dw]at aj;simp[aj]
  |true=>
   have Ll:nh (λa b=>decide (a<b)) c.bC=true:=aj;rw[Ll,OI];simp only[eu,Bool.not_true,cond_false,Bool.false_or];by_cases a1:root∈c.bC
   ·simp[a1]
   rw[decide_eq_false a1];simp only[cond_false,Bool.false_or];rw[Fb (λy=>!jH g y) (some false) c.bC 0 () (λj y b7 s _=>by rw[Rh _ _ (by omega),decide_eq_true (wk.2 aa),eu,Bool.true_and])];cases c.bC.any λy=>!jH g y with
   |true=>rfl
   |false=>
    simp only[cond_false,Bool.false_or];rw[aiw rs _ (λx=>decide (x∈c.bC)) (λx=>by unfold Hs;rw[OI,eu]),eu]
 cases U:l.any (Dr g root rs)with
 |true=>
  refine⟨false,rfl,λh=>(by cases h),λh=>?_⟩;obtain⟨c,af,h1⟩:=List.any_eq_true.1 U;rw[QC.2 (h.2.1 c af)]at h1;cases h1
 |false=>
  have n1:∀c∈l,Dq g root rs c:=λc af=>QC.1 (by simpa using List.any_eq_false.1 U c af);simp only[cond_false,hm,eu];rw[Fb (λa:bB=>decide (a.c6<om l a.Hop.bz a.Hop.br)) (some false) m 0 () (λj a b7 s ay=>?_)]
  rotate_left
  ·rw[Ot (nH a.Hop.bz a.Hop.br) l 0 0 (λj c b7 s af=>?_) (λc af=>?_) (by omega) (by omega)]
   ·rw[Int.zero_add];rfl
   ·unfold jn nH;simp only[OI,eu];by_cases h1:a.Hop.br∈c.bC
    ·rw[decide_eq_true h1];simp only[cond_true];by_cases D:a.Hop.bz∈c.bC
     ·right;simp[D]
     ·left;simp[h1,D]
    ·right;simp[h1]
   ·have:=(n1 c af).val;unfold nH;split<;>omega
  cases X:m.any λa:bB=>decide (a.c6<om l a.Hop.bz a.Hop.br)with
  |true=>
   refine⟨false,rfl,λh=>(by cases h),λh=>?_⟩;obtain⟨a,ay,h1⟩:=List.any_eq_true.1 X;have:=h.2.2 a (aC.mem_iff.1 ay);have h1:=of_decide_eq_true h1;omega
  |false=>
   refine⟨true,rfl,λ_=>⟨by omega,n1,λa ay=>?_⟩,λ_=>rfl⟩;have:=List.any_eq_false.1 X a (aC.mem_iff.2 ay);simp only[decide_eq_true_eq]at this;omega
def XN(aa:fH g){root:Int}(aB:root∈ids g)(h1:rs.Pairwise (·<·))(D:∀x∈rs,x∈ids g)(aj:rs.length≤100000)(eA:∀c∈l,c.bC.length≤1000000):
  Ok (yE g root rs l) (λr=>(F9 g root rs l→r=(yh l,0))∧(¬F9 g root rs l→r=(0,1))):=by
 unfold yE;rw[NZ _ _ _ aj,eu,JV aa aB h1 D,decide_eq_true rfl];simp only[Bool.not_true,cond_false];refine Ok.aW (aaE aa eA) λb U=>?_;cases b with
 |false=>exact⟨_,rfl,λh=>(by have:=U.2 h;cases this),λ_=>rfl⟩
 |true=>
  have dc:=U.1 rfl;simp only[Bool.not_true,cond_false];rw[Ot (λc=>c.Value) l 0 0 (λj c b7 s _=>.inl rfl) (λc af=>by have:=(dc.2.1 c af).val;omega) (by omega) (by have:=dc.1;omega)];refine⟨_,rfl,λ_=>by rw[Int.zero_add];rfl,λh=>absurd dc h⟩
end
end
section
set_option linter.all false
open Go List
variable {X:zu}{aq:wX}{bI ts:cq}
def QZ{root:Int}{fF:zu}{c d:Int}(h:oI aq root ts X c)(b3:oI aq root bI fF d)(ki:∀t∈ts,t∈bI):c≤d:=by
 obtain⟨⟨H,kb,aj,_⟩,_⟩:=h;obtain⟨⟨qF,UT,Ll,_⟩,_⟩:=b3;have:=kb.min qF UT.sub λt bE=>UT.pF t (ki t bE);omega
def ZE{root:Int}{UC:cq}{h1 D aj:zu}{c d n:Int}(a:oI aq root ts h1 c)(b:oI aq root bI D d)(e:oI aq root UC aj n)(ki:∀t∈UC,t∈ts∨t∈bI):n≤c+d:=by
 obtain⟨⟨Xt,hI,aJ,_⟩,_⟩:=a;obtain⟨⟨Xu,fW,e2,_⟩,_⟩:=b;obtain⟨⟨ao3,alx,dm,_⟩,_⟩:=e
 have:=alx.min (Xt++Xu) (λx u=>(List.mem_append.1 u).elim (hI.sub x) (fW.sub x)) λt bE=>by
  rcases ki t bE with h|h
  ·exact(hI.pF t h).mono λx u=>List.mem_append.2 (.inl u)
  ·exact(fW.pF t h).mono λx u=>List.mem_append.2 (.inr u)
 rw[WS]at this;omega
variable {H:wX}{t:Int}
def ZF{w:Int}(aH:∀b∈H,b.Hop.bz≠w){v:Int}(h:eL eR H v t):v=w→t=w:=by
 induction h with
 |refl v=>exact id
 |step b U _ _=>exact λe=>absurd e (aH b U)
variable {a:bB}
def XO(aH:∀b∈H,b.Hop.bz≠a.Hop.br){v:Int}(h:eL eR H v t)(bE:t≠a.Hop.br):eL eR (H.erase a) v t:=by
 induction h with
 |refl v=>exact .refl v
 |@step aA b U b3 bg=>
  have bg:=bg bE;by_cases hW:b=a
  ·subst hW;exact absurd (ZF aH b3 rfl) bE
  ·exact .step b ((List.mem_erase_of_ne hW).2 U) bg
def ZG{root:Int}{c:Int}(h:oI aq root ts X c){x:b6}(u:x∈X)(aH:∀k∈X,k.bz≠x.br):x.br∈ts:=by
 obtain⟨⟨H,kb,_,aC⟩,_⟩:=h;obtain⟨a,ay,rfl⟩:=List.mem_map.1 (aC.mem_iff.1 u);by_cases bE:a.Hop.br∈ts
 ·exact bE
 ·exfalso;exact kb.need ay λt VA=>XO (λb U=>aH b.Hop (aC.mem_iff.2 (List.mem_map.2 ⟨b,U,rfl⟩))) (kb.pF t VA) λe=>bE (by rw[←e];exact VA)
def Yl{C:cq}{v:Int}(h:eL eR H v t):v∉C→t∈C→∃a∈H,a.Hop.br∈C∧a.Hop.bz∉C:=by
 induction h with
 |refl v=>exact λh1 D=>absurd D h1
 |step b U _ bg=>
  intro h1 D;by_cases A2:b.Hop.br∈C
  ·exact⟨b,U,A2,h1⟩
  ·exact bg A2 D
def Nx{A:Type}{f g:A→Int}:∀(l:List A),(∀x∈l,f x≤g x)→(l.map f).sum≤(l.map g).sum
 |[],_=>Int.le_refl _
 |x::r,h=>by
  have h1:=Nx r λy ag=>h y (mem_cons_of_mem _ ag);have D:=h x mem_cons_self;simp only[map_cons,sum_cons];omega
def Q0(H:wX):∀l:zy,(H.map λa=>om l a.Hop.bz a.Hop.br).sum=(l.map λc=>(H.map λa=>nH a.Hop.bz a.Hop.br c).sum).sum
 |[]=>by
  unfold om;induction H with
  |nil=>rfl
  |cons a r bg=>simp only[map_cons,map_nil,sum_cons,sum_nil]at bg ⊢;omega
 |c::r=>by
  have bg:=Q0 H r
  have:∀H:wX,(H.map λa=>om (c::r) a.Hop.bz a.Hop.br).sum=(H.map λa=>nH a.Hop.bz a.Hop.br c).sum+(H.map λa=>om r a.Hop.bz a.Hop.br).sum:=by
   intro H;induction H with
   |nil=>rfl
   |cons a s bg=>
    simp only[map_cons,sum_cons];rw[bg,show om (c::r) a.Hop.bz a.Hop.br=nH a.Hop.bz a.Hop.br c+om r a.Hop.bz a.Hop.br from by simp[om]];omega
  rw[this,bg,map_cons,sum_cons]
def afc{c:fe}(h:1≤c.Value)(ay:a∈H)(h1:a.Hop.br∈c.bC)(D:a.Hop.bz∉c.bC):c.Value≤(H.map λa=>nH a.Hop.bz a.Hop.br c).sum:=by
 have alv:∀H:wX,0≤(H.map λa=>nH a.Hop.bz a.Hop.br c).sum:=by
  intro H;induction H with
  |nil=>exact Int.le_refl _
  |cons b r bg=>
   simp only[map_cons,sum_cons];have:0≤nH b.Hop.bz b.Hop.br c:=by unfold nH;split<;>omega
   omega
 induction H with
 |nil=>cases ay
 |cons b r bg=>
  simp only[map_cons,sum_cons];have U:0≤nH b.Hop.bz b.Hop.br c:=by unfold nH;split<;>omega
  rcases mem_cons.1 ay with rfl|ay
  ·have:=alv r;have e:nH a.Hop.bz a.Hop.br c=c.Value:=if_pos ⟨h1,D⟩;omega
  ·have:=bg ay;omega
variable {g:bA}
def ZH{root:Int}{rs:cq}{l:zy}(dc:F9 g root rs l)(X:∀a∈H,a∈hU g)(af:∀t∈rs,eL eR H root t):yh l≤gB eR H:=by
 have h1:(H.map λa=>om l a.Hop.bz a.Hop.br).sum≤(H.map λa=>a.c6).sum:=Nx H λa ay=>dc.2.2 a (X a ay)
 have D:(l.map (·.Value)).sum≤(l.map λc=>(H.map λa=>nH a.Hop.bz a.Hop.br c).sum).sum:=Nx l λc hX=>by
  have n1:=dc.2.1 c hX;obtain⟨x,u,Mh⟩:=n1.hit;obtain⟨a,ay,aj,a1⟩:=Yl (af x u) n1.vg Mh;exact afc n1.val.1 ay aj a1
 rw[Q0]at h1;show(l.map (·.Value)).sum≤(H.map eR.cost).sum;have e:(H.map eR.cost)=H.map λa=>a.c6:=rfl;rw[e];omega
variable {x:Int}
def adg{c:Int}(h:kr aq t x c):∃K,(∀a∈K,a∈aq)∧eL eR K x t∧gB eR K=c:=by
 induction h with
 |nil=>exact⟨[],by simp,.refl _,rfl⟩
 |@cons a c ay _ bg=>
  obtain⟨K,h1,D,aj⟩:=bg;refine⟨a::K,λb U=>?_,.step a mem_cons_self (D.mono λb U=>mem_cons_of_mem _ U),?_⟩
  ·rcases mem_cons.1 U with rfl|U
   ·exact ay
   ·exact h1 b U
  ·rw[qM,aj];rfl
def XP(aa:fH g){root k:Int}(aB:root∈ids g)(u:x∈ids g)(hk:pG g root x=some k){c:Int}(h:oI (hU g) root [x] X c):c=k:=by
 obtain⟨⟨H,kb,rfl,_⟩,_⟩:=h;obtain⟨K,h1,D,aj⟩:=adg (Tj aa (JW hk).2.2.2);have a1:=kb.min K h1 λt bE=>by rw[List.mem_singleton.1 bE];exact D
 obtain⟨cL,_,cp,cG,gC,kB⟩:=Px aa aB u hk;have bU:=ZH (g:=g) (root:=root) (rs:=[x]) (l:=cL) ⟨by omega,cp,cG⟩ kb.sub λt bE=>kb.pF t bE;omega
end
section
set_option linter.all false
open Go List
def Au(aq:wX)(ta:wX→Prop)(least:Int)(S:Nat):Prop:=
 (least = -1∧∀s,s<S→¬ta (si s 0 aq))∨(0≤least∧(∃s,ta (si s 0 aq)∧gB eR (si s 0 aq)=least)∧∀s,s<S→ta (si s 0 aq)→least≤gB eR (si s 0 aq))
variable {S:Nat}{aq:wX}{ta:wX→Prop}
def Au.keep{least:Int}(h:Au aq ta least S)(aR:ta (si S 0 aq)→0≤least∧least≤gB eR (si S 0 aq)):Au aq ta least (S+1):=by
 rcases h with⟨h1,D⟩|⟨h1,D,aj⟩
 ·refine .inl ⟨h1,λs X af=>?_⟩;rcases Nat.lt_or_eq_of_le (Nat.le_of_lt_succ X)with h|rfl
  ·exact D s h af
  ·have:=(aR af).1;omega
 ·refine .inr ⟨h1,D,λs X af=>?_⟩;rcases Nat.lt_or_eq_of_le (Nat.le_of_lt_succ X)with h|rfl
  ·exact aj s h af
  ·exact(aR af).2
def avk{least:Int}(h:Au aq ta least S)(bM:0≤gB eR (si S 0 aq))(af:ta (si S 0 aq))(aH:¬(0≤least∧least≤gB eR (si S 0 aq))):Au aq ta (gB eR (si S 0 aq)) (S+1):=by
 refine .inr ⟨bM,⟨S,af,rfl⟩,λs X qO=>?_⟩;rcases Nat.lt_or_eq_of_le (Nat.le_of_lt_succ X)with bL|rfl
 ·rcases h with⟨h1,D⟩|⟨h1,D,aj⟩
  ·exact absurd qO (D s bL)
  ·have:=aj s bL qO;omega
 ·omega
end
section
set_option linter.all false
open Go List
def NA{α β:Type}(q:α→Bool){B:Int→α→(Bool→Option β)→Bool→Option β}{K:Bool→Option β}(dc:∀j x b7 s,B j x b7 s=bif s then b7 (q x)else b7 false):∀(l:List α) (j:Nat) (s:Bool),ez l j B K s=K (s&&l.all q)
 |[],j,s=>by show K s=_;simp
 |x::r,j,s=>by
  show B (j:Int) x (λs=>ez r (j+1) B K s) s=_;rw[dc];cases s with
  |true=>rw[cond_true,NA q dc r (j+1),all_cons,Bool.true_and]
  |false=>rw[cond_false,NA q dc r (j+1)];simp
variable {g:bA}{ts:cq}
def Iq{root:Int}{x:hq×Int×Int}(h:Ju g root ts x):(x.2.2=0∧oI (hU g) root ts x.1.Links x.2.1∧∀t∈ts,eL eR (hU g) root t)∨(x.2.2=9∧¬∀t∈ts,eL eR (hU g) root t):=by
 rcases h with⟨h1,_,D⟩|⟨rfl,h⟩
 ·refine .inl ⟨h1,D,λt bE=>?_⟩;obtain⟨⟨H,kb,_,_⟩,_⟩:=D;exact(kb.pF t bE).mono kb.sub
 ·exact .inr ⟨rfl,h⟩
def QD(aa:fH g){root:Int}{X:zu}{c:Int}(h:oI (hU g) root ts X c):0≤c∧c≤1000000:=by
 have eo:=I4 aa;have aH:=ZW eo h;obtain⟨⟨H,kb,rfl,aC⟩,_⟩:=h;have h1:=xH λa ay=>eo.cost a (kb.sub a ay);have D:=aC.length_eq;rw[length_map]at D;omega
def an1(t:cq):Ht t=some true:=by
 unfold Ht;refine atb (Ok.aW (ahj t) λs X=>Ok.aW (X5 X (by omega)) λp aC=>?_);obtain⟨g,t1⟩:=p;obtain⟨bu,bE⟩:=aC;have aa:fH g:=bu.v;have Vo:=aa.vg;have rL:1≤g.bC.length:=bu.n.1;dsimp only;refine WX (g:=g) bE (by omega) λq r bV aB sB=>?_;refine Ok.aW (QG (g:=g) bV (by omega) (by omega)) λl aH=>?_;obtain⟨a,t2⟩:=l;obtain⟨⟨jU,a2,a3⟩,Me⟩:=aH;refine Ok.aW (QG (g:=g) Me (by omega) (by omega)) λl aH=>?_;obtain⟨b,t3⟩:=l;obtain⟨⟨dO,ep,hg⟩,_⟩:=aH;simp only at jU a2 a3 dO ep hg ⊢;rw[v8 (by simp;omega),eu,nil_append];have Tk:=YL b a jU
 have uV:∀(l s:cq) (j:Nat) (β:Type) (K:cq→Option β),s.length+l.length≤100000→ez l j (λ(bk:Int) (aJ:Int) (c1:(cq)→Option β) (nZ:(cq))=>aW (xc nZ aJ) λ(hD:(cq))=>c1 hD) K s=K (l.foldl mI s):=by
  intro l;induction l with
  |nil=>intro s j β K _;rfl
  |cons x r bg=>
   intro s j β K h;rw[length_cons]at h;show(aW (xc s x) λhD=>ez r (j+1) _ K hD)=_;have:=IP s x;rw[Te _ _ (by omega),eu,bg _ _ _ _ (by omega)];rfl
 rw[uV b a 0 _ _ (by omega)];generalize b.foldl mI a=vE at Tk;obtain⟨d1,d2,d3⟩:=Tk;have d4:∀x∈vE,x∈ids g:=λx u=>((d2 x).1 u).elim (a2 x) (ep x);refine⟨true,?_,rfl⟩;refine EH aa sB jU a2 (by omega) λWK ay=>?_;refine EH aa sB dO ep (by omega) λWL U=>?_;refine EH aa sB d1 d4 (by omega) λFt af=>?_;have ay:=Iq ay;have U:=Iq U;rcases Iq af with⟨bl,b2,c9⟩|⟨bl,b2⟩
 ·have VM:∀t∈a,eL eR (hU g) r.cu t:=λt bE=>c9 t ((d2 t).2 (.inl bE));have ak3:∀t∈b,eL eR (hU g) r.cu t:=λt bE=>c9 t ((d2 t).2 (.inr bE));rcases ay with⟨aJ,e2,_⟩|⟨_,e2⟩
  rotate_left
  ·exact absurd VM e2
  rcases U with⟨f1,f2,_⟩|⟨_,f2⟩
  rotate_left
  ·exact absurd ak3 f2
  have cp:=QZ e2 b2 λt bE=>(d2 t).2 (.inl bE);have cG:=QZ f2 b2 λt bE=>(d2 t).2 (.inr bE);have gC:=ZE e2 f2 b2 λt bE=>(d2 t).1 bE;have gJ:=QD aa e2;have gA:=QD aa f2;rw[iU (by omega) (by omega)];rw[bl,aJ,f1,decide_eq_false (by omega:¬Ft.2.1<WK.2.1),decide_eq_false (by omega:¬Ft.2.1<WL.2.1),decide_eq_false (by omega:¬WK.2.1+WL.2.1<Ft.2.1)];simp only[decide_true,Bool.not_true,Bool.or_self,cond_false];rw[Fb (λ_:b6=>false) (some false) Ft.1.Links 0 () (λj h b7 s cA=>?_)]
  rotate_left
  ·rw[NA (λk:b6=>!decide (k.bz=h.br)) (λj k b7 s=>rfl)];unfold jn;cases ny:(true&&Ft.1.Links.all λk:b6=>!decide (k.bz=h.br))with
   |false=>simp
   |true=>
    have aie:=ZG b2 cA λk hk e=>by
     rw[Bool.true_and,List.all_eq_true]at ny;have:=ny k hk;simp[e]at this
    rw[aiT,decide_eq_true aie];simp[eu]
  rw[List.any_eq_false.2 (λ_ _=>by simp),cond_false];unfold jn;dsimp only;cases a with
  |nil=>
   rw[decide_eq_false (by simp)];simp only[cond_false];rw[I5];rfl
  |cons x M3=>
   have u:=a2 x mem_cons_self;have eV:ug (x::M3) (0:Int) (1:Int)=some [x]:=by
    obtain⟨m,m1,m2,_⟩:=Ji (l:=x::M3) (a:=0) (b:=1) (by simp;omega);rw[m1,m2];rfl
   have Dt:=VM x mem_cons_self;have aif:=(ZV aa sB u).2 Dt;obtain⟨k,hk⟩:=Option.isSome_iff_exists.1 (show(pG g r.cu x).isSome=true from aif);rw[decide_eq_true (by simp)];simp only[cond_true];rw[eV,eu];refine EH aa sB (by simp) (λy ag=>by rw[List.mem_singleton.1 ag];exact u) (by simp) λasr Z=>?_;rcases Iq Z with⟨cQ,dM,_⟩|⟨_,dM⟩
   rotate_left
   ·exact absurd (λt bE=>by rw[List.mem_singleton.1 bE];exact Dt) dM
   have hm:=XP aa sB u hk dM;obtain⟨cL,ak,ar,aM,aK,be⟩:=Px aa sB u hk
   have eA:∀c∈cL,c.bC.length≤1000000:=λc af=>by
    have h:=zx (a:=c.bC) (b:=ids g) ((ar c af).nQ.imp λ{a b} h=>by omega) (ar c af).ids;have fz:(ids g).length=g.bC.length:=by simp[ids]
    omega
   rw[ak,eu];obtain⟨v,hn,jl,_⟩:=XN aa sB (rs:=[x]) (by simp) (λy ag=>by rw[List.mem_singleton.1 ag];exact u) (by simp) eA;have jl:=jl ⟨by omega,ar,aM⟩;subst jl;rw[hn,eu,show di (x::M3) (0:Int)=some x from rfl,eu,YQ,eu];have ajE:vl g r.cu x=(k,true):=by unfold vl;rw[hk];rfl
   rw[ajE,cQ,hm,be,I5];simp[eu]
 ·rw[bl];simp only[show decide ((9:Int)=0)=false from rfl,decide_true,Bool.not_false,cond_true];rcases ay with⟨aJ,_,dm⟩|⟨aJ,_⟩
  ·rcases U with⟨f1,_,f3⟩|⟨f1,_⟩
   ·exact absurd (λt bE=>((d2 t).1 bE).elim (dm t) (f3 t)) b2
   ·rw[aJ,f1,I5];rfl
  ·rw[aJ,I5];rfl
end
section
set_option linter.all false
open Go List
def ama(l:dR):dR:=dR.mk l.A l.B l.kP l.kQ 7
def AS(g:bA):bA:=bA.mk g.bC (g.Links.map ama)
end
section
set_option linter.all false
open Go List
structure T9(g:bA)(r m:ja):Prop where
 nd:(m.map (·.1)).Nodup
 key:∀h,h∈m.map (·.1)→∃a∈hU g,a.Hop=h
 val:∀h,kA m h=kA (Fh g) h-kA r h
def T9.len{g:bA}{r m:ja}(h:T9 g r m):m.length≤2*g.Links.length:=by
 have:=zx (b:=(hU g).map (·.Hop)) h.nd λx u=>by
  obtain⟨a,ay,rfl⟩:=h.key x u;exact List.mem_map.2 ⟨a,ay,rfl⟩
 simpa [E0]using this
end
end Go.Proofs.YtmnbolcmepihlaaGreat
