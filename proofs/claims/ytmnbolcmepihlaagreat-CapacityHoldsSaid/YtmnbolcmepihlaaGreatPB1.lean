/- Several texts in one. No condition but those that stand in each. -/
import Derived.Test.YtmnbolcmepihlaaGreatPA1
import Derived.Test.YtmnbolcmepihlaaGreatWX
import Derived.Test.YtmnbolcmepihlaaGreatPN
import Derived.Test.YtmnbolcmepihlaaGreatDLC
namespace Go.Proofs.YtmnbolcmepihlaaGreat
set_option linter.all false
open Go
section
theorem ab9(l:List Int)(aJ:l.length≤1000000):BR l=some (l1 (λa b=>decide (a<b)) l):=by
 unfold BR
 refine(LK (λa b:Int=>decide (a<b)) (some false) (λj x y r q s bW iZ aM=>by
  simp only[C6 iZ aM (by omega),ee];by_cases h:y<x
  ·have:¬x≤y:=by omega
   simp[h,this]
  ·have:x≤y:=by omega
   simp[h,this]) _).trans ?_
 cases l1 (λa b:Int=>decide (a<b)) l<;>rfl
def AR(l:c8):List bL:=[bL.mk (bh.mk l.A l.B) l.qi,bL.mk (bh.mk l.B l.A) l.qj]
def jZ(g:b0):List bL:=g.Links.flatMap AR
theorem LY{α mN β:Type}{B:Int→α→(List mN→Option β)→List mN→Option β}{K:List mN→Option β}(f:α→List mN)(fv:∀j x bW s,B j x bW s=bf (j7 s (f x)) λl=>bW l)(k:Nat)(hk:∀x,(f x).length≤k):∀(l:List α) (j:Nat) (s:List mN),s.length+k*l.length≤1000000→ez l j B K s=K (s++l.flatMap f)
 |[],j,s,_=>by simp[ez]
 |x::r,j,s,h=>by
  have:=hk x;simp only[List.length_cons,Nat.mul_add,Nat.mul_one]at h;rw[ez,fv,yf (by omega),ee,LY f fv k hk r (j+1) _ (by simp;omega)];simp
theorem tc{g:b0}{a:bL}:a∈jZ g↔∃l∈g.Links,a=bL.mk (bh.mk l.A l.B) l.qi∨a=bL.mk (bh.mk l.B l.A) l.qj:=by
 simp[jZ,AR]
theorem HG{a b:bh}(h:a≠b):fL [λx:bh=>x.bg,λx:bh=>x.aQ] a b<0∨fL [λx:bh=>x.bg,λx:bh=>x.aQ] b a<0:=by
 rw[o5,o5,o5,o5];have D:a.bg≠b.bg∨a.aQ≠b.aQ:=by
  apply Classical.byContradiction;intro aT;have aA:a.bg=b.bg:=Classical.byContradiction λx=>aT (.inl x);have e2:a.aQ=b.aQ:=Classical.byContradiction λx=>aT (.inr x);apply h;cases a;cases b
  simp only at aA e2;rw[aA,e2]
 simp only[fL];omega
theorem MF{g:b0}(af:h6 g):(jZ g).Pairwise λa b=>a.Hop≠b.Hop:=by
 unfold jZ;rw[List.pairwise_flatMap];refine⟨λl aJ=>?_,af.Bj.imp_of_mem λ{a b} aC V iN=>?_⟩
 ·have:=af.lt l aJ;simp only[AR,List.pairwise_cons,List.mem_cons,List.not_mem_nil,or_false,forall_eq,List.Pairwise.nil,and_true,false_imp_iff,implies_true];intro h;injection h with h1 D
  omega
 ·have h1:=af.lt a aC;have D:=af.lt b V;simp only[mM,Bool.or_eq_true,Bool.and_eq_true,decide_eq_true_eq]at iN;intro x u y ah;simp only[AR,List.mem_cons,List.not_mem_nil,or_false]at u ah;rcases u with rfl|rfl<;>rcases ah with rfl|rfl<;>(simp only;intro h;injection h with ak bc;omega)
theorem XO{l:c8}(h:sF l=false):(1≤l.qi∧l.qi≤1000)∧1≤l.qj∧l.qj≤1000:=by
 simp only[sF,DB,Bool.or_eq_false_iff,Bool.not_eq_false',Bool.and_eq_true,decide_eq_true_eq]at h;exact⟨h.1.1.1,h.1.1.2⟩
theorem vW(g:b0):(jZ g).length=2*g.Links.length:=by
 unfold jZ;induction g.Links with
 |nil=>rfl
 |cons a r bD=>rw[List.flatMap_cons,List.length_append,bD];simp[AR];omega
theorem O0{α mN:Type}{f:α→mN}:∀{l:List α},(l.Pairwise λa b=>f a≠f b)→∀a∈l,∀b∈l,f a=f b→a=b
 |[],_,a,aC,_,_,_=>by cases aC
 |x::r,h,a,aC,b,V,e=>by
  rw[List.pairwise_cons]at h;rcases List.mem_cons.1 aC with h1|h1<;>rcases List.mem_cons.1 V with D|D
  ·rw[h1,D]
  ·subst h1;exact absurd e (h.1 b D)
  ·subst D;exact absurd e.symm (h.1 a h1)
  ·exact O0 h.2 a h1 b D e
theorem aae{g:b0}(af:h6 g):ob (jZ g):=by
 refine⟨λa aC=>?_,λa aC=>?_,O0 (MF af),?_⟩
 ·obtain⟨l,aJ,h⟩:=tc.1 aC;have:=XO (af.KR l aJ);rcases h with rfl|rfl<;>(simp only;omega)
 ·obtain⟨l,aJ,h⟩:=tc.1 aC;have h1:=af.ends l aJ;have D:=C7.1 h1.1;have ak:=C7.1 h1.2;obtain⟨x,u,gb⟩:=D;obtain⟨y,ah,pk⟩:=ak;have bc:=af.E7 x u;have bX:=af.E7 y ah;rcases h with rfl|rfl<;>(simp only;omega)
 ·have:=af.nl;rw[vW];omega
theorem aes{g:b0}(af:h6 g):∃m,CO g=some m∧m.Perm (jZ g):=by
 have jQ:=af.nl;have eF:=vW g;obtain⟨m,h1,D,ak⟩:=Gc (ks:=[λx:bL=>x.Hop.bg,λx:bL=>x.Hop.aQ]) (l:=jZ g) ((MF af).imp λ{a b} h=>HG h) (by omega);refine⟨m,?_,D⟩;unfold CO;refine(LY AR (λj x bW s=>rfl) 2 (λx=>Nat.le_refl _) _ _ _ (by simp;omega)).trans ?_;rw[List.nil_append];show bf (m0 _ (jZ g)) _=_;rw[h1];rfl
variable {a b:List bL}
theorem N9(h:a.Perm b)(V:ob b):ob a:=⟨λx u=>V.cost x (h.mem_iff.1 u),λx u=>V.to x (h.mem_iff.1 u),λx u y ah=>V.hop x (h.mem_iff.1 u) y (h.mem_iff.1 ah),by rw[h.length_eq];exact V.len⟩
variable {T:Int→Prop}
theorem kH.same{A:Type}[DecidableEq A]{N:vg A}{L va:List A}(W:∀a,a∈L↔a∈va){v:Int}{H:List A}(h:kH N L T v H):kH N va T v H:=
 ⟨λa aC=>(W a).1 (h.sub a aC),λa aC=>h.pos a ((W a).2 aC),h.qJ,λK fz=>h.min K λa aC=>(W a).2 (fz a aC)⟩
theorem acc{A:Type}[DecidableEq A]{N:vg A}{L:List A}{v:Int}(aB:∀a∈L,0<N.cost a)(aa:∀t,T t→eR N L v t):∃H,kH N L T v H:=by
 have:∀(n:Nat) (K:List A),(∀a∈K,a∈L)→(∀t,T t→eR N K v t)→gX N K≤n→∃H,kH N L T v H:=by
  intro n;induction n with
  |zero=>
   intro K h1 D ak;refine⟨K,h1,aB,D,λiW bc _=>?_⟩;have:0≤gX N iW:=TY λa aC=>by have:=aB a (bc a aC);omega
   simp only[Int.ofNat_zero]at ak;omega
  |succ n bD=>
   intro K h1 D ak;by_cases u:∃iW,(∀a∈iW,a∈L)∧(∀t,T t→eR N iW v t)∧gX N iW<gX N K
   ·obtain⟨iW,cF,cW,ht⟩:=u;exact bD iW cF cW (by omega)
   ·refine⟨K,h1,aB,D,λiW bc bX=>?_⟩;apply Classical.byContradiction;intro bQ;exact u ⟨iW,bc,bX,by omega⟩
 exact this (gX N L).toNat L (λa aC=>aC) aa (by omega)
variable {ts:List Int}
theorem WY(h:a.Perm b){root:Int}{W:List bh}{c:Int}(V:qm a root ts W c):qm b root ts W c:=by
 obtain⟨⟨fH,h1,D,ak⟩,bc⟩:=V;exact⟨⟨fH,h1.same λa=>h.mem_iff,D,ak⟩,bc⟩
variable {aL:List bL}
theorem XP{fH:List bL}(dR:ob aL)(h:∀a∈fH,a∈aL):(fH.length:Int)≤gX fU fH:=(x0 λa aC=>dR.cost a (h a aC)).1
theorem aaf(dR:ob aL){root:Int}(aa:∀t,t∈ts→eR fU aL root t):∃W c,qm aL root ts W c:=by
 obtain⟨fH,i0⟩:=acc (N:=fU) (L:=aL) (T:=λt=>t∈ts) (λa aC=>by have:=(dR.cost a aC).1;show 0<a.gr;omega) aa;have h1:=XP dR i0.sub;have D:=i0.min aL (λa aC=>aC) aa;have ak:=(x0 dR.cost).2;have bc:=dR.len;obtain⟨m,_,cW,ht⟩:=Me dR i0 (by omega);exact⟨m,_,⟨fH,i0,rfl,cW⟩,ht⟩
end
section
def qv(S:Nat):Nat→List bL→List bL
 |_,[]=>[]
 |i,a::r=>if S.testBit i then a::qv S (i+1) r else qv S (i+1) r
end
section
theorem Oa{f:Int→Int}:∀(b:List Int) (i:Nat),i<b.length→∀x,((b.set i x).map f).sum=(b.map f).sum-f (b.getD i 0)+f x
 |[],_,h,_=>by simp at h
 |y::b,0,_,x=>by simp;omega
 |y::b,i+1,h,x=>by
  have:=Oa (f:=f) b i (by simpa using h) x;simp only[List.set_cons_succ,List.map_cons,List.sum_cons,List.getD_cons_succ];omega
theorem Ob{f:Int→Int}{m:Int}(h:∀x,0≤f x∧f x≤m):∀b:List Int,0≤(b.map f).sum∧(b.map f).sum≤m*b.length
 |[]=>by simp
 |y::b=>by
  have h1:=Ob h b;have D:=h y;simp only[List.map_cons,List.sum_cons,List.length_cons,Int.natCast_add,Int.mul_add];omega
theorem Iu{b:List Int}{i:Nat}(hi:i<b.length)(x:Int)(v:Nat):(b.set i x).getD v 0=if v=i then x else b.getD v 0:=by
 rw[List.getD_eq_getElem?_getD,List.getD_eq_getElem?_getD,List.getElem?_set];by_cases h:v=i
 ·subst h;simp[hi]
 ·rw[if_neg h,if_neg λe=>h e.symm]
abbrev tU:Int:=1099511627776
def rH(x:Int):Int:=if x<tU then 1 else 0
def fin(b:List Int):Int:=(b.map rH).sum
theorem aah(b:List Int):0≤fin b∧fin b≤b.length:=by
 have:=Ob (f:=rH) (m:=1) (λx=>by unfold rH;split<;>omega) b;unfold fin;omega
theorem aai{b:List Int}{i:Nat}(hi:i<b.length)(x:Int):fin (b.set i x)=fin b-rH (b.getD i 0)+rH x:=Oa b i hi x
def mS(cs:List (List Int))(ay v:Nat):Int:=(cs.getD ay []).getD v 0
structure I7(gA:List Int)(L:List bL)(cs:List (List Int)):Prop where
 nd:gA.Nodup
 le:gA.length≤24
 len:cs.length=gA.length
 row:∀ay,ay<gA.length→(cs.getD ay []).length=gA.length
 aeW:∀a∈L,a.Hop.bg∈gA∧a.Hop.aQ∈gA∧mS cs (gA.idxOf a.Hop.bg) (gA.idxOf a.Hop.aQ)=a.gr∧1≤a.gr∧a.gr≤1000
 hop:∀ay v,ay<gA.length→v<gA.length→0<mS cs ay v→bL.mk (bh.mk (gA.getD ay 0) (gA.getD v 0)) (mS cs ay v)∈L
theorem I7.aik{gA:List Int}{L:List bL}{cs:List (List Int)}(h:I7 gA L cs){ay v:Nat}(hu:ay<gA.length)(af:v<gA.length)(he:0<mS cs ay v):mS cs ay v≤1000:=(h.aeW _ (h.hop ay v hu af he)).2.2.2.2
section tab
variable {gA:List Int}{L:List bL}{cs:List (List Int)}{ts:List Int}
structure u2(gA:List Int)(L:List bL)(ts:List Int)(S:Nat)(b:List Int):Prop where
 len:b.length=gA.length
 bd:∀v,v<gA.length→0≤b.getD v 0∧b.getD v 0≤tU
 ok:∀v,v<gA.length→b.getD v 0<tU→b.getD v 0≤48000*S-48000+1000*fin b∧∃H,l5 fU L ts.length (λi=>ts.getD i 0) S (gA.getD v 0) H∧gX fU H=b.getD v 0
structure Bu(gA:List Int)(L:List bL)(cs:List (List Int))(ts:List Int)(rows:List (List Int))(S:Nat)(b:List Int):Prop where
 s:u2 gA L ts S b
 one:∀i,i<ts.length→S=2 ^ i→b.getD (gA.idxOf (ts.getD i 0)) 0≤0
 hop:∀ay v,ay<gA.length→v<gA.length→0<mS cs ay v→b.getD ay 0≤mS cs ay v+b.getD v 0
 part:∀P R,0<P→0<R→P &&& R=0→P ||| R=S→∀v,v<gA.length→b.getD v 0≤(rows.getD P []).getD v 0+(rows.getD R []).getD v 0
theorem u2.put{S:Nat}{b:List Int}(h:u2 gA L ts S b){ay:Nat}(hu:ay<gA.length){c:Int}(bJ:0≤c)(aa:c<tU)(V:c≤48000*S-48000+1000*fin b∨c≤48000*S-48000+1000*fin b+1000∧tU≤b.getD ay 0∨∃v,v<gA.length∧v≠ay∧b.getD v 0<tU∧c≤b.getD v 0+1000∧c≤b.getD ay 0)
  (aH:∃H,l5 fU L ts.length (λi=>ts.getD i 0) S (gA.getD ay 0) H∧gX fU H=c):u2 gA L ts S (b.set ay c):=by
 have jI:ay<b.length:=by rw[h.len];exact hu
 have kf:=h.bd ay hu;have agP:=aai jI c;have agM:rH c=1:=by unfold rH;rw[if_pos aa]
 have R8:fin b≤fin (b.set ay c):=by
  rw[agP,agM];unfold rH;split<;>omega
 refine⟨by rw[List.length_set];exact h.len,λv af=>?_,λv af uW=>?_⟩
 ·rw[Iu jI];split
  ·omega
  ·exact h.bd v af
 ·rw[Iu jI]at uW ⊢;by_cases e:v=ay
  ·subst e;rw[if_pos rfl];refine⟨?_,aH⟩;rcases V with V|⟨V,be⟩|⟨w,g5,ng,TU,apf,apg⟩
   ·omega
   ·have:rH (b.getD v 0)=0:=by unfold rH;rw[if_neg (by omega)]
    omega
   ·by_cases be:b.getD v 0<tU
    ·have:=(h.ok v af be).1;omega
    ·have:rH (b.getD v 0)=0:=by unfold rH;rw[if_neg be]
     have:=(h.ok w g5 TU).1;omega
  ·rw[if_neg e]at uW ⊢;obtain⟨h1,D⟩:=h.ok v af uW;exact⟨by omega,D⟩
theorem Bu.le{rows:List (List Int)}{S:Nat}{b:List Int}(vA:gA.length≤24)(h:Bu gA L cs ts rows S b){v:Nat}(af:v<gA.length)(be:b.getD v 0<tU):b.getD v 0≤48000*S-24000:=by
 have h1:=(h.s.ok v af be).1;have D:=(aah b).2;have ak:=h.s.len;omega
theorem u2.step{S:Nat}{b:List Int}(mU:I7 gA L cs)(h:u2 gA L ts S b){ay v:Nat}(hu:ay<gA.length)(af:v<gA.length)(he:0<mS cs ay v)(bQ:mS cs ay v+b.getD v 0<b.getD ay 0):u2 gA L ts S (b.set ay (mS cs ay v+b.getD v 0)):=by
 have h1:=mU.aik hu af he;have D:=h.bd v af;have ak:=h.bd ay hu;have be:b.getD v 0<tU:=by omega
 obtain⟨bc,H,bX,dV⟩:=h.ok v af be;refine h.put hu (by omega) (by omega) (.inr (.inr ⟨v,af,λe=>by subst e;omega,be,by omega,by omega⟩)) ⟨_,l5.hop (N:=fU) _ (mU.hop ay v hu af he) bX,?_⟩;rw[o6,dV];rfl
end tab
end
section
variable {W:List bh}{x:Int}
theorem aaj{fH:List bL}(aB:W.Perm (fH.map (·.Hop))){root:Int}(h:eR fU fH root x):mA root W x:=by
 have:∀{y x:Int},eR fU fH y x→mA root W y→mA root W x:=λ{y x} h=>by
  induction h with
  |refl v=>exact id
  |step a aC _ bD=>exact λax=>bD (mA.step a.Hop (aB.mem_iff.2 (List.mem_map.2 ⟨a,aC,rfl⟩)) ax)
 exact this h .root
theorem aak{g:b0}(af:h6 g){a:bL}(aC:a∈jZ g):a.Hop.bg∈ids g∧a.Hop.aQ∈ids g:=by
 obtain⟨k,hk,h⟩:=tc.1 aC;have:=af.ends k hk;rcases h with rfl|rfl
 ·exact⟨uw.2 this.1,uw.2 this.2⟩
 ·exact⟨uw.2 this.2,uw.2 this.1⟩
theorem Dh{g:b0}(af:h6 g)(u:x∈ids g):1≤x∧x≤99:=by
 obtain⟨r,ax,rfl⟩:=List.mem_map.1 u;exact af.E7 r ax
variable {aL:List bL}{c:Int}{ts:List Int}
theorem NI{g:b0}(af:h6 g)(jq:∀a∈aL,a∈jZ g){root:Int}(ax:root∈ids g)(h:qm aL root ts W c):qC (c0.mk root W):=by
 obtain⟨⟨fH,i0,aa,aB⟩,I8⟩:=h
 have hm:∀h∈W,∃a∈fH,a.Hop=h:=λh cb=>by
  obtain⟨a,aC,e⟩:=List.mem_map.1 (aB.mem_iff.1 cb);exact⟨a,aC,e⟩
 have agF:fH.Pairwise λa b=>a.Hop.aQ≠b.Hop.aQ:=by
  have fm:fH.Pairwise λa b=>a≠b:=i0.nodup;exact fm.imp_of_mem λ{a b} aC V iN e=>iN (i0.dst aC V e)
 refine⟨Dh af ax,λh cb=>?_,I8.imp λ{a b} h=>?_,?_,λh cb=>?_,λh cb=>?_⟩
 ·obtain⟨a,aC,rfl⟩:=hm h cb;have:=aak af (jq a (i0.sub a aC));exact⟨Dh af this.1,Dh af this.2⟩
 ·rw[o5,o5]at h;simp only[fL]at h;simp only[mw,Bool.or_eq_true,Bool.and_eq_true,decide_eq_true_eq];omega
 ·have D:(fH.map (·.Hop)).Pairwise λa b=>a.aQ≠b.aQ:=List.pairwise_map.2 agF;exact(aB.pairwise_iff λ{a b} h=>Ne.symm h).2 D
 ·obtain⟨a,aC,rfl⟩:=hm h cb;exact i0.root aC
 ·obtain⟨a,aC,rfl⟩:=hm h cb;exact aaj aB (i0.Ak aC)
theorem Wh{root:Int}(h:qm aL root ts W c){t:Int}(bB:t∈ts):t=root∨∃x∈W,x.aQ=t:=by
 obtain⟨⟨fH,i0,aa,aB⟩,I8⟩:=h;rcases Nq (i0.qJ t bB)with h|⟨e,he,h1,_⟩
 ·exact .inl h.symm
 ·exact .inr ⟨e.Hop,aB.mem_iff.2 (List.mem_map.2 ⟨e,he,rfl⟩),h1⟩
theorem x1{A:Type}[DecidableEq A]{a b:List A}(h:a.Nodup)(W:∀x∈a,x∈b):a.length≤b.length:=by
 induction a generalizing b with
 |nil=>simp
 |cons x a bD=>
  rw[List.nodup_cons]at h;have u:=W x (by simp);have:=bD (b:=b.erase x) h.2 λy ah=>(List.mem_erase_of_ne (λe=>h.1 (by rw[←e];exact ah))).2 (W y (by simp[ah]));rw[List.length_erase_of_mem u]at this;have:=List.length_pos_of_mem u;simp only[List.length_cons];omega
theorem Oc(dR:ob aL){root:Int}(h:qm aL root ts W c):W.length≤1000:=by
 obtain⟨⟨fH,i0,aa,aB⟩,I8⟩:=h;have h1:fH.length≤aL.length:=x1 i0.nodup i0.sub;have D:=aB.length_eq;have ak:=dR.len;rw[List.length_map]at D;omega
end
section
theorem XR{S P R:Nat}(bJ:P &&& R=0)(h:P ||| R=S)(mW:0<P):R<S:=yj (by rw[Nat.and_comm];exact bJ) (by rw[Nat.or_comm];exact h) mW
theorem MG{α:Type}(d:α){l:List α}{i:Nat}(hi:i<l.length)(x:α)(v:Nat):(l.set i x).getD v d=if v=i then x else l.getD v d:=by
 rw[List.getD_eq_getElem?_getD,List.getD_eq_getElem?_getD,List.getElem?_set];by_cases h:v=i
 ·subst h;simp[hi]
 ·rw[if_neg h,if_neg λe=>h e.symm]
section tab
variable {gA:List Int}{L:List bL}{cs:List (List Int)}{ts:List Int}
theorem Bu.congr{rows P4:List (List Int)}{S:Nat}{b:List Int}(h:Bu gA L cs ts rows S b)(he:∀P,P<S→P4.getD P []=rows.getD P []):Bu gA L cs ts P4 S b:=by
 refine⟨h.s,h.one,h.hop,λP R mW b2 bJ aj v af=>?_⟩;have h1:=yj bJ aj b2;have D:=XR bJ aj mW;rw[he P h1,he R D];exact h.part P R mW b2 bJ aj v af
structure Way(gA:List Int)(L:List bL)(ts:List Int)(rows:List (List Int))(S:Nat)(j:Nat)(p:Nat→Nat→Prop)(b:List Int):Prop where
 len:b.length=gA.length
 z:S=0→∀v,v<gA.length→b.getD v 0=0
 s:0<S→u2 gA L ts S b
 one:∀i,i<j→i<ts.length→S=2 ^ i→b.getD (gA.idxOf (ts.getD i 0)) 0≤0
 part:∀P v,p P v→0<P→P<S→P &&& S=P→v<gA.length→b.getD v 0≤(rows.getD P []).getD v 0+(rows.getD (S ^^^ P) []).getD v 0
theorem Way.down{rows:List (List Int)}{S j:Nat}{p:Nat→Nat→Prop}{b:List Int}(h:Way gA L ts rows S j p b)(fc:0<S){ay:Nat}{c:Int}(hu:ay<gA.length)(hle:c≤b.getD ay 0)(b2:u2 gA L ts S (b.set ay c)):Way gA L ts rows S j p (b.set ay c):=by
 have jI:ay<b.length:=by rw[h.len];exact hu
 have ES:∀v,(b.set ay c).getD v 0≤b.getD v 0:=λv=>by
  rw[Iu jI];split
  ·rename_i e;subst e;exact hle
  ·exact Int.le_refl _
 exact⟨b2.len,λbJ=>by omega,λ_=>b2,λi h1 D ak=>Int.le_trans (ES _) (h.one i h1 D ak),λP v h1 D ak bc bX=>Int.le_trans (ES _) (h.part P v h1 D ak bc bX)⟩
end tab
end
section
variable {ay:Nat}{c:Int}{m:List (List Int)}
theorem aal{n v:Nat}(hm:m.length=n)(ax:∀ay,ay<n→(m.getD ay []).length=n)(hu:ay<n)(af:v<n)(GL dI:Nat):mS (m.set ay ((m.getD ay []).set v c)) GL dI=if GL=ay∧dI=v then c else mS m GL dI:=by
 unfold mS;rw[MG [] (by omega)];by_cases h:GL=ay
 ·subst h;rw[if_pos rfl,MG 0 (by rw[ax _ hu];exact af)];by_cases D:dI=v
  ·rw[if_pos D,if_pos ⟨rfl,D⟩]
  ·rw[if_neg D,if_neg λh=>D h.2]
 ·rw[if_neg h,if_neg λD=>h D.1]
theorem XS{n v:Nat}(hm:m.length=n)(ax:∀ay,ay<n→(m.getD ay []).length=n)(hu:ay<n):∀w,w<n→((m.set ay ((m.getD ay []).set v c)).getD w []).length=n:=λw aq=>by
 rw[MG [] (by omega)];split
 ·rw[List.length_set];exact ax ay hu
 ·exact ax w aq
end
section
abbrev Q7(l:List Int):Bool:=l1 (λa b=>decide (a<b)) l
noncomputable def Er(t:b0)(x:c0)(rs:List Int):Int:=
 bif !decide (sG t=0)then 1 else bif !decide (tZ x=0)then tZ x else bif (x.er::rs).any (λr=>!lW t r)then 4 else bif x.Links.any (λh=>!(q5 t h.bg h.aQ).2)then 4 else bif !Q7 rs then 25 else bif rs.any (λr=>!decide (r∈xd x))then 9 else 0
theorem Vt(t:b0)(x:c0)(rs:List Int)(u:x.Links.length≤90000)(ax:rs.length≤90000):BS t x rs=some (Er t x rs):=by
 unfold BS Er;rw[LL,ee];by_cases h:sG t=0
 rotate_left
 ·rw[decide_eq_false h];rfl
 have af:=yo.1 h;have Sn:=af.FN;have jQ:=af.nl;rw[decide_eq_true h,KP _ (by omega),ee];simp only[Bool.not_true,cond_false];cases aa:!decide (tZ x=0)with
 |true=>rfl
 |false=>
  simp only[cond_false];rw[yf (by simp;omega),ee]
  refine(ya (λr=>!lW t r) (some 4) (λj r bW s=>by
   rw[N1 t r (by omega),ee,decide_eq_true h,Bool.true_and]) _ _ _).trans ?_
  show(bif (x.er::rs).any (λr=>!lW t r)then some 4 else _)=_;cases(x.er::rs).any (λr=>!lW t r)with
  |true=>rfl
  |false=>
   simp only[cond_false]
   refine(ya (λe:bh=>!(q5 t e.bg e.aQ).2) (some 4) (λj r bW s=>by
    rw[XK t _ _ (by omega),if_pos h,ee]) _ _ _).trans ?_
   cases x.Links.any (λe=>!(q5 t e.bg e.aQ).2)with
   |true=>rfl
   |false=>
    simp only[cond_false];rw[ab9 _ (by omega),ee];cases !l1 (λa b:Int=>decide (a<b)) rs with
    |true=>rfl
    |false=>
     simp only[cond_false];rw[VI _ (by omega),ee];refine(ya (λr=>!decide (r∈xd x)) (some 9) (λj r bW s=>by rw[Z8,ee]) _ _ _).trans ?_;cases rs.any (λr=>!decide (r∈xd x))<;>rfl
theorem NJ{α σ β:Type}{B:Int→α→(σ→Option β)→σ→Option β}{K:σ→Option β}(f:σ→α→σ)(fv:∀j x bW s,B j x bW s=bW (f s x)):∀(l:List α) (j:Nat) (s:σ),ez l j B K s=K (l.foldl f s)
 |[],_,_=>rfl
 |x::r,j,s=>by rw[ez,fv,NJ f fv r (j+1)];rfl
theorem WZ{g:b0}(af:h6 g){a:bL}(aC:a∈jZ g):q5 g a.Hop.bg a.Hop.aQ=(a.gr,true):=by
 obtain⟨l,aJ,h⟩:=tc.1 aC;have bQ:=af.lt l aJ;have ct:l.A≠l.B:=by omega
 rcases h with rfl|rfl
 ·show q5 g l.A l.B=_;rw[Mi af aJ (by simp[qX])];simp[Dg]
 ·show q5 g l.B l.A=_;rw[Mi af aJ (by simp[qX])];simp[Dg,ct]
theorem Od{l:List Int}(h:l.Pairwise (·<·)):Q7 l=true:=zI (h.imp λh=>by simpa using h)
theorem aam{g:b0}(af:h6 g){aL:List bL}(jq:∀a∈aL,a∈jZ g){root:Int}(ax:root∈ids g){ts rs:List Int}{W:List bh}{c:Int}(h:qm aL root ts W c)(h1:rs.Pairwise (·<·))(D:∀x∈rs,x∈ids g)(ak:∀x∈rs,x∈ts):Er g (c0.mk root W) rs=0:=by
 have vA:=NI af jq ax h;unfold Er;rw[decide_eq_true (yo.2 af),decide_eq_true (HF.2 vA)];simp only[Bool.not_true,cond_false]
 rw[nk.2 (λx u=>by
  rcases List.mem_cons.1 u with rfl|u
  ·rw[uw.1 ax];rfl
  ·rw[uw.1 (D x u)];rfl),nk.2 (λx u=>by
  obtain⟨⟨fH,i0,_,aB⟩,_⟩:=h;obtain⟨a,aC,rfl⟩:=List.mem_map.1 (aB.mem_iff.1 u);rw[WZ af (jq a (i0.sub a aC))];rfl),Od h1]
 simp only[Bool.not_true,cond_false]
 rw[nk.2 (λx u=>by
  have:x∈xd (c0.mk root W):=(aac vA).2 (Wh h (ak x u));rw[decide_eq_true this];rfl)]
 rfl
end
section
variable {l:List Int}
theorem ace(aJ:l.length≤1000000)(aC:l.Pairwise (·<·))(x:Int):∃i,BH l x=some (i,decide (x∈l)):=by
 have e:o3 (λy:Int=>hs y x) l=decide (x∈l):=by
  rw[Bool.eq_iff_iff,decide_eq_true_eq,MB (KD (aC.imp λ{a b} h=>?_))]
  ·constructor
   ·rintro⟨y,ah,h⟩;rw[p9]at h;subst h;exact ah
   ·intro h;exact⟨x,h,p9.2 rfl⟩
  ·unfold hs;repeat' split
   all_goals omega
 refine⟨(lM (λy:Int=>hs y x) l:Int),?_⟩;rw[←e];unfold BH
 have SV:∀y:Int,Cx y x=some (decide (y<x)):=λy=>by
  unfold Cx uc;simp[ee]
 refine MA l (λy:Int=>hs y x) aJ λi j bW aM=>?_;by_cases g2:i<j
 ·rw[dif_pos g2];simp only[Mz (i:=i) (j:=j) (by omega),wz (show(i+j) / 2<l.length by omega),ee,SV,tr];rw[if_pos (by omega),hW (by omega) (by omega)];by_cases h:el l ((i+j) / 2:Nat)<x
  ·rw[if_pos h,if_pos (GM.2 h)];rfl
  ·rw[if_neg h,if_neg (λcb=>h (GM.1 cb))]
 ·rw[dif_neg g2];simp only[tr];rw[if_neg (by omega)];by_cases hi:i<l.length
  ·rw[if_pos (by omega),wz hi];simp only[ee,BN];by_cases h:el l i=x
   ·rw[if_pos h,decide_eq_true hi,decide_eq_true (p9.2 h)];rfl
   ·rw[if_neg h,decide_eq_true hi,decide_eq_false (λcb=>h (p9.1 cb))];simp
  ·rw[if_neg (by omega)];simp[hi]
abbrev fT:=List (bh×Int)
instance anQ:DecidableEq bh:=λa b=>decidable_of_iff (c2 a b=true) (o4 a b)
theorem Ap(l:fT)(n m:bh)(v:Int):c3 c2 (ga c2 l n v) m=if m=n then some v else c3 c2 l m:=by
 induction l with
 |nil=>
  simp only[ga,c3,List.find?_cons,List.find?_nil];cases h:c2 m n with
  |true=>rw[if_pos ((o4 _ _).1 h)];rfl
  |false=>rw[if_neg (λe=>by rw[(o4 m n).2 e]at h;cases h)]
 |cons p r bD=>
  simp only[ga];cases aT:c2 n p.1 with
  |true=>
   have aT:=(o4 _ _).1 aT;simp only[cond_true,c3,List.find?_cons];rw[←aT];cases h:c2 m n with
   |true=>rw[if_pos ((o4 _ _).1 h)];rfl
   |false=>rw[if_neg (λe=>by rw[(o4 m n).2 e]at h;cases h)]
  |false=>
   simp only[cond_false,c3,List.find?_cons];cases h:c2 m p.1 with
   |true=>
    have h:=(o4 _ _).1 h;rw[if_neg (λe=>by rw[←e,h,(o4 p.1 p.1).2 rfl]at aT;cases aT)]
   |false=>
    have:=bD;simp only[c3]at this;exact this
theorem Hr{l:fT}(Z:(l.map (·.1)).Nodup){n:bh}{v:Int}(h:(n,v)∈l):c3 c2 l n=some v:=by
 induction l with
 |nil=>cases h
 |cons p r bD=>
  simp only[List.map_cons,List.nodup_cons]at Z;simp only[c3,List.find?_cons];rcases List.mem_cons.1 h with rfl|h
  ·rw[(o4 n n).2 rfl];rfl
  ·cases he:c2 n p.1 with
   |true=>rw[(o4 _ _).1 he]at h;exact(Z.1 (List.mem_map.2 ⟨_,h,rfl⟩)).elim
   |false=>exact bD Z.2 h
theorem MH{l:fT}{n:bh}:c3 c2 l n=none↔n∉l.map (·.1):=by
 simp only[c3,Option.map_eq_none_iff,List.find?_eq_none,List.mem_map];constructor
 ·rintro h ⟨p,aB,rfl⟩;exact h p aB ((o4 _ _).2 rfl)
 ·intro h p aB he;exact h ⟨p,aB,((o4 _ _).1 he).symm⟩
theorem NK(l:fT)(n:bh)(v:Int):(ga c2 l n v).map (·.1)=if n∈l.map (·.1)then l.map (·.1)else l.map (·.1)++[n]:=by
 induction l with
 |nil=>simp[ga]
 |cons p r bD=>
  simp only[ga];cases aT:c2 n p.1 with
  |true=>
   have aT:=(o4 _ _).1 aT;simp[aT]
  |false=>
   have ct:n≠p.1:=λe=>by rw[(o4 n p.1).2 e]at aT;cases aT
   simp only[cond_false,List.map_cons,bD,List.mem_cons,ct,false_or];split<;>simp
theorem Hs{l:fT}(h:(l.map (·.1)).Nodup)(n:bh)(v:Int):((ga c2 l n v).map (·.1)).Nodup:=by
 rw[NK];split
 ·exact h
 ·rename_i aT;rw[List.nodup_append];exact⟨h,by simp,λa aC b V=>by rw[List.mem_singleton]at V;subst V;exact λe=>aT (e▸aC)⟩
theorem O1{α σ:Type}{B:Int→α→(σ→Option Int)→σ→Option Int}{K:σ→Option Int}(p:α→Bool)(fv:∀j x bW s,B j x bW s=bif p x then some j else bW s)(fz:∀s,K s=some (-1)):∀(l:List α) (j:Nat) (s:σ),
  (ez l j B K s=some (-1)∧∀x∈l,p x=false)∨∃k,k<l.length∧ez l j B K s=some ((j+k:Nat):Int)∧(∀x∈l.take k,p x=false)∧∃x,l[k]?=some x∧p x=true
 |[],j,s=>.inl ⟨fz s,λx u=>by cases u⟩
 |x::r,j,s=>by
  simp only[ez,fv];cases aB:p x
  ·rcases O1 p fv fz r (j+1) s with⟨h1,D⟩|⟨k,h1,D,ak,bc⟩
   ·refine .inl ⟨by simpa using h1,λy ah=>?_⟩;rcases List.mem_cons.1 ah with rfl|ah
    ·exact aB
    ·exact D y ah
   ·refine .inr ⟨k+1,by simpa using h1,by simp only[cond_false,D];congr 2;omega,λy ah=>?_,by simpa using bc⟩;rw[List.take_succ_cons]at ah;rcases List.mem_cons.1 ah with rfl|ah
    ·exact aB
    ·exact ak y ah
  ·exact .inr ⟨0,by simp,by simp,(λy ah=>by simp at ah),x,by simp,aB⟩
theorem aan(l:List bL)(aJ:l.length≤1000000)(f:bL→Option Bool)(p:bL→Bool)(be:∀x,f x=some (p x)):BE l f=some (l.filter λx=>!p x):=by
 unfold BE Eu;rcases O1 (B:=λ(bp:Int) (aA:bL) (dh:Unit→Option Int) (av:Unit)=>match av with|()=>bf (f aA) λ(a8:Bool)=>bif a8 then some (bp:Int)else dh ()) (K:=λ(av:Unit)=>match av with|()=>some (-1:Int)) p (λj x bW s=>by simp only[be,ee]) (λ_=>rfl) l 0 ()with⟨h1,D⟩|⟨k,h1,D,ak,x,bc,bX⟩
 ·rw[h1,ee,decide_eq_true rfl,cond_true,List.filter_eq_self.2 λx u=>by rw[D x u];rfl]
 ·have hk:(l.take (k+1)).filter (λx=>!p x)=l.take k:=by
   rw[List.take_add_one,bc,List.filter_append,List.filter_eq_self.2 λx u=>by rw[ak x u];rfl];simp[bX]
  rw[D,ee,Nat.zero_add,decide_eq_false (by omega),cond_false]
  refine Ok.eq (Ok.kW (λav:List bL×Int×Int=>∃i j:Nat,av.2.1=i∧av.2.2=j∧i<j∧j≤l.length∧av.1.length=l.length∧av.1.take i=(l.take j).filter (λx=>!p x)∧av.1.drop j=l.drop j) (λav=>l.length-av.2.2.toNat)
   ⟨k,k+1,rfl,by simp only;rw[hW (by omega) (by omega)];rfl,by omega,by omega,rfl,hk.symm,rfl⟩ (by simp only;omega) ?_)
  rintro⟨vs,i,j⟩ bW ⟨i,j,rfl,rfl,g2,mh,eF,bB,Z⟩ hb;simp only at eF bB Z hb ⊢;rw[eF];by_cases bQ:j<l.length
  ·rw[decide_eq_true (by omega),cond_true];have aM:vs[j]?=some l[j]:=by
    have:=congrArg (·[0]?) Z;simpa [List.getElem?_drop,List.getElem?_eq_getElem bQ]using this
   have aA:dj vs (j:Int)=some l[j]:=by unfold dj;rw[if_pos (by omega),Int.toNat_natCast];exact aM
   have EP:bK ((j:Int)+1)=((j+1:Nat):Int):=by rw[hW (by omega) (by omega)];rfl
   have h3:vs.drop (j+1)=l.drop (j+1):=by
    have:=congrArg (List.drop 1) Z;simpa [List.drop_drop,Nat.add_comm]using this
   have r8:l.take (j+1)=l.take j++[l[j]]:=by rw[List.take_add_one,List.getElem?_eq_getElem bQ];rfl
   simp only[jn,aA,ee,be];cases aB:p l[j]with
   |true=>
    simp only[Bool.not_true,cond_false];refine hb _ ⟨i,j+1,rfl,EP,by omega,by omega,eF,?_,h3⟩ (by simp only[EP];omega);rw[bB,r8,List.filter_append];simp[aB]
   |false=>
    simp only[Bool.not_false,cond_true];have e2:dj vs (i:Int)=some (vs[i]'(by omega)):=by unfold dj;rw[if_pos (by omega),Int.toNat_natCast];exact List.getElem?_eq_getElem (by omega)
    have b6:rB vs (i:Int) l[j]=some (vs.set i l[j]):=by obtain⟨m,cF,cW,_⟩:=HK (l:=vs) (i:=(i:Int)) (x:=l[j]) (by omega) (by omega);rw[cF,cW,Int.toNat_natCast]
    have fA:bK ((i:Int)+1)=((i+1:Nat):Int):=by rw[hW (by omega) (by omega)];rfl
    simp only[e2,ee,b6];refine hb _ ⟨i+1,j+1,fA,EP,by omega,by omega,by simp[eF],?_,?_⟩ (by simp only[EP];omega)
    ·rw[List.take_add_one,List.take_set_of_le (Nat.le_refl _),bB,r8,List.filter_append];simp[aB,List.getElem?_set,show i<vs.length by omega]
    ·rw[List.drop_set_of_lt (by omega)];exact h3
  ·obtain rfl:j=l.length:=by omega
   rw[decide_eq_false (by omega),cond_false];refine Ok.ij (by simp;omega) ?_;rw[List.take_length]at bB;obtain⟨m,cF,cW,_⟩:=G4 (l:=vs.take (i:Int).toNat++List.replicate (l.length-(i:Int).toNat) (bL.mk (bh.mk (0:Int) (0:Int)) (0:Int))) (a:=0) (b:=(i:Int)) (by simp;omega);rw[cF,ee];refine Ok.s ?_;rw[cW,Int.toNat_natCast,List.take_append_of_le_length (by simp;omega),List.take_take,Nat.min_self,bB];rfl
def gB(r:fT)(h:bh):Int:=(c3 c2 r h).getD 0
def lS(g:b0)(r:fT)(n:Int):List bL:=(jZ g).filter λa=>decide (n≤gB r a.Hop)
theorem C9{g:b0}{r:fT}{n:Int}{a:bL}:a∈lS g r n↔a∈jZ g∧n≤gB r a.Hop:=by simp[lS]
theorem XT{a b:List bL}(h:∀x∈a,x∈b)(aJ:a.length≤1000)(V:ob b):ob a:=⟨λx u=>V.cost x (h x u),λx u=>V.to x (h x u),λx u y ah=>V.hop x (h x u) y (h y ah),aJ⟩
theorem Dj{g:b0}(af:h6 g)(r:fT)(n:Int):ob (lS g r n):=XT (λ_ h=>(C9.1 h).1) (by have:=List.length_filter_le (λa:bL=>decide (n≤gB r a.Hop)) (jZ g);have:=vW g;have:=af.nl;unfold lS;omega) (aae af)
theorem P5{g:b0}(af:h6 g)(r:fT)(n:Int):∃m,y9 r g n=some m∧m.Perm (lS g r n):=by
 obtain⟨m,hm,aB⟩:=aes af;have aJ:=aB.length_eq;rw[vW]at aJ;have:=af.nl;unfold y9;rw[hm,ee,aan m (by omega) (λjc=>EG jc r n) (λa=>decide (gB r a.Hop<n)) (λx=>rfl),ee];refine⟨_,rfl,?_⟩
 have e:(λx:bL=>!decide (gB r x.Hop<n))=λa=>decide (n≤gB r a.Hop):=by
  funext a;rw[Bool.eq_iff_iff];simp
 rw[e];exact aB.filter _
structure HA(aL:List bL)(root:Int)(out:List Int)(m:List (Int×Bool)):Prop where
 nd:out.Nodup
 Es:∀x∈out,eR fU aL root x
 root:root∈out
 map:∀x,(bT m x).getD false=decide (x∈out)
variable {H:List bL}{ay:Int}
theorem GP{v:Int}(h:eR fU H v ay):ay=v∨∃a∈H,a.Hop.aQ=ay:=by
 induction h with
 |refl v=>exact .inl rfl
 |step a aC _ bD=>
  rcases bD with h|h
  ·exact .inr ⟨a,aC,h.symm⟩
  ·exact .inr h
theorem Uc{v:Int}(h:eR fU H v ay)(aa:∀a∈H,a.Hop.bg∈l→a.Hop.aQ∈l)(af:v∈l):ay∈l:=by
 induction h with
 |refl v=>exact af
 |step a aC _ bD=>exact bD (aa a aC af)
variable {aL:List bL}
theorem O2{root:Int}{out:List Int}{m:List (Int×Bool)}(h:HA aL root out m):out.length≤aL.length+1:=by
 have:=x1 (b:=root::aL.map (·.Hop.aQ)) h.nd λx u=>by
  rcases GP (h.Es x u)with rfl|⟨a,aC,rfl⟩
  ·simp
  ·exact List.mem_cons_of_mem _ (List.mem_map.2 ⟨a,aC,rfl⟩)
 simpa using this
theorem wg(aJ:aL.length≤1000)(root:Int):Ok (CB aL root) λl=>l.Pairwise (·<·)∧∀x,x∈l↔eR fU aL root x:=by
 unfold CB;refine Ok.kW (λav:List Int×Int×List (Int×Bool)=>HA aL root av.1 av.2.2∧∃i:Nat,av.2.1=i∧i≤av.1.length∧∀k,k<i→∀a∈aL,av.1[k]?=some a.Hop.bg→a.Hop.aQ∈av.1) (λav=>2000-av.2.1.toNat) ?_ (by simp only;omega) ?_
 ·refine⟨⟨by simp,?_,by simp,λx=>?_⟩,0,rfl,by simp,λk hk=>by omega⟩
  ·intro x u;rw[List.mem_singleton]at u;subst u;exact .refl _
  ·simp only[c6,bT,List.find?_cons,List.find?_nil,List.mem_singleton];by_cases h:x=root
   ·subst h;simp
   ·have:¬root=x:=λe=>h e.symm;simp[h,this]
 ·rintro⟨out,i,m⟩ bW ⟨gR,i,rfl,hi,hJ⟩ hb;simp only at gR hi hJ hb ⊢;have eF:=O2 gR;by_cases bQ:i<out.length
  ·rw[decide_eq_true (by omega),cond_true];refine Ok.Bc (λpre (av:List Int×List (Int×Bool))=>HA aL root av.1 av.2∧out <+: av.1∧∀a∈pre,out[i]?=some a.Hop.bg→a.Hop.aQ∈av.1) ?_ _ ⟨gR,List.prefix_refl _,λk hk=>by cases hk⟩ ?_
   ·rintro pre a hy ⟨o,m⟩ bG iZ ⟨h1,D,ak⟩ ha;have aC:a∈aL:=by rw[iZ];simp
    simp only at h1 D ak ha ⊢;obtain⟨t,rfl⟩:=D;have p3:(out++t)[i]?=some out[i]:=by rw[List.getElem?_append_left bQ];exact List.getElem?_eq_getElem bQ
    have aA:dj (out++t) (i:Int)=some out[i]:=by unfold dj;rw[if_pos (by simp),Int.toNat_natCast];exact p3
    have ahn:=h1.map a.Hop.aQ
    have J9:∀ey:List Int,(∀x∈out++t,x∈ey)→(out[i]?=some a.Hop.bg→a.Hop.aQ∈ey)→∀b∈pre++[a],out[i]?=some b.Hop.bg→b.Hop.aQ∈ey:=λey W aT b V be=>by
     rcases List.mem_append.1 V with V|V
     ·exact W _ (ak b V be)
     ·rw[List.mem_singleton]at V;subst V
      exact aT be
    simp only[jn,aA,ee];by_cases be:a.Hop.bg=out[i]
    ·rw[decide_eq_true be,cond_true,ahn];by_cases fA:a.Hop.aQ∈out++t
     ·rw[decide_eq_true fA];simp only[Bool.not_true,cond_false];exact ha _ ⟨h1,List.prefix_append _ _,J9 _ (λ_ h=>h) λ_=>fA⟩
     ·rw[decide_eq_false fA];simp only[Bool.not_false,cond_true];have:=O2 h1;rw[yf (by simp only[List.length_cons,List.length_nil];omega),ee];refine ha _ ⟨⟨?_,?_,?_,λx=>?_⟩,by simp only[List.append_assoc];exact List.prefix_append _ _,J9 _ (λx u=>List.mem_append_left _ u) λ_=>by simp⟩
      ·rw[List.nodup_append];exact⟨h1.nd,by simp,λx u y ah=>by rw[List.mem_singleton]at ah;subst ah;exact λe=>fA (e▸u)⟩
      ·intro x u;rcases List.mem_append.1 u with u|u
       ·exact h1.Es x u
       ·rw[List.mem_singleton]at u;subst u
        have aa:=h1.Es out[i] (List.mem_append_left _ (List.getElem_mem bQ));rw[←be]at aa;exact aa.trans (eR.one (N:=fU) aC)
      ·exact List.mem_append_left _ h1.root
      ·have:=h1.map x;simp only[Nc]at this ⊢;by_cases u:x=a.Hop.aQ
       ·subst u;simp
       ·rw[if_neg u,this];simp[u]
    ·rw[decide_eq_false be,cond_false];simp only[cond_false];exact ha _ ⟨h1,List.prefix_append _ _,J9 _ (λ_ h=>h) λhe=>absurd (by rw[List.getElem?_eq_getElem bQ]at he;injection he with he;exact he.symm) be⟩
   ·rintro⟨o,m⟩ ⟨h1,D,ak⟩;simp only at h1 D ak ⊢;have hh:bK ((i:Int)+1)=((i+1:Nat):Int):=by rw[hW (by omega) (by omega)];rfl
    have hle:=D.length_le;refine hb _ ⟨h1,i+1,hh,by simp only;omega,λk hk a aC he=>?_⟩ (by simp only[hh];omega);simp only at he ⊢;by_cases o9:k=i
    ·subst o9;exact ak a aC (by rw[←he];obtain⟨t,rfl⟩:=D;exact(List.getElem?_append_left bQ).symm)
    ·have p0:k<i:=by omega
     refine D.subset (hJ k p0 a aC ?_);rw[←he];obtain⟨t,rfl⟩:=D;exact(List.getElem?_append_left (by omega)).symm
  ·obtain rfl:i=out.length:=by omega
   rw[decide_eq_false (by omega),cond_false];refine Ok.ij (by simp;omega) (Ok.s ⟨XI gR.nd,λx=>?_⟩);rw[UU];refine⟨gR.Es x,λh=>Uc h (λa aC be=>?_) gR.root⟩;obtain⟨k,hk⟩:=List.getElem?_of_mem be;exact hJ k (List.getElem?_eq_some_iff.1 hk).1 a aC hk
end
section
structure nR(g:b0)(d:dQ):Prop where
 root:d.er∈ids g
 mP:d.ia.Pairwise (·<·)
 recv:∀x∈d.ia,x∈ids g
 len:d.ia.length≤6
 jk:1≤d.hM∧d.hM≤1000
variable {d:dQ}
theorem W0{g:b0}(af:h6 g)(h:nR g d):Co g d=some 0:=by
 have aJ:=h.len;have ax:=h.jk;have Sn:=af.FN;unfold Co;rw[decide_eq_false (by omega),cond_false]
 refine(LK (λa b:Int=>decide (a<b)) (some 25) (λj x y r q s bW iZ aM=>by
  simp only[C6 iZ aM (by omega),ee];by_cases h:y<x
  ·have:¬x≤y:=by omega
   simp[h,this]
  ·have:x≤y:=by omega
   simp[h,this]) _).trans ?_
 rw[show l1 (λa b:Int=>decide (a<b)) d.ia=true from Od h.mP,cond_true];show bf (j7 _ _) _=_;rw[yf (by simp;omega),ee]
 refine(ya (λr=>!lW g r) (some 4) (λj x bW s=>by
  rw[N1 g x (by omega),ee,decide_eq_true (yo.2 af),Bool.true_and]) _ _ _).trans ?_
 rw[nk.2 λx u=>by
  rcases List.mem_append.1 u with u|u
  ·rw[List.mem_singleton]at u;subst u;rw[uw.1 h.root];rfl
  ·rw[uw.1 (h.recv x u)];rfl]
 simp only[cond_false];rw[decide_eq_false (by omega),decide_eq_false (by omega)];rfl
variable {ds:List dQ}
theorem LS{g:b0}(af:h6 g)(h:∀d∈ds,nR g d)(aJ:ds.length≤12):xB g ds=some 0:=by
 unfold xB;rw[LL,ee,decide_eq_true (yo.2 af),Bool.not_true,cond_false,decide_eq_false (by omega),cond_false];refine Ok.eq (Ok.forM (λ_ _=>True) (λj x s bW aM u _ hb=>?_) _ trivial λs _=>⟨0,rfl,rfl⟩);simp only[W0 af (h x u),ee];exact hb _ trivial
structure mT(g:b0)(r:fT):Prop where
 nd:(r.map (·.1)).Nodup
 key:∀h,h∈r.map (·.1)↔∃a∈jZ g,a.Hop=h
 val:∀h v,c3 c2 r h=some v→0≤v∧v≤1000
variable {r:fT}
theorem mT.rg{g:b0}(h:mT g r)(x:bh):0≤gB r x∧gB r x≤1000:=by
 unfold gB;cases bl:c3 c2 r x with
 |none=>simp
 |some v=>exact h.val x v bl
theorem mT.some{g:b0}{r:fT}(h:mT g r){a:bL}(aC:a∈jZ g):(c3 c2 r a.Hop).isSome=true:=by
 cases bl:c3 c2 r a.Hop with
 |none=>exact absurd ((h.key _).2 ⟨a,aC,rfl⟩) (MH.1 bl)
 |some v=>rfl
def AG(m:fT)(l:c8):fT:=ga c2 (ga c2 m (bh.mk l.A l.B) l.kY) (bh.mk l.B l.A) l.kY
def oc(g:b0):fT:=g.Links.foldl AG []
structure DT(ls:List c8)(m:fT):Prop where
 nd:(m.map (·.1)).Nodup
 get:∀h v,c3 c2 m h=some v→∃l∈ls,(h=bh.mk l.A l.B∨h=bh.mk l.B l.A)∧v=l.kY
 key:∀l∈ls,bh.mk l.A l.B∈m.map (·.1)∧bh.mk l.B l.A∈m.map (·.1)
theorem Aq{l:fT}{n:bh}{v:Int}{h:bh}:h∈(ga c2 l n v).map (·.1)↔h=n∨h∈l.map (·.1):=by
 rw[NK];split
 ·rename_i aT;exact⟨.inr,λcb=>cb.elim (λe=>e▸aT) id⟩
 ·rw[List.mem_append,List.mem_singleton,or_comm]
theorem OK:∀(ls pre:List c8) (m:fT),DT pre m→DT (pre++ls) (ls.foldl AG m)
 |[],pre,m,h=>by simpa using h
 |x::r,pre,m,h=>by
  have:DT (pre++[x]) (AG m x):=by
   refine⟨Hs (Hs h.nd _ _) _ _,λk v hk=>?_,λl aJ=>?_⟩
   ·unfold AG at hk;rw[Ap,Ap]at hk;split at hk
    ·rename_i e;cases hk
     exact⟨x,by simp,.inr e,rfl⟩
    ·split at hk
     ·rename_i e;cases hk
      exact⟨x,by simp,.inl e,rfl⟩
     ·obtain⟨l,h1,D⟩:=h.get k v hk;exact⟨l,by simp[h1],D⟩
   ·unfold AG;rw[Aq,Aq,Aq,Aq];rcases List.mem_append.1 aJ with aJ|aJ
    ·exact⟨.inr (.inr (h.key l aJ).1),.inr (.inr (h.key l aJ).2)⟩
    ·rw[List.mem_singleton]at aJ;subst aJ
     exact⟨.inr (.inl rfl),.inl rfl⟩
  have:=OK r (pre++[x]) _ this;simpa using this
theorem OL(g:b0):DT g.Links (oc g):=by
 have:=OK g.Links [] [] ⟨by simp,λh v hk=>by simp[c3]at hk,λl aJ=>by cases aJ⟩;unfold oc;simpa using this
theorem UZ(g:b0):zc g=some (oc g):=by
 unfold zc;exact NJ AG (λj x bW s=>rfl) _ _ _
theorem Da{g:b0}(af:h6 g):mT g (oc g):=by
 have i4:=OL g;refine⟨i4.nd,λh=>⟨λhk=>?_,?_⟩,λh v hk=>?_⟩
 ·obtain⟨p,aB,rfl⟩:=List.mem_map.1 hk;obtain⟨l,h1,D,_⟩:=i4.get p.1 p.2 (Hr i4.nd aB);rcases D with D|D
  ·exact⟨_,tc.2 ⟨l,h1,.inl rfl⟩,D.symm⟩
  ·exact⟨_,tc.2 ⟨l,h1,.inr rfl⟩,D.symm⟩
 ·rintro⟨a,aC,rfl⟩;obtain⟨l,aJ,rfl|rfl⟩:=tc.1 aC
  ·exact(i4.key l aJ).1
  ·exact(i4.key l aJ).2
 ·obtain⟨l,h1,_,rfl⟩:=i4.get h v hk;have:=af.KR l h1;simp only[sF,Bool.or_eq_false_iff,decide_eq_false_iff_not]at this;omega
variable {W:List bh}
theorem XU{g:b0}(ax:mT g r){root n:Int}(aT:1≤n∧n≤1000)(Z:W.Nodup)(eP:∀h∈W,(∃a∈jZ g,a.Hop=h)∧n≤gB r h):
  Ok (qH r (c0.mk root W) n) λp=>p.1=true∧mT g p.2∧∀h,gB p.2 h=gB r h-if h∈W then n else 0:=by
 unfold qH;refine Ok.Bc (λpre (av:Bool×fT)=>av.1=true∧mT g av.2∧∀h,gB av.2 h=gB r h-if h∈pre then n else 0) ?_ _ ⟨rfl,ax,λh=>by simp⟩ ?_
 ·rintro pre x hy ⟨f,m⟩ bW iZ ⟨rfl,D,ak⟩ hb;simp only at D ak hb ⊢;have iZ:W=pre++x::hy:=iZ;have u:x∈W:=by rw[iZ];simp
  have E1:x∉pre:=λh=>by
   rw[iZ,List.nodup_append]at Z;exact Z.2.2 x h x (by simp) rfl
  obtain⟨⟨a,aC,rfl⟩,hle⟩:=eP x u;have bl:=ak a.Hop;rw[if_neg E1]at bl;have Su:=D.rg a.Hop;have aq:bK (((c3 c2 m a.Hop).getD (0:Int))-n)=gB m a.Hop-n:=by
   show bK (gB m a.Hop-n)=_;exact hW (by omega) (by omega)
  have gy:∀h,gB (ga c2 m a.Hop (gB m a.Hop-n)) h=if h=a.Hop then gB m a.Hop-n else gB m h:=λh=>by
   unfold gB;rw[Ap];split<;>simp
  refine Ok.ij (D.some aC) ?_;rw[cond_true,aq];refine hb _ ⟨?_,⟨Hs D.nd _ _,λh=>?_,λh v hk=>?_⟩,λh=>?_⟩
  ·have:=gy a.Hop;rw[if_pos rfl]at this;show decide (0≤gB (ga c2 m a.Hop (gB m a.Hop-n)) a.Hop)=true;rw[this,decide_eq_true];omega
  ·rw[Aq,D.key];exact⟨λcb=>cb.elim (λe=>⟨a,aC,e.symm⟩) id,.inr⟩
  ·rw[Ap]at hk;split at hk
   ·cases hk;omega
   ·exact D.val h v hk
  ·simp only;rw[gy];by_cases he:h=a.Hop
   ·subst he;rw[if_pos rfl,if_pos (by simp)];omega
   ·rw[if_neg he,ak h];by_cases aB:h∈pre
    ·rw[if_pos aB,if_pos (by simp[aB])]
    ·rw[if_neg aB,if_neg (by simp[aB,he])]
 ·rintro⟨f,m⟩ h;exact Ok.s h
def vh(g:b0)(r:fT)(d:dQ)(t:c0)(r':fT):Prop:=
 (∃W c,t=c0.mk d.er W∧qm (lS g r d.hM) d.er d.ia W c∧qH r t d.hM=some (true,r'))∨(t=c0.mk 0 []∧(¬∀x,x∈d.ia→eR fU (lS g r d.hM) d.er x)∧r'=r)
inductive km(g:b0):List dQ→List c0→fT→Prop
 |nil:km g [] [] (oc g)
 |snoc {ds:List dQ} {out:List c0} {r r':fT} {d:dQ} {t:c0} (h:km g ds out r) (W:vh g r d t r'):km g (ds++[d]) (out++[t]) r'
variable {aL:List bL}{c:Int}{ts:List Int}
theorem Uy(dR:ob aL){root:Int}(h:qm aL root ts W c):W.Nodup∧∀x∈W,∃a∈aL,a.Hop=x:=by
 refine⟨h.mP.imp λ{a b} bQ e=>?_,λx u=>?_⟩
 ·subst e;simp[fL]at bQ
 ·obtain⟨⟨fH,i0,_,aB⟩,_⟩:=h;obtain⟨a,aC,rfl⟩:=List.mem_map.1 (aB.mem_iff.1 u);exact⟨a,i0.sub a aC,rfl⟩
theorem LU{g:b0}(af:h6 g)(ax:mT g r)(Z:nR g d){root:Int}(h:qm (lS g r d.hM) root d.ia W c):
  Ok (qH r (c0.mk d.er W) d.hM) λp=>p.1=true∧mT g p.2∧∀h,gB p.2 h=gB r h-if h∈W then d.hM else 0:=by
 obtain⟨h1,D⟩:=Uy (Dj af r d.hM) h;refine XU ax Z.jk h1 λx u=>?_;obtain⟨a,aC,rfl⟩:=D x u;have:=C9.1 aC;exact⟨⟨a,this.1,rfl⟩,this.2⟩
theorem vh.ok{g:b0}(af:h6 g){r':fT}{t:c0}(h:vh g r d t r')(ax:mT g r)(Z:nR g d):mT g r':=by
 rcases h with⟨W,c,rfl,V,bB⟩|⟨_,_,rfl⟩
 ·obtain⟨p,h1,_,ak,_⟩:=LU af ax Z V;rw[bB]at h1;cases h1
  exact ak
 ·exact ax
theorem km.ok{g:b0}(af:h6 g){ds:List dQ}{out:List c0}{r:fT}(h:km g ds out r)(Z:∀d∈ds,nR g d):mT g r:=by
 induction h with
 |nil=>exact Da af
 |snoc h W bD=>exact W.ok af (bD λd dw=>Z d (by simp[dw])) (Z _ (by simp))
theorem km.len{g:b0}{out:List c0}(h:km g ds out r):out.length=ds.length:=by
 induction h with
 |nil=>rfl
 |snoc h W bD=>simp[bD]
theorem km.at{g:b0}{ds:List dQ}{out:List c0}{r:fT}(h:km g ds out r):∀{i:Nat} {d:dQ} {t:c0},ds[i]?=some d→out[i]?=some t→∃tG r',km g (ds.take i) (out.take i) tG∧vh g tG d t r':=by
 induction h with
 |nil=>intro i d t h;simp at h
 |@snoc ds out r r' d0 t0 h W bD=>
  intro i d t h1 D;have aJ:=h.len;by_cases hi:i<ds.length
  ·rw[List.getElem?_append_left hi]at h1;rw[List.getElem?_append_left (by omega)]at D;obtain⟨tG,aiT,cF,cW⟩:=bD h1 D;exact⟨tG,aiT,by rw[List.take_append_of_le_length (by omega),List.take_append_of_le_length (by omega)];exact cF,cW⟩
  ·obtain rfl:i=ds.length:=by
    have:=(List.getElem?_eq_some_iff.1 h1).1;simp at this;omega
   simp at h1;rw[←aJ]at D;simp at D;subst h1;subst D
   refine⟨r,r',?_,W⟩;rw[List.take_left,←aJ,List.take_left];exact h
variable {β:Type}
theorem aet{b:β}{root:Int}{K:(List bh×Int×Bool)→Option β}(dR:ob aL)(aJ:ts.length≤6)(fz:∀x,A4 aL root ts x→Ok (K x) (λy=>y=b)):Ok (Cn aL root ts K) (λy=>y=b):=by
 refine⟨b,?_,rfl⟩;unfold Cn;rw[if_pos ⟨dR,aJ⟩];refine YG ?_ λx u=>Ok.eq (fz x u);by_cases aa:∀t,t∈ts→eR fU aL root t
 ·obtain⟨W,c,V⟩:=aaf dR aa;exact⟨(W,c,true),.inl ⟨rfl,V⟩⟩
 ·exact⟨([],0,false),.inr ⟨rfl,aa⟩⟩
theorem aao{a b:List bL}(h:a.Perm b){root:Int}{x:List bh×Int×Bool}(u:A4 a root ts x):A4 b root ts x:=by
 rcases u with⟨h1,D⟩|⟨h1,D⟩
 ·exact .inl ⟨h1,WY h D⟩
 ·exact .inr ⟨h1,λcb=>D λt bB=>(cb t bB).mono λa aC=>h.mem_iff.2 aC⟩
theorem Uz{b:β}{g:b0}(af:h6 g)(Z:∀d∈ds,nR g d)(aJ:ds.length≤12){K:(List c0×Int)→Option β}(fz:∀out r,km g ds out r→K (out,0)=some b):ze g ds K=some b:=by
 unfold ze;rw[LS af Z aJ,ee,decide_eq_true rfl,Bool.not_true,cond_false,UZ,ee];refine Ok.eq (Ok.ij (by simp;omega) ?_);refine Ok.Bc (λpre (av:List c0×fT)=>∃out,av.1=out++List.replicate (ds.length-pre.length) (c0.mk 0 [])∧km g pre out av.2) ?_ _ ⟨[],by simp,.nil⟩ ?_
 ·rintro pre d hy ⟨o,m⟩ bW iZ ⟨out,h1,D⟩ hb;simp only at h1 D hb ⊢;subst h1;have nX:=Z d (by rw[iZ];simp);have hm:=D.ok af λd dw=>Z d (by rw[iZ];simp[dw]);have eF:=D.len;have aT:ds.length=pre.length+1+hy.length:=by rw[iZ];simp;omega
  have jg:List.replicate (ds.length-pre.length) (c0.mk 0 [])=c0.mk 0 []::List.replicate (ds.length-(pre++[d]).length) (c0.mk 0 []):=by
   rw[List.length_append,List.length_singleton,←List.replicate_succ];congr 1;omega
  obtain⟨q,bR,aB⟩:=P5 af m d.hM;simp only[jn,bR,ee];refine aet (N9 aB (Dj af m d.hM)) nX.len λx u=>?_;have u:=aao aB u;obtain⟨W,c,ok⟩:=x;rcases u with⟨e,V⟩|⟨e,aT⟩
  ·simp only at e V;subst e;obtain⟨p,cF,cW,ht,lQ⟩:=LU af hm nX V;obtain⟨f,oM⟩:=p;simp only at cW ht lQ;subst cW;have bQ:pre.length<(out++List.replicate (ds.length-pre.length) (c0.mk 0 [])).length:=by simp;omega
   obtain⟨t0,aA,_⟩:=q4 (l:=out++List.replicate (ds.length-pre.length) (c0.mk 0 [])) (i:=(pre.length:Int)) (by omega) (by omega);have e2:rB (out++List.replicate (ds.length-pre.length) (c0.mk 0 [])) (pre.length:Int) (c0.mk d.er W)=some ((out++[c0.mk d.er W])++List.replicate (ds.length-(pre++[d]).length) (c0.mk 0 [])):=by
    obtain⟨w,sY,g6,_⟩:=HK (l:=out++List.replicate (ds.length-pre.length) (c0.mk 0 [])) (i:=(pre.length:Int)) (x:=c0.mk d.er W) (by omega) (by omega);rw[sY,g6,jg,Int.toNat_natCast,←eF,List.set_append_right _ _ (Nat.le_refl _)];simp
   have b6:dj ((out++[c0.mk d.er W])++List.replicate (ds.length-(pre++[d]).length) (c0.mk 0 [])) (pre.length:Int)=some (c0.mk d.er W):=by
    rw[←eF,List.append_assoc];exact OR _ _ _
   simp only[cond_true,aA,e2,b6,cF,ee];exact hb _ ⟨out++[c0.mk d.er W],rfl,.snoc D (.inl ⟨W,c,rfl,V,cF⟩)⟩
  ·injection e with aA e2
   injection e2 with e2 b6
   subst aA;subst e2;subst b6
   simp only[cond_false];exact hb _ ⟨out++[c0.mk 0 []],by simp only;rw[jg,List.append_assoc];rfl,.snoc D (.inr ⟨rfl,aT,rfl⟩)⟩
 ·rintro⟨o,m⟩ ⟨out,h1,D⟩;simp only at h1 D ⊢;rw[Nat.sub_self,List.replicate_zero,List.append_nil]at h1;subst h1;exact⟨b,fz _ _ D,rfl⟩
end
section
theorem VJ{t:dX}{g:b0}{n:Int}(h:jA t)(bl:1≤g.dU.length∧g.dU.length≤1000)(aT:0≤n∧n≤1000):Ok (CE t g n) (λp=>((∀d∈p.1,nR g d)∧(p.1.length:Int)≤n)∧jA p.2):=by
 unfold CE;rw[hW (by omega) (by omega)];refine Ok.bf (rR h (by omega)) λq bR=>?_;have vP:=bR.1.2.1 (by omega);refine Ok.kW (λav:List dQ×Int×List Int×Int=>((∀d∈av.1,nR g d)∧(av.1.length:Int)+av.2.1≤n∧0≤av.2.1)∧jA (dX.mk av.2.2.1 av.2.2.2)) (λav=>av.2.1.toNat) ⟨⟨by simp,by simp;omega,bR.1.1⟩,bR.2⟩ (by simp only;omega) ?_;rintro⟨out,i,L,A⟩ bW ⟨⟨h1,ak,bc⟩,bX⟩ hb;simp only at h1 ak bc;refine Ok.cs (λaa=>?_) λaa=>Ok.s ⟨⟨h1,by simp only;omega⟩,bX⟩;simp only[decide_eq_true_eq]at aa;refine T4 bX bl λp r aB ax JR=>?_;refine Ok.bf (XN (g:=g) aB bl.2 (by omega)) λl aJ=>?_;obtain⟨l,t2⟩:=l;obtain⟨⟨jt,hQ,Kz⟩,EZ⟩:=aJ;simp only at jt hQ Kz EZ ⊢;refine Ok.bf (Dm EZ (by simp) (by simp)) λk hk=>?_;obtain⟨B4,p0⟩:=hk;simp only[List.mem_cons,List.not_mem_nil,or_false]at B4;rw[yf (by simp;omega),ee,hW (by omega) (by omega)];refine hb _ ⟨⟨λd Z=>?_,by simp;omega,by simp only;omega⟩,p0⟩ (by simp only;omega);rcases List.mem_append.1 Z with Z|Z
 ·exact h1 d Z
 ·rw[List.mem_singleton]at Z;subst Z
  exact⟨JR,jt,hQ,by simp only;omega,by simp only;omega⟩
def mL(p:bh×Int):ep:=ep.mk p.1.bg p.1.aQ p.2
def oR(r:fT):List ep:=r.map mL
def j9(x:ep):bh:=bh.mk x.bg x.aQ
variable {r:fT}
theorem LZ{g:b0}(ax:mT g r):r.length≤2*g.Links.length:=by
 have:=x1 (b:=(jZ g).map (·.Hop)) ax.nd λx u=>by
  obtain⟨a,aC,rfl⟩:=(ax.key x).1 u;exact List.mem_map.2 ⟨a,aC,rfl⟩
 simpa [vW]using this
theorem WD{g:b0}(af:h6 g)(ax:mT g r):∃l,vo r=some l∧l.Perm (oR r):=by
 have h1:=LZ ax;have D:=af.nl;unfold vo;rw[if_pos (by omega)]
 obtain⟨m,cF,cW,_⟩:=Gc (ks:=[λx:ep=>x.bg,λx:ep=>x.aQ]) (l:=oR r) (by
  unfold oR;rw[List.pairwise_map];exact(List.pairwise_map.1 ax.nd).imp λ{a b} h=>HG h) (by simp[oR];omega)
 exact⟨m,cF,cW⟩
theorem OM(h:bh):∀(ls:List ep) (m:fT),c3 c2 (ls.foldl (λm x=>ga c2 m (bh.mk x.bg x.aQ) x.Count) m) h=((ls.reverse.find? λx=>decide (j9 x=h)).map (·.Count)).or (c3 c2 m h)
 |[],m=>by simp
 |x::r,m=>by
  rw[List.foldl_cons,OM h r,Ap,List.reverse_cons,List.find?_append];cases be:r.reverse.find? λx=>decide (j9 x=h)with
  |some y=>simp
  |none=>
   simp only[Option.map_none,Option.none_or,List.find?_cons,List.find?_nil];by_cases he:h=bh.mk x.bg x.aQ
   ·rw[if_pos he,decide_eq_true (show j9 x=h from he.symm)];rfl
   ·rw[if_neg he,decide_eq_false (show ¬j9 x=h from λe=>he e.symm)];rfl
variable {l:List ep}
theorem WE(fm:(r.map (·.1)).Nodup)(aB:l.Perm (oR r))(h:bh):c3 c2 (wu l) h=c3 c2 r h:=by
 have qR:∀x,x∈l↔(j9 x,x.Count)∈r:=λx=>by
  rw[aB.mem_iff];constructor
  ·intro u;obtain⟨p,aB,rfl⟩:=List.mem_map.1 u;exact aB
  ·intro u;exact List.mem_map.2 ⟨_,u,rfl⟩
 unfold wu;rw[OM,List.reverse_reverse];have e0:c3 c2 ([]:fT) h=none:=rfl;rw[e0,Option.or_none];cases be:l.find? λx=>decide (j9 x=h)with
 |some x=>
  have h1:=List.find?_some be;simp only[decide_eq_true_eq]at h1;subst h1;exact(Hr fm ((qR x).1 (List.mem_of_find?_eq_some be))).symm
 |none=>
  simp only[Option.map_none];symm;rw[MH];intro hk;obtain⟨p,aB,rfl⟩:=List.mem_map.1 hk;have:=List.find?_eq_none.1 be (mL p) ((qR _).2 aB);simp[j9,mL]at this
theorem Wi{g:b0}(fm:(r.map (·.1)).Nodup)(aB:l.Perm (oR r))(n:Int):lS g (wu l) n=lS g r n:=by
 have:∀h,gB (wu l) h=gB r h:=λh=>by unfold gB;rw[WE fm aB]
 unfold lS;simp only[this]
theorem LV{α σ β:Type}{B:Int→α→(σ→Option β)→σ→Option β}(x:α):∀(l:List α) (j:Nat) (K:σ→Option β) (s:σ),ez (l++[x]) j B K s=ez l j B (λdg=>B ((j+l.length:Nat):Int) x K dg) s
 |[],j,K,s=>rfl
 |y::r,j,K,s=>by
  simp only[List.cons_append,ez];congr 1;funext dg;rw[LV x r (j+1) K dg];congr 1;funext dO;rw[show j+1+r.length=j+(y::r).length by simp;omega]
variable {ds es:List dQ}{out:List c0}
theorem aap{β:Type}{g:b0}(af:h6 g)(Z:∀d∈ds,nR g d){B:Int→c0→(fT→Option β)→fT→Option β}
  (fv:∀(j:Nat) d t r r' bW,ds[j]?=some d→vh g r d t r'→mT g r→nR g d→B (j:Int) t bW r=bW r')    (h:km g es out r):es <+: ds→∀K,ez out 0 B K (oc g)=K r:=by
 induction h with
 |nil=>intro _ K;rfl
 |@snoc es out r r' d t h W bD=>
  intro aB K;obtain⟨kO,be⟩:=aB;rw[LV,bD ⟨d::kO,by rw[←be];simp⟩,Nat.zero_add,h.len];refine fv _ d t r r' K (by rw[←be];simp) W (h.ok af λd dw=>Z d (by rw[←be];simp[dw])) (Z d (by rw[←be];simp))
theorem acf{α:Type}{l:List α}{j:Nat}{x:α}(h:l[j]?=some x):dj l (j:Int)=some x:=by unfold dj;rw[if_pos (by omega),Int.toNat_natCast];exact h
theorem Oe(x:c0):zg x=some (decide (x.er=0)&&decide (x.Links.length=0)):=by
 unfold zg;rw[show decide ((x.Links.length:Int)=0)=decide (x.Links.length=0)by rw[Bool.eq_iff_iff];simp]
theorem WG(r:fT)(root n:Int):qH r (c0.mk root []) n=some (true,r):=rfl
theorem Of{g:b0}(af:h6 g)(Z:∀d∈ds,nR g d)(aJ:ds.length≤12)(h:km g es out r)(aB:es <+: ds):∃l,vp g ds out=some (l,0)∧l.Perm (oR r):=by
 have hle:=aB.length_le;have eF:=h.len;obtain⟨l,h1,D⟩:=WD af (h.ok af λd dw=>Z d (aB.subset dw));refine⟨l,?_,D⟩;unfold vp;rw[LS af Z aJ,ee,decide_eq_true rfl,Bool.not_true,cond_false,decide_eq_false (by omega),cond_false,UZ,ee];refine(aap af Z (λj d t r r' bW aM W ax nX=>?_) h aB _).trans ?_
 ·simp only[acf aM,Oe,ee,jn];rcases W with⟨W,c,rfl,V,bB⟩|⟨rfl,aT,rfl⟩
  ·have aht:=(Dh af nX.root).1;have eF:=Oc (Dj af r d.hM) V
   rw[decide_eq_false (by simp only;omega),Bool.false_and,Bool.not_false,cond_true,Vt _ _ _ (by simp only;omega) (by simp),ee,
    aam af (λa aC=>(C9.1 aC).1) nX.root V List.Pairwise.nil (λx u=>by cases u) (λx u=>by cases u),decide_eq_true rfl,Bool.not_true,cond_false,bB,ee]
   rfl
  ·simp only[WG,ee,List.length_nil,decide_true,Bool.and_self,Bool.not_true,cond_false]
 ·rw[h1,ee]
theorem WH{g:b0}(af:h6 g)(r:fT)(d:dQ):∃l,Cp g r d=some (l,d.ia.all λx=>decide (x∈l))∧l.Pairwise (·<·)∧∀x,x∈l↔eR fU (lS g r d.hM) d.er x:=by
 obtain⟨q,bR,aB⟩:=P5 af r d.hM;have dR:=N9 aB (Dj af r d.hM);obtain⟨l,h1,D,ak⟩:=wg dR.len d.er;have eF:l.length≤1000000:=by
  have:=x1 (b:=d.er::q.map (·.Hop.aQ)) (D.imp λh=>by omega) λx u=>by
   rcases GP ((ak x).1 u)with rfl|⟨a,aC,rfl⟩
   ·simp
   ·exact List.mem_cons_of_mem _ (List.mem_map.2 ⟨a,aC,rfl⟩)
  have:=dR.len;simp at *;omega
 refine⟨l,?_,D,λx=>by rw[ak];exact⟨λh=>h.mono λa aC=>aB.mem_iff.1 aC,λh=>h.mono λa aC=>aB.mem_iff.2 aC⟩⟩;unfold Cp;rw[bR,ee,h1,ee]
 refine(ya (λx=>!decide (x∈l)) (some (l,false)) (λj x bW s=>by
  obtain⟨i,hi⟩:=ace eF D x;rw[hi,ee]) _ _ _).trans ?_
 have e:(d.ia.any λx=>!decide (x∈l))=!(d.ia.all λx=>decide (x∈l)):=by
  rw[List.any_eq_not_all_not];simp
 rw[e];cases d.ia.all λx=>decide (x∈l)<;>rfl
theorem VK{g:b0}(af:h6 g)(ax:mT g r)(aB:l.Perm (oR r)){d:dQ}(Z:nR g d)(aT:¬∀x,x∈d.ia→eR fU (lS g r d.hM) d.er x):
  ∃w,y8 g l d=some (w,0)∧w.Pairwise (·<·)∧∀x,x∈w↔eR fU (lS g r d.hM) d.er x:=by
 obtain⟨w,h1,D,ak⟩:=WH af (wu l) d;rw[Wi ax.nd aB]at ak;refine⟨w,?_,D,ak⟩;have eF:=aB.length_eq;have:=LZ ax;have:=af.nl;unfold y8 Fp;rw[LS af (λx u=>by rw[List.mem_singleton]at u;subst u;exact Z) (by simp),ee,decide_eq_true rfl,Bool.not_true,cond_false,if_pos (by rw[eF];simp[oR];omega),ee,h1,ee]
 have e:(d.ia.all λx=>decide (x∈w))=false:=by
  cases h:d.ia.all λx=>decide (x∈w)with
  |false=>rfl
  |true=>
   rw[List.all_eq_true]at h;exact absurd (λx u=>(ak x).1 (by simpa using h x u)) aT
 simp only[e,cond_false]
end
section
variable {out:List c0}{r:fT}
theorem km.inv{g:b0}{ds:List dQ}{d:dQ}(h:km g (ds++[d]) out r):∃o t r',out=o++[t]∧km g ds o r'∧vh g r' d t r:=by
 generalize he:ds++[d]=l at h;cases h with
 |nil=>simp at he
 |snoc h W=>
  obtain⟨h1,D⟩:=List.append_inj' he rfl;cases D;subst h1;exact⟨_,_,_,rfl,h,W⟩
theorem km.ah9{g:b0}(h:km g [] out r):out=[]∧r=oc g:=by
 generalize he:([]:List dQ)=l at h;cases h with
 |nil=>exact⟨rfl,rfl⟩
 |snoc h W=>simp at he
theorem Og{aL:List bL}(dR:∀b∈aL,1≤b.gr){a:bL}(aC:a∈aL)(aa:a.gr=1)(hu:∀b∈aL,b.Hop.aQ=a.Hop.aQ→b=a)(ct:a.Hop.aQ≠a.Hop.bg){W:List bh}{c:Int}(h:qm aL a.Hop.bg [a.Hop.aQ] W c):W=[a.Hop]:=by
 obtain⟨⟨fH,i0,_,aB⟩,_⟩:=h;have h1:=i0.qJ a.Hop.aQ (by simp);have fA:a∈fH:=by
  rcases GP h1 with e|⟨b,V,e⟩
  ·exact absurd e ct
  ·exact hu b (i0.sub b V) e▸V
 have D:=i0.min [a] (by intro x u;rw[List.mem_singleton]at u;subst u;exact aC) (by intro t bB;rw[List.mem_singleton]at bB;subst bB;exact eR.one (N:=fU) (by simp));have e:gX fU [a]=1:=by simp[gX,fU,aa]
 have ak:∀l:List bL,(∀b∈l,b∈aL)→(l.length:Int)≤gX fU l:=λl=>by
  induction l with
  |nil=>intro _;simp[gX]
  |cons b r bD=>
   intro aJ;have:=bD λx u=>aJ x (by simp[u]);have V:=dR b (aJ b (by simp));rw[o6,List.length_cons];have:fU.cost b=b.gr:=rfl;omega
 have bc:=ak fH i0.sub;have bX:fH.length=1:=by
  have:=List.length_pos_of_mem fA;omega
 obtain⟨b,rfl⟩:=List.length_eq_one_iff.1 bX;rw[List.mem_singleton]at fA;subst fA;exact List.perm_singleton.1 aB
def nH:b0:=b0.mk [(eC.mk 1 true),(eC.mk 2 true)] [(c8.mk 1 2 1 1 5)]
theorem aaq:zH=some nH:=rfl
theorem GQ:h6 nH:=yo.1 (by kernel_rfl)
def HE:bL:=⟨⟨1,2⟩,1⟩
def sR:bL:=⟨⟨2,1⟩,1⟩
def wC:fT:=[(⟨1,2⟩,2),(⟨2,1⟩,5)]
theorem Wj:lS nH (oc nH) 3=[HE,sR]:=by kernel_rfl
theorem Lu:lS nH wC 3=[sR]:=by kernel_rfl
theorem Wk:lS nH wC 4=[sR]:=by kernel_rfl
theorem NL:¬∀x,x∈[(2:Int)]→eR fU [sR] 1 x:=λh=>by
 rcases GP (h 2 (by simp))with e|⟨b,V,e⟩
 ·cases e
 ·rw[List.mem_singleton]at V;subst V;cases e
def wK:List dQ:=[(dQ.mk (1:Int) ([(2:Int)]:List Int) (3:Int)),(dQ.mk (1:Int) ([(2:Int)]:List Int) (3:Int)),(dQ.mk (2:Int) ([(1:Int)]:List Int) (4:Int))]
theorem GH:∀d∈wK,nR nH d:=by
 intro d Z;simp only[wK,List.mem_cons,List.not_mem_nil,or_false]at Z;rcases Z with rfl|rfl|rfl<;>exact⟨by decide,by simp,by simp[ids,nH],by simp,by simp⟩
theorem aar:CF=some true:=by
 unfold CF;simp only[aaq,ee];refine Uz GQ GH (by decide) λout r h=>?_
 have aa:∀{hr hl:fT} {t:c0} {d:dQ} {ts:List bL},lS nH hr d.hM=ts→(∀x,x∈d.ia→eR fU ts d.er x)→vh nH hr d t hl→∃W c,t=c0.mk d.er W∧qm ts d.er d.ia W c∧qH hr t d.hM=some (true,hl):=λe aa W=>by
  subst e;rcases W with h|⟨_,h,_⟩
  ·exact h
  ·exact absurd aa h
 obtain⟨o,t3,hl,rfl,h,s3⟩:=km.inv (ds:=[(dQ.mk (1:Int) ([(2:Int)]:List Int) (3:Int)),(dQ.mk (1:Int) ([(2:Int)]:List Int) (3:Int))]) h;obtain⟨o,t2,hr,rfl,h,dO⟩:=km.inv (ds:=[(dQ.mk (1:Int) ([(2:Int)]:List Int) (3:Int))]) h;have p4:=h;obtain⟨o,t1,uR,rfl,h,dF⟩:=km.inv (ds:=[]) h;obtain⟨rfl,rfl⟩:=h.ah9;obtain⟨W,c,rfl,V,bB⟩:=aa Wj (by intro x u;rw[List.mem_singleton]at u;subst u;exact eR.one (N:=fU) (a:=HE) (by simp)) dF;have aA:W=[⟨1,2⟩]:=Og (a:=HE) (by decide) (by simp) rfl (by intro b V h;simp only[List.mem_cons,List.not_mem_nil,or_false]at V;rcases V with rfl|rfl;rfl;cases h) (by decide) V;subst aA;have aA:hr=wC:=by
  have e:qH (oc nH) (c0.mk 1 [⟨1,2⟩]) 3=some (true,wC):=by kernel_rfl
  rw[e]at bB;cases bB;rfl
 subst aA;have dO:t2=c0.mk 0 []∧hl=wC:=by
  rcases dO with⟨W,c,_,V,_⟩|⟨h1,_,ak⟩
  ·obtain⟨⟨fH,i0,_,_⟩,_⟩:=V;have V:=i0.qJ;exact absurd (λx u=>(V x u).mono λa aC=>by have:=i0.sub a aC;rwa [show lS nH wC _=[sR]from Lu]at this) NL
  ·exact⟨h1,ak⟩
 obtain⟨rfl,rfl⟩:=dO;obtain⟨W,c,rfl,V,bB⟩:=aa Wk (by intro x u;rw[List.mem_singleton]at u;subst u;exact eR.one (N:=fU) (a:=sR) (by simp)) s3;have aA:W=[⟨2,1⟩]:=Og (a:=sR) (by decide) (by simp) rfl (by intro b V h;rw[List.mem_singleton]at V;exact V) (by decide) V;subst aA;obtain⟨l,aJ,uk⟩:=Of GQ GH (by decide) p4 ⟨_,rfl⟩;obtain⟨w,aq,lE,ahS⟩:=VK GQ (p4.ok GQ λd Z=>GH d (by simp at Z;simp[Z,wK])) uk (GH (dQ.mk (1:Int) ([(2:Int)]:List Int) (3:Int)) (by simp[wK])) (by rw[show lS nH wC _=[sR]from Lu];exact NL);have afI:w=[1]:=by
  refine WV lE (by simp) λx=>?_;rw[ahS,show lS nH wC _=[sR]from Lu,List.mem_singleton];constructor
  ·intro h;have:=Uc h (l:=[1]) (by intro a aC be;rw[List.mem_singleton]at aC;subst aC;simp[sR]at be) (by simp);simpa using this
  ·rintro rfl;exact .refl _
 subst afI;have bJ:qo [c0.mk 1 [⟨1,2⟩],c0.mk 0 [],c0.mk 2 [⟨2,1⟩]] (0:Int) (1:Int)=some [c0.mk 1 [⟨1,2⟩]]:=by kernel_rfl
 have aJ:vp nH wK [c0.mk 1 [⟨1,2⟩]]=some (l,0):=aJ;have h1:dj wK (1:Int)=some (dQ.mk (1:Int) ([(2:Int)]:List Int) (3:Int)):=by kernel_rfl
 show(bif (!decide ((0:Int)=0))||(!decide ((3:Int)=3))then some false else bf (qo [c0.mk 1 [⟨1,2⟩],c0.mk 0 [],c0.mk 2 [⟨2,1⟩]] (0:Int) (1:Int)) λ(eU:List c0)=>bf (vp nH wK eU) λfl=>bf (dj wK (1:Int)) λej=>bf (y8 nH fl.1 ej) _)=_;rw[bJ,ee,aJ,ee,h1,ee,aq,ee,ab7];rfl
end
section
def DC(h k:bh):Prop:=h.bg<k.bg∨(h.bg=k.bg∧h.aQ<k.aQ)
theorem LW{h:bh}:¬DC h h:=by unfold DC;omega
structure ve(K:bh→Prop)(f:bh→Int)(l:List ep):Prop where
 mP:l.Pairwise λa b=>DC (j9 a) (j9 b)
 mem:∀x,x∈l↔K (j9 x)∧x.Count=f (j9 x)
 zero:∀h,¬K h→f h=0
theorem ve.congr{K iW:bh→Prop}{f mb:bh→Int}{l:List ep}(h:ve K f l)(hk:∀h,K h↔iW h)(be:∀h,f h=mb h):ve iW mb l:=
 ⟨h.mP,λx=>by rw[h.mem,hk,be],λx u=>by rw[←be];exact h.zero x (λcb=>u ((hk x).1 cb))⟩
theorem XV{x y:ep}(h:j9 x=j9 y)(aa:x.Count=y.Count):x=y:=by
 cases x;cases y
 simp only[j9,bh.mk.injEq]at h;simp only at aa;rw[h.1,h.2,aa]
theorem ve.put{K:bh→Prop}{f:bh→Int}{p mid r:List ep}{h:bh}{c:Int}(aJ:ve K f (p++mid++r))(aB:∀y∈p,DC (j9 y) h)(ax:∀y∈r,DC h (j9 y))(hm:∀y∈mid,j9 y=h):
  ve (λk=>K k∨k=h) (λk=>if k=h then c else f k) (p++ep.mk h.bg h.aQ c::r):=by
 have qS:j9 (ep.mk h.bg h.aQ c)=h:=rfl
 have ct:∀y,(y∈p∨y∈r)→j9 y≠h:=λy ah e=>by
  rcases ah with ah|ah
  ·have:=aB y ah;rw[e]at this;exact LW this
  ·have:=ax y ah;rw[e]at this;exact LW this
 refine⟨?_,λx=>?_,λk hk=>?_⟩
 ·have aC:=aJ.mP;rw[List.append_assoc,List.pairwise_append]at aC;obtain⟨jj,a2,a3⟩:=aC;rw[List.pairwise_append]at a2;rw[List.pairwise_append,List.pairwise_cons];refine⟨jj,⟨λy ah=>ax y ah,a2.2.1⟩,λx u y ah=>?_⟩;rcases List.mem_cons.1 ah with rfl|ah
  ·exact aB x u
  ·exact a3 x u y (List.mem_append_right _ ah)
 ·rw[List.mem_append,List.mem_cons];by_cases he:j9 x=h
  ·simp only[he,or_true,if_true,true_and];constructor
   ·rintro(u|u|u)
    ·exact absurd he (ct x (.inl u))
    ·rw[u]
    ·exact absurd he (ct x (.inr u))
   ·intro aa;exact .inr (.inl (XV (by rw[he];rfl) aa))
  ·simp only[he,or_false,if_false];rw[←aJ.mem,List.mem_append,List.mem_append];constructor
   ·rintro(u|rfl|u)
    ·exact .inl (.inl u)
    ·exact absurd qS he
    ·exact .inr u
   ·rintro((u|u)|u)
    ·exact .inl u
    ·exact absurd (hm x u) he
    ·exact .inr (.inr u)
 ·have B4:k≠h:=λe=>hk (.inr e);simp only[if_neg B4];exact aJ.zero k λcb=>hk (.inl cb)
end
section
def U2(g:b0)(h:bh):Prop:=∃a∈jZ g,a.Hop=h
theorem ve.len{g:b0}{K:bh→Prop}{f:bh→Int}{l:List ep}(h:ve K f l)(fz:∀x,K x→U2 g x):l.length≤2*g.Links.length:=by
 have fm:(l.map j9).Nodup:=by
  show List.Pairwise _ _;rw[List.pairwise_map];exact h.mP.imp λ{a b} bQ (e:j9 a=j9 b)=>LW (e▸bQ)
 have:=x1 (b:=(jZ g).map (·.Hop)) fm λx u=>by
  obtain⟨y,ah,rfl⟩:=List.mem_map.1 u;obtain⟨a,aC,he⟩:=fz _ ((h.mem y).1 ah).1;exact List.mem_map.2 ⟨a,aC,he⟩
 simpa [vW]using this
end
section
def zr(g:b0)(m:List (List Int))(x y:Int):List (List Int):=m.set ((ids g).idxOf x) ((m.getD ((ids g).idxOf x) []).set ((ids g).idxOf y) 0)
def Eg(g:b0)(r:fT)(n:Int)(S:List bL)(ay v:Nat):Prop:=∃a∈S,¬n≤gB r a.Hop∧(ids g).idxOf a.Hop.bg=ay∧(ids g).idxOf a.Hop.aQ=v
structure HD(g:b0)(r:fT)(n:Int)(FB:List (List Int))(S:List bL)(m:List (List Int)):Prop where
 len:m.length=(ids g).length
 row:∀ay,ay<(ids g).length→(m.getD ay []).length=(ids g).length
 shut:∀ay v,ay<(ids g).length→v<(ids g).length→Eg g r n S ay v→mS m ay v=0
 same:∀ay v,ay<(ids g).length→v<(ids g).length→¬Eg g r n S ay v→mS m ay v=mS FB ay v
theorem HD.step{g:b0}{r:fT}{n:Int}{FB:List (List Int)}{S:List bL}{m:List (List Int)}(h:HD g r n FB S m){a:bL}(h1:a.Hop.bg∈ids g)(D:a.Hop.aQ∈ids g):
  HD g r n FB (S++[a]) (if gB r a.Hop<n then zr g m a.Hop.bg a.Hop.aQ else m):=by
 have p6:=List.idxOf_lt_length_of_mem h1;have qW:=List.idxOf_lt_length_of_mem D
 have Cd:∀ay v,Eg g r n (S++[a]) ay v↔Eg g r n S ay v∨(gB r a.Hop<n∧(ids g).idxOf a.Hop.bg=ay∧(ids g).idxOf a.Hop.aQ=v):=λay v=>by
  constructor
  ·rintro⟨b,V,q⟩;rcases List.mem_append.1 V with V|V
   ·exact .inl ⟨b,V,q⟩
   ·rw[List.mem_singleton]at V;subst V
    exact .inr ⟨by omega,q.2⟩
  ·rintro(⟨b,V,q⟩|⟨an,au⟩)
   ·exact⟨b,by simp[V],q⟩
   ·exact⟨a,by simp,by omega,au⟩
 by_cases aa:gB r a.Hop<n
 ·rw[if_pos aa];have he:=aal (c:=0) h.len h.row p6 qW;refine⟨by unfold zr;rw[List.length_set];exact h.len,XS h.len h.row p6,λay v hu lD W=>?_,λay v hu lD W=>?_⟩
  ·show mS (m.set _ _) ay v=0;rw[he];by_cases bR:ay=(ids g).idxOf a.Hop.bg∧v=(ids g).idxOf a.Hop.aQ
   ·rw[if_pos bR]
   ·rw[if_neg bR];rcases(Cd ay v).1 W with ak|⟨_,ak,bc⟩
    ·exact h.shut ay v hu lD ak
    ·exact absurd ⟨ak.symm,bc.symm⟩ bR
  ·show mS (m.set _ _) ay v=_;rw[he];have aT:¬(ay=(ids g).idxOf a.Hop.bg∧v=(ids g).idxOf a.Hop.aQ):=λbR=>W ((Cd ay v).2 (.inr ⟨aa,bR.1.symm,bR.2.symm⟩));rw[if_neg aT];exact h.same ay v hu lD λak=>W ((Cd ay v).2 (.inl ak))
 ·rw[if_neg aa];refine⟨h.len,h.row,λay v hu lD W=>?_,λay v hu lD W=>h.same ay v hu lD λak=>W ((Cd ay v).2 (.inl ak))⟩;rcases(Cd ay v).1 W with ak|ak
  ·exact h.shut ay v hu lD ak
  ·exact absurd ak.1 aa
end
section
theorem qC.nd{x:c0}(h:qC x):x.Links.Nodup:=h.dup.imp λiN e=>iN (by rw[e])
end
end Go.Proofs.YtmnbolcmepihlaaGreat
