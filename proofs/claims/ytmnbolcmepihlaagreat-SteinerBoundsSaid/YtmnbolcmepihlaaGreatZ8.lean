/- Several texts in one. No condition but those that stand in each. -/
import Derived.Test.YtmnbolcmepihlaaGreatZ7
import Derived.Test.YtmnbolcmepihlaaGreatZ6
namespace Go.Proofs.YtmnbolcmepihlaaGreat
section
set_option linter.all false
open Go List
section
abbrev kB:=Int→Int→jO
def tG(c:kB):Prop:=∀x y k,c x y=some k→1≤k
def zl(c:kB):kB:=λx y=>c y x
inductive iq(c:kB)(a:Int):Int→Int→Prop
 |nil:iq c a a 0
 |snoc {x b m k:Int}:iq c a x m→c x b=some k→iq c a b (m+k)
variable {a b m:Int}
def iq.rX{c:kB}(ah:tG c)(h:iq c a b m):0≤m:=by
 induction h with
 |nil=>omega
 |snoc _ hk bu=>have:=ah _ _ _ hk;omega
variable {x:Int}
def iq.trans{c:kB}{n:Int}(h:iq c a x m)(b3:iq c x b n):iq c a b (m+n):=by
 induction b3 with
 |nil=>simpa using h
 |snoc _ hk bu=>rw[←Int.add_assoc];exact .snoc bu hk
variable {k:Int}
def iq.one{c:kB}(h:c a b=some k):iq c a b k:=by have:=iq.snoc (.nil:iq c a a 0) h;simpa using this
def iq.rev{c:kB}(h:iq c a b m):iq (zl c) b a m:=by
 induction h with
 |nil=>exact .nil
 |@snoc x b m k _ hk bu=>
  have h1:iq (zl c) b x k:=.one hk;have:=h1.trans bu
  rwa [Int.add_comm]at this
def iq.Vg{c:kB}(h:iq (zl c) a b m):iq c b a m:=h.rev
def vl(c:kB)(a b k:Int):Prop:=iq c a b k∧∀m,iq c a b m→k≤m
def vl.uniq{c:kB}(h:vl c a b k)(b3:vl c a b m):k=m:=by
 have:=h.2 _ b3.1;have:=b3.2 _ h.1;omega
def TD{c:kB}(ah:tG c)(h:iq c a b m):∃k,vl c a b k∧k≤m:=by
 have key:∀(n:Nat) (m:Int),m.toNat=n→iq c a b m→∃k,vl c a b k∧k≤m:=by
  intro n;induction n using Nat.strongRecOn with
  |_ n bu=>
   intro m aX h;by_cases nL:∀ig,iq c a b ig→m≤ig
   ·exact⟨m,⟨h,nL⟩,Int.le_refl _⟩
   ·have nL:∃ig,iq c a b ig∧¬m≤ig:=by
     refine Classical.byContradiction λaX=>nL λig h=>?_;by_cases hle:m≤ig
     ·exact hle
     ·exact absurd ⟨ig,h,hle⟩ aX
    obtain⟨ig,h1,D⟩:=nL;have aq:=h1.rX ah;obtain⟨k,gy,cn⟩:=bu ig.toNat (by omega) ig rfl h1;exact⟨k,gy,by omega⟩
 exact key _ m rfl h
open Classical in
noncomputable def dst(c:kB)(a b:Int):jO:=if h:∃k,vl c a b k then some (Classical.choose h)else none
def nG{c:kB}:dst c a b=some k↔vl c a b k:=by
 unfold dst;constructor
 ·intro h;split at h
  ·rename_i u;cases h;exact Classical.choose_spec u
  ·cases h
 ·intro h;rw[dif_pos ⟨k,h⟩];exact congrArg some ((Classical.choose_spec (⟨k,h⟩:∃k,vl c a b k)).uniq h)
def P9{c:kB}(ah:tG c):dst c a b=none↔∀m,¬iq c a b m:=by
 constructor
 ·intro h m hm;obtain⟨k,h1,_⟩:=TD ah hm;rw[nG.2 h1]at h;cases h
 ·intro h;cases af:dst c a b with
  |none=>rfl
  |some k=>exact absurd (nG.1 af).1 (h k)
def Sa{c:kB}(ah:tG c)(a:Int):dst c a a=some 0:=nG.2 ⟨.nil,λm h=>h.rX ah⟩
def LM{c:kB}(ah:tG c)(h:iq c a b m):∃k,dst c a b=some k∧k≤m:=by
 obtain⟨k,h1,D⟩:=TD ah h;exact⟨k,nG.2 h1,D⟩
def JU{c:kB}(ah:tG c)(h:dst c a b=some k):0≤k:=(nG.1 h).1.rX ah
def afg{c:kB}(ah:tG c){d i j:Int}(h:dst c a b=some i)(b3:dst c b d=some j):∃k,dst c a d=some k∧k≤i+j:=
 LM ah ((nG.1 h).1.trans (nG.1 b3).1)
def Sv{c:kB}:vl (zl c) a b k↔vl c b a k:=
 ⟨λh=>⟨h.1.Vg,λm hm=>h.2 m hm.rev⟩,λh=>⟨h.1.rev,λm hm=>h.2 m hm.Vg⟩⟩
def Lr{c:kB}(a b:Int):dst (zl c) a b=dst c b a:=by
 cases h:dst c b a with
 |some k=>exact nG.2 (Sv.2 (nG.1 h))
 |none=>
  cases b3:dst (zl c) a b with
  |none=>rfl
  |some k=>rw[nG.2 (Sv.1 (nG.1 b3))]at h;cases h
def acu{c:kB}(h:dst c a b=some k)(cA:a≠b):∃x w m,dst c a x=some m∧c x b=some w∧k=m+w:=by
 obtain⟨h1,D⟩:=nG.1 h;cases h1 with
 |nil=>exact absurd rfl cA
 |@snoc x b m w u av=>exact⟨x,w,m,nG.2 ⟨u,λig b3=>by have:=D _ (.snoc b3 av);omega⟩,av,rfl⟩
def QD{c:kB}(h:dst c a b=some k)(cA:a≠b):∃x w m,c a x=some w∧dst c x b=some m∧k=w+m:=by
 rw[←Lr]at h;obtain⟨x,w,m,h1,D,aq⟩:=acu h (Ne.symm cA);rw[Lr]at h1;exact⟨x,w,m,D,h1,by omega⟩
def YU{c:kB}(ah:tG c){w:Int}(h:c a x=some w)(b3:dst c x b=some m):∃k,dst c a b=some k∧k≤w+m:=
 LM ah ((iq.one h).trans (nG.1 b3).1)
def iz(t:bz):kB:=λx y=>if wq t x y then some (mR t x y).1 else none
variable {t:bz}
def QE(aa:ff t){y:Int}(h:wq t x y=true):1≤(mR t x y).1∧(mR t x y).1≤1000:=by
 obtain⟨l,h1,D⟩:=sZ.1 h;have he:kZ l x y=true:=by simp[kZ];exact D
 rw[qs aa h1 he];have:=aa.Ox l h1;simp only[r5,Bool.or_eq_false_iff,Bool.not_eq_false',xH,Bool.and_eq_true,decide_eq_true_eq]at this;unfold px;by_cases U:(decide (l.A=x)&&decide (l.B=y))=true
 ·simp only[U,cond_true];omega
 ·simp only[Bool.not_eq_true]at U;simp only[U,cond_false];omega
def rS(aa:ff t):tG (iz t):=λx y k h=>by
 unfold iz at h;split at h
 ·rename_i aA;cases h;exact(QE aa aA).1
 ·cases h
def rQ{y:Int}:iz t x y=some k↔wq t x y=true∧(mR t x y).1=k:=by
 unfold iz;split
 ·rename_i h;simp[h]
 ·rename_i h;simp[h]
def yV(aa:ff t){y:Int}(h:iz t x y=some k):1≤k∧k≤1000:=by
 obtain⟨h1,rfl⟩:=rQ.1 h;exact QE aa h1
def tX(aa:ff t){y:Int}(h:iz t x y=some k):x∈ids t∧y∈ids t:=by
 obtain⟨h1,_⟩:=rQ.1 h;exact⟨Lc aa (acm h1),Lc aa h1⟩
def iq.ids{t:bz}(aa:ff t){a b m:Int}(h:iq (iz t) a b m)(aA:a∈ids t):b∈ids t:=by
 cases h with
 |nil=>exact aA
 |snoc _ hk=>exact(tX aa hk).2
end
section
def iX{α:Type}(l:List (Int×α)):Prop:=(l.map (·.1)).Nodup
variable {α:Type}{l:List (Int×α)}
def acv{n:Int}{v:α}(h:az l n=some v):(n,v)∈l:=by
 induction l with
 |nil=>simp[az]at h
 |cons p r bu=>
  rw[kD]at h;split at h
  ·rename_i aF;cases h;subst aF;exact mem_cons_self
  ·exact mem_cons_of_mem _ (bu h)
def Qa{n:Int}{v:α}(hk:iX l)(h:(n,v)∈l):az l n=some v:=by
 induction l with
 |nil=>simp at h
 |cons p r bu=>
  simp only[iX,map_cons,nodup_cons]at hk;rw[kD];rcases mem_cons.1 h with rfl|h
  ·rw[if_pos rfl]
  ·have:p.1≠n:=λe=>hk.1 (by rw[e];exact List.mem_map.2 ⟨_,h,rfl⟩);rw[if_neg this];exact bu hk.2 h
def uZ{n:Int}:(az l n).isSome=true↔n∈l.map (·.1):=by
 induction l with
 |nil=>simp[az]
 |cons p r bu=>
  rw[kD];by_cases aF:p.1=n
  ·simp[aF]
  ·rw[if_neg aF,bu];simp[Ne.symm aF]
def acw{n m:Int}{v:α}:m∈(bH l n v).map (·.1)↔m=n∨m∈l.map (·.1):=by
 rw[←uZ,←uZ,lK];by_cases h:m=n<;>simp[h]
def yP{n:Int}{v:α}(hk:iX l):iX (bH l n v):=by
 induction l with
 |nil=>simp[bH,iX]
 |cons p r bu=>
  simp only[iX,map_cons,nodup_cons]at hk;simp only[bH];split
  ·rename_i aF;subst aF;simp only[iX,map_cons,nodup_cons];exact hk
  ·rename_i aF;simp only[iX,map_cons,nodup_cons];refine⟨λhm=>?_,bu hk.2⟩;rcases acw.1 hm with h|h
   ·exact aF h
   ·exact hk.1 h
def Qb{n:Int}(hk:iX l)(m:Int):az (pP l n) m=if m=n then none else az l m:=by
 induction l with
 |nil=>simp[pP,az]
 |cons p r bu=>
  simp only[iX,map_cons,nodup_cons]at hk;simp only[pP];by_cases aF:p.1=n
  ·rw[if_pos aF];by_cases hm:m=n
   ·rw[if_pos hm];cases bw:az r m with
    |none=>rfl
    |some v=>exact absurd (uZ.1 (by rw[bw];rfl)) (by rw[hm,←aF];exact hk.1)
   ·rw[if_neg hm,kD,if_neg (λe=>hm (by rw[←e,aF]))]
  ·rw[if_neg aF,kD,kD,bu hk.2];by_cases hm:p.1=m
   ·rw[if_pos hm,if_pos hm,if_neg (λe=>aF (by rw[hm,e]))]
   ·rw[if_neg hm,if_neg hm]
def afh{n:Int}(hk:iX l):iX (pP l n):=by
 induction l with
 |nil=>exact hk
 |cons p r bu=>
  simp only[iX,map_cons,nodup_cons]at hk;simp only[pP];split
  ·exact hk.2
  ·rename_i aF;simp only[iX,map_cons,nodup_cons];refine⟨λhm=>hk.1 ?_,bu hk.2⟩;have:=uZ.2 hm;rw[Qb hk.2]at this;split at this
   ·cases this
   ·exact uZ.1 this
variable {V:cO}
def iX.len(hk:iX l)(h:∀n v,az l n=some v→n∈V):l.length≤V.length:=by
 have:=PF hk λx u=>by
  obtain⟨v,aa⟩:=Option.isSome_iff_exists.1 (uZ.2 u);exact h x v aa
 simpa using this
def iX.all(hk:iX l)(Ch:V.Nodup)(h:∀n v,az l n=some v→n∈V)(he:V.length≤l.length){x:Int}(u:x∈V):(az l x).isSome=true:=by
 refine Classical.byContradiction λaX=>?_
 have h1:∀y∈l.map (·.1),y∈V.erase x:=λy ai=>by
  obtain⟨v,aa⟩:=Option.isSome_iff_exists.1 (uZ.2 ai);refine(List.mem_erase_of_ne λe=>aX ?_).2 (h y v aa);rw[←e,aa];rfl
 have D:=PF hk h1;rw[length_map,length_erase_of_mem u]at D;have:=length_pos_of_mem u;omega
def HA(m:List (Int×Int))(n v b:Int):Bool:=((decide (b=(0:Int)))||((decide (v<((az m b).getD (0:Int))))||((decide (v=((az m b).getD (0:Int))))&&(decide (n<b)))))
def Eg(m:List (Int×Int)):Int→Int→Int→jO:=λn v b=>bif HA m n v b then some n else some b
def QF{m:List (Int×Int)}(bJ:∀n v,az m n=some v→n≠0):∀(l:List (Int×Int)) (s:Int),(∀p∈l,az m p.1=some p.2)→(s=0∨∃k,az m s=some k)→
  ∃b,nx (Eg m) l s=some b∧(b=s∨∃v,(b,v)∈l)∧(l≠[]→b≠0)∧(s≠0→b≠0)∧∀n v,((n,v)∈l∨(n=s∧s≠0∧az m s=some v))→∀k,az m b=some k→k<v∨(k=v∧b≤n)
 |[],s,_,Z=>⟨s,rfl,.inl rfl,by simp,id,λn v h k hk=>by
   rcases h with h|⟨rfl,_,h⟩
   ·simp at h
   ·rw[hk]at h;cases h;exact .inr ⟨rfl,Int.le_refl _⟩⟩
 |(n,v)::r,s,aJ,Z=>by
  have aX:=aJ (n,v) (by simp);have anh:=bJ n v aX;have step:∃dh,Eg m n v s=some dh∧(dh=n∨dh=s)∧dh≠0∧(∀k,az m dh=some k→k<v∨(k=v∧dh≤n))∧(s≠0→∀w,az m s=some w→∀k,az m dh=some k→k<w∨(k=w∧dh≤s)):=by
   unfold Eg;cases U:HA m n v s with
   |true=>
    refine⟨n,rfl,.inl rfl,anh,λk hk=>by rw[aX]at hk;cases hk;exact .inr ⟨rfl,Int.le_refl _⟩,λmU w av k hk=>?_⟩;rw[aX]at hk;cases hk
    simp only[HA,av,Option.getD_some,Bool.or_eq_true,Bool.and_eq_true,decide_eq_true_eq]at U;rcases U with U|U|⟨U,eO⟩
    ·exact absurd U mU
    ·exact .inl U
    ·exact .inr ⟨U,by omega⟩
   |false=>
    simp only[HA,Bool.or_eq_false_iff,Bool.and_eq_false_iff,decide_eq_false_iff_not]at U;obtain⟨ec,dY,hb⟩:=U;refine⟨s,rfl,.inr rfl,ec,λk hk=>?_,λ_ w av k hk=>by rw[av]at hk;cases hk;exact .inr ⟨rfl,Int.le_refl _⟩⟩;rw[hk]at dY hb;simp only[Option.getD_some]at dY hb;by_cases IA:k=v
    ·refine .inr ⟨IA,?_⟩;rcases hb with hb|hb
     ·exact absurd IA.symm hb
     ·omega
    ·exact .inl (by omega)
  obtain⟨dh,aK,e2,dj,fF,g3⟩:=step;have gG:dh=0∨∃k,az m dh=some k:=by
   rcases e2 with rfl|rfl
   ·exact .inr ⟨v,aX⟩
   ·exact Z
  obtain⟨b,ak,ax,aO,aL,bg⟩:=QF bJ r dh (λp aF=>aJ p (by simp[aF])) gG;refine⟨b,by simp only[nx,aK];exact ak,?_,λ_=>aL dj,λ_=>aL dj,λjj dM h k hk=>?_⟩
  ·rcases ax with rfl|⟨w,av⟩
   ·rcases e2 with rfl|rfl
    ·exact .inr ⟨v,by simp⟩
    ·exact .inl rfl
   ·exact .inr ⟨w,by simp[av]⟩
  ·
   obtain⟨ks,Aa⟩:=gG.resolve_left dj;have atC:=bg dh ks (.inr ⟨rfl,dj,Aa⟩) k hk;rcases h with h|⟨rfl,ID,h⟩
   ·rcases mem_cons.1 h with h|h
    ·simp only[Prod.mk.injEq]at h;obtain⟨rfl,rfl⟩:=h;have:=fF ks Aa;omega
    ·exact bg jj dM (.inl h) k hk
   ·have:=g3 ID dM h ks Aa;omega
def acy{m:List (Int×Int)}(g4:iX m)(bJ:∀n v,az m n=some v→n≠0)(cA:m≠[]):
  ∃b k,az m b=some k∧(∀n v,az m n=some v→k<v∨(k=v∧b≤n))∧yT m (Eg m) 0=some b:=by
 have all:∀gD:List (Int×Int),gD.Perm m→∃b k,nx (Eg m) gD 0=some b∧az m b=some k∧∀n v,az m n=some v→k<v∨(k=v∧b≤n):=λgD aJ=>by
  obtain⟨b,ak,ax,aO,aL,bg⟩:=QF bJ gD 0 (λp aF=>Qa g4 (aJ.mem_iff.1 aF)) (.inl rfl);have U:=aO λe=>cA (by rw[e]at aJ;exact aJ.symm.eq_nil);rcases ax with rfl|⟨k,hk⟩
  ·exact absurd rfl U
  ·have bw:=Qa g4 (aJ.mem_iff.1 hk);exact⟨b,k,ak,bw,λn v aa=>bg n v (.inl (aJ.mem_iff.2 (acv aa))) k bw⟩
 obtain⟨b,k,h1,D,aq⟩:=all m (List.Perm.refl m);refine⟨b,k,D,aq,QV λgD aJ=>?_⟩;obtain⟨aS,er,dc,dg,gx⟩:=all gD aJ;have aK:=aq aS er dg;have e2:=gx b k D;have:aS=b:=by omega
 rw[dc,this]
structure Bu(gH:List (Int×List eP))(V:List Int)(c:kB):Prop where
 keys:∀x,(az gH x).isSome=true↔x∈V
 len:gH.length=V.length
 nd:V.Nodup
 small:V.length≤24
 nz:∀x∈V,x≠0
 row:∀x y k,(∃s∈(az gH x).getD [],s.fV=y∧s.kF=k)↔c x y=some k
 cs:∀x y k,c x y=some k→1≤k∧k≤1000
 I1:∀x y k,c x y=some k→y∈V
structure Bt(V:List Int)(c:kB)(a:Int)(cw pR:List (Int×Int)):Prop where
 Ob:iX cw
 kp:iX pR
 C3:∀x k,az cw x=some k→x∈V∧dst c a x=some k∧k≤1000*(cw.length:Int)
 OB:∀x k,az pR x=some k→x∈V∧az cw x=none∧iq c a x k∧k≤1000*(cw.length:Int)
 cl:∀x k y w,az cw x=some k→c x y=some w→(az cw y).isSome=true∨∃m,az pR y=some m∧m≤k+w
 st:(az cw a).isSome=true∨∃k,az pR a=some k∧k≤0
variable {gH:List (Int×yH)}
def Bu.pos{c:kB}(h:Bu gH V c):tG c:=λx y k hk=>(h.cs x y k hk).1
variable {a:Int}{cw pR:List (Int×Int)}
def Bt.front{c:kB}(ah:tG c)(h:Bt V c a cw pR){z m:Int}(av:iq c a z m):(az cw z).isSome=true∨∃y k,az pR y=some k∧k≤m:=by
 induction av with
 |nil=>
  rcases h.st with q|⟨k,ak,ax⟩
  ·exact .inl q
  ·exact .inr ⟨a,k,ak,ax⟩
 |@snoc x b m k u hk bu=>
  have:=ah _ _ _ hk;rcases bu with q|⟨y,er,ak,ax⟩
  ·obtain⟨d,af⟩:=Option.isSome_iff_exists.1 q;have hle:=(nG.1 (h.C3 x d af).2.1).2 _ u;rcases h.cl x d b k af hk with q|⟨ig,ak,ax⟩
   ·exact .inl q
   ·exact .inr ⟨b,ig,ak,by omega⟩
  ·exact .inr ⟨y,er,ak,by omega⟩
def Bt.done{c:kB}(ah:tG c)(h:Bt V c a cw pR)(fM:∀z m,iq c a z m→(az cw z).isSome=true)(x:Int):az cw x=dst c a x:=by
 cases af:dst c a x with
 |some k=>
  obtain⟨er,pF⟩:=Option.isSome_iff_exists.1 (fM x k (nG.1 af).1);have:=(h.C3 x er pF).2.1;rw[af]at this;cases this;exact pF
 |none=>
  cases an:az cw x with
  |none=>rfl
  |some k=>have:=(h.C3 x k an).2.1;rw[af]at this;cases this
def LN{n:Int}(bJ : -1000000≤n)(h1:n≤4000000000):aG n=n:=by unfold aG;rw[IntKind.wrap_i64];omega
def Wj{c:kB}(h:Bu gH V c)(aA:a∈V):
  Ok (vu gH a) (λl=>iX l∧(∀x,az l x=dst c a x)∧∀x k,dst c a x=some k→0≤k∧k≤24000):=by
 have ah:=h.pos
 have fin:∀cw pR,Bt V c a cw pR→(∀z m,iq c a z m→(az cw z).isSome=true)→iX cw∧(∀x,az cw x=dst c a x)∧∀x k,dst c a x=some k→0≤k∧k≤24000:=λcw pR fs fM=>by
  have af:=fs.done ah fM;refine⟨fs.Ob,af,λx k hk=>⟨JU ah hk,?_⟩⟩;rw[←af x]at hk;have h1:=(fs.C3 x k hk).2.2;have D:=fs.Ob.len (V:=V) λn v aa=>(fs.C3 n v aa).1;have:=h.small;omega
 unfold vu;rw[show(az gH a).isSome=true from(h.keys a).2 aA];simp only[Bool.not_true,cond_false];refine avS (λs=>iX s.1∧(∀x,az s.1 x=dst c a x)∧∀x k,dst c a x=some k→0≤k∧k≤24000) (λs Z=>.s Z) λJ ho=>?_;refine avT (λs=>Bt V c a s.1 s.2) (λs=>V.length+1-s.1.length) ?_ (by have:=h.small;omega) ?_
 ·refine⟨nodup_nil,by simp[iX,bH],λx k hk=>by simp[az]at hk,λx k hk=>?_,λx k y w hk=>by simp[az]at hk,.inr ⟨0,by rw[lK,if_pos rfl],Int.le_refl _⟩⟩;rw[lK]at hk;split at hk
  ·rename_i e;subst e;cases hk;exact⟨aA,rfl,.nil,by simp⟩
  ·simp[az]at hk
 rintro⟨cw,pR⟩ b4 fs hd;simp only at fs hd ⊢;refine Ok.cs (λh1=>?_) λh1=>?_
 ·have cA:pR≠[]:=λe=>by simp[e]at h1
  have bJ:∀n v,az pR n=some v→n≠0:=λn v aa=>h.nz n (fs.OB n v aa).1;obtain⟨b,k,U,nL,anm⟩:=acy fs.kp bJ cA;refine Ok.aM (P:=λx=>x=b) ⟨b,anm,rfl⟩ λx u=>?_;subst u;simp only[U,Option.getD_some];obtain⟨ak2,WM,BW,asJ⟩:=fs.OB x k U
  have bd:dst c a x=some k:=nG.2 ⟨BW,λm hm=>by
   rcases fs.front ah hm with q|⟨y,er,ak,ax⟩
   ·rw[WM]at q;cases q
   ·have:=nL y er ak;omega⟩
  have eH:(bH cw x k).length=cw.length+1:=acn WM;have Jc:iX (bH cw x k):=yP fs.Ob;have o7:=BW.rX ah
  have JE:∀y d,az (bH cw x k) y=some d→y∈V∧dst c a y=some d∧d≤1000*((bH cw x k).length:Int):=λy d ai=>by
   rw[lK]at ai;rw[eH];split at ai
   ·rename_i e;subst e;cases ai;exact⟨ak2,bd,by omega⟩
   ·obtain⟨ak,ax,aO⟩:=fs.C3 y d ai;exact⟨ak,ax,by omega⟩
  have auC:(bH cw x k).length≤V.length:=Jc.len λn v aa=>(JE n v aa).1
  have X5:∀y,(az cw y).isSome=true→(az (bH cw x k) y).isSome=true:=λy ai=>by
   rw[lK];split
   ·rfl
   ·exact ai
  refine Ok.cs (λD=>ho _ ?_) λD=>?_
  ·
   have D:(bH cw x k).length=gH.length:=by have:=of_decide_eq_true D;omega
   have fM:∀z∈V,(az (bH cw x k) z).isSome=true:=λz hz=>Jc.all h.nd (λn v aa=>(JE n v aa).1) (by rw[D,h.len];exact Nat.le_refl _) hz
   have aqJ:∀z m,iq c a z m→z∈V:=λz m av=>by
    cases av with
    |nil=>exact aA
    |snoc _ hk=>exact h.I1 _ _ _ hk
   refine fin _ [] ⟨Jc,nodup_nil,JE,λy d ai=>by simp[az]at ai,λy d z w ai av=>.inl (fM z (h.I1 _ _ _ av)),.inl (fM a aA)⟩ λz m av=>fM z (aqJ z m av)
  ·refine avX (L:=(az gH x).getD []) (λp m=>iX m∧(∀y d,az m y=some d→y∈V∧az (bH cw x k) y=none∧iq c a y d∧d≤1000*((bH cw x k).length:Int))∧(∀y d,y≠x→az pR y=some d→∃dO,az m y=some dO∧dO≤d)∧
    ∀s∈p,(az (bH cw x k) s.fV).isSome=true∨∃dO,az m s.fV=some dO∧dO≤k+s.kF) ?_ _ ?_ ?_
   ·rintro p s r m gn jv ⟨l6,l7,i3,mX⟩ sJ;have Z:s∈(az gH x).getD []:=by rw[jv];simp
    have qw:=(h.row x s.fV s.kF).1 ⟨s,Z,rfl,rfl⟩;obtain⟨bk,bK⟩:=h.cs _ _ _ qw;have av:aG (k+s.kF)=k+s.kF:=LN (by omega) (by have:=h.small;omega)
    refine avS (λig=>iX ig∧(∀y d,az ig y=some d→y∈V∧az (bH cw x k) y=none∧iq c a y d∧d≤1000*((bH cw x k).length:Int))∧(∀y d,y≠x→az pR y=some d→∃dO,az ig y=some dO∧dO≤d)∧
     ∀dh∈p++[s],(az (bH cw x k) dh.fV).isSome=true∨∃dO,az ig dh.fV=some dO∧dO≤k+dh.kF) (λig mA=>sJ ig mA) λgv jt=>?_
    refine Ok.cs (λdc=>jt m ⟨l6,l7,i3,λdh gG=>?_⟩) λdc=>Ok.cs (λdg=>jt _ ?_) λdg=>jt m ⟨l6,l7,i3,λdh gG=>?_⟩
    ·rcases List.mem_append.1 gG with gG|gG
     ·exact mX dh gG
     ·rw[List.mem_singleton.1 gG];exact .inl dc
    ·
     rw[av];rw[av]at dg;refine⟨yP l6,λy d ai=>?_,λy d p6 ai=>?_,λdh gG=>?_⟩
     ·rw[lK]at ai;split at ai
      ·rename_i e;subst e;cases ai
       refine⟨h.I1 _ _ _ qw,by simpa using dc,.snoc BW qw,by rw[eH];omega⟩
      ·exact l7 y d ai
     ·obtain⟨dO,ak,ax⟩:=i3 y d p6 ai;rw[lK];by_cases e:y=s.fV
      ·rw[if_pos e];refine⟨_,rfl,?_⟩;subst e;rw[ak]at dg;simp at dg;omega
      ·rw[if_neg e];exact⟨dO,ak,ax⟩
     ·rw[lK m];by_cases e:dh.fV=s.fV
      ·rcases List.mem_append.1 gG with gG|gG
       ·rcases mX dh gG with q|⟨dO,ak,ax⟩
        ·exact .inl q
        ·right;rw[if_pos e];refine⟨_,rfl,?_⟩;rw[e]at ak;rw[ak]at dg;simp at dg;omega
       ·rw[List.mem_singleton.1 gG,if_pos rfl];exact .inr ⟨_,rfl,Int.le_refl _⟩
      ·rw[if_neg e];rcases List.mem_append.1 gG with gG|gG
       ·exact mX dh gG
       ·exact absurd (by rw[List.mem_singleton.1 gG]) e
    ·rcases List.mem_append.1 gG with gG|gG
     ·exact mX dh gG
     ·rw[List.mem_singleton.1 gG];right;rw[av]at dg;simp only[Bool.or_eq_false_iff,Bool.not_eq_false',decide_eq_false_iff_not]at dg;obtain⟨dO,eB⟩:=Option.isSome_iff_exists.1 dg.1;refine⟨dO,eB,?_⟩;have:=dg.2;rw[eB]at this;simp at this;omega
   ·refine⟨afh fs.kp,λy d ai=>?_,λy d p6 ai=>⟨d,by rw[Qb fs.kp,if_neg p6];exact ai,Int.le_refl _⟩,λs Z=>by simp at Z⟩;rw[Qb fs.kp]at ai;split at ai
    ·cases ai
    ·rename_i e;obtain⟨ak,ax,aO,aL⟩:=fs.OB y d ai;exact⟨ak,by rw[lK,if_neg e];exact ax,aO,by rw[eH];omega⟩
   ·rintro m ⟨l6,l7,i3,mX⟩;refine hd _ ⟨Jc,l6,JE,l7,λy d z w ai av=>?_,?_⟩ (by simp only[eH];omega)
    ·rw[lK]at ai;split at ai
     ·rename_i e;subst e;cases ai
      obtain⟨s,Z,rfl,rfl⟩:=(h.row _ _ _).2 av;exact mX s Z
     ·rcases fs.cl y d z w ai av with q|⟨ig,ak,ax⟩
      ·exact .inl (X5 z q)
      ·by_cases e:z=x
       ·left;rw[lK,if_pos e];rfl
       ·obtain⟨dO,hw,ha⟩:=i3 z ig e ak;exact .inr ⟨dO,hw,by omega⟩
    ·rcases fs.st with q|⟨er,ak,ax⟩
     ·exact .inl (X5 a q)
     ·by_cases e:a=x
      ·left;rw[lK,if_pos e];rfl
      ·obtain⟨dO,hw,ha⟩:=i3 a er e ak;exact .inr ⟨dO,hw,by omega⟩
 ·
  have he:pR=[]:=by
   have:=of_decide_eq_false h1;exact eq_nil_of_length_eq_zero (by omega)
  subst he;refine ho _ (fin _ _ fs λz m av=>?_);rcases fs.front ah av with q|⟨y,k,q,_⟩
  ·exact q
  ·simp[az]at q
def Sw(aA:(az gH a).isSome=false):vu gH a=some []:=by
 unfold vu;rw[aA];rfl
end
section
def YV{α:Type}{eA:α→α→Int}(b5:∀a b c,eA a b<0→eA b c<0→eA a c<0):∀{l:List α},(l.Pairwise λa b=>eA a b<0∨eA b a<0)→(pM eA l).Pairwise λa b=>eA a b<0
 |[],_=>Pairwise.nil
 |x::r,h=>by
  rw[pairwise_cons]at h;have bu:=YV b5 h.2;have u:∀y∈pM eA r,eA x y<0∨eA y x<0:=λy ai=>h.1 y ((w8 eA r).mem_iff.1 ai);simp only[pM];generalize pM eA r=m at bu u;clear h;induction m with
  |nil=>simp[xV]
  |cons y m Ar=>
   rw[pairwise_cons]at bu;simp only[xV];split
   ·rename_i p6;rw[pairwise_cons];refine⟨λz hz=>?_,Ar bu.2 λz hz=>u z (by simp[hz])⟩;rcases mem_cons.1 ((Ka eA x m).mem_iff.1 hz)with rfl|hz
    ·exact p6
    ·exact bu.1 z hz
   ·rename_i p6;have nu:=(u y (by simp)).resolve_right p6;rw[pairwise_cons];refine⟨λz hz=>?_,pairwise_cons.2 bu⟩;rcases mem_cons.1 hz with rfl|hz
    ·exact nu
    ·exact b5 _ _ _ nu (bu.1 z hz)
def QG{α:Type}{eA:α→α→Int}:∀{l:List α},(l.Pairwise λa b=>eA a b<0)→wh eA l=true
 |[],_=>rfl
 |[x],_=>rfl
 |a::b::r,h=>by
  rw[pairwise_cons]at h;simp only[wh,Bool.and_eq_true,decide_eq_true_eq];exact⟨h.1 b (by simp),QG h.2⟩
def aaP{α:Type}(f:α→Int){a b:List α}(aA:a.Pairwise λx y=>f x<f y)(U:b.Pairwise λx y=>f x<f y)(h:∀x,x∈a↔x∈b):a=b:=by
 induction a generalizing b with
 |nil=>
  cases b with
  |nil=>rfl
  |cons y b=>exact absurd ((h y).2 (by simp)) (by simp)
 |cons x a bu=>
  cases b with
  |nil=>exact absurd ((h x).1 (by simp)) (by simp)
  |cons y b=>
   rw[pairwise_cons]at aA U;have nu:x=y:=by
    have h1:=(h x).1 (by simp);have D:=(h y).2 (by simp);rw[mem_cons]at h1 D;rcases h1 with h1|h1
    ·exact h1
    ·rcases D with D|D
     ·exact D.symm
     ·have:=U.1 _ h1;have:=aA.1 _ D;omega
   subst nu;congr 1;refine bu aA.2 U.2 λz=>?_;have:=h z;simp only[mem_cons]at this;constructor
   ·intro hz;rcases this.1 (.inr hz)with q|q
    ·subst q;have:=aA.1 _ hz;omega
    ·exact q
   ·intro hz;rcases this.2 (.inr hz)with q|q
    ·subst q;have:=U.1 _ hz;omega
    ·exact q
def iX.ext{α:Type}:∀{l m:List (Int×α)},iX l→l.map (·.1)=m.map (·.1)→(∀x,az l x=az m x)→l=m
 |[],m,_,hk,_=>by
  cases m with
  |nil=>rfl
  |cons q m=>simp at hk
 |(n,v)::l,[],_,hk,_=>by simp at hk
 |(n,v)::l,(jj,dM)::m,aX,hk,h=>by
  simp only[map_cons,List.cons.injEq]at hk;obtain⟨rfl,hk⟩:=hk;simp only[iX,map_cons,nodup_cons]at aX;have h1:=h n;rw[kD,kD,if_pos rfl,if_pos rfl]at h1;cases h1;congr 1;refine iX.ext aX.2 hk λx=>?_;have D:=h x;rw[kD,kD]at D;by_cases u:n=x
  ·subst u;have aK:az l n=none:=by
    cases bw:az l n with
    |none=>rfl
    |some a=>exact absurd (uZ.1 (by rw[bw];rfl)) aX.1
   have e2:az m n=none:=by
    cases bw:az m n with
    |none=>rfl
    |some a=>exact absurd (by rw[hk];exact uZ.1 (by rw[bw];rfl)) aX.1
   rw[aK,e2]
  ·rwa [if_neg u,if_neg u]at D
def e9(x:Int)(l:dy):Option eP:=if l.A=x then some ⟨l.B,l.lg⟩else if l.B=x then some ⟨l.A,l.lp⟩else none
def uX(x:Int)(l:dy):Option eP:=if l.B=x then some ⟨l.A,l.lg⟩else if l.A=x then some ⟨l.B,l.lp⟩else none
variable {t:bz}
def Sb(aa:ff t)(x y k:Int):(∃s∈t.Links.filterMap (e9 x),s.fV=y∧s.kF=k)↔iz t x y=some k:=by
 rw[rQ];constructor
 ·rintro⟨s,Z,rfl,rfl⟩;obtain⟨l,aJ,he⟩:=List.mem_filterMap.1 Z;have bS:=aa.lt l aJ;unfold e9 at he;split at he
  ·rename_i eZ;cases he
   have h1:kZ l x l.B=true:=by simp[kZ,eZ]
   refine⟨sZ.2 ⟨l,aJ,.inl ⟨eZ,rfl⟩⟩,?_⟩;rw[qs aa aJ h1];simp[px,eZ]
  ·split at he
   ·rename_i eZ c1;cases he
    have h1:kZ l x l.A=true:=by simp[kZ,c1]
    refine⟨sZ.2 ⟨l,aJ,.inr ⟨c1,rfl⟩⟩,?_⟩;rw[qs aa aJ h1];simp[px,eZ]
   ·cases he
 ·rintro⟨h1,rfl⟩;obtain⟨l,aJ,he⟩:=sZ.1 h1;have bS:=aa.lt l aJ;rcases he with⟨rfl,rfl⟩|⟨rfl,rfl⟩
  ·refine⟨⟨l.B,l.lg⟩,List.mem_filterMap.2 ⟨l,aJ,by simp[e9]⟩,rfl,?_⟩;rw[qs aa aJ (by simp[kZ])];simp[px]
  ·refine⟨⟨l.A,l.lp⟩,List.mem_filterMap.2 ⟨l,aJ,by have:l.A≠l.B:=by omega
                                                   simp[e9,this]⟩,rfl,?_⟩
   have:l.A≠l.B:=by omega
   rw[qs aa aJ (by simp[kZ])];simp[px,this]
def afi(aa:ff t)(x y k:Int):(∃s∈t.Links.filterMap (uX x),s.fV=y∧s.kF=k)↔zl (iz t) x y=some k:=by
 show _↔iz t y x=some k;rw[rQ];constructor
 ·rintro⟨s,Z,rfl,rfl⟩;obtain⟨l,aJ,he⟩:=List.mem_filterMap.1 Z;have bS:=aa.lt l aJ;unfold uX at he;split at he
  ·rename_i c1;cases he
   have h1:kZ l l.A x=true:=by simp[kZ,c1]
   refine⟨sZ.2 ⟨l,aJ,.inl ⟨rfl,c1⟩⟩,?_⟩;rw[qs aa aJ h1];simp[px,c1]
  ·split at he
   ·rename_i c1 eZ;cases he
    have h1:kZ l l.B x=true:=by simp[kZ,eZ]
    refine⟨sZ.2 ⟨l,aJ,.inr ⟨rfl,eZ⟩⟩,?_⟩;have:¬l.A=l.B:=by omega
    rw[qs aa aJ h1];simp[px,this]
   ·cases he
 ·rintro⟨h1,rfl⟩;obtain⟨l,aJ,he⟩:=sZ.1 h1;have bS:=aa.lt l aJ;rcases he with⟨rfl,rfl⟩|⟨rfl,rfl⟩
  ·refine⟨⟨l.A,l.lg⟩,List.mem_filterMap.2 ⟨l,aJ,by simp[uX]⟩,rfl,?_⟩;rw[qs aa aJ (by simp[kZ])];simp[px]
  ·refine⟨⟨l.B,l.lp⟩,List.mem_filterMap.2 ⟨l,aJ,by have:l.B≠l.A:=by omega
                                                   simp[uX,this]⟩,rfl,?_⟩
   have:l.A≠l.B:=by omega
   rw[qs aa aJ (by simp[kZ])];simp[px,this]
def wA(t:bz)(x:Int):yH:=(DZ t x).map λy=>⟨y,(mR t x y).1⟩
def Kr(aa:ff t){x:Int}{s:eP}:s∈wA t x↔iz t x s.fV=some s.kF:=by
 rw[rQ];simp only[wA,List.mem_map,QB aa];constructor
 ·rintro⟨y,h,rfl⟩;exact⟨h,rfl⟩
 ·rintro⟨h1,D⟩;exact⟨s.fV,h1,by rw[D]⟩
def acz(aa:ff t)(x:Int):(wA t x).Pairwise λa b=>a.fV<b.fV:=pairwise_map.2 (R1 aa x)
abbrev wB:eP→eP→Int:=fC [λx:eP=>x.fV]
def Ls(a b:eP):wB a b<0↔a.fV<b.fV:=by rw[wB,qX];simp[fC]
def afj(aa:ff t)(x:Int):(t.Links.filterMap (e9 x)).Pairwise λa b=>wB a b<0∨wB b a<0:=by
 have ja:=aab aa x;have he:t.Links.filterMap (Dz x)=(t.Links.filterMap (e9 x)).map (·.fV):=by
  rw[List.map_filterMap];congr 1;funext l;unfold Dz e9;by_cases h1:l.A=x
  ·rw[if_pos h1.symm,if_pos h1];rfl
  ·rw[if_neg (λe=>h1 e.symm),if_neg h1];by_cases D:l.B=x
   ·rw[if_pos D.symm,if_pos D];rfl
   ·rw[if_neg (λe=>D e.symm),if_neg D];rfl
 rw[he]at ja;refine(pairwise_map.1 ja).imp λ{a b} hs=>?_;rw[Ls,Ls];omega
def Sc(aa:ff t)(x:Int):l2 wB (t.Links.filterMap (e9 x))=some (wA t x):=by
 have h1:=YV (xc _) (afj aa x);have e:pM wB (t.Links.filterMap (e9 x))=wA t x:=by
  refine aaP (·.fV) (h1.imp λ{a b} h=>(Ls a b).1 h) (acz aa x) λs=>?_;rw[(w8 _ _).mem_iff,Kr aa];constructor
  ·intro Z;exact(Sb aa x s.fV s.kF).1 ⟨s,Z,rfl,rfl⟩
  ·intro Z;obtain⟨dh,D,aq,aZ⟩:=(Sb aa x s.fV s.kF).2 Z;obtain⟨a,b⟩:=s;obtain⟨gW,aS⟩:=dh
   simp only at aq aZ;subst aq aZ;exact D
 have aJ:(t.Links.filterMap (e9 x)).length≤60:=Nat.le_trans (length_filterMap_le _ _) aa.nl;have:(decide ((t.Links.filterMap (e9 x)).length<4611686018427387904))=true:=by simp;omega
 unfold l2;rw[QG h1,this,e];rfl
def QH{xL:yH→yH}:∀(l s:List (Int×yH)),iX l→(∀p∈l,∃row,az s p.1=some row∧l2 wB row=some (xL row))→
  ∃dh,nx (λ(gN:Int) (_:yH) (gb:List (Int×yH))=>jF (az gb gN).isSome (aM (l2 wB ((az gb gN).getD [])) λ(tY:yH)=>some (bH gb gN tY))) l s=some dh∧
   dh.map (·.1)=s.map (·.1)∧∀x,az dh x=if x∈l.map (·.1)then(az s x).map xL else az s x
 |[],s,_,_=>⟨s,rfl,rfl,λx=>by simp⟩
 |(n,v)::l,s,hk,h=>by
  simp only[iX,map_cons,nodup_cons]at hk;obtain⟨row,h1,D⟩:=h (n,v) (by simp)
  obtain⟨dh,ak,ax,aO⟩:=QH (xL:=xL) l (bH s n (xL row)) hk.2 λp aF=>by
   obtain⟨r',aq,aZ⟩:=h p (by simp[aF]);have:p.1≠n:=λe=>hk.1 (by rw[←e];exact List.mem_map.2 ⟨p,aF,rfl⟩);exact⟨r',by rw[lK,if_neg this];exact aq,aZ⟩
  refine⟨dh,?_,ax.trans (Pw _ (by rw[h1];rfl)),λx=>?_⟩
  ·simp only[nx,h1,Option.isSome_some,Option.getD_some,D];exact ak
  ·rw[aO,lK];simp only[map_cons,mem_cons];by_cases u:x=n
   ·subst u;rw[if_neg hk.1,if_pos rfl,if_pos (.inl rfl),h1];rfl
   ·rw[if_neg u];by_cases hm:x∈l.map (·.1)
    ·rw[if_pos hm,if_pos (.inr hm)]
    ·rw[if_neg hm,if_neg (λe=>e.elim u hm)]
structure Ho(t:bz)(g:sA):Prop where
 fw:Bu g.mZ (ids t) (iz t)
 BW:Bu g.w9 (ids t) (zl (iz t))
 row:∀x∈ids t,az g.mZ x=some (wA t x)
def TE(aa:ff t){gH:List (Int×yH)}{c:kB}{f:Int→yH}(hk:iX gH)(bw:∀x,az gH x=if x∈ids t then some (f x)else none)
  (aI:∀x y k,(∃s∈f x,s.fV=y∧s.kF=k)↔c x y=some k) (ah:∀x y k,c x y=some k→(1≤k∧k≤1000)∧x∈ids t∧y∈ids t):Bu gH (ids t) c where
 keys:=λx=>by rw[bw];by_cases h:x∈ids t<;>simp[h]
 len:=by
  have aX:(ids t).Nodup:=(LJ aa).imp λh=>Int.ne_of_lt h
  have h1:=hk.len (V:=ids t) λn v h=>by
   rw[bw]at h;split at h
   ·assumption
   ·cases h
  have D:=PF aX (b:=gH.map (·.1)) λx u=>uZ.1 (by rw[bw,if_pos u];rfl);rw[length_map]at D;omega
 nd:=(LJ aa).imp λh=>Int.ne_of_lt h
 small:=Dr aa
 nz:=λx u=>by
  obtain⟨r,h1,rfl⟩:=List.mem_map.1 u;have:=(aa.Fu r h1).1;omega
 row:=λx y k=>by
  rw[bw];by_cases h:x∈ids t
  ·rw[if_pos h];exact aI x y k
  ·rw[if_neg h];constructor
   ·rintro⟨s,Z,_⟩;simp at Z
   ·intro he;exact absurd (ah x y k he).2.1 h
 cs:=λx y k h=>(ah x y k h).1
 I1:=λx y k h=>(ah x y k h).2.2
def Sx(aa:ff t):Ok (CJ t) (Ho t):=by
 unfold CJ
 have hs:∀l∈t.Links,l.A∈ids t∧l.B∈ids t∧l.A≠l.B:=λl aJ=>by
  have h1:=aa.ends l aJ;have D:=aa.lt l aJ;exact⟨sY.2 h1.1,sY.2 h1.2,by omega⟩
 refine avX (λp s=>(iX s.1∧∀x,az s.1 x=if x∈p.map (·.cS)then some []else none)∧(iX s.2∧∀x,az s.2 x=if x∈p.map (·.cS)then some []else none)) ?_ _ ?_ ?_
 ·rintro p e r ⟨m1,m2⟩ b4 _ ⟨⟨h1,D⟩,aq,aZ⟩ hd;refine hd _ ⟨⟨yP h1,λx=>?_⟩,yP aq,λx=>?_⟩
  ·rw[lK,D];by_cases u:x=e.cS<;>simp[u]
  ·rw[lK,aZ];by_cases u:x=e.cS<;>simp[u]
 ·exact⟨⟨nodup_nil,λx=>by simp[az]⟩,nodup_nil,λx=>by simp[az]⟩
 rintro⟨m1,m2⟩ ⟨⟨h1,D⟩,aq,aZ⟩;simp only at h1 D aq aZ ⊢;refine avX (λp s=>(iX s.1∧∀x,az s.1 x=if x∈ids t then some (p.filterMap (e9 x))else none)∧(iX s.2∧∀x,az s.2 x=if x∈ids t then some (p.filterMap (uX x))else none)) ?_ _ ⟨⟨h1,λx=>by rw[D];rfl⟩,aq,λx=>by rw[aZ];rfl⟩ ?_
 ·rintro p e r ⟨ua,AB⟩ b4 jv ⟨⟨dc,dg⟩,gx,mh⟩ hd;simp only at dc dg gx mh ⊢;obtain⟨iM,a2,a3⟩:=hs e (by rw[jv];simp);have aF:p.length≤60:=by have:=aa.nl;rw[jv]at this;simp at this;omega
  have bA:∀(f:dy→Option eP),(p.filterMap f).length≤60:=λf=>Nat.le_trans (length_filterMap_le _ _) aF;have app:∀(f:dy→Option eP) (s:eP),iP (p.filterMap f) [s]=some (p.filterMap f++[s]):=λf s=>qD (by have:=bA f;simp;omega);have aK:(az ua e.A).getD []=p.filterMap (e9 e.A):=by rw[dg,if_pos iM];rfl
  have e2:∀l,(az (bH ua e.A l) e.B).getD []=p.filterMap (e9 e.B):=λl=>by rw[lK,if_neg (Ne.symm a3),dg,if_pos a2];rfl
  have dj:(az AB e.B).getD []=p.filterMap (uX e.B):=by rw[mh,if_pos a2];rfl
  have fF:∀l,(az (bH AB e.B l) e.A).getD []=p.filterMap (uX e.A):=λl=>by rw[lK,if_neg a3,mh,if_pos iM];rfl
  rw[aK,app,cZ,e2,app,cZ,dj,app,cZ,fF,app,cZ];refine hd _ ⟨⟨yP (yP dc),λx=>?_⟩,yP (yP gx),λx=>?_⟩
  ·rw[lK,lK,dg,List.filterMap_append];by_cases c1:x=e.B
   ·subst c1;rw[if_pos rfl,if_pos a2];simp[e9,a3]
   ·rw[if_neg c1];by_cases eZ:x=e.A
    ·subst eZ;rw[if_pos rfl,if_pos iM];simp[e9]
    ·rw[if_neg eZ];have:e9 x e=none:=by simp[e9,Ne.symm eZ,Ne.symm c1]
     simp[this]
  ·rw[lK,lK,mh,List.filterMap_append];by_cases eZ:x=e.A
   ·subst eZ;rw[if_pos rfl,if_pos iM];simp[uX,Ne.symm a3]
   ·rw[if_neg eZ];by_cases c1:x=e.B
    ·subst c1;rw[if_pos rfl,if_pos a2];simp[uX]
    ·rw[if_neg c1];have:uX x e=none:=by simp[uX,Ne.symm eZ,Ne.symm c1]
     simp[this]
 rintro⟨ua,AB⟩ ⟨⟨dc,dg⟩,gx,mh⟩;simp only at dc dg gx mh ⊢
 have xL:∀gD:List (Int×yH),gD.Perm ua→∃dh,nx (λ(gN:Int) (_:yH) (gb:List (Int×yH))=>jF (az gb gN).isSome (aM (l2 wB ((az gb gN).getD [])) λ(tY:yH)=>some (bH gb gN tY))) gD ua=some dh∧
   dh.map (·.1)=ua.map (·.1)∧∀x,az dh x=if x∈ids t then some (wA t x)else none:=λgD aJ=>by
  obtain⟨dh,ak,ax,aO⟩:=QH (xL:=λrow=>(l2 wB row).getD []) gD ua ((aJ.map _).nodup_iff.2 dc) λp aF=>by
   have bw:=Qa dc (aJ.mem_iff.1 aF);have bV:=dg p.1;rw[bw]at bV;split at bV
   ·have bV:=Option.some.inj bV;exact⟨_,bw,by rw[bV,Sc aa];rfl⟩
   ·cases bV
  refine⟨dh,ak,ax,λx=>?_⟩;rw[aO,dg];have hm:x∈gD.map (·.1)↔x∈ids t:=by
   rw[(aJ.map _).mem_iff,←uZ,dg];by_cases u:x∈ids t<;>simp[u]
  by_cases u:x∈ids t
  ·rw[if_pos (hm.2 u),if_pos u,if_pos u];simp[Sc aa]
  ·rw[if_neg (λh=>u (hm.1 h)),if_neg u,if_neg u]
 obtain⟨R,hw,ha,mJ⟩:=xL ua (List.Perm.refl _);have Xn:iX R:=by rw[iX,ha];exact dc
 refine Ok.aM (P:=λx=>x=R) ⟨R,QV λgD aJ=>?_,rfl⟩ λx u=>?_
 ·obtain⟨dh,ak,ax,aO⟩:=xL gD aJ;rw[iX.ext Xn (ha.trans ax.symm) λx=>by rw[mJ,aO]];exact ak
 subst u;refine .s ⟨TE aa Xn mJ (λx y k=>?_) λx y k h=>⟨yV aa h,tX aa h⟩,TE aa gx mh (afi aa) λx y k h=>⟨yV aa h,(tX aa h).2,(tX aa h).1⟩,λx u=>by rw[mJ,if_pos u]⟩;constructor
 ·rintro⟨s,Z,rfl,rfl⟩;exact(Kr aa).1 Z
 ·intro h;exact⟨⟨y,k⟩,(Kr aa).2 h,rfl,rfl⟩
end
end
section
set_option linter.all false
open Go List
section
def LL(l:cO)(aJ:l.length≤1000000):zO l=some (ms (λa b=>decide (a<b)) l):=by
 unfold zO
 refine(Kd (λa b:Int=>decide (a<b)) (some false) (λj x y r q s b4 jv aY=>by
  simp only[Dc jv aY (by omega),cZ];by_cases h:y<x
  ·have:¬x≤y:=by omega
   simp[h,this]
  ·have:x≤y:=by omega
   simp[h,this]) _).trans ?_
 cases ms (λa b:Int=>decide (a<b)) l<;>rfl
def H6(t:bz)(root:Int)(rs:cO):Int:=bif !decide (kP t=0)then 1 else bif !ms (λa b:Int=>decide (a<b)) rs then 25 else bif (root::rs).any (λr=>!jM t r)then 4 else 0
def GB(t:bz)(root:Int)(rs:cO)(aJ:rs.length≤100000):ya t root rs=some (H6 t root rs):=by
 unfold ya H6;rw[Gf,cZ];by_cases h:kP t=0
 ·have aa:=rW.1 h;have NO:=aa.ug;rw[decide_eq_true h,LL _ (by omega),cZ];simp only[Bool.not_true,cond_false];cases ms (λa b:Int=>decide (a<b)) rs with
  |false=>rfl
  |true=>
   simp only[Bool.not_true,cond_false];rw[qD (by simp;omega),cZ]
   refine(uY (λr=>!jM t r) (some 4) (λj x b4 s=>by
    rw[Lb t x (by omega),cZ,decide_eq_true h,Bool.true_and]) _ _ _).trans ?_
   show(bif (root::rs).any (λr=>!jM t r)then some 4 else some 0)=_;cases(root::rs).any (λr=>!jM t r)<;>rfl
 ·rw[decide_eq_false h];rfl
variable {root:Int}
def GZ{t:bz}(aa:ff t)(aI:root∈ids t){rs:cO}(h1:rs.Pairwise (·<·))(D:∀x∈rs,x∈ids t):H6 t root rs=0:=by
 unfold H6;have aq:ms (λa b:Int=>decide (a<b)) rs=true:=Av (h1.imp λh=>by simpa using h)
 have aZ:(root::rs).any (λr=>!jM t r)=false:=pV.2 λx u=>by
  rcases mem_cons.1 u with rfl|u
  ·rw[sY.1 aI];rfl
  ·rw[sY.1 (D x u)];rfl
 rw[aq,aZ,decide_eq_true (rW.2 aa)];rfl
def Bx(l:dy):wu:=[bQ.mk (bO.mk l.A l.B) l.lg,bQ.mk (bO.mk l.B l.A) l.lp]
def jW(g:bz):wu:=g.Links.flatMap Bx
def R6{α pg β:Type}{B:Int→α→(List pg→Option β)→List pg→Option β}{K:List pg→Option β}(f:α→List pg)(c1:∀j x b4 s,B j x b4 s=aM (iP s (f x)) λl=>b4 l)(k:Nat)(hk:∀x,(f x).length≤k):∀(l:List α) (j:Nat) (s:List pg),s.length+k*l.length≤1000000→eE l j B K s=K (s++l.flatMap f)
 |[],j,s,_=>by simp[eE]
 |x::r,j,s,h=>by
  have:=hk x;simp only[length_cons,Nat.mul_add,Nat.mul_one]at h;rw[eE,c1,qD (by omega),cZ,R6 f c1 k hk r (j+1) _ (by simp;omega)];simp
variable {g:bz}
def GC{a:bQ}:a∈jW g↔∃l∈g.Links,a=bQ.mk (bO.mk l.A l.B) l.lg∨a=bQ.mk (bO.mk l.B l.A) l.lp:=by
 simp[jW,Bx]
def T2{a b:bO}(h:a≠b):fC [λx:bO=>x.br,λx:bO=>x.bh] a b<0∨fC [λx:bO=>x.br,λx:bO=>x.bh] b a<0:=by
 rw[qX,qX,qX,qX];have D:a.br≠b.br∨a.bh≠b.bh:=by
  apply Classical.byContradiction;intro aX;have aK:a.br=b.br:=Classical.byContradiction λx=>aX (.inl x);have e2:a.bh=b.bh:=Classical.byContradiction λx=>aX (.inr x);apply h;cases a;cases b
  simp only at aK e2;rw[aK,e2]
 simp only[fC];omega
def St(aa:ff g):(jW g).Pairwise λa b=>a.Hop≠b.Hop:=by
 unfold jW;rw[pairwise_flatMap];refine⟨λl aJ=>?_,aa.Er.imp_of_mem λ{a b} aA U hs=>?_⟩
 ·have:=aa.lt l aJ;simp only[Bx,pairwise_cons,mem_cons,not_mem_nil,or_false,forall_eq,Pairwise.nil,and_true,false_imp_iff,implies_true];intro h;injection h with h1 D
  omega
 ·have h1:=aa.lt a aA;have D:=aa.lt b U;simp only[m4,Bool.or_eq_true,Bool.and_eq_true,decide_eq_true_eq]at hs;intro x u y ai;simp only[Bx,mem_cons,not_mem_nil,or_false]at u ai;rcases u with rfl|rfl<;>rcases ai with rfl|rfl<;>(simp only;intro h;injection h with aq aZ;omega)
def acr{l:dy}(h:r5 l=false):(1≤l.lg∧l.lg≤1000)∧1≤l.lp∧l.lp≤1000:=by
 simp only[r5,xH,Bool.or_eq_false_iff,Bool.not_eq_false',Bool.and_eq_true,decide_eq_true_eq]at h;exact⟨h.1.1.1,h.1.1.2⟩
def R7(g:bz):(jW g).length=2*g.Links.length:=by
 unfold jW;induction g.Links with
 |nil=>rfl
 |cons a r bu=>rw[flatMap_cons,length_append,bu];simp[Bx];omega
def TB{α pg:Type}{f:α→pg}:∀{l:List α},(l.Pairwise λa b=>f a≠f b)→∀a∈l,∀b∈l,f a=f b→a=b
 |[],_,a,aA,_,_,_=>by cases aA
 |x::r,h,a,aA,b,U,e=>by
  rw[pairwise_cons]at h;rcases mem_cons.1 aA with h1|h1<;>rcases mem_cons.1 U with D|D
  ·rw[h1,D]
  ·subst h1;exact absurd e (h.1 b D)
  ·subst D;exact absurd e.symm (h.1 a h1)
  ·exact TB h.2 a h1 b D e
def GM(aa:ff g):vW (jW g):=by
 refine⟨λa aA=>?_,λa aA=>?_,TB (St aa),?_⟩
 ·obtain⟨l,aJ,h⟩:=GC.1 aA;have:=acr (aa.Ox l aJ);rcases h with rfl|rfl<;>(simp only;omega)
 ·obtain⟨l,aJ,h⟩:=GC.1 aA;have h1:=aa.ends l aJ;have D:=Gz.1 h1.1;have aq:=Gz.1 h1.2;obtain⟨x,u,eW⟩:=D;obtain⟨y,ai,Ao⟩:=aq;have aZ:=aa.Fu x u;have bV:=aa.Fu y ai;rcases h with rfl|rfl<;>(simp only;omega)
 ·have:=aa.nl;rw[R7];omega
def Mj(aa:ff g):∃m,AD g=some m∧m.Perm (jW g):=by
 have l4:=aa.nl;have eH:=R7 g;obtain⟨m,h1,D,aq⟩:=PD (ks:=[λx:bQ=>x.Hop.br,λx:bQ=>x.Hop.bh]) (l:=jW g) ((St aa).imp λ{a b} h=>T2 h) (by omega);refine⟨m,?_,D⟩;unfold AD;refine(R6 Bx (λj x b4 s=>rfl) 2 (λx=>Nat.le_refl _) _ _ _ (by simp;omega)).trans ?_;rw[nil_append];show aM (l2 _ (jW g)) _=_;rw[h1];rfl
variable {a b:wu}
def Lp(h:a.Perm b)(U:vW b):vW a:=⟨λx u=>U.cost x (h.mem_iff.1 u),λx u=>U.to x (h.mem_iff.1 u),λx u y ai=>U.hop x (h.mem_iff.1 u) y (h.mem_iff.1 ai),by rw[h.length_eq];exact U.len⟩
variable {T:Int→Prop}
def qp.same{A:Type}[DecidableEq A]{N:x1 A}{L L':List A}(Z:∀a,a∈L↔a∈L'){v:Int}{H:List A}(h:qp N L T v H):qp N L' T v H:=
 ⟨λa aA=>(Z a).1 (h.sub a aA),λa aA=>h.pos a ((Z a).2 aA),h.x6,λK g4=>h.min K λa aA=>(Z a).2 (g4 a aA)⟩
def ahf{A:Type}[DecidableEq A]{N:x1 A}{L:List A}{v:Int}(aF:∀a∈L,0<N.cost a)(ah:∀t,T t→gE N L v t):∃H,qp N L T v H:=by
 have:∀(n:Nat) (K:List A),(∀a∈K,a∈L)→(∀t,T t→gE N K v t)→hX N K≤n→∃H,qp N L T v H:=by
  intro n;induction n with
  |zero=>
   intro K h1 D aq;refine⟨K,h1,aF,D,λnX aZ _=>?_⟩;have:0≤hX N nX:=O9 λa aA=>by have:=aF a (aZ a aA);omega
   simp only[Int.ofNat_zero]at aq;omega
  |succ n bu=>
   intro K h1 D aq;by_cases u:∃nX,(∀a∈nX,a∈L)∧(∀t,T t→gE N nX v t)∧hX N nX<hX N K
   ·obtain⟨nX,dc,dg,gx⟩:=u;exact bu nX dc dg (by omega)
   ·refine⟨K,h1,aF,D,λnX aZ bV=>?_⟩;apply Classical.byContradiction;intro bS;exact u ⟨nX,aZ,bV,by omega⟩
 exact this (hX N L).toNat L (λa aA=>aA) ah (by omega)
def KU(g:bz)(root:Int)(ts:cO)(x:g2×Int×Int):Prop:=(x.2.2=0∧x.1.h9=root∧zb (jW g) root ts x.1.Links x.2.1)∨(x=(g2.mk 0 [],0,9)∧¬∀t,t∈ts→gE gp (jW g) root t)
variable {ts:cO}
def aa3(h:a.Perm b){Z:x2}{c:Int}(U:zb a root ts Z c):zb b root ts Z c:=by
 obtain⟨⟨ij,h1,D,aq⟩,aZ⟩:=U;exact⟨⟨ij,h1.same λa=>h.mem_iff,D,aq⟩,aZ⟩
variable {ay:wu}
def acs{ij:wu}(eZ:vW ay)(h:∀a∈ij,a∈ay):(ij.length:Int)≤hX gp ij:=(AE λa aA=>eZ.cost a (h a aA)).1
def adW(eZ:vW ay)(ah:∀t,t∈ts→gE gp ay root t):∃Z c,zb ay root ts Z c:=by
 obtain⟨ij,nI⟩:=ahf (N:=gp) (L:=ay) (T:=λt=>t∈ts) (λa aA=>by have:=(eZ.cost a aA).1;show 0<a.dn;omega) ah;have h1:=acs eZ nI.sub;have D:=nI.min ay (λa aA=>aA) ah;have aq:=(AE eZ.cost).2;have aZ:=eZ.len;obtain⟨m,_,dg,gx⟩:=P4 eZ nI (by omega);exact⟨m,_,⟨ij,nI,rfl,dg⟩,gx⟩
def YT{β:Type}{K:(g2×Int×Int)→Option β}{r:β}(aa:ff g)(aI:root∈ids g)(h1:ts.Pairwise (·<·))(D:∀x∈ts,x∈ids g)(aJ:ts.length≤6)(g4:∀x,KU g root ts x→K x=some r):Cd g root ts K=some r:=by
 obtain⟨m,hm,aF⟩:=Mj aa;have eZ:=Lp aF (GM aa);unfold Cd;rw[GB _ _ _ (by omega),cZ,GZ aa aI h1 D,decide_eq_true rfl,decide_eq_false (by omega),hm,cZ];simp only[Bool.not_true,cond_false];unfold Jp;rw[if_pos ⟨eZ,aJ⟩];refine ad9 ?_ ?_
 ·by_cases ah:∀t,t∈ts→gE gp m root t
  ·obtain⟨Z,c,U⟩:=adW eZ ah;exact⟨(Z,c,true),.inl ⟨rfl,U⟩⟩
  ·exact⟨([],0,false),.inr ⟨rfl,ah⟩⟩
 ·rintro⟨Z,c,ok⟩ h;rcases h with⟨h,U⟩|⟨h,ah⟩
  ·simp only at h U;subst h;exact g4 _ (.inl ⟨rfl,rfl,aa3 aF U⟩)
  ·injection h with aA U
   injection U with U gh
   subst aA;subst U;subst gh
   exact g4 _ (.inr ⟨rfl,λu=>ah λt b5=>(u t b5).mono λa aA=>aF.mem_iff.2 aA⟩)
end
section
set_option maxRecDepth 100000
def Ef:bz:=bz.mk [ez.mk 1 true,ez.mk 2 true,ez.mk 3 true,ez.mk 4 true] [dy.mk 1 2 2 2 0,dy.mk 1 3 3 3 0,dy.mk 1 4 3 3 0,dy.mk 2 3 2 2 0,dy.mk 2 4 2 2 0]
def adX:F3=some Ef:=by kernel_rfl
def aff:ff Ef:=rW.1 (by kernel_rfl)
def aaM:x8 Ef 1 [3,4] [cu.mk [2,3,4] 1,cu.mk [3] 2,cu.mk [4] 2]=some (5,0):=by kernel_rfl
def xI:wu:=[⟨⟨1,2⟩,2⟩,⟨⟨2,1⟩,2⟩,⟨⟨1,3⟩,3⟩,⟨⟨3,1⟩,3⟩,⟨⟨1,4⟩,3⟩,⟨⟨4,1⟩,3⟩,⟨⟨2,3⟩,2⟩,⟨⟨3,2⟩,2⟩,⟨⟨2,4⟩,2⟩,⟨⟨4,2⟩,2⟩]
def QC:jW Ef=xI:=rfl
def ahg:∀a∈xI,a.Hop.bh=2→2≤a.dn:=by decide
def ahh:∀a∈xI,a.Hop.bh=3→(a.Hop.br=1∧a.dn=3)∨(a.Hop.br=2∧a.dn=2):=by decide
def TC:∀a∈xI,a.Hop.bh=4→(a.Hop.br=1∧a.dn=3)∨(a.Hop.br=2∧a.dn=2):=by decide
def R8{H:wu}(h1:bQ.mk ⟨1,3⟩ 3∈H)(D:bQ.mk ⟨1,4⟩ 3∈H):∀t,t∈([3,4]:cO)→gE gp H 1 t:=by
 intro t b5;simp only[mem_cons,not_mem_nil,or_false]at b5;rcases b5 with rfl|rfl
 ·exact gE.step (N:=gp) (bQ.mk ⟨1,3⟩ 3) h1 (.refl _)
 ·exact gE.step (N:=gp) (bQ.mk ⟨1,4⟩ 3) D (.refl _)
def R9{L H:wu}(aF:∀a∈L,0<a.dn)(Z:∀a∈H,a∈L){a b:bQ}(aA:a∈H)(U:b∈H)(hs:b≠a):a.dn+b.dn≤hX gp H∧2≤H.length:=by
 have h1:=CS (N:=gp) aA;have eO:b∈H.erase a:=(List.mem_erase_of_ne hs).2 U;have D:=CS (N:=gp) eO
 have aq:0≤hX gp ((H.erase a).erase b):=O9 λc ah=>by
  have:=aF c (Z c (List.mem_of_mem_erase (List.mem_of_mem_erase ah)));show 0≤c.dn;omega
 have aZ:=length_erase_of_mem aA;have bV:=length_pos_of_mem eO;refine⟨?_,by omega⟩;have aK:gp.cost a=a.dn:=rfl;have e2:gp.cost b=b.dn:=rfl;omega
def aaN{L H:wu}(aF:∀a∈L,0<a.dn)(Z:∀a∈H,a∈L){a b c:bQ}(aA:a∈H)(U:b∈H)(ah:c∈H)(hs:b≠a)(amd:c≠a)(Ix:c≠b):a.dn+b.dn+c.dn≤hX gp H:=by
 have h1:=CS (N:=gp) aA;have D:=(R9 (L:=L) (H:=H.erase a) aF (λx u=>Z x (List.mem_of_mem_erase u)) ((List.mem_erase_of_ne hs).2 U) ((List.mem_erase_of_ne amd).2 ah) Ix).1;have aK:gp.cost a=a.dn:=rfl;omega
def aaO{H:wu}(Z:∀a∈H,a∈xI)(ah:∀t,t∈([3,4]:cO)→gE gp H 1 t):6≤hX gp H∧2≤H.length:=by
 have aF:∀a∈xI,0<a.dn:=by decide
 rcases P0 (ah 3 (by simp))with h|⟨a,aA,Cj,Iv⟩
 ·exact absurd h (by decide)
 rcases P0 (ah 4 (by simp))with h|⟨b,U,fu,eO⟩
 ·exact absurd h (by decide)
 have Cj:a.Hop.bh=3:=Cj;have fu:b.Hop.bh=4:=fu;have hs:b≠a:=λe=>by rw[e]at fu;omega
 have D:=R9 aF Z aA U hs;refine⟨?_,D.2⟩
 have three:∀{x:bQ} {p:bQ→Bool},x.Hop.br=2→gE gp (H.filter p) 1 x.Hop.br→2+a.dn+b.dn≤hX gp H:=λ{x p} u Wi=>by
  rw[u]at Wi;rcases P0 Wi with h|⟨c,gh,qv,_⟩
  ·exact absurd h (by decide)
  have W8:=(List.mem_filter.1 gh).1;have qv:c.Hop.bh=2:=qv;have:=ahg c (Z c W8) qv;have:=aaN aF Z aA U W8 hs (λe=>by rw[e]at qv;omega) (λe=>by rw[e]at qv;omega);omega
 rcases ahh a (Z a aA) Cj with⟨_,aq⟩|⟨aq,WZ⟩
 ·rcases TC b (Z b U) fu with⟨_,aZ⟩|⟨aZ,alY⟩
  ·omega
  ·have:=three aZ eO;omega
 ·have bV:=three aq Iv;rcases TC b (Z b U) fu with⟨_,aZ⟩|⟨aZ,alY⟩<;>omega
def Lq:Aw=some true:=by
 unfold Aw;rw[adX,cZ];refine YT aff (by decide) (by simp) (by decide) (by simp) λx u=>?_;rw[cZ,aaM,cZ];have u:KU Ef 1 [3,4] x:=u;rcases u with⟨h1,_,⟨ij,aq,aZ,bV⟩,_⟩|⟨_,h⟩
 ·rw[QC]at aq;obtain⟨dc,dg⟩:=aaO aq.sub aq.x6;have gx:=aq.min [⟨⟨1,3⟩,3⟩,⟨⟨1,4⟩,3⟩] (by intro a aA;simp only[mem_cons,not_mem_nil,or_false]at aA;rcases aA with rfl|rfl<;>simp[xI]) (R8 (by simp) (by simp));have e:hX gp [⟨⟨1,3⟩,3⟩,⟨⟨1,4⟩,3⟩]=6:=rfl;have dU:=bV.length_eq;rw[length_map]at dU;have aK:x.2.1=6:=by omega
  rw[decide_eq_true h1,decide_eq_true aK,decide_eq_true (show(1:Int)<(x.1.Links.length:Int)by omega)];rfl
 ·rw[QC]at h;exact absurd (R8 (by simp[xI]) (by simp[xI])) h
end
section
def Lt{n:Int}(bJ : -1000000≤n)(h1:n≤4000000000):aG n=n:=by unfold aG;rw[IntKind.wrap_i64];omega
def pf(t:bz)(x:Int):Nat:=(ids t).idxOf x
variable {t:bz}{x:Int}
def Hu(h:x∈ids t):pf t x<t.bx.length:=by
 have:=List.idxOf_lt_length_of_mem h;simpa [ids,pf]using this
def afk{y:Int}(u:x∈ids t)(ai:y∈ids t)(h:pf t x=pf t y):x=y:=by
 have h1:=getElem_idxOf (List.idxOf_lt_length_of_mem u);have D:=getElem_idxOf (List.idxOf_lt_length_of_mem ai);unfold pf at h;rw[←h1,←D];simp only[h]
def Lu{β:Type}(x:Int)(g:Int→Option β)(a:Option β):∀(l:AU) (j:Nat),eE l j (λ(a1:Int) (aK:ez) (cI:Unit→Option β) (_:Unit)=>bif decide (aK.cS=x)then g a1 else cI ()) (λ_=>a) () =
  if x∈l.map (·.cS)then g ((j+(l.map (·.cS)).idxOf x:Nat):Int)else a
 |[],j=>by simp[eE]
 |r::l,j=>by
  show(bif decide (r.cS=x)then g (j:Int)else eE l (j+1) (λ(a1:Int) (aK:ez) (cI:Unit→Option β) (_:Unit)=>bif decide (aK.cS=x)then g a1 else cI ()) (λ_=>a) ())=_;by_cases h:r.cS=x
  ·rw[decide_eq_true h,cond_true];subst h;simp
  ·have:=Lu x g a l (j+1);rw[decide_eq_false h,cond_false,this];simp only[map_cons,mem_cons,Ne.symm h,false_or,idxOf_cons];have U:(r.cS==x)=false:=by simpa using h
   rw[U];simp only[cond_false];rw[show j+1+List.idxOf x (List.map (λx=>x.cS) l)=j+(List.idxOf x (List.map (λx=>x.cS) l)+1)by omega]
def QI(h:x∈ids t):FV t x=some (pf t x:Int):=by
 have:=Lu x (λj=>some j) (some (0:Int)) t.bx 0;have b3:x∈t.bx.map (·.cS):=h;rw[if_pos b3,Nat.zero_add]at this;exact this
def ahi(t:bz)(d:cO)(x:Int):CR t d x=if x∈ids t then du d (pf t x:Int)else some 1073741824:=by
 have:=Lu x (λj=>aM (du d j) λe=>some e) (some 1073741824) t.bx 0;rw[Nat.zero_add]at this;have e:∀o:jO,(aM o λe=>some e)=o:=λo=>by cases o<;>rfl
 unfold CR;refine Eq.trans this ?_;rw[e];rfl
def fT(t:bz)(d:cO)(x:Int):Int:=d.getD (pf t x) 1073741824
def Lv{d:cO}(af:d.length=t.bx.length)(u:x∈ids t):du d (pf t x:Int)=some (fT t d x):=by
 have h:=Hu u;rw[←af]at h;unfold du fT;rw[if_pos (by omega)];simp[getD_eq_getElem?_getD,h]
def afl{d:cO}(af:d.length=t.bx.length){y v:Int}(u:x∈ids t)(ai:y∈ids t):fT t (d.set (pf t x) v) y=if y=x then v else fT t d y:=by
 have h:=Hu u;rw[←af]at h;unfold fT;rw[getD_eq_getElem?_getD,getD_eq_getElem?_getD,List.getElem?_set];by_cases e:y=x
 ·subst e;simp[h]
 ·rw[if_neg (λcC=>e (afk ai u cC.symm)),if_neg e]
structure zx(t:bz)(to:Int)(d:List Int):Prop where
 len:d.length=t.bx.length
 le:∀x∈ids t,fT t d x≤1073741824
 DC:∀x∈ids t,fT t d x<1073741824→iq (iz t) x to (fT t d x)
 z:fT t d to≤0
def v2(t:bz)(d:cO)(x y w:Int):cO:=if fT t d y<1073741824 then d.set (pf t x) (if w+fT t d y<fT t d x then w+fT t d y else fT t d x)else d
variable {to w:Int}
def QJ(aa:ff t){d:cO}(c1:zx t to d){y:Int}(u:x∈ids t)(ai:y∈ids t)(av:1≤w∧w≤1000){β:Type}(J:cO→Option β):
  (aM (du d (pf t y:Int)) λ(fF:Int)=>bif decide (fF<(1073741824:Int))then aM (du d (pf t x:Int)) λ(g3:Int)=>aM (jC d (pf t x:Int) (if(aG (w+fF))<g3 then aG (w+fF)else g3)) λ(Od:cO)=>J Od else J d)=J (v2 t d x y w):=by
 rw[Lv c1.len ai,cZ];unfold v2;by_cases h:fT t d y<1073741824
 ·rw[if_pos h,show decide (fT t d y<1073741824)=true from decide_eq_true h,cond_true,Lv c1.len u,cZ];have bJ:=(c1.DC y ai h).rX (rS aa);rw[Lt (by omega) (by omega)];have aJ:=Hu u;have eH:=c1.len;unfold jC;rw[if_pos (by omega),cZ];simp
 ·rw[if_neg h,show decide (fT t d y<1073741824)=false from decide_eq_false h,cond_false]
def Sd(aa:ff t)(aN:to∈ids t){d:cO}(c1:zx t to d){y:Int}(av:iz t x y=some w):
  zx t to (v2 t d x y w)∧(∀z∈ids t,fT t (v2 t d x y w) z≤fT t d z)∧(fT t d y<1073741824→fT t (v2 t d x y w) x≤w+fT t d y):=by
 obtain⟨u,ai⟩:=tX aa av;unfold v2;by_cases h:fT t d y<1073741824
 ·rw[if_pos h];have p4:∀z∈ids t,fT t (d.set (pf t x) (if w+fT t d y<fT t d x then w+fT t d y else fT t d x)) z=if z=x then(if w+fT t d y<fT t d x then w+fT t d y else fT t d x)else fT t d z:=λz hz=>afl c1.len u hz
  have hle:∀z∈ids t,fT t (d.set (pf t x) (if w+fT t d y<fT t d x then w+fT t d y else fT t d x)) z≤fT t d z:=λz hz=>by
   rw[p4 z hz];split
   ·rename_i e;subst e;split<;>omega
   ·exact Int.le_refl _
  refine⟨⟨by simp[c1.len],λz hz=>Int.le_trans (hle z hz) (c1.le z hz),λz hz bS=>?_,Int.le_trans (hle to aN) c1.z⟩,hle,λ_=>?_⟩
  ·rw[p4 z hz]at bS ⊢;split
   ·rename_i e;subst e
    rw[if_pos rfl]at bS;split
    ·exact(iq.one av).trans (c1.DC y ai h)
    ·rename_i aX;rw[if_neg aX]at bS;exact c1.DC z hz bS
   ·rename_i e;rw[if_neg e]at bS;exact c1.DC z hz bS
  ·rw[p4 x u,if_pos rfl];split<;>omega
 ·rw[if_neg h];exact⟨c1,λz _=>Int.le_refl _,λb3=>absurd b3 h⟩
open Classical in
noncomputable def r7(t:bz)(to:Int)(d:cO)(x:Int):Bool:=decide (∃k,dst (iz t) x to=some k∧k<fT t d x)
noncomputable def uw(t:bz)(to:Int)(d:cO):Nat:=((ids t).filter (r7 t to d)).length
variable {α:Type}
def Pd{p q:α→Bool}{l:List α}(h:∀x∈l,q x=true→p x=true):(l.filter q).length≤(l.filter p).length∧∀x∈l,p x=true→q x=false→(l.filter q).length<(l.filter p).length:=by
 induction l with
 |nil=>simp
 |cons y l bu=>
  obtain⟨l6,l7⟩:=bu λx u=>h x (by simp[u]);have ai:=h y (by simp);cases bP:q y with
  |true=>
   rw[filter_cons_of_pos bP,filter_cons_of_pos (ai bP)];refine⟨by simpa using l6,λx u aF aX=>?_⟩;rcases mem_cons.1 u with rfl|u
   ·rw[bP]at aX;cases aX
   ·have:=l7 x u aF aX;simpa using this
  |false=>
   rw[filter_cons_of_neg (by simp[bP])];cases aF:p y with
   |true=>
    rw[filter_cons_of_pos aF];simp only[length_cons];exact⟨by omega,λx u _ _=>by omega⟩
   |false=>
    rw[filter_cons_of_neg (by simp[aF])];refine⟨l6,λx u p3 aX=>?_⟩;rcases mem_cons.1 u with rfl|u
    ·rw[aF]at p3;cases p3
    ·exact l7 x u p3 aX
def GO(aa:ff t){l:dy}(aJ:l∈t.Links):iz t l.A l.B=some l.lg∧iz t l.B l.A=some l.lp:=by
 have bS:=aa.lt l aJ;have cA:l.A≠l.B:=by omega
 constructor
 ·refine rQ.2 ⟨sZ.2 ⟨l,aJ,.inl ⟨rfl,rfl⟩⟩,?_⟩;rw[qs aa aJ (by simp[kZ])];simp[px]
 ·refine rQ.2 ⟨sZ.2 ⟨l,aJ,.inr ⟨rfl,rfl⟩⟩,?_⟩;rw[qs aa aJ (by simp[kZ])];simp[px,cA]
variable {g:bz}{k:Int}
def vY(aa:ff g){y:Int}:iz g x y=some k↔bQ.mk (bO.mk x y) k∈jW g:=by
 rw[GC];constructor
 ·intro h;obtain⟨h1,D⟩:=rQ.1 h;obtain⟨l,aJ,aq⟩:=sZ.1 h1;obtain⟨bk,bK⟩:=GO aa aJ;rcases aq with⟨rfl,rfl⟩|⟨rfl,rfl⟩
  ·rw[bk]at h;cases h
   exact⟨l,aJ,.inl rfl⟩
  ·rw[bK]at h;cases h
   exact⟨l,aJ,.inr rfl⟩
 ·rintro⟨l,aJ,h|h⟩
  ·injection h with h1 D
   injection h1 with aq aZ
   subst aq;subst aZ;subst D
   exact(GO aa aJ).1
  ·injection h with h1 D
   injection h1 with aq aZ
   subst aq;subst aZ;subst D
   exact(GO aa aJ).2
def ahj(aa:ff g){y:Int}(h:gE gp (jW g) x y):∃m,iq (iz g) x y m:=by
 induction h with
 |refl v=>exact⟨0,.nil⟩
 |step a aA _ bu=>
  obtain⟨m,hm⟩:=bu;have:iz g a.Hop.br a.Hop.bh=some a.dn:=(vY aa).2 aA;exact⟨_,(iq.one this).trans hm⟩
def TF(aa:ff g){y m:Int}(h:iq (iz g) x y m):gE gp (jW g) x y:=by
 induction h with
 |nil=>exact .refl _
 |@snoc x b m k _ hk bu=>exact bu.trans (gE.one (N:=gp) (a:=bQ.mk (bO.mk x b) k) ((vY aa).1 hk))
def aa4(aa:ff g):∀(n:Nat) (Ea:cO) (H:wu) (x t:Int),Ea.length=n→(∀a∈H,a∈jW g)→(∀a∈H,a.Hop.br∈Ea)→gE gp H x t→∃m,iq (iz g) x t m∧m≤1000*(n:Int):=by
 intro n;induction n with
 |zero=>
  intro Ea H x t W3 nn bA h;cases h with
  |refl _=>exact⟨0,.nil,by omega⟩
  |step a aA _=>
   have:=bA a aA;rw[eq_nil_of_length_eq_zero W3]at this;cases this
 |succ n bu=>
  intro Ea H x t W3 nn bA h;by_cases vN:x=t
  ·subst vN;exact⟨0,.nil,by omega⟩
  ·obtain⟨e,he,Z,ah⟩:=Po h vN;have Z:e.Hop.br=x:=Z;have Xe:=bA e he;rw[Z]at Xe
   obtain⟨m,h1,D⟩:=bu (Ea.erase x) _ e.Hop.bh t (by rw[length_erase_of_mem Xe];omega) (λa aA=>nn a (List.mem_filter.1 aA).1) (λa aA=>by
    obtain⟨ak,ax⟩:=List.mem_filter.1 aA;have aO:¬gp.src a=x:=by simpa using ax
    exact(List.mem_erase_of_ne aO).2 (bA a ak)) ah
   have hk:iz g x e.Hop.bh=some e.dn:=by rw[←Z];exact(vY aa).2 (nn e he)
   have:=(yV aa hk).2;exact⟨_,(iq.one hk).trans h1,by omega⟩
variable {a b:Int}
def PC(aa:ff t)(aA:a∈ids t)(h:dst (iz t) a b=some k):0≤k∧k≤24000:=by
 obtain⟨m,h1,D⟩:=aa4 aa _ (ids t) (jW t) a b rfl (λa aA=>aA) (λa aA=>(tX aa ((vY aa).2 aA)).1) (TF aa (nG.1 h).1);have aq:=(nG.1 h).2 _ h1;have aZ:=aa.ug;have bV:(ids t).length=t.bx.length:=by simp[ids]
 exact⟨JU (rS aa) h,by omega⟩
def aaQ(aa:ff t){d dO:cO}(c1:zx t to d)(hle:∀z∈ids t,fT t dO z≤fT t d z)
  (aI:∀l∈t.Links,(fT t d l.B<1073741824→fT t dO l.A≤l.lg+fT t d l.B)∧(fT t d l.A<1073741824→fT t dO l.B≤l.lp+fT t d l.A)):uw t to dO≤uw t to d∧(uw t to d≠0→uw t to dO<uw t to d):=by
 have ane:∀x∈ids t,r7 t to dO x=true→r7 t to d x=true:=λx u h=>by
  simp only[r7,decide_eq_true_eq]at h ⊢;obtain⟨k,h1,D⟩:=h;exact⟨k,h1,by have:=hle x u;omega⟩
 obtain⟨f1,f2⟩:=Pd ane;refine⟨f1,λcA=>?_⟩;have ex:∀(n:Nat) (x k:Int),k.toNat=n→x∈ids t→dst (iz t) x to=some k→k<fT t d x→∃x k,x∈ids t∧dst (iz t) x to=some k∧k<fT t d x∧∀y m,y∈ids t→dst (iz t) y to=some m→m<k→fT t d y≤m:=by
  intro n;induction n using Nat.strongRecOn with
  |_ n bu=>
   intro x k aX u h1 D;by_cases kH:∀y m,y∈ids t→dst (iz t) y to=some m→m<k→fT t d y≤m
   ·exact⟨x,k,u,h1,D,kH⟩
   ·have:∃y m,y∈ids t∧dst (iz t) y to=some m∧m<k∧m<fT t d y:=by
     refine Classical.byContradiction λah=>kH λy m ak ax aO=>?_;by_cases q:fT t d y≤m
     ·exact q
     ·exact absurd ⟨y,m,ak,ax,aO,by omega⟩ ah
    obtain⟨y,m,ak,ax,aO,aL⟩:=this;have:=JU (rS aa) ax;exact bu m.toNat (by omega) y m rfl ak ax aL
 have:∃x,x∈(ids t).filter (r7 t to d):=by
  cases bA:(ids t).filter (r7 t to d)with
  |nil=>exact absurd (by unfold uw;rw[bA];rfl) cA
  |cons x r=>exact⟨x,by simp⟩
 obtain⟨m7,mV⟩:=this;obtain⟨m1,m2⟩:=List.mem_filter.1 mV;simp only[r7,decide_eq_true_eq]at m2;obtain⟨o7,ua,AB⟩:=m2;obtain⟨x,k,aqX,Kx,aqY,aqZ⟩:=ex _ m7 o7 rfl m1 ua AB;refine f2 x aqX (by simp only[r7,decide_eq_true_eq];exact⟨k,Kx,aqY⟩) ?_;simp only[r7,decide_eq_false_iff_not];rintro⟨er,j8,DY⟩;rw[Kx]at j8;cases j8
 have vN:x≠to:=λe=>by
  subst e;have:=JU (rS aa) Kx;have:=c1.z;omega
 obtain⟨y,w,m,nF,pS,z3⟩:=QD Kx vN;obtain⟨_,ai⟩:=tX aa nF;have av:=yV aa nF;have at0:=aqZ y m ai pS (by omega);have nN:=PC aa ai pS;obtain⟨l,aJ,he⟩:=sZ.1 (rQ.1 nF).1;have bS:=aa.lt l aJ;rcases he with⟨rfl,rfl⟩|⟨rfl,rfl⟩
 ·have ah:w=l.lg:=by
   rw[←(rQ.1 nF).2,qs aa aJ (by simp[kZ])];simp[px]
  have:=(aI l aJ).1 (by omega);omega
 ·have ah:w=l.lp:=by
   have:l.A≠l.B:=by omega
   rw[←(rQ.1 nF).2,qs aa aJ (by simp[kZ])];simp[px,this]
  have:=(aI l aJ).2 (by omega);omega
structure K4(t:bz)(to:Int)(d:List Int):Prop where
 len:d.length=t.bx.length
 val:∀x∈ids t,fT t d x=(dst (iz t) x to).getD 1073741824
def ahk(aa:ff t)(aN:to∈ids t):Ok (Ga t to) (K4 t to):=by
 have aX:t.bx.length≤24:=aa.ug;unfold Ga;refine Ok.jF (by simp;omega) ?_;refine avT (λ(s:cO×Int)=>s.1.length=t.bx.length∧0≤s.2∧s.2≤(t.bx.length:Int)∧∀j:Nat,(j:Int)<s.2→s.1[j]?=((ids t)[j]?).map λy=>if y=to then 0 else 1073741824) (λ(s:cO×Int)=>((t.bx.length:Int)-s.2).toNat) (s:=(List.replicate ((t.bx.length:Int)).toNat (0:Int),(0:Int))) ⟨by simp,Int.le_refl _,by simp,λj aY=>by simp at aY;omega⟩ (by simp;omega) ?_;rintro⟨d,i⟩ b4 ⟨l6,l7,i3,mX⟩ hd;simp only at l6 l7 i3 mX hd ⊢;refine Ok.cs (λh1=>?_) λh1=>?_
 ·have hi:i<d.length:=of_decide_eq_true h1;refine avS (λd2=>d2.length=t.bx.length∧∀j:Nat,(j:Int)<i+1→d2[j]?=((ids t)[j]?).map λy=>if y=to then 0 else 1073741824) (λd2 q0=>?_) λJ ho=>?_
  ·rw[Lt (by omega) (by omega)];exact hd (d2,i+1) ⟨q0.1,by omega,by omega,q0.2⟩ (by simp only;omega)
  refine Ok.aM (q4 l7 (by omega)) λ_ _=>Ok.aM (LI l7 hi) λq6 fv=>Ok.aM (q4 l7 (by omega)) λe he=>?_;have sR:(ids t)[i.toNat]?=some e.cS:=by simp[ids,he.2]
  obtain⟨rfl,jE⟩:=fv
  have Vh:∀(v:Int) (l:cO),l=d.set i.toNat v→v=(if e.cS=to then 0 else 1073741824)→l.length=t.bx.length∧∀j:Nat,(j:Int)<i+1→l[j]?=((ids t)[j]?).map λy=>if y=to then 0 else 1073741824:=by
   rintro v l rfl NU;refine⟨by simpa using l6,λj aY=>?_⟩;rw[List.getElem?_set];by_cases aK:i.toNat=j
   ·subst aK;rw[if_pos rfl,if_pos (by omega),sR,NU];rfl
   ·rw[if_neg aK];exact mX j (by omega)
  refine Ok.cs (λD=>?_) λD=>?_
  ·refine Ok.aM (q4 l7 (by simpa using hi)) λ_ _=>Ok.aM (LI l7 (by simpa using hi)) λku np=>ho ku (Vh 0 ku (by rw[np.1,List.set_set]) (by rw[if_pos (of_decide_eq_true D)]))
  ·exact ho _ (Vh 1073741824 _ rfl (by rw[if_neg (of_decide_eq_false D)]))
 have hi:i=(t.bx.length:Int):=by have:=of_decide_eq_false h1;omega
 subst hi
 have IN:∀x∈ids t,fT t d x=if x=to then 0 else 1073741824:=λx u=>by
  have aF:=Hu u;have:=mX (pf t x) (by omega);rw[show(ids t)[pf t x]?=some x by
   unfold pf;rw[List.getElem?_eq_getElem (List.idxOf_lt_length_of_mem u)];exact congrArg some (getElem_idxOf _)]at this
  unfold fT;rw[getD_eq_getElem?_getD,this];rfl
 have alZ:zx t to d:=⟨l6,λx u=>by rw[IN x u];split<;>omega,λx u h=>by
  rw[IN x u]at h ⊢;split
  ·rename_i e;subst e;exact .nil
  ·rename_i e;rw[if_neg e]at h;omega,by rw[IN to aN,if_pos rfl];exact Int.le_refl _⟩
 have atB:uw t to d≤t.bx.length:=by
  have:=length_filter_le (r7 t to d) (ids t);simpa [uw,ids]using this
 refine avT (λ(s:cO×Int)=>zx t to s.1∧0≤s.2∧s.2≤(t.bx.length:Int)∧(uw t to s.1:Int)+s.2≤(t.bx.length:Int)) (λ(s:cO×Int)=>((t.bx.length:Int)-s.2).toNat) (s:=(d,(0:Int))) ⟨alZ,Int.le_refl _,by simp,by simp;omega⟩ (by simp;omega) ?_;rintro⟨d,round⟩ b4 ⟨a1,cf,e4,kR⟩ hd;simp only at a1 cf e4 kR hd ⊢;refine Ok.cs (λh1=>?_) λh1=>.s ?_
 ·have aI:round<(t.bx.length:Int):=by have:=of_decide_eq_true h1;rw[a1.len]at this;exact this
  refine avX (λp dO=>zx t to dO∧(∀z∈ids t,fT t dO z≤fT t d z)∧∀l∈p,(fT t d l.B<1073741824→fT t dO l.A≤l.lg+fT t d l.B)∧(fT t d l.A<1073741824→fT t dO l.B≤l.lp+fT t d l.A)) ?_ _ ⟨a1,λ_ _=>Int.le_refl _,by simp⟩ ?_
  ·rintro p l r d4 gn jv ⟨gy,cn,mb⟩ sJ;have aJ:l∈t.Links:=by rw[jv];simp
   obtain⟨bk,bK⟩:=GO aa aJ;obtain⟨iM,a2⟩:=tX aa bk;obtain⟨hw,ha,mJ⟩:=Sd aa aN gy bk;obtain⟨dV,eu,s3⟩:=Sd aa aN hw bK;have ak:=QJ (β:=cO) aa gy iM a2 (yV aa bk);have ax:=QJ (β:=cO) aa hw a2 iM (yV aa bK)
   have alJ:=sJ (v2 t (v2 t d4 l.A l.B l.lg) l.B l.A l.lp) ⟨dV,λz hz=>Int.le_trans (eu z hz) (Int.le_trans (ha z hz) (cn z hz)),λm hm=>by
    rcases List.mem_append.1 hm with hm|hm
    ·obtain⟨h0,j7⟩:=mb m hm;have rO:m∈t.Links:=by rw[jv];simp[hm]
     obtain⟨ec,dY⟩:=tX aa (GO aa rO).1;exact⟨λh=>by have:=h0 h;have:=eu _ ec;have:=ha _ ec;omega,λh=>by have:=j7 h;have:=eu _ dY;have:=ha _ dY;omega⟩
    ·rw[List.mem_singleton.1 hm];refine⟨λh=>?_,λh=>?_⟩
     ·have aK:=cn _ a2;have e2:=mJ (by omega);have dj:=eu _ iM;omega
     ·have aK:=cn _ iM;have e2:=ha _ iM;have dj:=s3 (by omega);omega⟩
   rw[QI iM,QI a2];refine Eq.mpr (congrArg (λo=>Ok o (K4 t to)) ?_) alJ;refine(ak _).trans ?_;exact ax _
  ·rintro dO ⟨gy,cn,mb⟩;rw[Lt (by omega) (by omega)];obtain⟨hp,hh⟩:=aaQ aa a1 cn mb;refine hd (dO,round+1) ⟨gy,by omega,by omega,?_⟩ (by simp only;omega);by_cases hz:uw t to d=0
   ·simp only;omega
   ·have:=hh hz;simp only;omega
 ·have aI:round=(t.bx.length:Int):=by have:=of_decide_eq_false h1;rw[a1.len]at this;omega
  have U:uw t to d=0:=by omega
  refine⟨a1.len,λx u=>?_⟩;have wY:r7 t to d x=false:=by
   cases bP:r7 t to d x with
   |false=>rfl
   |true=>
    have:x∈(ids t).filter (r7 t to d):=List.mem_filter.2 ⟨u,bP⟩;have:=length_pos_of_mem this;unfold uw at U;omega
  simp only[r7,decide_eq_false_iff_not]at wY;cases af:dst (iz t) x to with
  |some k=>
   have nN:=PC aa u af;have h1:fT t d x≤k:=by
    by_cases q:fT t d x≤k
    ·exact q
    ·exact absurd ⟨k,af,by omega⟩ wY
   have D:=(nG.1 af).2 _ (a1.DC x u (by omega));simp only[Option.getD_some];omega
  |none=>
   simp only[Option.getD_none];have h1:=a1.le x u;by_cases q:fT t d x<1073741824
   ·exact absurd (a1.DC x u q) ((P9 (rS aa)).1 af _)
   ·omega
open Classical in
noncomputable def gl(t:bz)(a b:Int):jO:=if kP t=0∧a∈ids t∧b∈ids t then dst (iz t) a b else none
def y6(aa:ff t)(aA:a∈ids t)(U:b∈ids t):gl t a b=dst (iz t) a b:=by
 unfold gl;rw[if_pos ⟨rW.2 aa,aA,U⟩]
def p9(h:gl t a b=some k):ff t∧a∈ids t∧b∈ids t∧dst (iz t) a b=some k:=by
 unfold gl at h;split at h
 ·rename_i ah;exact⟨rW.1 ah.1,ah.2.1,ah.2.2,h⟩
 ·cases h
def yW(h:¬(kP t=0∧a∈ids t∧b∈ids t)):gl t a b=none:=by unfold gl;rw[if_neg h]
def GD(h:gl t a b=some k):0≤k∧k≤24000:=by
 obtain⟨aa,aA,U,af⟩:=p9 h;exact PC aa aA af
def Ds(aa:ff t)(aA:a∈ids t):gl t a a=some 0:=by rw[y6 aa aA aA,Sa (rS aa)]
def afm(aa:ff t)(aA:a∈ids t)(U:b∉ids t):dst (iz t) a b=none:=
 (P9 (rS aa)).2 λm hm=>U (hm.ids aa aA)
noncomputable def uk(t:bz)(a b:Int):Int×Bool:=((gl t a b).getD 0,(gl t a b).isSome)
def ako(aa:ff t)(aN:to∈ids t){d:cO}(af:K4 t to d)(x:Int):CR t d x=some ((gl t x to).getD 1073741824):=by
 rw[ahi];by_cases u:x∈ids t
 ·rw[if_pos u,Lv af.len u,af.val x u,y6 aa u aN]
 ·rw[if_neg u,yW λe=>u e.2.1];rfl
def KM{r:Int}:jM t r=decide (r∈ids t):=by
 by_cases h:r∈ids t
 ·rw[decide_eq_true h,sY.1 h]
 ·rw[decide_eq_false h];cases b0:jM t r with
  |false=>rfl
  |true=>exact absurd (sY.2 b0) h
def acA(t:bz)(a b:Int)(k:Bool→Option α):(jn k λJ=>aM (yC t a) λ(ej:Bool)=>bif !ej then J true else aM (yC t b) λ(gz:Bool)=>J (!gz))=k (!decide (kP t=0∧a∈ids t∧b∈ids t)):=by
 simp only[jn];rw[S0,S0,cZ,KM,KM];by_cases h:kP t=0<;>by_cases h1:a∈ids t<;>by_cases D:b∈ids t<;>simp[h,h1,D,aM]
def aa5(t:bz)(a b:Int):F1 t a b=some (uk t a b):=by
 unfold F1;refine(acA t a b _).trans ?_;by_cases h:kP t=0∧a∈ids t∧b∈ids t
 ·have aa:=rW.1 h.1;obtain⟨d,h1,D⟩:=ahk aa h.2.2;rw[decide_eq_true h];simp only[Bool.not_true,cond_false];rw[h1,cZ,ako aa h.2.2 D,cZ];unfold uk;cases af:gl t a b with
  |none=>rfl
  |some k=>
   have:=GD af;simp only[Option.getD_some,Option.isSome_some];rw[decide_eq_false (by omega)];rfl
 ·rw[decide_eq_false h];unfold uk;rw[yW h];rfl
end
section
variable {g:bz}{x:Int}
def acB(aa:ff g){y:Int}(u:x∈ids g)(ai:y∈ids g):(uk g x y).2=true↔gE gp (jW g) x y:=by
 unfold uk;simp only;rw[y6 aa u ai];constructor
 ·intro h;obtain⟨k,hk⟩:=Option.isSome_iff_exists.1 h;exact TF aa (nG.1 hk).1
 ·intro h;obtain⟨m,hm⟩:=ahj aa h;obtain⟨k,hk,_⟩:=LM (rS aa) hm;rw[hk];rfl
def Sy(aa:ff g){a:bQ}(aA:a∈jW g):a.Hop.br∈ids g∧a.Hop.bh∈ids g:=by
 obtain⟨k,hk,h⟩:=GC.1 aA;have:=aa.ends k hk;rcases h with rfl|rfl
 ·exact⟨sY.2 this.1,sY.2 this.2⟩
 ·exact⟨sY.2 this.2,sY.2 this.1⟩
def Lw(aa:ff g)(u:x∈ids g):1≤x∧x≤99:=by
 obtain⟨r,aI,rfl⟩:=List.mem_map.1 u;exact aa.Fu r aI
def CT{A:Type}[DecidableEq A]{a b:List A}(h:a.Nodup)(Z:∀x∈a,x∈b):a.length≤b.length:=by
 induction a generalizing b with
 |nil=>simp
 |cons x a bu=>
  rw[nodup_cons]at h;have u:=Z x (by simp);have:=bu (b:=b.erase x) h.2 λy ai=>(List.mem_erase_of_ne (λe=>h.1 (by rw[←e];exact ai))).2 (Z y (by simp[ai]));rw[length_erase_of_mem u]at this;have:=length_pos_of_mem u;simp only[length_cons];omega
end
section
variable {i:Nat}{α:Type}
def M0(d:α){l:List α}(h:i<l.length):du l (i:Int)=some (l.getD i d):=by
 apply fS;rw[getD_eq_getElem?_getD,List.getElem?_eq_getElem h];rfl
def Sz(d:α){l:List α}(hi:i<l.length)(x:α)(v:Nat):(l.set i x).getD v d=if v=i then x else l.getD v d:=by
 rw[getD_eq_getElem?_getD,getD_eq_getElem?_getD,List.getElem?_set];by_cases h:v=i
 ·subst h;simp[hi]
 ·rw[if_neg h,if_neg λe=>h e.symm]
section tab
variable {V:cO}{L:wu}{cs:List (List Int)}{ts:cO}
end tab
end
section
abbrev BR(l:cO):Bool:=ms (λa b=>decide (a<b)) l
noncomputable def wG(t:bz)(x:g2)(rs:cO):Int:=
 bif !decide (kP t=0)then 1 else bif !decide (wH x=0)then wH x else bif (x.h9::rs).any (λr=>!jM t r)then 4 else bif x.Links.any (λh=>!(mR t h.br h.bh).2)then 4 else bif !BR rs then 25 else bif rs.any (λr=>!decide (r∈zv x))then 9 else 0
def ZT(t:bz)(x:g2)(rs:cO)(u:x.Links.length≤90000)(aI:rs.length≤90000):Fq t x rs=some (wG t x rs):=by
 unfold Fq wG;rw[Gf,cZ];by_cases h:kP t=0
 rotate_left
 ·rw[decide_eq_false h];rfl
 have aa:=rW.1 h;have NO:=aa.ug;have l4:=aa.nl;rw[decide_eq_true h,YL _ (by omega),cZ];simp only[Bool.not_true,cond_false];cases ah:!decide (wH x=0)with
 |true=>rfl
 |false=>
  simp only[cond_false];rw[qD (by simp;omega),cZ]
  refine(uY (λr=>!jM t r) (some 4) (λj r b4 s=>by
   rw[Lb t r (by omega),cZ,decide_eq_true h,Bool.true_and]) _ _ _).trans ?_
  show(bif (x.h9::rs).any (λr=>!jM t r)then some 4 else _)=_;cases(x.h9::rs).any (λr=>!jM t r)with
  |true=>rfl
  |false=>
   simp only[cond_false]
   refine(uY (λe:bO=>!(mR t e.br e.bh).2) (some 4) (λj r b4 s=>by
    rw[RZ t _ _ (by omega),if_pos h,cZ]) _ _ _).trans ?_
   cases x.Links.any (λe=>!(mR t e.br e.bh).2)with
   |true=>rfl
   |false=>
    simp only[cond_false];rw[LL _ (by omega),cZ];cases !ms (λa b:Int=>decide (a<b)) rs with
    |true=>rfl
    |false=>
     simp only[cond_false];rw[aad _ (by omega),cZ];refine(uY (λr=>!decide (r∈zv x)) (some 9) (λj r b4 s=>by rw[KL,cZ]) _ _ _).trans ?_;cases rs.any (λr=>!decide (r∈zv x))<;>rfl
def D0(t:bz)(l:x2):Int:=l.foldl (λn h=>aG (n+(mR t h.br h.bh).1)) 0
noncomputable def H7(t:bz)(x:g2):Int×Int:=bif !decide (wG t x []=0)then(0,wG t x [])else(D0 t x.Links,0)
def SA{α σ β:Type}{B:Int→α→(σ→Option β)→σ→Option β}{K:σ→Option β}(f:σ→α→σ)(c1:∀j x b4 s,B j x b4 s=b4 (f s x)):∀(l:List α) (j:Nat) (s:σ),eE l j B K s=K (l.foldl f s)
 |[],_,_=>rfl
 |x::r,j,s=>by rw[eE,c1,SA f c1 r (j+1)];rfl
def ahm{t:bz}{x:g2}{rs:cO}(h:wG t x rs=0):kP t=0:=by
 by_cases h1:kP t=0
 ·exact h1
 ·unfold wG at h;rw[decide_eq_false h1]at h;cases h
def afn(t:bz)(x:g2)(u:x.Links.length≤90000):FK t x=some (H7 t x):=by
 unfold FK H7;rw[ZT t x [] u (by simp),cZ];by_cases h:wG t x []=0
 ·rw[decide_eq_true h];have ah:=ahm h;have l4:=(rW.1 ah).nl;simp only[Bool.not_true,cond_false];refine(SA (λn (h:bO)=>aG (n+(mR t h.br h.bh).1)) (λj e b4 s=>by rw[RZ t _ _ (by omega),if_pos ah,cZ]) _ _ _).trans ?_;rfl
 ·rw[decide_eq_false h];rfl
def QK{g:bz}(aa:ff g){a:bQ}(aA:a∈jW g):mR g a.Hop.br a.Hop.bh=(a.dn,true):=by
 obtain⟨l,aJ,h⟩:=GC.1 aA;have bS:=aa.lt l aJ;have cA:l.A≠l.B:=by omega
 rcases h with rfl|rfl
 ·show mR g l.A l.B=_;rw[qs aa aJ (by simp[kZ])];simp[px]
 ·show mR g l.B l.A=_;rw[qs aa aJ (by simp[kZ])];simp[px,cA]
def Se{l:cO}(h:l.Pairwise (·<·)):BR l=true:=Av (h.imp λh=>by simpa using h)
def RQ{A:Type}{f:A→Int}:∀(l:List A) (s:Int),(∀x∈l,0≤f x∧f x≤1000)→0≤s→s+1000*(l.length:Int)≤1000000000→l.foldl (λn h=>aG (n+f h)) s=s+(l.map f).sum
 |[],s,_,_,_=>by simp
 |x::r,s,h,bJ,U=>by
  simp only[length_cons]at U;have u:=h x (by simp);rw[foldl_cons,iY (by omega) (by omega),RQ r _ (λy ai=>h y (by simp[ai])) (by omega) (by omega),map_cons,sum_cons];omega
end
section
instance atP:DecidableEq bO:=λa b=>decidable_of_iff (p8 a b=true) (JT a b)
end
section
inductive kW(ay:List bQ)(t:Int):Int→Int→Prop
 |nil:kW ay t t 0
 |cons {a:bQ} {c:Int} (aA:a∈ay) (h:kW ay t a.Hop.bh c):kW ay t a.Hop.br (a.dn+c)
def Tb(m:List (Int×Int))(r c x:Int):ir (bH m r c) x=if x=r then c else ir m x:=by
 unfold ir;rw[lK];split<;>rfl
variable {m:List (Int×Int)}{x:Int}
def yL{c:Int}(h:az m x=some c):ir m x=c:=by unfold ir;rw[h];rfl
def Qc(m:List (Int×Int))(n c:Int):(bH m n c).map Prod.fst=if n∈m.map Prod.fst then m.map Prod.fst else m.map Prod.fst++[n]:=by
 induction m with
 |nil=>simp[bH]
 |cons p r bu=>
  unfold bH;by_cases h:p.1=n
  ·rw[if_pos h];simp[h]
  ·rw[if_neg h,map_cons,bu];have b3:¬n=p.1:=λe=>h e.symm;by_cases D:n∈r.map Prod.fst
   ·rw[if_pos D,if_pos (by simp only[map_cons];exact mem_cons_of_mem _ D)];rfl
   ·rw[if_neg D,if_neg (by simp only[map_cons,mem_cons,not_or];exact⟨b3,D⟩)];rfl
def GF:(az m x).isSome=true↔x∈m.map Prod.fst:=by
 unfold az;rw[Option.isSome_map,List.find?_isSome];simp
structure sq(ay:List bQ)(t:Int)(m:List (Int×Int)):Prop where
 zero:az m t=some 0
 wa:∀x c,az m x=some c→kW ay t x c
 nd:(m.map Prod.fst).Nodup
 key:∀x∈m.map Prod.fst,x=t∨∃a∈ay,a.Hop.br=x
 le:∀x c,az m x=some c→c≤1000000*((m.length:Int)-1)
variable {ay:wu}{t:Int}
def kW.rX(aA:qf ay){c:Int}(h:kW ay t x c):0≤c:=by
 induction h with
 |nil=>omega
 |cons hm _ bu=>have:=(aA _ hm).1;omega
def sq.len(h:sq ay t m):m.length≤ay.length+1:=by
 have:=CT (a:=m.map Prod.fst) (b:=t::ay.map (·.Hop.br)) h.nd λx u=>by
  rcases h.key x u with rfl|⟨a,aA,rfl⟩
  ·simp
  ·exact mem_cons_of_mem _ (List.mem_map.2 ⟨a,aA,rfl⟩)
 simpa using this
def sq.bd(aA:qf ay)(aJ:ay.length≤100000)(h:sq ay t m)(x:Int):0≤ir m x∧ir m x≤2305843009213693951:=by
 unfold ir;cases u:az m x with
 |none=>simp
 |some c=>
  have h1:=(h.wa x c u).rX aA;have D:=h.le x c u;have aq:=h.len;simp only[Option.getD_some];omega
def sq.step(aA:qf ay)(aJ:ay.length≤100000)(h:sq ay t m){a:bQ}(hm:a∈ay)(bS:a.dn+ir m a.Hop.bh<ir m a.Hop.br):sq ay t (bH m a.Hop.br (a.dn+ir m a.Hop.bh)):=by
 obtain⟨kX,bk⟩:=aA a hm;have aT:∃c,az m a.Hop.bh=some c:=by
  cases u:az m a.Hop.bh with
  |none=>
   have:ir m a.Hop.bh=2305843009213693951:=by unfold ir;rw[u];rfl
   have:=(h.bd aA aJ a.Hop.br).2;omega
  |some c=>exact⟨c,rfl⟩
 obtain⟨c,ah⟩:=aT;have e:=yL ah;rw[e]at bS ⊢;have av:=h.wa _ _ ah;have No:=av.rX aA
 have NB:t≠a.Hop.br:=λhe=>by
  have:ir m a.Hop.br=0:=by rw[←he];exact yL h.zero
  omega
 have eH:(bH m a.Hop.br (a.dn+c)).length=if a.Hop.br∈m.map Prod.fst then m.length else m.length+1:=by
  have:=congrArg List.length (Qc m a.Hop.br (a.dn+c));rw[length_map]at this;rw[this];split<;>simp
 refine⟨?_,λx k u=>?_,?_,λx u=>?_,λx k u=>?_⟩
 ·rw[lK,if_neg NB];exact h.zero
 ·rw[lK]at u;split at u
  ·rename_i Fk;subst Fk;cases u;exact .cons hm av
  ·exact h.wa x k u
 ·rw[Qc];split
  ·exact h.nd
  ·rename_i aX;rw[nodup_append];exact⟨h.nd,by simp,λx u y ai nu=>by simp at ai;subst ai;subst nu;exact aX u⟩
 ·rw[Qc]at u;split at u
  ·exact h.key x u
  ·rcases List.mem_append.1 u with u|u
   ·exact h.key x u
   ·simp at u;subst u;exact .inr ⟨a,hm,rfl⟩
 ·rw[eH];rw[lK]at u;have vK:1≤m.length:=by
   have:=GF.1 (show(az m t).isSome=true by rw[h.zero];rfl);have:=length_pos_of_mem this;rw[length_map]at this;omega
  split at u
  ·rename_i Fk;subst Fk
   cases u;split
   ·rename_i hk;obtain⟨er,pF⟩:=Option.isSome_iff_exists.1 (GF.2 hk);have:=h.le _ _ pF;rw[yL pF]at bS;omega
   ·have:=h.le _ _ ah
    push_cast
    omega
  ·have:=h.le x k u;split<;>push_cast<;>omega
def rz(ay:wu)(m:List (Int×Int)):Nat:=(ay.map λa=>(ir m a.Hop.br).toNat).sum
def TG{m ig:List (Int×Int)}(h:∀x,ir ig x≤ir m x):∀ay:wu,rz ay ig≤rz ay m
 |[]=>Nat.le_refl _
 |a::r=>by
  have h1:=TG h r;have D:=h a.Hop.br;unfold rz at h1 ⊢;simp only[map_cons,sum_cons];omega
def TH{m ig:List (Int×Int)}(h:∀x,ir ig x≤ir m x){a:bQ}(bJ:0≤ir ig a.Hop.br)(bS:ir ig a.Hop.br<ir m a.Hop.br):∀{ay:wu},a∈ay→rz ay ig<rz ay m
 |[],aA=>by cases aA
 |b::r,aA=>by
  have D:=h b.Hop.br;rcases mem_cons.1 aA with rfl|aA
  ·have h1:=TG h r;unfold rz at h1 ⊢;simp only[map_cons,sum_cons];omega
  ·have h1:=TH h bJ bS aA;unfold rz at h1 ⊢;simp only[map_cons,sum_cons];omega
def Lx{ay:wu}(aA:qf ay)(aJ:ay.length≤100000){t:Int}:∀(l:wu) (m:List (Int×Int)) (b:Bool),(∀a∈l,a∈ay)→sq ay t m→
  sq ay t (l.foldl qG (m,b)).1∧rz ay (l.foldl qG (m,b)).1≤rz ay m∧(∀x,ir (l.foldl qG (m,b)).1 x≤ir m x)∧
  ((l.foldl qG (m,b)).2=true→b=true∨rz ay (l.foldl qG (m,b)).1<rz ay m)∧((l.foldl qG (m,b)).2=false→b=false∧(l.foldl qG (m,b)).1=m∧∀a∈l,ir m a.Hop.br≤a.dn+ir m a.Hop.bh)
 |[],m,b,_,h=>⟨h,Nat.le_refl _,λ_=>Int.le_refl _,λh=>.inl h,λh=>⟨h,rfl,λa aA=>by cases aA⟩⟩
 |a::r,m,b,Z,h=>by
  have hm:=Z a mem_cons_self;rw[foldl_cons];by_cases bS:a.dn+ir m a.Hop.bh<ir m a.Hop.br
  ·rw[show qG (m,b) a=(bH m a.Hop.br (a.dn+ir m a.Hop.bh),true)from if_pos bS];have b3:=h.step aA aJ hm bS
   have hle:∀x,ir (bH m a.Hop.br (a.dn+ir m a.Hop.bh)) x≤ir m x:=λx=>by
    rw[Tb];split
    ·rename_i u;subst u;omega
    ·omega
   have IG:rz ay (bH m a.Hop.br (a.dn+ir m a.Hop.bh))<rz ay m:=TH hle (b3.bd aA aJ _).1 (by rw[Tb,if_pos rfl];exact bS) hm;obtain⟨l6,l7,i3,mX,w5⟩:=Lx aA aJ r _ true (λa aA=>Z a (mem_cons_of_mem _ aA)) b3;exact⟨l6,by omega,λx=>Int.le_trans (i3 x) (hle x),λ_=>.inr (by omega),λbA=>by have:=(w5 bA).1;cases this⟩
  ·rw[show qG (m,b) a=(m,b)from if_neg bS];obtain⟨l6,l7,i3,mX,w5⟩:=Lx aA aJ r m b (λa aA=>Z a (mem_cons_of_mem _ aA)) h;refine⟨l6,l7,i3,mX,λbA=>?_⟩;obtain⟨a1,cf,e4⟩:=w5 bA;refine⟨a1,cf,λx u=>?_⟩;rcases mem_cons.1 u with rfl|u
   ·omega
   ·exact e4 x u
def TI{ay:wu}(aA:qf ay)(aJ:ay.length≤100000){t:Int}:∀(k:Nat) (m:List (Int×Int)),rz ay m<k→sq ay t m→∃n,tv ay m n∧sq ay t n∧∀a∈ay,ir n a.Hop.br≤a.dn+ir n a.Hop.bh
 |0,m,h,_=>absurd h (by omega)
 |k+1,m,h,fs=>by
  obtain⟨l6,l7,i3,mX,w5⟩:=Lx aA aJ (t:=t) ay m false (λa aA=>aA) fs;cases U:(y4 ay m).2 with
  |false=>exact⟨m,.done U,fs,(w5 U).2.2⟩
  |true=>
   rcases mX U with b3|b3
   ·cases b3
   ·obtain⟨n,h1,D,aq⟩:=TI aA aJ k (y4 ay m).1 (by show rz ay (ay.foldl qG (m,false)).1<k;omega) l6;exact⟨n,.more U h1,D,aq⟩
structure Bs(ay:List bQ)(t:Int)(n:List (Int×Int)):Prop where
 ck:sq ay t n
 fix:∀a∈ay,ir n a.Hop.br≤a.dn+ir n a.Hop.bh
def ZR(aA:qf ay)(aJ:ay.length≤100000)(t:Int):Ok (zM ay t) (Bs ay t):=by
 have bJ:sq ay t [(t,0)]:=by
  have bw:∀x c,az [(t,(0:Int))] x=some c→x=t∧c=0:=λx c h=>by
   rw[kD]at h;split at h
   ·rename_i e;cases h;exact⟨e.symm,rfl⟩
   ·simp[az]at h
  refine⟨by rw[kD,if_pos rfl],λx c h=>?_,by simp,λx u=>.inl (by simpa using u),λx c h=>?_⟩
  ·obtain⟨rfl,rfl⟩:=bw x c h;exact .nil
  ·obtain⟨_,rfl⟩:=bw x c h;simp
 obtain⟨n,h1,D,aq⟩:=TI aA aJ _ _ (Nat.lt_succ_self _) bJ;exact⟨n,ZV aA h1,D,aq⟩
def Bs.least(aA:qf ay)(aJ:ay.length≤100000){n:List (Int×Int)}(h:Bs ay t n){c:Int}(av:kW ay t x c):∃k,az n x=some k∧k≤c:=by
 induction av with
 |nil=>exact⟨0,h.ck.zero,Int.le_refl _⟩
 |@cons a c hm _ bu=>
  obtain⟨k,h1,D⟩:=bu;have aq:=h.fix a hm;rw[yL h1]at aq;have aZ:=h.ck.le _ _ h1;have bV:=h.ck.len;have dU:=(aA a hm).2;cases u:az n a.Hop.br with
  |none=>
   have:ir n a.Hop.br=2305843009213693951:=by unfold ir;rw[u];rfl
   omega
  |some er=>
   rw[yL u]at aq;exact⟨er,rfl,by omega⟩
end
section
def xk{x:Int}:∀{l:cO},x∈hn l↔x∈l
 |[]=>Iff.rfl
 |y::r=>by
  have bu:x∈hn r↔x∈r:=xk;unfold hn;split
  ·rename_i h;rw[h]at bu;rw[List.mem_singleton,mem_cons];exact⟨λe=>.inl e,λe=>e.elim id λb3=>absurd (bu.2 b3) (by simp)⟩
  ·rename_i z s h;rw[h]at bu;split
   ·rename_i e;subst e
    rw[bu,mem_cons];refine⟨.inr,λb3=>b3.elim (λe=>?_) id⟩;subst e;exact bu.1 mem_cons_self
   ·rw[mem_cons,bu,mem_cons]
def RI:∀{l:cO},l.Pairwise (·≤·)→(hn l).Pairwise (·<·)
 |[],_=>Pairwise.nil
 |x::r,h=>by
  rw[pairwise_cons]at h;have bu:=RI h.2;unfold hn;split
  ·simp
  ·rename_i y s e;rw[e]at bu;split
   ·exact bu
   ·rename_i cA;have ai:∀z∈y::s,x≤z:=λz hz=>h.1 z (xk.1 (by rw[e];exact hz));rw[pairwise_cons];refine⟨λz hz=>?_,bu⟩;have h1:=ai y mem_cons_self;rcases mem_cons.1 hz with rfl|hz
    ·omega
    ·have:=(pairwise_cons.1 bu).1 z hz;omega
def yM{x:Int}{l:cO}:x∈fW l↔x∈l:=(yE l).mem_iff
def ux(n:List (Int×Int))(b:Int):cO:=(fW (n.map Prod.fst)).filter λy=>decide ((az n y).getD 0≤b)
def k1(n:List (Int×Int))(e:Int):cO→wz
 |[]=>[]
 |[_]=>[]
 |b::c::r=>if e≤b then[]else cu.mk (ux n b) ((if e<c then e else c)-b)::k1 n e (c::r)
def nO(aR w:Int)(c:cu):Int:=if w∈c.bx∧aR∉c.bx then c.Value else 0
def lR(l:wz)(aR w:Int):Int:=(l.map (nO aR w)).sum
def nU(l:wz):Int:=(l.map (·.Value)).sum
def lS(n:List (Int×Int)):cO:=hn (fW (n.map Prod.snd))
def RR{n:List (Int×Int)}{x c:Int}(h:az n x=some c):c∈n.map Prod.snd:=by
 unfold az at h;rw[Option.map_eq_some_iff]at h;obtain⟨p,h1,D⟩:=h;exact List.mem_map.2 ⟨p,List.mem_of_find?_eq_some h1,D⟩
def Ks{n:List (Int×Int)}(aX:(n.map Prod.fst).Nodup){c:Int}(h:c∈n.map Prod.snd):∃x,az n x=some c:=by
 obtain⟨p,aF,rfl⟩:=List.mem_map.1 h;refine⟨p.1,?_⟩;induction n with
 |nil=>cases aF
 |cons q r bu=>
  rw[kD];rw[map_cons,nodup_cons]at aX;rcases mem_cons.1 aF with rfl|aF
  ·rw[if_pos rfl]
  ·have:¬q.1=p.1:=λe=>aX.1 (by rw[e];exact List.mem_map.2 ⟨p,aF,rfl⟩);rw[if_neg this];exact bu aX.2 aF (List.mem_map.2 ⟨p,aF,rfl⟩)
def Dd{n:List (Int×Int)}{b y:Int}:y∈ux n b↔∃k,az n y=some k∧k≤b:=by
 unfold ux;rw[List.mem_filter,yM,←GF];constructor
 ·rintro⟨h1,D⟩;obtain⟨k,hk⟩:=Option.isSome_iff_exists.1 h1;rw[hk]at D;exact⟨k,hk,by simpa using D⟩
 ·rintro⟨k,hk,h⟩;rw[hk];exact⟨rfl,by simpa using h⟩
def acC{n:List (Int×Int)}(aX:(n.map Prod.fst).Nodup)(b:Int):(ux n b).Pairwise (·<·):=by
 unfold ux;refine Pairwise.filter _ ?_;have h1:=CN (n.map Prod.fst);have D:(fW (n.map Prod.fst)).Nodup:=(yE _).nodup_iff.2 aX;refine(h1.and D).imp λ{a b} h=>?_;obtain⟨aq,aZ⟩:=h;have:a≠b:=aZ;omega
def rA(x:Int):Int:=if 0<x then x else 0
def mH(a b:Int):Int:=if b<a then b else a
def RS{n:List (Int×Int)}{e aR w nj nk:Int}(hu:az n aR=some nj)(av:az n w=some nk):∀(b:Int) (r:cO),(b::r).Pairwise (·<·)→(e≤b∨e∈r)→(nj≤b∨nj∈r)→(nk≤b∨nk∈r)→
  lR (k1 n e (b::r)) aR w=rA (mH nj e-(if mH nk e<b then b else mH nk e))
 |b,[],_,he,Nv,Nw=>by
  simp only[not_mem_nil,or_false]at he;show(0:Int)=_;unfold rA mH
  repeat' split
  all_goals omega
 |b,c::r,aF,he,Nv,Nw=>by
  have p3:=pairwise_cons.1 aF;have Ix:=p3.1 c mem_cons_self;have W9:=(pairwise_cons.1 p3.2).1
  have TJ:∀x:Int,(x≤b∨x∈c::r)→x≤b∨c≤x:=λx u=>u.imp id λh=>by
   rcases mem_cons.1 h with rfl|h
   ·exact Int.le_refl _
   ·have:=W9 x h;omega
  have next:∀x:Int,(x≤b∨x∈c::r)→x≤c∨x∈r:=λx u=>by
   rcases u with h|h
   ·left;omega
   ·rcases mem_cons.1 h with rfl|h
    ·left;exact Int.le_refl _
    ·exact .inr h
  have bu:=RS hu av c r p3.2 (next e he) (next nj Nv) (next nk Nw);have dV:=TJ nj Nv;have eu:=TJ nk Nw;unfold k1;by_cases U:e≤b
  ·rw[if_pos U];show(0:Int)=_;unfold rA mH
   repeat' split
   all_goals omega
  ·rw[if_neg U];have fM:nO aR w (cu.mk (ux n b) ((if e<c then e else c)-b))=if nk≤b∧b<nj then(if e<c then e else c)-b else 0:=by
    unfold nO;have h1:w∈ux n b↔nk≤b:=by rw[Dd,av];simp
    have D:aR∈ux n b↔nj≤b:=by rw[Dd,hu];simp
    simp only[h1,D,Int.not_le]
   show(nO aR w _+lR (k1 n e (c::r)) aR w)=_;rw[fM,bu];unfold rA mH
   repeat' split
   all_goals omega
def RT{n:List (Int×Int)}{e:Int}:∀(b:Int) (r:cO),(b::r).Pairwise (·<·)→(e≤b∨e∈r)→nU (k1 n e (b::r))=rA (e-b)
 |b,[],_,he=>by
  simp only[not_mem_nil,or_false]at he;show(0:Int)=_;unfold rA;split<;>omega
 |b,c::r,aF,he=>by
  have p3:=pairwise_cons.1 aF;have Ix:=p3.1 c mem_cons_self;have W9:=(pairwise_cons.1 p3.2).1;have sO:e≤c∨e∈r:=by
   rcases he with h|h
   ·left;omega
   ·rcases mem_cons.1 h with rfl|h
    ·left;exact Int.le_refl _
    ·exact .inr h
  have bu:=RT (n:=n) c r p3.2 sO;unfold k1;by_cases U:e≤b
  ·rw[if_pos U];show(0:Int)=_;unfold rA;split<;>omega
  ·rw[if_neg U];show(((if e<c then e else c)-b)+nU (k1 n e (c::r)))=_;rw[bu];unfold rA
   repeat' split
   all_goals omega
def LA{n:List (Int×Int)}{e:Int}:∀(l:cO),l.Pairwise (·<·)→∀c∈k1 n e l,∃b∈l,b<e∧c.bx=ux n b∧1≤c.Value∧c.Value≤e-b
 |[],_,c,h=>by cases h
 |[_],_,c,h=>by cases h
 |b::aS::r,aF,c,h=>by
  have p3:=pairwise_cons.1 aF;have Ix:=p3.1 aS mem_cons_self;unfold k1 at h;split at h
  ·cases h
  ·rcases mem_cons.1 h with rfl|h
   ·refine⟨b,mem_cons_self,by omega,rfl,?_,?_⟩
    ·show 1≤(if e<aS then e else aS)-b;split<;>omega
    ·show(if e<aS then e else aS)-b≤e-b;split<;>omega
   ·obtain⟨x,h1,D⟩:=LA (aS::r) p3.2 c h;exact⟨x,mem_cons_of_mem _ h1,D⟩
def RU{n:List (Int×Int)}{e:Int}:∀(l:cO),(k1 n e l).length≤l.length
 |[]=>Nat.le_refl _
 |[_]=>Nat.zero_le _
 |b::aS::r=>by
  unfold k1;split
  ·exact Nat.zero_le _
  ·have:=RU (n:=n) (e:=e) (aS::r);simp only[length_cons]at this ⊢;omega
end
section
def RV{α β:Type}{L:List α}(g:α→α){B:Int→α→(List α→Option β)→List α→Option β}{K:List α→Option β}
  (c1:∀(p:List α) x r b4,x∈L→(p++x::r).length≤L.length→B (p.length:Int) x b4 (p.map g++x::r)=b4 (p.map g++g x::r)) :
  ∀(l p:List α),p++l=L→eE l p.length B K (p.map g++l)=K (L.map g)
 |[],p,h=>by
  rw[append_nil]at h;subst h
  show K _=_;rw[append_nil]
 |x::r,p,h=>by
  show B (p.length:Int) x (λs=>eE r (p.length+1) B K s) (p.map g++x::r)=_;rw[c1 p x r _ (by rw[←h];simp) (by rw[←h];exact Nat.le_refl _)];have:=RV (K:=K) g c1 r (p++[x]) (by rw[←h];simp);rw[length_append,List.map_append,List.append_assoc]at this;exact this
def Qd{α β:Type}(q:α→Bool){B:Int→α→(List α→Option β)→List α→Option β}{K:List α→Option β}
  (c1:∀j x b4 s,s.length≤200000→B j x b4 s=b4 (if q x then s++[x]else s)):∀(l:List α) (j:Nat) (s:List α),s.length+l.length≤200000→eE l j B K s=K (s++l.filter q)
 |[],j,s,h=>by
  show K _=_;rw[filter_nil,append_nil]
 |x::r,j,s,h=>by
  rw[length_cons]at h;show B (j:Int) x (λs=>eE r (j+1) B K s) s=_;rw[c1 _ _ _ _ (by omega)];by_cases bP:q x=true
  ·rw[if_pos bP,Qd q c1 r (j+1) _ (by rw[length_append,length_singleton];omega),filter_cons,if_pos bP,List.append_assoc];rfl
  ·rw[if_neg bP,Qd q c1 r (j+1) _ (by omega),filter_cons,if_neg bP]
def kM(l:wz)(a:bQ):bQ:=bQ.mk a.Hop (a.dn-lR l a.Hop.br a.Hop.bh)
def Qe{ay:wu}(aA:qf ay){t:Int}{n:List (Int×Int)}(h:Bs ay t n):∃r,lS n=0::r∧(lS n).Pairwise (·<·):=by
 have aF:(lS n).Pairwise (·<·):=RI (CN _);have bJ:(0:Int)∈lS n:=xk.2 (yM.2 (RR h.ck.zero));cases U:lS n with
 |nil=>rw[U]at bJ;cases bJ
 |cons b r=>
  rw[U]at bJ aF;have fu:b∈n.map Prod.snd:=by
   have:b∈lS n:=by rw[U];exact mem_cons_self
   exact yM.1 (xk.1 this)
  obtain⟨x,u⟩:=Ks h.ck.nd fu;have sL:=(h.ck.wa x b u).rX aA;rcases mem_cons.1 bJ with e|e
  ·exact⟨r,by rw[←e],by rw[←e]at aF ⊢;exact aF⟩
  ·have:=(pairwise_cons.1 aF).1 0 e;omega
def LB{n:List (Int×Int)}{x c:Int}(h:az n x=some c):c∈lS n:=xk.2 (yM.2 (RR h))
def TK{ay:wu}(aA:qf ay){t:Int}{n:List (Int×Int)}(h:Bs ay t n){root e:Int}(he:az n root=some e){aR w nj nk:Int}(hu:az n aR=some nj)(av:az n w=some nk):
  lR (k1 n e (lS n)) aR w=rA (mH nj e-mH nk e):=by
 obtain⟨r,aI,aF⟩:=Qe aA h;have h1:=(h.ck.wa _ _ he).rX aA;have D:=(h.ck.wa _ _ av).rX aA
 have m:∀{x c:Int},az n x=some c→c≤0∨c∈r:=λ{x c} u=>by
  have:=LB u;rw[aI]at this;rcases mem_cons.1 this with h|h
  ·left;omega
  ·exact .inr h
 rw[aI]at aF ⊢;rw[RS hu av 0 r aF (m he) (m hu) (m av)];have:¬mH nk e<0:=by unfold mH;split<;>omega
 rw[if_neg this]
def RW{n:List (Int×Int)}{e aR w:Int}(av:az n w=none)(l:cO)(aJ:l.Pairwise (·<·)):lR (k1 n e l) aR w=0:=by
 unfold lR
 have:∀c∈k1 n e l,nO aR w c=0:=λc ah=>by
  obtain⟨b,_,_,h,_⟩:=LA l aJ c ah;unfold nO;rw[if_neg];rw[h,Dd,av];rintro⟨⟨k,hk,_⟩,_⟩;cases hk
 rw[List.map_congr_left this];generalize k1 n e l=q;induction q with
 |nil=>rfl
 |cons x r bu=>rw[map_cons,sum_cons,bu];rfl
structure Wk(ay:List bQ)(root x:Int)(p:List cu×List bQ):Prop where
 ex:∃n e,Bs ay x n∧az n root=some e∧p.1=k1 n e (lS n)∧p.2=ay.map (kM p.1)
def aaR{ay:wu}(aA:qf ay)(aJ:ay.length≤1000){root x c:Int}(av:kW ay x root c):Ok (CC ay root x) (Wk ay root x):=by
 unfold CC;refine Ok.aM (ZR aA (by omega) x) λn aX=>?_;obtain⟨e,he,_⟩:=aX.least aA (by omega) av;have eH:=aX.ck.len;have amJ:(az n root).getD 0=e:=by rw[he];rfl
 have jh:(fW (n.map Prod.snd)).length=n.length:=by rw[OS,length_map]
 have Xp:(fW (n.map Prod.fst)).length=n.length:=by rw[OS,length_map]
 refine Ok.jF (decide_eq_true (by omega)) (Ok.jF (decide_eq_true (by omega)) ?_);rw[amJ];have rM:(lS n).length≤n.length:=by
  have:∀l:cO,(hn l).length≤l.length:=by
   intro l;induction l with
   |nil=>exact Nat.le_refl _
   |cons x r bu=>
    unfold hn;split
    ·simp
    ·rename_i y t e;rw[e]at bu;split<;>simp at bu ⊢<;>omega
  have:=this (fW (n.map Prod.snd));show(hn (fW (n.map Prod.snd))).length≤_;omega
 have p4:∀{x c:Int},az n x=some c→0≤c∧c≤1100000000:=λ{x c} u=>⟨(aX.ck.wa x c u).rX aA,by have:=aX.ck.le x c u;omega⟩;obtain⟨atU,Xj,H8⟩:=Qe aA aX;refine avS (λcw=>cw=k1 n e (lS n)) ?_ ?_
 ·rintro cw rfl;refine⟨(k1 n e (lS n),ay.map (kM (k1 n e (lS n)))),?_,⟨⟨n,e,aX,he,rfl,rfl⟩⟩⟩;refine RV (kM (k1 n e (lS n))) ?_ ay [] rfl;intro p a r b4 hm oW;have sP:du (p.map (kM (k1 n e (lS n)))++a::r) (p.length:Int)=some a:=fS (by rw[List.getElem?_append_right (by simp)];simp)
  have vL:∀b,jC (p.map (kM (k1 n e (lS n)))++a::r) (p.length:Int) b=some (p.map (kM (k1 n e (lS n)))++b::r):=λb=>by
   unfold jC;rw[if_pos ⟨by omega,by simp;omega⟩,Int.toNat_natCast,List.set_append_right _ _ (by simp)];simp
  unfold jn;rw[sP];simp only[cZ];obtain⟨kX,bk⟩:=aA a hm;cases aT:az n a.Hop.bh with
  |none=>
   simp only[Option.isSome_none,Bool.and_false,cond_false];have:kM (k1 n e (lS n)) a=a:=by unfold kM;rw[RW aT _ H8,Int.sub_zero]
   rw[this]
  |some nk=>
   have lq:∃nj,az n a.Hop.br=some nj:=by
    have h1:=aX.fix a hm;rw[yL aT]at h1;have:=(p4 aT).2;cases u:az n a.Hop.br with
    |none=>
     have:ir n a.Hop.br=2305843009213693951:=by unfold ir;rw[u];rfl
     omega
    |some k=>exact⟨k,rfl⟩
   obtain⟨nj,lq⟩:=lq;obtain⟨YA,h0⟩:=p4 lq;obtain⟨w0,hP⟩:=p4 aT;obtain⟨l0,aK⟩:=p4 he;rw[lq];simp only[Option.isSome_some,Bool.and_self,cond_true,Option.getD_some];rw[vL,cZ];have:∀v:Int,-1100000000≤v→v≤1100000000→aG v=v:=λv h1 D=>iY (by omega) (by omega);have af:aG ((if e<nj then e else nj)-(if e<nk then e else nk))=mH nj e-mH nk e:=by
    unfold mH;refine this _ ?_ ?_<;>(repeat' split)<;>omega
   rw[af];have Cv:(if mH nj e-mH nk e>0 then mH nj e-mH nk e else 0)=rA (mH nj e-mH nk e):=rfl;rw[Cv];have U:0≤rA (mH nj e-mH nk e)∧rA (mH nj e-mH nk e)≤1100000000:=by
    unfold rA mH
    repeat' split
    all_goals omega
   rw[iY (by omega) (by omega)];unfold kM;rw[TK aA aX he lq aT]
 ·intro J ho
  have key:∀{β:Type} (J:wz→Option β) (B:Int→Int→(wz→Option β)→wz→Option β),
    (∀(pre:cO) b r b4 (cw:wz),lS n=pre++b::r→cw.length≤100000→(e≤b∨e∈r)→B (pre.length:Int) b b4 cw=if e≤b then J cw else match r with|[]=>none|c::_=>b4 (cw++[cu.mk (ux n b) ((if e<c then e else c)-b)]))→
    ∀(xN pre:cO) (cw:wz),lS n=pre++xN→cw.length+xN.length≤100000→(∀b r,xN=b::r→e≤b∨e∈r)→(∀b r,xN=b::r→∀y∈r,b<y)→xN.Pairwise (·<·)→
    eE xN pre.length B (λi6=>J i6) cw=J (cw++k1 n e xN):=by
   intro β J B c1 xN;induction xN with
   |nil=>intro pre cw _ _ _ _ _;show J cw=_;rw[show k1 n e []=[]from rfl,append_nil]
   |cons b r bu=>
    intro pre cw Ah eH sO bS aF;rw[length_cons]at eH;show B (pre.length:Int) b (λs=>eE r (pre.length+1) B (λi6=>J i6) s) cw=_;rw[c1 pre b r _ cw Ah (by omega) (sO b r rfl)];by_cases U:e≤b
    ·rw[if_pos U];cases r with
     |nil=>rw[show k1 n e [b]=[]from rfl,append_nil]
     |cons c r=>rw[show k1 n e (b::c::r)=[]from if_pos U,append_nil]
    ·rw[if_neg U];cases r with
     |nil=>rcases sO b [] rfl with h|h;exact absurd h U;cases h
     |cons c r=>
      have p3:=pairwise_cons.1 aF
      have:=bu (pre++[b]) (cw++[cu.mk (ux n b) ((if e<c then e else c)-b)]) (by rw[Ah];simp) (by rw[length_append,length_singleton];omega) (λaS r' h=>by
       cases h;rcases sO b (c::r) rfl with h|h
       ·exact absurd h U
       ·rcases mem_cons.1 h with rfl|h
        ·left;exact Int.le_refl _
        ·exact .inr h) (λaS r' h y ai=>by cases h;exact(pairwise_cons.1 p3.2).1 y ai) p3.2
      rw[length_append]at this;rw[show k1 n e (b::c::r)=cu.mk (ux n b) ((if e<c then e else c)-b)::k1 n e (c::r)from if_neg U];rw[List.append_assoc]at this;exact this
  obtain⟨l0,aK⟩:=p4 he;have p2:=LB he;rw[Xj]at p2;refine Eq.mpr (congrArg (λz=>Ok z _) (key J _ ?_ (lS n) [] [] rfl (by rw[length_nil];omega) (λb r h=>?_) (λb r h=>?_) H8)) (ho _ rfl)
  rotate_left
  ·rw[Xj]at h;cases h
   rcases mem_cons.1 p2 with h|h
   ·left;omega
   ·exact .inr h
  ·rw[h]at H8;exact(pairwise_cons.1 H8).1
  ·intro pre b r b4 cw Ah qz Nx;have atD:0≤b∧b≤1100000000:=by
    have:b∈lS n:=by rw[Ah];simp
    obtain⟨y,ai⟩:=Ks aX.ck.nd (yM.1 (xk.1 this));exact p4 ai
   by_cases U:e≤b
   ·rw[if_pos U,decide_eq_true U,cond_true]
   ·rw[if_neg U,decide_eq_false U,cond_false];cases r with
    |nil=>rcases Nx with h|h;exact absurd h U;cases h
    |cons c r=>
     have oW:pre.length≤100000:=by
      have:=congrArg List.length Ah;rw[length_append]at this;omega
     have atE:0≤c∧c≤1100000000:=by
      have:c∈lS n:=by rw[Ah];simp
      obtain⟨y,ai⟩:=Ks aX.ck.nd (yM.1 (xk.1 this));exact p4 ai
     have sP:du (lS n) (aG ((pre.length:Int)+(1:Int)))=some c:=by
      rw[iY (by omega) (by omega),show(pre.length:Int)+1=((pre.length+1:Nat):Int)by omega];refine fS ?_;rw[Ah,List.getElem?_append_right (by omega),show pre.length+1-pre.length=1 by omega];rfl
     have amC:du (hn (fW (n.map Prod.snd))) (aG ((pre.length:Int)+(1:Int)))=some c:=sP;rw[amC,cZ,akj (decide_eq_true (by omega)),Qd (λy=>decide ((az n y).getD 0≤b)) (λj y b4 s Z=>?_) _ _ _ (by rw[length_nil];omega)]
     ·rw[qD (by simp;omega),cZ,iY (by split<;>omega) (by split<;>omega)];rfl
     ·unfold jn;by_cases ai:(az n y).getD 0≤b
      ·simp only[decide_eq_true ai,cond_true,qD (show s.length+[y].length≤549755813888 by simp;omega),cZ];rfl
      ·simp only[decide_eq_false ai,cond_false];rfl
end
section
def akq{t:bz}(aa:ff t){g:sA}(bw:Ho t g)(a:Int):∃l,vu g.mZ a=some l∧∀x,az l x=gl t a x:=by
 by_cases aA:a∈ids t
 ·obtain⟨l,h1,_,D,_⟩:=Wj bw.fw aA;refine⟨l,h1,λx=>?_⟩;rw[D];by_cases u:x∈ids t
  ·rw[y6 aa aA u]
  ·rw[yW (λh=>u h.2.2),afm aa aA u]
 ·refine⟨[],Sw ?_,λx=>by rw[yW (λh=>aA h.2.1)];rfl⟩;have:=bw.fw.keys a;cases h:(az g.mZ a).isSome with
  |false=>rfl
  |true=>exact absurd (this.1 h) aA
def RJ(t:bz)(a b:Int):FT t a b=some (uk t a b):=by
 unfold FT yc;rw[Gf,cZ];by_cases h:kP t=0
 ·have aa:=rW.1 h;obtain⟨g,h1,D⟩:=Sx aa;obtain⟨l,aq,aZ⟩:=akq aa D a;rw[decide_eq_true h,cZ,h1,cZ,aq,cZ,aZ];rfl
 ·rw[decide_eq_false h];unfold uk;rw[yW λe=>h e.1];rfl
def akr{g:bz}(aa:ff g){a x m:Int}(h:iq (iz g) a x m):∀{t k:Int},kW (jW g) t x k→kW (jW g) t a (m+k):=by
 induction h with
 |nil=>intro t k av;rw[Int.zero_add];exact av
 |@snoc x b m er _ hk bu=>
  intro t k av;have:=bu (kW.cons (a:=bQ.mk (bO.mk x b) er) ((vY aa).1 hk) av);rw[Int.add_assoc];exact this
def agY{g:bz}(aa:ff g){t x c:Int}(h:kW (jW g) t x c):∃k,dst (iz g) x t=some k∧k≤c:=by
 induction h with
 |nil=>exact⟨0,Sa (rS aa) _,Int.le_refl _⟩
 |@cons a c aA _ bu=>
  obtain⟨k,h1,D⟩:=bu;obtain⟨er,aq,aZ⟩:=YU (rS aa) ((vY aa).2 aA) h1;exact⟨er,aq,by omega⟩
def afo{L L':wu}(h:∀a∈L,∃b∈L',b.Hop=a.Hop∧b.dn≤a.dn){t x c:Int}(av:kW L t x c):∃nZ,nZ≤c∧kW L' t x nZ:=by
 induction av with
 |nil=>exact⟨0,Int.le_refl _,.nil⟩
 |@cons a c aA _ bu=>
  obtain⟨nZ,h1,D⟩:=bu;obtain⟨b,U,aK,e2⟩:=h a aA;rw[←aK]at D ⊢;exact⟨b.dn+nZ,by omega,.cons U D⟩
structure zm(g:bz)(root:Int)(rs:List Int)(c:cu):Prop where
 val:1≤c.Value∧c.Value≤24000
 rE:c.bx.Pairwise (·<·)
 ug:root∉c.bx
 ids:∀y∈c.bx,y∈ids g
 hit:∃x∈rs,x∈c.bx
def aaS{l:wz}(h:∀c∈l,1≤c.Value)(aR w:Int):0≤lR l aR w:=by
 unfold lR;induction l with
 |nil=>exact Int.le_refl _
 |cons c r bu=>
  rw[map_cons,sum_cons];have h1:=bu λc ah=>h c (mem_cons_of_mem _ ah);have D:=h c mem_cons_self;have:0≤nO aR w c:=by unfold nO;split<;>omega
  omega
def Tc(l gD:wz)(aR w:Int):lR (l++gD) aR w=lR l aR w+lR gD aR w:=by unfold lR;rw[List.map_append,List.sum_append]
def afp(l gD:wz):nU (l++gD)=nU l+nU gD:=by unfold nU;rw[List.map_append,List.sum_append]
def Qy{l:wz}(h:∀c∈l,1≤c.Value):0≤nU l:=by
 unfold nU;induction l with
 |nil=>exact Int.le_refl _
 |cons c r bu=>
  rw[map_cons,sum_cons];have h1:=bu λc ah=>h c (mem_cons_of_mem _ ah);have D:=h c mem_cons_self;omega
def acD(l gD:wz)(a:bQ):kM gD (kM l a)=kM (l++gD) a:=by
 unfold kM;rw[Tc];simp only[bQ.mk.injEq,true_and];omega
structure ZB(g:bz)(ay:List bQ)(root x:Int)(p:List cu×List bQ):Prop where
 cut:∀c∈p.1,zm g root [x] c
 B6:∀a∈ay,lR p.1 a.Hop.br a.Hop.bh≤a.dn
 len:p.1.length≤24
 val:kW ay x root (nU p.1)∧∀c,kW ay x root c→nU p.1≤c
 res:p.2=ay.map (kM p.1)
def aa7{g:bz}(aa:ff g){ay:wu}{root x kX:Int}{p:wz×wu}(aA:qf ay)(aJ:ay.length≤1000)(eZ:∀a∈ay,a.Hop.br∈ids g∧a.Hop.bh∈ids g)(u:x∈ids g)(av:kW ay x root kX)(ah:kX≤24000)(h:Wk ay root x p):ZB g ay root x p:=by
 obtain⟨n,e,aX,he,h1,D⟩:=h.ex;obtain⟨r,aI,aF⟩:=Qe aA aX;have atF:=(aX.ck.wa _ _ he).rX aA;have atI:e≤kX:=by
  obtain⟨k,aq,aZ⟩:=aX.least aA (by omega) av;rw[he]at aq;cases aq;exact aZ
 have sL:∀b∈lS n,0≤b:=λb U=>by
  obtain⟨y,ai⟩:=Ks aX.ck.nd (yM.1 (xk.1 U));exact(aX.ck.wa _ _ ai).rX aA
 have Xo:∀y k,az n y=some k→y∈ids g:=λy k ai=>by
  rcases aX.ck.key y (GF.1 (by rw[ai];rfl))with rfl|⟨a,Nn,rfl⟩
  ·exact u
  ·exact(eZ a Nn).1
 have p4:nU p.1=e:=by
  have hm:=LB he;rw[h1];rw[aI]at aF hm ⊢;rw[RT 0 r aF (by rcases mem_cons.1 hm with h|h;left;omega;exact .inr h)];unfold rA;split<;>omega
 refine⟨λc ah=>?_,λa Iw=>?_,?_,?_,D⟩
 ·rw[h1]at ah;obtain⟨b,dc,dg,gx,mh,B9⟩:=LA _ aF c ah;have:=sL b dc;refine⟨⟨mh,by omega⟩,by rw[gx];exact acC aX.ck.nd b,?_,λy ai=>?_,x,by simp,?_⟩
  ·rw[gx,Dd,he];rintro⟨k,hk,hle⟩;cases hk;omega
  ·rw[gx,Dd]at ai;obtain⟨k,hk,_⟩:=ai;exact Xo y k hk
  ·rw[gx,Dd];exact⟨0,aX.ck.zero,this⟩
 ·rw[h1];obtain⟨bk,bK⟩:=aA a Iw;have Xh:=aX.fix a Iw;cases aT:az n a.Hop.bh with
  |none=>rw[RW aT _ aF];exact bk
  |some nk=>
   rw[yL aT]at Xh;cases lq:az n a.Hop.br with
   |none=>
    have:ir n a.Hop.br=2305843009213693951:=by unfold ir;rw[lq];rfl
    have:=aX.ck.le _ _ aT;have:=aX.ck.len;omega
   |some nj=>
    rw[yL lq]at Xh;rw[TK aA aX he lq aT];unfold rA mH
    repeat' split
    all_goals omega
 ·rw[h1];have aq:=RU (n:=n) (e:=e) (lS n);have aZ:(lS n).length≤n.length:=by
   have bV:(lS n).Nodup:=aF.imp λ{a b} h=>by omega
   have:=CT bV (b:=n.map Prod.snd) λy ai=>yM.1 (xk.1 ai)
   rwa [length_map]at this
  have bV:=CT aX.ck.nd (b:=ids g) λy ai=>by
   obtain⟨k,hk⟩:=Option.isSome_iff_exists.1 (GF.2 ai);exact Xo y k hk
  rw[length_map]at bV;have dU:=aa.ug;have eR:(ids g).length=g.bx.length:=by simp[ids]
  omega
 ·rw[p4];refine⟨aX.ck.wa _ _ he,λc ah=>?_⟩;obtain⟨k,aq,aZ⟩:=aX.least aA (by omega) ah;rw[he]at aq;cases aq;exact aZ
end
section
def Qf{σ β:Type}{F:(σ→Option β)→σ→Option β}{s:σ}{v:β}(h:∀b4,F b4 s=some v):iV F s=some v:=
 Ok.eq (avT (λdh=>dh=s) (λ_=>0) rfl (by omega) λdh b4 Z _=>⟨v,by rw[Z];exact h b4,rfl⟩)
def Td{a b:wu}(h:∀x∈a,x∈b){t x c:Int}(av:kW a t x c):kW b t x c:=by
 induction av with
 |nil=>exact .nil
 |cons aA _ bu=>exact .cons (h _ aA) bu
def aks{g:bz}(aa:ff g){a b k:Int}(h:dst (iz g) a b=some k):kW (jW g) b a k:=by
 have:=akr aa (nG.1 h).1 (t:=b) (k:=0) .nil
 rwa [Int.add_zero]at this
end
section
def Dt{α σ β:Type}{B:Int→α→(σ→Option β)→σ→Option β}{K:σ→Option β}(p:α→Bool)(a:Option β):∀(l:List α) (j:Nat) (s:σ),(∀j x b4 s,x∈l→B j x b4 s=bif p x then a else b4 s)→eE l j B K s=bif l.any p then a else K s
 |[],_,_,_=>rfl
 |x::r,j,s,c1=>by
  show B (j:Int) x (λs=>eE r (j+1) B K s) s=_;rw[c1 _ _ _ _ mem_cons_self,Dt p a r (j+1) s λj x b4 s u=>c1 j x b4 s (mem_cons_of_mem _ u),any_cons];cases p x<;>rfl
def alb(l:cO)(f:Int→j9)(p:Int→Bool)(bA:∀x,f x=some (p x)):EN l f=some (l.any p):=by
 unfold EN Iq;obtain⟨r,h1,D⟩:=Gl (B:=λ(a1:Int) (aK:Int) (cI:Unit→jO) (aj:Unit)=>match aj with|()=>aM (f aK) λ(aD:Bool)=>bif aD then some (a1:Int)else cI ()) (K:=λ(aj:Unit)=>match aj with|()=>some (-1:Int)) p (λj x b4 s=>by simp only[bA,cZ]) (λ_=>rfl) l 0 ();simp only[h1,cZ,D]
def afq{l:cO}(h:BR l=true):l.Pairwise (·<·):=(F4 (λa b c h1 D=>by simp only[decide_eq_true_eq]at *;omega) h).imp λh=>by simpa using h
def Eo(g:bz)(root:Int)(rs:cO)(c:cu):Bool:=
 decide (c.Value<1)||(decide (24000<c.Value)||(!BR c.bx||(decide (root∈c.bx)||(c.bx.any (λy=>!jM g y)||!rs.any (λx=>decide (x∈c.bx))))))
variable {g:bz}{root:Int}{rs:cO}
def RX{c:cu}:Eo g root rs c=false↔zm g root rs c:=by
 unfold Eo;simp only[Bool.or_eq_false_iff,decide_eq_false_iff_not,Bool.not_eq_false',List.any_eq_true,decide_eq_true_eq,List.any_eq_false,Bool.not_eq_true',Bool.not_eq_false];constructor
 ·rintro⟨h1,D,aq,aZ,bV,dU⟩;refine⟨⟨by omega,by omega⟩,afq aq,aZ,λy ai=>?_,dU⟩;have:=bV y ai;rw[KM]at this;simpa using this
 ·rintro⟨h1,D,aq,aZ,bV⟩;refine⟨by omega,by omega,Se D,aq,λy ai=>?_,bV⟩;rw[KM];simpa using aZ y ai
def xU(g:bz)(root:Int)(rs:cO)(l:wz):Prop:=l.length≤200∧(∀c∈l,zm g root rs c)∧∀a∈jW g,lR l a.Hop.br a.Hop.bh≤a.dn
def Qg{β:Type}(f:cu→Int){K:Int→Option β}:∀(l:wz) (j:Nat) (s:Int) {B:Int→cu→(Int→Option β)→Int→Option β},(∀j x b4 s,x∈l→B j x b4 s=b4 (aG (s+f x))∨(f x=0∧B j x b4 s=b4 s))→(∀c∈l,0≤f c∧f c≤24000)→0≤s→s+24000*(l.length:Int)≤1000000000→
  eE l j B K s=K (s+(l.map f).sum)
 |[],j,s,B,_,_,_,_=>by show K s=_;simp
 |x::r,j,s,B,c1,bA,bJ,h1=>by
  rw[length_cons]at h1
  push_cast at h1
  have u:=bA x mem_cons_self;show B (j:Int) x (λs=>eE r (j+1) B K s) s=_;have bu:=λdh alT zQ=>Qg f (K:=K) r (j+1) dh (B:=B) (λj y b4 s ai=>c1 j y b4 s (mem_cons_of_mem _ ai)) (λc ah=>bA c (mem_cons_of_mem _ ah)) alT zQ;rw[map_cons,sum_cons];rcases c1 (j:Int) x (λs=>eE r (j+1) B K s) s mem_cons_self with e|⟨l0,e⟩
  ·rw[e,iY (by omega) (by omega),bu (s+f x) (by omega) (by omega)];congr 1;omega
  ·rw[e,bu s bJ (by omega),l0];congr 1;omega
variable {l:wz}
def acE(aa:ff g)(eH:∀c∈l,c.bx.length≤1000000):Ok (Fy g root rs l) (λb=>b=true↔xU g root rs l):=by
 obtain⟨m,hm,aF⟩:=Mj aa;have NO:=aa.ug;unfold Fy;by_cases atp:200<l.length
 ·rw[decide_eq_true (by omega),cond_true];exact⟨false,rfl,λh=>(by cases h),λh=>by have:=h.1;omega⟩
 rw[decide_eq_false (by omega),cond_false];rw[Dt (Eo g root rs) (some false) l 0 () (λj c b4 s ah=>?_)]
 rotate_left
 ·unfold Eo jn;by_cases h1:c.Value<1
  ·simp[h1]
  rw[decide_eq_false h1];by_cases D:24000<c.Value
  ·simp[D]
  rw[decide_eq_false D,LL _ (eH c ah)];simp only[cZ,cond_false,Bool.false_or];cases aq:BR c.bx with
  |false=>simp[BR]at aq;simp[aq]
  |true=>
   have WZ:ms (λa b=>decide (a<b)) c.bx=true:=aq;rw[WZ,KL];simp only[cZ,Bool.not_true,cond_false,Bool.false_or];by_cases aZ:root∈c.bx
   ·simp[aZ]
   rw[decide_eq_false aZ];simp only[cond_false,Bool.false_or];rw[Dt (λy=>!jM g y) (some false) c.bx 0 () (λj y b4 s _=>by rw[Lb _ _ (by omega),decide_eq_true (rW.2 aa),cZ,Bool.true_and])];cases c.bx.any λy=>!jM g y with
   |true=>rfl
   |false=>
    simp only[cond_false,Bool.false_or];rw[alb rs _ (λx=>decide (x∈c.bx)) (λx=>by unfold Jb;rw[KL,cZ]),cZ]
 cases U:l.any (Eo g root rs)with
 |true=>
  refine⟨false,rfl,λh=>(by cases h),λh=>?_⟩;obtain⟨c,ah,h1⟩:=List.any_eq_true.1 U;rw[RX.2 (h.2.1 c ah)]at h1;cases h1
 |false=>
  have mz:∀c∈l,zm g root rs c:=λc ah=>RX.1 (by simpa using List.any_eq_false.1 U c ah);simp only[cond_false,hm,cZ];rw[Dt (λa:bQ=>decide (a.dn<lR l a.Hop.br a.Hop.bh)) (some false) m 0 () (λj a b4 s aA=>?_)]
  rotate_left
  ·rw[Qg (nO a.Hop.br a.Hop.bh) l 0 0 (λj c b4 s ah=>?_) (λc ah=>?_) (by omega) (by omega)]
   ·rw[Int.zero_add];rfl
   ·unfold jn nO;simp only[KL,cZ];by_cases h1:a.Hop.bh∈c.bx
    ·rw[decide_eq_true h1];simp only[cond_true];by_cases D:a.Hop.br∈c.bx
     ·right;simp[D]
     ·left;simp[h1,D]
    ·right;simp[h1]
   ·have:=(mz c ah).val;unfold nO;split<;>omega
  cases Z:m.any λa:bQ=>decide (a.dn<lR l a.Hop.br a.Hop.bh)with
  |true=>
   refine⟨false,rfl,λh=>(by cases h),λh=>?_⟩;obtain⟨a,aA,h1⟩:=List.any_eq_true.1 Z;have:=h.2.2 a (aF.mem_iff.1 aA);have h1:=of_decide_eq_true h1;omega
  |false=>
   refine⟨true,rfl,λ_=>⟨by omega,mz,λa aA=>?_⟩,λ_=>rfl⟩;have:=List.any_eq_false.1 Z a (aF.mem_iff.2 aA);simp only[decide_eq_true_eq]at this;omega
def YW(aa:ff g)(aI:root∈ids g)(h1:rs.Pairwise (·<·))(D:∀x∈rs,x∈ids g)(aq:rs.length≤100000)(eH:∀c∈l,c.bx.length≤1000000):
  Ok (x8 g root rs l) (λr=>(xU g root rs l→r=(nU l,0))∧(¬xU g root rs l→r=(0,1))):=by
 unfold x8;rw[GB _ _ _ aq,cZ,GZ aa aI h1 D,decide_eq_true rfl];simp only[Bool.not_true,cond_false];refine Ok.aM (acE aa eH) λb U=>?_;cases b with
 |false=>exact⟨_,rfl,λh=>(by have:=U.2 h;cases this),λ_=>rfl⟩
 |true=>
  have c1:=U.1 rfl;simp only[Bool.not_true,cond_false];rw[Qg (λc=>c.Value) l 0 0 (λj c b4 s _=>.inl rfl) (λc ah=>by have:=(c1.2.1 c ah).val;omega) (by omega) (by have:=c1.1;omega)];refine⟨_,rfl,λ_=>by rw[Int.zero_add];rfl,λh=>absurd c1 h⟩
end
end
section
set_option linter.all false
open Go List
variable {H:wu}
def aaT{C:cO}{v t:Int}(h:gE gp H v t):v∉C→t∈C→∃a∈H,a.Hop.bh∈C∧a.Hop.br∉C:=by
 induction h with
 |refl v=>exact λh1 D=>absurd D h1
 |step b U _ bu=>
  intro h1 D;by_cases Cl:b.Hop.bh∈C
  ·exact⟨b,U,Cl,h1⟩
  ·exact bu Cl D
def Pg{A:Type}{f g:A→Int}:∀(l:List A),(∀x∈l,f x≤g x)→(l.map f).sum≤(l.map g).sum
 |[],_=>Int.le_refl _
 |x::r,h=>by
  have h1:=Pg r λy ai=>h y (mem_cons_of_mem _ ai);have D:=h x mem_cons_self;simp only[map_cons,sum_cons];omega
def Te(H:wu):∀l:wz,(H.map λa=>lR l a.Hop.br a.Hop.bh).sum=(l.map λc=>(H.map λa=>nO a.Hop.br a.Hop.bh c).sum).sum
 |[]=>by
  unfold lR;induction H with
  |nil=>rfl
  |cons a r bu=>simp only[map_cons,map_nil,sum_cons,sum_nil]at bu ⊢;omega
 |c::r=>by
  have bu:=Te H r
  have:∀H:wu,(H.map λa=>lR (c::r) a.Hop.br a.Hop.bh).sum=(H.map λa=>nO a.Hop.br a.Hop.bh c).sum+(H.map λa=>lR r a.Hop.br a.Hop.bh).sum:=by
   intro H;induction H with
   |nil=>rfl
   |cons a s bu=>
    simp only[map_cons,sum_cons];rw[bu,show lR (c::r) a.Hop.br a.Hop.bh=nO a.Hop.br a.Hop.bh c+lR r a.Hop.br a.Hop.bh from by simp[lR]];omega
  rw[this,bu,map_cons,sum_cons]
def agZ{c:cu}(h:1≤c.Value){a:bQ}(aA:a∈H)(h1:a.Hop.bh∈c.bx)(D:a.Hop.br∉c.bx):c.Value≤(H.map λa=>nO a.Hop.br a.Hop.bh c).sum:=by
 have aol:∀H:wu,0≤(H.map λa=>nO a.Hop.br a.Hop.bh c).sum:=by
  intro H;induction H with
  |nil=>exact Int.le_refl _
  |cons b r bu=>
   simp only[map_cons,sum_cons];have:0≤nO b.Hop.br b.Hop.bh c:=by unfold nO;split<;>omega
   omega
 induction H with
 |nil=>cases aA
 |cons b r bu=>
  simp only[map_cons,sum_cons];have U:0≤nO b.Hop.br b.Hop.bh c:=by unfold nO;split<;>omega
  rcases mem_cons.1 aA with rfl|aA
  ·have:=aol r;have e:nO a.Hop.br a.Hop.bh c=c.Value:=if_pos ⟨h1,D⟩;omega
  ·have:=bu aA;omega
def aa8{g:bz}{root:Int}{rs:cO}{l:wz}(c1:xU g root rs l)(Z:∀a∈H,a∈jW g)(ah:∀t∈rs,gE gp H root t):nU l≤hX gp H:=by
 have h1:(H.map λa=>lR l a.Hop.br a.Hop.bh).sum≤(H.map λa=>a.dn).sum:=Pg H λa aA=>c1.2.2 a (Z a aA)
 have D:(l.map (·.Value)).sum≤(l.map λc=>(H.map λa=>nO a.Hop.br a.Hop.bh c).sum).sum:=Pg l λc iD=>by
  have mz:=c1.2.1 c iD;obtain⟨x,u,anI⟩:=mz.hit;obtain⟨a,aA,aq,aZ⟩:=aaT (ah x u) mz.ug anI;exact agZ mz.val.1 aA aq aZ
 rw[Te]at h1;show(l.map (·.Value)).sum≤(H.map gp.cost).sum;have e:(H.map gp.cost)=H.map λa=>a.dn:=rfl;rw[e];omega
end
section
set_option linter.all false
open Go List
def ZD(dD:Int→Int)(m:cO)(i j:Nat):Prop:=∀p q,p<q→q≤i→q≠j→dD (m.getD q 0)≤dD (m.getD p 0)
def BS(dD:Int→Int)(m:cO)(i:Nat):Prop:=∀p q,p<q→q<i→dD (m.getD q 0)≤dD (m.getD p 0)
variable {j:Nat}{m:cO}
def S4(bJ:0<j)(aY:j<m.length)(k:Nat):((m.set j (m.getD (j-1) 0)).set (j-1) (m.getD j 0)).getD k 0=if k=j-1 then m.getD j 0 else if k=j then m.getD (j-1) 0 else m.getD k 0:=by
 rw[Sz 0 (by rw[length_set];omega),Sz 0 aY]
def ao7(bJ:0<j)(aY:j<m.length):((m.set j (m.getD (j-1) 0)).set (j-1) (m.getD j 0)).Perm m:=by
 have h1:m.getD (j-1) 0=m[j-1]'(by omega):=by rw[getD_eq_getElem?_getD,List.getElem?_eq_getElem (by omega)];rfl
 have D:m.getD j 0=m[j]:=by rw[getD_eq_getElem?_getD,List.getElem?_eq_getElem aY];rfl
 rw[h1,D];exact set_set_perm aY (by omega)
def ag1{dD:Int→Int}{c:Int→Int→jO}(ah:∀a b,Ok (c a b) λr=>decide (r<0)=decide (dD b<dD a)){l:cO}(aJ:l.length≤1000):
  Ok (BZ l 0 (l.length:Int) c) (λm=>m.Perm l∧BS dD m l.length):=by
 unfold BZ;rw[show aG ((0:Int)+(1:Int))=1 from iY (by omega) (by omega)];by_cases aX:l.length=0
 ·refine Ok.mono ⟨l,?_,rfl⟩ (Q:=λm=>m=l) λm hm=>by subst hm;exact⟨List.Perm.refl _,λp q _ h=>by omega⟩
  refine Qf λb4=>?_;show(bif decide ((1:Int)<(l.length:Int))then _ else _)=_;rw[decide_eq_false (by omega),cond_false]
 refine avT (λs:Int×cO=>∃i:Nat,s.1=(i:Int)∧1≤i∧i≤l.length∧s.2.Perm l∧BS dD s.2 i) (λs=>((l.length:Int)-s.1).toNat) ⟨1,rfl,Nat.le_refl _,by omega,List.Perm.refl _,λp q h1 D=>by omega⟩ (by simp only;omega) ?_;rintro⟨oc,m⟩ b4 ⟨i,tN,hB,wV,aF,Z⟩ hd;simp only at tN aF Z hd ⊢;subst tN;by_cases amU:i=l.length
 ·rw[decide_eq_false (by omega),cond_false];subst amU;exact⟨m,rfl,aF,Z⟩
 rw[decide_eq_true (by omega),cond_true];refine avT (λs:Int×cO=>∃j:Nat,s.1=(j:Int)∧j≤i∧s.2.Perm l∧ZD dD s.2 i j) (λs=>s.1.toNat) ⟨i,rfl,Nat.le_refl _,aF,λp q h1 D aq=>Z p q h1 (by omega)⟩ (by simp only;omega) ?_;rintro⟨gC,m2⟩ gn ⟨j,Xk,atK,pI,eg⟩ sJ;simp only at Xk pI eg sJ ⊢;subst Xk;have vK:m2.length=l.length:=pI.length_eq
 have done:BS dD m2 (i+1)→Ok (b4 (aG ((i:Int)+(1:Int)),m2)) (λm=>m.Perm l∧BS dD m l.length):=λh=>by
  rw[iY (by omega) (by omega)];exact hd _ ⟨i+1,by simp,by omega,by omega,pI,h⟩ (by simp only;omega)
 unfold jn;dsimp only;by_cases aY:j=0
 ·subst aY;rw[decide_eq_false (by simp),cond_false,cond_false];exact done λp q h1 D=>eg p q h1 (by omega) (by omega)
 ·have gM:aG ((j:Int)-(1:Int))=((j-1:Nat):Int):=by rw[iY (by omega) (by omega)];omega
  have aK:du m2 (j:Int)=some (m2.getD j 0):=M0 0 (by omega);have e2:du m2 ((j-1:Nat):Int)=some (m2.getD (j-1) 0):=M0 0 (by omega);rw[decide_eq_true (by omega),cond_true,gM,aK,cZ,e2,cZ];refine Ok.aM (ah _ _) λr aI=>?_;rw[aI];by_cases bS:dD (m2.getD (j-1) 0)<dD (m2.getD j 0)
  ·rw[decide_eq_true bS,cond_true];simp only[cZ]
   have dV:∀(m:cO) (k:Nat) (v:Int),k<m.length→jC m (k:Int) v=some (m.set k v):=λm k v hk=>by
    unfold jC;rw[if_pos ⟨by omega,by omega⟩,Int.toNat_natCast]
   rw[dV m2 j _ (by omega),cZ,M0 0 (by rw[length_set];omega),cZ,dV _ (j-1) _ (by rw[length_set];omega),cZ];refine sJ _ ⟨j-1,rfl,by omega,(ao7 (by omega) (by omega)).trans pI,?_⟩ (by simp only;omega);intro p q h1 D aq;rw[S4 (by omega) (by omega),S4 (by omega) (by omega)];have key:∀p q,p<q→q≤i→q≠j→dD (m2.getD q 0)≤dD (m2.getD p 0):=eg;rw[if_neg aq];by_cases bP:q=j
   ·rw[if_pos bP];by_cases pH:p=j-1
    ·rw[if_pos pH];omega
    ·rw[if_neg pH,if_neg (by omega)];exact key p (j-1) (by omega) (by omega) (by omega)
   ·rw[if_neg bP];by_cases pH:p=j-1
    ·rw[if_pos pH];exact key j q (by omega) D bP
    ·rw[if_neg pH];by_cases pI:p=j
     ·rw[if_pos pI];exact key (j-1) q (by omega) D bP
     ·rw[if_neg pI];exact key p q h1 D bP
  ·rw[decide_eq_false bS,cond_false];refine done λp q h1 D=>?_;by_cases bP:q=j
   ·subst bP;by_cases pH:p=q-1
    ·subst pH;omega
    ·have:=eg p (q-1) (by omega) (by omega) (by omega);omega
   ·exact eg p q h1 (by omega) bP
end
section
set_option linter.all false
open Go List
variable {g:sA}{t:bz}
def akt(aa:ff t)(bw:Ho t g)(b:Int):∃l,vu g.w9 b=some l∧∀x,az l x=gl t x b:=by
 by_cases U:b∈ids t
 ·obtain⟨l,h1,_,D,_⟩:=Wj bw.BW U;refine⟨l,h1,λx=>?_⟩;rw[D,Lr];by_cases u:x∈ids t
  ·rw[y6 aa u U]
  ·rw[yW (λh=>u h.2.1)]
   exact(P9 (rS aa)).2 λm hm=>u (by
    cases hm.rev with
    |nil=>exact absurd U u
    |snoc _ hk=>exact(tX aa hk).1)
 ·refine⟨[],Sw ?_,λx=>by rw[yW (λh=>U h.2.2)];rfl⟩;have:=bw.BW.keys b;cases h:(az g.w9 b).isSome with
  |false=>rfl
  |true=>exact absurd (this.1 h) U
def acF(t:bz):yc t=some (decide (kP t=0)):=by unfold yc;rw[Gf];rfl
noncomputable def yR(t:bz)(b x y:Int):Bool:=match gl t x b,gl t y b with
 |some all,some c=>decide ((mR t x y).1+c=all)
 |_,_=>false
noncomputable def kk(t:bz)(b x:Int):cO:=(DZ t x).filter (yR t b x)
variable {b x:Int}
def Qz(h:gl t x b=none):kk t b x=[]:=by
 unfold kk;rw[filter_eq_nil_iff];intro y _;simp[yR,h]
def acG(aa:ff t)(x:Int):(DZ t x).length≤24:=Nat.le_trans (length_filter_le _ _) (Dr aa)
def S5(aa:ff t)(bw:Ho t g){l:List (Int×Int)}(aJ:∀x,az l x=gl t x b)(x:Int):EP g l x=some (kk t b x):=by
 unfold EP;rw[aJ];cases af:gl t x b with
 |none=>rw[Qz af];rfl
 |some all=>
  obtain⟨_,u,U,_⟩:=p9 af;have kH:=GD af;simp only[Option.isSome_some,Bool.not_true,cond_false,Option.getD_some];rw[bw.row x u];have aX:=acG aa x;refine(Ke (λs:eP=>yR t b x s.fV) (·.fV) (wA t x) 0 [] (λj s b4 o Z an=>?_) (by simp[wA];omega)).trans ?_
  ·have ah:=(Kr aa).1 Z;have iD:=yV aa ah;have aF:=(rQ.1 ah).2;simp only[jn,aJ];cases ai:gl t s.fV b with
   |none=>simp[yR,af,ai]
   |some c=>
    have:=GD ai;rw[show yR t b x s.fV=decide (s.kF+c=all)by simp[yR,af,ai,aF]];simp only[Option.isSome_some,Bool.true_and,Option.getD_some];have av:aG (s.kF+c)=s.kF+c:=LN (by omega) (by omega);simp only[av];rw[ML an];rfl
  ·rw[nil_append,wA,List.filter_map,List.map_map];have:((λ(x:eP)=>x.fV)∘λy=>(⟨y,(mR t x y).1⟩:eP))=id:=rfl;rw[this,List.map_id];rfl
def aa9{α:Type}(t:bz)(a b:Int)(k:Bool→Option α):(jn k λJ=>aM (yc t) λ(ej:Bool)=>(bif !ej then J true else J (decide (a=b))))=k (!decide (kP t=0)||decide (a=b)):=by
 simp only[jn];rw[acF,cZ];by_cases h:kP t=0<;>simp[h]
variable {a:Int}
def S6(h:¬(kP t=0∧a∈ids t∧b∈ids t)):kk t b a=[]:=Qz (yW h)
def De(aa:ff t){y:Int}:y∈kk t b x↔∃w m k,iz t x y=some w∧gl t y b=some m∧gl t x b=some k∧w+m=k:=by
 unfold kk;rw[List.mem_filter,QB aa];constructor
 ·rintro⟨h1,D⟩;unfold yR at D;split at D
  ·rename_i all c aK e2;exact⟨_,c,all,rQ.2 ⟨h1,rfl⟩,e2,aK,of_decide_eq_true D⟩
  ·cases D
 ·rintro⟨w,m,k,h1,D,aq,aZ⟩;obtain⟨bV,dU⟩:=rQ.1 h1;exact⟨bV,by simp[yR,D,aq,dU,aZ]⟩
def Gg(aa:ff t){y:Int}(h:y∈kk t b x):∃m k,gl t y b=some m∧gl t x b=some k∧m<k:=by
 obtain⟨w,m,k,h1,D,aq,aZ⟩:=(De aa).1 h;have:=(yV aa h1).1;exact⟨m,k,D,aq,by omega⟩
def acH{y:Int}(aa:ff t)(h:y∈kk t b x):y∈ids t:=by
 obtain⟨m,k,h1,_⟩:=Gg aa h;exact(p9 h1).2.1
def QA(aa:ff t)(b x:Int):(kk t b x).Pairwise (·<·):=(R1 aa x).sublist filter_sublist
variable {k:Int}
def LC(h:gl t x b=some k)(cA:x≠b):∃y,y∈kk t b x:=by
 obtain⟨aa,u,U,af⟩:=p9 h;obtain⟨y,w,m,h1,D,aq⟩:=QD af cA;exact⟨y,(De aa).2 ⟨w,m,k,h1,by rw[y6 aa (tX aa h1).2 U];exact D,h,by omega⟩⟩
noncomputable def yQ(t:bz)(b x y:Int):Bool:=match gl t y b,gl t x b with
 |some m,some k=>decide (m<k)
 |_,_=>false
noncomputable def uy(t:bz)(b x:Int):Nat:=((ids t).filter (yQ t b x)).length
def Du(aa:ff t){y:Int}(h:y∈kk t b x):uy t b y<uy t b x:=by
 obtain⟨m,k,h1,D,aq⟩:=Gg aa h;refine(Pd λz hz bP=>?_).2 y (acH aa h) (by simp[yQ,h1,D,aq]) (by simp[yQ,h1]);unfold yQ at bP ⊢;rw[h1]at bP;rw[D];cases af:gl t z b with
 |none=>rw[af]at bP;cases bP
 |some j=>rw[af]at bP;simp only[decide_eq_true_eq]at bP ⊢;omega
def Mk(aa:ff t)(U:b∈ids t):uy t b x<(ids t).length:=by
 cases af:gl t x b with
 |none=>
  have:(ids t).filter (yQ t b x)=[]:=by
   rw[filter_eq_nil_iff];intro y _;cases h:gl t y b<;>simp[yQ,af,h]
  unfold uy;rw[this];exact length_pos_of_mem U
 |some k=>
  have u:=(p9 af).2.1;have:=(Pd (p:=λ_=>true) (q:=yQ t b x) (l:=ids t) λ_ _ _=>rfl).2 x u rfl (by simp[yQ,af]);rw[List.filter_eq_self.2 λ_ _=>rfl]at this;exact this
def qn(f:Int→cO)(b:Int):Nat→Int→cO→cO
 |0,_,_=>[]
 |n+1,x,cw=>if x=b then cw else match f x with
  |[]=>[]
  |y::_=>qn f b n y (cw++[y])
noncomputable def jI(t:bz)(a b:Int):cO:=qn (kk t b) b 30 a []
def Tf(b:Int){f:Int→cO}{n:Nat}(h:f a=[])(hs:a≠b)(cw:cO):qn f b n a cw=[]:=by
 cases n with
 |zero=>rfl
 |succ n=>simp[qn,hs,h]
def RK(h:¬(kP t=0∧a∈ids t∧b∈ids t)):jI t a b=[]:=by
 by_cases hs:a=b
 ·simp[jI,qn,hs]
 ·exact Tf b (S6 h) hs []
def aaU(t:bz)(a b:Int):FA t a b=some (jI t a b):=by
 unfold FA;refine(aa9 t a b _).trans ?_;by_cases h:kP t=0
 ·have aa:=rW.1 h;by_cases hs:a=b
  ·subst hs;simp[jI,qn]
  ·obtain⟨g,h1,D⟩:=Sx aa;obtain⟨l,aq,aZ⟩:=akt aa D b;rw[decide_eq_true h,decide_eq_false hs];simp only[Bool.not_true,Bool.or_self,cond_false];rw[h1,cZ,aq,cZ];refine Ok.eq ?_;by_cases U:b∈ids t
   ·have eH:=Dr aa;refine avT (λs=>s.1.length≤30∧∃n,uy t b s.2<n∧n+s.1.length≤30∧qn (kk t b) b n s.2 s.1=jI t a b) (λs=>uy t b s.2) (s:=([],a)) ⟨by simp,30,by show uy t b a<30;have:=Mk aa (x:=a) U;omega,by simp,rfl⟩ (by have:=Mk aa (x:=a) U;simp only;omega) ?_;rintro⟨cw,x⟩ b4 ⟨oc,n,l6,l7,i3⟩ hd;simp only at oc l6 l7 i3 hd ⊢;refine Ok.cs (λu=>?_) λu=>.s ?_
    ·have IS:x≠b:=by simpa using u
     rw[S5 aa D aZ,cZ];cases aX:kk t b x with
     |nil=>exact .s (by rw[←i3,Tf b aX IS])
     |cons y r=>
      have aI:=Du aa (b:=b) (x:=x) (y:=y) (by rw[aX];simp);obtain⟨n,rfl⟩:∃m,n=m+1:=⟨n-1,by omega⟩;simp only[length_cons];rw[decide_eq_false (by omega),cond_false];simp only[du];rw[if_pos (by decide)];simp only[Int.toNat_zero,getElem?_cons_zero,cZ,ML (show cw.length<1000000 by omega)];rw[length_append];simp only[length_cons,length_nil];have av:aG (((cw.length+(0+1):Nat):Int)-1)=(cw.length:Int):=by rw[LN (by omega) (by omega)];omega
      rw[av,if_pos (by omega)];simp only[Int.toNat_natCast];rw[List.getElem?_append_right (by omega)];simp only[Nat.sub_self,getElem?_cons_zero,cZ];refine hd (cw++[y],y) ⟨by simp;omega,n,by show uy t b y<n;omega,by simp;omega,?_⟩ aI;rw[←i3];simp[qn,IS,aX]
    ·have IS:x=b:=by simpa using u
     rw[←i3];obtain⟨n,rfl⟩:∃m,n=m+1:=⟨n-1,by omega⟩;simp[qn,IS]
   ·have aX:kk t b a=[]:=S6 λe=>U e.2.2;refine avT (λs=>s=([],a)) (λ_=>0) (s:=([],a)) rfl (by decide) ?_;rintro _ b4 rfl hd;simp only;rw[decide_eq_false hs];simp only[Bool.not_false,cond_true];rw[S5 aa D aZ,cZ,aX];refine .s ?_;rw[RK λe=>U e.2.2]
 ·rw[decide_eq_false h,RK λe=>h e.1];rfl
def TM{c i j:Int}(h1:gl t a c=some i)(D:gl t c b=some j):∃k,gl t a b=some k∧k≤i+j:=by
 obtain⟨aa,aA,_,Nr⟩:=p9 h1;obtain⟨_,_,U,q0⟩:=p9 D;obtain⟨k,hk,hle⟩:=afg (rS aa) Nr q0;exact⟨k,by rw[y6 aa aA U];exact hk,hle⟩
def Tg(aa:ff t){y w m:Int}(h:iz t a y=some w)(b3:gl t y b=some m):∃k,gl t a b=some k∧k≤w+m:=by
 obtain⟨_,ai,U,af⟩:=p9 b3;obtain⟨k,hk,hle⟩:=YU (rS aa) h af;exact⟨k,by rw[y6 aa (tX aa h).1 U];exact hk,hle⟩
def LR{t:bz}{b:Int}:∀(n:Nat) (x:Int) (cw:cO),uy t b x<n→(gl t x b).isSome=true→qn (kk t b) b n x cw=cw++qn (kk t b) b n x []
 |0,_,_,h,_=>by omega
 |n+1,x,cw,h,af=>by
  obtain⟨k,hk⟩:=Option.isSome_iff_exists.1 af;obtain⟨aa,_⟩:=p9 hk;simp only[qn];by_cases u:x=b
  ·rw[if_pos u,if_pos u,append_nil]
  ·rw[if_neg u,if_neg u];cases aX:kk t b x with
   |nil=>obtain⟨y,ai⟩:=LC hk u;rw[aX]at ai;cases ai
   |cons y r=>
    have ai:y∈kk t b x:=by rw[aX];simp
    have aI:=Du aa ai;obtain⟨m,_,hm,_⟩:=Gg aa ai;have sW:(gl t y b).isSome=true:=by rw[hm];rfl
    simp only;rw[LR n y (cw++[y]) (by omega) sW,LR n y ([]++[y]) (by omega) sW];simp
def RL{t:bz}{b:Int}:∀(n m:Nat) (x:Int) (cw:cO),uy t b x<n→uy t b x<m→(gl t x b).isSome=true→qn (kk t b) b n x cw=qn (kk t b) b m x cw
 |0,_,_,_,h,_,_=>by omega
 |_+1,0,_,_,_,h,_=>by omega
 |n+1,m+1,x,cw,h1,D,af=>by
  obtain⟨k,hk⟩:=Option.isSome_iff_exists.1 af;obtain⟨aa,_⟩:=p9 hk;simp only[qn];by_cases u:x=b
  ·rw[if_pos u,if_pos u]
  ·rw[if_neg u,if_neg u];cases aX:kk t b x with
   |nil=>rfl
   |cons y r=>
    have ai:y∈kk t b x:=by rw[aX];simp
    have aI:=Du aa ai;obtain⟨k,_,hm,_⟩:=Gg aa ai;exact RL n m y _ (by omega) (by omega) (by rw[hm];rfl)
def CU(t:bz)(b:Int):jI t b b=[]:=by simp[jI,qn]
def Ph(h:gl t x b=some k)(cA:x≠b):∃y r,kk t b x=y::r∧jI t x b=y::jI t y b:=by
 obtain⟨aa,u,U,_⟩:=p9 h;cases aX:kk t b x with
 |nil=>obtain⟨y,ai⟩:=LC h cA;rw[aX]at ai;cases ai
 |cons y r=>
  refine⟨y,r,rfl,?_⟩;have ai:y∈kk t b x:=by rw[aX];simp
  have aI:=Du aa ai;obtain⟨m,_,hm,_⟩:=Gg aa ai;have sW:(gl t y b).isSome=true:=by rw[hm];rfl
  have h1:=Mk aa (x:=x) U;have D:=Dr aa;unfold jI;rw[show(30:Nat)=29+1 from rfl,qn,if_neg cA,aX];simp only;rw[LR 29 y ([]++[y]) (by omega) sW,RL 29 (29+1) y [] (by omega) (by omega) sW];simp
def RM(P:Int→Prop)(bJ:P b)(Z:∀x y k w m r,gl t x b=some k→x≠b→kk t b x=y::r→jI t x b=y::jI t y b→iz t x y=some w→gl t y b=some m→w+m=k→P y→P x):
  ∀(n:Nat) (x:Int),uy t b x≤n→(gl t x b).isSome=true→P x:=by
 intro n;induction n with
 |zero=>
  intro x aI af;obtain⟨k,hk⟩:=Option.isSome_iff_exists.1 af;by_cases u:x=b
  ·rw[u];exact bJ
  ·obtain⟨y,ai⟩:=LC hk u;have:=Du (p9 hk).1 ai;omega
 |succ n bu=>
  intro x aI af;obtain⟨k,hk⟩:=Option.isSome_iff_exists.1 af;by_cases u:x=b
  ·rw[u];exact bJ
  ·obtain⟨y,r,h1,D⟩:=Ph hk u;have aa:=(p9 hk).1;have ai:y∈kk t b x:=by rw[h1];simp
   obtain⟨w,m,er,ak,ax,aO,aL⟩:=(De aa).1 ai;rw[hk]at aO;cases aO
   exact Z x y k w m r hk u h1 D ak ax aL (bu y (by have:=Du aa ai;omega) (by rw[ax];rfl))
def Kf(h:(gl t x b).isSome=true):(x::jI t x b).getLast?=some b:=by
 refine RM (λx=>(x::jI t x b).getLast?=some b) (by simp[CU]) (λx y k w m r _ _ _ D _ _ _ bu=>?_) _ x (Nat.le_refl _) h;rw[D,getLast?_cons_cons];exact bu
end
section
set_option linter.all false
open Go List
def u6(a:Int):cO→x2
 |[]=>[]
 |b::r=>bO.mk a b::u6 b r
def D6(t:bz)(a v b:Int):Prop:=∃i j k,gl t a v=some i∧gl t v b=some j∧gl t a b=some k∧i+j=k
variable {a b:Int}{t:bz}
def acI(aa:ff t){v z:Int}(h:D6 t a v b)(hz:z∈kk t v a):z∈kk t b a:=by
 obtain⟨i,j,k,h1,D,aq,aZ⟩:=h;obtain⟨w,m,yA,ak,ax,aO,aL⟩:=(De aa).1 hz;rw[h1]at aO;cases aO
 obtain⟨er,aK,e2⟩:=TM ax D;obtain⟨cn,dj,fF⟩:=Tg aa ak aK;rw[aq]at dj;cases dj
 refine(De aa).2 ⟨w,er,k,ak,aK,aq,?_⟩;omega
def JV(aa:ff t){y v k w m:Int}{r:cO}(hk:gl t a b=some k)(aX:kk t b a=y::r)(aJ:iz t a y=some w)(hm:gl t y b=some m)(e:w+m=k)(an:D6 t y v b):D6 t a v b∧jI t a v=y::jI t y v:=by
 obtain⟨i,j,ig,h1,D,aq,aZ⟩:=an;rw[hm]at aq;cases aq
 obtain⟨yA,aK,e2⟩:=Tg aa aJ h1;obtain⟨er,dj,fF⟩:=TM aK D;rw[hk]at dj;cases dj
 have nI:D6 t a v b:=⟨yA,j,k,aK,D,hk,by omega⟩;refine⟨nI,?_⟩;have av:=rS aa a y w aJ;have tN:=(GD h1).1;have cA:a≠v:=by
  rintro rfl;rw[Ds aa (p9 hk).2.1]at aK;cases aK;omega
 have ai:y∈kk t v a:=(De aa).2 ⟨w,i,yA,aJ,h1,aK,by omega⟩;obtain⟨z,r',ak,ax⟩:=Ph aK cA;have hz:z∈kk t b a:=acI aa nI (by rw[ak];simp);have:z=y:=by
  have dV:=QA aa b a;have eu:=QA aa v a;rw[aX]at dV hz;rw[ak]at eu ai;rw[pairwise_cons]at dV eu;rcases mem_cons.1 hz with h|h
  ·exact h
  ·rcases mem_cons.1 ai with b3|b3
   ·exact b3.symm
   ·have:=dV.1 z h;have:=eu.1 y b3;omega
 rw[ax,this]
structure Qr(t:bz)(b x:Int):Prop where
 on:∀v∈x::jI t x b,D6 t x v b
 hop:∀h∈u6 x (jI t x b),jI t x h.bh=jI t x h.br++[h.bh]∧(∃w,iz t h.br h.bh=some w)∧h.bh∈jI t x b∧h.br∈x::jI t x b
variable {x:Int}
def Yf(h:(gl t x b).isSome=true):Qr t b x:=by
 obtain⟨o7,Cp⟩:=Option.isSome_iff_exists.1 h;obtain⟨aa,_,U,_⟩:=p9 Cp;refine RM (Qr t b) ?_ ?_ _ x (Nat.le_refl _) h
 ·refine⟨λv o1=>?_,λh b0=>?_⟩
  ·rw[CU]at o1;rw[List.mem_singleton.1 o1];exact⟨0,0,0,Ds aa U,Ds aa U,Ds aa U,rfl⟩
  ·rw[CU]at b0;cases b0
 ·intro x y k w m r bJ cA aX aI aJ hm e bu;refine⟨λv o1=>?_,λh b0=>?_⟩
  ·rcases mem_cons.1 o1 with rfl|o1
   ·exact⟨0,k,k,Ds aa (p9 bJ).2.1,bJ,bJ,by omega⟩
   ·rw[aI]at o1;exact(JV aa bJ aX aJ hm e (bu.on v o1)).1
  ·rw[aI]at b0 ⊢;have ai:=(JV aa bJ aX aJ hm e (bu.on y mem_cons_self)).2;rcases mem_cons.1 b0 with rfl|b0
   ·refine⟨?_,⟨w,aJ⟩,mem_cons_self,mem_cons_self⟩;show jI t x y=jI t x x++[y];rw[ai,CU,CU];rfl
   ·obtain⟨de,ew,e1,iS⟩:=bu.hop h b0;have aK:=(JV aa bJ aX aJ hm e (bu.on h.bh (mem_cons_of_mem _ e1))).2;have e2:=(JV aa bJ aX aJ hm e (bu.on h.br iS)).2;refine⟨by rw[aK,e2,de];rfl,ew,mem_cons_of_mem _ e1,mem_cons_of_mem _ iS⟩
def S7{root:Int}{L:x2}:∀(l:cO) (a:Int),nY root L a→(∀h∈u6 a l,h∈L)→(∀h∈u6 a l,nY root L h.br)∧∀v∈a::l,nY root L v
 |[],a,aA,_=>⟨λh b0=>(by cases b0),λv aa=>by rw[List.mem_singleton.1 aa];exact aA⟩
 |b::r,a,aA,Z=>by
  have U:nY root L b:=nY.step (bO.mk a b) (Z _ mem_cons_self) aA;obtain⟨h1,D⟩:=S7 r b U λh b0=>Z h (mem_cons_of_mem _ b0);refine⟨λh b0=>?_,λv aa=>?_⟩
  ·rcases mem_cons.1 b0 with rfl|b0
   ·exact aA
   ·exact h1 h b0
  ·rcases mem_cons.1 aa with rfl|aa
   ·exact aA
   ·exact D v aa
def S8{H:wu}:∀(l:cO) (a:Int),(∀h∈u6 a l,∃c,bQ.mk h c∈H)→∀z,(a::l).getLast?=some z→gE gp H a z
 |[],a,_,z,hz=>by simp at hz;subst hz;exact .refl _
 |b::r,a,Z,z,hz=>by
  rw[getLast?_cons_cons]at hz;obtain⟨c,ah⟩:=Z _ mem_cons_self;exact gE.step (bQ.mk (bO.mk a b) c) ah (S8 r b (λh b0=>Z h (mem_cons_of_mem _ b0)) z hz)
variable {L:x2}{root:Int}
def acJ(h:nY root L x):x=root∨∃h∈L,h.bh=x:=by
 cases h with
 |root=>exact .inl rfl
 |step h b0 _=>exact .inr ⟨h,b0,rfl⟩
structure Ml(g:bz)(root:Int)(rs:List Int)(L:List bO):Prop where
 aqB:K5 (g2.mk root L)
 lk:∀h∈L,∃w,iz g h.br h.bh=some w
 OK:∀b∈rs,b=root∨∃h∈L,h.bh=b
 alx:∀H:wu,(∀h∈L,∃c,bQ.mk h c∈H)→∀b∈rs,gE gp H root b
 len:L.length≤24
variable {g:bz}{rs:cO}
def afr(aa:ff g)(aI:root∈ids g)(Z:∀b∈rs,(gl g root b).isSome=true)(jv:∀h,h∈L↔∃b∈rs,h∈u6 root (jI g root b))(aA:L.Pairwise λa b=>qh a b=true):Ml g root rs L:=by
 have n4:∀h∈L,jI g root h.bh=jI g root h.br++[h.bh]∧(∃w,iz g h.br h.bh=some w)∧(gl g root h.br).isSome=true:=λh b0=>by
  obtain⟨b,U,hm⟩:=(jv h).1 b0;have aF:=Yf (Z b U);obtain⟨de,ew,e1,iS⟩:=aF.hop h hm;obtain⟨i,_,_,q,_⟩:=aF.on _ iS;exact⟨de,ew,by rw[q];rfl⟩
 have MI:∀h∈L,h.br∈ids g∧h.bh∈ids g:=λh b0=>by
  obtain⟨w,av⟩:=(n4 h b0).2.1;exact Sy aa ((vY aa).1 av)
 have w1:∀a∈L,∀b∈L,a.bh=b.bh→a=b:=λa aA b U e=>by
  obtain⟨iM,_,a3⟩:=n4 a aA;obtain⟨ec,_,hb⟩:=n4 b U;rw[e,ec]at iM;have h1:jI g root b.br=jI g root a.br:=by
   have:=congrArg dropLast iM;simpa using this
  have D:=Kf a3;have aq:=Kf hb;rw[h1,D]at aq;obtain⟨x,y⟩:=a;obtain⟨aqW,aq3⟩:=b;simp only at e aq;cases aq;rw[e]
 have aku:∀h∈L,h.bh≠root:=λh b0 e=>by
  have:=(n4 h b0).1;rw[e,CU]at this;simp at this
 have Wa:(∀h∈L,nY root L h.br)∧∀b∈rs,nY root L b:=by
  have key:∀b∈rs,(∀h∈u6 root (jI g root b),nY root L h.br)∧∀v∈root::jI g root b,nY root L v:=λb U=>S7 _ _ .root λh b0=>(jv h).2 ⟨b,U,b0⟩;refine⟨λh b0=>?_,λb U=>?_⟩
  ·obtain⟨b,U,hm⟩:=(jv h).1 b0;exact(key b U).1 h hm
  ·exact(key b U).2 b (mem_of_getLast? (Kf (Z b U)))
 have Xc:L.Pairwise λa b=>a.bh≠b.bh:=Pairwise.imp_of_mem (λ{a b} aA U h e=>by
  have:=w1 a aA b U e;subst this;simp[qh]at h) aA
 refine⟨⟨Lw aa aI,λh b0=>⟨Lw aa (MI h b0).1,Lw aa (MI h b0).2⟩,aA,Xc,aku,Wa.1⟩,λh b0=>(n4 h b0).2.1,λb U=>acJ (Wa.2 b U),λH nn b U=>?_,?_⟩
 ·exact S8 _ _ (λh b0=>nn h ((jv h).2 ⟨b,U,b0⟩)) b (Kf (Z b U))
 ·have h1:(L.map (·.bh)).Nodup:=pairwise_map.2 Xc
  have D:=CT h1 (b:=ids g) λx u=>by
   obtain⟨h,b0,rfl⟩:=List.mem_map.1 u;exact(MI h b0).2
  rw[length_map]at D;exact Nat.le_trans D (Dr aa)
def afs(aa:ff g)(aI:root∈ids g)(h:Ml g root rs L){us:cO}(h1:us.Pairwise (·<·))(D:∀x∈us,x∈ids g)(aq:∀x∈us,x∈rs):wG g (g2.mk root L) us=0:=by
 have Ch:=h.aqB;unfold wG;rw[decide_eq_true (rW.2 aa),decide_eq_true (TZ.2 Ch)];simp only[Bool.not_true,cond_false]
 rw[pV.2 (λx u=>by
  rcases mem_cons.1 u with rfl|u
  ·rw[sY.1 aI];rfl
  ·rw[sY.1 (D x u)];rfl),pV.2 (λx u=>by
  obtain⟨w,av⟩:=h.lk x u;rw[QK aa ((vY aa).1 av)];rfl),Se h1]
 simp only[Bool.not_true,cond_false]
 rw[pV.2 (λx u=>by
  have:x∈zv (g2.mk root L):=(adU Ch).2 (h.OK x (aq x u));rw[decide_eq_true this];rfl)]
 rfl
def aba(aa:ff g)(h:Ml g root rs L){Z:x2}{c:Int}(U:zb (jW g) root rs Z c):c≤D0 g L:=by
 have aJ:=h.len
 have XA:∀x∈L,bQ.mk x (mR g x.br x.bh).1∈jW g∧0≤(mR g x.br x.bh).1∧(mR g x.br x.bh).1≤1000:=λx u=>by
  obtain⟨w,av⟩:=h.lk x u;have aA:=(vY aa).1 av;have he:=QK aa aA;simp only at he;have:=(GM aa).cost _ aA;simp only at this;rw[he];exact⟨aA,by simp only;omega,by simp only;omega⟩
 have e:D0 g L=hX gp (L.map λx=>bQ.mk x (mR g x.br x.bh).1):=by
  unfold D0;refine(RQ (f:=λh:bO=>(mR g h.br h.bh).1) L 0 (λx u=>(XA x u).2) (by omega) (by omega)).trans ?_;rw[Int.zero_add];unfold hX;rw[List.map_map];rfl
 obtain⟨⟨H,nI,rfl,_⟩,_⟩:=U;rw[e];refine nI.min _ (λa aA=>?_) (h.alx _ λx u=>⟨_,List.mem_map.2 ⟨x,u,rfl⟩⟩);obtain⟨x,u,rfl⟩:=List.mem_map.1 aA;exact(XA x u).1
end
section
set_option linter.all false
open Go List
def Yr(a:bQ):kM [] a=a:=by
 unfold kM lR;simp
variable {g:bz}{root:Int}
def acd(aa:ff g){m:wu}(aF:m.Perm (jW g)){x k:Int}(u:x∈ids g)(hk:gl g root x=some k){cw:wz}(an:∀c∈cw,1≤c.Value)(he:∀a∈m,lR cw a.Hop.br a.Hop.bh≤a.dn):
  Ok (CC (m.map (kM cw)) root x) (λp=>p.2=m.map (kM (cw++p.1))∧(∀c∈p.1,zm g root [x] c)∧(∀a∈m,lR (cw++p.1) a.Hop.br a.Hop.bh≤a.dn)∧p.1.length≤24∧(cw=[]→k≤nU p.1)):=by
 have eZ:=GM aa;have W0:=Lp aF eZ;have af:=(p9 hk).2.2.2;have ym:=GD hk;have NV:kW m x root k:=Td (λa aA=>aF.mem_iff.2 aA) (aks aa af)
 have ah:∀a∈m,0≤(kM cw a).dn∧(kM cw a).dn≤a.dn:=λa aA=>by
  have h1:=he a aA;have D:=aaS an a.Hop.br a.Hop.bh;unfold kM;simp only;omega
 have fs:qf (m.map (kM cw)):=λa aA=>by
  obtain⟨b,U,rfl⟩:=List.mem_map.1 aA;have h1:=ah b U;have D:=W0.cost b U;omega
 obtain⟨kX,zY,av⟩:=afo (L':=m.map (kM cw)) (λa aA=>⟨kM cw a,List.mem_map.2 ⟨a,aA,rfl⟩,rfl,(ah a aA).2⟩) NV;have aJ:(m.map (kM cw)).length≤1000:=by rw[length_map];exact W0.len
 refine Ok.mono (aaR fs aJ av) λp n4=>?_
 have bP:=aa7 aa fs aJ (λa aA=>by
  obtain⟨b,U,rfl⟩:=List.mem_map.1 aA;exact Sy (a:=b) aa (aF.mem_iff.1 U)) u av (by omega) n4
 refine⟨?_,bP.cut,λa aA=>?_,bP.len,?_⟩
 ·rw[bP.res,List.map_map];exact List.map_congr_left λa _=>acD cw p.1 a
 ·have:=bP.B6 (kM cw a) (List.mem_map.2 ⟨a,aA,rfl⟩);rw[Tc];unfold kM at this;simp only at this;omega
 ·rintro rfl;have aZ:=bP.val.1;rw[show m.map (kM [])=m from by rw[List.map_congr_left (g:=id) λa _=>Yr a];simp]at aZ;obtain⟨er,bV,dU⟩:=agY aa (Td (λa aA=>aF.mem_iff.1 aA) aZ);rw[af]at bV;cases bV
  exact dU
def abb(m:List (Int×Int))(a b:Int):Ok (Fz a b m) λr=>decide (r<0)=decide ((az m b).getD 0<(az m a).getD 0):=by
 unfold Fz;rw[GJ,cZ];refine⟨_,rfl,?_⟩;unfold A4;split
 ·rename_i h;rw[decide_eq_true h];rfl
 ·rename_i h;rw[decide_eq_false h];split<;>rfl
def aaV{dD:Int→Int}{c:Int→Int→jO}(ah:∀a b,Ok (c a b) λr=>decide (r<0)=decide (dD b<dD a)){l:cO}(aJ:l.length≤19):
  Ok (EJ l c) (λm=>m.Perm l∧BS dD m l.length):=by
 unfold EJ;refine Ok.aM (P:=λm=>m.Perm l∧BS dD m l.length) ?_ λm hm=>⟨m,rfl,hm⟩;unfold Ir;obtain⟨m,h1,D⟩:=ag1 ah (l:=l) (by omega);refine⟨m,?_,D⟩;refine Qf λb4=>?_;show(bif decide ((20:Int)≤(l.length:Int))then _ else _)=_;rw[decide_eq_false (by omega),cond_false,h1,cZ];refine Qf λb4=>?_;show(bif decide ((20:Int)<(l.length:Int))then _ else _)=_;rw[decide_eq_false (by omega),cond_false]
variable {rs:cO}
def aaW(aa:ff g)(aI:root∈ids g)(h1:rs.Pairwise (·<·))(D:∀x∈rs,x∈ids g)(aJ:rs.length≤100)(aX:∃x∈rs,gl g root x=none):Ap g root rs=some ([],9):=by
 unfold Ap;rw[GB _ _ _ (by omega),cZ,GZ aa aI h1 D,decide_eq_true rfl];refine Ok.eq ?_;refine avX (λp _=>∀y∈p,(gl g root y).isSome=true) (λp x r s b4 jv ef hd=>?_) _ (λy ai=>(by cases ai)) λs ef=>?_
 ·rw[RJ,cZ];cases u:gl g root x with
  |none=>unfold uk;simp only[u];exact⟨_,rfl,rfl⟩
  |some k=>
   unfold uk;simp only[u,Option.isSome_some,Bool.not_true,cond_false];refine hd _ λy ai=>?_;rcases List.mem_append.1 ai with ai|ai
   ·exact ef y ai
   ·rw[List.mem_singleton.1 ai,u];rfl
 ·obtain⟨x,u,e⟩:=aX;have:=ef x u;rw[e]at this;cases this
structure Hh(g:bz)(root:Int)(rs:List Int)(m:List bQ)(p:List Int)(s:List bQ×List cu):Prop where
 ay:s.1=m.map (kM s.2)
 cut:∀c∈s.2,zm g root rs c
 B6:∀a∈m,lR s.2 a.Hop.br a.Hop.bh≤a.dn
 len:s.2.length≤200
 nil:p.all (λx=>decide (x=root))=true→s.2=[]
 val:∀x,p.head?=some x→∀k,gl g root x=some k→k≤nU s.2
def abc(aa:ff g)(aI:root∈ids g)(h1:rs.Pairwise (·<·))(D:∀x∈rs,x∈ids g)(aJ:rs.length≤19)(aX:∀x∈rs,(gl g root x).isSome=true):
  Ok (Ap g root rs) (λr=>r.2=0∧xU g root rs r.1∧∀x∈rs,∀k,gl g root x=some k→k≤nU r.1):=by
 unfold Ap;rw[GB _ _ _ (by omega),cZ,GZ aa aI h1 D,decide_eq_true rfl];refine avX (λp (s:List (Int×Int))=>∀y∈p,az s y=gl g root y) (λp x r s b4 jv ef hd=>?_) _ (λy ai=>(by cases ai)) λakY W7=>?_
 ·have w3:x∈rs:=by rw[jv];simp
  obtain⟨k,hk⟩:=Option.isSome_iff_exists.1 (aX x w3);rw[RJ,cZ];unfold uk;simp only[hk,Option.isSome_some,Bool.not_true,cond_false,Option.getD_some];refine hd _ λy ai=>?_;rw[lK];by_cases p6:y=x
  ·rw[p6,hk];simp
  ·rcases List.mem_append.1 ai with ai|ai
   ·simp[p6];exact ef y ai
   ·exact absurd (List.mem_singleton.1 ai) p6
 ·show Ok (aM (B7 rs) _) _;unfold B7;rw[qD (by simp;omega)];simp only[cZ,nil_append];refine Ok.aM (aaV (λa b=>abb akY a b) aJ) λord qK=>?_;obtain⟨DF,anw⟩:=qK;obtain⟨m,hm,aF⟩:=Mj aa;rw[hm,cZ];have eZ:=GM aa
  have key:∀s:wu×wz,Hh g root rs m ord s→xU g root rs s.2∧∀x∈rs,∀k,gl g root x=some k→k≤nU s.2:=λs Z=>by
   refine⟨⟨Z.len,Z.cut,λa aA=>Z.B6 a (aF.mem_iff.2 aA)⟩,λx u k hk=>?_⟩;have CA:=DF.mem_iff.2 u;obtain⟨i,hi,c8⟩:=List.mem_iff_getElem.1 CA;have bJ:0<ord.length:=by omega
   have b0:ord.head?=some ord[0]:=by rw[head?_eq_getElem?,List.getElem?_eq_getElem bJ]
   have WX:ord[0]∈rs:=DF.mem_iff.1 (List.getElem_mem bJ);obtain⟨o7,Cp⟩:=Option.isSome_iff_exists.1 (aX _ WX);have IN:=Z.val _ b0 o7 Cp;have hle:k≤o7:=by
    by_cases tN:i=0
    ·subst tN;rw[c8,hk]at Cp;cases Cp;exact Int.le_refl _
    ·have Ad:=DF.length_eq;have:=anw 0 i (by omega) (by omega);rw[getD_eq_getElem?_getD,getD_eq_getElem?_getD,List.getElem?_eq_getElem hi,List.getElem?_eq_getElem bJ]at this;simp only[Option.getD_some,c8]at this;rw[W7 _ WX,W7 _ u,hk,Cp]at this;simpa using this
   omega
  refine avS (λcw=>xU g root rs cw∧∀x∈rs,∀k,gl g root x=some k→k≤nU cw) (λcw an=>⟨_,rfl,rfl,an⟩) λJ ho=>?_;refine avX (Hh g root rs m) (λp x r s b4 jv ef hd=>?_) _ ⟨?_,λc ah=>(by cases ah),λa aA=>?_,Nat.zero_le _,λ_=>rfl,λx u=>(by cases u)⟩ λs ef=>ho _ (key s ef)
  ·obtain⟨ay,cw⟩:=s;have CA:x∈ord:=by rw[jv];simp
   have w3:=DF.mem_iff.1 CA;obtain⟨k,hk⟩:=Option.isSome_iff_exists.1 (aX x w3);have Vj:∀c∈cw,1≤c.Value:=λc ah=>(ef.cut c ah).val.1;have NN:=Qy Vj;dsimp only;refine avS (λs=>Hh g root rs m (p++[x]) s) (λs Z=>hd _ Z) λgv jt=>?_;by_cases Am:x=root
   ·rw[decide_eq_true Am,cond_true];refine jt _ ⟨ef.ay,ef.cut,ef.B6,ef.len,λkH=>ef.nil ?_,λy ai er pF=>?_⟩
    ·rw[List.all_append,Bool.and_eq_true]at kH;exact kH.1
    ·cases p with
     |nil=>
      simp at ai;subst ai;rw[Am,Ds aa aI]at pF;cases pF;exact NN
     |cons z q=>exact ef.val y (by simpa using ai) er pF
   ·rw[decide_eq_false Am,cond_false];have Vk:=ef.ay;simp only at Vk;subst Vk;refine Ok.aM (acd aa aF (D x w3) hk Vj ef.B6) λq bP=>?_;obtain⟨ak,ax,aO,aL,bg⟩:=bP;have eH:=ef.len;simp only at eH;rw[iY (by omega) (by omega)];by_cases Iy:(200:Int)<(cw.length:Int)+(q.1.length:Int)
    ·rw[decide_eq_true Iy,cond_true];cases p with
     |nil=>
      have:=ef.nil rfl;simp only at this;rw[this]at Iy;simp at Iy;omega
     |cons z t=>
      have Z:Hh g root rs m ord (m.map (kM cw),cw):=⟨rfl,ef.cut,ef.B6,ef.len,λkH=>ef.nil (by
       rw[jv,List.all_append,Bool.and_eq_true]at kH;exact kH.1),λy ai er pF=>ef.val y (by rw[jv]at ai;simpa using ai) er pF⟩
      exact ho _ (key _ Z)
    ·rw[decide_eq_false Iy,cond_false,qD (by omega),cZ]
     have akv:∀c∈q.1,zm g root rs c:=λc ah=>by
      have mz:=ax c ah;obtain⟨y,ai,XL⟩:=mz.hit;rw[List.mem_singleton.1 ai]at XL;exact⟨mz.val,mz.rE,mz.ug,mz.ids,x,w3,XL⟩
     have atM:=Qy (l:=q.1) λc ah=>(ax c ah).val.1;refine jt _ ⟨ak,λc ah=>(List.mem_append.1 ah).elim (ef.cut c) (akv c),aO,by simp only[length_append];omega,λkH=>?_,λy ai er pF=>?_⟩
     ·rw[List.all_append,Bool.and_eq_true]at kH;have:=kH.2;simp[Am]at this
     ·simp only;rw[afp];cases p with
      |nil=>
       simp at ai;subst ai;rw[hk]at pF;cases pF
       have:=bg (ef.nil rfl);omega
      |cons z t=>
       have:=ef.val y (by simpa using ai) er pF;simp only at this;omega
  ·show m=m.map (kM []);rw[List.map_congr_left (g:=id) λa _=>Yr a];simp
  ·have:=((Lp aF eZ).cost a aA).1;show(0:Int)≤_;omega
end
section
set_option linter.all false
open Go List
instance atQ:DecidableEq bO:=λa b=>decidable_of_iff (p8 a b=true) (JT a b)
def S9(l:List (bO×Bool))(n:bO)(v:Bool):(nS p8 l n v).map (·.1)=if n∈l.map (·.1)then l.map (·.1)else l.map (·.1)++[n]:=by
 induction l with
 |nil=>simp[nS]
 |cons p r bu=>
  simp only[nS];cases aX:p8 n p.1 with
  |true=>
   have aX:=(JT _ _).1 aX;simp[aX]
  |false=>
   have cA:n≠p.1:=λe=>by rw[(JT n p.1).2 e]at aX;cases aX
   simp only[cond_false,map_cons,bu,mem_cons,cA,false_or];split<;>simp
variable {l:List (bO×Bool)}
def ag2(h:(l.map (·.1)).Nodup)(n:bO)(v:Bool):((nS p8 l n v).map (·.1)).Nodup:=by
 rw[S9];split
 ·exact h
 ·rename_i aX;rw[nodup_append];exact⟨h,by simp,λa aA b U=>by rw[List.mem_singleton]at U;subst U;exact λe=>aX (e▸aA)⟩
def aft{n:bO}{v:Bool}{h:bO}:h∈(nS p8 l n v).map (·.1)↔h=n∨h∈l.map (·.1):=by
 rw[S9];split
 ·rename_i aX;exact⟨.inr,λb0=>b0.elim (λe=>e▸aX) id⟩
 ·rw[List.mem_append,List.mem_singleton,or_comm]
def H9(m:List (bO×Bool))(Z:x2):List (bO×Bool):=Z.foldl (λm h=>nS p8 m h true) m
def RN:∀(Z:x2) (m:List (bO×Bool)),(m.map (·.1)).Nodup→((H9 m Z).map (·.1)).Nodup∧∀h,h∈(H9 m Z).map (·.1)↔h∈Z∨h∈m.map (·.1)
 |[],m,hm=>⟨hm,λh=>by simp[H9]⟩
 |x::r,m,hm=>by
  obtain⟨h1,D⟩:=RN r (nS p8 m x true) (ag2 hm _ _);refine⟨h1,λh=>(D h).trans ?_⟩;rw[aft,mem_cons];constructor
  ·rintro(h|h|h)
   ·exact .inl (.inr h)
   ·exact .inl (.inl h)
   ·exact .inr h
  ·rintro((h|h)|h)
   ·exact .inr (.inl h)
   ·exact .inl h
   ·exact .inr (.inr h)
def RO{β:Type}{K:(Int×List (bO×Bool))→Option β}:∀(l:cO) (j:Nat) (a:Int) (m:List (bO×Bool)),∃z,eE l j (λ(cf:Int) (e2:Int) (gn:(Int×(List (bO×Bool)))→Option _) (aj:Int×(List (bO×Bool)))=>match aj with|(sX,cU)=>gn (e2,nS p8 cU (bO.mk sX e2) true)) K (a,m)=K (z,H9 m (u6 a l))
 |[],j,a,m=>⟨a,rfl⟩
 |x::r,j,a,m=>by
  obtain⟨z,hz⟩:=RO (K:=K) r (j+1) x (nS p8 m (bO.mk a x) true);exact⟨z,hz⟩
def an5{a b:bO}:fC [λx:bO=>x.br,λx:bO=>x.bh] a b<0↔qh a b=true:=by
 rw[qX,qX];simp only[fC,qh];simp
variable {g:bz}
def ZX(aa:ff g){root:Int}(aI:root∈ids g){rs:cO}(h1:rs.Pairwise (·<·))(D:∀x∈rs,x∈ids g)(aJ:rs.length≤100)(aX:∀x∈rs,(gl g root x).isSome=true):
  Ok (FC g root rs) (λr=>r.2=0∧r.1.h9=root∧(∀h,h∈r.1.Links↔∃b∈rs,h∈u6 root (jI g root b))∧r.1.Links.Pairwise λa b=>qh a b=true):=by
 unfold FC;rw[GB _ _ _ (by omega),cZ,GZ aa aI h1 D,decide_eq_true rfl];refine avX (λp (m:List (bO×Bool))=>(m.map (·.1)).Nodup∧∀h,h∈m.map (·.1)↔∃b∈p,h∈u6 root (jI g root b)) (λp x r m b4 jv ef hd=>?_) _ ⟨nodup_nil,λh=>by simp⟩ λm ef=>?_
 ·have w3:x∈rs:=by rw[jv];simp
  obtain⟨k,hk⟩:=Option.isSome_iff_exists.1 (aX x w3);rw[aaU,cZ];have ah:((!decide (x=root))&&(decide (((jI g root x).length:Int)=(0:Int))))=false:=by
   by_cases Am:x=root
   ·rw[decide_eq_true Am];rfl
   ·obtain⟨y,q,_,e⟩:=Ph hk (Ne.symm Am);rw[e,decide_eq_false (by simp;omega:¬(((y::jI g y x).length:Int)=0)),Bool.and_false]
  rw[ah,cond_false];obtain⟨z,hz⟩:=RO (K:=λ(aj:Int×(List (bO×Bool)))=>match aj with|(sX,cU)=>b4 cU) (jI g root x) 0 root m;rw[hz];obtain⟨dc,dg⟩:=RN (u6 root (jI g root x)) m ef.1;refine hd _ ⟨dc,λh=>(dg h).trans ?_⟩;rw[ef.2];constructor
  ·rintro(b3|⟨b,U,b3⟩)
   ·exact⟨x,by simp,b3⟩
   ·exact⟨b,by simp[U],b3⟩
  ·rintro⟨b,U,b3⟩;rcases List.mem_append.1 U with U|U
   ·exact .inr ⟨b,U,b3⟩
   ·rw[List.mem_singleton.1 U]at b3;exact .inl b3
 ·have eH:m.length≤1000:=by
   have:=CT ef.1 (b:=(jW g).map (·.Hop)) λh b0=>by
    obtain⟨b,U,hm⟩:=(ef.2 h).1 b0;obtain⟨_,⟨w,av⟩,_⟩:=(Yf (aX b U)).hop h hm;exact List.mem_map.2 ⟨_,(vY aa).1 av,rfl⟩
   rw[length_map,length_map]at this;exact Nat.le_trans this (GM aa).len
  refine Ok.jF (decide_eq_true (by omega)) ?_;obtain⟨q,dc,dg,gx⟩:=PD (ks:=[λx:bO=>x.br,λx:bO=>x.bh]) (l:=m.map Prod.fst) (ef.1.imp λ{a b} h=>T2 h) (by rw[length_map];omega);rw[dc,cZ];refine⟨_,rfl,rfl,rfl,λh=>?_,gx.imp λ{a b} h=>an5.1 h⟩;rw[dg.mem_iff];exact ef.2 h
def abd{l:wz}(h1:l.length≤140737488351232)(D:∀c∈l,c.bx.length≤140737488351232):Ok (FW l) (λb=>b=true→l.length≤1000∧∀c∈l,c.bx.length≤1000):=by
 unfold FW;refine avT (λs:Int×Int=>∃i:Nat,s.2=(i:Int)∧i≤l.length∧(l.length:Int)≤s.1∧s.1≤140737488360000∧∀c∈l.take i,(c.bx.length:Int)≤s.1) (λs=>if s.1<2000 then((l.length:Int)-s.2).toNat+1 else 0) ⟨0,rfl,Nat.zero_le _,Int.le_refl _,by simp only;omega,λc ah=>by simp at ah⟩ (by simp only;split<;>omega) ?_;rintro⟨n,oc⟩ b4 ⟨i,tN,wV,q2,nM,ah⟩ hd;simp only at tN q2 nM ah hd ⊢;subst tN;by_cases bS:i<l.length∧n<2000
 ·rw[decide_eq_true (by omega:(i:Int)<(l.length:Int)),decide_eq_true bS.2];simp only[Bool.and_self,cond_true];have u:l[i]?=some l[i]:=List.getElem?_eq_getElem bS.1;have hm:=D _ (List.getElem_mem bS.1);rw[fS u,cZ,iY (by omega) (by omega),iY (by omega) (by omega)];refine hd _ ⟨i+1,by simp,bS.1,by simp only;omega,by simp only;omega,λc vG=>?_⟩ (by simp only;rw[if_pos bS.2];split<;>omega);simp only;rw[take_add_one,u,Option.toList_some]at vG;rcases List.mem_append.1 vG with vG|vG
  ·have:=ah c vG;omega
  ·rw[List.mem_singleton.1 vG];omega
 ·have:((decide ((i:Int)<(l.length:Int)))&&(decide (n<(2000:Int))))=false:=by
   by_cases h:i<l.length
   ·rw[decide_eq_false (λb3=>bS ⟨h,b3⟩:¬n<2000),Bool.and_false]
   ·rw[decide_eq_false (by omega),Bool.false_and]
  rw[this,cond_false];refine⟨_,rfl,λU=>?_⟩;have U:=of_decide_eq_true U;have hi:i=l.length:=by
   apply Classical.byContradiction;intro cA;exact bS ⟨by omega,by omega⟩
  subst hi;rw[take_length]at ah;exact⟨by omega,λc vG=>by have:=ah c vG;omega⟩
def ace{s:dL}(Z:jP s){l:wz}(h1:l.length≤1000)(D:∀c∈l,c.bx.length≤1000):Ok (F2 s l) (λp=>jP p.2∧p.1.length≤1001∧∀c∈p.1,c.bx.length≤1001):=by
 unfold F2;rw[qD (by simp;omega),cZ,nil_append];by_cases bJ:l.length=0
 ·rw[decide_eq_true (by omega),cond_true];refine Ok.aM (AX Z) λa aA=>Ok.aM (AX aA.2) λb U=>⟨_,rfl,U.2,by simp,λc ah=>?_⟩;rw[List.mem_singleton.1 ah];simp
 rw[decide_eq_false (by omega),cond_false];refine Ok.aM (sB Z (by omega)) λa aA=>?_;obtain⟨i,dV⟩:=a;obtain⟨⟨iM,a2,_⟩,fc⟩:=aA;simp only at iM a2 fc ⊢;have a2:=a2 (by omega);have hi:i=((i.toNat:Nat):Int):=by omega
 generalize i.toNat=k at hi;subst hi;have hk:k<l.length:=by omega
 have u:l[k]?=some l[k]:=List.getElem?_eq_getElem hk;have w3:=D _ (List.getElem_mem hk);generalize at1:l[k]=x at u w3
 have h8:∀(q:wz) (y:cu),q.length=l.length→jC q (k:Int) y=some (q.set k y):=λq y bP=>by
  unfold jC;rw[if_pos ⟨by omega,by omega⟩,Int.toNat_natCast]
 have sP:∀(q:wz) (y:cu),q.length=l.length→du (q.set k y) (k:Int)=some y:=λq y bP=>fS (by rw[List.getElem?_set,if_pos rfl,if_pos (by omega)])
 have p2:∀(y:cu),y.bx.length≤1001→∀c∈l.set k y,c.bx.length≤1001:=λy ai c ah=>by
  rcases List.mem_or_eq_of_mem_set ah with ah|rfl
  ·have:=D c ah;omega
  ·exact ai
 rw[fS u,cZ,qD (by simp;omega),cZ,nil_append,h8 _ _ rfl,cZ];refine avS (λaj:(wz)×(cO)×Int=>jP (dL.mk aj.2.1 aj.2.2)∧aj.1.length≤1001∧∀c∈aj.1,c.bx.length≤1001) (λaj Cw=>?_) λJ ho=>?_
 ·obtain⟨o,m1,m2⟩:=aj;exact⟨_,rfl,Cw⟩
 refine Ok.aM (sB fc (by omega)) λb U=>?_;have eO:=U.2;refine Ok.cs (λ_=>?_) λ_=>Ok.cs (λ_=>?_) λ_=>Ok.cs (λ_=>?_) λ_=>?_
 ·rw[sP _ _ rfl,cZ];refine Ok.aM (G2 eO (by simp) (by simp)) λp aF=>?_;rw[h8 _ _ (length_set ..),cZ,List.set_set];exact ho _ ⟨aF.2,by rw[length_set];omega,p2 _ (by simp only;omega)⟩
 ·rw[sP _ _ rfl,cZ];simp only;have Xa:0≤Int.tdiv (x.bx.length:Int) 2∧Int.tdiv (x.bx.length:Int) 2≤x.bx.length:=by
   have:Int.tdiv (x.bx.length:Int) 2=(x.bx.length:Int) / 2:=Int.tdiv_eq_ediv_of_nonneg (by omega);omega
  rw[iY (by omega) (by omega)];refine Ok.aM (Ht ⟨by omega,Xa.1,Xa.2⟩) λq bP=>?_;rw[h8 _ _ (length_set ..),cZ,List.set_set];have:=bP.2;exact ho _ ⟨eO,by rw[length_set];omega,p2 _ (by simp only;omega)⟩
 ·rw[sP _ _ rfl,cZ];refine Ok.aM (AX eO) λp aF=>?_;simp only;rw[qD (by simp;omega),cZ,h8 _ _ (length_set ..),cZ,List.set_set];exact ho _ ⟨aF.2,by rw[length_set];omega,p2 _ (by simp;omega)⟩
 ·refine Ok.aM (q4 (by omega) (by rw[length_set];omega)) λe he=>?_;rw[qD (by simp;omega),cZ];refine ho _ ⟨eO,by simp;omega,λc ah=>?_⟩;have rO:=p2 (cu.mk x.bx x.Value) (by simp only;omega);rcases List.mem_append.1 ah with ah|ah
  ·exact rO c ah
  ·rw[List.mem_singleton.1 ah];exact rO e he.1
def aae{s:dL}(Z:jP s)(bw:g.bx.length≤1000)(root:Int):Ok (FL s g root) (λp=>jP p.2∧∀c∈p.1,c.bx.length≤1000):=by
 unfold FL;refine av2 (λ(i:Int) (aj:(wz)×(cO)×Int)=>jP (dL.mk aj.2.1 aj.2.2)∧(aj.1.length:Int)≤i∧∀c∈aj.1,c.bx.length≤1000) 0 3 (λi aj b4 bJ aq ef hd=>?_) (λi aj bJ _ ef=>?_) _ _ _ rfl (by omega) (by omega) ⟨Z,by simp,λc ah=>by cases ah⟩
 ·obtain⟨cw,m1,m2⟩:=aj;obtain⟨l6,l7,i3⟩:=ef;simp only at l6 l7 i3 ⊢;refine avX (λ(p:AU) (aj:(cO)×(cO)×Int)=>jP (dL.mk aj.2.1 aj.2.2)∧aj.1.length≤p.length) (λp x r aj gn jv Nd sJ=>?_) _ ⟨l6,Nat.le_refl _⟩ λaj Nd=>?_
  ·obtain⟨l,hp,hh⟩:=aj;obtain⟨a1,cf⟩:=Nd;simp only at a1 cf ⊢;have oW:p.length<g.bx.length:=by rw[jv];simp
   refine avS (λaj:(cO)×(cO)×Int=>jP (dL.mk aj.2.1 aj.2.2)∧aj.1.length≤(p++[x]).length) (λaj Cw=>sJ _ Cw) λdK iH=>?_;refine avS (λaj:Bool×(cO)×Int=>jP (dL.mk aj.2.1 aj.2.2)) (λaj Cw=>?_) λgv jt=>?_
   ·obtain⟨v,ak,ax⟩:=aj;refine Ok.cs (λ_=>?_) λ_=>iH _ ⟨Cw,by simp;omega⟩;rw[qD (by simp;omega),cZ];exact iH _ ⟨Cw,by simp;omega⟩
   ·refine Ok.cs (λ_=>?_) λ_=>jt _ a1;exact Ok.aM (sB a1 (by omega)) λq bP=>jt _ bP.2
  ·obtain⟨l,hp,hh⟩:=aj;obtain⟨a1,cf⟩:=Nd;simp only at a1 cf ⊢;refine Ok.aM (AX a1) λq bP=>?_;rw[qD (by simp;omega),cZ];refine hd _ ⟨bP.2,by simp;omega,λc ah=>?_⟩;rcases List.mem_append.1 ah with ah|ah
   ·exact i3 c ah
   ·rw[List.mem_singleton.1 ah];simp only;omega
 ·obtain⟨cw,m1,m2⟩:=aj;exact⟨_,rfl,ef.1,ef.2.2⟩
end
section
set_option linter.all false
open Go List
def abe{g:bz}{root:Int}{ts:cO}{x:g2×Int×Int}(h:KU g root ts x):(x.2.2=0∧zb (jW g) root ts x.1.Links x.2.1∧∀t∈ts,gE gp (jW g) root t)∨(x.2.2=9∧¬∀t∈ts,gE gp (jW g) root t):=by
 rcases h with⟨h1,_,D⟩|⟨rfl,h⟩
 ·refine .inl ⟨h1,D,λt b5=>?_⟩;obtain⟨⟨H,nI,_,_⟩,_⟩:=D;exact(nI.x6 t b5).mono nI.sub
 ·exact .inr ⟨rfl,h⟩
end
section
set_option linter.all false
open Go List
variable {g:bz}{root:Int}{rs:cO}
def afv(aa:ff g){c:cu}(h:zm g root rs c):c.bx.length≤24:=by
 have h1:=CT (a:=c.bx) (b:=ids g) (h.rE.imp λ{a b} h=>by omega) h.ids;exact Nat.le_trans h1 (Dr aa)
def RP{l:wz}(c1:xU g root rs l){Z:x2}{c:Int}(h:zb (jW g) root rs Z c):nU l≤c:=by
 obtain⟨⟨H,nI,rfl,_⟩,_⟩:=h;exact aa8 c1 nI.sub λt b5=>nI.x6 t b5
def aqT(t:cO)(jR:wz)(h1:jR.length≤140737488351232)(D:∀c∈jR,c.bx.length≤140737488351232):I6 t jR=some true:=by
 unfold I6;refine Ok.eq (Ok.aM (abd h1 D) λb U=>?_);cases b with
 |false=>rw[Lq];exact⟨_,rfl,rfl⟩
 |true=>
 obtain⟨qv,sN⟩:=U rfl;simp only[Bool.not_true,cond_false];refine Ok.aM (akk t) λs Z=>Ok.aM (ZS Z (by omega)) λp aF=>?_;obtain⟨g,t1⟩:=p;obtain⟨bw,b5⟩:=aF;have aa:ff g:=bw.v;have NO:=aa.ug;have q2:1≤g.bx.length:=bw.n.1;dsimp only;refine YS (g:=g) b5 (by omega) λq r bP aI sR=>?_;refine Ok.aM (acq (g:=g) bP (by omega) (by omega)) λl aJ=>?_;obtain⟨a,t2⟩:=l;obtain⟨⟨iM,a2,a3⟩,IK⟩:=aJ;simp only at iM a2 a3 IK ⊢;by_cases aX:∀x∈a,(gl g r.cS x).isSome=true
 rotate_left
 ·rw[aaW aa sR iM a2 (by omega) (by
   apply Classical.byContradiction;intro cA;refine aX λx u=>?_;cases af:gl g r.cS x with
   |none=>exact absurd ⟨x,u,af⟩ cA
   |some k=>rfl),cZ,Lq]
  exact⟨_,rfl,rfl⟩
 obtain⟨⟨cw,l0⟩,dc,dg,gx,mh⟩:=abc aa sR iM a2 (by omega) aX;simp only at dg gx mh;subst dg;rw[dc,cZ];simp only[decide_true,Bool.not_true,cond_false];have Wb:∀c∈cw,c.bx.length≤24:=λc ah=>afv aa (gx.2.1 c ah);obtain⟨v,hP,iL,_⟩:=YW aa sR iM a2 (by omega) (l:=cw) λc ah=>by have:=Wb c ah;omega
 have iL:=iL gx;subst iL;rw[hP,cZ];refine⟨true,?_,rfl⟩;refine YT aa sR iM a2 (by omega) λKH ah=>?_;rcases abe ah with⟨bk,bK,cq⟩|⟨_,bK⟩
 rotate_left
 ·exact absurd (λx u=>(acB aa sR (a2 x u)).1 (aX x u)) bK
 obtain⟨⟨apU,aK⟩,dV,eu,s3,Yg,Yh⟩:=ZX aa sR iM a2 (by omega) aX;obtain⟨rt,L⟩:=apU;simp only at eu s3 Yg Yh;subst eu s3;rw[dV,cZ];have aT:=afr aa sR aX Yg Yh;have amt:=afs aa sR aT (us:=[]) (by simp) (by simp) (by simp);have qw:H7 g (g2.mk r.cS L)=(D0 g L,0):=by
  unfold H7;rw[amt];rfl
 have jv:=aT.len;rw[afn g _ (by simp only;omega),cZ,qw];have d1:=RP gx bK;have d2:=aba aa aT bK;simp only;rw[bk,decide_eq_false (by omega:¬KH.2.1<nU cw),decide_eq_false (by omega:¬D0 g L<KH.2.1)];simp only[decide_true,Bool.not_true,Bool.or_self,cond_false]
 rw[Dt (λ_:Int=>false) (some false) a 0 () (λj x b4 s u=>by
  obtain⟨k,hk⟩:=Option.isSome_iff_exists.1 (aX x u);have amu:uk g r.cS x=(k,true):=by unfold uk;rw[hk];rfl
  have:=mh x u k hk;rw[aa5,cZ,amu,decide_eq_false (by simp only;omega:¬nU cw<(k,true).1),decide_eq_false (by simp only;omega:¬KH.2.1<(k,true).1)];rfl)]
 rw[List.any_eq_false.2 (λ_ _=>by simp),cond_false];obtain⟨⟨wE,t3⟩,ec,dY,hb,j3⟩:=ace IK (l:=cw) (by have:=gx.1;omega) λc ah=>by have:=Wb c ah;omega
 simp only at dY hb j3;rw[ec,cZ];obtain⟨⟨sl,t4⟩,nF,pS,z3⟩:=aae dY (g:=g) (by omega) r.cS;simp only at z3;dsimp only;rw[nF,cZ];dsimp only
 rw[Dt (λ_:wz=>false) (some false) [jR,wE,sl] 0 () (λj w b4 s av=>by
  have eH:∀c∈w,c.bx.length≤1000000:=by
   simp only[mem_cons,not_mem_nil,or_false]at av;rcases av with rfl|rfl|rfl
   ·intro c ah;have:=sN c ah;omega
   ·intro c ah;have:=j3 c ah;omega
   ·intro c ah;have:=z3 c ah;omega
  obtain⟨v,hP,iL,me⟩:=YW aa sR iM a2 (by omega) (l:=w) eH;rw[hP,cZ];by_cases c1:xU g r.cS a w
  ·rw[iL c1];have:=RP c1 bK;rw[decide_eq_false (by simp only;omega:¬KH.2.1<(nU w,(0:Int)).1),Bool.and_false]
  ·rw[me c1];rfl)]
 rw[List.any_eq_false.2 (λ_ _=>by simp),cond_false,Lq];rfl
end
end Go.Proofs.YtmnbolcmepihlaaGreat
