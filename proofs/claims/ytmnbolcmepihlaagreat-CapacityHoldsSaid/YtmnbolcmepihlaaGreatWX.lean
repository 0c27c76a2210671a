/- Several texts in one. No condition but those that stand in each. -/
import Derived.Test.YtmnbolcmepihlaaGreatAV
namespace Go.Proofs.YtmnbolcmepihlaaGreat
set_option linter.all false
open Go
theorem C5{m:List (Int×Int)}{v:Int}(h:ch m v<2305843009213693951):bT m v=some (ch m v):=by
 unfold ch at h ⊢;cases bl:bT m v with
 |none=>rw[bl]at h;simp at h
 |some c=>rfl
theorem W1{m:List (Int×Int)}{v c:Int}(h:bT m v=some c):ch m v=c:=by unfold ch;rw[h];rfl
theorem Dq{α:Type}{l:List α}{S:Nat}(h:S<l.length):∃x,l[S]?=some x:=⟨l[S],List.getElem?_eq_getElem h⟩
theorem NY{rows:List (List (Int×Int))}{S:Nat}{m:List (Int×Int)}(h:rows[S]?=some m):gu rows S=m:=by
 unfold gu;rw[List.getD_eq_getElem?_getD,h];rfl
theorem V0{S P:Nat}(fc:S<2 ^ 60)(mW:P<S)(h:P &&& S=P):P &&& iA S P=0∧P ||| iA S P=S:=by
 have V:=GD (a:=S) (b:=P) fc (by omega);have aB:∀i,(P.testBit i&&S.testBit i)=P.testBit i:=λi=>by rw[←Nat.testBit_and,h]
 constructor
 ·apply Nat.eq_of_testBit_eq;intro i;rw[Nat.testBit_and,V,Nat.zero_testBit];cases P.testBit i<;>simp
 ·apply Nat.eq_of_testBit_eq;intro i;have:=aB i;rw[Nat.testBit_or,V];cases h1:P.testBit i<;>cases D:S.testBit i<;>rw[h1,D]at this<;>simp at this ⊢
theorem WQ{S P R:Nat}(fc:S<2 ^ 60)(mW:P<2 ^ 60)(bJ:P &&& R=0)(h:P ||| R=S):R=iA S P∧P &&& S=P:=by
 have V:=GD (a:=S) (b:=P) fc mW;have hz:∀i,(P.testBit i&&R.testBit i)=false:=λi=>by rw[←Nat.testBit_and,bJ,Nat.zero_testBit]
 have aj:∀i,(P.testBit i||R.testBit i)=S.testBit i:=λi=>by rw[←Nat.testBit_or,h]
 constructor
 ·apply Nat.eq_of_testBit_eq;intro i;have h1:=hz i;have D:=aj i;rw[V,←D];cases aB:P.testBit i<;>cases ax:R.testBit i<;>rw[aB,ax]at h1<;>simp at h1 ⊢
 ·apply Nat.eq_of_testBit_eq;intro i;have D:=aj i;rw[Nat.testBit_and,←D];cases P.testBit i<;>simp
section
variable {aL:List bL}{ts:List Int}{rows:List (List (Int×Int))}{steps:List (List (Int×(Int×Int)))}
theorem Ns(h:uL aL ts rows steps)(dR:ob aL)(xG:rows.length≤64):∀(S:Nat),S<rows.length→∀(n:Nat) (v c:Int),c.toNat=n→bT (gu rows S) v=some c→∃fH,l5 fU aL ts.length (λi=>ts.getD i 0) S v fH∧gX fU fH=c∧nQ steps (S:Int) v (fH.map (·.Hop)):=by
 intro S;induction S using Nat.strongRecOn with
 |_ S xY=>
  intro fc n;induction n using Nat.strongRecOn with
  |_ n SM=>
   intro v c R3 af;obtain⟨m1,r3⟩:=Dq fc;obtain⟨m2,vK⟩:=Dq (l:=steps) (S:=S) (by rw[h.len];exact fc);have ny:=h.row S m1 m2 r3 vK;rw[NY r3]at af SM;obtain⟨⟨anG,R2⟩,ki⟩:=ny.j.ok v c af;have xO:dj steps (S:Int)=some m2:=by unfold dj;rw[if_pos (by omega),Int.toNat_natCast];exact vK
   rcases ki with⟨u,a,aC,h1,D,ak⟩|⟨u,P,h1,D,ak,bc,bX,dV,fF⟩|⟨u,i,h1,D,ak⟩
   ·have aa:=dR.cost a aC;have ag0:=ny.hop a aC;rw[h1,D,W1 af]at ag0;have BZ:ch m1 ((bT m2 v).getD (0,0)).1=c-a.gr:=by omega
    have hk:bT m1 ((bT m2 v).getD (0,0)).1=some (c-a.gr):=by rw[←BZ];exact C5 (by omega)
    have bJ:=(ny.j.bd ((bT m2 v).getD (0,0)).1).1;obtain⟨fH,cF,cW,ht⟩:=SM (c-a.gr).toNat (by omega) _ (c-a.gr) rfl hk;refine⟨a::fH,?_,by rw[o6,cW];show a.gr+_=_;omega,?_⟩
    ·have:=l5.hop (N:=fU) a aC (show l5 fU aL ts.length (λi=>ts.getD i 0) S (fU.dst a) fH by show l5 _ _ _ _ S a.Hop.aQ fH;rw[D];exact cF);have e:fU.src a=v:=h1;rw[e]at this;exact this
    ·have e:(a::fH).map (·.Hop)=bh.mk v ((bT m2 v).getD (0,0)).1::fH.map (·.Hop):=by
      rw[List.map_cons,←D,←h1]
     rw[e];exact nQ.next xO rfl u ht
   ·have b2:=Mu (by omega) D ak bc;obtain⟨fH,cF,cW,ht⟩:=xY P ak (by omega) _ v _ rfl (C5 dV);obtain⟨Vg,gK,dN,k8⟩:=xY (iA S P) b2 (by omega) _ v _ rfl (C5 fF);obtain⟨bU,cG⟩:=V0 (S:=S) (P:=P) (by omega) ak bc;refine⟨fH++Vg,?_,by rw[VD,cW,dN,bX],?_⟩
    ·have:=l5.part bU cF gK;rw[cG]at this;exact this
    ·rw[List.map_append];refine nQ.part xO rfl u (by rw[h1];omega) rfl (by rw[h1];exact ht) ?_;rw[h1,LI (by omega)];exact k8
   ·refine⟨[],?_,by rw[ak];rfl,nQ.leaf xO u⟩;have e:ts.getD i 0=v:=by rw[List.getD_eq_getElem?_getD,h1];rfl
    have:=l5.one (N:=fU) (L:=aL) (k:=ts.length) (ts:=λi=>ts.getD i 0) i (List.getElem?_eq_some_iff.1 h1).1;simp only[e]at this;rw[D];exact this
theorem W2(h:uL aL ts rows steps)(dR:ob aL)(aJ:rows.length=2 ^ ts.length)(xG:rows.length≤64):Hy fU aL ts.length (λi=>ts.getD i 0) (λS v=>ch (gu rows S) v):=by
 have F:∀S,S<rows.length→∃m2,A3 aL ts rows S (gu rows S) m2:=λS fc=>by
  obtain⟨m1,r3⟩:=Dq fc;obtain⟨m2,vK⟩:=Dq (l:=steps) (S:=S) (by rw[h.len];exact fc);exact⟨m2,by rw[NY r3];exact h.row S m1 m2 r3 vK⟩
 refine⟨λa aC=>by have:=(dR.cost a aC).1;show 0≤a.gr;omega,λi hi=>?_,λS bJ fc a aC=>?_,λS P R fc mW b2 bJ aj v=>?_⟩
 ·obtain⟨m2,ny⟩:=F (2 ^ i) (by rw[aJ];exact Nat.pow_lt_pow_right (by omega) hi);refine ny.one i _ ?_ rfl;rw[List.getD_eq_getElem?_getD,List.getElem?_eq_getElem hi];rfl
 ·obtain⟨m2,ny⟩:=F S (by rw[aJ];exact fc);exact ny.hop a aC
 ·obtain⟨m2,ny⟩:=F S (by rw[aJ];exact fc);have bQ:=yj bJ aj b2;obtain⟨aA,e2⟩:=WQ (S:=S) (P:=P) (by omega) (by omega) bJ aj;have:=ny.j.part P v ⟨mW,bQ,e2⟩;rw[←aA]at this;exact this
theorem x0:∀{l:List bL},(∀a∈l,1≤a.gr∧a.gr≤1000)→(l.length:Int)≤gX fU l∧gX fU l≤1000*l.length
 |[],_=>by simp[gX]
 |a::l,h=>by
  have h1:=h a (by simp);have D:=x0 λb V=>h b (List.mem_cons.2 (.inr V));rw[o6,List.length_cons];have:fU.cost a=a.gr:=rfl;omega
theorem Nt{k i:Nat}:(2 ^ k-1).testBit i=decide (i<k):=by rw[Nat.testBit_two_pow_sub_one]
theorem OO{v:Int}{K:List bL}:(∀i,(2 ^ ts.length-1).testBit i=true→eR fU K v (ts.getD i 0))↔∀t,t∈ts→eR fU K v t:=by
 constructor
 ·intro h t bB;obtain⟨i,hi⟩:=List.getElem?_of_mem bB;have:=h i (by rw[Nt];exact decide_eq_true (List.getElem?_eq_some_iff.1 hi).1)
  rwa [List.getD_eq_getElem?_getD,hi]at this
 ·intro h i hi;rw[Nt]at hi;have hi:=of_decide_eq_true hi;refine h _ ?_;rw[List.getD_eq_getElem?_getD,List.getElem?_eq_getElem hi];exact List.getElem_mem hi
theorem Nu(h:uL aL ts rows steps)(dR:ob aL)(aJ:rows.length=2 ^ ts.length)(hk:ts.length≤6)(h1:1≤ts.length){root:Int}:
  (2305843009213693951≤ch (gu rows (2 ^ ts.length-1)) root→¬∀t,t∈ts→eR fU aL root t)∧
  (ch (gu rows (2 ^ ts.length-1)) root<2305843009213693951→∃fH:List bL,kH fU aL (λt=>t∈ts) root fH∧gX fU fH=ch (gu rows (2 ^ ts.length-1)) root∧nQ steps ((2 ^ ts.length-1:Nat):Int) root (fH.map (·.Hop))):=by
 have xG:rows.length≤64:=by rw[aJ];exact Nat.le_trans (Nat.pow_le_pow_right (by omega) hk) (by decide)
 have ahj:=W2 h dR aJ xG;have p4:2 ^ 1≤2 ^ ts.length:=Nat.pow_le_pow_right (by omega) h1
 have hle:∀K,(∀a∈K,a∈aL)→(∀t,t∈ts→eR fU K root t)→ch (gu rows (2 ^ ts.length-1)) root≤gX fU K:=λK fz aa=>
  ahj.le K.length K (Nat.le_refl _) fz (2 ^ ts.length-1) (by omega) (by omega) root (OO.2 aa)
 constructor
 ·intro be aa;have D:=hle aL (λa aC=>aC) aa;have ak:=(x0 dR.cost).2;have bc:=dR.len;omega
 ·intro be;obtain⟨fH,cF,cW,ht⟩:=Ns h dR xG (2 ^ ts.length-1) (by omega) _ root _ rfl (C5 be);refine⟨fH,⟨cF.sub,λa aC=>by have:=(dR.cost a aC).1;show 0<a.gr;omega,OO.1 cF.qJ,λK fz aa=>by rw[cW];exact hle K fz aa⟩,cW,ht⟩
end
end Go.Proofs.YtmnbolcmepihlaaGreat
namespace Go.Proofs.YtmnbolcmepihlaaGreat
set_option linter.all false
open Go Go.Proofs.Tryz
theorem UP{α:Type}{eE:α→α→Int}(bB:∀a b c,eE a b<0→eE b c<0→eE a c<0){x:α}:∀{l:List α},(l.Pairwise λa b=>eE a b<0)→(∀y∈l,eE x y<0∨eE y x<0)→(yL eE x l).Pairwise λa b=>eE a b<0
 |[],_,_=>by simp[yL]
 |y::r,h,u=>by
  rw[List.pairwise_cons]at h;simp only[yL];split
  ·rename_i Ck;rw[List.pairwise_cons];refine⟨λz hz=>?_,UP bB h.2 λz hz=>u z (by simp[hz])⟩;rcases List.mem_cons.1 ((LP eE x r).mem_iff.1 hz)with rfl|hz
   ·exact Ck
   ·exact h.1 z hz
  ·rename_i Ck;have n5:eE x y<0:=by rcases u y (by simp)with q|q;exact q;exact absurd q Ck
   rw[List.pairwise_cons];refine⟨λz hz=>?_,List.pairwise_cons.2 h⟩;rcases List.mem_cons.1 hz with rfl|hz
   ·exact n5
   ·exact bB _ _ _ n5 (h.1 z hz)
theorem K5{α:Type}{eE:α→α→Int}(bB:∀a b c,eE a b<0→eE b c<0→eE a c<0):∀{l:List α},(l.Pairwise λa b=>eE a b<0∨eE b a<0)→(qb eE l).Pairwise λa b=>eE a b<0
 |[],_=>by simp[qb]
 |x::r,h=>by
  rw[List.pairwise_cons]at h;exact UP bB (K5 bB h.2) λy ah=>h.1 y ((xZ eE r).mem_iff.1 ah)
theorem UQ{α:Type}{eE:α→α→Int}:∀{l:List α},(l.Pairwise λa b=>eE a b<0)→w9 eE l=true
 |[],_=>rfl
 |[x],_=>rfl
 |a::b::r,h=>by
  rw[List.pairwise_cons]at h;simp only[w9,Bool.and_eq_true,decide_eq_true_eq];exact⟨h.1 b (by simp),UQ h.2⟩
theorem Gc{α:Type}{ks:List (α→Int)}{l:List α}(h:l.Pairwise λa b=>fL ks a b<0∨fL ks b a<0)(aJ:l.length≤1000000):∃m,m0 (fL ks) l=some m∧m.Perm l∧m.Pairwise λa b=>fL ks a b<0:=by
 have h1:=K5 (x3 ks) h;refine⟨qb (fL ks) l,?_,xZ _ _,h1⟩;unfold m0;have:(decide (l.length<4611686018427387904))=true:=by simp;omega
 rw[UQ h1,this];rfl
variable {aL:List bL}
theorem Me{T:Int→Prop}{root:Int}{fH:List bL}(dR:ob aL)(h:kH fU aL T root fH)(aJ:fH.length≤1000000):∃m,m0 (fL [λx:bh=>x.bg,λx:bh=>x.aQ]) (fH.map (·.Hop))=some m∧m.Perm (fH.map (·.Hop))∧m.Pairwise λa b=>fL [λx:bh=>x.bg,λx:bh=>x.aQ] a b<0:=by
 refine Gc ?_ (by simpa using aJ);rw[List.pairwise_map];have fm:fH.Pairwise λa b=>a≠b:=h.nodup;refine fm.imp_of_mem λ{a b} aC V iN=>?_;have ct:a.Hop≠b.Hop:=λe=>iN (dR.hop a (h.sub a aC) b (h.sub b V) e);rw[o5,o5,o5,o5];have D:a.Hop.bg≠b.Hop.bg∨a.Hop.aQ≠b.Hop.aQ:=by
  apply Classical.byContradiction;intro aT;have aA:a.Hop.bg=b.Hop.bg:=Classical.byContradiction λx=>aT (.inl x);have e2:a.Hop.aQ=b.Hop.aQ:=Classical.byContradiction λx=>aT (.inr x);apply ct;cases agi:a.Hop;cases hf:b.Hop
  rw[agi,hf]at aA e2;simp only at aA e2;rw[aA,e2]
 simp only[fL];omega
theorem Z5{eY:List (List (Int×(Int×Int)))}{s r:Int}{H:List bh}(h:nQ eY s r H):∀qB,nQ eY s r qB→H=qB:=by
 induction h with
 |leaf h aT=>
  intro qB dc;cases dc with
  |leaf _ _=>rfl
  |next D u mj _=>rw[h]at D;cases D;rw[aT]at u;subst u;exact absurd rfl mj
  |part D u _ mj _ _ _=>rw[h]at D;cases D;rw[aT]at u;subst u;exact absurd rfl mj
 |next h u aT _ bD=>
  intro qB dc;cases dc with
  |leaf D mj=>rw[h]at D;cases D;rw[mj]at u;subst u;exact absurd rfl aT
  |next D gb _ oB=>rw[h]at D;cases D;rw[u]at gb;subst gb;rw[bD _ oB]
  |part D gb ak _ _ _ _=>rw[h]at D;cases D;rw[u]at gb;subst gb;exact absurd ak aT
 |part h u h1 aT W _ _ Kl Cr=>
  intro qB dc;cases dc with
  |leaf D mj=>rw[h]at D;cases D;rw[mj]at u;subst u;exact absurd rfl aT
  |next D gb mj _=>rw[h]at D;cases D;rw[u]at gb;subst gb;exact absurd h1 mj
  |part D gb _ _ eA s2 oB=>rw[h]at D;cases D;rw[u]at gb;subst gb;subst W;subst eA;rw[Kl _ s2,Cr _ oB]
theorem ajy{β:Type}{root:Int}{ts:List Int}{K:(List bh×Int×Bool)→Option β}{r:β}(hm:Cn aL root ts K=some r):
  gi prog 63 [] [.aX false (aD eo aL),.int .i64 root,.aX false (aD bq ts)] (λa az=>az=[]∧∃x,K x=some r∧a=.cD [.aX false (aD b1 x.1),.int .i64 x.2.1,.bool x.2.2]):=by
 unfold Cn at hm;split at hm
 rotate_left
 ·cases hm
 rename_i aa;obtain⟨dR,hk⟩:=aa;have me:=VX hm
 have Gw:∀(fH:List bL),kH fU aL (λt=>t∈ts) root fH→fH.length≤1000000:=λfH i0=>by
  have h1:=(x0 λa aC=>dR.cost a (i0.sub a aC)).1;have D:=i0.min aL (λa aC=>aC) (λt bB=>(i0.qJ t bB).mono i0.sub);have ak:=(x0 dR.cost).2;have bc:=dR.len;omega
 have aq:=VE (aL:=aL) (root:=root) (ts:=ts) hk (λa aC=>⟨by have:=dR.cost a aC;omega,dR.to a aC⟩) (λrows steps aJ ny be=>by
  by_cases r9:1≤ts.length
  ·obtain⟨fH,cF,cW,ht⟩:=(Nu ny dR aJ hk r9 (root:=root)).2 be;have W:=Gw fH cF;obtain⟨m,hm,_⟩:=Me dR cF W;exact⟨_,ht,by simpa using W,m,hm⟩
  ·have bJ:ts=[]:=List.eq_nil_of_length_eq_zero (by omega);subst bJ;have gO:rows.length=1:=aJ;obtain⟨m2,vK⟩:=Dq (l:=steps) (S:=0) (by rw[ny.len,gO];omega);obtain⟨fH,cF,cW,ht⟩:=Ns ny dR (by omega) 0 (by omega) _ root _ rfl (C5 be);exfalso
   have:∀{S:Nat} {v:Int} {H:List bL},l5 fU aL 0 (λi=>([]:List Int).getD i 0) S v H→False:=λh=>by
    induction h with
    |one i hi=>omega
    |hop _ _ _ bD=>exact bD
    |part _ _ _ bD _=>exact bD
   exact this cF)
 refine aq.mono ?_;rintro a s ⟨rfl,x,u,rfl⟩;refine⟨rfl,x,me x ?_,rfl⟩;by_cases r9:ts=[]
 ·rw[u.nil r9]
  have i0:kH fU aL (λt=>t∈ts) root []:=by
   refine⟨λa aC=>(by cases aC),λa aC=>by have:=(dR.cost a aC).1;show 0<a.gr;omega,λt bB=>(by rw[r9]at bB;cases bB),λK fz _=>?_⟩;have:=(x0 λa aC=>dR.cost a (fz a aC)).1;have e:gX fU ([]:List bL)=0:=rfl;rw[e];omega
  exact .inl ⟨rfl,⟨[],i0,rfl,List.Perm.refl _⟩,List.Pairwise.nil⟩
 ·have h1:1≤ts.length:=by cases ahN:ts with|nil=>exact absurd ahN r9|cons _ _=>simp
  obtain⟨rows,steps,aJ,ny,h⟩:=u.rows r9;have kz:=Nu ny dR aJ hk h1 (root:=root);rcases h with⟨be,rfl⟩|⟨be,H,s0,W,ax⟩
  ·exact .inr ⟨rfl,kz.1 be⟩
  ·refine .inl ⟨by rw[ax],?_⟩;obtain⟨fH,cF,cW,ht⟩:=kz.2 be;have e:=Z5 s0 _ ht;subst e;obtain⟨m,r3,vK,ahm⟩:=Me dR cF (Gw fH cF);rw[r3]at W;have e2:=Option.some.inj W;refine⟨⟨fH,cF,by rw[cW,ax],by rw[←e2];exact vK⟩,by rw[←e2];exact ahm⟩
end Go.Proofs.YtmnbolcmepihlaaGreat
