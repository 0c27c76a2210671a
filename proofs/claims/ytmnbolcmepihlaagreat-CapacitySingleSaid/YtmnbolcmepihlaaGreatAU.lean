/- Plain: what the solver of oz trees keeps, set by set. No condition but aX aL stand in each. -/
import Derived.Test.YtmnbolcmepihlaaGreatAT
namespace Go.Proofs.YtmnbolcmepihlaaGreat
set_option linter.all false
open Go
def fH(a b:Nat):Nat:=(BitVec.ofNat 64 a &&& ~~~ BitVec.ofNat 64 b).toNat
variable {a b:Nat}
theorem vq(ha:a<2 ^ 60)(hb:b<2 ^ 60)(i:Nat):(fH a b).testBit i=(a.testBit i&&!b.testBit i):=by
 unfold fH;rw[BitVec.toNat_and,Nat.testBit_and,BitVec.toNat_ofNat,Nat.mod_eq_of_lt (by omega)];by_cases hi:i<64
 ·congr 1;rw[←BitVec.getLsbD,BitVec.getLsbD_not,BitVec.getLsbD_ofNat];simp[hi]
 ·have:a.testBit i=false:=Nat.testBit_lt_two_pow (Nat.lt_of_lt_of_le ha (Nat.pow_le_pow_right (by omega) (by omega)));rw[this];rfl
theorem aaH(ha:a<2 ^ 60):fH a b≤a:=by
 unfold fH;rw[BitVec.toNat_and,BitVec.toNat_ofNat,Nat.mod_eq_of_lt (by omega)];exact Nat.and_le_left
theorem vr(ha:a<2 ^ 60)(hb:b<2 ^ 60):eZ .and .i64 (a:Int) (b:Int)=((a &&& b:Nat):Int):=by
 have h1:(a &&& b)≤a:=Nat.and_le_left;show w64 (((BitVec.ofInt 64 (a:Int) &&& BitVec.ofInt 64 (b:Int)).toNat:Nat):Int)=_;rw[BitVec.ofInt_natCast,BitVec.ofInt_natCast,BitVec.toNat_and,BitVec.toNat_ofNat,BitVec.toNat_ofNat,Nat.mod_eq_of_lt (by omega),Nat.mod_eq_of_lt (by omega)];exact cM (by omega) (by omega)
theorem wZ(ha:a<2 ^ 60):eZ .andNot .i64 (a:Int) (b:Int)=((fH a b:Nat):Int):=by
 have h1:=aaH (a:=a) (b:=b) ha;show w64 (((BitVec.ofInt 64 (a:Int) &&& ~~~ BitVec.ofInt 64 (b:Int)).toNat:Nat):Int)=_;rw[BitVec.ofInt_natCast,BitVec.ofInt_natCast];exact cM (by show -9223372036854775808≤((fH a b:Nat):Int);omega) (by show((fH a b:Nat):Int)≤_;omega)
theorem vt:∀(p S q:Nat),p &&& S=p→q &&& S=q→q<p→q≤(p-1) &&& S:=by
 intro p;induction p using Nat.strongRecOn with
 |_ p ih=>
  intro S q hp hq hlt
  have d2:∀a b:Nat,(a &&& b) / 2=a / 2 &&& b / 2:=λa b=>by
   have:=Nat.and_div_two_pow (a:=a) (b:=b) (n:=1);simpa using this
  have m2:∀a b:Nat,(a &&& b)%2=(a%2) &&& (b%2):=λa b=>by
   have:=Nat.and_mod_two_pow (a:=a) (b:=b) (n:=1);simpa using this
  have hp2:p / 2 &&& S / 2=p / 2:=by rw[←d2,hp]
  have hq2:q / 2 &&& S / 2=q / 2:=by rw[←d2,hq]
  have hq3:(q%2) &&& (S%2)=q%2:=by rw[←m2,hq]
  have hp3:(p%2) &&& (S%2)=p%2:=by rw[←m2,hp]
  have e2:=d2 (p-1) S;have e3:=m2 (p-1) S;rcases Nat.mod_two_eq_zero_or_one p with hpm|hpm
  ·have h1:(p-1) / 2=p / 2-1:=by omega
   have h2:(p-1)%2=1:=by omega
   have h3:=ih (p / 2) (by omega) (S / 2) (q / 2) hp2 hq2 (by omega);rw[h1]at e2;rw[h2]at e3;have h4:1 &&& (S%2)=S%2:=by rcases Nat.mod_two_eq_zero_or_one S with h|h<;>rw[h]<;>rfl
   rw[h4]at e3;have h5:q%2≤S%2:=by rw[←hq3];exact Nat.and_le_right
   omega
  ·have h1:(p-1) / 2=p / 2:=by omega
   rw[h1,hp2]at e2;omega
variable {S:Nat}
theorem s6(p:Nat):(a &&& S) &&& S=a &&& S:=by
 rw[Nat.and_assoc,Nat.and_self]
theorem aik(i:Nat):2 ^ i &&& (2 ^ i-1)=0:=by
 apply Nat.eq_of_testBit_eq;intro j;rw[Nat.testBit_and,Nat.testBit_two_pow,Nat.testBit_two_pow_sub_one];by_cases h:i=j
 ·subst h;simp
 ·simp[h]
def dD(rows:List (List (Int×Int)))(S:Nat):List (Int×Int):=rows.getD S []
def qH(aq:List ai)(ts:List Int)(rows:List (List (Int×Int)))(S:Nat)(m:List (Int×Int))(v c:Int)(x:Int×Int):Prop:=
 (x.1≠0∧∃a∈aq,a.Hop.aD=v∧a.Hop.To=x.1∧a.cU+atM m x.1≤c)∨
 (x.1=0∧∃P:Nat,x.2=(P:Int)∧0<P∧P<S∧P &&& S=P∧c=atM (dD rows P) v+atM (dD rows (fH S P)) v∧atM (dD rows P) v<2305843009213693951∧atM (dD rows (fH S P)) v<2305843009213693951)∨
 (x=(0,0)∧∃i,ts[i]?=some v∧S=2 ^ i∧c=0)
variable {aq:List ai}{c:Int}{m m':List (Int×Int)}{rows:List (List (Int×Int))}{ts:List Int}{x:Int×Int}
theorem qH.mono{v:Int}(h:qH aq ts rows S m v c x)(hle:∀r,atM m' r≤atM m r):qH aq ts rows S m' v c x:=by
 rcases h with⟨h1,a,h2,h3,h4,h5⟩|h|h
 ·have:=hle x.1;exact .inl ⟨h1,a,h2,h3,h4,by omega⟩
 ·exact .inr (.inl h)
 ·exact .inr (.inr h)
theorem abp{α:Type}(n:Int)(v:α):∀l:List (Int×α),(bG l n v).map (·.1)=if n∈l.map (·.1)then l.map (·.1)else l.map (·.1)++[n]
 |[]=>by simp[bG]
 |p::r=>by
  unfold bG;by_cases hp:p.1=n
  ·simp[hp]
  ·have hn:¬n=p.1:=λe=>hp e.symm;rw[if_neg hp,List.map_cons,abp n v r];simp only[List.map_cons,List.mem_cons,hn,false_or];split<;>rfl
theorem alL{α:Type}{n:Int}{v:α}{l:List (Int×α)}(h:(l.map (·.1)).Nodup):((bG l n v).map (·.1)).Nodup:=by
 rw[abp];split
 ·exact h
 ·rename_i hn;rw[List.nodup_append];exact⟨h,by simp,λa ha b hb=>by rw[List.mem_singleton.1 hb];exact λe=>hn (e▸ha)⟩
theorem yu{α:Type}{n:Int}{v:α}:∀{l:List (Int×α)},(l.map (·.1)).Nodup→(n,v)∈l→aT l n=some v
 |[],_,h=>by cases h
 |p::r,hn,h=>by
  rw[gz];simp only[List.map_cons,List.nodup_cons]at hn;rcases List.mem_cons.1 h with h|h
  ·rw[←h];simp
  ·have:¬p.1=n:=λe=>hn.1 (List.mem_map.2 ⟨(n,v),h,e.symm⟩);rw[if_neg this];exact yu hn.2 h
theorem yw{α:Type}{n:Int}{v:α}:∀{l:List (Int×α)},aT l n=some v→(n,v)∈l
 |[],h=>by simp[aT]at h
 |p::r,h=>by
  rw[gz]at h;split at h
  ·rename_i hp;cases h;exact List.mem_cons.2 (.inl (by rw[←hp]))
  ·exact List.mem_cons.2 (.inr (yw h))
structure jo(aq:List ai)(ts:List Int)(rows:List (List (Int×Int)))(S:Nat)(D:Nat→Int→Prop)(m1:List (Int×Int))(m2:List (Int×(Int×Int))):Prop where
 ok:∀v c,aT m1 v=some c→(0≤c∧c<2305843009213693951)∧qH aq ts rows S m1 v c ((aT m2 v).getD (0,0))
 part:∀P v,D P v→atM m1 v≤atM (dD rows P) v+atM (dD rows (fH S P)) v
 nd:(m1.map (·.1)).Nodup
variable {m1:List (Int×Int)}{m2:List (Int×(Int×Int))}
theorem jo.bd{D:Nat→Int→Prop}(h:jo aq ts rows S D m1 m2)(r:Int):0≤atM m1 r∧atM m1 r≤2305843009213693951:=by
 unfold atM;cases hg:aT m1 r with
 |none=>simp
 |some c=>have:=(h.ok r c hg).1;exact⟨this.1,by show c≤_;omega⟩
theorem jo.put{D:Nat→Int→Prop}(h:jo aq ts rows S D m1 m2){v:Int}(h0:0≤c)(hlt:c<atM m1 v)
  (hx:qH aq ts rows S (bG m1 v c) v c x):jo aq ts rows S D (bG m1 v c) (bG m2 v x):=by
 have hle:∀r,atM (bG m1 v c) r≤atM m1 r:=λr=>by
  rw[nL];split
  ·rename_i hr;subst hr;omega
  ·omega
 refine⟨λu d hu=>?_,λP u hD=>Int.le_trans (hle u) (h.part P u hD),alL h.nd⟩;by_cases huv:u=v
 ·subst huv;rw[qB]at hu ⊢;cases hu;exact⟨⟨h0,by have:=(h.bd u).2;omega⟩,hx⟩
 ·rw[tF _ huv]at hu ⊢;obtain⟨g1,g2⟩:=h.ok u d hu;exact⟨g1,g2.mono hle⟩
theorem jo.nil(aq:List ai)(ts:List Int)(rows:List (List (Int×Int)))(S:Nat):jo aq ts rows S (λ_ _=>False) [] []:=⟨λv c h=>by simp[aT]at h,λ_ _ h=>h.elim,by simp⟩
theorem jo.more{D D':Nat→Int→Prop}(h:jo aq ts rows S D m1 m2)(hp:∀P v,D' P v→atM m1 v≤atM (dD rows P) v+atM (dD rows (fH S P)) v):jo aq ts rows S D' m1 m2:=⟨h.ok,hp,h.nd⟩
structure aaI(aq:List ai)(ts:List Int)(rows:List (List (Int×Int)))(S:Nat)(m1:List (Int×Int))(m2:List (Int×(Int×Int))):Prop where
 j:jo aq ts rows S (λP _=>0<P∧P<S∧P &&& S=P) m1 m2
 one:∀i v,ts[i]?=some v→S=2 ^ i→atM m1 v≤0
 hop:∀a∈aq,atM m1 a.Hop.aD≤a.cU+atM m1 a.Hop.To
structure rJ(aq:List ai)(ts:List Int)(rows:List (List (Int×Int)))(steps:List (List (Int×(Int×Int)))):Prop where
 len:steps.length=rows.length
 row:∀S m1 m2,rows[S]?=some m1→steps[S]?=some m2→aaI aq ts rows S m1 m2
theorem vu(h:S<rows.length):dD (rows++[m]) S=dD rows S:=by
 unfold dD;rw[List.getD_eq_getElem?_getD,List.getD_eq_getElem?_getD,List.getElem?_append_left h]
theorem qH.app{v:Int}(hS:S≤rows.length)(h60:S<2 ^ 60)(h:qH aq ts rows S m v c x):qH aq ts (rows++[m']) S m v c x:=by
 rcases h with h|⟨h1,P,h2,h3,h4,h5,h6,h7,h8⟩|h
 ·exact .inl h
 ·have hr:fH S P<S:=by
   have h9:=aaH (a:=S) (b:=P) h60;rcases Nat.lt_or_eq_of_le h9 with h9|h9
   ·exact h9
   ·exfalso;obtain⟨i,hi⟩:∃i,P.testBit i=true:=Nat.exists_testBit_of_ne_zero (by omega);have b1:=vq (a:=S) (b:=P) h60 (by omega) i;have b2:(P &&& S).testBit i=P.testBit i:=by rw[h5]
    rw[h9,hi]at b1;rw[Nat.testBit_and,hi]at b2;simp at b1 b2;rw[b1]at b2;cases b2
  refine .inr (.inl ⟨h1,P,h2,h3,h4,h5,?_⟩);rw[vu (by omega),vu (by omega)];exact⟨h6,h7,h8⟩
 ·exact .inr (.inr h)
theorem aaJ{P:Nat}(h60:S<2 ^ 60)(h3:0<P)(h4:P<S)(h5:P &&& S=P):fH S P<S:=by
 have h9:=aaH (a:=S) (b:=P) h60;rcases Nat.lt_or_eq_of_le h9 with h9|h9
 ·exact h9
 ·exfalso;obtain⟨i,hi⟩:∃i,P.testBit i=true:=Nat.exists_testBit_of_ne_zero (by omega);have b1:=vq (a:=S) (b:=P) h60 (by omega) i;have b2:(P &&& S).testBit i=P.testBit i:=by rw[h5]
  rw[h9,hi]at b1;rw[Nat.testBit_and,hi]at b2;simp at b1 b2;rw[b1]at b2;cases b2
theorem aaI.app{aq:List ai}{ts:List Int}{rows:List (List (Int×Int))}{S:Nat}{m1:List (Int×Int)}{m2:List (Int×(Int×Int))}{m':List (Int×Int)}(hS:S≤rows.length)(h60:S<2 ^ 60)(h:aaI aq ts rows S m1 m2):aaI aq ts (rows++[m']) S m1 m2:=by
 refine⟨⟨λv c hv=>?_,λP v hD=>?_,h.j.nd⟩,h.one,h.hop⟩
 ·obtain⟨g1,g2⟩:=h.j.ok v c hv;exact⟨g1,g2.app hS h60⟩
 ·have:=aaJ h60 hD.1 hD.2.1 hD.2.2;rw[vu (by omega),vu (by omega)];exact h.j.part P v hD
theorem rJ.snoc{steps:List (List (Int×(Int×Int)))}(h:rJ aq ts rows steps)(h60:rows.length<2 ^ 60)(hm:aaI aq ts rows rows.length m1 m2):rJ aq ts (rows++[m1]) (steps++[m2]):=by
 refine⟨by simp[h.len],λS n1 n2 h1 h2=>?_⟩;by_cases hS:S<rows.length
 ·rw[List.getElem?_append_left hS]at h1;rw[List.getElem?_append_left (by rw[h.len];exact hS)]at h2;exact(h.row S n1 n2 h1 h2).app (by omega) (by omega)
 ·have hl:=(List.getElem?_eq_some_iff.1 h1).1;simp only[List.length_append,List.length_singleton]at hl;have hS:S=rows.length:=by omega
  subst hS;rw[List.getElem?_append_right (Nat.le_refl _)]at h1;rw[List.getElem?_append_right (by rw[h.len];exact Nat.le_refl _),h.len]at h2;simp at h1 h2;subst h1 h2;exact hm.app (Nat.le_refl _) h60
end Go.Proofs.YtmnbolcmepihlaaGreat
