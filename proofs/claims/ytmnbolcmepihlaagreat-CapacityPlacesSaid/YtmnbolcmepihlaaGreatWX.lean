/- Several texts in one. No condition but those that stand in each. -/
import Derived.Test.YtmnbolcmepihlaaGreatAV
namespace Go.Proofs.YtmnbolcmepihlaaGreat
set_option linter.all false
open Go
theorem sP{m:List (Int×Int)}{v:Int}(h:atM m v<2305843009213693951):aY m v=some (atM m v):=by
 unfold atM at h ⊢;cases hg:aY m v with
 |none=>rw[hg]at h;simp at h
 |some c=>rfl
theorem aiC{m:List (Int×Int)}{v c:Int}(h:aY m v=some c):atM m v=c:=by unfold atM;rw[h];rfl
theorem xb{α:Type}{l:List α}{S:Nat}(h:S<l.length):∃x,l[S]?=some x:=⟨l[S],List.getElem?_eq_getElem h⟩
theorem ad9{rows:List (List (Int×Int))}{S:Nat}{m:List (Int×Int)}(h:rows[S]?=some m):dK rows S=m:=by
 unfold dK;rw[List.getD_eq_getElem?_getD,h];rfl
theorem agw{S P:Nat}(hS:S<2 ^ 60)(hP:P<S)(h:P &&& S=P):P &&& fS S P=0∧P ||| fS S P=S:=by
 have hb:=vG (a:=S) (b:=P) hS (by omega);have hp:∀i,(P.testBit i&&S.testBit i)=P.testBit i:=λi=>by rw[←Nat.testBit_and,h]
 constructor
 ·apply Nat.eq_of_testBit_eq;intro i;rw[Nat.testBit_and,hb,Nat.zero_testBit];cases P.testBit i<;>simp
 ·apply Nat.eq_of_testBit_eq;intro i;have:=hp i;rw[Nat.testBit_or,hb];cases h1:P.testBit i<;>cases h2:S.testBit i<;>rw[h1,h2]at this<;>simp at this ⊢
theorem agx{S P R:Nat}(hS:S<2 ^ 60)(hP:P<2 ^ 60)(h0:P &&& R=0)(h:P ||| R=S):R=fS S P∧P &&& S=P:=by
 have hb:=vG (a:=S) (b:=P) hS hP;have hz:∀i,(P.testBit i&&R.testBit i)=false:=λi=>by rw[←Nat.testBit_and,h0,Nat.zero_testBit]
 have ho:∀i,(P.testBit i||R.testBit i)=S.testBit i:=λi=>by rw[←Nat.testBit_or,h]
 constructor
 ·apply Nat.eq_of_testBit_eq;intro i;have h1:=hz i;have h2:=ho i;rw[hb,←h2];cases hp:P.testBit i<;>cases hr:R.testBit i<;>rw[hp,hr]at h1<;>simp at h1 ⊢
 ·apply Nat.eq_of_testBit_eq;intro i;have h2:=ho i;rw[Nat.testBit_and,←h2];cases P.testBit i<;>simp
section
variable {ay:List ah}{ts:List Int}{rows:List (List (Int×Int))}{steps:List (List (Int×(Int×Int)))}
theorem ac4(h:rU ay ts rows steps)(hA:iW ay)(h64:rows.length≤64):∀(S:Nat),S<rows.length→∀(n:Nat) (v c:Int),c.toNat=n→aY (dK rows S) v=some c→∃Hs,Trk bz ay ts.length (λi=>ts.getD i 0) S v Hs∧dG bz Hs=c∧Col steps (S:Int) v (Hs.map (·.Hop)):=by
 intro S;induction S using Nat.strongRecOn with
 |_ S ihS=>
  intro hS n;induction n using Nat.strongRecOn with
  |_ n ihn=>
   intro v c hcn hv;obtain⟨m1,hm1⟩:=xb hS;obtain⟨m2,hm2⟩:=xb (l:=steps) (S:=S) (by rw[h.len];exact hS);have hF:=h.row S m1 m2 hm1 hm2;rw[ad9 hm1]at hv ihn;obtain⟨⟨hc0,hcf⟩,hst⟩:=hF.j.ok v c hv;have hel:elO steps (S:Int)=some m2:=by unfold elO;rw[if_pos (by omega),Int.toNat_natCast];exact hm2
   rcases hst with⟨hx,a,ha,h1,h2,h3⟩|⟨hx,P,h1,h2,h3,h4,h5,h6,h7⟩|⟨hx,i,h1,h2,h3⟩
   ·have hc:=hA.cost a ha;have hhop:=hF.hop a ha;rw[h1,h2,aiC hv]at hhop;have heq:atM m1 ((aY m2 v).getD (0,0)).1=c-a.dx:=by omega
    have hk:aY m1 ((aY m2 v).getD (0,0)).1=some (c-a.dx):=by rw[←heq];exact sP (by omega)
    have h0:=(hF.j.bd ((aY m2 v).getD (0,0)).1).1;obtain⟨Hs,g1,g2,g3⟩:=ihn (c-a.dx).toNat (by omega) _ (c-a.dx) rfl hk;refine⟨a::Hs,?_,by rw[gu,g2];show a.dx+_=_;omega,?_⟩
    ·have:=Trk.hop (N:=bz) a ha (show Trk bz ay ts.length (λi=>ts.getD i 0) S (bz.dst a) Hs by show Trk _ _ _ _ S a.Hop.To Hs;rw[h2];exact g1);have e:bz.src a=v:=h1;rw[e]at this;exact this
    ·have e:(a::Hs).map (·.Hop)=az.mk v ((aY m2 v).getD (0,0)).1::Hs.map (·.Hop):=by
      rw[List.map_cons,←h2,←h1]
     rw[e];exact Col.next hel rfl hx g3
   ·have hR:=aaR (by omega) h2 h3 h4;obtain⟨Hs,g1,g2,g3⟩:=ihS P h3 (by omega) _ v _ rfl (sP h6);obtain⟨Ks,k1,k2,k3⟩:=ihS (fS S P) hR (by omega) _ v _ rfl (sP h7);obtain⟨p1,p2⟩:=agw (S:=S) (P:=P) (by omega) h3 h4;refine⟨Hs++Ks,?_,by rw[yy,g2,k2,h5],?_⟩
    ·have:=Trk.part p1 g1 k1;rw[p2]at this;exact this
    ·rw[List.map_append];refine Col.part hel rfl hx (by rw[h1];omega) rfl (by rw[h1];exact g3) ?_;rw[h1,w9 (by omega)];exact k3
   ·refine⟨[],?_,by rw[h3];rfl,Col.leaf hel hx⟩;have e:ts.getD i 0=v:=by rw[List.getD_eq_getElem?_getD,h1];rfl
    have:=Trk.one (N:=bz) (L:=ay) (k:=ts.length) (ts:=λi=>ts.getD i 0) i (List.getElem?_eq_some_iff.1 h1).1;simp only[e]at this;rw[h2];exact this
theorem aiD(h:rU ay ts rows steps)(hA:iW ay)(hl:rows.length=2 ^ ts.length)(h64:rows.length≤64):Low bz ay ts.length (λi=>ts.getD i 0) (λS v=>atM (dK rows S) v):=by
 have F:∀S,S<rows.length→∃m2,aaQ ay ts rows S (dK rows S) m2:=λS hS=>by
  obtain⟨m1,hm1⟩:=xb hS;obtain⟨m2,hm2⟩:=xb (l:=steps) (S:=S) (by rw[h.len];exact hS);exact⟨m2,by rw[ad9 hm1];exact h.row S m1 m2 hm1 hm2⟩
 refine⟨λa ha=>by have:=(hA.cost a ha).1;show 0≤a.dx;omega,λi hi=>?_,λS h0 hS a ha=>?_,λS P R hS hP hR h0 ho v=>?_⟩
 ·obtain⟨m2,hF⟩:=F (2 ^ i) (by rw[hl];exact Nat.pow_lt_pow_right (by omega) hi);refine hF.one i _ ?_ rfl;rw[List.getD_eq_getElem?_getD,List.getElem?_eq_getElem hi];rfl
 ·obtain⟨m2,hF⟩:=F S (by rw[hl];exact hS);exact hF.hop a ha
 ·obtain⟨m2,hF⟩:=F S (by rw[hl];exact hS);have hlt:=o5 h0 ho hR;obtain⟨e1,e2⟩:=agx (S:=S) (P:=P) (by omega) (by omega) h0 ho;have:=hF.j.part P v ⟨hP,hlt,e2⟩;rw[←e1]at this;exact this
theorem kJ:∀{l:List ah},(∀a∈l,1≤a.dx∧a.dx≤1000)→(l.length:Int)≤dG bz l∧dG bz l≤1000*l.length
 |[],_=>by simp[dG]
 |a::l,h=>by
  have h1:=h a (by simp);have h2:=kJ λb hb=>h b (List.mem_cons.2 (.inr hb));rw[gu,List.length_cons];have:bz.cost a=a.dx:=rfl;omega
theorem ac5{k i:Nat}:(2 ^ k-1).testBit i=decide (i<k):=by rw[Nat.testBit_two_pow_sub_one]
theorem aac{v:Int}{K:List ah}:(∀i,(2 ^ ts.length-1).testBit i=true→Con bz K v (ts.getD i 0))↔∀t,t∈ts→Con bz K v t:=by
 constructor
 ·intro h t ht;obtain⟨i,hi⟩:=List.getElem?_of_mem ht;have:=h i (by rw[ac5];exact decide_eq_true (List.getElem?_eq_some_iff.1 hi).1)
  rwa [List.getD_eq_getElem?_getD,hi]at this
 ·intro h i hi;rw[ac5]at hi;have hi:=of_decide_eq_true hi;refine h _ ?_;rw[List.getD_eq_getElem?_getD,List.getElem?_eq_getElem hi];exact List.getElem_mem hi
theorem ac6(h:rU ay ts rows steps)(hA:iW ay)(hl:rows.length=2 ^ ts.length)(hk:ts.length≤6)(h1:1≤ts.length){root:Int}:
  (2305843009213693951≤atM (dK rows (2 ^ ts.length-1)) root→¬∀t,t∈ts→Con bz ay root t)∧
  (atM (dK rows (2 ^ ts.length-1)) root<2305843009213693951→∃Hs:List ah,Opt bz ay (λt=>t∈ts) root Hs∧dG bz Hs=atM (dK rows (2 ^ ts.length-1)) root∧Col steps ((2 ^ ts.length-1:Nat):Int) root (Hs.map (·.Hop))):=by
 have h64:rows.length≤64:=by rw[hl];exact Nat.le_trans (Nat.pow_le_pow_right (by omega) hk) (by decide)
 have aiE:=aiD h hA hl h64;have hp1:2 ^ 1≤2 ^ ts.length:=Nat.pow_le_pow_right (by omega) h1
 have hle:∀K,(∀a∈K,a∈ay)→(∀t,t∈ts→Con bz K root t)→atM (dK rows (2 ^ ts.length-1)) root≤dG bz K:=λK hK hc=>
  aiE.le K.length K (Nat.le_refl _) hK (2 ^ ts.length-1) (by omega) (by omega) root (aac.2 hc)
 constructor
 ·intro hf hc;have h2:=hle ay (λa ha=>ha) hc;have h3:=(kJ hA.cost).2;have h4:=hA.len;omega
 ·intro hf;obtain⟨Hs,g1,g2,g3⟩:=ac4 h hA h64 (2 ^ ts.length-1) (by omega) _ root _ rfl (sP hf);refine⟨Hs,⟨g1.sub,λa ha=>by have:=(hA.cost a ha).1;show 0<a.dx;omega,aac.1 g1.cov,λK hK hc=>by rw[g2];exact hle K hK hc⟩,g2,g3⟩
end
end Go.Proofs.YtmnbolcmepihlaaGreat
namespace Go.Proofs.YtmnbolcmepihlaaGreat
set_option linter.all false
open Go Go.Proofs.Tryz
theorem abA{α:Type}{cf:α→α→Int}(ht:∀a b c,cf a b<0→cf b c<0→cf a c<0){x:α}:∀{l:List α},(l.Pairwise λa b=>cf a b<0)→(∀y∈l,cf x y<0∨cf y x<0)→(yP cf x l).Pairwise λa b=>cf a b<0
 |[],_,_=>by simp[yP]
 |y::r,h,hx=>by
  rw[List.pairwise_cons]at h;simp only[yP];split
  ·rename_i hyx;rw[List.pairwise_cons];refine⟨λz hz=>?_,abA ht h.2 λz hz=>hx z (by simp[hz])⟩;rcases List.mem_cons.1 ((wM cf x r).mem_iff.1 hz)with rfl|hz
   ·exact hyx
   ·exact h.1 z hz
  ·rename_i hyx;have hxy:cf x y<0:=by rcases hx y (by simp)with q|q;exact q;exact absurd q hyx
   rw[List.pairwise_cons];refine⟨λz hz=>?_,List.pairwise_cons.2 h⟩;rcases List.mem_cons.1 hz with rfl|hz
   ·exact hxy
   ·exact ht _ _ _ hxy (h.1 z hz)
theorem tV{α:Type}{cf:α→α→Int}(ht:∀a b c,cf a b<0→cf b c<0→cf a c<0):∀{l:List α},(l.Pairwise λa b=>cf a b<0∨cf b a<0)→(lI cf l).Pairwise λa b=>cf a b<0
 |[],_=>by simp[lI]
 |x::r,h=>by
  rw[List.pairwise_cons]at h;exact abA ht (tV ht h.2) λy hy=>h.1 y ((kU cf r).mem_iff.1 hy)
theorem abB{α:Type}{cf:α→α→Int}:∀{l:List α},(l.Pairwise λa b=>cf a b<0)→wL cf l=true
 |[],_=>rfl
 |[x],_=>rfl
 |a::b::r,h=>by
  rw[List.pairwise_cons]at h;simp only[wL,Bool.and_eq_true,decide_eq_true_eq];exact⟨h.1 b (by simp),abB h.2⟩
theorem xd{α:Type}{ks:List (α→Int)}{l:List α}(h:l.Pairwise λa b=>cZ ks a b<0∨cZ ks b a<0)(hl:l.length≤1000000):∃m,jO (cZ ks) l=some m∧m.Perm l∧m.Pairwise λa b=>cZ ks a b<0:=by
 have h1:=tV (mh ks) h;refine⟨lI (cZ ks) l,?_,kU _ _,h1⟩;unfold jO;have:(decide (l.length<4611686018427387904))=true:=by simp;omega
 rw[abB h1,this];rfl
variable {ay:List ah}
theorem yZ{T:Int→Prop}{root:Int}{Hs:List ah}(hA:iW ay)(h:Opt bz ay T root Hs)(hl:Hs.length≤1000000):∃m,jO (cZ [λx:az=>x.aD,λx:az=>x.To]) (Hs.map (·.Hop))=some m∧m.Perm (Hs.map (·.Hop))∧m.Pairwise λa b=>cZ [λx:az=>x.aD,λx:az=>x.To] a b<0:=by
 refine xd ?_ (by simpa using hl);rw[List.pairwise_map];have hnd:Hs.Pairwise λa b=>a≠b:=h.nodup;refine hnd.imp_of_mem λ{a b} ha hb hab=>?_;have hne:a.Hop≠b.Hop:=λe=>hab (hA.hop a (h.sub a ha) b (h.sub b hb) e);rw[gq,gq,gq,gq];have h2:a.Hop.aD≠b.Hop.aD∨a.Hop.To≠b.Hop.To:=by
  apply Classical.byContradiction;intro hn;have e1:a.Hop.aD=b.Hop.aD:=Classical.byContradiction λx=>hn (.inl x);have e2:a.Hop.To=b.Hop.To:=Classical.byContradiction λx=>hn (.inr x);apply hne;cases ha':a.Hop;cases hb':b.Hop
  rw[ha',hb']at e1 e2;simp only at e1 e2;rw[e1,e2]
 simp only[cZ];omega
theorem alP{st:List (List (Int×(Int×Int)))}{s r:Int}{H:List az}(h:Col st s r H):∀H',Col st s r H'→H=H':=by
 induction h with
 |leaf h hn=>
  intro H' h';cases h' with
  |leaf _ _=>rfl
  |next h2 hx hn2 _=>rw[h]at h2;cases h2;rw[hn]at hx;subst hx;exact absurd rfl hn2
  |part h2 hx _ hn2 _ _ _=>rw[h]at h2;cases h2;rw[hn]at hx;subst hx;exact absurd rfl hn2
 |next h hx hn _ ih=>
  intro H' h';cases h' with
  |leaf h2 hn2=>rw[h]at h2;cases h2;rw[hn2]at hx;subst hx;exact absurd rfl hn
  |next h2 hx2 _ hc2=>rw[h]at h2;cases h2;rw[hx]at hx2;subst hx2;rw[ih _ hc2]
  |part h2 hx2 h3 _ _ _ _=>rw[h]at h2;cases h2;rw[hx]at hx2;subst hx2;exact absurd h3 hn
 |part h hx h1 hn hs _ _ ih1 ih2=>
  intro H' h';cases h' with
  |leaf h2 hn2=>rw[h]at h2;cases h2;rw[hn2]at hx;subst hx;exact absurd rfl hn
  |next h2 hx2 hn2 _=>rw[h]at h2;cases h2;rw[hx]at hx2;subst hx2;exact absurd h1 hn2
  |part h2 hx2 _ _ hs2 hc1 hc2=>rw[h]at h2;cases h2;rw[hx]at hx2;subst hx2;subst hs;subst hs2;rw[ih1 _ hc1,ih2 _ hc2]
theorem qc{β:Type}{root:Int}{ts:List Int}{K:(List az×Int×Bool)→Option β}{r:β}(hm:iG ay root ts K=some r):
  b9 prog 63 [] [.lst false (ml aH ay),.int .i64 root,.lst false (ml ak ts)] (λa σ'=>σ'=[]∧∃x,K x=some r∧a=.tup [.lst false (ml aJ x.1),.int .i64 x.2.1,.bool x.2.2]):=by
 unfold iG at hm;split at hm
 rotate_left
 ·cases hm
 rename_i hc;obtain⟨hA,hk⟩:=hc;have hall:=agp hm
 have small:∀(Hs:List ah),Opt bz ay (λt=>t∈ts) root Hs→Hs.length≤1000000:=λHs hO=>by
  have h1:=(kJ λa ha=>hA.cost a (hO.sub a ha)).1;have h2:=hO.min ay (λa ha=>ha) (λt ht=>(hO.cov t ht).mono hO.sub);have h3:=(kJ hA.cost).2;have h4:=hA.len;omega
 have hw:=adO (ay:=ay) (root:=root) (ts:=ts) hk (λa ha=>⟨by have:=hA.cost a ha;omega,hA.to a ha⟩) (λrows steps hl hF hf=>by
  by_cases hts:1≤ts.length
  ·obtain⟨Hs,g1,g2,g3⟩:=(ac6 hF hA hl hk hts (root:=root)).2 hf;have hs:=small Hs g1;obtain⟨m,hm,_⟩:=yZ hA g1 hs;exact⟨_,g3,by simpa using hs,m,hm⟩
  ·have h0:ts=[]:=List.eq_nil_of_length_eq_zero (by omega);subst h0;have hl1:rows.length=1:=hl;obtain⟨m2,hm2⟩:=xb (l:=steps) (S:=0) (by rw[hF.len,hl1];omega);obtain⟨Hs,g1,g2,g3⟩:=ac4 hF hA (by omega) 0 (by omega) _ root _ rfl (sP hf);exfalso
   have:∀{S:Nat} {v:Int} {H:List ah},Trk bz ay 0 (λi=>([]:List Int).getD i 0) S v H→False:=λh=>by
    induction h with
    |one i hi=>omega
    |hop _ _ _ ih=>exact ih
    |part _ _ _ ih _=>exact ih
   exact this g1)
 refine hw.mono ?_;rintro a s ⟨rfl,x,hx,rfl⟩;refine⟨rfl,x,hall x ?_,rfl⟩;by_cases hts:ts=[]
 ·rw[hx.nil hts]
  have hO:Opt bz ay (λt=>t∈ts) root []:=by
   refine⟨λa ha=>(by cases ha),λa ha=>by have:=(hA.cost a ha).1;show 0<a.dx;omega,λt ht=>(by rw[hts]at ht;cases ht),λK hK _=>?_⟩;have:=(kJ λa ha=>hA.cost a (hK a ha)).1;have e:dG bz ([]:List ah)=0:=rfl;rw[e];omega
  exact .inl ⟨rfl,⟨[],hO,rfl,List.Perm.refl _⟩,List.Pairwise.nil⟩
 ·have h1:1≤ts.length:=by cases hts':ts with|nil=>exact absurd hts' hts|cons _ _=>simp
  obtain⟨rows,steps,hl,hF,h⟩:=hx.rows hts;have hlo:=ac6 hF hA hl hk h1 (root:=root);rcases h with⟨hf,rfl⟩|⟨hf,H,hC,hs,hr⟩
  ·exact .inr ⟨rfl,hlo.1 hf⟩
  ·refine .inl ⟨by rw[hr],?_⟩;obtain⟨Hs,g1,g2,g3⟩:=hlo.2 hf;have e:=alP hC _ g3;subst e;obtain⟨m,hm1,hm2,hm3⟩:=yZ hA g1 (small Hs g1);rw[hm1]at hs;have e2:=Option.some.inj hs;refine⟨⟨Hs,g1,by rw[g2,hr],by rw[←e2];exact hm2⟩,by rw[←e2];exact hm3⟩
end Go.Proofs.YtmnbolcmepihlaaGreat
