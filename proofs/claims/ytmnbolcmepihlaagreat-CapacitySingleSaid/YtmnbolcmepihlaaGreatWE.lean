/- aew qk answers is one of aX aL ChS aeH of. No condition. -/
import Derived.Test.YtmnbolcmepihlaaGreatWC
namespace Go.Proofs.YtmnbolcmepihlaaGreat
set_option linter.all false
open Go Go.Proofs.Tryz
theorem abq{α:Type}{cf:α→α→Int}(ht:∀a b c,cf a b<0→cf b c<0→cf a c<0){x:α}:∀{l:List α},(l.Pairwise λa b=>cf a b<0)→(∀y∈l,cf x y<0∨cf y x<0)→(yI cf x l).Pairwise λa b=>cf a b<0
 |[],_,_=>by simp[yI]
 |y::r,h,hx=>by
  rw[List.pairwise_cons]at h;simp only[yI];split
  ·rename_i hyx;rw[List.pairwise_cons];refine⟨λz hz=>?_,abq ht h.2 λz hz=>hx z (by simp[hz])⟩;rcases List.mem_cons.1 ((wG cf x r).mem_iff.1 hz)with rfl|hz
   ·exact hyx
   ·exact h.1 z hz
  ·rename_i hyx;have hxy:cf x y<0:=by rcases hx y (by simp)with q|q;exact q;exact absurd q hyx
   rw[List.pairwise_cons];refine⟨λz hz=>?_,List.pairwise_cons.2 h⟩;rcases List.mem_cons.1 hz with rfl|hz
   ·exact hxy
   ·exact ht _ _ _ hxy (h.1 z hz)
theorem tG{α:Type}{cf:α→α→Int}(ht:∀a b c,cf a b<0→cf b c<0→cf a c<0):∀{l:List α},(l.Pairwise λa b=>cf a b<0∨cf b a<0)→(lH cf l).Pairwise λa b=>cf a b<0
 |[],_=>by simp[lH]
 |x::r,h=>by
  rw[List.pairwise_cons]at h;exact abq ht (tG ht h.2) λy hy=>h.1 y ((kW cf r).mem_iff.1 hy)
theorem abr{α:Type}{cf:α→α→Int}:∀{l:List α},(l.Pairwise λa b=>cf a b<0)→wF cf l=true
 |[],_=>rfl
 |[x],_=>rfl
 |a::b::r,h=>by
  rw[List.pairwise_cons]at h;simp only[wF,Bool.and_eq_true,decide_eq_true_eq];exact⟨h.1 b (by simp),abr h.2⟩
theorem w8{α:Type}{ks:List (α→Int)}{l:List α}(h:l.Pairwise λa b=>cR ks a b<0∨cR ks b a<0)(hl:l.length≤1000000):∃m,jQ (cR ks) l=some m∧m.Perm l∧m.Pairwise λa b=>cR ks a b<0:=by
 have h1:=tG (mb ks) h;refine⟨lH (cR ks) l,?_,kW _ _,h1⟩;unfold jQ;have:(decide (l.length<4611686018427387904))=true:=by simp;omega
 rw[abr h1,this];rfl
variable {aq:List ai}
theorem yU{T:Int→Prop}{root:Int}{Hs:List ai}(hA:iZ aq)(h:Opt bk aq T root Hs)(hl:Hs.length≤1000000):∃m,jQ (cR [λx:aC=>x.aD,λx:aC=>x.To]) (Hs.map (·.Hop))=some m∧m.Perm (Hs.map (·.Hop))∧m.Pairwise λa b=>cR [λx:aC=>x.aD,λx:aC=>x.To] a b<0:=by
 refine w8 ?_ (by simpa using hl);rw[List.pairwise_map];have hnd:Hs.Pairwise λa b=>a≠b:=h.nodup;refine hnd.imp_of_mem λ{a b} ha hb hab=>?_;have hne:a.Hop≠b.Hop:=λe=>hab (hA.hop a (h.sub a ha) b (h.sub b hb) e);rw[gh,gh,gh,gh];have h2:a.Hop.aD≠b.Hop.aD∨a.Hop.To≠b.Hop.To:=by
  apply Classical.byContradiction;intro hn;have e1:a.Hop.aD=b.Hop.aD:=Classical.byContradiction λx=>hn (.inl x);have e2:a.Hop.To=b.Hop.To:=Classical.byContradiction λx=>hn (.inr x);apply hne;cases ha':a.Hop;cases hb':b.Hop
  rw[ha',hb']at e1 e2;simp only at e1 e2;rw[e1,e2]
 simp only[cR];omega
theorem alM{st:List (List (Int×(Int×Int)))}{s r:Int}{H:List aC}(h:Col st s r H):∀H',Col st s r H'→H=H':=by
 induction h with
 |leaf h hn=>
  intro H' h';cases h' with
  |leaf _ _=>rfl
  |next h2 hx hn2 _=>rw[h]at h2;cases h2;rw[hn]at hx;subst hx;exact absurd rfl hn2
  |part h2 hx _ hn2 _ _ _=>rw[h]at h2;cases h2;rw[hn]at hx;subst hx;exact absurd rfl hn2
 |next h hx hn _ ih=>
  intro H' h';cases h' with
  |leaf h2 hn2=>rw[h]at h2;cases h2;rw[hn2]at hx;subst hx;exact absurd rfl hn
  |next h2 hx2 _ hc2=>rw[h]at h2;cases h2;rw[hx]at hx2;subst hx2;rw[ih _ hc2]
  |part h2 hx2 h3 _ _ _ _=>rw[h]at h2;cases h2;rw[hx]at hx2;subst hx2;exact absurd h3 hn
 |part h hx h1 hn hs _ _ ih1 ih2=>
  intro H' h';cases h' with
  |leaf h2 hn2=>rw[h]at h2;cases h2;rw[hn2]at hx;subst hx;exact absurd rfl hn
  |next h2 hx2 hn2 _=>rw[h]at h2;cases h2;rw[hx]at hx2;subst hx2;exact absurd h1 hn2
  |part h2 hx2 _ _ hs2 hc1 hc2=>rw[h]at h2;cases h2;rw[hx]at hx2;subst hx2;subst hs;subst hs2;rw[ih1 _ hc1,ih2 _ hc2]
theorem vY{β:Type}{root:Int}{ts:List Int}{K:(List aC×Int×Bool)→Option β}{r:β}(hm:jI aq root ts K=some r):
  bZ prog 63 [] [.lst false (ml aG aq),.int .i64 root,.lst false (ml aj ts)] (λa σ'=>σ'=[]∧∃x,K x=some r∧a=.tup [.lst false (ml aK x.1),.int .i64 x.2.1,.bool x.2.2]):=by
 unfold jI at hm;split at hm
 rotate_left
 ·cases hm
 rename_i hc;obtain⟨hA,hk⟩:=hc;have hall:=af8 hm
 have small:∀(Hs:List ai),Opt bk aq (λt=>t∈ts) root Hs→Hs.length≤1000000:=λHs hO=>by
  have h1:=(kP λa ha=>hA.cost a (hO.sub a ha)).1;have h2:=hO.min aq (λa ha=>ha) (λt ht=>(hO.cov t ht).mono hO.sub);have h3:=(kP hA.cost).2;have h4:=hA.len;omega
 have hw:=adE (aq:=aq) (root:=root) (ts:=ts) hk (λa ha=>⟨by have:=hA.cost a ha;omega,hA.to a ha⟩) (λrows steps hl hF hf=>by
  by_cases hts:1≤ts.length
  ·obtain⟨Hs,g1,g2,g3⟩:=(ac3 hF hA hl hk hts (root:=root)).2 hf;have hs:=small Hs g1;obtain⟨m,hm,_⟩:=yU hA g1 hs;exact⟨_,g3,by simpa using hs,m,hm⟩
  ·have h0:ts=[]:=List.eq_nil_of_length_eq_zero (by omega);subst h0;have hl1:rows.length=1:=hl;obtain⟨m2,hm2⟩:=w6 (l:=steps) (S:=0) (by rw[hF.len,hl1];omega);obtain⟨Hs,g1,g2,g3⟩:=ac1 hF hA (by omega) 0 (by omega) _ root _ rfl (sJ hf);exfalso
   have:∀{S:Nat} {v:Int} {H:List ai},Trk bk aq 0 (λi=>([]:List Int).getD i 0) S v H→False:=λh=>by
    induction h with
    |one i hi=>omega
    |hop _ _ _ ih=>exact ih
    |part _ _ _ ih _=>exact ih
   exact this g1)
 refine hw.mono ?_;rintro a s ⟨rfl,x,hx,rfl⟩;refine⟨rfl,x,hall x ?_,rfl⟩;by_cases hts:ts=[]
 ·rw[hx.nil hts]
  have hO:Opt bk aq (λt=>t∈ts) root []:=by
   refine⟨λa ha=>(by cases ha),λa ha=>by have:=(hA.cost a ha).1;show 0<a.cU;omega,λt ht=>(by rw[hts]at ht;cases ht),λK hK _=>?_⟩;have:=(kP λa ha=>hA.cost a (hK a ha)).1;have e:dw bk ([]:List ai)=0:=rfl;rw[e];omega
  exact .inl ⟨rfl,⟨[],hO,rfl,List.Perm.refl _⟩,List.Pairwise.nil⟩
 ·have h1:1≤ts.length:=by cases hts':ts with|nil=>exact absurd hts' hts|cons _ _=>simp
  obtain⟨rows,steps,hl,hF,h⟩:=hx.rows hts;have hlo:=ac3 hF hA hl hk h1 (root:=root);rcases h with⟨hf,rfl⟩|⟨hf,H,hC,hs,hr⟩
  ·exact .inr ⟨rfl,hlo.1 hf⟩
  ·refine .inl ⟨by rw[hr],?_⟩;obtain⟨Hs,g1,g2,g3⟩:=hlo.2 hf;have e:=alM hC _ g3;subst e;obtain⟨m,hm1,hm2,hm3⟩:=yU hA g1 (small Hs g1);rw[hm1]at hs;have e2:=Option.some.inj hs;refine⟨⟨Hs,g1,by rw[g2,hr],by rw[←e2];exact hm2⟩,by rw[←e2];exact hm3⟩
end Go.Proofs.YtmnbolcmepihlaaGreat
