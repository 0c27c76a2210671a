/- The walk of the uy of a map. No condition. -/
import Derived.Test.YtmnbolcmepihlaaGreatWE
namespace Go.Proofs.YtmnbolcmepihlaaGreat
set_option linter.all false
open Go Go.Proofs.Tryz
set_option maxRecDepth 100000
theorem abt{α:Type}{cf:α→α→Int}(hi:∀a b,cf a b<0→cf b a<0→False):∀{a b:List α},(a.Pairwise λx y=>cf x y<0)→(b.Pairwise λx y=>cf x y<0)→a.Perm b→a=b
 |[],b,_,_,h=>(List.nil_perm.1 h).symm
 |x::r,[],_,_,h=>by have:=h.length_eq;simp at this
 |x::r,y::s,ha,hb,h=>by
  rw[List.pairwise_cons]at ha hb;have hxy:x=y:=by
   rcases List.mem_cons.1 (h.mem_iff.1 (List.mem_cons_self))with h1|h1
   ·exact h1
   ·rcases List.mem_cons.1 (h.mem_iff.2 (List.mem_cons_self (a:=y)))with h2|h2
    ·exact h2.symm
    ·exact(hi _ _ (ha.1 y h2) (hb.1 x h1)).elim
  subst hxy;rw[abt hi ha.2 hb.2 (List.Perm.cons_inv h)]
theorem afa{α:Type}{ks:List (α→Int)}{l m r:List α}(h:jQ (cR ks) l=some r)(hp:m.Perm l):jQ (cR ks) m=some r:=by
 unfold jQ at h ⊢;cases hc:(wF (cR ks) (lH (cR ks) l)&&decide (l.length<4611686018427387904))with
 |false=>rw[hc]at h;cases h
 |true=>
  rw[hc]at h;simp only[cond_true,Option.some.injEq]at h;rw[Bool.and_eq_true]at hc;have ht:=mb ks
  have anti:∀a b:α,cR ks a b<0→cR ks b a<0→False:=λa b h1 h2=>by
   have h3:=ht _ _ _ h1 h2
   have h4:∀(ks:List (α→Int)) (a:α),¬cR ks a a<0:=λks a=>by
    induction ks with
    |nil=>simp[cR]
    |cons k r ih=>rw[gh];simpa using ih
   exact h4 _ _ h3
  have h1:(lH (cR ks) l).Pairwise λx y=>cR ks x y<0:=qP ht hc.1
  have hne:m.Pairwise λa b=>cR ks a b<0∨cR ks b a<0:=by
   have h2:(lH (cR ks) l).Pairwise λa b=>cR ks a b<0∨cR ks b a<0:=h1.imp .inl;exact((kW (cR ks) l).trans hp.symm).pairwise h2 (λ{a b} h=>h.symm)
  have h2:=tG ht hne;have h3:lH (cR ks) m=lH (cR ks) l:=abt anti h2 h1 ((kW _ _).trans (hp.trans (kW _ _).symm));rw[h3,hp.length_eq,hc.1,hc.2];simp[h]
theorem v7{m:List (aC×Int)}{r:List bQ}(hm:jL m=some r):RO prog 88 [] [.mpf (bB (kv aK) (vI .i64) m)] (.lst false (ml fQ r)):=by
 unfold jL at hm;split at hm
 rotate_left
 ·cases hm
 rename_i hlen;refine aY func88 rfl rfl ?_;refine A.RS W0 [] [] [(0,.mpf (bB (kv aK) (vI .i64) m))] [] (by kernel_rfl) ?_;refine A.RS W0 [] [] [(0,.mpf (bB (kv aK) (vI .i64) m)),(3,.bF)] [] (by kernel_rfl) ?_;refine A.seq ?_;refine A.seq (A.RX W0 1 [] [] [(6,.mpf (bB (kv aK) (vI .i64) m)),(0,.mpf (bB (kv aK) (vI .i64) m)),(3,.bF)] [] (by kernel_rfl) (by kernel_rfl) (by kernel_rfl) rfl rfl (D.af6 (di:=910000040) (x:=.tmp 6) (aJ:=bB (kv aK) (vI .i64) m) rfl rfl underlying125 rfl rfl) rfl rfl ?_);rintro av σ' ⟨rfl,es,clock,rfl⟩;refine⟨[],_,_,rfl,?_⟩;show ah _ _ _ _ _;refine A.block ?_
 refine A.aoe (ek:=kv aK) (enc:=vI .i64) (l:=m) (di:=910000040) (clock:=clock) (es:=es) (λq (g:List bQ)=>g=q.map λp=>bQ.mk p.1.aD p.1.To p.2) []
  (λ_=>[(3,.own 910000041),(7,.ptr 910000040 0)]) (λseen g=>[(910000041,.slice 60 3 (ml fQ g) 0 false),(910000040,.dY es clock (bB (kv aK) (vI .i64) m) seen)]) ⟨rfl,rfl,rfl⟩ ⟨rfl,rfl,rfl⟩ (by kernel_rfl)
  rfl (λ_=>rfl) (λ_ _=>rfl) (λ_ _ _=>rfl) (aZ.go [.ad 3 910000041 60 3] [] (by kernel_rfl)) ?_ ?_
 ·rintro seen e i n v q g he hli hlq rfl
  have hq:iD (q.map λp:aC×Int=>bQ.mk p.1.aD p.1.To p.2) [bQ.mk n.aD n.To v]=some ((q++[(n,v)]).map λp:aC×Int=>bQ.mk p.1.aD p.1.To p.2):=by
   unfold iD;rw[if_pos (by simp[cap];omega)];simp
  refine A.block ?_;refine A.RS W0 [] [(0,hxg 910000040 clock (kv aK) seen (vI .i64) he hli),(3,.al 910000042)] [(3,.own 910000041),(7,.ptr 910000040 0),(4,.ptr 910000042 0),(5,.int .i64 v)] [(910000041,.slice 60 3 (ml fQ (q.map λp:aC×Int=>bQ.mk p.1.aD p.1.To p.2)) 0 false),(910000040,.dY es clock (bB (kv aK) (vI .i64) m) (seen.push e.born)),(910000042,.cells 84 [.int .i64 n.aD,.int .i64 n.To])] (by kernel_rfl) ?_;refine A.R W0 [] [(8,hap 910000044 (ap fQ (bytes:=24) (by decide) hq))] [(3,.own 910000044),(7,.ptr 910000040 0)] [(910000044,.slice 60 3 (ml fQ ((q++[(n,v)]).map λp:aC×Int=>bQ.mk p.1.aD p.1.To p.2)) 0 false),(910000040,.dY es clock (bB (kv aK) (vI .i64) m) (seen.push e.born))] (by kernel_rfl) ?_;exact⟨_,rfl,aZ.go [.sw 910000044 910000041] [] (by kernel_rfl)⟩
 ·rintro seen q g ae7 rfl;show ah _ _ _ _ _;have hs:jQ (cR [λx:bQ=>x.aD,λx:bQ=>x.To]) (q.map λp:aC×Int=>bQ.mk p.1.aD p.1.To p.2)=some r:=afa hm (ae7.map _);refine A.RS W0 [] [(1,hdc [] (aib (d:=910000041) (T:=60) hs) asp)] [(3,.own 910000041)] [(910000041,.slice 60 3 (ml fQ r) 0 false)] (by kernel_rfl) ?_;refine A.RS W0 [] [] [(2,.own 910000041)] [(910000041,.slice 60 3 (ml fQ r) 0 false)] (by kernel_rfl) ?_;refine A.ret ?_;exact A.fin W0 [.fz [910000041]] rfl (by kernel_rfl)
end Go.Proofs.YtmnbolcmepihlaaGreat
