/- The walk of the uM of a map. No condition. -/
import Derived.Test.YtmnbolcmepihlaaGreatWX
namespace Go.Proofs.YtmnbolcmepihlaaGreat
set_option linter.all false
open Go Go.Proofs.Tryz
set_option maxRecDepth 100000
theorem abC{α:Type}{cf:α→α→Int}(hi:∀a b,cf a b<0→cf b a<0→False):∀{a b:List α},(a.Pairwise λx y=>cf x y<0)→(b.Pairwise λx y=>cf x y<0)→a.Perm b→a=b
 |[],b,_,_,h=>(List.nil_perm.1 h).symm
 |x::r,[],_,_,h=>by have:=h.length_eq;simp at this
 |x::r,y::s,ha,hb,h=>by
  rw[List.pairwise_cons]at ha hb;have hxy:x=y:=by
   rcases List.mem_cons.1 (h.mem_iff.1 (List.mem_cons_self))with h1|h1
   ·exact h1
   ·rcases List.mem_cons.1 (h.mem_iff.2 (List.mem_cons_self (a:=y)))with h2|h2
    ·exact h2.symm
    ·exact(hi _ _ (ha.1 y h2) (hb.1 x h1)).elim
  subst hxy;rw[abC hi ha.2 hb.2 (List.Perm.cons_inv h)]
theorem afo{α:Type}{ks:List (α→Int)}{l m r:List α}(h:jO (cZ ks) l=some r)(hp:m.Perm l):jO (cZ ks) m=some r:=by
 unfold jO at h ⊢;cases hc:(wL (cZ ks) (lI (cZ ks) l)&&decide (l.length<4611686018427387904))with
 |false=>rw[hc]at h;cases h
 |true=>
  rw[hc]at h;simp only[cond_true,Option.some.injEq]at h;rw[Bool.and_eq_true]at hc;have ht:=mh ks
  have anti:∀a b:α,cZ ks a b<0→cZ ks b a<0→False:=λa b h1 h2=>by
   have h3:=ht _ _ _ h1 h2
   have h4:∀(ks:List (α→Int)) (a:α),¬cZ ks a a<0:=λks a=>by
    induction ks with
    |nil=>simp[cZ]
    |cons k r ih=>rw[gq];simpa using ih
   exact h4 _ _ h3
  have h1:(lI (cZ ks) l).Pairwise λx y=>cZ ks x y<0:=ry ht hc.1
  have hne:m.Pairwise λa b=>cZ ks a b<0∨cZ ks b a<0:=by
   have h2:(lI (cZ ks) l).Pairwise λa b=>cZ ks a b<0∨cZ ks b a<0:=h1.imp .inl;exact((kU (cZ ks) l).trans hp.symm).pairwise h2 (λ{a b} h=>h.symm)
  have h2:=tV ht hne;have h3:lI (cZ ks) m=lI (cZ ks) l:=abC anti h2 h1 ((kU _ _).trans (hp.trans (kU _ _).symm));rw[h3,hp.length_eq,hc.1,hc.2];simp[h]
theorem wk{m:List (az×Int)}{r:List aR}(hm:jJ m=some r):RO prog 88 [] [.mpf (bG (kv aJ) (vI .i64) m)] (.lst false (ml bn r)):=by
 unfold jJ at hm;split at hm
 rotate_left
 ·cases hm
 rename_i hlen;refine aZ func88 rfl rfl ?_;refine A.RS W0 [] [] [(0,.mpf (bG (kv aJ) (vI .i64) m))] [] (by kernel_rfl) ?_;refine A.RS W0 [] [] [(0,.mpf (bG (kv aJ) (vI .i64) m)),(3,.bI)] [] (by kernel_rfl) ?_;refine A.seq ?_;refine A.seq (A.RX W0 1 [] [] [(6,.mpf (bG (kv aJ) (vI .i64) m)),(0,.mpf (bG (kv aJ) (vI .i64) m)),(3,.bI)] [] (by kernel_rfl) (by kernel_rfl) (by kernel_rfl) rfl rfl (D.agn (di:=910000040) (x:=.tmp 6) (aL:=bG (kv aJ) (vI .i64) m) rfl rfl underlying125 rfl rfl) rfl rfl ?_);rintro av σ' ⟨rfl,es,clock,rfl⟩;refine⟨[],_,_,rfl,?_⟩;show af _ _ _ _ _;refine A.block ?_
 refine A.aoj (ek:=kv aJ) (enc:=vI .i64) (l:=m) (di:=910000040) (clock:=clock) (es:=es) (λq (g:List aR)=>g=q.map λp=>aR.mk p.1.aD p.1.To p.2) []
  (λ_=>[(3,.own 910000041),(7,.ptr 910000040 0)]) (λseen g=>[(910000041,.slice 60 3 (ml bn g) 0 false),(910000040,.ei es clock (bG (kv aJ) (vI .i64) m) seen)]) ⟨rfl,rfl,rfl⟩ ⟨rfl,rfl,rfl⟩ (by kernel_rfl)
  rfl (λ_=>rfl) (λ_ _=>rfl) (λ_ _ _=>rfl) (aU.go [.ad 3 910000041 60 3] [] (by kernel_rfl)) ?_ ?_
 ·rintro seen e i n v q g he hli hlq rfl
  have hq:gn (q.map λp:az×Int=>aR.mk p.1.aD p.1.To p.2) [aR.mk n.aD n.To v]=some ((q++[(n,v)]).map λp:az×Int=>aR.mk p.1.aD p.1.To p.2):=by
   unfold gn;rw[if_pos (by simp[cap];omega)];simp
  refine A.block ?_;refine A.RS W0 [] [(0,hxg 910000040 clock (kv aJ) seen (vI .i64) he hli),(3,.al 910000042)] [(3,.own 910000041),(7,.ptr 910000040 0),(4,.ptr 910000042 0),(5,.int .i64 v)] [(910000041,.slice 60 3 (ml bn (q.map λp:az×Int=>aR.mk p.1.aD p.1.To p.2)) 0 false),(910000040,.ei es clock (bG (kv aJ) (vI .i64) m) (seen.push e.born)),(910000042,.cells 84 [.int .i64 n.aD,.int .i64 n.To])] (by kernel_rfl) ?_;refine A.R W0 [] [(8,hap 910000044 (ap bn (bytes:=24) (by decide) hq))] [(3,.own 910000044),(7,.ptr 910000040 0)] [(910000044,.slice 60 3 (ml bn ((q++[(n,v)]).map λp:az×Int=>aR.mk p.1.aD p.1.To p.2)) 0 false),(910000040,.ei es clock (bG (kv aJ) (vI .i64) m) (seen.push e.born))] (by kernel_rfl) ?_;exact⟨_,rfl,aU.go [.sw 910000044 910000041] [] (by kernel_rfl)⟩
 ·rintro seen q g afk rfl;show af _ _ _ _ _;have hs:jO (cZ [λx:aR=>x.aD,λx:aR=>x.To]) (q.map λp:az×Int=>aR.mk p.1.aD p.1.To p.2)=some r:=afo hm (afk.map _);refine A.RS W0 [] [(1,hdc [] (air (d:=910000041) (T:=60) hs) asn)] [(3,.own 910000041)] [(910000041,.slice 60 3 (ml bn r) 0 false)] (by kernel_rfl) ?_;refine A.RS W0 [] [] [(2,.own 910000041)] [(910000041,.slice 60 3 (ml bn r) 0 false)] (by kernel_rfl) ?_;refine A.ret ?_;exact A.fin W0 [.fz [910000041]] rfl (by kernel_rfl)
end Go.Proofs.YtmnbolcmepihlaaGreat
