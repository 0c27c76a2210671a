/- gw yN of aR uP of a map. bM bN. -/
import Derived.Test.YtmnbolcmepihlaaGreatWX
namespace Go.Proofs.YtmnbolcmepihlaaGreat
set_option linter.all false
open Go Go.Proofs.Tryz
set_option maxRecDepth 100000
theorem UR{α:Type}{eE:α→α→Int}(hi:∀a b,eE a b<0→eE b a<0→False):∀{a b:List α},(a.Pairwise λx y=>eE x y<0)→(b.Pairwise λx y=>eE x y<0)→a.Perm b→a=b
 |[],b,_,_,h=>(List.nil_perm.1 h).symm
 |x::r,[],_,_,h=>by have:=h.length_eq;simp at this
 |x::r,y::s,aC,V,h=>by
  rw[List.pairwise_cons]at aC V;have n5:x=y:=by
   rcases List.mem_cons.1 (h.mem_iff.1 (List.mem_cons_self))with h1|h1
   ·exact h1
   ·rcases List.mem_cons.1 (h.mem_iff.2 (List.mem_cons_self (a:=y)))with D|D
    ·exact D.symm
    ·exact(hi _ _ (aC.1 y D) (V.1 x h1)).elim
  subst n5;rw[UR hi aC.2 V.2 (List.Perm.cons_inv h)]
theorem VL{α:Type}{ks:List (α→Int)}{l m r:List α}(h:m0 (fL ks) l=some r)(aB:m.Perm l):m0 (fL ks) m=some r:=by
 unfold m0 at h ⊢;cases aa:(w9 (fL ks) (qb (fL ks) l)&&decide (l.length<4611686018427387904))with
 |false=>rw[aa]at h;cases h
 |true=>
  rw[aa]at h;simp only[cond_true,Option.some.injEq]at h;rw[Bool.and_eq_true]at aa;have bB:=x3 ks
  have adb:∀a b:α,fL ks a b<0→fL ks b a<0→False:=λa b h1 D=>by
   have ak:=bB _ _ _ h1 D
   have bc:∀(ks:List (α→Int)) (a:α),¬fL ks a a<0:=λks a=>by
    induction ks with
    |nil=>simp[fL]
    |cons k r bD=>rw[o5];simpa using bD
   exact bc _ _ ak
  have h1:(qb (fL ks) l).Pairwise λx y=>fL ks x y<0:=KO bB aa.1
  have ct:m.Pairwise λa b=>fL ks a b<0∨fL ks b a<0:=by
   have D:(qb (fL ks) l).Pairwise λa b=>fL ks a b<0∨fL ks b a<0:=h1.imp .inl;exact((xZ (fL ks) l).trans aB.symm).pairwise D (λ{a b} h=>h.symm)
  have D:=K5 bB ct;have ak:qb (fL ks) m=qb (fL ks) l:=UR adb D h1 ((xZ _ _).trans (aB.trans (xZ _ _).symm));rw[ak,aB.length_eq,aa.1,aa.2];simp[h]
theorem S3{m:List (bh×Int)}{r:List ep}(hm:vo m=some r):ef prog 88 [] [.de (dz (ei b1) (c5 .i64) m)] (.aX false (aD gx r)):=by
 unfold vo at hm;split at hm
 rotate_left
 ·cases hm
 rename_i eF;refine eu func88 rfl rfl ?_;refine A.eB cm [] [] [(0,.de (dz (ei b1) (c5 .i64) m))] [] (by kernel_rfl) ?_;refine A.eB cm [] [] [(0,.de (dz (ei b1) (c5 .i64) m)),(3,.cV)] [] (by kernel_rfl) ?_;refine A.seq ?_;refine A.seq (A.DR cm 1 [] [] [(6,.de (dz (ei b1) (c5 .i64) m)),(0,.de (dz (ei b1) (c5 .i64) m)),(3,.cV)] [] (by kernel_rfl) (by kernel_rfl) (by kernel_rfl) rfl rfl (en.Oi (cp:=910000040) (x:=.tmp 6) (bx:=dz (ei b1) (c5 .i64) m) rfl rfl underlying125 rfl rfl) rfl rfl ?_);rintro bE az ⟨rfl,es,clock,rfl⟩;refine⟨[],_,_,rfl,?_⟩;show aY _ _ _ _ _;refine A.block ?_
 refine A.QH (b4:=ei b1) (enc:=c5 .i64) (l:=m) (cp:=910000040) (clock:=clock) (es:=es) (λq (g:List ep)=>g=q.map λp=>ep.mk p.1.bg p.1.aQ p.2) []
  (λ_=>[(3,.own 910000041),(7,.ptr 910000040 0)]) (λseen g=>[(910000041,.slice 60 3 (aD gx g) 0 false),(910000040,.ig es clock (dz (ei b1) (c5 .i64) m) seen)]) ⟨rfl,rfl,rfl⟩ ⟨rfl,rfl,rfl⟩ (by kernel_rfl)
  rfl (λ_=>rfl) (λ_ _=>rfl) (λ_ _ _=>rfl) (b8.go [.ad 3 910000041 60 3] [] (by kernel_rfl)) ?_ ?_
 ·rintro seen e i n v q g he vG anM rfl
  have bR:j7 (q.map λp:bh×Int=>ep.mk p.1.bg p.1.aQ p.2) [ep.mk n.bg n.aQ v]=some ((q++[(n,v)]).map λp:bh×Int=>ep.mk p.1.bg p.1.aQ p.2):=by
   unfold j7;rw[if_pos (by simp[aF];omega)];simp
  refine A.block ?_;refine A.eB cm [] [(0,ahX 910000040 clock (ei b1) seen (c5 .i64) he vG),(3,.al 910000042)] [(3,.own 910000041),(7,.ptr 910000040 0),(4,.ptr 910000042 0),(5,.int .i64 v)] [(910000041,.slice 60 3 (aD gx (q.map λp:bh×Int=>ep.mk p.1.bg p.1.aQ p.2)) 0 false),(910000040,.ig es clock (dz (ei b1) (c5 .i64) m) (seen.push e.born)),(910000042,.cells 84 [.int .i64 n.bg,.int .i64 n.aQ])] (by kernel_rfl) ?_;refine A.R cm [] [(8,qP 910000044 (ap gx (bytes:=24) (by decide) bR))] [(3,.own 910000044),(7,.ptr 910000040 0)] [(910000044,.slice 60 3 (aD gx ((q++[(n,v)]).map λp:bh×Int=>ep.mk p.1.bg p.1.aQ p.2)) 0 false),(910000040,.ig es clock (dz (ei b1) (c5 .i64) m) (seen.push e.born))] (by kernel_rfl) ?_;exact⟨_,rfl,b8.go [.kV 910000044 910000041] [] (by kernel_rfl)⟩
 ·rintro seen q g HU rfl;show aY _ _ _ _ _;have W:m0 (fL [λx:ep=>x.bg,λx:ep=>x.aQ]) (q.map λp:bh×Int=>ep.mk p.1.bg p.1.aQ p.2)=some r:=VL hm (HU.map _);refine A.eB cm [] [(1,gN [] (Xg (d:=910000041) (T:=60) W) aeE)] [(3,.own 910000041)] [(910000041,.slice 60 3 (aD gx r) 0 false)] (by kernel_rfl) ?_;refine A.eB cm [] [] [(2,.own 910000041)] [(910000041,.slice 60 3 (aD gx r) 0 false)] (by kernel_rfl) ?_;refine A.ret ?_;exact A.fin cm [.cU [910000041]] rfl (by kernel_rfl)
end Go.Proofs.YtmnbolcmepihlaaGreat
