/- The walk of the solver of oz trees: at, try. No condition but aX aL stand in each. -/
import Derived.Test.YtmnbolcmepihlaaGreatT
import Derived.Test.YtmnbolcmepihlaaGreatB6
namespace Go.Proofs.YtmnbolcmepihlaaGreat
set_option linter.all false
open Go Go.Proofs.Tryz
def vS(s:Int×Int):AV:=.agg [.int .i64 s.1,.int .i64 s.2]
def atM(m:List (Int×Int))(r:Int):Int:=(aT m r).getD 2305843009213693951
abbrev sol(aq:List ai)(xs1:List (List AV))(m1:List (Int×Int))(xs2:List (List AV))(m2:List (Int×(Int×Int))):Sto:=
 [(910000000,.cells 165 [.lst false (ml aG aq),.own 910000001,.own 910000003]),(910000001,.slm 144 xs1 910000002),(910000002,.map 3 3 (bK .i64 (vI .i64) m1)),(910000003,.slm 166 xs2 910000004),(910000004,.map 3 169 (bK .i64 vS m2))]
theorem zI3:∀w,∃v,(zeroValue 3).run prog w=.ok v w∧∀I,aA I (vI .i64 0) v:=λw=>⟨_,zeroValue3 w,λI=>by simp[aA,vI]⟩
variable {aq:List ai}{m1:List (Int×Int)}{m2:List (Int×(Int×Int))}{xs1 xs2:List (List AV)}
theorem zU(r:Int):RO prog 120 (sol aq xs1 m1 xs2 m2) [.ptr 910000000 0,.int .i64 (xs1.length:Int),.int .i64 r] (.int .i64 (atM m1 r)):=by
 refine aY func120 rfl rfl ?_;refine A.RS W0 [] [] [(0,.ptr 910000000 0),(1,.int .i64 (xs1.length:Int)),(2,.int .i64 r)] (sol aq xs1 m1 xs2 m2) (by kernel_rfl) ?_;refine A.seq ?_;refine A.RS W0 [] [(5,hxi (xs:=xs1) (i:=(xs1.length:Int)) zC ⟨by omega,by omega⟩),(6,hxl (xs:=xs1) (p:=(xs1.length:Int).toNat) zz (by omega)),(8,hlk (lk (E:=3) (k:=.i64) (enc:=vI .i64) m1 r 0 zI3))] [(7,.int .i64 ((aT m1 r).getD 0)),(8,.bool (aT m1 r).isSome)] (sol aq xs1 m1 xs2 m2) (by kernel_rfl) ?_;refine A.RS W0 [] [] [(7,.int .i64 ((aT m1 r).getD 0)),(21,.bool (aT m1 r).isSome)] (sol aq xs1 m1 xs2 m2) (by kernel_rfl) ?_;cases hg:aT m1 r with
 |some c=>
  refine A.cT rfl rfl ?_;refine A.RS W0 [] [] [(6,.int .i64 c)] (sol aq xs1 m1 xs2 m2) (by kernel_rfl) ?_;refine A.ret ?_;have e:atM m1 r=c:=by unfold atM;rw[hg];rfl
  rw[e];exact A.fin W0 [] rfl (by kernel_rfl)
 |none=>
  refine A.cF rfl rfl ?_;refine A.skip ?_;show ah _ _ _ _ _;refine A.RS W0 [] [] [(6,.int .i64 2305843009213693951)] (sol aq xs1 m1 xs2 m2) (by kernel_rfl) ?_;refine A.ret ?_;have e:atM m1 r=2305843009213693951:=by unfold atM;rw[hg];rfl
  rw[e];exact A.fin W0 [] rfl (by kernel_rfl)
theorem agc{rows:List (List (Int×Int))}{s:Int}{m:List (Int×Int)}(r:Int)(hs:elO rows s=some m):
  RO prog 120 (sol aq (rows.map λm=>[.mpf (bK .i64 (vI .i64) m)]) m1 xs2 m2) [.ptr 910000000 0,.int .i64 s,.int .i64 r] (.int .i64 (atM m r)):=by
 obtain⟨h0,h1⟩:=(show 0≤s∧rows[s.toNat]?=some m by unfold elO at hs;split at hs;exact⟨‹_›,hs⟩;cases hs);have hlt:=(List.getElem?_eq_some_iff.1 h1).1;have hrow:(rows.map λm=>[AV.mpf (bK .i64 (vI .i64) m)])[s.toNat]?=some [.mpf (bK .i64 (vI .i64) m)]:=by rw[List.getElem?_map,h1];rfl
 have hlen:0≤s∧s<((rows.map λm=>[AV.mpf (bK .i64 (vI .i64) m)]).length:Int)+1:=by rw[List.length_map];omega
 generalize hxs:(rows.map λm=>[AV.mpf (bK .i64 (vI .i64) m)])=xs1 at hrow hlen ⊢;refine aY func120 rfl rfl ?_;refine A.RS W0 [] [] [(0,.ptr 910000000 0),(1,.int .i64 s),(2,.int .i64 r)] (sol aq xs1 m1 xs2 m2) (by kernel_rfl) ?_;refine A.seq ?_;refine A.RS W0 [] [(5,hxi (xs:=xs1) (i:=s) zC hlen),(6,hxo (xs:=xs1) (p:=s.toNat) zz hrow),(8,hlf (k:=.i64) m r (vI .i64) 0 zA zI3)] [(7,.int .i64 ((aT m r).getD 0)),(8,.bool (aT m r).isSome)] (sol aq xs1 m1 xs2 m2) (by kernel_rfl) ?_;refine A.RS W0 [] [] [(7,.int .i64 ((aT m r).getD 0)),(21,.bool (aT m r).isSome)] (sol aq xs1 m1 xs2 m2) (by kernel_rfl) ?_;cases hg:aT m r with
 |some c=>
  refine A.cT rfl rfl ?_;refine A.RS W0 [] [] [(6,.int .i64 c)] (sol aq xs1 m1 xs2 m2) (by kernel_rfl) ?_;refine A.ret ?_;have e:atM m r=c:=by unfold atM;rw[hg];rfl
  rw[e];exact A.fin W0 [] rfl (by kernel_rfl)
 |none=>
  refine A.cF rfl rfl ?_;refine A.skip ?_;show ah _ _ _ _ _;refine A.RS W0 [] [] [(6,.int .i64 2305843009213693951)] (sol aq xs1 m1 xs2 m2) (by kernel_rfl) ?_;refine A.ret ?_;have e:atM m r=2305843009213693951:=by unfold atM;rw[hg];rfl
  rw[e];exact A.fin W0 [] rfl (by kernel_rfl)
theorem aaF(r c nx pt:Int)(hc:atM m1 r≤c):
  bZ prog 119 (sol aq xs1 m1 xs2 m2) [.ptr 910000000 0,.int .i64 (xs1.length:Int),.int .i64 r,.int .i64 c,.agg [.int .i64 nx,.int .i64 pt]] (λa σ'=>a=.bool false∧σ'=sol aq xs1 m1 xs2 m2):=by
 refine aY func119 rfl rfl ?_;refine A.RS W0 [] [(0,.al 910000005)] [(0,.ptr 910000000 0),(1,.int .i64 (xs1.length:Int)),(2,.int .i64 r),(3,.int .i64 c)] (sol aq xs1 m1 xs2 m2) (by kernel_rfl) ?_;refine A.seq ?_;refine A.RS W0 [] [(4,hro (zU (aq:=aq) (xs1:=xs1) (m1:=m1) (xs2:=xs2) (m2:=m2) r) uX)] [(16,.bool (decide (atM m1 r≤c)))] (sol aq xs1 m1 xs2 m2) (by kernel_rfl) ?_;refine A.cT rfl (decide_eq_true hc) ?_;refine A.RS W0 [] [] [(10,.bool false)] (sol aq xs1 m1 xs2 m2) (by kernel_rfl) ?_;refine A.ret ?_;exact A.fin W0 [] rfl (by kernel_rfl)
theorem zS:∀w,(zeroValue 169).run prog w=.ok (.agg #[.int .i64 0,.int .i64 0]) w:=λw=>zeroValue169 w
theorem zSc:∀I,aA I (vS (0,0)) (.agg #[.int .i64 0,.int .i64 0]):=λI=>by
 simp only[vS,aA,aP];exact⟨_,rfl,_,_,rfl,rfl,_,_,rfl,rfl,rfl⟩
theorem aaG(r c nx pt:Int)(hl:xs2.length=xs1.length)(hc:c<atM m1 r):
  bZ prog 119 (sol aq xs1 m1 xs2 m2) [.ptr 910000000 0,.int .i64 (xs1.length:Int),.int .i64 r,.int .i64 c,.agg [.int .i64 nx,.int .i64 pt]] (λa σ'=>a=.bool true∧σ'=sol aq xs1 (bG m1 r c) xs2 (bG m2 r (nx,pt))):=by
 rw[←wR r ((aT m1 r).getD 0) c m1,←wR r ((aT m2 r).getD (0,0)) (nx,pt) m2];refine aY func119 rfl rfl ?_;refine A.RS W0 [] [(0,.al 910000005)] [(0,.ptr 910000000 0),(1,.int .i64 (xs1.length:Int)),(2,.int .i64 r),(3,.int .i64 c),(9,.ptr 910000005 0)] (sol aq xs1 m1 xs2 m2++[(910000005,.cells 169 [.int .i64 nx,.int .i64 pt])]) (by kernel_rfl) ?_;refine A.seq ?_;refine A.RS W0 [] [(4,hro (zU (aq:=aq) (xs1:=xs1) (m1:=m1) (xs2:=xs2) (m2:=m2) r) uX)] [(0,.ptr 910000000 0),(1,.int .i64 (xs1.length:Int)),(2,.int .i64 r),(3,.int .i64 c),(9,.ptr 910000005 0),(16,.bool (decide (atM m1 r≤c)))] (sol aq xs1 m1 xs2 m2++[(910000005,.cells 169 [.int .i64 nx,.int .i64 pt])]) (by kernel_rfl) ?_;refine A.cF rfl (decide_eq_false (by omega)) ?_;refine A.skip ?_;show ah _ _ _ _ _;refine A.ahJ (d:=910000002) (K:=3) (E:=3) (aJ:=bK .i64 (vI .i64) m1) rfl λes1 k1=>?_;refine A.ahJ (d:=910000004) (K:=3) (E:=169) (aJ:=bK .i64 vS m2) rfl λes2 k2=>?_
 refine A.RS W0 [] [(5,hxi (xs:=xs1) (i:=(xs1.length:Int)) zC ⟨by omega,by omega⟩),(6,hxl (xs:=xs1) (p:=(xs1.length:Int).toNat) zz (by omega)),(13,hxi (xs:=xs2) (i:=(xs1.length:Int)) ajc ⟨by omega,by omega⟩),(14,hxl (xs:=xs2) (p:=(xs1.length:Int).toNat) ajd (by omega)),
   (18,hme (k:=.i64) r m1 (vI .i64) 0 es1 k1 zA (λw=>zeroValue3 w) (λI=>by simp[aA,vI])),(20,hes (k:=.i64) (a0:=(aT m1 r).getD 0) r (.int .i64 0) (bG m1 r ((aT m1 r).getD 0)) (vI .i64) c es1 k1 (qB _ _ _) rfl),
   (21,hme (k:=.i64) r m2 vS (0,0) es2 k2 wD zS zSc),(23,hes (k:=.i64) (a0:=(aT m2 r).getD (0,0)) r (.agg #[.int .i64 0,.int .i64 0]) (bG m2 r ((aT m2 r).getD (0,0))) vS (nx,pt) es2 k2 (qB _ _ _) rfl)]
  [] (sol aq xs1 (bG (bG m1 r ((aT m1 r).getD 0)) r c) xs2 (bG (bG m2 r ((aT m2 r).getD (0,0))) r (nx,pt))) (by kernel_rfl) ?_
 refine A.RS W0 [] [] [(10,.bool true)] (sol aq xs1 (bG (bG m1 r ((aT m1 r).getD 0)) r c) xs2 (bG (bG m2 r ((aT m2 r).getD (0,0))) r (nx,pt))) (by kernel_rfl) ?_;refine A.ret ?_;exact A.fin W0 [] rfl (by kernel_rfl)
end Go.Proofs.YtmnbolcmepihlaaGreat
