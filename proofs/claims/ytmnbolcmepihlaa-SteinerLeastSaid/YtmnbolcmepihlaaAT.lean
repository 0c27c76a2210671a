/- The walk of the solver of mN trees: collect. No condition but aX aH stand in each. -/
import Derived.Test.YtmnbolcmepihlaaAS
namespace Go.Proofs.Ytmnbolcmepihlaa
set_option linter.all false
open Go Go.Proofs.Try
def eMI:En (List (Int×Int)):=⟨λm=>[.mpf (bu .i64 (vI .i64) m)],1,λ_=>rfl,λ_=>rfl,λ_=>rfl⟩
def eMS:En (List (Int×(Int×Int))):=⟨λm=>[.mpf (bu .i64 vS m)],1,λ_=>rfl,λ_=>rfl,λ_=>rfl⟩
abbrev bag(o:Nat)(l:List aV):Sto:=[(910000010,.cells 34 [.own o]),(o,.slice 80 2 (ml fu l) 0 false)]
theorem aaf{α:Type}{l r:List α}(h:l.length+r.length≤549755813888):iy l r=some (l++r):=by unfold iy;rw[if_pos (by unfold cap;exact h)]
theorem aag{l:List aV}(h:aV)(hl:l.length+1≤549755813888):
  bL prog 28 (bag 910000011 l) [.agg [.int .i64 h.bf,.int .i64 h.To],.ptr 910000010 0] (λa σ'=>a=.tup []∧σ'=bag 910000012 (l++[h])):=by
 have hap1:iy l ([h]:List aV)=some (l++[h]):=aaf hl
 refine bw func28 rfl rfl ?_
 refine A.RS W0 [] [(0,.al 910000013)] [(1,.ptr 910000010 0),(2,.ptr 910000013 0)] (bag 910000011 l++[(910000013,.cells 80 [.int .i64 h.bf,.int .i64 h.To])]) (by kernel_rfl) ?_
 refine A.R W0 [] [(3,hap 910000014 (ap fu (bytes:=16) (by decide) hap1))] [] (bag 910000014 (l++[h])) (by kernel_rfl) ?_
 exact A.fin W0 [.sw 910000014 910000012] rfl (by kernel_rfl)
inductive Col(st:List (List (Int×(Int×Int)))):Int→Int→List aV→Prop
 |leaf {s r:Int} {m:List (Int×(Int×Int))} (h:elO st s=some m) (hn:(aM m r).getD (0,0)=(0,0)):Col st s r []
 |next {s r:Int} {m:List (Int×(Int×Int))} {x:Int×Int} {H:List aV} (h:elO st s=some m) (hx:(aM m r).getD (0,0)=x) (hn:x.1≠0) (hc:Col st s x.1 H):Col st s r (aV.mk r x.1::H)
 |part {s r:Int} {m:List (Int×(Int×Int))} {x:Int×Int} {H K:List aV} {s2:Int} (h:elO st s=some m) (hx:(aM m r).getD (0,0)=x) (h1:x.1=0) (hn:x.2≠0) (h2:s2=cQ .andNot .i64 s x.2) (hc:Col st x.2 r H) (hk:Col st s2 r K):Col st s r (H++K)
theorem zSx:∀w,∃v,(zeroValue 76).run prog w=.ok v w∧∀I,aj I (vS (0,0)) v:=λw=>⟨_,zS w,zSc⟩
theorem xY{ah:List af}{st1:List (List (Int×Int))}{st:List (List (Int×(Int×Int)))}{s r:Int}{H:List aV}(hC:Col st s r H):∀{l:List aV},l.length+H.length≤549755813888→
  bL prog 27 (bag 910000011 l) [.bV [.lst false (ml aG ah),.lst false (ml eMI st1),.lst false (ml eMS st)],.int .i64 s,.int .i64 r,.fn 28 [.ptr 910000010 0]] (λa σ'=>a=.tup []∧σ'=bag 910000012 (l++H)):=by
 induction hC with
 |@leaf s r m h hn=>
  intro l _
  rw[List.append_nil]
  refine bw func27 rfl rfl ?_
  refine A.RS W0 [] [(5,hix (ix eMS h)),(8,hlf (k:=.i64) m r vS (0,0) sJ zSx),(9,.al 910000015)] [(8,.ptr 910000015 0)] (bag 910000011 l++[(910000015,.cells 76 [.int .i64 ((aM m r).getD (0,0)).1,.int .i64 ((aM m r).getD (0,0)).2])]) (by kernel_rfl) ?_
  refine A.block ?_
  refine A.RS W0 [] [] [(8,.ptr 910000015 0),(18,.bool (!decide (((aM m r).getD (0,0)).1=(0:Int))))] (bag 910000011 l++[(910000015,.cells 76 [.int .i64 ((aM m r).getD (0,0)).1,.int .i64 ((aM m r).getD (0,0)).2])]) (by kernel_rfl) ?_
  refine A.cF rfl (by rw[hn];rfl) ?_
  refine A.RS W0 [] [] [(34,.bool (!decide (((aM m r).getD (0,0)).2=(0:Int))))] (bag 910000011 l) (by kernel_rfl) ?_
  refine A.cF rfl (by rw[hn];rfl) ?_
  refine A.skip ?_
  exact A.fin W0 [.rn 910000011 910000012] rfl (by kernel_rfl)
 |@next s r m x H h hx hn hc ih=>
  intro l hl
  subst hx
  simp only[List.length_cons]at hl
  rw[show l++(aV.mk r ((aM m r).getD (0,0)).1::H)=(l++[aV.mk r ((aM m r).getD (0,0)).1])++H by simp]
  have ih':=@ih (l++[aV.mk r ((aM m r).getD (0,0)).1]) (by simp;omega)
  refine bw func27 rfl rfl ?_
  refine A.RS W0 [] [(5,hix (ix eMS h)),(8,hlf (k:=.i64) m r vS (0,0) sJ zSx),(9,.al 910000015)] [(0,.bV [.lst false (ml aG ah),.lst false (ml eMI st1),.lst false (ml eMS st)]),(1,.int .i64 s),(2,.int .i64 r),(3,.fn 28 [.ptr 910000010 0]),(8,.ptr 910000015 0)] (bag 910000011 l++[(910000015,.cells 76 [.int .i64 ((aM m r).getD (0,0)).1,.int .i64 ((aM m r).getD (0,0)).2])]) (by kernel_rfl) ?_
  refine A.block ?_
  refine A.RS W0 [] [] [(0,.bV [.lst false (ml aG ah),.lst false (ml eMI st1),.lst false (ml eMS st)]),(1,.int .i64 s),(2,.int .i64 r),(3,.fn 28 [.ptr 910000010 0]),(8,.ptr 910000015 0),(18,.bool (!decide (((aM m r).getD (0,0)).1=(0:Int))))] (bag 910000011 l++[(910000015,.cells 76 [.int .i64 ((aM m r).getD (0,0)).1,.int .i64 ((aM m r).getD (0,0)).2])]) (by kernel_rfl) ?_
  refine A.cT rfl (by simp[hn]) ?_
  refine A.RS W0 [] [(5,hdc [910000012] (aag (l:=l) (aV.mk r ((aM m r).getD (0,0)).1) (by omega)) ck28)] [(0,.bV [.lst false (ml aG ah),.lst false (ml eMI st1),.lst false (ml eMS st)]),(1,.int .i64 s),(3,.fn 28 [.ptr 910000010 0]),(8,.ptr 910000015 0)] (bag 910000012 (l++[aV.mk r ((aM m r).getD (0,0)).1])++[(910000015,.cells 76 [.int .i64 ((aM m r).getD (0,0)).1,.int .i64 ((aM m r).getD (0,0)).2])]) (by kernel_rfl) ?_
  refine A.R W0 [] [(5,hdc [910000017] (SC.at [(910000011,910000012),(910000012,910000017)] ih') xX)] [] (bag 910000017 ((l++[aV.mk r ((aM m r).getD (0,0)).1])++H)) (by kernel_rfl) ?_
  exact A.fin W0 [.sw 910000017 910000012] rfl (by kernel_rfl)
 |@part s r m x H K s2 h hx h1 hn h2 hc hk ih1 ih2=>
  intro l hl
  subst hx
  subst h2
  rw[List.length_append]at hl
  rw[show l++(H++K)=(l++H)++K by simp]
  have ih1':=@ih1 l (by omega)
  have ih2':=@ih2 (l++H) (by simp;omega)
  refine bw func27 rfl rfl ?_
  refine A.RS W0 [] [(5,hix (ix eMS h)),(8,hlf (k:=.i64) m r vS (0,0) sJ zSx),(9,.al 910000015)] [(0,.bV [.lst false (ml aG ah),.lst false (ml eMI st1),.lst false (ml eMS st)]),(1,.int .i64 s),(2,.int .i64 r),(3,.fn 28 [.ptr 910000010 0]),(8,.ptr 910000015 0)] (bag 910000011 l++[(910000015,.cells 76 [.int .i64 ((aM m r).getD (0,0)).1,.int .i64 ((aM m r).getD (0,0)).2])]) (by kernel_rfl) ?_
  refine A.block ?_
  refine A.RS W0 [] [] [(0,.bV [.lst false (ml aG ah),.lst false (ml eMI st1),.lst false (ml eMS st)]),(1,.int .i64 s),(2,.int .i64 r),(3,.fn 28 [.ptr 910000010 0]),(8,.ptr 910000015 0),(18,.bool (!decide (((aM m r).getD (0,0)).1=(0:Int))))] (bag 910000011 l++[(910000015,.cells 76 [.int .i64 ((aM m r).getD (0,0)).1,.int .i64 ((aM m r).getD (0,0)).2])]) (by kernel_rfl) ?_
  refine A.cF rfl (by simp[h1]) ?_
  refine A.RS W0 [] [] [(0,.bV [.lst false (ml aG ah),.lst false (ml eMI st1),.lst false (ml eMS st)]),(1,.int .i64 s),(2,.int .i64 r),(3,.fn 28 [.ptr 910000010 0]),(8,.ptr 910000015 0),(34,.bool (!decide (((aM m r).getD (0,0)).2=(0:Int))))] (bag 910000011 l++[(910000015,.cells 76 [.int .i64 ((aM m r).getD (0,0)).1,.int .i64 ((aM m r).getD (0,0)).2])]) (by kernel_rfl) ?_
  refine A.cT rfl (by simp[hn]) ?_
  refine A.RS W0 [] [(5,hdc [910000012] ih1' xX)] [(0,.bV [.lst false (ml aG ah),.lst false (ml eMI st1),.lst false (ml eMS st)]),(1,.int .i64 s),(2,.int .i64 r),(3,.fn 28 [.ptr 910000010 0]),(8,.ptr 910000015 0)] (bag 910000012 (l++H)++[(910000015,.cells 76 [.int .i64 ((aM m r).getD (0,0)).1,.int .i64 ((aM m r).getD (0,0)).2])]) (by kernel_rfl) ?_
  refine A.R W0 [] [(7,hdc [910000017] (SC.at [(910000011,910000012),(910000012,910000017)] ih2') xX)] [] (bag 910000017 ((l++H)++K)) (by kernel_rfl) ?_
  exact A.fin W0 [.sw 910000017 910000012] rfl (by kernel_rfl)
end Go.Proofs.Ytmnbolcmepihlaa
