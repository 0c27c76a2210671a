/- The walk of the solver of mo trees: collect. No condition but aT aH stand in each. -/
import Derived.Test.YtmnbolcmepihlaaGreatAS
namespace Go.Proofs.YtmnbolcmepihlaaGreat
set_option linter.all false
open Go Go.Proofs.Tryz
def eMI:En (List (Int×Int)):=⟨λm=>[.mpf (bB .i64 (vI .i64) m)],1,λ_=>rfl,λ_=>rfl,λ_=>rfl⟩
def eMS:En (List (Int×(Int×Int))):=⟨λm=>[.mpf (bB .i64 vS m)],1,λ_=>rfl,λ_=>rfl,λ_=>rfl⟩
abbrev bag(o:Nat)(l:List aF):Sto:=[(910000010,.cells 34 [.own o]),(o,.slice 84 2 (ml aQ l) 0 false)]
theorem afa{α:Type}{l r:List α}(h:l.length+r.length≤549755813888):gV l r=some (l++r):=by unfold gV;rw[if_pos (by unfold cap;exact h)]
theorem afb{l:List aF}(h:aF)(hl:l.length+1≤549755813888):
  bM prog 123 (bag 910000011 l) [.agg [.int .i64 h.aJ,.int .i64 h.To],.ptr 910000010 0] (λa σ'=>a=.tup []∧σ'=bag 910000012 (l++[h])):=by
 have hap1:gV l ([h]:List aF)=some (l++[h]):=afa hl
 refine bg func123 rfl rfl ?_
 refine A.RS W0 [] [(0,.al 910000013)] [(1,.ptr 910000010 0),(2,.ptr 910000013 0)] (bag 910000011 l++[(910000013,.cells 84 [.int .i64 h.aJ,.int .i64 h.To])]) (by kernel_rfl) ?_
 refine A.R W0 [] [(3,hap 910000014 (ap aQ (bytes:=16) (by decide) hap1))] [] (bag 910000014 (l++[h])) (by kernel_rfl) ?_
 exact A.fin W0 [.sw 910000014 910000012] rfl (by kernel_rfl)
inductive Col(st:List (List (Int×(Int×Int)))):Int→Int→List aF→Prop
 |leaf {s r:Int} {m:List (Int×(Int×Int))} (h:elO st s=some m) (hn:(aO m r).getD (0,0)=(0,0)):Col st s r []
 |next {s r:Int} {m:List (Int×(Int×Int))} {x:Int×Int} {H:List aF} (h:elO st s=some m) (hx:(aO m r).getD (0,0)=x) (hn:x.1≠0) (hc:Col st s x.1 H):Col st s r (aF.mk r x.1::H)
 |part {s r:Int} {m:List (Int×(Int×Int))} {x:Int×Int} {H K:List aF} {s2:Int} (h:elO st s=some m) (hx:(aO m r).getD (0,0)=x) (h1:x.1=0) (hn:x.2≠0) (h2:s2=fR .andNot .i64 s x.2) (hc:Col st x.2 r H) (hk:Col st s2 r K):Col st s r (H++K)
theorem zSx:∀w,∃v,(zeroValue 169).run prog w=.ok v w∧∀I,ak I (vS (0,0)) v:=λw=>⟨_,zS w,zSc⟩
theorem ab9{ai:List af}{st1:List (List (Int×Int))}{st:List (List (Int×(Int×Int)))}{s r:Int}{H:List aF}(hC:Col st s r H):∀{l:List aF},l.length+H.length≤549755813888→
  bM prog 122 (bag 910000011 l) [.cH [.lst false (ml az ai),.lst false (ml eMI st1),.lst false (ml eMS st)],.int .i64 s,.int .i64 r,.fn 123 [.ptr 910000010 0]] (λa σ'=>a=.tup []∧σ'=bag 910000012 (l++H)):=by
 induction hC with
 |@leaf s r m h hn=>
  intro l _
  rw[List.append_nil]
  refine bg func122 rfl rfl ?_
  refine A.RS W0 [] [(5,hix (ix eMS h)),(8,hlf (k:=.i64) m r vS (0,0) tH zSx),(9,.al 910000015)] [(8,.ptr 910000015 0)] (bag 910000011 l++[(910000015,.cells 169 [.int .i64 ((aO m r).getD (0,0)).1,.int .i64 ((aO m r).getD (0,0)).2])]) (by kernel_rfl) ?_
  refine A.block ?_
  refine A.RS W0 [] [] [(8,.ptr 910000015 0),(18,.bool (!decide (((aO m r).getD (0,0)).1=(0:Int))))] (bag 910000011 l++[(910000015,.cells 169 [.int .i64 ((aO m r).getD (0,0)).1,.int .i64 ((aO m r).getD (0,0)).2])]) (by kernel_rfl) ?_
  refine A.cF rfl (by rw[hn];rfl) ?_
  refine A.RS W0 [] [] [(34,.bool (!decide (((aO m r).getD (0,0)).2=(0:Int))))] (bag 910000011 l) (by kernel_rfl) ?_
  refine A.cF rfl (by rw[hn];rfl) ?_
  refine A.skip ?_
  exact A.fin W0 [.rn 910000011 910000012] rfl (by kernel_rfl)
 |@next s r m x H h hx hn hc ih=>
  intro l hl
  subst hx
  simp only[List.length_cons]at hl
  rw[show l++(aF.mk r ((aO m r).getD (0,0)).1::H)=(l++[aF.mk r ((aO m r).getD (0,0)).1])++H by simp]
  have ih':=@ih (l++[aF.mk r ((aO m r).getD (0,0)).1]) (by simp;omega)
  refine bg func122 rfl rfl ?_
  refine A.RS W0 [] [(5,hix (ix eMS h)),(8,hlf (k:=.i64) m r vS (0,0) tH zSx),(9,.al 910000015)] [(0,.cH [.lst false (ml az ai),.lst false (ml eMI st1),.lst false (ml eMS st)]),(1,.int .i64 s),(2,.int .i64 r),(3,.fn 123 [.ptr 910000010 0]),(8,.ptr 910000015 0)] (bag 910000011 l++[(910000015,.cells 169 [.int .i64 ((aO m r).getD (0,0)).1,.int .i64 ((aO m r).getD (0,0)).2])]) (by kernel_rfl) ?_
  refine A.block ?_
  refine A.RS W0 [] [] [(0,.cH [.lst false (ml az ai),.lst false (ml eMI st1),.lst false (ml eMS st)]),(1,.int .i64 s),(2,.int .i64 r),(3,.fn 123 [.ptr 910000010 0]),(8,.ptr 910000015 0),(18,.bool (!decide (((aO m r).getD (0,0)).1=(0:Int))))] (bag 910000011 l++[(910000015,.cells 169 [.int .i64 ((aO m r).getD (0,0)).1,.int .i64 ((aO m r).getD (0,0)).2])]) (by kernel_rfl) ?_
  refine A.cT rfl (by simp[hn]) ?_
  refine A.RS W0 [] [(5,hdc [910000012] (afb (l:=l) (aF.mk r ((aO m r).getD (0,0)).1) (by omega)) an7)] [(0,.cH [.lst false (ml az ai),.lst false (ml eMI st1),.lst false (ml eMS st)]),(1,.int .i64 s),(3,.fn 123 [.ptr 910000010 0]),(8,.ptr 910000015 0)] (bag 910000012 (l++[aF.mk r ((aO m r).getD (0,0)).1])++[(910000015,.cells 169 [.int .i64 ((aO m r).getD (0,0)).1,.int .i64 ((aO m r).getD (0,0)).2])]) (by kernel_rfl) ?_
  refine A.R W0 [] [(5,hdc [910000017] (SC.at [(910000011,910000012),(910000012,910000017)] ih') yZ)] [] (bag 910000017 ((l++[aF.mk r ((aO m r).getD (0,0)).1])++H)) (by kernel_rfl) ?_
  exact A.fin W0 [.sw 910000017 910000012] rfl (by kernel_rfl)
 |@part s r m x H K s2 h hx h1 hn h2 hc hk ih1 ih2=>
  intro l hl
  subst hx
  subst h2
  rw[List.length_append]at hl
  rw[show l++(H++K)=(l++H)++K by simp]
  have ih1':=@ih1 l (by omega)
  have ih2':=@ih2 (l++H) (by simp;omega)
  refine bg func122 rfl rfl ?_
  refine A.RS W0 [] [(5,hix (ix eMS h)),(8,hlf (k:=.i64) m r vS (0,0) tH zSx),(9,.al 910000015)] [(0,.cH [.lst false (ml az ai),.lst false (ml eMI st1),.lst false (ml eMS st)]),(1,.int .i64 s),(2,.int .i64 r),(3,.fn 123 [.ptr 910000010 0]),(8,.ptr 910000015 0)] (bag 910000011 l++[(910000015,.cells 169 [.int .i64 ((aO m r).getD (0,0)).1,.int .i64 ((aO m r).getD (0,0)).2])]) (by kernel_rfl) ?_
  refine A.block ?_
  refine A.RS W0 [] [] [(0,.cH [.lst false (ml az ai),.lst false (ml eMI st1),.lst false (ml eMS st)]),(1,.int .i64 s),(2,.int .i64 r),(3,.fn 123 [.ptr 910000010 0]),(8,.ptr 910000015 0),(18,.bool (!decide (((aO m r).getD (0,0)).1=(0:Int))))] (bag 910000011 l++[(910000015,.cells 169 [.int .i64 ((aO m r).getD (0,0)).1,.int .i64 ((aO m r).getD (0,0)).2])]) (by kernel_rfl) ?_
  refine A.cF rfl (by simp[h1]) ?_
  refine A.RS W0 [] [] [(0,.cH [.lst false (ml az ai),.lst false (ml eMI st1),.lst false (ml eMS st)]),(1,.int .i64 s),(2,.int .i64 r),(3,.fn 123 [.ptr 910000010 0]),(8,.ptr 910000015 0),(34,.bool (!decide (((aO m r).getD (0,0)).2=(0:Int))))] (bag 910000011 l++[(910000015,.cells 169 [.int .i64 ((aO m r).getD (0,0)).1,.int .i64 ((aO m r).getD (0,0)).2])]) (by kernel_rfl) ?_
  refine A.cT rfl (by simp[hn]) ?_
  refine A.RS W0 [] [(5,hdc [910000012] ih1' yZ)] [(0,.cH [.lst false (ml az ai),.lst false (ml eMI st1),.lst false (ml eMS st)]),(1,.int .i64 s),(2,.int .i64 r),(3,.fn 123 [.ptr 910000010 0]),(8,.ptr 910000015 0)] (bag 910000012 (l++H)++[(910000015,.cells 169 [.int .i64 ((aO m r).getD (0,0)).1,.int .i64 ((aO m r).getD (0,0)).2])]) (by kernel_rfl) ?_
  refine A.R W0 [] [(7,hdc [910000017] (SC.at [(910000011,910000012),(910000012,910000017)] ih2') yZ)] [] (bag 910000017 ((l++H)++K)) (by kernel_rfl) ?_
  exact A.fin W0 [.sw 910000017 910000012] rfl (by kernel_rfl)
end Go.Proofs.YtmnbolcmepihlaaGreat
