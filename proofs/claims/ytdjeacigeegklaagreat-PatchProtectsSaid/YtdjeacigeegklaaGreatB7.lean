/- Bound methods, and slices of what is no plain data, as the cells of an object; loops of a known number of rounds. No condition but bJ aY stand in each. -/
import Derived.Test.YtdjeacigeegklaaGreatBA
import Derived.LoopN
namespace Go.Proofs.YtdjeacigeegklaaGreat
set_option linter.all false
open Go
variable {P:Program}{tb:Tb}
variable {d0:Nat}{f:FuncId}{o:Oper}{σ σc:Sto}
theorem D.awM{G:Gl}{ev:Operand→AV}{fo:Operand}{k:Array TypeId}{Post:AV→Sto→Prop}(news:List Nat)(h:o.op=.call ⟨.value fo,#[],k⟩)(hf:ev fo=.hnd (.akg f) d0)
  (me:∀(args:Array Value) (w:World),(callFunc f args).run G.P w=.ok (.enter f args) w) (hs:∀p∈σc,σ.get p.1=some p.2)
  (hro:dA G.P f σc [.ptr d0 0] Post) (hn:news.all (λd=>!G.ids.contains d&&(σ.get d).isNone)=true) (hcl:(σ.minus σc.ids).clean news.contains=true)
  (hok:∀r σ2,Post r σ2→r.refs (λd=>!(σc.ids++news).contains d)=false∧σ2.clean (λd=>!(σc.ids++news).contains d)=true) :
  ij G o ev σ (σc.ids++news) news (λr σ'=>∃σ2,Post r σ2∧σ'=σ2++σ.minus σc.ids):=by
 intro cx I β w ρ hw hop
 have hf1:=hop fo (by simp[h,Op.operands,Call.operands])
 rw[hf]at hf1
 simp only[Rep]at hf1
 obtain⟨b,hb,hf1⟩:=hf1
 have hf1:ρ fo=.func (.func f) #[.pointer (some ⟨b,0,none⟩)] #[]:=hf1
 have hrun:(execOp ρ o).run G.P w=.ok (.enter f #[.pointer (some ⟨b,0,none⟩)]) w:=by
  simp[execOp,h,resolve,hf1,Deferred.ofValue,invoke,me]
 rw[hrun]
 have nY:bA I β [.ptr d0 0] [.pointer (some ⟨b,0,none⟩)]:=by
  simp only[bA,Rep];exact⟨_,_,rfl,⟨b,hb,rfl⟩,rfl⟩
 have hin:=hw.yq (P:=G.P) hs
 have hn':∀d∈news,d∉G.ids∧σ.get d=none:=λd hd=>by
  have:=List.all_eq_true.1 hn d hd
  simpa using this
 refine Calls.mono (hro _ w I β _ hin nY) ?_
 rintro e w' ⟨v,he,r,σ2,I',β',hp,iT,hw'⟩
 obtain⟨k1,k2⟩:=hok r σ2 hp
 obtain⟨h1,h2,h3⟩:=hw.after hs hw' news hn' hcl k2
 refine⟨v,he,r,_,I',_,⟨σ2,hp,rfl⟩,h3 r v k1 iT,h1,h2,λd hd=>by simp[hd],λd hd=>?_⟩
 have hd:d∉σc.ids∧d∉news:=by simpa using hd
 rw[Sto.nA,Sto.fk,if_neg hd.1]
 cases h2:σ2.get d with
 |some o'=>
  have:=(Sto.dh k2 d o' h2).1
  have:(σc.ids++news).contains d=true:=by rw[←Bool.not_eq_false'];exact this
  exact absurd (List.mem_append.1 (List.contains_iff_mem.1 this)) (by simp[hd.1,hd.2])
 |none=>rfl
def dmE(σc:Sto)(news:List Nat)(r:AV)(σ2:Sto)(ids:List Nat)(op:Op)(env:Env)(σ:Sto):Option (Stp×Obs):=match op with
 |.call c=>match c.callee with
  |.value fo=>(match c.args.toList with
   |[]=>(match env.evo fo with
    |some (.hnd (.akg f) d)=>(match σ.at σc.ids with
     |none=>none
     |some afW=>bif news.all (λd=>!ids.contains d&&(σ.get d).isNone)&&(σ.minus σc.ids).clean news.contains&&!r.refs (λd=>!(σc.ids++news).contains d)&&σ2.clean (λd=>!(σc.ids++news).contains d)then
      some (.e (σc.ids++news) news r (σ2++σ.minus σc.ids),([.fn f [],.ptr d 0],afW))else none)
    |_=>none)
   |_=>none)
  |_=>none
 |_=>none
theorem asO{news:List Nat}{σ2:Sto}{r:AV}(pf:dA P f σc [.ptr d0 0] (λa σ'=>a=r∧σ'=σ2))(hc:aT P f){N:Nat}{ids:List Nat}{env:Env}{s:Stp}{ob:Obs}
  (h:dmE σc news r σ2 ids o.op env σ=some (s,ob)) (he:ob=([.fn f [],.ptr d0 0],σc)):eF ⟨P,N,ids⟩ o env σ s:=by
 unfold dmE at h
 split at h
 ·rename_i c ho
  obtain⟨cl,args,k⟩:=c
  split at h
  ·rename_i fo hfo
   split at h
   ·rename_i hargs
    split at h
    ·rename_i f' d' hx
     split at h
     ·cases h
     ·rename_i afW hat
      generalize hb:(news.all _&&_&&_&&_)=bb at h
      cases bb with
      |false=>cases h
      |true=>
       simp only[Bool.and_eq_true,Bool.not_eq_true']at hb
       obtain⟨⟨⟨b1,b2⟩,b3⟩,b4⟩:=hb
       cases h
       simp only[Prod.mk.injEq,List.cons.injEq,AV.fn.injEq,AV.ptr.injEq,and_true]at he
       obtain⟨⟨rfl,rfl⟩,rfl⟩:=he
       have e1:args=#[]:=by simpa using congrArg List.toArray hargs
       have e2:cl=.value fo:=hfo
       subst e1 e2
       refine⟨?_,by rw[List.all_eq_true]at b1 ⊢;exact λd hd=>((Bool.and_eq_true _ _).mp (b1 d hd)).1⟩
       have hD:=D.awM (G:=⟨P,N,ids⟩) (σ:=σ) news ho (Env.aU hx) hc.h (Sto.pS hat).1.mem pf b1 b2 (λr' alu hh=>by obtain⟨rfl,rfl⟩:=hh;exact⟨b3,b4⟩)
       exact hD.mono λa s ⟨alu,⟨h1,h2⟩,h3⟩=>⟨h1,by rw[h3,h2]⟩
    ·cases h
   ·cases h
  ·cases h
 ·cases h
def hdm(news:List Nat){f:FuncId}{d0:Nat}{σc:Sto}{r:AV}{σ2:Sto}(pf:dA P f σc [.ptr d0 0] (λa σ'=>a=r∧σ'=σ2))(hc:aT P f):Hint P:=
 .gs true ([.fn f [],.ptr d0 0],σc) (dmE σc news r σ2) λ_ _ _ _ _ _ _ h he=>asO pf hc h he
end Go.Proofs.YtdjeacigeegklaaGreat
