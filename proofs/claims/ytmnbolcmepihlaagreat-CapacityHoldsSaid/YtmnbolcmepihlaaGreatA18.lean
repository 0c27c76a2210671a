/- gw F9 Insert and MY at slices bz aR call owns: dS a GZ ux Bo of AL, as Wq on aR store. bM bN cu cg bz cv in ck. -/
import Derived.Test.YtmnbolcmepihlaaGreatBA
import Derived.Shelf.Spec.SlicesInsertGrow
namespace Go.Proofs.YtmnbolcmepihlaaGreat
set_option linter.all false
open Go Go.Lib Go.RowKit
def aaQ(w:World)(b m GJ sz:Nat)(cells:List Value)(e:Ending)(w':World):Prop:=∃dJ bk Bq,e=.returned (.slice (some ⟨dJ,0,none⟩) m bk)∧m≤bk∧bk≤maxLen∧w'.heap[dJ]?=some (.cells Bq GJ (0,0))∧Bq.size=bk*sz∧Bq.toList.take (m*sz)=cells∧
 (dJ=b∨w.heap.size≤dJ)∧(∀k,k≠b→k<w.heap.size→w'.heap[k]?=w.heap[k]?)∧w.heap.size≤w'.heap.size∧w'.tape=w.tape∧w'.os=w.os∧w'.output=w.output∧w.drawn≤w'.drawn
variable {P:Program}
theorem bS.row{ids:List Nat}{cx:eO}{I:bw}{β:Nat→Value}{σ:Y}{w w':World}{b m GJ sz en:Nat}{cells:List Value}{e:Ending}{bu:List (List U)}(aq:bS ⟨P,0,ids⟩ cx I β σ w)(V:b=w.heap.size∨(Place cx b∧∀o,I b o=none))(g1:en∉ids)
    (aj:aaQ w b m GJ sz cells e w') (aJ:bu.length=m) (ah:∀r∈bu,r.length=sz) (ax:b9 I bu.flatten cells) :
    ∃v,e=.returned v∧∃β',ar I β' (.own en) v∧bS ⟨P,0,ids⟩ cx I β' [(en,.slice GJ sz bu 0 false)] w':=by
  obtain⟨dJ,bk,Bq,rfl,cF,cW,ht,lQ,sY,g6,za,Ju,Jv,afN,afO,afP⟩:=aj
  have gR:∀o,I b o=none:=λo=>by
    rcases V with rfl|V
    · exact aq.ic (Nat.le_refl _) o
    · exact V.2 o
  have JD:∀o,I dJ o=none:=λo=>by
    rcases g6 with rfl|g6
    · exact gR o
    · exact aq.ic g6 o
  have ml:Place cx dJ:=by
    rcases g6 with rfl|g6
    · rcases V with rfl|V
      · exact .inl aq.size
      · exact V.1
    · exact .inl (Nat.le_trans aq.size g6)
  refine⟨_,rfl,λx=>if x=en then .slice (some ⟨dJ,0,none⟩) m bk else β x,by simp[ar,iy],?_⟩
  exact{good:=λaN o v af=>by
            have aa:=aq.good aN o v af;have ct:aN≠b:=λe=>by subst e;rw[gR o]at af;cases af
            have bQ:aN<w.heap.size:=Classical.byContradiction λh=>by rw[aq.ic (by omega)]at af;cases af
            simp only[World.cell?]at aa ⊢;rw[za aN ct bQ];exact aa
        h9:=λaN v af=>by
            obtain⟨es,clock,h1,D⟩:=aq.h9 aN v af;have ct:aN≠b:=λe=>by subst e;rw[gR none]at af;cases af
            exact⟨es,clock,by rw[za aN ct (gV h1)];exact h1,D⟩
        ja:=aq.ja
        iL:=aq.iL
        frame:=λaN h1 D=>by
            have ct:aN≠b:=λe=>by
              subst e;rcases V with h|⟨h,_⟩
              · have:=aq.size;omega
              · rcases h with h|h
                · omega
                · exact D h
            rw[za aN ct (Nat.lt_of_lt_of_le h1 aq.size)];exact aq.frame aN h1 D
        size:=Nat.le_trans aq.size Ju
        tape:=Jv.trans aq.tape
        os:=afN.trans aq.os
        output:=afO.trans aq.output
        drawn:=Nat.le_trans aq.drawn afP
        cB:=λx o h=>by
            rw[Y.c4]at h;split at h
            · rename_i e;subst e;injection h with h;subst h
              simp only[aU,if_true];exact .inr (.inr ⟨dJ,bk,Bq,by rw[aJ],by omega,cW,ht,lQ,by rw[aJ,sY];exact ax,ah,by omega,λh=>(by cases h),λo _=>JD o,ml⟩)
            · simp[Y.get]at h
        dn:=λx y u ah ct b V hf=>by
            rw[Y.c4]at u ah;split at u
            · rename_i e;subst e
              split at ah
              · rename_i cw;exact ct cw
              · simp[Y.get]at ah
            · simp[Y.get]at u
        keep:=λd Z=>by
            have:d≠en:=λe=>by subst e;exact g1 Z
            simp only[if_neg this];exact aq.keep d Z}
theorem alm(w:World)(t e ty:TypeId)(z:Value)(bB:P.underlying t=some (.slice e))(af:∀w,(zeroValue e).run P w=.ok z w)(b o n c:Nat)(rP:Array Value)(T:TypeId)(bl:w.heap[b]?=some (.cells rP T (0,0)))(aT:0<n)
  (uj:o+(Builtin.zeroCells z.cells n).toList.length≤rP.size) (h1:∀v∈(Builtin.zeroCells z.cells n).toList,v.oneCell'=true) :
  (Builtin.clear_ #[t] ty #[.slice (some ⟨b,o,none⟩) n c]).run P w=.ok (.tuple #[]) (w.setRow b (rP.toList.take o++(Builtin.zeroCells z.cells n).toList++rP.toList.drop (o+(Builtin.zeroCells z.cells n).toList.length)).toArray):=by
 have ki:=run_storeCells_at P b o T (Builtin.zeroCells z.cells n).toList 0 rP w bl (by simpa using uj) h1;simp only[Nat.add_zero]at ki;obtain⟨m,rfl⟩:∃m,n=m+1:=⟨n-1,by omega⟩;simp[Builtin.clear_,run_underlying bB,af,ki]
theorem alp{z:Array Value}(h:∀v∈z.toList,v.oneCell'=true):∀(n:Nat),∀v∈(Builtin.zeroCells z n).toList,v.oneCell'=true:=by
 intro n;unfold Builtin.zeroCells;intro v af;simp only[Array.toList_map,List.mem_map]at af;obtain⟨k,hk,rfl⟩:=af;by_cases hz:k%z.size<z.size
 ·rw[getElem!_pos z _ hz];exact h _ (by simp)
 ·have:z.size=0:=by
   rcases Nat.eq_zero_or_pos z.size with h|h
   ·exact h
   ·exact absurd (Nat.mod_lt k h) hz
  simp[this]at hk
end Go.Proofs.YtmnbolcmepihlaaGreat
