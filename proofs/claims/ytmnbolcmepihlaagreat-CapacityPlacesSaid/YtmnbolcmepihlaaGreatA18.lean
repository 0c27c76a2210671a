/- The s8 Insert and Delete at slices aM the call owns: what a world law aay of aam, as afP on the store. No condition but bf aM stand in each. -/
import Derived.Test.YtmnbolcmepihlaaGreatBA
import Derived.Shelf.Spec.SlicesInsertGrow
namespace Go.Proofs.YtmnbolcmepihlaaGreat
set_option linter.all false
open Go Go.Lib Go.RowKit
def anD(w:World)(b m te sz:Nat)(cells:List Value)(e:Ending)(w':World):Prop:=∃b1 c1 acC,e=.returned (.slice (some ⟨b1,0,none⟩) m c1)∧m≤c1∧c1≤maxLen∧w'.heap[b1]?=some (.cells acC te (0,0))∧acC.size=c1*sz∧acC.toList.take (m*sz)=cells∧
 (b1=b∨w.heap.size≤b1)∧(∀k,k≠b→k<w.heap.size→w'.heap[k]?=w.heap[k]?)∧w.heap.size≤w'.heap.size∧w'.tape=w.tape∧w'.os=w.os∧w'.output=w.output∧w.drawn≤w'.drawn
variable {P:Program}
theorem aX.row{ids:List Nat}{cx:Cx}{I:Imm}{β:Nat→Value}{σ:Sto}{w w':World}{b m te sz D:Nat}{cells:List Value}{e:Ending}{ys:List (List AV)}(hw:aX ⟨P,0,ids⟩ cx I β σ w)(hb:b=w.heap.size∨(Place cx b∧∀o,I b o=none))(hD:D∉ids)
    (ho:anD w b m te sz cells e w') (hl:ys.length=m) (hy:∀r∈ys,r.length=sz) (hr:aS I ys.flatten cells) :
    ∃v,e=.returned v∧∃β',Rep I β' (.own D) v∧aX ⟨P,0,ids⟩ cx I β' [(D,.slice te sz ys 0 false)] w':=by
  obtain⟨b1,c1,acC,rfl,g1,g2,g3,g4,g5,g6,g7,g8,g9,g10,g11,g12⟩:=ho
  have hI:∀o,I b o=none:=λo=>by
    rcases hb with rfl|hb
    · exact hw.ct (Nat.le_refl _) o
    · exact hb.2 o
  have hI1:∀o,I b1 o=none:=λo=>by
    rcases g6 with rfl|g6
    · exact hI o
    · exact hw.ct g6 o
  have hpl:Place cx b1:=by
    rcases g6 with rfl|g6
    · rcases hb with rfl|hb
      · exact .inl hw.size
      · exact hb.1
    · exact .inl (Nat.le_trans hw.size g6)
  refine⟨_,rfl,λx=>if x=D then .slice (some ⟨b1,0,none⟩) m c1 else β x,by simp[Rep,fP],?_⟩
  exact{good:=λb' o v hv=>by
            have hc:=hw.good b' o v hv;have hne:b'≠b:=λe=>by subst e;rw[hI o]at hv;cases hv
            have hlt:b'<w.heap.size:=Classical.byContradiction λh=>by rw[hw.ct (by omega)]at hv;cases hv
            simp only[World.cell?]at hc ⊢;rw[g7 b' hne hlt];exact hc
        dO:=λb' v hv=>by
            obtain⟨es,clock,h1,h2⟩:=hw.dO b' v hv;have hne:b'≠b:=λe=>by subst e;rw[hI none]at hv;cases hv
            exact⟨es,clock,by rw[g7 b' hne (bF h1)];exact h1,h2⟩
        eX:=hw.eX
        fU:=hw.fU
        frame:=λb' h1 h2=>by
            have hne:b'≠b:=λe=>by
              subst e;rcases hb with h|⟨h,_⟩
              · have:=hw.size;omega
              · rcases h with h|h
                · omega
                · exact h2 h
            rw[g7 b' hne (Nat.lt_of_lt_of_le h1 hw.size)];exact hw.frame b' h1 h2
        size:=Nat.le_trans hw.size g8
        tape:=g9.trans hw.tape
        os:=g10.trans hw.os
        output:=g11.trans hw.output
        drawn:=Nat.le_trans hw.drawn g12
        bB:=λx o h=>by
            rw[Sto.aK]at h;split at h
            · rename_i e;subst e;injection h with h;subst h
              simp only[aj,if_true];exact .inr (.inr ⟨b1,c1,acC,by rw[hl],by omega,g2,g3,g4,by rw[hl,g5];exact hr,hy,by omega,λh=>(by cases h),λo _=>hI1 o,hpl⟩)
            · simp[Sto.get]at h
        bQ:=λx y hx hy hne b hb hb'=>by
            rw[Sto.aK]at hx hy;split at hx
            · rename_i e;subst e
              split at hy
              · rename_i e';exact hne e'
              · simp[Sto.get]at hy
            · simp[Sto.get]at hx
        keep:=λd hd=>by
            have:d≠D:=λe=>by subst e;exact hD hd
            simp only[if_neg this];exact hw.keep d hd}
theorem aaA(w:World)(t e ty:TypeId)(z:Value)(ht:P.underlying t=some (.slice e))(hv:∀w,(zeroValue e).run P w=.ok z w)(b o n c:Nat)(cur:Array Value)(T:TypeId)(hg:w.heap[b]?=some (.cells cur T (0,0)))(hn:0<n)
  (hfit:o+(Builtin.zeroCells z.cells n).toList.length≤cur.size) (h1:∀v∈(Builtin.zeroCells z.cells n).toList,v.oneCell'=true) :
  (Builtin.clear_ #[t] ty #[.slice (some ⟨b,o,none⟩) n c]).run P w=.ok (.tuple #[]) (w.setRow b (cur.toList.take o++(Builtin.zeroCells z.cells n).toList++cur.toList.drop (o+(Builtin.zeroCells z.cells n).toList.length)).toArray):=by
 have hst:=run_storeCells_at P b o T (Builtin.zeroCells z.cells n).toList 0 cur w hg (by simpa using hfit) h1;simp only[Nat.add_zero]at hst;obtain⟨m,rfl⟩:∃m,n=m+1:=⟨n-1,by omega⟩;simp[Builtin.clear_,run_underlying ht,hv,hst]
theorem abQ{z:Array Value}(h:∀v∈z.toList,v.oneCell'=true):∀(n:Nat),∀v∈(Builtin.zeroCells z n).toList,v.oneCell'=true:=by
 intro n;unfold Builtin.zeroCells;intro v hv;simp only[Array.toList_map,List.mem_map]at hv;obtain⟨k,hk,rfl⟩:=hv;by_cases hz:k%z.size<z.size
 ·rw[getElem!_pos z _ hz];exact h _ (by simp)
 ·have:z.size=0:=by
   rcases Nat.eq_zero_or_pos z.size with h|h
   ·exact h
   ·exact absurd (Nat.mod_lt k h) hz
  simp[this]at hk
end Go.Proofs.YtmnbolcmepihlaaGreat
