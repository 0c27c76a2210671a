/- The uf Insert and Delete at slices aJ the call xV: what a world law ab5 of xL, as acS on the store. No condition but bk aJ stand in each. -/
import Derived.Test.YtmnbolcmepihlaaGreatBA
import Derived.Shelf.Spec.SlicesInsertGrow
namespace Go.Proofs.YtmnbolcmepihlaaGreat
set_option linter.all false
open Go Go.Lib Go.RowKit
def aj2(w:World)(b m te sz:Nat)(cells:List Value)(e:Ending)(w':World):Prop:=∃b1 c1 aac,e=.returned (.slice (some ⟨b1,0,none⟩) m c1)∧m≤c1∧c1≤maxLen∧w'.heap[b1]?=some (.cells aac te (0,0))∧aac.size=c1*sz∧aac.toList.take (m*sz)=cells∧
 (b1=b∨w.heap.size≤b1)∧(∀k,k≠b→k<w.heap.size→w'.heap[k]?=w.heap[k]?)∧w.heap.size≤w'.heap.size∧w'.tape=w.tape∧w'.os=w.os∧w'.output=w.output∧w.drawn≤w'.drawn
theorem aL.row{P:Program}{ids:List Nat}{cx:Cx}{I:Imm}{β:Nat→Value}{σ:Sto}{w w':World}{b m te sz D:Nat}{cells:List Value}{e:Ending}{ys:List (List AV)}(hw:aL ⟨P,0,ids⟩ cx I β σ w)(hb:b=w.heap.size∨(Place cx b∧∀o,I b o=none))(hD:D∉ids)
    (ho:aj2 w b m te sz cells e w') (hl:ys.length=m) (hy:∀r∈ys,r.length=sz) (hr:aT I ys.flatten cells) :
    ∃v,e=.returned v∧∃β',Rep I β' (.own D) v∧aL ⟨P,0,ids⟩ cx I β' [(D,.slice te sz ys 0 false)] w':=by
  obtain⟨b1,c1,aac,rfl,g1,g2,g3,g4,g5,g6,g7,g8,g9,g10,g11,g12⟩:=ho
  have hI:∀o,I b o=none:=λo=>by
    rcases hb with rfl|hb
    · exact hw.b9 (Nat.le_refl _) o
    · exact hb.2 o
  have hI1:∀o,I b1 o=none:=λo=>by
    rcases g6 with rfl|g6
    · exact hI o
    · exact hw.b9 g6 o
  have hpl:Place cx b1:=by
    rcases g6 with rfl|g6
    · rcases hb with rfl|hb
      · exact .inl hw.size
      · exact hb.1
    · exact .inl (Nat.le_trans hw.size g6)
  refine⟨_,rfl,λx=>if x=D then .slice (some ⟨b1,0,none⟩) m c1 else β x,by simp[Rep,fq],?_⟩
  exact{good:=λb' o v hv=>by
            have hc:=hw.good b' o v hv
            have hne:b'≠b:=λe=>by subst e;rw[hI o]at hv;cases hv
            have hlt:b'<w.heap.size:=Classical.byContradiction λh=>by rw[hw.b9 (by omega)]at hv;cases hv
            simp only[World.cell?]at hc ⊢
            rw[g7 b' hne hlt];exact hc
        cQ:=λb' v hv=>by
            obtain⟨es,clock,h1,h2⟩:=hw.cQ b' v hv
            have hne:b'≠b:=λe=>by subst e;rw[hI none]at hv;cases hv
            exact⟨es,clock,by rw[g7 b' hne (bu h1)];exact h1,h2⟩
        ec:=hw.ec
        eY:=hw.eY
        frame:=λb' h1 h2=>by
            have hne:b'≠b:=λe=>by
              subst e
              rcases hb with h|⟨h,_⟩
              · have:=hw.size;omega
              · rcases h with h|h
                · omega
                · exact h2 h
            rw[g7 b' hne (Nat.lt_of_lt_of_le h1 hw.size)];exact hw.frame b' h1 h2
        size:=Nat.le_trans hw.size g8
        tape:=g9.trans hw.tape
        os:=g10.trans hw.os
        output:=g11.trans hw.output
        drawn:=Nat.le_trans hw.drawn g12
        bg:=λx o h=>by
            rw[Sto.aF]at h
            split at h
            · rename_i e;subst e;injection h with h;subst h
              simp only[ah,if_true]
              exact .inr (.inr ⟨b1,c1,aac,by rw[hl],by omega,g2,g3,g4,by rw[hl,g5];exact hr,hy,by omega,λh=>(by cases h),λo _=>hI1 o,hpl⟩)
            · simp[Sto.get]at h
        bB:=λx y hx hy hne b hb hb'=>by
            rw[Sto.aF]at hx hy
            split at hx
            · rename_i e;subst e
              split at hy
              · rename_i e';exact hne e'
              · simp[Sto.get]at hy
            · simp[Sto.get]at hx
        keep:=λd hd=>by
            have:d≠D:=λe=>by subst e;exact hD hd
            simp only[if_neg this];exact hw.keep d hd}
end Go.Proofs.YtmnbolcmepihlaaGreat
