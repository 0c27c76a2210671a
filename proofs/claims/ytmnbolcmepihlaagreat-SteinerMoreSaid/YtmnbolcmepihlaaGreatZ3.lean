/- Several texts in one. No condition but those that stand in each. -/
import Derived.Test.YtmnbolcmepihlaaGreatZ2
import Derived.Shelf.SlSortCmp.NoneTotal
import Derived.Shelf.Spec.SlicesInsertGrow
import Derived.Maps.RangeRun
import Derived.Laws.MakeOwn
import Derived.Laws.OwnMore
namespace Go.Proofs.YtmnbolcmepihlaaGreat
section
set_option linter.all false
open Go Go.Sort Go.Lib Go.Shelf Go.RowKit List
def abB{w w':World}(bm:∀b,b<w.heap.size→w'.heap[b]?=w.heap[b]?)(X:w.heap.size≤w'.heap.size)(bE:w'.tape=w.tape)(ai:w'.os=w.os)(hu:w'.output=w.output)(Z:w.drawn≤w'.drawn):
  ∃q alE,w'=grow (w.drewN q) alE:=by
 refine⟨w'.drawn-w.drawn,w'.heap.extract w.heap.size w'.heap.size,?_⟩;obtain⟨h1,t1,d1,hI,hy⟩:=w';obtain⟨h,t,d,o,aA⟩:=w;simp only at bm X bE ai hu Z ⊢;subst bE ai hu;simp only[grow,World.drewN];congr 1
 ·apply Array.ext_getElem?;intro i;by_cases hi:i<h.size
  ·rw[Array.getElem?_append_left hi];exact bm i hi
  ·rw[Array.getElem?_append_right (by omega),Array.getElem?_extract];have e:h.size+(i-h.size)=i:=by omega
   rw[e];split
   ·rfl
   ·rw[Array.getElem?_eq_none (by omega)]
 ·omega
variable {α:Type}
def Oc(l:List (α→Int)):SWO (ltOf (ht l)) where
 irrefl:=λx=>by simpa [ltOf]using WE l x
 trans:=λx y z h1 D=>by simp only[ltOf,decide_eq_true_eq]at *;exact zB l x y z h1 D
 ntrans:=λx y z h1 D=>by simp only[ltOf,decide_eq_false_iff_not]at *;exact WM l x y z h1 D
variable {P:Program}{ee:α→α→Int}{enc:α→List Q}{fU:α→dZ}{g:FuncId}{k:Nat}
def Nr[Inhabited α](aa:∀(I:bs) (β:Nat→Value) x,bW I β (enc x) (fU x))
    (cM:∀x y,dT P g [] [.agg (enc x),.agg (enc y)] (.int .i64 (ee x y))) (b1 off size:Nat) (w:World):CmpLays P g #[] fU k ee b1 off size w:=λm os aiK X x y=>by
  generalize sortWorldK fU k w b1 off m aiK os=bb
  have fB:bY ⟨P,0,[]⟩ (nY (h2 bb) (λ_=>.nilFunc) [] bb) (h2 bb) (λ_=>.nilFunc) [] bb:=
    {good:=BE,hM:=Bs,jg:=cn.refl _,iV:=λ_ _ _ _=>rfl,frame:=λ_ _ _=>rfl,size:=Nat.le_refl _,tape:=rfl,os:=rfl,output:=rfl,drawn:=Nat.le_refl _,
     cw:=λd o Z=>by simp[Y.get]at Z,dA:=λd dh Z=>by simp[Y.get]at Z,keep:=λd Z=>by simp at Z}
  have af:=cM x y _ bb _ (λ_=>.nilFunc) [.agg (fU x).toArray,.agg (fU y).toArray] fB (by
    simp only[bW,au];exact⟨_,_,rfl,⟨_,rfl,aa _ _ x⟩,_,_,rfl,⟨_,rfl,aa _ _ y⟩,rfl⟩)
  refine Calls.mono af ?_;rintro e w' ⟨v,rfl,r,az,aU,β',⟨rfl,rfl⟩,kD,e1⟩;have Mg:=jW kD;subst Mg;exact⟨rfl,abB (λb U=>e1.frame b U (by simp[nY,u2,Y.ids])) e1.size e1.tape e1.os e1.output e1.drawn⟩
def WQ{k:Nat}(hk:0<k):∀(L:List (List Value)),(∀x∈L,x.length=k)→∀t,L.flatten[t]?=(L[t / k]?).bind λx=>x[t%k]?
 |[],_,t=>by simp
 |x::r,h,t=>by
  have u:=h x (by simp);rw[flatten_cons];by_cases bE:t<k
  ·rw[List.getElem?_append_left (by omega),Nat.div_eq_of_lt bE,Nat.mod_eq_of_lt bE];simp
  ·rw[List.getElem?_append_right (by omega),WQ hk r (λy ag=>h y (by simp[ag])),u];have aJ:t / k=(t-k) / k+1:=by rw[Nat.div_eq_sub_div hk (by omega)]
   have e2:(t-k)%k=t%k:=by rw[Nat.mod_eq_sub_mod (by omega:t≥k)]
   rw[aJ,e2];simp
def W1[Inhabited α](hk:0<k)(aH:∀x,(fU x).length=k)(d:Array α):(flatK fU k d).toList=(d.toList.map fU).flatten:=by
 apply List.ext_getElem?;intro t;rw[WQ hk _ (λx u=>by obtain⟨y,_,rfl⟩:=List.mem_map.1 u;exact aH y),List.getElem?_map,Array.getElem?_toList,Array.getElem?_toList];by_cases bE:t<d.size*k
 ·have h1:t / k<d.size:=(Nat.div_lt_iff_lt_mul hk).2 bE;have D:=get_flatK fU k d t bE;rw[Array.getElem?_eq_getElem (by simpa using bE),Array.getElem?_eq_getElem h1];rw[getElem!_pos (flatK fU k d) t (by simpa using bE)]at D;rw[D,getElem!_pos d _ h1];have aj:t%k<(fU d[t / k]).length:=by rw[aH];exact Nat.mod_lt _ hk
  simp[List.getElem?_eq_getElem aj,getElem!_pos,aj]
 ·have h1:d.size≤t / k:=(Nat.le_div_iff_mul_le hk).2 (by omega);rw[Array.getElem?_eq_none (by simpa using bE),Array.getElem?_eq_none h1];rfl
def FR(P:Program)(f g:FuncId){α:Type}[Inhabited α](fU:α→dZ)(k:Nat)(ee:α→α→Int):Prop:=∀(b1 off aO:Nat) (d:Array α) (w:World),HoldsK fU k w b1 off d→b1<w.heap.size→d.size<4611686018427387904→
 Calls P f #[.slice (some ⟨b1,off,none⟩) d.size aO,.func (.func g) #[] #[]] w λe w'=>e=.returned (.tuple #[])∧∃dh n os,PermIn 0 d.size d dh∧SortedIn (ltOf ee) 0 d.size dh∧w'=sortWorldK fU k w b1 off n dh os
def ag6(P:Program)(f:FuncId):Prop:=∀(p:Option Addr) (aO:Nat) (yH:Value) (w:World),Calls P f #[.slice p 0 aO,yH] w λe w'=>e=.returned (.tuple #[])∧w'=w
def XW[Inhabited α]{d dh:Array α}(aC:PermIn 0 d.size d dh)(X:SortedIn (ltOf ee) 0 d.size dh):dh.toList.Perm d.toList∧dh.toList.Pairwise λa b=>¬ee b a<0:=by
 obtain⟨h1,_,D⟩:=aC;refine⟨?_,?_⟩
 ·have aJ:dh.extract 0 d.size=dh:=by rw[←h1];simp
  have e2:d.extract 0 d.size=d:=by simp
  rwa [aJ,e2]at D
 rw[pairwise_iff_getElem];intro i j hi aT iX;have pL:j<dh.size:=by simpa using aT
 have:=X i j (Nat.zero_le _) iX (by omega);rw[getElem!_pos dh j pL,getElem!_pos dh i (by omega)]at this;simpa [ltOf]using this
def Ia{I:bs}{α:Type}{enc:α→List Q}{fU:α→dZ}(aa:∀x vs,cV I (enc x) vs↔vs=fU x):∀(zs:List α) (vs:dZ),cV I (zs.map enc).flatten vs↔vs=(zs.map fU).flatten
 |[],vs=>by simp[cV]
 |z::r,vs=>by
  simp only[map_cons,flatten_cons];rw[ox];constructor
  ·rintro⟨bI,ws,rfl,h1,D⟩;rw[(aa z bI).1 h1,(Ia aa r ws).1 D]
  ·rintro rfl;exact⟨_,_,rfl,(aa z _).2 rfl,(Ia aa r _).2 rfl⟩
def NO{f:FuncId}[Inhabited α](aa:∀(I:bs) x vs,cV I (enc x) vs↔vs=fU x)(hk:0<k)(aH:∀x,(fU x).length=k)(vQ:∀x,(enc x).length=k)
  (bE:∀a b c,ee a b<0→ee b c<0→ee a c<0) (X:FR P f g fU k ee) (aR:ag6 P f) {d T:Nat} {zs bx:List α} (h:nG ee zs=some bx) :
  eP P f [(d,.slice T k (zs.map enc) 0 false)] [.own d,.fn g []] (λr az=>r=.cI []∧az=[(d,.slice T k (bx.map enc) 0 false)]):=by
 intro cx w I β vs an aB;obtain⟨uT,uU,hz⟩:=X8 bE h;simp only[bW]at aB;obtain⟨aA,bI,rfl,aB,jA,yg,rfl,jI,rfl⟩:=aB;simp only[au,bW]at jI;obtain⟨anW,rfl,jI⟩:=jI;have e2:anW=#[]:=by apply Array.ext';simpa using jI
 subst e2;have Z:Y.get [(d,cc.slice T k (zs.map enc) 0 false)] d=some (.slice T k (zs.map enc) 0 false):=by rw[asw,if_pos rfl]
 have ai:=an.cw d _ Z;simp only[au]at aB;obtain⟨rfl,aB⟩:=aB;simp only[aY,length_map]at ai;rcases ai with q|⟨q,ar,_⟩|⟨b,aO,arr,ak,ar,aM,aK,be,bJ,b8,cT,dD,eB,fm⟩
 ·rw[q]at aB;simp[iD]at aB
 ·have D6:zs=[]:=by simpa using ar
  subst D6;have akU:bx=[]:=uT.eq_nil;subst akU;rw[q];refine Calls.mono (aR none 0 _ w) ?_;rintro e w' ⟨rfl,rfl⟩;exact⟨.tuple #[],rfl,.cI [],_,I,β,⟨rfl,rfl⟩,by simp only[au,bW];exact⟨_,rfl,rfl⟩,an⟩
 ·have mK:arr.toList.take (zs.length*k)=(zs.map fU).flatten:=(Ia (aa I) zs _).1 bJ;have lE:arr.size=aO*k:=be;have n4:zs.length*k≤arr.size:=by rw[lE];exact Nat.mul_le_mul_right k ar
  have A5:(flatK fU k zs.toArray).toList=(zs.map fU).flatten:=by rw[W1 hk aH]
  have nc:∀j,j<zs.length*k→arr[j]?=some ((flatK fU k zs.toArray)[j]!):=λj aT=>by
   have h1:(flatK fU k zs.toArray)[j]?=arr[j]?:=by
    rw[←Array.getElem?_toList,←Array.getElem?_toList,A5,←mK,getElem?_take,if_pos aT]
   have D:j<(flatK fU k zs.toArray).size:=by simpa using aT
   rw[←h1,getElem!_pos _ j D,Array.getElem?_eq_getElem D]
  have n2:HoldsK fU k w b 0 zs.toArray:=λj aT=>by
   have aT:j<zs.length*k:=by simpa using aT
   constructor
   ·simp only[World.cell?,aK,Nat.zero_add];rw[nc j aT];rfl
   ·simp[World.frozen?,aK]
  have bL:=hC aK;have af:=X b 0 aO zs.toArray w n2 bL (by simpa using hz);rw[ak];refine Calls.mono af ?_;rintro e w' ⟨rfl,dh,n,os,aky,o1,rfl⟩;obtain⟨akx,L8⟩:=XW aky o1;have dH:dh.toList=bx:=WD (akx.trans uT.symm) uU L8;have G5:bx.length=zs.length:=uT.length_eq;have n5:dh.size=zs.length:=by rw[←G5,←dH];simp
  generalize cf:flatK fU k dh=R;have ajm:R.toList=(bx.map fU).flatten:=by rw[←cf,W1 hk aH,dH]
  have AZ:R.size=zs.length*k:=by rw[←cf,size_flatK,n5]
  have akJ:sortWorldK fU k w b 0 n dh os=grow (putRow id (Go.Sort.ahead w n) b 0 R) os:=by rw[←cf];rfl
  rw[akJ];have yX:(grow (putRow id (Go.Sort.ahead w n) b 0 R) os).heap[b]?=some (.cells (putCells id 0 R arr) T (0,0)):=by
   simp only[grow,putRow,mapBlock,Go.Sort.ahead];rw[Array.getElem?_append_left (by simpa using bL),Array.getElem?_modify,if_pos rfl,aK];rfl
  have Fw:(putCells id 0 R arr).toList.take (bx.length*k)=(bx.map fU).flatten:=by
   rw[←ajm];apply List.ext_getElem?;intro j;rw[getElem?_take];split
   ·rename_i aT;rw[G5]at aT;have j2:j<arr.size:=by omega
    rw[Array.getElem?_toList,Array.getElem?_toList];simp only[putCells,Array.getElem?_mapIdx];have pM:j<R.size:=by omega
    rw[Array.getElem?_eq_getElem j2,Array.getElem?_eq_getElem pM];simp[pM]
   ·rename_i aT;rw[List.getElem?_eq_none (by simp only[Array.length_toList];rw[G5]at aT;omega)]
  refine⟨.tuple #[],rfl,.cI [],_,I,β,⟨rfl,rfl⟩,by simp only[au,bW];exact⟨_,rfl,rfl⟩,?_⟩;refine bY.turn (b:=b) (d:=d) an ⟨λk hk bL=>?_,by simp[grow,putRow,mapBlock,Go.Sort.ahead],rfl,rfl,rfl,by simp[grow,putRow,mapBlock,Go.Sort.ahead]⟩ fm (λx u=>?_) (λx u h _=>?_) (cn.refl I) (λ_ _ _=>rfl) (λo v aa=>?_) (an.tu aK) (λ_ _=>rfl) (.inr rfl) (hp.refl β) (.inl (by rw[ak];rfl)) (λaX cC=>?_)
  ·simp only[grow,putRow,mapBlock,Go.Sort.ahead];rw[Array.getElem?_append_left (by simpa using bL),Array.getElem?_modify,if_neg (λe=>hk e.symm)]
  ·rw[asw,asw,if_neg (Ne.symm u),if_neg (Ne.symm u)]
  ·rw[asw,if_neg (Ne.symm u)]at h;simp[Y.get]at h
  ·rw[eB o (by omega)]at aa;cases aa
  ·rw[asw,if_pos rfl]at cC;injection cC with cC
   subst cC;simp only[aY,length_map];refine .inr (.inr ⟨b,aO,_,by rw[ak,G5],by omega,aM,yX,by simpa [putCells]using be,?_,?_,by omega,?_,?_,fm⟩)
   ·exact(Ia (aa I) _ _).2 Fw
   ·intro e he;obtain⟨x,_,rfl⟩:=List.mem_map.1 he;exact vQ x
   ·intro h;cases h
   ·intro o _;exact eB o (by omega)
end
section
set_option linter.all false
open Go Go.Lib Go.RowKit List
def adG(w:World)(b m IG sz:Nat)(cells:dZ)(e:Ending)(w':World):Prop:=∃dO bl Dn,e=.returned (.slice (some ⟨dO,0,none⟩) m bl)∧m≤bl∧bl≤maxLen∧w'.heap[dO]?=some (.cells Dn IG (0,0))∧Dn.size=bl*sz∧Dn.toList.take (m*sz)=cells∧
 (dO=b∨w.heap.size≤dO)∧(∀k,k≠b→k<w.heap.size→w'.heap[k]?=w.heap[k]?)∧w.heap.size≤w'.heap.size∧w'.tape=w.tape∧w'.os=w.os∧w'.output=w.output∧w.drawn≤w'.drawn
def bY.row{P:Program}{ids:dg}{cx:eW}{I:bs}{β:Nat→Value}{σ:Y}{w w':World}{b m IG sz ej:Nat}{cells:dZ}{e:Ending}{bx:List (List Q)}(an:bY ⟨P,0,ids⟩ cx I β σ w)(U:b=w.heap.size∨(Place cx b∧∀o,I b o=none))(eX:ej∉ids)
    (ai:adG w b m IG sz cells e w') (aH:bx.length=m) (ag:∀r∈bx,r.length=sz) (aB:cV I bx.flatten cells) :
    ∃v,e=.returned v∧∃β',au I β' (.own ej) v∧bY ⟨P,0,ids⟩ cx I β' [(ej,.slice IG sz bx 0 false)] w':=by
  obtain⟨dO,bl,Dn,rfl,cp,cG,gC,kB,uL,g6,AS,Le,Lf,ai0,ai1,ai2⟩:=ai
  have g9:∀o,I b o=none:=λo=>by
    rcases U with rfl|U
    · exact an.iF (Nat.le_refl _) o
    · exact U.2 o
  have Lw:∀o,I dO o=none:=λo=>by
    rcases g6 with rfl|g6
    · exact g9 o
    · exact an.iF g6 o
  have nD:Place cx dO:=by
    rcases g6 with rfl|g6
    · rcases U with rfl|U
      · exact .inl an.size
      · exact U.1
    · exact .inl (Nat.le_trans an.size g6)
  refine⟨_,rfl,λx=>if x=ej then .slice (some ⟨dO,0,none⟩) m bl else β x,by simp[au,iD],?_⟩
  exact{good:=λaP o v aa=>by
            have af:=an.good aP o v aa;have cb:aP≠b:=λe=>by subst e;rw[g9 o]at aa;cases aa
            have bL:aP<w.heap.size:=Classical.byContradiction λh=>by rw[an.iF (by omega)]at aa;cases aa
            simp only[World.cell?]at af ⊢;rw[AS aP cb bL];exact af
        hM:=λaP v aa=>by
            obtain⟨es,clock,h1,D⟩:=an.hM aP v aa;have cb:aP≠b:=λe=>by subst e;rw[g9 none]at aa;cases aa
            exact⟨es,clock,by rw[AS aP cb (hC h1)];exact h1,D⟩
        jg:=an.jg
        iV:=an.iV
        frame:=λaP h1 D=>by
            have cb:aP≠b:=λe=>by
              subst e;rcases U with h|⟨h,_⟩
              · have:=an.size;omega
              · rcases h with h|h
                · omega
                · exact D h
            rw[AS aP cb (Nat.lt_of_lt_of_le h1 an.size)];exact an.frame aP h1 D
        size:=Nat.le_trans an.size Le
        tape:=Lf.trans an.tape
        os:=ai0.trans an.os
        output:=ai1.trans an.output
        drawn:=Nat.le_trans an.drawn ai2
        cw:=λx o h=>by
            rw[asw]at h;split at h
            · rename_i e;subst e;injection h with h;subst h
              simp only[aY,if_true];exact .inr (.inr ⟨dO,bl,Dn,by rw[aH],by omega,cG,gC,kB,by rw[aH,uL];exact aB,ag,by omega,λh=>(by cases h),λo _=>Lw o,nD⟩)
            · simp[Y.get]at h
        dA:=λx y u ag cb b U ha=>by
            rw[asw]at u ag;split at u
            · rename_i e;subst e
              split at ag
              · rename_i cB;exact cb cB
              · simp[Y.get]at ag
            · simp[Y.get]at u
        keep:=λd Z=>by
            have:d≠ej:=λe=>by subst e;exact eX Z
            simp only[if_neg this];exact an.keep d Z}
end
section
set_option linter.all false
open Go List
section
section redo
variable {G:ch}{cx:eW}{I:bs}{β:Nat→Value}{σ:Y}{w:World}
def bY.redo(h:bY G cx I β σ w){M news:dg}{σ2:Y}{eF:Nat→Value}{w':World}{b:Nat}(hk:gK w w' b)(UR:∀o,I b o=none)(qQ:∀x,x∉M→(σ.get x).isSome→b∉c2 (β x))(aC:Place cx b)
    (tU:∀x,x∉M→σ2.get x=σ.get x) (lF:∀x,x∉news→eF x=β x) (rM:∀x∈news,x∈M∧x∉G.ids) (hX:∀x o,x∉M→σ.get x=some o→nV news.contains o=false)
    (CE:∀x∈M,∀o,σ2.get x=some o→aY cx I eF w' x o)
    (tO:∀x∈M,(σ2.get x).isSome→∀c∈c2 (eF x),∃y∈M,(σ.get y).isSome∧c∈c2 (β y))
    (o0:∀x∈M,∀y∈M,x≠y→(σ2.get x).isSome→(σ2.get y).isSome→∀c∈c2 (eF x),c∉c2 (eF y)):bY G cx I eF σ2 w':=by
  have F3:∀x,x∉M→eF x=β x:=λx u=>lF x λaR=>u (rM x aR).1
  exact{
    good:=λaP o v aa=>by
      have h1:=h.good aP o v aa;have bL:aP<w.heap.size:=World.block_lt_of_cell? w _ h1;have cb:aP≠b:=λe=>by subst e;rw[UR]at aa;cases aa
      rw[World.cell?_of_block (w:=w) (hk.block aP cb bL)];exact h1
    hM:=λaP v aa=>by
      have cb:aP≠b:=λe=>by subst e;rw[UR]at aa;cases aa
      obtain⟨es,clock,h1,D⟩:=h.hM aP v aa;exact⟨es,clock,by rw[hk.block aP cb (hC h1)];exact h1,D⟩
    jg:=h.jg
    iV:=h.iV
    frame:=λaP U aR=>by
      have:aP≠b:=λe=>by
        subst e;rcases aC with q|q
        · omega
        · exact aR q
      rw[hk.block aP this (by have:=h.size;omega)];exact h.frame aP U aR
    size:=Nat.le_trans h.size hk.size
    tape:=hk.tape.trans h.tape
    os:=hk.os.trans h.os
    output:=hk.output.trans h.output
    drawn:=Nat.le_trans h.drawn hk.drawn
    cw:=λx o u=>by
      by_cases hm:x∈M
      · exact CE x hm o u
      · rw[tU x hm]at u
        have h1:=(h.cw x o u).beta (β':=eF) (p:=news.contains) (λd Z=>lF d (by simpa using Z)) (by simpa using λaR=>hm (rM x aR).1) (hX x o hm u);exact h1.keep hk rfl (by rw[F3 x hm];exact qQ x hm (by rw[u];rfl)) (cn.refl I) (λ_ _ _=>rfl) (hp.refl eF)
    dA:=λx y u ag cb c af gd=>by
      by_cases hm:x∈M
      · by_cases lC:y∈M
        · exact o0 x hm y lC cb u ag c af gd
        · obtain⟨z,np,qD,z3⟩:=tO x hm u c af
          rw[tU y lC]at ag;rw[F3 y lC]at gd;exact h.dA z y qD ag (λe=>lC (e▸np)) c z3 gd
      · rw[tU x hm]at u
        rw[F3 x hm]at af;by_cases lC:y∈M
        · obtain⟨z,np,qD,z3⟩:=tO y lC ag c gd
          exact h.dA x z u qD (λe=>hm (e▸np)) c af z3
        · rw[tU y lC]at ag
          rw[F3 y lC]at gd;exact h.dA x y u ag cb c af gd
    keep:=λx u=>by
      have:x∉news:=λaR=>(rM x aR).2 u;rw[lF x this];exact h.keep x u}
def bY.FA(h:bY G cx I β σ w){M news:dg}{σ2:Y}{eF:Nat→Value}
  (tU:∀x,x∉M→σ2.get x=σ.get x) (lF:∀x,x∉news→eF x=β x) (rM:∀x∈news,x∈M∧x∉G.ids) (hX:∀x o,x∉M→σ.get x=some o→nV news.contains o=false)
  (CE:∀x∈M,∀o,σ2.get x=some o→aY cx I eF w x o)
  (tO:∀x∈M,(σ2.get x).isSome→∀c∈c2 (eF x),∃y∈M,(σ.get y).isSome∧c∈c2 (β y))
  (o0:∀x∈M,∀y∈M,x≠y→(σ2.get x).isSome→(σ2.get y).isSome→∀c∈c2 (eF x),c∉c2 (eF y)):bY G cx I eF σ2 w:=
 h.redo (b:=w.heap.size) ⟨λ_ _ _=>rfl,Nat.le_refl _,rfl,rfl,rfl,Nat.le_refl _⟩ (λo=>h.iF (Nat.le_refl _) o) (λx _ X e=>by
  obtain⟨o,X⟩:=Option.isSome_iff_exists.1 X;exact absurd (h.sL X e) (by omega)) (.inl h.size) tU lF rM hX CE tO o0
end redo
section rows
variable {cx:eW}{I:bs}{w:World}
def hs.length:∀{cU:List gQ} {X:dZ},hs cx I w cU X→X.length=cU.length
 |[],_,h=>by rw[show _=[]from h];rfl
 |x::r,_,h=>by obtain⟨aA,bI,rfl,_,_,aj⟩:=h;simp[hs.length aj]
def hs.get:∀{cU:List gQ} {X:dZ},hs cx I w cU X→∀{i:Nat} {x:gQ},cU[i]?=some x→∃v,X[i]?=some v∧kC cx I w x v
 |[],_,_,i,x,hi=>by simp at hi
 |y::r,_,h,i,x,hi=>by
  obtain⟨aA,bI,rfl,h1,_,aj⟩:=h;cases i with
  |zero=>simp at hi;subst hi;exact⟨aA,rfl,h1⟩
  |succ i=>simp at hi ⊢;exact aj.get hi
def hs.ne:∀{cU:List gQ} {X:dZ},hs cx I w cU X→∀{i j:Nat} {aA v:Value} {b:Nat},i≠j→X[i]?=some aA→X[j]?=some v→b1 aA=some b→b1 v≠some b
 |[],_,h,i,j,aA,v,b,_,hi,_,_=>by rw[show _=[]from h]at hi;simp at hi
 |y::r,_,h,i,j,aA,v,b,iX,hi,aT,hu=>by
  obtain⟨z,bI,rfl,h1,D,aj⟩:=h;cases i with
  |zero=>
   cases j with
   |zero=>exact absurd rfl iX
   |succ j=>
    simp at hi aT;subst hi
    intro aa;exact D b hu (List.mem_filterMap.2 ⟨v,List.mem_of_getElem? aT,aa⟩)
  |succ i=>
   cases j with
   |zero=>
    simp at hi aT;subst aT
    intro aa;exact D b aa (List.mem_filterMap.2 ⟨aA,List.mem_of_getElem? hi,hu⟩)
   |succ j=>simp at hi aT;exact aj.ne (λe=>iX (by rw[e])) hi aT hu
def hs.set:∀{cU:List gQ} {X:dZ},hs cx I w cU X→∀{i:Nat} {x:gQ} {v:Value},kC cx I w x v→(∀j aA b,j≠i→X[j]?=some aA→b1 v=some b→b1 aA≠some b)→hs cx I w (cU.set i x) (X.set i v)
 |[],_,h,i,x,v,_,_=>by rw[show _=[]from h];simp[hs]
 |y::r,_,h,i,x,v,u,Z=>by
  obtain⟨z,bI,rfl,h1,D,aj⟩:=h;cases i with
  |zero=>
   refine⟨v,bI,rfl,u,λb U hm=>?_,aj⟩;obtain⟨aA,hu,kI⟩:=List.mem_filterMap.1 hm;obtain⟨j,aT⟩:=List.getElem?_of_mem hu;exact Z (j+1) aA b (by simp) (by simpa using aT) U kI
  |succ i=>
   refine⟨z,bI.set i v,rfl,h1,λb U hm=>?_,aj.set u λj aA b aT hu U=>Z (j+1) aA b (λe=>aT (by simpa using e)) (by simpa using hu) U⟩;obtain⟨aA,hu,kI⟩:=List.mem_filterMap.1 hm;rcases List.mem_or_eq_of_mem_set hu with hu|rfl
   ·exact D b U (List.mem_filterMap.2 ⟨aA,hu,kI⟩)
   ·exact Z 0 z b (by simp) rfl kI U
def hs.push:∀{cU:List gQ} {X:dZ},hs cx I w cU X→∀{x:gQ} {v:Value},kC cx I w x v→(∀aA b,aA∈X→b1 v=some b→b1 aA≠some b)→hs cx I w (cU++[x]) (X++[v])
 |[],_,h,x,v,u,_=>by rw[show _=[]from h];exact⟨v,[],rfl,u,by simp,rfl⟩
 |y::r,_,h,x,v,u,Z=>by
  obtain⟨z,bI,rfl,h1,D,aj⟩:=h;refine⟨z,bI++[v],rfl,h1,λb U hm=>?_,aj.push u λaA b hu=>Z aA b (mem_cons_of_mem _ hu)⟩;obtain⟨aA,hu,kI⟩:=List.mem_filterMap.1 hm;rcases List.mem_append.1 hu with hu|hu
  ·exact D b U (List.mem_filterMap.2 ⟨aA,hu,kI⟩)
  ·simp at hu;subst hu
   exact Z z b (by simp) kI U
def avg{oQ:eW}{aU:bs}{w':World}{cU:List gQ}{X:dZ}(h:hs cx I w cU X)(hle:cn I aU)(U:∀b∈X.filterMap b1,(b<w.heap.size→w'.heap[b]?=w.heap[b]?)∧(∀o,aU b o=I b o)∧(Place cx b→Place oQ b)):hs oQ aU w' cU X:=h.go hle U
def oR(vs:iY):c2 (.tuple vs)=vs.toList.filterMap b1:=rfl
def HZ{X:dZ}{i:Nat}{v:Value}{b:Nat}(h:b∈(X.set i v).filterMap b1):b∈X.filterMap b1∨b1 v=some b:=by
 obtain⟨aA,hu,kI⟩:=List.mem_filterMap.1 h;rcases List.mem_or_eq_of_mem_set hu with hu|rfl
 ·exact .inl (List.mem_filterMap.2 ⟨aA,hu,kI⟩)
 ·exact .inr kI
def gQ.obj:gQ→cc
 |.sl T sz xs=>.slice T sz xs 0 false
 |.mp K E bH=>.map K E bH
def gQ.empty:gQ→gQ
 |.sl T sz _=>.sl T sz []
 |.mp _ _ _=>.sl 0 0 []
def gQ.abC(x:gQ):kC cx I w x.empty (.slice none 0 0):=by cases x<;>exact .inl ⟨rfl,rfl⟩
def kC.obj{x:gQ}{v:Value}{β:Nat→Value}{d:Nat}(h:kC cx I w x v)(Z:β d=v):aY cx I β w d x.obj:=by
 cases x with
 |sl T sz xs=>
  simp only[gQ.obj,aY,Z];rcases h with⟨h,rfl⟩|⟨b,aO,arr,h1,D,aj,a1,bU,dP,fz,ka,iy⟩
  ·exact .inr (.inl ⟨h,rfl,trivial⟩)
  ·exact .inr (.inr ⟨b,aO,arr,h1,D,aj,a1,bU,dP,fz,Nat.zero_le _,λh=>(by cases h),λo _=>ka o,iy⟩)
 |mp K E bH=>
  simp only[gQ.obj,aY,Z];obtain⟨r,es,clock,h1,D,aj,a1,bU,dP⟩:=h;exact .inr ⟨r,es,clock,h1,D,aj,a1,bU,dP⟩
def asY{T sz:Nat}{xs:List (List Q)}{c5:Bool}{β:Nat→Value}{d:Nat}(h:aY cx I β w d (.slice T sz xs 0 c5))(aR:β d≠.nilFunc):kC cx I w (.sl T sz xs) (β d):=by
 simp only[aY]at h;rcases h with h|⟨h,rfl,_⟩|⟨b,aO,arr,h1,D,aj,a1,bU,dP,fz,_,_,ka,iy⟩
 ·exact absurd h aR
 ·exact .inl ⟨h,rfl⟩
 ·exact .inr ⟨b,aO,arr,h1,D,aj,a1,bU,dP,fz,λo=>ka o (by omega),iy⟩
def kC.ne{x:gQ}{v:Value}(h:kC cx I w x v):v≠.nilFunc∧(iD v=true∨mJ v=true):=by
 cases x with
 |sl T sz xs=>
  rcases h with⟨h,_⟩|⟨b,aO,arr,h1,_⟩
  ·rw[h];simp[iD]
  ·rw[h1];simp[iD]
 |mp K E bH=>obtain⟨r,es,clock,h1,_⟩:=h;rw[h1];simp[mJ]
def kC.ES{x:gQ}{v:Value}(h:kC cx I w x v){b:Nat}(U:b∈c2 v):b1 v=some b:=by
 cases v with
 |tuple vs=>
  have:=h.ne.2;simp[iD,mJ]at this
 |_=>simpa [c2]using U
end rows
def cc.x2(e2:Nat)(D:Option (ku×Nat)):cc→cc
 |.eO T _ n _=>.eO T e2 n D
 |.fc K E _ keys _ iK=>.fc K E e2 keys D iK
 |o=>o
def cc.yq:cc→Option (Nat×Option (ku×Nat))
 |.eO _ e _ h=>some (e,h)
 |.fc _ _ e _ h _=>some (e,h)
 |_=>none
def aY.outer{cx:eW}{I:bs}{β:Nat→Value}{w:World}{d:Nat}{o:cc}{e:Nat}{du:Option (ku×Nat)}(ai:o.yq=some (e,du))(h:aY cx I β w d o):
  β d=.nilFunc∨∃X cv,β e=.tuple X∧jD β X.toList cv du∧∃b,b1 (β d)=some b:=by
 cases o<;>simp only[cc.yq,Option.some.injEq,Prod.mk.injEq]at ai<;>first|(cases ai;done)|skip
 ·obtain⟨rfl,rfl⟩:=ai;simp only[aY]at h;rcases h with q|⟨b,aO,arr,X,ak,ar,aM,aK,be,bJ,b8,cT,dD,eB⟩
  ·exact .inl q
  ·exact .inr ⟨X,_,bJ,cT,b,by rw[ak];rfl⟩
 ·obtain⟨rfl,rfl⟩:=ai;simp only[aY]at h;rcases h with q|⟨r,es,clock,X,cv,ak,ar,aM,aK,be,bJ,b8,cT⟩
  ·exact .inl q
  ·exact .inr ⟨X,_,aM,aK,r,by rw[ak];rfl⟩
def aY.RY{cx:eW}{I:bs}{β eF:Nat→Value}{w:World}{d:Nat}{o:cc}{e e2:Nat}{du D:Option (ku×Nat)}{X ef:iY}(ai:o.yq=some (e,du))(h:aY cx I β w d o)(Z:eF d=β d)
  (he:β e=.tuple X) (k8:eF e2=.tuple ef) (aR:ef.size=X.size) (cA:∀cv,jD β X.toList cv du→jD eF ef.toList cv D):aY cx I eF w d (o.x2 e2 D):=by
 cases o<;>simp only[cc.yq,Option.some.injEq,Prod.mk.injEq]at ai<;>first|(cases ai;done)|skip
 ·obtain⟨rfl,rfl⟩:=ai;simp only[aY,cc.x2,Z]at h ⊢;rcases h with q|⟨b,aO,arr,fF,ak,ar,aM,aK,be,bJ,b8,cT,dD,eB⟩
  ·exact .inl q
  ·rw[he]at bJ;cases bJ
   exact .inr ⟨b,aO,arr,ef,ak,ar,aM,aK,be,k8,aR.trans b8,cA _ cT,dD,eB⟩
 ·obtain⟨rfl,rfl⟩:=ai;simp only[aY,cc.x2,Z]at h ⊢;rcases h with q|⟨r,es,clock,fF,cv,ak,ar,aM,aK,be,bJ,b8,cT⟩
  ·exact .inl q
  ·rw[he]at aM;cases aM
   exact .inr ⟨r,es,clock,ef,cv,ak,ar,k8,cA _ aK,be,bJ,b8,cT⟩
section take
variable {G:ch}{cx:eW}{I:bs}{β:Nat→Value}{σ:Y}{w:World}
def Cn(σ:Y)(d e e2 t:Nat)(oL:cc)(cU:List gQ)(i:Nat)(x:gQ):Y:=(t,x.obj)::(e2,.b9 (cU.set i x.empty))::(d,oL.x2 e2 (some (some i,t)))::σ.minus [d,e]
def ys{σ:Y}{a b c:Nat}{vi aX EJ:cc}{M:dg}(x:Nat):Y.get ((a,vi)::(b,aX)::(c,EJ)::σ.minus M) x=if a=x then some vi else if b=x then some aX else if c=x then some EJ else if x∈M then none else σ.get x:=by
 rw[asw,asw,asw,asG]
def s0{σ:Y}{a b:Nat}{vi aX:cc}{M:dg}(x:Nat):Y.get ((a,vi)::(b,aX)::σ.minus M) x=if a=x then some vi else if b=x then some aX else if x∈M then none else σ.get x:=by
 rw[asw,asw,asG]
def bY.take(h:bY G cx I β σ w){d e e2 t i:Nat}{oL:cc}{cU:List gQ}{x:gQ}(Z:σ.get d=some oL)(ai:oL.yq=some (e,none))(he:σ.get e=some (.b9 cU))(u:cU[i]?=some x)(iR:β d≠.nilFunc)
  (bE:σ.get t=none) (k8:σ.get e2=none) (zf:t≠e2) (D1:t∉G.ids) (n9:e2∉G.ids) (hX:σ.clean [t,e2].contains=true) :
  ∃X:iY,β e=.tuple X∧∃v,X[i]?=some v∧kC cx I w x v∧bY G cx I (λy=>if y=t then v else if y=e2 then .tuple (X.setIfInBounds i (.slice none 0 0))else β y) (Cn σ d e e2 t oL cU i x) w:=by
 rcases(h.cw d oL Z).outer ai with q|⟨X,cv,ak,ar,bd,aM⟩
 ·exact absurd q iR
 have kH:=h.cw e _ he;simp only[aY,ak,Value.tuple.injEq,reduceCtorEq,false_or]at kH;obtain⟨fF,rfl,U⟩:=kH;obtain⟨v,dK,fS⟩:=U.get u;refine⟨X,ak,v,by simpa using dK,fS,?_⟩;have cb:∀y,(σ.get y).isSome→y≠t∧y≠e2:=λy ag=>⟨λe=>(by subst e;rw[bE]at ag;cases ag),λe=>(by subst e;rw[k8]at ag;cases ag)⟩;have r7:=cb d (by rw[Z];rfl);have Ak:=cb e (by rw[he];rfl);have js:d≠e:=λcB=>by subst cB;rw[Z]at he;cases he;cases ai
 have xu:i<X.toList.length:=(List.getElem?_eq_some_iff.1 dK).1
 let eF:Nat→Value:=λy=>if y=t then v else if y=e2 then .tuple (X.setIfInBounds i (.slice none 0 0))else β y
 have rA:eF t=v:=by show(if _ then _ else _)=_;rw[if_pos rfl]
 have k2:eF e2=.tuple (X.setIfInBounds i (.slice none 0 0)):=by show(if _ then _ else _)=_;rw[if_neg (Ne.symm zf),if_pos rfl]
 have lq:eF d=β d:=by show(if _ then _ else _)=_;rw[if_neg r7.1,if_neg r7.2]
 have iA:(X.setIfInBounds i (.slice none 0 0)).toList=X.toList.set i (.slice none 0 0):=by simp
 refine h.FA (M:=[d,e,e2,t]) (news:=[t,e2]) (eF:=eF) (λy ag=>?_) (λy ag=>?_) (λy ag=>?_) (λy o _ hc=>(asF hX y o hc).2) (λy ag o hc=>?_) (λy ag ef c af=>?_) (λy ag z hz mE eV ef c af gd=>?_)
 ·simp only[mem_cons,not_mem_nil,or_false,not_or]at ag;rw[Cn,ys,if_neg (Ne.symm ag.2.2.2),if_neg (Ne.symm ag.2.2.1),if_neg (Ne.symm ag.1),if_neg (by simp[ag.1,ag.2.1])]
 ·simp only[mem_cons,not_mem_nil,or_false,not_or]at ag;show(if _ then _ else _)=_;rw[if_neg ag.1,if_neg ag.2]
 ·simp only[mem_cons,not_mem_nil,or_false]at ag;rcases ag with rfl|rfl
  ·exact⟨by simp,D1⟩
  ·exact⟨by simp,n9⟩
 ·rw[Cn,ys]at hc;split at hc
  ·rename_i cB;subst cB;cases hc;exact fS.obj rA
  ·split at hc
   ·rename_i cB;subst cB;cases hc
    simp only[aY];refine .inr ⟨_,k2,?_⟩;rw[iA];exact U.set x.abC λj aA b _ _ ha=>by cases ha
   ·split at hc
    ·rename_i cB;subst cB;cases hc
     refine(h.cw d oL Z).RY ai lq ak k2 (by simp) λcv mC=>?_;rw[show cv=X.toList from mC,iA];refine⟨by simpa using xu,by rw[rA];exact fS.ne.1,?_⟩;rw[rA,List.set_set];apply List.ext_getElem?;intro j;rw[List.getElem?_set];by_cases iX:i=j
     ·subst iX;rw[if_pos rfl,if_pos xu];exact dK
     ·rw[if_neg iX]
    ·split at hc
     ·cases hc
     ·rename_i h1 D aj a1;simp only[mem_cons,not_mem_nil,or_false]at ag a1;rcases ag with rfl|rfl|rfl|rfl
      ·exact absurd rfl aj
      ·exact absurd (.inr rfl) a1
      ·exact absurd rfl D
      ·exact absurd rfl h1
 ·simp only[mem_cons,not_mem_nil,or_false]at ag;rw[Cn,ys]at ef;by_cases zk:y=d
  ·subst zk;rw[lq]at af;exact⟨y,by simp,by rw[Z];rfl,af⟩
  by_cases Ml:y=t
  ·subst Ml;rw[rA]at af;exact⟨e,by simp,by rw[he];rfl,by rw[ak,oR];exact List.mem_filterMap.2 ⟨v,List.mem_of_getElem? dK,fS.ES af⟩⟩
  by_cases Mk:y=e2
  ·subst Mk;rw[k2,oR,iA]at af;rcases HZ af with af|af
   ·exact⟨e,by simp,by rw[he];rfl,by rw[ak,oR];exact af⟩
   ·cases af
  ·rw[if_neg (Ne.symm Ml),if_neg (Ne.symm Mk),if_neg (Ne.symm zk),if_pos]at ef
   ·cases ef
   ·rcases ag with rfl|rfl|rfl|rfl
    ·exact absurd rfl zk
    ·simp
    ·exact absurd rfl Mk
    ·exact absurd rfl Ml
 ·
  have mz:∀y,y∈[d,e,e2,t]→(Y.get (Cn σ d e e2 t oL cU i x) y).isSome→y=d∨y=e2∨y=t:=λy ag ef=>by
   rw[Cn,ys]at ef;simp only[mem_cons,not_mem_nil,or_false]at ag;rcases ag with rfl|rfl|rfl|rfl
   ·exact .inl rfl
   ·rw[if_neg (Ne.symm Ak.1),if_neg (Ne.symm Ak.2),if_neg js,if_pos (by simp)]at ef;cases ef
   ·exact .inr (.inl rfl)
   ·exact .inr (.inr rfl)
  have Al:∀c,c∈c2 (β d)→c∉c2 (β e):=h.dA d e (by rw[Z];rfl) (by rw[he];rfl) js
  have Hg:∀c,c∈c2 (eF e2)→∃j aA,j≠i∧X.toList[j]?=some aA∧b1 aA=some c:=λc af=>by
   rw[k2,oR,iA]at af;obtain⟨aA,hu,kI⟩:=List.mem_filterMap.1 af;obtain⟨j,aT⟩:=List.getElem?_of_mem hu;rw[List.getElem?_set]at aT;split at aT
   ·rename_i iX;cases aT;cases kI
   ·rename_i iX;exact⟨j,aA,λe=>iX e.symm,aT,kI⟩
  have TF:∀c,c∈c2 (eF e2)→c∈c2 (β e):=λc af=>by
   obtain⟨j,aA,_,aT,hu⟩:=Hg c af;rw[ak,oR];exact List.mem_filterMap.2 ⟨aA,List.mem_of_getElem? aT,hu⟩
  have VJ:∀c,c∈c2 (eF t)→b1 v=some c:=λc af=>by rw[rA]at af;exact fS.ES af
  have TG:∀c,c∈c2 (eF t)→c∈c2 (β e):=λc af=>by
   rw[ak,oR];exact List.mem_filterMap.2 ⟨v,List.mem_of_getElem? dK,VJ c af⟩
  have UI:∀c,c∈c2 (eF e2)→c∈c2 (eF t)→False:=λc af gd=>by
   obtain⟨j,aA,aT,DS,kI⟩:=Hg c af;exact U.ne aT DS dK kI (VJ c gd)
  rcases mz y ag eV with rfl|rfl|rfl<;>rcases mz z hz ef with rfl|rfl|rfl
  ·exact mE rfl
  ·rw[lq]at af;exact Al c af (TF c gd)
  ·rw[lq]at af;exact Al c af (TG c gd)
  ·rw[lq]at gd;exact Al c gd (TF c af)
  ·exact mE rfl
  ·exact UI c af gd
  ·rw[lq]at gd;exact Al c gd (TG c af)
  ·exact UI c gd af
  ·exact mE rfl
def bY.back(h:bY G cx I β σ w){d e e2 t i:Nat}{oL:cc}{cU:List gQ}{T sz:Nat}{xs:List (List Q)}{c5:Bool}(Z:σ.get d=some oL)(ai:oL.yq=some (e,some (some i,t)))(he:σ.get e=some (.b9 cU))
  (bE:σ.get t=some (.slice T sz xs 0 c5)) (k8:σ.get e2=none) (n9:e2∉G.ids) (hX:σ.clean [e2].contains=true) :
  ∃eF,(∀y,y≠e2→eF y=β y)∧bY G cx I eF ((e2,.b9 (cU.set i (.sl T sz xs)))::(d,oL.x2 e2 none)::σ.minus [d,e,t]) w:=by
 have cb:∀y,(σ.get y).isSome→y≠e2:=λy ag e=>by subst e;rw[k8]at ag;cases ag
 have r7:=cb d (by rw[Z];rfl);have Ak:=cb e (by rw[he];rfl);have akL:=cb t (by rw[bE];rfl);have js:d≠e:=λcB=>by subst cB;rw[Z]at he;cases he;cases ai
 have U2:d≠t:=λcB=>by subst cB;rw[Z]at bE;cases bE;cases ai
 have ajU:e≠t:=λcB=>by subst cB;rw[he]at bE;cases bE
 have zD:∃aA:Value,(oL.yq=some (e,some (some i,t))→∀eF:Nat→Value,(∀y,y≠e2→eF y=β y)→eF e2=aA→aY cx I eF w d (oL.x2 e2 none)∧aY cx I eF w e2 (.b9 (cU.set i (.sl T sz xs))))∧∀c∈c2 aA,c∈c2 (β e)∨c∈c2 (β t):=by
  rcases(h.cw d oL Z).outer ai with q|⟨X,cv,ak,⟨ar,MX,arF⟩,bd,aM⟩
  ·refine⟨.nilFunc,λ_ eF h1 D=>⟨?_,by simp only[aY];exact .inl D⟩,by simp[MY]⟩;have:eF d=.nilFunc:=by rw[h1 d r7];exact q
   cases oL<;>simp only[cc.yq,reduceCtorEq]at ai<;>simp only[cc.x2,aY]<;>exact .inl this
  ·have kH:=h.cw e _ he;simp only[aY,ak,Value.tuple.injEq,reduceCtorEq,false_or]at kH;obtain⟨fF,rfl,U⟩:=kH;have iz:=asY (h.cw t _ bE) MX;refine⟨.tuple (X.setIfInBounds i (β t)),λ_ eF h1 D=>⟨?_,?_⟩,λc af=>?_⟩
   ·refine(h.cw d oL Z).RY ai (h1 d r7) ak D (by simp) λah9 mC=>?_;obtain⟨_,_,mC⟩:=mC;show ah9=_;rw[mC];simp
   ·simp only[aY];refine .inr ⟨_,D,?_⟩;rw[show(X.setIfInBounds i (β t)).toList=X.toList.set i (β t)by simp];refine U.set iz λj aA b aT DS A2 kH=>?_;refine h.dA e t (by rw[he];rfl) (by rw[bE];rfl) ajU b ?_ (j8 A2);rw[ak,oR];exact List.mem_filterMap.2 ⟨aA,List.mem_of_getElem? DS,kH⟩
   ·rw[oR,show(X.setIfInBounds i (β t)).toList=X.toList.set i (β t)by simp]at af;rcases HZ af with af|af
    ·exact .inl (by rw[ak,oR];exact af)
    ·exact .inr (j8 af)
 obtain⟨aA,m1,m2⟩:=zD;have eS:∀y,y≠e2→(λy=>if y=e2 then aA else β y) y=β y:=λy ag=>if_neg ag;have pZ:(λy=>if y=e2 then aA else β y) e2=aA:=if_pos rfl;refine⟨λy=>if y=e2 then aA else β y,eS,?_⟩;generalize (λy=>if y=e2 then aA else β y)=eF at eS pZ;obtain⟨hI,fW⟩:=m1 ai eF eS pZ
 have mz:∀y,y∈[d,e,e2,t]→(Y.get ((e2,.b9 (cU.set i (.sl T sz xs)))::(d,oL.x2 e2 none)::σ.minus [d,e,t]) y).isSome→y=d∨y=e2:=λy ag ef=>by
  rw[s0]at ef;simp only[mem_cons,not_mem_nil,or_false]at ag;rcases ag with rfl|rfl|rfl|rfl
  ·exact .inl rfl
  ·rw[if_neg (Ne.symm Ak),if_neg js,if_pos (by simp)]at ef;cases ef
  ·exact .inr rfl
  ·rw[if_neg (Ne.symm akL),if_neg U2,if_pos (by simp)]at ef;cases ef
 have TH:∀c,c∈c2 (eF d)→c∉c2 (eF e2):=λc af gd=>by
  rw[eS d r7]at af;rw[pZ]at gd;rcases m2 c gd with q|q
  ·exact h.dA d e (by rw[Z];rfl) (by rw[he];rfl) js c af q
  ·exact h.dA d t (by rw[Z];rfl) (by rw[bE];rfl) U2 c af q
 refine h.FA (M:=[d,e,e2,t]) (news:=[e2]) (eF:=eF) (λy ag=>?_) (λy ag=>eS y (by simpa using ag)) (λy ag=>by simp only[List.mem_singleton]at ag;subst ag;exact⟨by simp,n9⟩) (λy o _ hc=>(asF hX y o hc).2) (λy ag o hc=>?_) (λy ag ef c af=>?_) (λy ag z hz mE eV ef c af gd=>?_)
 ·simp only[mem_cons,not_mem_nil,or_false,not_or]at ag;rw[s0,if_neg (Ne.symm ag.2.2.1),if_neg (Ne.symm ag.1),if_neg (by simp[ag.1,ag.2.1,ag.2.2.2])]
 ·have:=mz y ag (by rw[hc];rfl);rw[s0]at hc;rcases this with rfl|rfl
  ·rw[if_neg (Ne.symm r7),if_pos rfl]at hc;cases hc;exact hI
  ·rw[if_pos rfl]at hc;cases hc;exact fW
 ·rcases mz y ag ef with rfl|rfl
  ·rw[eS y r7]at af;exact⟨y,by simp,by rw[Z];rfl,af⟩
  ·rw[pZ]at af;rcases m2 c af with q|q
   ·exact⟨e,by simp,by rw[he];rfl,q⟩
   ·exact⟨t,by simp,by rw[bE];rfl,q⟩
 ·rcases mz y ag eV with rfl|rfl<;>rcases mz z hz ef with rfl|rfl
  ·exact mE rfl
  ·exact TH c af gd
  ·exact TH c gd af
  ·exact mE rfl
end take
end
section
def e8{α:Type}(k:IntKind)(l:List (Int×α)):List Q:=l.map λp=>.int k p.1
def hh{α:Type}(T:TypeId)(sz:Nat)(enc:α→List Q)(l:List (Int×List α)):List gQ:=l.map λp=>.sl T sz (p.2.map enc)
def iJ{α:Type}:List (Int×α)→Int→Nat
 |[],_=>0
 |p::r,n=>if p.1=n then 0 else iJ r n+1
def lK{α:Type}:List (Int×List α)→Int→List (Int×List α)
 |[],_=>[]
 |p::r,n=>if p.1=n then(p.1,[])::r else p::lK r n
def oe{α:Type}(l:List (Int×α))(n:Int)(t:Nat):Option (ku×Nat):=some (bif (aD l n).isSome then some (iJ l n)else none,t)
variable {α:Type}
def jN(p:Int×α)(r:List (Int×α))(n:Int):aD (p::r) n=if p.1=n then some p.2 else aD r n:=by
 by_cases h:p.1=n<;>simp[aD,List.find?,h]
def PN{α:Type}:∀{l:List (Int×List α)} {n:Int},aD l n=none→lK l n=l
 |[],_,_=>rfl
 |p::r,n,h=>by
  rw[jN]at h;split at h
  ·cases h
  ·rename_i aC;simp only[lK,if_neg aC,PN h]
def Qo{α:Type}:∀(l:List (Int×List α)) (n:Int) (v:List α),bG (lK l n) n v=bG l n v
 |[],_,_=>rfl
 |p::r,n,v=>by
  by_cases aC:p.1=n
  ·simp[lK,bG,aC]
  ·simp[lK,bG,aC,Qo r n v]
def PO{α:Type}(k:IntKind):∀(l:List (Int×List α)) (n:Int),e8 k (lK l n)=e8 k l
 |[],_=>rfl
 |p::r,n=>by
  by_cases aC:p.1=n
  ·simp[lK,aC,e8]
  ·have:=PO k r n;simp only[e8]at this;simp[lK,aC,e8,this]
def PR{α:Type}:∀(l:List (Int×List α)) (n:Int),(aD (lK l n) n).isSome=(aD l n).isSome
 |[],_=>rfl
 |p::r,n=>by
  by_cases aC:p.1=n
  ·simp[lK,aC,jN]
  ·simp[lK,aC,jN,PR r n]
def Qp{α:Type}:∀(l:List (Int×List α)) (n:Int),iJ (lK l n) n=iJ l n
 |[],_=>rfl
 |p::r,n=>by
  by_cases aC:p.1=n
  ·simp[lK,aC,iJ]
  ·simp[lK,aC,iJ,Qp r n]
def YX(l:List (Int×List α))(n:Int)(t:Nat):oe (lK l n) n t=oe l n t:=by simp[oe,PR,Qp]
def Od{α:Type}:∀{l:List (Int×α)} {n:Int} {a:α},aD l n=some a→∃m,m=n∧l[iJ l n]?=some (m,a)
 |[],_,_,h=>by simp[aD]at h
 |p::r,n,a,h=>by
  rw[jN]at h;split at h
  ·rename_i aC;cases h;exact⟨p.1,aC,by simp only[iJ,if_pos aC];rfl⟩
  ·rename_i aC;obtain⟨m,h1,D⟩:=Od h;exact⟨m,h1,by simp[iJ,aC,D]⟩
def EU{α:Type}:∀{l:List (Int×α)} {n:Int} {a:α} (v:α),aD l n=some a→bG l n v=l.set (iJ l n) (n,v)
 |[],_,_,_,h=>by simp[aD]at h
 |p::r,n,a,v,h=>by
  rw[jN]at h;split at h
  ·rename_i aC;simp[bG,iJ,aC]
  ·rename_i aC;simp[bG,iJ,aC,EU v h]
def NP{α:Type}:∀{l:List (Int×α)} {n:Int} (v:α),aD l n=none→bG l n v=l++[(n,v)]
 |[],_,_,_=>rfl
 |p::r,n,v,h=>by
  rw[jN]at h;split at h
  ·cases h
  ·rename_i aC;simp[bG,aC,NP v h]
def NQ{α:Type}:∀{l:List (Int×List α)} {n:Int} {a:List α},aD l n=some a→lK l n=l.set (iJ l n) (n,[])
 |[],_,_,h=>by simp[aD]at h
 |p::r,n,a,h=>by
  rw[jN]at h;split at h
  ·rename_i aC;simp[lK,iJ,aC]
  ·rename_i aC;simp[lK,iJ,aC,NQ h]
def IE{T:TypeId}{sz:Nat}{enc:α→List Q}(l:List (Int×List α))(i:Nat)(n:Int)(v:List α):hh T sz enc (l.set i (n,v))=(hh T sz enc l).set i (.sl T sz (v.map enc)):=by simp[hh,List.map_set]
def Qq{k:IntKind}{l:List (Int×α)}{n:Int}{a:α}(v:α)(h:aD l n=some a):e8 k (l.set (iJ l n) (n,v))=e8 k l:=by
 obtain⟨m,rfl,D⟩:=Od h;simp only[e8,List.map_set];apply List.ext_getElem?;intro j;rw[List.getElem?_set];split
 ·rename_i aT;subst aT;rw[List.getElem?_map,D];split
  ·rfl
  ·rename_i bL;exact absurd (by simpa using (List.getElem?_eq_some_iff.1 D).1) bL
 ·rfl
def Nc{I:bs}{α:Type}{k:IntKind}(n:Int):∀(l:List (Int×α)) (vs:dZ) (es:nM) (i:Nat) (a:α),k6 I (e8 k l) vs es→aD l n=some a→
  ∃v e,vs[iJ l n]?=some v∧es[iJ l n]?=some e∧e.key=.int k n∧Instr.findNow (.int k) (.int k n) es i=some (some (i+iJ l n,v))∧
   ∀(aA:Value) (jx:MapEntry→MapEntry),(∀e,(jx e).key=.int k n∧(jx e).val=aA)→k6 I (e8 k l) (vs.set (iJ l n) aA) (es.modify (iJ l n) jx)
 |[],vs,es,i,a,h,bu=>by simp[aD]at bu
 |(m,b)::r,vs,es,i,a,h,bu=>by
  simp only[e8,map_cons,k6]at h;obtain⟨v,bI,e,mB,rfl,rfl,aj,a1,bU⟩:=h;simp only[bc]at aj;rw[jN]at bu;by_cases hm:m=n
  ·subst hm;simp only[iJ,if_true];refine⟨v,e,rfl,rfl,aj,by simp[Instr.findNow,Instr.sameNow,aj,a1],λaA jx hk=>?_⟩;simp only[e8,map_cons,set_cons_zero,modify_zero_cons,k6];exact⟨aA,bI,jx e,mB,rfl,rfl,by simp only[bc];exact(hk e).1,(hk e).2,bU⟩
  ·rw[if_neg hm]at bu;obtain⟨dF,cB,ak,ar,aM,aK,be⟩:=Nc n r bI mB (i+1) a bU bu;simp only[iJ,if_neg hm];refine⟨dF,cB,by simpa using ak,by simpa using ar,aM,?_,λaA jx hk=>?_⟩
   ·simp only[Instr.findNow,Instr.sameNow,aj,if_pos];have:(n==m)=false:=by simpa using λe=>hm e.symm
    rw[this];simp only;rw[aK];simp[Nat.add_assoc,Nat.add_comm 1]
   ·simp only[e8,map_cons,set_cons_succ,modify_succ_cons,k6];exact⟨v,_,e,_,rfl,rfl,by simp only[bc];exact aj,a1,be aA jx hk⟩
def Nd{I:bs}{α:Type}{k:IntKind}(n:Int):∀(l:List (Int×α)) (vs:dZ) (es:nM) (i:Nat),k6 I (e8 k l) vs es→aD l n=none→
  Instr.findNow (.int k) (.int k n) es i=some none∧∀(b:α) (e:MapEntry),e.key=.int k n→k6 I (e8 k (l++[(n,b)])) (vs++[e.val]) (es++[e])
 |[],vs,es,i,h,bu=>by
  simp only[e8,map_nil,k6]at h;obtain⟨rfl,rfl⟩:=h;refine⟨rfl,λb e hk=>?_⟩;simp only[nil_append,e8,map_cons,map_nil,k6];exact⟨e.val,[],e,[],rfl,rfl,by simp only[bc];exact hk,rfl,rfl,rfl⟩
 |(m,c)::r,vs,es,i,h,bu=>by
  simp only[e8,map_cons,k6]at h;obtain⟨v,bI,e,mB,rfl,rfl,aj,a1,bU⟩:=h;simp only[bc]at aj;rw[jN]at bu;have hm:m≠n:=λhm=>by rw[if_pos hm]at bu;cases bu
  rw[if_neg hm]at bu;obtain⟨ak,ar⟩:=Nd n r bI mB (i+1) bU bu;refine⟨?_,λb cB hk=>?_⟩
  ·simp only[Instr.findNow,Instr.sameNow,aj,if_pos];have:(n==m)=false:=by simpa using λe=>hm e.symm
   rw[this];exact ak
  ·have:=ar b cB hk;simp only[e8]at this;simp only[e8,cons_append,map_cons,k6];exact⟨v,_,e,_,rfl,rfl,by simp only[bc];exact aj,a1,this⟩
def k6.length{I:bs}:∀{ks:List Q} {vs:dZ} {es:nM},k6 I ks vs es→vs.length=ks.length∧es.length=ks.length
 |[],_,_,h=>by obtain⟨rfl,rfl⟩:=h;exact⟨rfl,rfl⟩
 |k::ks,_,_,h=>by
  obtain⟨v,bI,e,mB,rfl,rfl,_,_,bU⟩:=h;have:=bU.length;simp[this.1,this.2]
section
variable {G:ch}{σ:Y}{o:Oper}{ev:Operand→Q}
def auG{α:Type}{iK:Option (iT×Nat)}{T K E d e e2 t aV sz:Nat}{k:IntKind}{x y:Operand}{n:Int}(l:List (Int×List α))(enc:α→List Q)(h:o.op=.lookup T x y false)(u:ev x=.dr d)(ag:ev y=.int k n)
  (Z:σ.get d=some (.fc K E e (e8 k l) none iK)) (he:σ.get e=some (.b9 (hh aV sz enc l))) (aQ:kF G.P T K E k) (hz:∀w,(zeroValue E).run G.P w=.ok (.slice none 0 0) w)
  (bE:σ.get t=none) (k8:σ.get e2=none) (zf:t≠e2) (D1:G.ids.contains t=false) (n9:G.ids.contains e2=false) (hX:σ.clean [t,e2].contains=true) :
  h5 G o ev σ [d,e,e2,t] [t,e2] (λr az=>r=.own t∧az=(t,.slice aV sz (((aD l n).getD []).map enc) 0 false)::(e2,.b9 (hh aV sz enc (lK l n)))::(d,.fc K E e2 (e8 k l) (oe l n t) iK)::σ.minus [d,e]):=by
 intro cx I β w aZ an hop;have h1:=hop x (by simp[h,Op.operands]);rw[u]at h1
 have D:=hop y (by simp[h,Op.operands]);rw[ag]at D;have D:=jW D
 simp only[au]at h1;obtain⟨h1,qN⟩:=h1;have iR:β d≠.nilFunc:=λe=>by rw[h1,e]at qN;simp[mJ]at qN
 have tM:=an.cw d _ Z;simp only[aY,iR,false_or]at tM;obtain⟨r,es,clock,X,cv,ak,ar,aM,aK,be,bJ,b8,cT⟩:=tM;rw[show cv=X.toList from aK]at be;have aJ:∀w,(underlying T).run G.P w=.ok (.map K E) w:=λw=>by simp[underlying,program,Sem.run,aQ.gY]
 have vJ:∀w,(underlying K).run G.P w=.ok (.int k) w:=λw=>by simp[underlying,program,Sem.run,aQ.key]
 have dm:=xD (P:=G.P) ar;have gb:=Bk (P:=G.P) aQ.key (es.isEmpty) n w;have Tu:t∉G.ids:=by simpa using D1
 have CM:e2∉G.ids:=by simpa using n9
 have pO:∀x,x∉[d,e,e2,t]→∀(vi aX EJ:cc),Y.get ((t,vi)::(e2,aX)::(d,EJ)::σ.minus [d,e]) x=σ.get x:=λx u vi aX EJ=>by
  simp only[mem_cons,not_mem_nil,or_false,not_or]at u;rw[ys,if_neg (Ne.symm u.2.2.2),if_neg (Ne.symm u.2.2.1),if_neg (Ne.symm u.1),if_neg (by simp[u.1,u.2.1])]
 cases bu:aD l n with
 |some a=>
  obtain⟨v,cB,cQ,dM,eH,i6,_⟩:=Nc n l X.toList es.toList 0 a be bu;obtain⟨m,hm,Vs⟩:=Od bu;have iz:(hh aV sz enc l)[iJ l n]?=some (.sl aV sz (a.map enc)):=by simp[hh,Vs]
  obtain⟨ef,cp,fS,cG,gC,kB⟩:=an.take Z rfl he iz iR bE k8 zf Tu CM hX;rw[aM]at cp;cases cp
  have aa:fS=v:=by
   have:X.toList[iJ l n]?=some fS:=by simpa using cG
   rw[this]at cQ;exact Option.some.inj cQ
  subst aa;have gU:(Instr.findKey K (.int k n) es.toList).run G.P w=.ok (some (0+iJ l n,fS)) w:=by simp[Instr.findKey,vJ,i6]
  have eY:(execOp aZ o).run G.P w=.ok (.value fS) w:=by simp[execOp,h,Instr.lookup,h1,ak,D,aJ,dm,gb,gU]
  rw[eY];refine⟨.own t,_,I,λy=>if y=t then fS else if y=e2 then .tuple (X.setIfInBounds (iJ l n) (.slice none 0 0))else β y,⟨rfl,rfl⟩,?_,?_,cn.refl I,λy ag=>?_,λy ag=>pO y ag _ _ _⟩
  ·simp only[au,if_true];refine⟨trivial,?_⟩;rcases gC with⟨q,_⟩|⟨b,aO,arr,q,_⟩<;>rw[q]<;>rfl
  ·have cA:oe l n t=some (some (iJ l n),t):=by simp[oe,bu]
   rw[cA,NQ bu,IE];exact kB
  ·simp only[mem_cons,not_mem_nil,or_false,not_or]at ag;simp only[if_neg ag.1,if_neg ag.2]
 |none=>
  obtain⟨cQ,_⟩:=Nd n l X.toList es.toList 0 be bu;have gU:(Instr.findKey K (.int k n) es.toList).run G.P w=.ok none w:=by simp[Instr.findKey,vJ,cQ]
  have eY:(execOp aZ o).run G.P w=.ok (.value (.slice none 0 0)) w:=by simp[execOp,h,Instr.lookup,h1,ak,D,aJ,dm,gb,gU,hz w]
  rw[eY]
  let eF:Nat→Value:=λy=>if y=t then .slice none 0 0 else if y=e2 then β e else β y
  have rA:eF t=.slice none 0 0:=by show(if _ then _ else _)=_;rw[if_pos rfl]
  have k2:eF e2=β e:=by show(if _ then _ else _)=_;rw[if_neg (Ne.symm zf),if_pos rfl]
  have ep:∀y,y∉[t,e2]→eF y=β y:=λy ag=>by
   simp only[mem_cons,not_mem_nil,or_false,not_or]at ag;show(if _ then _ else _)=_;rw[if_neg ag.1,if_neg ag.2]
  have cb:∀y,(σ.get y).isSome→y≠t∧y≠e2:=λy ag=>⟨λe=>(by subst e;rw[bE]at ag;cases ag),λe=>(by subst e;rw[k8]at ag;cases ag)⟩;have r7:=cb d (by rw[Z];rfl);have Ak:=cb e (by rw[he];rfl);have js:d≠e:=λcB=>by subst cB;rw[Z]at he;cases he
  have lq:eF d=β d:=ep d (by simp[r7.1,r7.2]);have cA:oe l n t=some (none,t):=by simp[oe,bu]
  refine⟨.own t,_,I,eF,⟨rfl,rfl⟩,by simp only[au,rA,iD,and_self],?_,cn.refl I,ep,λy ag=>pO y ag _ _ _⟩;rw[cA,PN bu];simp only[Option.getD_none,map_nil]
  have mz:∀y,y∈[d,e,e2,t]→(Y.get ((t,cc.slice aV sz [] 0 false)::(e2,.b9 (hh aV sz enc l))::(d,.fc K E e2 (e8 k l) (some (none,t)) iK)::σ.minus [d,e]) y).isSome→y=d∨y=e2∨y=t:=λy ag ef=>by
   rw[ys]at ef;simp only[mem_cons,not_mem_nil,or_false]at ag;rcases ag with rfl|rfl|rfl|rfl
   ·exact .inl rfl
   ·rw[if_neg (Ne.symm Ak.1),if_neg (Ne.symm Ak.2),if_neg js,if_pos (by simp)]at ef;cases ef
   ·exact .inr (.inl rfl)
   ·exact .inr (.inr rfl)
  have Al:∀c,c∈c2 (β d)→c∉c2 (β e):=an.dA d e (by rw[Z];rfl) (by rw[he];rfl) js;refine an.FA (M:=[d,e,e2,t]) (news:=[t,e2]) (eF:=eF) (λy ag=>pO y ag _ _ _) ep (λy ag=>?_) (λy o _ hc=>(asF hX y o hc).2) (λy ag o hc=>?_) (λy ag ef c af=>?_) (λy ag z hz mE eV ef c af gd=>?_)
  ·simp only[mem_cons,not_mem_nil,or_false]at ag;rcases ag with rfl|rfl
   ·exact⟨by simp,Tu⟩
   ·exact⟨by simp,CM⟩
  ·have:=mz y ag (by rw[hc];rfl);rw[ys]at hc;rcases this with rfl|rfl|rfl
   ·rw[if_neg (Ne.symm r7.1),if_neg (Ne.symm r7.2),if_pos rfl]at hc;cases hc
    simp only[aY,lq,k2];exact .inr ⟨r,es,clock,X,X.toList,ak,ar,aM,rfl,be,bJ,b8,cT⟩
   ·rw[if_neg zf,if_pos rfl]at hc;cases hc
    have:=an.cw e _ he;simp only[aY,k2]at this ⊢;exact this
   ·rw[if_pos rfl]at hc;cases hc
    simp only[aY,rA];exact .inr (.inl ⟨trivial,trivial,trivial⟩)
  ·rcases mz y ag ef with rfl|rfl|rfl
   ·rw[lq]at af;exact⟨y,by simp,by rw[Z];rfl,af⟩
   ·rw[k2]at af;exact⟨e,by simp,by rw[he];rfl,af⟩
   ·rw[rA]at af;cases af
  ·rcases mz y ag eV with rfl|rfl|rfl<;>rcases mz z hz ef with rfl|rfl|rfl
   ·exact mE rfl
   ·rw[lq]at af;rw[k2]at gd;exact Al c af gd
   ·rw[rA]at gd;cases gd
   ·rw[lq]at gd;rw[k2]at af;exact Al c gd af
   ·exact mE rfl
   ·rw[rA]at gd;cases gd
   ·rw[rA]at af;cases af
   ·rw[rA]at af;cases af
   ·exact mE rfl
end
end
section
section put
variable {G:ch}{cx:eW}{I:bs}{β:Nat→Value}{σ:Y}{w:World}
def bY.ag8(h:bY G cx I β σ w){d e e2 r K E mR:Nat}{keys v1:List Q}{du:Option (ku×Nat)}{iK:Option (iT×Nat)}{cU sw:List gQ}{lR:dg}{fF:iY}{hO:iT}{w':World}
  (Z:σ.get d=some (.fc K E e keys du iK)) (he:σ.get e=some (.b9 cU)) (aB:β d=.map (some r)) (k8:σ.get e2=none) (n9:e2∉G.ids) (hX:σ.clean [e2].contains=true) (ajI:d∉lR)
  (hk:gK w w' r) (e1:w'.heap[r]?=some (.map hO mR)) (U:hs cx I w sw fF.toList) (GP:k6 I v1 fF.toList hO.toList) (dc:jZ hO mR)
  (ki:∀c∈fF.toList.filterMap b1,c∈c2 (β e)∨∃y∈lR,(σ.get y).isSome∧c∈c2 (β y)) :
  bY G cx I (λy=>if y=e2 then .tuple fF else β y) ((e2,.b9 sw)::(d,.fc K E e2 v1 none none)::σ.minus (d::e::lR)) w':=by
 have tM:=h.cw d _ Z;simp only[aY,aB,reduceCtorEq,false_or]at tM;obtain⟨r',es,clock,X,cv,ak,ar,aM,aK,be,bJ,b8,cT,_⟩:=tM;cases ak;have n5:(σ.get d).isSome:=by rw[Z];rfl
 have jt:(σ.get e).isSome:=by rw[he];rfl
 have cb:∀y,(σ.get y).isSome→y≠e2:=λy ag e=>by subst e;rw[k8]at ag;cases ag
 have js:d≠e:=λcB=>by subst cB;rw[Z]at he;cases he
 have L9:r∈c2 (β d):=j8 (by rw[aB];rfl)
 have rN:∀c∈fF.toList.filterMap b1,c≠r:=λc af e=>by
  subst e;rcases ki c af with q|⟨y,j6,CB,Fu⟩
  ·exact h.dA d e n5 jt js c L9 q
  ·exact h.dA d y n5 CB (λe=>ajI (e▸j6)) c L9 Fu
 have eS:∀y,y≠e2→(λy=>if y=e2 then(Value.tuple fF)else β y) y=β y:=λy ag=>if_neg ag;have pZ:(λy=>if y=e2 then(Value.tuple fF)else β y) e2=.tuple fF:=if_pos rfl;generalize (λy=>if y=e2 then(Value.tuple fF)else β y)=eF at eS pZ;have lq:eF d=β d:=eS d (cb d n5)
 have mz:∀y,y∈d::e::e2::lR→∀o,(Y.get ((e2,.b9 sw)::(d,.fc K E e2 v1 none none)::σ.minus (d::e::lR)) y)=some o→(y=d∧o=.fc K E e2 v1 none none)∨(y=e2∧o=.b9 sw):=λy ag o ai=>by
  rw[s0]at ai;split at ai
  ·rename_i cB;exact .inr ⟨cB.symm,(Option.some.inj ai).symm⟩
  ·rename_i g3;split at ai
   ·rename_i cB;exact .inl ⟨cB.symm,(Option.some.inj ai).symm⟩
   ·split at ai
    ·cases ai
    ·rename_i hH wg;simp only[mem_cons,not_or]at ag wg;rcases ag with rfl|rfl|rfl|ag
     ·exact absurd rfl hH
     ·exact absurd rfl wg.2.1
     ·exact absurd rfl g3
     ·exact absurd ag wg.2.2
 have yB:∀y,y∈d::e::e2::lR→(Y.get ((e2,.b9 sw)::(d,.fc K E e2 v1 none none)::σ.minus (d::e::lR)) y).isSome→y=d∨y=e2:=λy ag X=>by
  obtain⟨o,ai⟩:=Option.isSome_iff_exists.1 X;rcases mz y ag o ai with q|q
  ·exact .inl q.1
  ·exact .inr q.1
 have Hg:∀c,c∈c2 (eF e2)→c∈c2 (β e)∨∃y∈lR,(σ.get y).isSome∧c∈c2 (β y):=λc af=>ki c (by rw[pZ]at af;exact af)
 have sep:∀c,c∈c2 (eF d)→c∉c2 (eF e2):=λc af gd=>by
  rw[lq,aB]at af;have:c=r:=by simpa [c2,b1]using af
  exact rN c (by rw[pZ]at gd;exact gd) this
 refine h.redo (M:=d::e::e2::lR) (news:=[e2]) (b:=r) (eF:=eF) hk bJ (λy ag X cB=>?_) b8 (λy ag=>?_) (λy ag=>eS y (by simpa using ag)) (λy ag=>?_) (λy o _ hc=>(asF hX y o hc).2) (λy ag o hc=>?_) (λy ag ef c af=>?_) (λy ag z hz mE eV ef c af gd=>?_)
 ·exact h.dA d y n5 X (λe=>ag (by simp[e])) r L9 cB
 ·simp only[mem_cons,not_or]at ag;rw[s0,if_neg (Ne.symm ag.2.2.1),if_neg (Ne.symm ag.1),if_neg (by simp[ag.1,ag.2.1,ag.2.2.2])]
 ·simp only[List.mem_singleton]at ag;subst ag;exact⟨by simp,n9⟩
 ·rcases mz y ag o hc with⟨rfl,rfl⟩|⟨rfl,rfl⟩
  ·simp only[aY,lq,aB,pZ];exact .inr ⟨r,hO,mR,fF,fF.toList,rfl,e1,rfl,rfl,GP,bJ,b8,dc,by simp⟩
  ·simp only[aY];exact .inr ⟨fF,pZ,U.go (cn.refl I) λc af=>⟨λbL=>hk.block c (rN c af) bL,λ_=>rfl,id⟩⟩
 ·rcases yB y ag ef with rfl|rfl
  ·rw[lq]at af;exact⟨y,by simp,n5,af⟩
  ·rcases Hg c af with q|⟨y,j6,CB,Fu⟩
   ·exact⟨e,by simp,jt,q⟩
   ·exact⟨y,by simp[j6],CB,Fu⟩
 ·rcases yB y ag eV with rfl|rfl<;>rcases yB z hz ef with rfl|rfl
  ·exact mE rfl
  ·exact sep c af gd
  ·exact sep c gd af
  ·exact mE rfl
end put
section
variable {G:ch}{σ:Y}{o:Oper}{ev:Operand→Q}
def atN{α:Type}{T K E d e e2 aV sz:Nat}{k:IntKind}{x y z:Operand}{n:Int}{c5:Bool}{iK:Option (iT×Nat)}{du:Option (ku×Nat)}(lR:dg)(l:List (Int×List α))(enc:α→List Q)(row:List α)(h:o.op=.mapUpdate T x y z∨o.op=.insert T x y z)(u:ev x=.dr d)(ag:ev y=.int k n)
  (hz:(ev z=.c4∧row=[]∧lR=[])∨∃j,ev z=.own j∧σ.get j=some (.slice aV sz (row.map enc) 0 c5)∧lR=[j])
  (Z:σ.get d=some (.fc K E e (e8 k l) du iK)) (cA:du=none∨∃t,du=oe l n t) (he:σ.get e=some (.b9 (hh aV sz enc l))) (aQ:kF G.P T K E k)
  (k8:σ.get e2=none) (n9:G.ids.contains e2=false) (hX:σ.clean [e2].contains=true) :
  h5 G o ev σ (d::e::e2::lR) [e2] (λr az=>r=.undef∧az=(e2,.b9 (hh aV sz enc (bG l n row)))::(d,.fc K E e2 (e8 k (bG l n row)) none none)::σ.minus (d::e::lR)):=by
 intro cx I β w aZ an hop;have jQ:x∈o.op.operands∧y∈o.op.operands∧z∈o.op.operands:=by rcases h with h|h<;>simp[h,Op.operands]
 have h1:=hop x jQ.1;rw[u]at h1
 have D:=hop y jQ.2.1;rw[ag]at D;have D:=jW D
 have aj:=hop z jQ.2.2;simp only[au]at h1;obtain⟨h1,qN⟩:=h1;have iR:β d≠.nilFunc:=λe=>by rw[h1,e]at qN;simp[mJ]at qN
 have tM:=an.cw d _ Z;simp only[aY,iR,false_or]at tM;obtain⟨r,es,clock,X,cv,ak,ar,aM,aK,be,bJ,b8,cT,_⟩:=tM;have kH:=an.cw e _ he;simp only[aY,aM,Value.tuple.injEq,reduceCtorEq,false_or]at kH;obtain⟨fF,rfl,U⟩:=kH;have aa:kC cx I w (.sl aV sz (row.map enc)) (aZ z)∧(∀c,b1 (aZ z)=some c→∃y∈lR,(σ.get y).isSome∧c∈c2 (β y))∧d∉lR∧e∉lR:=by
  rcases hz with⟨hz,rfl,rfl⟩|⟨j,hz,aT,rfl⟩
  ·rw[hz]at aj;simp only[au,bc]at aj;rw[aj];exact⟨Or.inl ⟨rfl,rfl⟩,λc (af:none=some c)=>(by cases af),by simp,by simp⟩
  ·rw[hz]at aj;simp only[au]at aj;obtain⟨aj,DJ⟩:=aj;rw[aj];refine⟨asY (an.cw j _ aT) λe=>(by rw[aj,e]at DJ;cases DJ),λc af=>⟨j,by simp,by rw[aT];rfl,j8 af⟩,λhm=>?_,λhm=>?_⟩
   ·rw[List.mem_singleton.1 hm,aT]at Z;cases Z
   ·rw[List.mem_singleton.1 hm,aT]at he;cases he
 obtain⟨dK,fS,v3,v4⟩:=aa
 have B8:∀aA b,aA∈X.toList→b1 (aZ z)=some b→b1 aA≠some b:=λaA b hu DP kH=>by
  obtain⟨y,j6,CB,Fu⟩:=fS b DP;refine an.dA e y (by rw[he];rfl) CB (λe=>v4 (e▸j6)) b ?_ Fu;rw[aM,oR];exact List.mem_filterMap.2 ⟨aA,hu,kH⟩
 have CM:e2∉G.ids:=by simpa using n9
 have aJ:∀w,(underlying T).run G.P w=.ok (.map K E) w:=λw=>by simp[underlying,program,Sem.run,aQ.gY]
 have vJ:∀w,(underlying K).run G.P w=.ok (.int k) w:=λw=>by simp[underlying,program,Sem.run,aQ.key]
 have dm:=xD (P:=G.P) ar;have gb:=Bk (P:=G.P) aQ.key false n w;have ig:∀aX:Obj,(setObj r aX).run G.P w=.ok () {w with heap:=w.heap.setIfInBounds r aX}:=λaX=>by simp[setObj,Sem.run,ar]
 have yX:∀aX:Obj,({w with heap:=w.heap.setIfInBounds r aX}:World).heap[r]?=some aX:=λaX=>by have:=hC ar;simp[Array.getElem?_setIfInBounds,this]
 have fin:∀(ef:iY) (sw:List gQ) (v1:List Q) (hO:iT) (mR:Nat),sw=hh aV sz enc (bG l n row)→v1=e8 k (bG l n row)→
   (execOp aZ o).run G.P w=.ok .skip {w with heap:=w.heap.setIfInBounds r (.map hO mR)}→hs cx I w sw ef.toList→k6 I v1 ef.toList hO.toList→jZ hO mR→
   (∀c∈ef.toList.filterMap b1,c∈X.toList.filterMap b1∨b1 (aZ z)=some c)→
   m3 G.P (λv w'=>∃bN,∃az:Y,∃aU β',(bN=.undef∧az=(e2,.b9 (hh aV sz enc (bG l n row)))::(d,.fc K E e2 (e8 k (bG l n row)) none none)::σ.minus (d::e::lR))∧au aU β' bN v∧bY G cx aU β' az w'∧cn I aU∧(∀d,d∉[e2]→β' d=β d)∧(∀x,x∉d::e::e2::lR→az.get x=σ.get x)) ((execOp aZ o).run G.P w):=by
  intro ef sw v1 hO mR cQ dM eH i6 pl alH alI;subst cQ dM;rw[eH]
  have:=an.ag8 Z he ak k8 CM hX v3 (asJ w r (.map hO mR)) (yX _) i6 pl alH λc af=>by
   rcases alI c af with q|q
   ·exact .inl (by rw[aM,oR];exact q)
   ·exact .inr (fS c q)
  refine⟨.undef,_,I,_,⟨rfl,rfl⟩,by simp[au,bc],this,cn.refl I,λy ag=>if_neg (by simpa using ag),λy ag=>?_⟩;simp only[mem_cons,not_or]at ag;rw[s0,if_neg (Ne.symm ag.2.2.1),if_neg (Ne.symm ag.1),if_neg (by simp[ag.1,ag.2.1,ag.2.2.2])]
 cases bu:aD l n with
 |none=>
  have mC:cv=X.toList:=by
   rcases cA with rfl|⟨t,rfl⟩
   ·exact aK
   ·simp only[oe,bu,Option.isSome_none,cond_false]at aK;exact aK
  rw[mC]at be;obtain⟨cQ,dM⟩:=Nd n l X.toList es.toList 0 be bu;have gU:(Instr.findKey K (.int k n) es.toList).run G.P w=.ok none w:=by simp[Instr.findKey,vJ,cQ]
  refine fin (X.push (aZ z)) (hh aV sz enc l++[.sl aV sz (row.map enc)]) (e8 k (l++[(n,row)])) (es.push ⟨.int k n,aZ z,clock⟩) (clock+1) ?_ ?_ ?_ ?_ ?_ ?_ ?_
  ·rw[NP row bu];simp[hh]
  ·rw[NP row bu]
  ·rcases h with h|h<;>simp[execOp,h,Instr.mapUpdate,h1,ak,D,aJ,dm,gb,gU,ig]
  ·simp only[Array.toList_push];exact U.push dK B8
  ·simp only[Array.toList_push];exact dM row ⟨.int k n,aZ z,clock⟩ rfl
  ·exact cT.push _ _
  ·intro c af;simp only[Array.toList_push,List.filterMap_append,List.mem_append]at af;rcases af with af|af
   ·exact .inl af
   ·obtain⟨aA,hu,kI⟩:=List.mem_filterMap.1 af;rw[List.mem_singleton.1 hu]at kI;exact .inr kI
 |some a=>
  obtain⟨dF,cB,cQ,dM,eH,i6,pl⟩:=Nc n l cv es.toList 0 a be bu;have gU:(Instr.findKey K (.int k n) es.toList).run G.P w=.ok (some (0+iJ l n,dF)) w:=by simp[Instr.findKey,vJ,i6]
  have i1:es[iJ l n]?=some cB:=by simpa using dM
  have oy:(Instr.keyThatStays (.int k n) (.int k n)).run G.P w=.ok (.int k n) w:=by simp[Instr.keyThatStays,Instr.sameBits]
  have mC:cv.set (iJ l n) (aZ z)=X.toList.set (iJ l n) (aZ z):=by
   rcases cA with rfl|⟨t,rfl⟩
   ·rw[show cv=X.toList from aK]
   ·simp only[oe,bu,Option.isSome_some,cond_true]at aK;obtain⟨_,_,aK⟩:=aK;rw[aK,List.set_set]
  have iA:(X.setIfInBounds (iJ l n) (aZ z)).toList=X.toList.set (iJ l n) (aZ z):=by simp
  have xw:=pl (aZ z) (λe=>{e with key:=.int k n,val:=aZ z}) (λe=>⟨rfl,rfl⟩);rw[mC]at xw;refine fin (X.setIfInBounds (iJ l n) (aZ z)) ((hh aV sz enc l).set (iJ l n) (.sl aV sz (row.map enc))) (e8 k l) (es.modify (iJ l n) λe=>{e with key:=.int k n,val:=aZ z}) clock ?_ ?_ ?_ ?_ ?_ ?_ ?_
  ·rw[EU row bu,IE]
  ·rw[EU row bu,Qq row bu]
  ·rcases h with h|h<;>simp[execOp,h,Instr.mapUpdate,h1,ak,D,aJ,dm,gb,gU,ig,i1,eH,oy]
  ·rw[iA];exact U.set dK λj aA b _ DS DP=>B8 aA b (List.mem_of_getElem? DS) DP
  ·rw[iA];simpa using xw
  ·exact cT.modify _ _ λ_=>rfl
  ·intro c af;rw[iA]at af;exact HZ af
end
end
section
section imms
variable {cx:eW}{I:bs}{β:Nat→Value}{w:World}
def aY.Tw{aU:bs}{d:Nat}{o:cc}(hle:cn I aU)(Vp:∀b∈c2 (β d),∀o,aU b o=I b o)(gD:aY cx I β w d o):aY cx aU β w d o:=by
 have jf:∀aP o,b1 (β d)=some aP→aU aP o=I aP o:=λaP o ha=>Vp aP (j8 ha) o;cases o with
 |b9 cU=>
  simp only[aY]at gD ⊢;rcases gD with q|⟨X,ak,ar⟩
  ·exact .inl q
  ·exact .inr ⟨X,ak,ar.go hle λaP ha=>⟨λ_=>rfl,Vp aP (by rw[ak];exact ha),id⟩⟩
 |gP T xs t=>
  simp only[aY]at gD ⊢;rcases gD with q|⟨aP,aO,arr,ak,ar,aM,aK,be,bJ,b8,cT,dD,eB,fm⟩
  ·exact .inl q
  ·exact .inr ⟨aP,aO,arr,ak,ar,aM,aK,be,nT hle _ _ bJ,b8,cT,dD,λo=>by rw[jf aP o (by rw[ak];rfl)];exact eB o,fm⟩
 |vec T xs=>
  simp only[aY]at gD ⊢;rcases gD with q|⟨aP,arr,ak,ar,aM,aK,be⟩
  ·exact .inl q
  ·exact .inr ⟨aP,arr,ak,ar,aM,λo=>by rw[jf aP o (by rw[ak];rfl)];exact aK o,be⟩
 |jP es clock bH seen=>
  simp only[aY]at gD ⊢;rcases gD with q|⟨r,fx,ak,ar,aM,aK,be,bJ,b8⟩
  ·exact .inl q
  ·exact .inr ⟨r,fx,ak,ar,hle _ _ _ aM,mS hle _ _ aK,be,λo=>by rw[jf r o (by rw[ak];rfl)];exact bJ o,b8⟩
 |eO T e n du=>
  simp only[aY]at gD ⊢;rcases gD with q|⟨aP,aO,arr,X,ak,ar,aM,aK,be,bJ,b8,cT,dD,eB⟩
  ·exact .inl q
  ·exact .inr ⟨aP,aO,arr,X,ak,ar,aM,aK,be,bJ,b8,cT,λo=>by rw[jf aP o (by rw[ak];rfl)];exact dD o,eB⟩
 |fc K E e keys du iK=>
  simp only[aY]at gD ⊢;rcases gD with q|⟨r,es,clock,X,cv,ak,ar,aM,aK,be,bJ,b8,cT⟩
  ·exact .inl q
  ·exact .inr ⟨r,es,clock,X,cv,ak,ar,aM,aK,be.mono hle,λo=>by rw[jf r o (by rw[ak];rfl)];exact bJ o,b8,cT⟩
 |cells T cs=>
  simp only[aY]at gD ⊢;rcases gD with q|⟨aP,oJ,ak,ar,aM,aK,be⟩
  ·exact .inl q
  ·exact .inr ⟨aP,oJ,ak,ar,tW hle (hp.refl _) _ _ aM,λo=>by rw[jf aP o (by rw[ak];rfl)];exact aK o,be⟩
 |slice aV jk l6 dS aiZ=>
  simp only[aY]at gD ⊢;rcases gD with q|q|⟨aP,p9,oJ,ak,ar,aM,aK,be,bJ,b8,cT,dD,eB,fm⟩
  ·exact .inl q
  ·exact .inr (.inl q)
  ·have cb:b1 (β d)=some aP:=by rw[ak];rfl
   exact .inr (.inr ⟨aP,p9,oJ,ak,ar,aM,aK,be,nT hle _ _ bJ,b8,cT,λhz o ai=>by rw[jf aP o cb];exact dD hz o ai,λo ai=>by rw[jf aP o cb];exact eB o ai,fm⟩)
 |win aV jk l6=>
  simp only[aY]at gD ⊢;rcases gD with q|q|⟨aP,hx,p9,oJ,ak,ar,aM,aK,be,bJ,b8,cT,dD⟩
  ·exact .inl q
  ·exact .inr (.inl q)
  ·have cb:b1 (β d)=some aP:=by rw[ak];rfl
   exact .inr (.inr ⟨aP,hx,p9,oJ,ak,ar,aM,aK,be,zq hle _ _ _ bJ,b8,λhz o ai=>by rw[jf aP o cb];exact cT hz o ai,dD⟩)
 |map K E bH=>
  simp only[aY]at gD ⊢;rcases gD with q|⟨r,es,clock,ak,ar,aM,aK,be⟩
  ·exact .inl q
  ·exact .inr ⟨r,es,clock,ak,ar,mS hle _ _ aM,λo=>by rw[jf r o (by rw[ak];rfl)];exact aK o,be⟩
 |kf K E bH=>
  simp only[aY]at gD ⊢;rcases gD with q|⟨r,es,clock,ak,ar,aM,aK⟩
  ·exact .inl q
  ·exact .inr ⟨r,es,clock,ak,hle _ _ _ ar,mS hle _ _ aM,aK⟩
 |gz es clock K E bH=>
  simp only[aY]at gD ⊢;rcases gD with q|⟨r,ak,ar,aM,aK,be⟩
  ·exact .inl q
  ·exact .inr ⟨r,ak,ar,mS hle _ _ aM,λo=>by rw[jf r o (by rw[ak];rfl)];exact aK o,be⟩
 |iter cz q9 kW seen=>
  simp only[aY]at gD ⊢;rcases gD with q|⟨r,fx,ak,ar,aM,aK,be⟩
  ·exact .inl q
  ·exact .inr ⟨r,fx,ak,ar,aM,λo=>by rw[jf r o (by rw[ak];rfl)];exact aK o,be⟩
 |hdr cz n=>exact gD
end imms
section weak
variable {G:ch}{env:ah}{σ:Y}
def Dp{I:bs}{β eF:Nat→Value}{env:ah}{a:Act}{e:Nat}(h:lI I β env a)(af:env.clean [e].contains=true)(U:∀y,y≠e→eF y=β y):lI I eF env a:=λt=>
 u4 (p:=[e].contains) (λd Z=>U d (by simpa using Z)) _ _ (asU af t) (h t)
def atJ{d e K E:Nat}(Z:σ.get d=some (.map K E []))(he:σ.get e=none)(hi:G.ids.contains e=false)(af:env.clean [e].contains=true)(X:σ.clean [e].contains=true):
  cr G env σ env ((e,.b9 [])::(d,.fc K E e [] none none)::σ.minus [d]):=λcx I β a w h b3=>by
 have js:d≠e:=λcB=>by subst cB;rw[he]at Z;cases Z
 have rK:e∉G.ids:=by simpa using hi
 refine⟨I,g7 β e (.tuple #[]),?_,Dp b3 af λy ag=>g5 β _ ag⟩;have k2:g7 β e (.tuple #[]) e=.tuple #[]:=gL _ _ _;have lq:g7 β e (.tuple #[]) d=β d:=g5 β _ js
 have mz:∀y,y∈[d,e]→∀o,Y.get ((e,cc.b9 [])::(d,.fc K E e [] none none)::σ.minus [d]) y=some o→(y=d∧o=.fc K E e [] none none)∨(y=e∧o=.b9 []):=λy ag o ai=>by
  rw[s0]at ai;split at ai
  ·rename_i cB;exact .inr ⟨cB.symm,(Option.some.inj ai).symm⟩
  ·rename_i g3;split at ai
   ·rename_i cB;exact .inl ⟨cB.symm,(Option.some.inj ai).symm⟩
   ·rename_i hH;simp only[mem_cons,not_mem_nil,or_false]at ag;rcases ag with rfl|rfl
    ·exact absurd rfl hH
    ·exact absurd rfl g3
 have Am:∀y,y∈[d,e]→(Y.get ((e,cc.b9 [])::(d,.fc K E e [] none none)::σ.minus [d]) y).isSome→y=d∨y=e:=λy ag _=>by simpa using ag
 refine h.FA (M:=[d,e]) (news:=[e]) (λy ag=>?_) (λy ag=>g5 β _ (by simpa using ag)) (λy ag=>?_) (λy o _ hc=>(asF X y o hc).2) (λy ag o hc=>?_) (λy ag ef c af=>?_) (λy ag z hz mE eV ef c af gd=>?_)
 ·simp only[mem_cons,not_mem_nil,or_false,not_or]at ag;rw[s0,if_neg (Ne.symm ag.2),if_neg (Ne.symm ag.1),if_neg (by simp[ag.1])]
 ·simp only[List.mem_singleton]at ag;subst ag;exact⟨by simp,rK⟩
 ·rcases mz y ag o hc with⟨rfl,rfl⟩|⟨rfl,rfl⟩
  ·have:=h.cw y _ Z;simp only[aY,lq,k2]at this ⊢;rcases this with q|⟨r,es,clock,ak,ar,aM,aK,be,bJ⟩
   ·exact .inl q
   ·refine .inr ⟨r,es,clock,#[],[],ak,ar,rfl,rfl,?_,aK,be,bJ,by simp⟩;have:es.toList=[]:=by cases jt:es.toList<;>simp_all [gq]
    rw[this];exact⟨rfl,rfl⟩
  ·simp only[aY,k2];exact .inr ⟨#[],rfl,rfl⟩
 ·rcases Am y ag ef with rfl|rfl
  ·rw[lq]at af;exact⟨y,by simp,by rw[Z];rfl,af⟩
  ·rw[k2]at af;cases af
 ·rcases Am y ag eV with rfl|rfl
  ·rcases Am z hz ef with rfl|rfl
   ·exact mE rfl
   ·rw[k2]at gd;cases gd
  ·rw[k2]at af;cases af
def auv{α:Type}{aV sz:Nat}{K E d e e2 t:Nat}{k:IntKind}{c5:Bool}{iK:Option (iT×Nat)}(l:List (Int×List α))(n:Int)(enc:α→List Q)(row:List α)(aH:(aD l n).isSome=true)
  (Z:σ.get d=some (.fc K E e (e8 k l) (oe l n t) iK)) (he:σ.get e=some (.b9 (hh aV sz enc (lK l n)))) (bE:σ.get t=some (.slice aV sz (row.map enc) 0 c5))
  (k8:σ.get e2=none) (n9:G.ids.contains e2=false) (af:env.clean [e2].contains=true) (X:σ.clean [e2].contains=true) :
  cr G env σ env ((e2,.b9 (hh aV sz enc (bG l n row)))::(d,.fc K E e2 (e8 k (bG l n row)) none iK)::σ.minus [d,e,t]):=λcx I β a w h b3=>by
 obtain⟨a0,bu⟩:=Option.isSome_iff_exists.1 aH;have cA:oe l n t=some (some (iJ l n),t):=by simp[oe,bu]
 rw[cA]at Z;obtain⟨eF,h1,D⟩:=h.back Z rfl he bE k8 (by simpa using n9) X;refine⟨I,eF,?_,Dp b3 af h1⟩;have aJ:(hh aV sz enc (lK l n)).set (iJ l n) (.sl aV sz (row.map enc))=hh aV sz enc (bG l n row):=by
  rw[NQ bu,IE,List.set_set,EU row bu,IE]
 rw[aJ]at D;have vJ:e8 k (bG l n row)=e8 k l:=by rw[EU row bu,Qq row bu]
 rw[vJ];exact D
def kC.bf{cx:eW}{I aU:bs}{w:World}{T sz:Nat}{xs:List (List Q)}{v:Value}(h:kC cx I w (.sl T sz xs) v)(hle:cn I aU)(g9:∀b,b1 v=some b→∀o,aU b o=h2 w b o):bc aU (.bf false xs) v:=by
 rcases h with⟨rfl,rfl⟩|⟨b,aO,arr,rfl,D,aj,a1,bU,dP,fz,ka,iy⟩
 ·simp only[bc];exact⟨none,0,rfl,by simp,by simp[maxLen],by simp,.inl trivial⟩
 ·simp only[bc];refine⟨_,aO,rfl,D,aj,by simp,.inr ⟨b,0,rfl,?_⟩⟩;have pK:∀o:Nat,aU b o=arr[o]?:=λo=>by rw[g9 b rfl o];simp[h2,World.cell?,a1]
  have key:∀(bx:List (List Q)) (off:Nat) (bI:dZ),(∀e∈bx,e.length=sz)→cV I bx.flatten bI→(∀j,j<bI.length→arr[off+j]?=bI[j]?)→jC aU b bx off:=by
   intro bx;induction bx with
   |nil=>intro _ _ _ _ _;simp[jC]
   |cons y bx bg=>
    intro off bI ag aB hu;simp only[flatten_cons]at aB;have row:∀(cs:List Q) (o:Nat) (ij:List Q) (bI:dZ),cV I (cs++ij) bI→(∀j,j<bI.length→arr[o+j]?=bI[j]?)→k4 aU b cs o∧∃yg,cV I ij yg∧bI=bI.take cs.length++yg∧yg=bI.drop cs.length:=by
     intro cs;induction cs with
     |nil=>intro o ij bI h _;exact⟨by simp[k4],bI,h,by simp,by simp⟩
     |cons c cs zm=>
      intro o ij bI h aT;simp only[cons_append,cV]at h;obtain⟨aA,s7,rfl,h1,D⟩:=h
      obtain⟨cp,yg,cG,gC,kB⟩:=zm (o+1) ij s7 D λj pL=>by
       have:=aT (j+1) (by simpa using pL);simpa [Nat.add_assoc,Nat.add_comm 1]using this
      refine⟨?_,yg,cG,by simpa using gC,by simpa using kB⟩;simp only[k4];refine⟨⟨aA,?_,jV hle c aA h1⟩,cp⟩;rw[pK];simpa using aT 0 (by simp)
    obtain⟨cp,yg,cG,gC,kB⟩:=row y off bx.flatten bI aB hu;simp only[jC];refine⟨cp,bg (off+y.length) yg (λe he=>ag e (mem_cons_of_mem _ he)) cG λj aT=>?_⟩;subst kB;have:=hu (y.length+j) (by simp at aT;omega);rw[getElem?_drop,←this,Nat.add_assoc]
  refine key xs 0 _ fz dP λj aT=>?_;rw[Nat.zero_add,getElem?_take];have aT:j<min (xs.length*sz) arr.size:=by simpa using aT
  rw[if_pos (by omega)];simp
def PS{cx:eW}{I aU:bs}{w:World}{α:Type}{k:IntKind}{T sz:Nat}{enc:α→List Q}(hle:cn I aU):∀(l:List (Int×List α)) (vs:dZ) (es:nM),k6 I (e8 k l) vs es→hs cx I w (hh T sz enc l) vs→(∀b∈vs.filterMap b1,∀o,aU b o=h2 w b o)→
  gq aU (bQ k (λrows=>.bf false (rows.map enc)) l) es
 |[],vs,es,h,_,_=>by
  simp only[e8,map_nil,k6]at h;rw[h.2];simp[bQ,gq]
 |(n,rows)::l,vs,es,h,U,g9=>by
  simp only[e8,map_cons,k6]at h;obtain⟨v,bI,e,mB,rfl,rfl,aj,a1,bU⟩:=h;simp only[hh,map_cons,hs]at U;obtain⟨dF,s7,akO,dO,ep,hg⟩:=U;cases akO;simp only[bQ,map_cons,gq];refine⟨e,mB,rfl,jV hle _ _ aj,?_,PS hle l bI mB bU hg λb U=>g9 b ?_⟩
  ·rw[a1];exact kC.bf dO hle λb U=>g9 b (by simp[U])
  ·rw[filterMap_cons];split
   ·exact U
   ·exact mem_cons_of_mem _ U
def atL{α:Type}{aV sz:Nat}{K E d e:Nat}{k:IntKind}{iK:Option (iT×Nat)}(l:List (Int×List α))(enc:α→List Q)
  (Z:σ.get d=some (.fc K E e (e8 k l) none iK)) (he:σ.get e=some (.b9 (hh aV sz enc l))) :
  cr G env σ env ((d,.kf K E (bQ k (λrows=>.bf false (rows.map enc)) l))::σ.minus [d,e]):=λcx I β a w h b3=>by
 have js:d≠e:=λcB=>by subst cB;rw[Z]at he;cases he
 have n5:(σ.get d).isSome:=by rw[Z];rfl
 have jt:(σ.get e).isSome:=by rw[he];rfl
 let aU:bs:=λb o=>if b∈c2 (β d)∨b∈c2 (β e)then h2 w b o else I b o
 have fB:∀b,b∈c2 (β d)∨b∈c2 (β e)→∀o,aU b o=h2 w b o:=λb U o=>if_pos U;have pP:∀b,¬(b∈c2 (β d)∨b∈c2 (β e))→∀o,aU b o=I b o:=λb U o=>if_neg U
 have hle:cn I aU:=λb o v aa=>by
  by_cases U:b∈c2 (β d)∨b∈c2 (β e)
  ·rw[fB b U];exact h.JT b o v aa
  ·rw[pP b U];exact aa
 have nD:∀b,b∈c2 (β d)∨b∈c2 (β e)→Place cx b:=λb U=>by
  rcases U with U|U
  ·exact(h.Fj Z U).2
  ·exact(h.Fj he U).2
 have sub:∀x o,Y.get ((d,.kf K E (bQ k (λrows=>.bf false (rows.map enc)) l))::σ.minus [d,e]) x=some o→(x=d∧o=.kf K E (bQ k (λrows=>.bf false (rows.map enc)) l))∨(x≠d∧x≠e∧σ.get x=some o):=λx o u=>by
  rw[asw,asG]at u;split at u
  ·rename_i cB;exact .inl ⟨cB.symm,(Option.some.inj u).symm⟩
  ·rename_i hH;split at u
   ·cases u
   ·rename_i g3;simp only[mem_cons,not_mem_nil,or_false,not_or]at g3;exact .inr ⟨g3.1,g3.2,u⟩
 have C9:∀x,(Y.get ((d,cc.kf K E (bQ k (λrows=>.bf false (rows.map enc)) l))::σ.minus [d,e]) x).isSome→(σ.get x).isSome:=λx u=>by
  obtain⟨o,u⟩:=Option.isSome_iff_exists.1 u;rcases sub x o u with⟨rfl,_⟩|⟨_,_,u⟩
  ·exact n5
  ·rw[u];rfl
 refine⟨aU,β,{h with good:=λb o v aa=>?_,hM:=λb v aa=>?_,jg:=h.jg.trans hle,iV:=λb U aR o=>?_,cw:=λx o u=>?_,dA:=λx y u ag=>h.dA x y (C9 x u) (C9 y ag)},b3.mono hle (hp.refl β)⟩
 ·by_cases U:b∈c2 (β d)∨b∈c2 (β e)
  ·rw[fB b U]at aa;exact BE b o v aa
  ·rw[pP b U]at aa;exact h.good b o v aa
 ·by_cases U:b∈c2 (β d)∨b∈c2 (β e)
  ·rw[fB b U]at aa;exact Bs b v aa
  ·rw[pP b U]at aa;exact h.hM b v aa
 ·have:¬(b∈c2 (β d)∨b∈c2 (β e)):=λha=>by
   rcases nD b ha with q|q
   ·omega
   ·exact aR q
  rw[pP b this];exact h.iV b U aR o
 ·rcases sub x o u with⟨rfl,rfl⟩|⟨hH,g3,u⟩
  ·have tM:=h.cw x _ Z;simp only[aY]at tM ⊢;rcases tM with q|⟨r,es,clock,X,cv,ak,ar,aM,aK,be,bJ,b8,cT,_⟩
   ·exact .inl q
   ·rw[show cv=X.toList from aK]at be;have kH:=h.cw e _ he;simp only[aY,aM,Value.tuple.injEq,reduceCtorEq,false_or]at kH;obtain⟨fF,rfl,U⟩:=kH;refine .inr ⟨r,es,clock,ak,?_,PS hle l X.toList es.toList be U λb ha=>fB b (.inr (by rw[aM,oR];exact ha)),b8,cT⟩;rw[fB r (.inl (j8 (by rw[ak];rfl)))];simp[h2,ar]
  ·refine(h.cw x o u).Tw hle λb U=>pP b λha=>?_;rcases ha with q|q
   ·exact h.dA x d (by rw[u];rfl) n5 hH b U q
   ·exact h.dA x e (by rw[u];rfl) jt g3 b U q
def A.ex{c:Code}{bq:Exit→ah→Y→Prop}{ι:Type}{dB:ι→ah}{σ2:ι→Y}(h:∀cx I β a w,bY G cx I β σ w→lI I β env a→∃i aU β',bY G cx aU β' (σ2 i) w∧lI aU β' (dB i) a)(k:∀i,aS G c bq (dB i) (σ2 i)):aS G c bq env σ:=
 asT λcx a w aB=>by
  obtain⟨I,β,h1,D,aj,a1⟩:=aB;obtain⟨i,aU,β',bU,dP⟩:=h cx I β a w h1 D;exact(k i).use cx a w ⟨aU,β',bU,dP,aj,a1⟩
def BP{d:Nat}{o fW:cc}(Z:σ.get d=some o){cx:eW}{I:bs}{β:Nat→Value}{w:World}(h:bY G cx I β σ w)(ai:aY cx I β w d fW):bY G cx I β (σ.set d fW) w:=by
 have fq:∀x,(Y.get (σ.set d fW) x).isSome→(σ.get x).isSome:=λx u=>by
  rw[asB]at u;split at u
  ·rename_i e;subst e;rw[Z];rfl
  ·exact u
 refine{h with cw:=λx hx u=>?_,dA:=λx y u ag=>h.dA x y (fq x u) (fq y ag)};rw[asB]at u;split at u
 ·rename_i e;subst e;rw[Z]at u;cases u;exact ai
 ·exact h.cw x hx u
def atv{c:Code}{bq:Exit→ah→Y→Prop}{d K E:Nat}{bH:List (Q×Q)}(Z:σ.get d=some (.map K E bH))(k:∀es clock,aS G c bq env (σ.set d (.gz es clock K E bH))):aS G c bq env σ:=
 A.ex (ι:=iT×Nat) (dB:=λ_=>env) (σ2:=λi=>σ.set d (.gz i.1 i.2 K E bH)) (λcx I β a w h b3=>by
  have:=h.cw d _ Z;simp only[aY]at this;rcases this with q|⟨r,es,clock,ak,ar,aM,aK,be,bJ⟩
  ·exact⟨(#[],0),I,β,BP Z h (by simp only[aY];exact .inl q),b3⟩
  ·exact⟨(es,clock),I,β,BP Z h (by simp only[aY];exact .inr ⟨r,ak,ar,aM,aK,be,bJ⟩),b3⟩) λi=>k i.1 i.2
def auw{d K E clock:Nat}{es:iT}{bH:List (Q×Q)}(Z:σ.get d=some (.gz es clock K E bH)):cr G env σ env (σ.set d (.map K E bH)):=λcx I β a w h b3=>by
 refine⟨I,β,BP Z h ?_,b3⟩;have:=h.cw d _ Z;simp only[aY]at this ⊢;rcases this with q|⟨r,ak,ar,aM,aK,be,bJ⟩
 ·exact .inl q
 ·exact .inr ⟨r,es,clock,ak,ar,aM,aK,be,bJ⟩
def auL{c:Code}{bq:Exit→ah→Y→Prop}{d K E e:Nat}{keys:List Q}{du:Option (ku×Nat)}(Z:σ.get d=some (.fc K E e keys du none))(k:∀es clock,aS G c bq env (σ.set d (.fc K E e keys du (some (es,clock))))):aS G c bq env σ:=
 A.ex (ι:=iT×Nat) (dB:=λ_=>env) (σ2:=λi=>σ.set d (.fc K E e keys du (some i))) (λcx I β a w h b3=>by
  have:=h.cw d _ Z;simp only[aY]at this;rcases this with q|⟨r,es,clock,X,cv,ak,ar,aM,aK,be,bJ,b8,cT,_⟩
  ·exact⟨(#[],0),I,β,BP Z h (by simp only[aY];exact .inl q),b3⟩
  ·exact⟨(es,clock),I,β,BP Z h (by simp only[aY];exact .inr ⟨r,es,clock,X,cv,ak,ar,aM,aK,be,bJ,b8,cT,λq bV=>(Option.some.inj bV).symm⟩),b3⟩) λi=>k i.1 i.2
end weak
end
section
open Go.ChangeMaps (setBlock)
def mg{α S:Type}(B:Int→α→S→Option S):List (Int×α)→S→Option S
 |[],s=>some s
 |p::r,s=>match B p.1 p.2 s with|none=>none|some cO=>mg B r cO
open Classical in
noncomputable def xX{α S:Type}(l:List (Int×α))(B:Int→α→S→Option S)(s:S):Option S:=
 if ∀gV:List (Int×α),gV.Perm l→mg B gV s=mg B l s then mg B l s else none
variable {S α:Type}{r:S}{B:Int→α→S→Option S}{l:List (Int×α)}
def XX{s:S}(h:xX l B s=some r):(∀gV:List (Int×α),gV.Perm l→mg B gV s=mg B l s)∧mg B l s=some r:=by
 unfold xX at h;split at h
 ·rename_i h1;exact⟨h1,h⟩
 ·cases h
def PT{s:S}(h:∀gV:List (Int×α),gV.Perm l→mg B gV s=some r):xX l B s=some r:=by
 unfold xX;rw[if_pos λgV aH=>by rw[h gV aH,h l (List.Perm.refl l)]];exact h l (List.Perm.refl l)
def M2{α S:Type}{B:Int→α→S→Option S}:∀(l gV:List (Int×α)) (s:S),mg B (l++gV) s=(mg B l s).bind (mg B gV)
 |[],_,_=>rfl
 |p::r,gV,s=>by
  simp only[cons_append,mg];cases B p.1 p.2 s with
  |none=>rfl
  |some cO=>exact M2 r gV cO
section
variable {G:ch}{σ:Y}{o:Oper}{ev:Operand→Q}
def cc.xJ:cc→Option (iT×Nat)
 |.gz es c _ _ _=>some (es,c)
 |.fc _ _ _ _ _ iK=>iK
 |_=>none
def Jf{cx:eW}{I:bs}{β:Nat→Value}{w:World}(an:bY G cx I β σ w){cz clock:Nat}{jJ:cc}{es:iT}(Z:σ.get cz=some jJ)(aH:jJ.xJ=some (es,clock))(aR:β cz≠.nilFunc):
  ∃fx,β cz=.map (some fx)∧w.heap[fx]?=some (.map es clock)∧jZ es clock:=by
 have h:=an.cw cz jJ Z;cases jJ<;>simp only[cc.xJ,reduceCtorEq]at aH
 ·cases aH;simp only[aY,aR,false_or]at h;obtain⟨r,ak,ar,aM,aK,be,bJ⟩:=h;exact⟨r,ak,ar,bJ⟩
 ·simp only[aY,aR,false_or]at h;obtain⟨r,hO,mR,X,cv,ak,ar,aM,aK,be,bJ,b8,cT,dD⟩:=h;cases dD _ aH;exact⟨r,ak,ar,cT⟩
def ej.range{T cz b5 K E clock:Nat}{x:Operand}{es:iT}{jJ:cc}(h:o.op=.range T x)(u:ev x=.dr cz)(Z:σ.get cz=some jJ)(aH:jJ.xJ=some (es,clock))(aQ:G.P.underlying T=some (.map K E))
  (hi:G.ids.contains b5=false) (af:σ.clean [b5].contains=true):h5 G o ev σ [b5] [b5] (λr az=>r=.ptr b5 0∧az=(b5,.iter cz clock clock #[])::σ):=by
 intro cx I β w aZ an hop;have h1:=hop x (by simp[h,Op.operands]);rw[u]at h1
 simp only[au]at h1;obtain⟨h1,qN⟩:=h1;have iR:β cz≠.nilFunc:=λe=>by rw[h1,e]at qN;simp[mJ]at qN
 obtain⟨fx,ak,ar,aM⟩:=Jf an Z aH iR
 have ajM:cz≠b5:=λe=>by
  have:=(asF af cz jJ Z).1;simp[e]at this
 have eY:(execOp aZ o).run G.P w=.ok (.value (.pointer (some ⟨w.heap.size,0,none⟩))) (w.alloc (.mapIter (some fx) clock #[] clock)):=by
  simp[execOp,h,h1,ak,run_range_map w T K E fx es clock aQ ar]
 rw[eY];have aa:=an.qy (dI:=[b5]) (σ2:=σ) (env:=[]) ⟨λ_ _=>rfl,by simpa using hi,rfl,af,λx u cz n h=>by have:=(asF af x _ h).1;rw[List.contains_iff_mem.2 u]at this;cases this⟩;have U:∀y,y≠b5→g7 (gI β [b5]) b5 (.pointer (some ⟨w.heap.size,0,none⟩)) y=β y:=λy ag=>by rw[g5 _ _ ag];simp[gI,ag]
 have tH:g7 (gI β [b5]) b5 (.pointer (some ⟨w.heap.size,0,none⟩)) b5=.pointer (some ⟨w.heap.size,0,none⟩):=gL _ _ _;refine⟨.ptr b5 0,_,I,g7 (gI β [b5]) b5 (.pointer (some ⟨w.heap.size,0,none⟩)),⟨rfl,rfl⟩,?_,?_,cn.refl I,λy ag=>U y (by simpa using ag),λy ag=>by rw[asw,if_neg (Ne.symm (by simpa using ag))]⟩
 ·simp only[au,tH];exact⟨w.heap.size,rfl,rfl⟩
 ·refine aa.turn (d:=b5) (gK.alloc w _) (.inl an.size) (λx u=>by rw[asw,if_neg (Ne.symm u)]) (λx u X e=>by
    obtain⟨aX,X⟩:=Option.isSome_iff_exists.1 X;exact absurd (aa.sL X e) (by omega)) (cn.refl I) (λ_ _ _=>rfl) (λhx dF ob=>by rw[an.iF (Nat.le_refl _)]at ob;cases ob) (an.iF (Nat.le_refl _) none)
   (λx u=>g5 _ _ u) (.inl (by simpa using hi)) (asV (by simp[gI])) (.inl (by rw[tH];rfl)) λaX cC=>?_
  rw[asw,if_pos rfl]at cC;cases cC;simp only[aY,tH,U cz ajM,ak];exact .inr ⟨w.heap.size,fx,rfl,rfl,heap_alloc_new w _,λo=>an.iF (Nat.le_refl _) o,.inl an.size⟩
def ej.next{cz b5 clock:Nat}{x:Operand}{es:iT}{seen:oA}{jJ:cc}(h:o.op=.next x false)(u:ev x=.ptr b5 0)(hi:σ.get b5=some (.iter cz clock clock seen))(Z:σ.get cz=some jJ)(aH:jJ.xJ=some (es,clock)):
  h5 G o ev σ [b5] [] (λr az=>((leftOf es seen).size=0∧r=.cI [.bool false]∧az=σ)∨∃e∈(leftOf es seen).toList,r=.cI [.bool true,.e9,.e9]∧az=σ.set b5 (.iter cz clock clock (seen.push e.born))):=by
 intro cx I β w aZ an hop;have h1:=hop x (by simp[h,Op.operands]);rw[u]at h1
 simp only[au]at h1;obtain⟨b,h1,D⟩:=h1;have fB:β b5≠.nilFunc:=λe=>by rw[e]at h1;cases h1
 have hit:=an.cw b5 _ hi;simp only[aY,fB,false_or]at hit;obtain⟨r,fx,ak,ar,aM,aK,be⟩:=hit;have DO:b=r:=by rw[ak]at h1;simpa [b1]using h1.symm
 subst DO;have iR:β cz≠.nilFunc:=λe=>by rw[e]at ar;cases ar
 obtain⟨uC,cQ,dM,eH⟩:=Jf an Z aH iR;have:uC=fx:=by rw[cQ]at ar;simpa [b1]using ar
 subst this;rcases run_next_at (P:=G.P) w o.type b uC clock clock seen es clock aM dM eH.2 (Nat.le_refl _)with⟨dW,eg⟩|⟨e,dW,hn,eg,s3⟩
 ·have eY:(execOp aZ o).run G.P w=.ok (.value (.tuple #[.bool false])) w:=by simp[execOp,h,D,eg]
  rw[eY];refine⟨.cI [.bool false],σ,I,β,.inl ⟨dW,rfl,rfl⟩,?_,an,cn.refl I,λ_ _=>rfl,λ_ _=>rfl⟩;simp[au,bW,bc]
 ·have eY:(execOp aZ o).run G.P w=.ok (.value (.tuple #[.bool true,e.key,e.val])) (setBlock hn b (.mapIter (some uC) clock (seen.push e.born) clock)):=by simp[execOp,h,D,s3]
  rw[eY];refine⟨.cI [.bool true,.e9,.e9],σ.set b5 (.iter cz clock clock (seen.push e.born)),I,β,.inr ⟨e,dW,rfl,rfl⟩,?_,?_,cn.refl I,λ_ _=>rfl,λy ag=>by rw[asB,if_neg (by simpa using ag)]⟩
  ·simp only[au,bW,bc];exact⟨_,rfl,_,_,rfl,rfl,_,_,rfl,trivial,_,_,rfl,trivial,rfl⟩
  ·have hk:gK w (setBlock hn b (.mapIter (some uC) clock (seen.push e.born) clock)) b:=by
    rcases eg with rfl|rfl
    ·exact asJ _ b _
    ·exact gK.drew (asJ _ b _)
   have fL:b1 (β b5)=some b:=h1;have cA:(setBlock hn b (.mapIter (some uC) clock (seen.push e.born) clock)).heap[b]?=some (.mapIter (some uC) clock (seen.push e.born) clock):=by
    have bL:=hC aM;have:hn.heap=w.heap:=by rcases eg with rfl|rfl<;>rfl
    simp[setBlock,this,Array.getElem?_setIfInBounds,bL]
   refine an.turn (d:=b5) hk be (λx u=>by rw[asB,if_neg u]) (λx u X cB=>an.dA x b5 X (by rw[hi];rfl) u b cB (j8 fL)) (cn.refl I) (λ_ _ _=>rfl)
    (λo v aa=>by rw[aK o]at aa;cases aa) (aK none) (λ_ _=>rfl) (.inr rfl) (hp.refl β) (.inl fL) λaX cC=>?_
   rw[asB,if_pos rfl,hi]at cC;injection cC with cC
   subst cC;simp only[aY];exact .inr ⟨b,uC,ak,ar,cA,aK,be⟩
def IF{I:bs}:∀{bH:List (Q×Q)} {es:nM} {i:Nat} {a c:Q} {e:MapEntry},gq I bH es→bH[i]?=some (a,c)→es[i]?=some e→bc I a e.key∧bc I c e.val
 |[],_,i,_,_,_,_,h,_=>by simp at h
 |(k,v)::r,_,i,a,c,e,h,ay,he=>by
  simp only[gq]at h;obtain⟨f,bI,rfl,h1,D,aj⟩:=h;cases i with
  |zero=>simp at ay he;obtain⟨rfl,rfl⟩:=ay;subst he;exact⟨h1,D⟩
  |succ i=>simp at ay he;exact IF aj ay he
def PU{I:bs}:∀{ks:List Q} {vs:dZ} {es:nM} {i:Nat} {a:Q} {e:MapEntry},k6 I ks vs es→ks[i]?=some a→es[i]?=some e→bc I a e.key
 |[],_,_,i,_,_,_,h,_=>by simp at h
 |k::r,_,_,i,a,e,h,ay,he=>by
  simp only[k6]at h;obtain⟨v,bI,f,mB,rfl,rfl,h1,D,aj⟩:=h;cases i with
  |zero=>simp at ay he;subst ay;subst he;exact h1
  |succ i=>simp at ay he;exact PU aj ay he
def PV{cx:eW}{I:bs}{β:Nat→Value}{w:World}{aZ:Operand→Value}{cz b5 clock i:Nat}{x:Operand}{es:iT}{seen:oA}{jJ:cc}{e:MapEntry}(an:bY G cx I β σ w)(h:o.op=.entry x)(h1:au I β (.ptr b5 0) (aZ x))
  (hi:σ.get b5=some (.iter cz clock clock (seen.push e.born))) (Z:σ.get cz=some jJ) (aH:jJ.xJ=some (es,clock)) (he:es[i]?=some e):(execOp aZ o).run G.P w=.ok (.value (.tuple #[e.key,e.val])) w∧β cz≠.nilFunc:=by
 simp only[au]at h1;obtain⟨b,h1,D⟩:=h1;have fB:β b5≠.nilFunc:=λe=>by rw[e]at h1;cases h1
 have hit:=an.cw b5 _ hi;simp only[aY,fB,false_or]at hit;obtain⟨r,fx,ak,ar,aM,aK,be⟩:=hit;have DO:b=r:=by rw[ak]at h1;simpa [b1]using h1.symm
 subst DO;have iR:β cz≠.nilFunc:=λe=>by rw[e]at ar;cases ar
 obtain⟨uC,cQ,dM,eH⟩:=Jf an Z aH iR;have:uC=fx:=by rw[cQ]at ar;simpa [b1]using ar
 subst this;have sC:e∈es.toList:=by
  have:es.toList[i]?=some e:=by simpa using he
  exact List.mem_of_getElem? this
 exact⟨by simp[execOp,h,D,run_entry_at (P:=G.P) w b uC clock seen es clock e aM dM sC eH.1],iR⟩
def at4{α:Type}{cz b5 clock i K E:Nat}{k:IntKind}{x:Operand}{es:iT}{seen:oA}{e:MapEntry}{n:Int}{v:α}(l:List (Int×α))(enc:α→Q)(h:o.op=.entry x)(u:ev x=.ptr b5 0)(hi:σ.get b5=some (.iter cz clock clock (seen.push e.born)))
  (Z:σ.get cz=some (.gz es clock K E (bQ k enc l))) (he:es[i]?=some e) (aR:l[i]?=some (n,v)):Yields G o ev σ [] [b5,cz] (.cI [.int k n,enc v]):=
 .pure λaz cx I β w aZ cf an hop=>by
  have h1:=hop x (by simp[h,Op.operands]);rw[u]at h1
  have dH:az.get cz=some (.gz es clock K E (bQ k enc l)):=by rw[cf cz (by simp)];exact Z
  obtain⟨gJ,gA⟩:=PV an h h1 (by rw[cf b5 (by simp)];exact hi) dH rfl he;refine⟨_,gJ,?_⟩;have ai:=an.cw cz _ dH;simp only[aY,gA,false_or]at ai;obtain⟨r,ak,ar,aM,_⟩:=ai;obtain⟨dW,eg⟩:=IF aM (i:=i) (a:=.int k n) (c:=enc v) (e:=e) (by simp[bQ,aR]) (by simpa using he);simp only[au,bW];exact⟨_,rfl,e.key,[e.val],rfl,dW,e.val,[],rfl,bc.rep β _ _ eg,rfl⟩
def at5{α:Type}{cz b5 clock i K E mT:Nat}{k:IntKind}{du:Option (ku×Nat)}{x:Operand}{es:iT}{seen:oA}{e:MapEntry}{n:Int}(l:List (Int×α))(h:o.op=.entry x)(u:ev x=.ptr b5 0)(hi:σ.get b5=some (.iter cz clock clock (seen.push e.born)))
  (Z:σ.get cz=some (.fc K E mT (e8 k l) du (some (es,clock)))) (he:es[i]?=some e) (aR:(l.map (·.1))[i]?=some n):Yields G o ev σ [] [b5,cz] (.cI [.int k n,.e9]):=
 .pure λaz cx I β w aZ cf an hop=>by
  have h1:=hop x (by simp[h,Op.operands]);rw[u]at h1
  have dH:az.get cz=some (.fc K E mT (e8 k l) du (some (es,clock))):=by rw[cf cz (by simp)];exact Z
  obtain⟨gJ,gA⟩:=PV an h h1 (by rw[cf b5 (by simp)];exact hi) dH rfl he;refine⟨_,gJ,?_⟩;have ai:=an.cw cz _ dH;simp only[aY,gA,false_or]at ai;obtain⟨r,hO,mR,X,cv,ak,ar,aM,aK,be,bJ,b8,cT,dD⟩:=ai;cases dD _ rfl;have dW:=PU be (i:=i) (a:=.int k n) (e:=e) (by
   simp only[List.getElem?_map,Option.map_eq_some_iff]at aR;obtain⟨p,cQ,rfl⟩:=aR;simp[e8,cQ]) (by simpa using he)
  simp only[au,bW];exact⟨_,rfl,e.key,[e.val],rfl,dW,e.val,[],rfl,trivial,rfl⟩
def oK{α:Type}(l:List (Int×α))(n:Int):List (Int×α):=match l with
 |[]=>[]
 |p::r=>if p.1=n then r else p::oK r n
def Wz{I:bs}{α:Type}{k:IntKind}{enc:α→Q}(n:Int):∀(l:List (Int×α)) (es:nM) (i:Nat) (a:α),gq I (bQ k enc l) es→aD l n=some a→
  ∃j v,Instr.findNow (.int k) (.int k n) es i=some (some (i+j,v))∧j<es.length∧gq I (bQ k enc (oK l n)) (es.eraseIdx j)
 |[],es,i,a,h,bu=>by simp[aD]at bu
 |(m,b)::r,es,i,a,h,bu=>by
  simp only[bQ,map_cons,gq]at h;obtain⟨e,bI,rfl,aj,a1,bU⟩:=h;simp only[bc]at aj;rw[jN]at bu;by_cases hm:m=n
  ·subst hm;refine⟨0,e.val,by simp[Instr.findNow,Instr.sameNow,aj],by simp,?_⟩;simp only[oK,if_true,eraseIdx_cons_zero];exact bU
  ·rw[if_neg hm]at bu;obtain⟨j,v,ak,ar,aM⟩:=Wz n r bI (i+1) a bU bu;refine⟨j+1,v,?_,by simpa using ar,?_⟩
   ·simp only[Instr.findNow,Instr.sameNow,aj,if_pos];have:(n==m)=false:=by simpa using λe=>hm e.symm
    rw[this];simp only;rw[ak];simp[Nat.add_assoc,Nat.add_comm 1]
   ·simp only[oK,hm,if_false,eraseIdx_cons_succ,bQ,map_cons,gq];exact⟨e,_,rfl,by simp only[bc];exact aj,a1,aM⟩
def PW{α:Type}:∀{l:List (Int×α)} {n:Int},aD l n=none→oK l n=l
 |[],_,_=>rfl
 |p::r,n,h=>by
  rw[jN]at h;split at h
  ·cases h
  ·rename_i aC;simp only[oK,if_neg aC,PW h]
def jZ.erase{es:iT}{clock:Nat}(h:jZ es clock)(j:Nat):jZ (es.eraseIdxIfInBounds j) clock:=by
 obtain⟨h1,D⟩:=h;have e:(es.eraseIdxIfInBounds j).toList=es.toList.eraseIdx j:=by simp
 refine⟨?_,λx u=>D x ?_⟩
 ·rw[e,ChangeMaps.map_eraseIdx];exact h1.sublist (eraseIdx_sublist _ _)
 ·rw[e]at u;exact(eraseIdx_sublist _ _).subset u
def au9{α:Type}{T K E d:Nat}{k:IntKind}{x y:Operand}{n:Int}(l:List (Int×α))(enc:α→Q)(h:o.op=.call ⟨.builtin .delete,#[x,y],#[T,K]⟩)(u:ev x=.dr d)(ag:ev y=.int k n)
  (Z:σ.get d=some (.map K E (bQ k enc l))) (aQ:kF G.P T K E k) :
  h5 G o ev σ [d] [] (λr az=>r=.cI []∧az=σ.set d (.map K E (bQ k enc (oK l n)))):=by
 intro cx I β w aZ an hop;have h1:=hop x (by simp[h,Op.operands,Call.operands]);rw[u]at h1
 have D:=hop y (by simp[h,Op.operands,Call.operands]);rw[ag]at D;have D:=jW D
 obtain⟨r,es,clock,nk,ak,ar,aM,aK,be,bJ⟩:=No an Z h1;have aJ:∀w,(underlying T).run G.P w=.ok (.map K E) w:=λw=>by simp[underlying,program,Sem.run,aQ.gY]
 have e2:∀w,(underlying K).run G.P w=.ok (.int k) w:=λw=>by simp[underlying,program,Sem.run,aQ.key]
 have dm:=xD (P:=G.P) ar;have gb:=Bk (P:=G.P) aQ.key (es.isEmpty) n w;have ig:∀aX:Obj,(setObj r aX).run G.P w=.ok () {w with heap:=w.heap.setIfInBounds r aX}:=λaX=>by simp[setObj,Sem.run,ar]
 have zD:∃hO,(execOp aZ o).run G.P w=.ok (.value (.tuple #[])) {w with heap:=w.heap.setIfInBounds r (.map hO clock)}∧gq I (bQ k enc (oK l n)) hO.toList∧jZ hO clock:=by
  cases bu:aD l n with
  |none=>
   obtain⟨cQ,dM⟩:=ED n l es.toList 0 aM bu;have gU:(Instr.findKey K (.int k n) es.toList).run G.P w=.ok none w:=by simp[Instr.findKey,e2,cQ]
   refine⟨es,by simp[execOp,h,resolve,invoke,builtin,Builtin.delete_,nk,D,aJ,dm,gb,gU,ig],?_,bJ⟩;rw[PW bu];exact aM
  |some a=>
   obtain⟨j,aA,cQ,dM,eH⟩:=Wz n l es.toList 0 a aM bu;have gU:(Instr.findKey K (.int k n) es.toList).run G.P w=.ok (some (0+j,aA)) w:=by simp[Instr.findKey,e2,cQ]
   refine⟨es.eraseIdxIfInBounds j,by simp[execOp,h,resolve,invoke,builtin,Builtin.delete_,nk,D,aJ,dm,gb,gU,ig],?_,bJ.erase j⟩;simpa using eH
 obtain⟨hO,eY,iP,dc⟩:=zD;rw[eY];refine⟨.cI [],_,I,β,⟨rfl,rfl⟩,by simp[au,bW],?_,cn.refl I,λ_ _=>rfl,λx u=>by rw[asB,if_neg (by simpa using u)]⟩;have fL:b1 (β d)=some r:=by rw[ak];rfl
 refine an.turn (d:=d) (asJ w r _) be (λx u=>by rw[asB,if_neg u]) (λx u X e=>an.dA x d X (by rw[Z];rfl) u r e (j8 fL)) (cn.refl I) (λ_ _ _=>rfl)
  (λo v aa=>by rw[aK o]at aa;cases aa) (aK none) (λ_ _=>rfl) (.inr rfl) (hp.refl β) (.inl fL) λaX cC=>?_
 rw[asB,if_pos rfl,Z]at cC;injection cC with cC
 subst cC;simp only[aY];exact .inr ⟨r,hO,clock,ak,by have:=hC ar;simp[Array.getElem?_setIfInBounds,this],iP,aK,be,dc⟩
def atQ{c:Code}{bq:Exit→ah→Y→Prop}{env:ah}{F:Prop}(h:∀cx I β a w,bY G cx I β σ w→lI I β env a→F)(k:F→aS G c bq env σ):aS G c bq env σ:=
 asT λcx a w aB=>by
  obtain⟨I,β,h1,D,aj,a1⟩:=aB;exact(k (h cx I β a w h1 D)).use cx a w ⟨I,β,h1,D,aj,a1⟩
def jK{ia α:Type}(l:List (ia×α))(p:dg):List (ia×α):=p.filterMap λi=>l[i]?
def Iy{ia α:Type}(l:List (ia×α)):jK l (List.range l.length)=l:=by
 have:∀(n:Nat),n≤l.length→jK l (List.range n)=l.take n:=by
  intro n;induction n with
  |zero=>intro _;simp[jK]
  |succ n bg=>
   intro aR;rw[List.range_succ];simp only[jK,List.filterMap_append,filterMap_cons,filterMap_nil]at bg ⊢;rw[bg (by omega),List.getElem?_eq_getElem (by omega)];simp only;rw[take_succ,List.getElem?_eq_getElem (by omega)];rfl
 rw[this _ (Nat.le_refl _),take_length]
def Ib{p:dg}{n:Nat}(h1:p.Nodup)(D:∀i,i∈p↔i<n):p.Perm (List.range n):=
 (perm_ext_iff_of_nodup h1 nodup_range).2 λi=>by rw[List.mem_range];exact D i
def A.Im{S α:Type}{env:ah}{bq:Exit→ah→Y→Prop}{l:List (Int×α)}{B:Int→α→S→Option S}{lV r:S}(hm:xX l B lV=some r){id b t1 t2 it cz b5 clock:Nat}{es:iT}{hI fW:Oper}{y:Code}
  (inv:S→Prop) (fI:S→ah) (fV:oA→S→Y) (oa:hI.op=.next (.tmp it) false∧hI.dst=some t1∧hI.guard=none) (k1:fW.op=.extract (.tmp t1) 0∧fW.dst=some t2∧fW.guard=none) (Z:wz G.N #[hI,fW]=true)
  (bM:inv lV) (aka:∀n v g ih,B n v g=some ih→inv g→inv ih) (hit:∀g,(fI g).get it=.ptr b5 0) (ze:∀seen g,(fV seen g).get b5=some (.iter cz clock clock seen)) (iA:∀seen g,∃jJ,(fV seen g).get cz=some jJ∧jJ.xJ=some (es,clock))
  (ig:∀seen g cO,(fV seen g).set b5 (.iter cz clock clock cO)=fV cO g) (eA:∀seen g,inv g→∀cx I β w,bY G cx I β (fV seen g) w→β cz≠.nilFunc→es.size=l.length)
  (an:cr G env σ (fI lV) (fV #[] lV))
  (body:∀(seen:oA) (e:MapEntry) (i:Nat) (n:Int) (v:α) (g ih:S),es[i]?=some e→l[i]?=some (n,v)→inv g→B n v g=some ih→
   aS G y (qX (λgy az=>cr G gy az (fI ih) (fV (seen.push e.born) ih)) bq) ((t2,.bool true)::(t1,.cI [.bool true,.e9,.e9])::fI g) (fV (seen.push e.born) g))
  (cL:∀seen,bq (.exit b) ((t2,.bool false)::(t1,.cI [.bool false])::fI r) (fV seen r)) :
  aS G (.loop (.seq (.region id #[hI,fW] false) (.seq (.cond (.tmp t2) .skip (.exit b)) y))) bq env σ:=by
 obtain⟨m1,m2⟩:=XX hm
 refine A.loop (α:=oA×S) (λs=>fI s.2) (λs=>fV s.1 s.2) (λs=>inv s.2∧∃p:dg,p.Nodup∧(∀i∈p,i<l.length)∧(∀(i:Nat) (e:MapEntry),es[i]?=some e→(s.1.contains e.born=true↔i∈p))∧mg B (jK l p) lV=some s.2)
  (λs=>(leftOf es s.1).size) (#[],lV) ⟨bM,[],nodup_nil,by simp,by simp,rfl⟩ an ?_
 rintro⟨seen,g⟩ ⟨hi,p,cQ,dM,eH,i6⟩;refine atQ (F:=es.size=l.length∧(es.toList.map (·.born)).Nodup) (λcx I β a w kg aQ=>?_) λ⟨f1,f2⟩=>?_
 ·have h1:=aQ it;rw[show(fI (seen,g).2).get it=.ptr b5 0 from hit g]at h1;simp only[au]at h1;obtain⟨b,h1,_⟩:=h1;have fB:β b5≠.nilFunc:=λe=>by rw[e]at h1;cases h1
  have ai:=kg.cw b5 _ (ze seen g);simp only[aY,fB,false_or]at ai;obtain⟨r,fx,ak,ar,_⟩:=ai;have iR:β cz≠.nilFunc:=λe=>by rw[e]at ar;cases ar
  obtain⟨jJ,dW,eg⟩:=iA seen g;obtain⟨_,_,_,s3⟩:=Jf kg dW eg iR;exact⟨eA seen g hi cx I β w kg iR,s3.1⟩
 obtain⟨jJ,dW,eg⟩:=iA seen g;have uM:ah.get ((t2,.bool true)::(t1,.cI [.bool true,.e9,.e9])::fI g) t2=.bool true:=by rw[asI,if_pos rfl]
 have xk:ah.get ((t2,.bool false)::(t1,.cI [.bool false])::fI g) t2=.bool false:=by rw[asI,if_pos rfl]
 refine A.seq (A.region Z ?_);show fD G #[hI,fW] ⟨false,[],[]⟩ [] [0,1] (fI g) (fV seen g) _;refine⟨hI,rfl,.inr (.inr (.inl ⟨by simp only[jm,oa.2.2],by simp,[b5],[],_,ej.next (x:=.tmp it) oa.1 (hit g) (ze seen g) dW eg,by simp,as2 _,by simp,λbN az rH=>?_⟩))⟩
 have ext:∀(vs:List Q) (eM:Bool) (az:Y) (K:ah→Y→Prop),vs[0]?=some (.bool eM)→K ((t2,.bool eM)::(t1,.cI vs)::fI g) az→fD G #[hI,fW] ⟨false,[],[]⟩ [] [1] ((fI g).put hI.dst (.cI vs)) az K:=λvs eM az K aa h8=>by
  refine⟨fW,rfl,.inr (.inl ⟨by simp only[jm,k1.2.2],by simp,[],[],.bool eM,az,as3 _ _ _,by simp,by simp,bK.extract (x:=.tmp t1) k1.1 (by rw[oa.2.1];show ah.get _ _=_;rw[ah.put,asI,if_pos rfl]) aa,?_⟩)⟩;rw[oa.2.1,k1.2.1];exact h8
 rcases rH with⟨hy,rfl,rfl⟩|⟨e,hy,rfl,rfl⟩
 ·refine ext _ false _ _ rfl ?_
  have ny:∀i,i∈p↔i<l.length:=λi=>⟨dM i,λbL=>by
   have xx:i<es.size:=by omega
   refine(eH i es[i] (Array.getElem?_eq_getElem xx)).1 ?_;by_cases af:seen.contains es[i].born=true
   ·exact af
   ·exfalso;have:es[i]∈leftOf es seen:=by
     unfold leftOf;rw[Array.mem_filter];exact⟨Array.getElem_mem xx,by simpa using af⟩
    have:leftOf es seen≠#[]:=λe=>by rw[e]at this;simp at this
    exact this (Array.eq_empty_of_size_eq_zero hy)⟩
  have aC:(jK l p).Perm l:=by
   have:=(Ib cQ ny).filterMap λi=>l[i]?;have e2:=Iy l;unfold jK at e2 ⊢
   rwa [e2]at this
  have bu:g=r:=by
   have:=m1 _ aC;rw[m2,i6]at this;exact Option.some.inj this
  subst bu;refine A.seq (A.cond (b:=false) xk (λh=>by cases h) λ_=>A.exit ?_);exact cL seen
 ·refine ext _ true _ _ rfl ?_;rw[ig seen g];obtain⟨dK,fS⟩:=mem_left hy;obtain⟨i,hE⟩:=List.getElem?_of_mem dK;have hE:es[i]?=some e:=by simpa using hE
  have yY:i<l.length:=by have:=(Array.getElem?_eq_some_iff.1 hE).1;omega
  have mX:i∉p:=λh=>by
   have:=(eH i e hE).2 h;rw[fS]at this;cases this
  have A6:l[i]?=some (l[i].1,l[i].2):=List.getElem?_eq_getElem yY;have fR:(p++[i]).Nodup:=by
   rw[nodup_append];exact⟨cQ,by simp,λa ay c af=>by simp only[List.mem_singleton]at af;subst af;exact λe=>mX (e▸ay)⟩
  have vR:∀j∈p++[i],j<l.length:=λj aT=>by
   rcases List.mem_append.1 aT with aT|aT
   ·exact dM j aT
   ·rw[List.mem_singleton.1 aT];exact yY
  have yV:∃ih,B l[i].1 l[i].2 g=some ih∧mg B (jK l (p++[i])) lV=some ih:=by
   have aJ:jK l (p++[i])=jK l p++[(l[i].1,l[i].2)]:=by
    unfold jK;rw[List.filterMap_append];simp[filterMap_cons,List.getElem?_eq_getElem yY]
   have e2:mg B (jK l (p++[i])) lV=B l[i].1 l[i].2 g:=by
    rw[aJ,M2,i6];simp only[Option.bind_some,mg];cases B l[i].1 l[i].2 g<;>rfl
   have full:(p++[i]++(List.range l.length).filter λj=>!(p++[i]).contains j).Perm (List.range l.length):=by
    refine Ib ?_ λj=>?_
    ·rw[nodup_append];refine⟨fR,nodup_range.filter _,λa ay c af e=>?_⟩;subst e;have:=(List.mem_filter.1 af).2;simp only[Bool.not_eq_true',List.contains_eq_mem,decide_eq_false_iff_not]at this;exact this ay
    ·rw[List.mem_append,List.mem_filter,List.mem_range];constructor
     ·rintro(h|h)
      ·exact vR j h
      ·exact h.1
     ·intro h;by_cases aT:j∈p++[i]
      ·exact .inl aT
      ·exact .inr ⟨h,by simpa using aT⟩
   have uU:=full.filterMap λi=>l[i]?;have dm:=Iy l;unfold jK at dm;rw[dm,List.filterMap_append]at uU;have aj:=m1 _ uU;rw[m2,M2]at aj;cases bm:mg B (jK l (p++[i])) lV with
   |none=>unfold jK at bm;rw[bm]at aj;cases aj
   |some ih=>exact⟨ih,by rw[←e2];exact bm,rfl⟩
  obtain⟨ih,hn,jl⟩:=yV;refine A.seq (A.cond (b:=true) uM (λ_=>A.skip ?_) λh=>by cases h);refine(body seen e i l[i].1 l[i].2 g ih hE A6 hi hn).mono λex gy az bV=>?_;cases ex with
  |normal=>
   refine⟨(seen.push e.born,ih),⟨aka _ _ _ _ hn hi,p++[i],fR,vR,λj cB aT=>?_,jl⟩,left_shrinks es seen e hy,bV⟩;rw[contains_push,Bool.or_eq_true,beq_iff_eq,eH j cB aT,List.mem_append,List.mem_singleton];constructor
   ·rintro(h|h)
    ·exact .inl h
    ·right;have pL:es.toList[j]?=some cB:=by simpa using aT
     have rK:es.toList[i]?=some e:=by simpa using hE
     have nB:=(List.getElem?_eq_some_iff.1 pL).1;have xu:=(List.getElem?_eq_some_iff.1 rK).1;have cp:=(List.getElem?_eq_some_iff.1 pL).2;have cG:=(List.getElem?_eq_some_iff.1 rK).2;have pw:=pairwise_iff_getElem.1 f2;rcases Nat.lt_trichotomy j i with q|q|q
     ·refine absurd ?_ (pw j i (by simpa using nB) (by simpa using xu) q);rw[List.getElem_map,List.getElem_map,cp,cG,h]
     ·exact q
     ·refine absurd ?_ (pw i j (by simpa using xu) (by simpa using nB) q);rw[List.getElem_map,List.getElem_map,cp,cG,h]
   ·rintro(h|h)
    ·exact .inl h
    ·subst h;rw[aT]at hE;cases hE;exact .inr rfl
  |exit id=>exact bV
  |goto l=>exact bV
  |ret=>exact bV
  |panic c=>exact bV
  |outgrown=>exact bV
end
end
section
def l3{α:Type}(e:jS α)(l:List α):Q:=.bf false (ax e l)
variable {α:Type}
def aob(e:jS α)(I:bs):bc I (l3 e []) (.slice none 0 0):=by
 simp only[l3,ax,map_nil,bc];exact⟨none,0,rfl,by simp,by simp[maxLen],by simp,.inl trivial⟩
variable {E:Nat}
def Xh{P:Program}(e:jS α)(h:∀w,(zeroValue E).run P w=.ok (.slice none 0 0) w):∀w,∃v,(zeroValue E).run P w=.ok v w∧∀I,bc I (l3 e []) v:=λw=>⟨_,h w,aob e⟩
variable {k:IntKind}
def ux{P:Program}(h:∀w,(zeroValue E).run P w=.ok (.int k 0) w):∀w,∃v,(zeroValue E).run P w=.ok v w∧∀I,bc I (c0 k 0) v:=λw=>⟨_,h w,λI=>by simp[c0,bc]⟩
section
variable {P:Program}
def II{α:Type}(bn fE e4 aV sz e2 t:Nat)(k:IntKind)(l:List (Int×List α))(n:Int)(enc:α→List Q)(ids:dg)(op:Op)(env:ah)(σ:Y):Option (c7×cZ):=match op with
 |.lookup T x y false=>(match env.cW x with
  |some (.dr d)=>(match env.cW y with
   |some (.int dS iE)=>(match σ.get d with
    |some (.fc K E e keys none iK)=>(match σ.get e with
     |some (.b9 cU)=>bif Nat.beq T bn&&Nat.beq K fE&&Nat.beq E e4&&(σ.get t).isNone&&(σ.get e2).isNone&&!Nat.beq t e2&&!ids.contains t&&!ids.contains e2&&σ.clean [t,e2].contains then
       some (.e [d,e,e2,t] [t,e2] (.own t) ((t,.slice aV sz (((aD l n).getD []).map enc) 0 false)::(e2,.b9 (hh aV sz enc (lK l n)))::(d,.fc K E e2 (e8 k l) (oe l n t) iK)::σ.minus [d,e]),([.int dS iE,.agg keys],[(1,.b9 cU)]))else none
     |_=>none)
    |_=>none)
   |_=>none)
  |_=>none)
 |_=>none
def ado{α:Type}{bn fE e4 aV sz e2 t:Nat}{k:IntKind}{l:List (Int×List α)}{n:Int}{enc:α→List Q}(aQ:kF P bn fE e4 k)(hz:∀w,(zeroValue e4).run P w=.ok (.slice none 0 0) w){o:Oper}{N:Nat}{ids:dg}{env:ah}{σ:Y}{s:c7}{aX:cZ}
  (h:II bn fE e4 aV sz e2 t k l n enc ids o.op env σ=some (s,aX)) (he:aX=([.int k n,.agg (e8 k l)],[(1,.b9 (hh aV sz enc l))])):fP ⟨P,N,ids⟩ o env σ s:=by
 cases ai:o.op<;>rw[ai]at h
 case lookup T x y ok=>
  cases ok with
  |true=>cases h
  |false=>
   simp only[II]at h;split at h
   ·rename_i d u;split at h
    ·rename_i dS iE ag;split at h
     ·rename_i K E e keys iK Z;split at h
      ·rename_i cU U;generalize af:(Nat.beq T bn&&_&&_&&_&&_&&_&&_&&_&&_)=eM at h;cases eM with
       |false=>cases h
       |true=>
        simp only[Bool.and_eq_true,Bool.not_eq_true']at af;obtain⟨⟨⟨⟨⟨⟨⟨⟨bl,b2⟩,c9⟩,e3⟩,gm⟩,hT⟩,jc⟩,kN⟩,kX⟩:=af;have:=Nat.eq_of_beq_eq_true bl;subst this;have:=Nat.eq_of_beq_eq_true b2;subst this;have:=Nat.eq_of_beq_eq_true c9;subst this;cases h;simp only[Prod.mk.injEq,List.cons.injEq,Q.int.injEq,Q.agg.injEq,cc.b9.injEq,and_true,true_and]at he;obtain⟨⟨⟨rfl,rfl⟩,rfl⟩,rfl⟩:=he;refine⟨auG l enc ai (asv u) (asv ag) Z U aQ hz (by simpa using e3) (by simpa using gm) (λe=>?_) jc kN kX,?_⟩
        ·subst e;rw[Nat.beq_refl]at hT;cases hT
        ·simp only[all_cons,all_nil,jc,kN];rfl
      ·cases h
     ·cases h
    ·cases h
   ·cases h
 all_goals (simp only[II]at h;cases h)
def D2{α:Type}{bn fE e4:Nat}{k:IntKind}(aV sz e2 t:Nat)(l:List (Int×List α))(n:Int)(enc:α→List Q)(aQ:kF P bn fE e4 k)(hz:∀w,(zeroValue e4).run P w=.ok (.slice none 0 0) w):Hint P:=
 .gs true ([.int k n,.agg (e8 k l)],[(1,.b9 (hh aV sz enc l))]) (II bn fE e4 aV sz e2 t k l n enc) λ_ _ _ _ _ _ _ h he=>ado aQ hz h he
def Tz(env:ah)(σ:Y)(aV sz:Nat)(z:Operand):Option (dg×List (List Q)):=match env.cW z with
 |some .c4=>some ([],[])
 |some (.own j)=>(match σ.get j with
  |some (.slice ll Ca xs 0 _)=>bif Nat.beq ll aV&&Nat.beq Ca sz then some ([j],xs)else none
  |_=>none)
 |_=>none
def ER{α:Type}(bn fE e4 aV sz e2:Nat)(k:IntKind)(gV:List (Int×List α))(enc:α→List Q)(ids:dg)(T:Nat)(x y z:Operand)(env:ah)(σ:Y):Option (c7×cZ×Option (ku×Nat)):=match env.cW x with
  |some (.dr d)=>(match env.cW y with
   |some (.int dS iE)=>(match σ.get d with
    |some (.fc K E e keys du iK)=>(match σ.get e with
     |some (.b9 cU)=>(match Tz env σ aV sz z with
      |some (lR,xs)=>bif Nat.beq T bn&&Nat.beq K fE&&Nat.beq E e4&&(σ.get e2).isNone&&!ids.contains e2&&σ.clean [e2].contains then
       some (.e (d::e::e2::lR) [e2] .undef ((e2,.b9 (hh aV sz enc gV))::(d,.fc K E e2 (e8 k gV) none none)::σ.minus (d::e::lR)),([.int dS iE,.agg keys,.bf false xs],[(1,.b9 cU)]),du)else none
      |none=>none)
     |_=>none)
    |_=>none)
   |_=>none)
  |_=>none
def ael{α:Type}{bn fE e4 aV sz e2:Nat}{k:IntKind}{ks:List Q}{l gV:List (Int×List α)}{n:Int}{enc:α→List Q}{row:List α}(aQ:kF P bn fE e4 k){o:Oper}{N:Nat}{ids:dg}{env:ah}{σ:Y}{s:c7}{aX:cZ}{du:Option (ku×Nat)}{T:Nat}{x y z:Operand}
  (ai:o.op=.mapUpdate T x y z∨o.op=.insert T x y z) (h:ER bn fE e4 aV sz e2 k gV enc ids T x y z env σ=some (s,aX,du)) (he:aX=([.int k n,.agg ks,.bf false (row.map enc)],[(1,.b9 (hh aV sz enc l))])) (y3:e8 k l=ks) (y4:bG l n row=gV) (cA:du=none∨∃t,du=oe l n t) (iz:row.map enc=[]→row=[]):fP ⟨P,N,ids⟩ o env σ s:=by
 subst y3 y4;simp only[ER]at h;split at h
 ·rename_i d u;split at h
  ·rename_i dS iE ag;split at h
   ·rename_i K E e keys aqF iK Z;split at h
    ·rename_i cU U;split at h
     ·rename_i lR xs aB;generalize af:(Nat.beq T bn&&_&&_&&_&&_&&_)=eM at h;cases eM with
      |false=>cases h
      |true=>
       simp only[Bool.and_eq_true,Bool.not_eq_true']at af;obtain⟨⟨⟨⟨⟨bl,b2⟩,c9⟩,e3⟩,gm⟩,hT⟩:=af;have:=Nat.eq_of_beq_eq_true bl;subst this;have:=Nat.eq_of_beq_eq_true b2;subst this;have:=Nat.eq_of_beq_eq_true c9;subst this;cases h;simp only[Prod.mk.injEq,List.cons.injEq,Q.int.injEq,Q.agg.injEq,Q.bf.injEq,cc.b9.injEq,and_true,true_and]at he;obtain⟨⟨⟨rfl,rfl⟩,rfl,rfl⟩,rfl⟩:=he;simp only[Tz]at aB;split at aB
       ·rename_i hz;simp only[Option.some.injEq,Prod.mk.injEq]at aB;obtain⟨rfl,aB⟩:=aB;exact⟨atN (c5:=false) [] l enc row ai (asv u) (asv ag) (.inl ⟨asv hz,iz aB.symm,rfl⟩) Z cA U aQ (by simpa using e3) gm hT,by simp only[all_cons,all_nil,gm];rfl⟩
       ·rename_i j hz;split at aB
        ·rename_i ll Ca l6 c5 aT;cases bV:(Nat.beq ll aV&&Nat.beq Ca sz)with
         |false=>rw[bV]at aB;cases aB
         |true=>
          rw[bV]at aB;simp only[cond_true,Option.some.injEq,Prod.mk.injEq]at aB;obtain⟨rfl,rfl⟩:=aB;simp only[Bool.and_eq_true]at bV;have:=Nat.eq_of_beq_eq_true bV.1;subst this;have:=Nat.eq_of_beq_eq_true bV.2;subst this;exact⟨atN (c5:=c5) [j] l enc row ai (asv u) (asv ag) (.inr ⟨j,asv hz,aT,rfl⟩) Z cA U aQ (by simpa using e3) gm hT,by simp only[all_cons,all_nil,gm];rfl⟩
        ·cases aB
       ·cases aB
     ·cases h
    ·cases h
   ·cases h
  ·cases h
 ·cases h
def uh:Option (ku×Nat)→Q
 |none=>.e9
 |some (none,t)=>.own t
 |some (some i,t)=>.ptr t i
def aap:∀{a b:Option (ku×Nat)},uh a=uh b→a=b
 |none,none,_=>rfl
 |some (none,t),some (none,aA),h=>by simp only[uh,Q.own.injEq]at h;rw[h]
 |some (some i,t),some (some j,aA),h=>by simp only[uh,Q.ptr.injEq]at h;rw[h.1,h.2]
 |none,some (none,_),h|none,some (some _,_),h|some (none,_),none,h|some (some _,_),none,h|some (none,_),some (some _,_),h|some (some _,_),some (none,_),h=>by simp[uh]at h
def BU{α:Type}(bn fE e4 aV sz e2:Nat)(k:IntKind)(gV:List (Int×List α))(enc:α→List Q)(ids:dg)(op:Op)(env:ah)(σ:Y):Option (c7×cZ):=match op with
 |.mapUpdate T x y z=>(match ER bn fE e4 aV sz e2 k gV enc ids T x y z env σ with|some (s,aX,du)=>some (s,(uh du::aX.1,aX.2))|none=>none)
 |.insert T x y z=>(match ER bn fE e4 aV sz e2 k gV enc ids T x y z env σ with|some (s,aX,du)=>some (s,(uh du::aX.1,aX.2))|none=>none)
 |_=>none
def R1{α:Type}{bn fE e4 aV sz e2:Nat}{k:IntKind}{ks:List Q}{l gV:List (Int×List α)}{n:Int}{enc:α→List Q}{row:List α}{aa:Option (ku×Nat)}(aQ:kF P bn fE e4 k)(y3:e8 k l=ks)(y4:bG l n row=gV)(cA:aa=none∨∃t,aa=oe l n t){o:Oper}{N:Nat}{ids:dg}{env:ah}{σ:Y}{s:c7}{aX:cZ}
  (h:BU bn fE e4 aV sz e2 k gV enc ids o.op env σ=some (s,aX)) (he:aX=([uh aa,.int k n,.agg ks,.bf false (row.map enc)],[(1,.b9 (hh aV sz enc l))])):fP ⟨P,N,ids⟩ o env σ s:=by
 have iz:row.map enc=[]→row=[]:=λh=>map_eq_nil_iff.1 h;have key:∀{T:Nat} {x y z:Operand} (du:Option (ku×Nat)) (r9:cZ),(o.op=.mapUpdate T x y z∨o.op=.insert T x y z)→ER bn fE e4 aV sz e2 k gV enc ids T x y z env σ=some (s,r9,du)→aX=(uh du::r9.1,r9.2)→fP ⟨P,N,ids⟩ o env σ s:=by
  intro T x y z du r9 ai D aj;rw[aj]at he;simp only[Prod.mk.injEq,List.cons.injEq]at he;obtain⟨⟨aJ,vJ⟩,dm⟩:=he;refine ael aQ ai D (Prod.ext vJ dm) y3 y4 ?_ iz;rw[aap aJ];exact cA
 cases ai:o.op<;>rw[ai]at h
 case mapUpdate T x y z=>
  simp only[BU]at h;split at h
  ·rename_i cO r9 du D;cases h;exact key du r9 (.inl ai) D rfl
  ·cases h
 case insert T x y z=>
  simp only[BU]at h;split at h
  ·rename_i cO r9 du D;cases h;exact key du r9 (.inr ai) D rfl
  ·cases h
 all_goals (simp only[BU]at h;cases h)
def GY{α:Type}{bn fE e4:Nat}{k:IntKind}(aV sz e2:Nat)(l:List (Int×List α))(n:Int)(enc:α→List Q)(row:List α)(aQ:kF P bn fE e4 k):Hint P:=
 .gs true ([uh none,.int k n,.agg (e8 k l),.bf false (row.map enc)],[(1,.b9 (hh aV sz enc l))]) (BU bn fE e4 aV sz e2 k (bG l n row) enc) λ_ _ _ _ _ _ _ h he=>R1 aQ rfl rfl (.inl rfl) h he
def Ga{α:Type}{bn fE e4:Nat}{k:IntKind}(aV sz e2:Nat)(l:List (Int×List α))(n:Int)(enc:α→List Q)(row:List α)(t:Nat)(aQ:kF P bn fE e4 k):Hint P:=
 .gs true ([uh (oe l n t),.int k n,.agg (e8 k l),.bf false (row.map enc)],[(1,.b9 (hh aV sz enc (lK l n)))]) (BU bn fE e4 aV sz e2 k (bG l n row) enc) λ_ _ _ _ _ _ _ h he=>R1 aQ (PO k l n) (Qo l n row) (.inr ⟨t,(YX l n t).symm⟩) h he
def HA{α:Type}(bn:Nat)(k:IntKind)(l:List (Int×α))(n:Int)(enc:α→Q)(z:α)(op:Op)(env:ah)(σ:Y):Option (c7×cZ):=match op with
 |.lookup T x y ok=>(match env.cW x with
  |some (.dw bH)=>(match env.cW y with
   |some (.int dS iE)=>bif Nat.beq T bn then some (.y [] (bif ok then .cI [enc ((aD l n).getD z),.bool (aD l n).isSome]else enc ((aD l n).getD z)),([.dw bH,.int dS iE],[]))else none
   |_=>none)
  |some (.dr d)=>(match env.cW y with
   |some (.int dS iE)=>(match σ.get d with
    |some (.gz es clock K E bH)=>bif Nat.beq T bn then some (.y [d] (bif ok then .cI [enc ((aD l n).getD z),.bool (aD l n).isSome]else enc ((aD l n).getD z)),([.dw bH,.int dS iE],[]))else none
    |_=>none)
   |_=>none)
  |_=>none)
 |_=>none
def atV{G:ch}{o:Oper}{ev:Operand→Q}{σ:Y}{α:Type}{T K E lQ ss d:Nat}{es:iT}{clock:Nat}{k:IntKind}{x y:Operand}{ok:Bool}{n:Int}(l:List (Int×α))(enc:α→Q)(z:α)(h:o.op=.lookup T x y ok)(u:ev x=.dr d)(ag:ev y=.int k n)(Z:σ.get d=some (.gz es clock lQ ss (bQ k enc l)))
  (aQ:kF G.P T K E k) (hz:∀w,∃v,(zeroValue E).run G.P w=.ok v w∧∀I,bc I (enc z) v) :
  Yields G o ev σ [] [d] (bif ok then .cI [enc ((aD l n).getD z),.bool (aD l n).isSome]else enc ((aD l n).getD z)):=
 .pure λaz cx I β w aZ cf an hop=>by
  have h1:=hop x (by simp[h,Op.operands]);rw[u]at h1
  have D:=hop y (by simp[h,Op.operands]);rw[ag]at D;have D:=jW D
  exact Np l enc z h (ZL an (by rw[cf d (by simp)];exact Z) h1) D aQ hz
def aem{α:Type}{bn fE e4:Nat}{k:IntKind}{l:List (Int×α)}{n:Int}{enc:α→Q}{z:α}(aQ:kF P bn fE e4 k)(hz:∀w,∃v,(zeroValue e4).run P w=.ok v w∧∀I,bc I (enc z) v){o:Oper}{N:Nat}{ids:dg}{env:ah}{σ:Y}{s:c7}{aX:cZ}
  (h:HA bn k l n enc z o.op env σ=some (s,aX)) (he:aX=([.dw (bQ k enc l),.int k n],[])):fP ⟨P,N,ids⟩ o env σ s:=by
 cases ai:o.op<;>rw[ai]at h
 case lookup T x y ok=>
  simp only[HA]at h;split at h
  ·rename_i bH u;split at h
   ·rename_i dS iE ag;cases U:Nat.beq T bn with
    |false=>rw[U]at h;cases h
    |true=>
     rw[U]at h;have:=Nat.eq_of_beq_eq_true U;subst this;cases h;simp only[Prod.mk.injEq,List.cons.injEq,Q.int.injEq,Q.dw.injEq,and_true]at he;obtain⟨rfl,rfl,rfl⟩:=he;exact atU l enc z ai (asv u) (asv ag) aQ hz
   ·cases h
  ·rename_i d u;split at h
   ·rename_i dS iE ag;split at h
    ·rename_i es clock K E bH Z;cases U:Nat.beq T bn with
     |false=>rw[U]at h;cases h
     |true=>
      rw[U]at h;have:=Nat.eq_of_beq_eq_true U;subst this;cases h;simp only[Prod.mk.injEq,List.cons.injEq,Q.int.injEq,Q.dw.injEq,and_true]at he;obtain⟨rfl,rfl,rfl⟩:=he;exact atV l enc z ai (asv u) (asv ag) Z aQ hz
    ·cases h
   ·cases h
  ·cases h
 all_goals (simp only[HA]at h;cases h)
def oF{α:Type}{bn fE e4:Nat}{k:IntKind}(l:List (Int×α))(n:Int)(enc:α→Q)(z:α)(aQ:kF P bn fE e4 k)(hz:∀w,∃v,(zeroValue e4).run P w=.ok v w∧∀I,bc I (enc z) v):Hint P:=
 .gs false ([.dw (bQ k enc l),.int k n],[]) (λ_=>HA bn k l n enc z) λ_ _ _ _ _ _ _ h he=>aem aQ hz h he
def HQ(bn:Nat)(n:Int)(op:Op)(env:ah)(_:Y):Option (c7×cZ):=match op with
 |.call c=>(match c.callee with
  |.builtin b=>(match b with
   |.len=>(match c.args.toList with
    |[x]=>(match c.argTypes.toList with
     |[T]=>(match env.cW x with
      |some (.dw bH)=>bif Nat.beq T bn then some (.y [] (.int .i64 n),([.dw bH],[]))else none
      |_=>none)
     |_=>none)
    |_=>none)
   |_=>none)
  |_=>none)
 |_=>none
def aen{α:Type}{bn fE e4:Nat}{k:IntKind}{l:List (Int×α)}{enc:α→Q}(aQ:kF P bn fE e4 k){o:Oper}{N:Nat}{ids:dg}{env:ah}{σ:Y}{s:c7}{aX:cZ}
  (h:HQ bn (l.length:Int) o.op env σ=some (s,aX)) (he:aX=([.dw (bQ k enc l)],[])):fP ⟨P,N,ids⟩ o env σ s:=by
 cases ai:o.op<;>rw[ai]at h
 case call c=>
  obtain⟨cl,args,tys⟩:=c;simp only[HQ]at h;split at h
  ·rename_i b;split at h
   ·split at h
    ·rename_i x lX;have:args=#[x]:=Array.toList_inj.1 (by simpa using lX);subst this;split at h
     ·rename_i T An;have:tys=#[T]:=Array.toList_inj.1 (by simpa using An);subst this;split at h
      ·rename_i bH u;cases U:Nat.beq T bn with
       |false=>rw[U]at h;cases h
       |true=>
        rw[U]at h;have:=Nat.eq_of_beq_eq_true U;subst this;cases h;simp only[Prod.mk.injEq,List.cons.injEq,Q.dw.injEq,and_true]at he;subst he;exact at7 l enc ai rfl (asv u) aQ.gY
      ·cases h
     ·cases h
    ·cases h
   ·cases h
  ·cases h
 all_goals (simp only[HQ]at h;cases h)
def akr{α:Type}{bn fE e4:Nat}{k:IntKind}(l:List (Int×α))(enc:α→Q)(aQ:kF P bn fE e4 k):Hint P:=
 .gs false ([.dw (bQ k enc l)],[]) (λ_=>HQ bn (l.length:Int)) λ_ _ _ _ _ _ _ h he=>aen (l:=l) (enc:=enc) aQ h he
def Gu{α:Type}(bn fE:Nat)(k:IntKind)(l:List (Int×α))(n:Int)(enc:α→Q)(op:Op)(env:ah)(σ:Y):Option (c7×cZ):=match op with
 |.call c=>(match c.callee with
  |.builtin b=>(match b with
   |.delete=>(match c.args.toList with
    |[x,y]=>(match c.argTypes.toList with
     |[T,K]=>(match env.cW x with
      |some (.dr d)=>(match env.cW y with
       |some (.int dS iE)=>(match σ.get d with
        |some (.map lQ E bH)=>bif Nat.beq T bn&&Nat.beq K fE&&Nat.beq lQ fE then some (.e [d] [] (.cI []) (σ.set d (.map lQ E (bQ k enc (oK l n)))),([.dw bH,.int dS iE],[(0,.cells E [])]))else none
        |_=>none)
       |_=>none)
      |_=>none)
     |_=>none)
    |_=>none)
   |_=>none)
  |_=>none)
 |_=>none
def aeo{α:Type}{bn fE e4:Nat}{k:IntKind}{l:List (Int×α)}{n:Int}{enc:α→Q}(aQ:kF P bn fE e4 k){o:Oper}{N:Nat}{ids:dg}{env:ah}{σ:Y}{s:c7}{aX:cZ}
  (h:Gu bn fE k l n enc o.op env σ=some (s,aX)) (he:aX=([.dw (bQ k enc l),.int k n],[(0,.cells e4 [])])):fP ⟨P,N,ids⟩ o env σ s:=by
 cases ai:o.op<;>rw[ai]at h
 case call c=>
  obtain⟨cl,args,tys⟩:=c;simp only[Gu]at h;split at h
  ·rename_i b;split at h
   ·split at h
    ·rename_i x y lX;have:args=#[x,y]:=Array.toList_inj.1 (by simpa using lX);subst this;split at h
     ·rename_i T K An;have:tys=#[T,K]:=Array.toList_inj.1 (by simpa using An);subst this;split at h
      ·rename_i d u;split at h
       ·rename_i dS iE ag;split at h
        ·rename_i lQ E bH Z;cases U:(Nat.beq T bn&&Nat.beq K fE&&Nat.beq lQ fE)with
         |false=>rw[U]at h;cases h
         |true=>
          rw[U]at h;simp only[Bool.and_eq_true]at U;obtain⟨⟨dO,ep⟩,hg⟩:=U;have:=Nat.eq_of_beq_eq_true dO;subst this;have:=Nat.eq_of_beq_eq_true ep;subst this;have:=Nat.eq_of_beq_eq_true hg;subst this;cases h;simp only[Prod.mk.injEq,List.cons.injEq,Q.int.injEq,Q.dw.injEq,cc.cells.injEq,and_true,true_and]at he;obtain⟨⟨rfl,rfl,rfl⟩,rfl⟩:=he;exact⟨au9 l enc ai (asv u) (asv ag) Z aQ,rfl⟩
        ·cases h
       ·cases h
      ·cases h
     ·cases h
    ·cases h
   ·cases h
  ·cases h
 all_goals (simp only[Gu]at h;cases h)
def js{α:Type}{bn fE e4:Nat}{k:IntKind}(l:List (Int×α))(n:Int)(enc:α→Q)(aQ:kF P bn fE e4 k):Hint P:=
 .gs true ([.dw (bQ k enc l),.int k n],[(0,.cells e4 [])]) (λ_=>Gu bn fE k l n enc) λ_ _ _ _ _ _ _ h he=>aeo aQ h he
def Ik(bn b5:Nat)(es:iT)(clock:Nat)(ids:dg)(op:Op)(env:ah)(σ:Y):Option (c7×cZ):=match op with
 |.range T x=>(match env.cW x with
  |some (.dr cz)=>(match σ.get cz with
   |some jJ=>(match jJ.xJ with
    |some (hO,pE)=>bif Nat.beq T bn&&!ids.contains b5&&σ.clean [b5].contains then some (.e [b5] [b5] (.ptr b5 0) ((b5,.iter cz clock clock #[])::σ),([],[(0,.gz hO pE 0 0 [])]))else none
    |_=>none)
   |_=>none)
  |_=>none)
 |_=>none
def aep{bn fE e4 b5 clock:Nat}{k:IntKind}{es:iT}(aQ:kF P bn fE e4 k){o:Oper}{N:Nat}{ids:dg}{env:ah}{σ:Y}{s:c7}{aX:cZ}
  (h:Ik bn b5 es clock ids o.op env σ=some (s,aX)) (he:aX=([],[(0,.gz es clock 0 0 [])])):fP ⟨P,N,ids⟩ o env σ s:=by
 cases ai:o.op<;>rw[ai]at h
 case range T x=>
  simp only[Ik]at h;split at h
  ·rename_i cz u;split at h
   ·rename_i jJ Z;split at h
    ·rename_i hO pE aH;cases U:(Nat.beq T bn&&!ids.contains b5&&σ.clean [b5].contains)with
     |false=>rw[U]at h;cases h
     |true=>
      rw[U]at h;simp only[Bool.and_eq_true,Bool.not_eq_true']at U;obtain⟨⟨dO,ep⟩,hg⟩:=U;have:=Nat.eq_of_beq_eq_true dO;subst this;cases h;simp only[Prod.mk.injEq,List.cons.injEq,cc.gz.injEq,and_true,true_and]at he;obtain⟨rfl,rfl⟩:=he;exact⟨ej.range ai (asv u) Z aH aQ.gY ep hg,by simp only[all_cons,all_nil,ep];rfl⟩
    ·cases h
   ·cases h
  ·cases h
 all_goals (simp only[Ik]at h;cases h)
def Ma{bn fE e4:Nat}{k:IntKind}(b5:Nat)(es:iT)(clock:Nat)(aQ:kF P bn fE e4 k):Hint P:=
 .gs true ([],[(0,.gz es clock 0 0 [])]) (Ik bn b5 es clock) λ_ _ _ _ _ _ _ h he=>aep aQ h he
def xb(b5 cz:Nat)(a:Q)(rows:Bool)(op:Op)(env:ah)(σ:Y):Option (c7×cZ):=match op with
 |.entry x=>(match env.cW x with
  |some (.ptr uG 0)=>(match σ.get b5 with
   |some HU=>(match σ.get cz with
    |some (.gz es c K E bH)=>bif Nat.beq uG b5&&!rows then some (.y [b5,cz] a,([.dw bH],[(0,HU),(1,.gz es c 0 0 [])]))else none
    |some (.fc K E e keys du (some (es,c)))=>bif Nat.beq uG b5&&rows then some (.y [b5,cz] a,([.agg keys],[(0,HU),(1,.gz es c 0 0 [])]))else none
    |_=>none)
   |_=>none)
  |_=>none)
 |_=>none
def aeq{α:Type}{b5 cz clock i:Nat}{k:IntKind}{es:iT}{seen:oA}{e:MapEntry}{n:Int}{v:α}{l:List (Int×α)}{enc:α→Q}(iP:es[i]?=some e)(aH:l[i]?=some (n,v)){o:Oper}{N:Nat}{ids:dg}{env:ah}{σ:Y}{s:c7}{aX:cZ}
  (h:xb b5 cz (.cI [.int k n,enc v]) false o.op env σ=some (s,aX)) (he:aX=([.dw (bQ k enc l)],[(0,.iter cz clock clock (seen.push e.born)),(1,.gz es clock 0 0 [])])):fP ⟨P,N,ids⟩ o env σ s:=by
 cases ai:o.op<;>rw[ai]at h
 case entry x=>
  simp only[xb]at h;split at h
  ·rename_i uG u;split at h
   ·rename_i HU h1;split at h
    ·rename_i hO c K E bH Z;cases U:Nat.beq uG b5 with
     |false=>rw[U]at h;cases h
     |true=>
      rw[U]at h;have:=Nat.eq_of_beq_eq_true U;subst this;cases h;simp only[Prod.mk.injEq,List.cons.injEq,Q.dw.injEq,cc.gz.injEq,and_true,true_and]at he;obtain⟨rfl,rfl,rfl,rfl⟩:=he;exact at4 l enc ai (asv u) h1 Z iP aH
    ·rename_i K E e keys du hO c Z;simp only[Bool.and_false,cond_false]at h;cases h
    ·cases h
   ·cases h
  ·cases h
 all_goals (simp only[xb]at h;cases h)
def A4{α:Type}{es:iT}{i:Nat}{e:MapEntry}{n:Int}{v:α}{l:List (Int×α)}(b5 cz clock:Nat)(k:IntKind)(seen:oA)(enc:α→Q)(iP:es[i]?=some e)(aH:l[i]?=some (n,v)):Hint P:=
 .gs false ([.dw (bQ k enc l)],[(0,.iter cz clock clock (seen.push e.born)),(1,.gz es clock 0 0 [])]) (λ_=>xb b5 cz (.cI [.int k n,enc v]) false) λ_ _ _ _ _ _ _ h he=>aeq iP aH h he
def aer{α:Type}{b5 cz clock i:Nat}{k:IntKind}{es:iT}{seen:oA}{e:MapEntry}{n:Int}{l:List (Int×α)}(iP:es[i]?=some e)(aH:(l.map (·.1))[i]?=some n){o:Oper}{N:Nat}{ids:dg}{env:ah}{σ:Y}{s:c7}{aX:cZ}
  (h:xb b5 cz (.cI [.int k n,.e9]) true o.op env σ=some (s,aX)) (he:aX=([.agg (e8 k l)],[(0,.iter cz clock clock (seen.push e.born)),(1,.gz es clock 0 0 [])])):fP ⟨P,N,ids⟩ o env σ s:=by
 cases ai:o.op<;>rw[ai]at h
 case entry x=>
  simp only[xb]at h;split at h
  ·rename_i uG u;split at h
   ·rename_i HU h1;split at h
    ·rename_i hO c K E bH Z;simp only[Bool.not_true,Bool.and_false,cond_false]at h;cases h
    ·rename_i K E e keys du hO c Z;cases U:Nat.beq uG b5 with
     |false=>rw[U]at h;cases h
     |true=>
      rw[U]at h;have:=Nat.eq_of_beq_eq_true U;subst this;cases h;simp only[Prod.mk.injEq,List.cons.injEq,Q.agg.injEq,cc.gz.injEq,and_true,true_and]at he;obtain⟨rfl,rfl,rfl,rfl⟩:=he;exact at5 l ai (asv u) h1 Z iP aH
    ·cases h
   ·cases h
  ·cases h
 all_goals (simp only[xb]at h;cases h)
def ajT{α:Type}{es:iT}{i:Nat}{e:MapEntry}{n:Int}{l:List (Int×α)}(b5 cz clock:Nat)(k:IntKind)(seen:oA)(iP:es[i]?=some e)(aH:(l.map (·.1))[i]?=some n):Hint P:=
 .gs false ([.agg (e8 k l)],[(0,.iter cz clock clock (seen.push e.born)),(1,.gz es clock 0 0 [])]) (λ_=>xb b5 cz (.cI [.int k n,.e9]) true) λ_ _ _ _ _ _ _ h he=>aer iP aH h he
end
variable {G:ch}{I:bs}{K clock cz:Nat}{cx:eW}{es:iT}{l:List (Int×α)}{w:World}{β:Nat→Value}{σ:Y}
def ale{enc:α→Q}(an:bY G cx I β σ w)(Z:σ.get cz=some (.gz es clock K E (bQ k enc l)))(aR:β cz≠.nilFunc):es.size=l.length:=by
 have ai:=an.cw cz _ Z;simp only[aY,aR,false_or]at ai;obtain⟨r,ak,ar,aM,_⟩:=ai;have:=Nb _ _ aM;simpa [bQ]using this
variable {Et:List (Int×α)}
def KB{e:Nat}{du:Option (ku×Nat)}(an:bY G cx I β σ w)(Z:σ.get cz=some (.fc K E e (e8 k l) du (some (es,clock))))(aR:β cz≠.nilFunc)(aH:l.map (·.1)=Et.map (·.1)):es.size=Et.length:=by
 have ai:=an.cw cz _ Z;simp only[aY,aR,false_or]at ai;obtain⟨r,hO,mR,X,cv,ak,ar,aM,aK,be,bJ,b8,cT,dD⟩:=ai;cases dD _ rfl;have h1:=be.length.2;have D:=congrArg List.length aH;simp[e8]at h1 D;omega
def NR{α:Type}:∀{l:List (Int×α)} {n:Int} (v:α),(aD l n).isSome=true→(bG l n v).map (·.1)=l.map (·.1)
 |[],_,_,h=>by simp[aD]at h
 |p::r,n,v,h=>by
  rw[jN]at h;by_cases aC:p.1=n
  ·simp[bG,aC]
  ·rw[if_neg aC]at h;simp[bG,aC,NR v h]
def aes{i:Nat}{n:Int}{v:α}(h:l.map (·.1)=Et.map (·.1))(aH:Et[i]?=some (n,v)):(l.map (·.1))[i]?=some n:=by rw[h];simp[aH]
end
section
section
variable {G:ch}{σ:Y}{o:Oper}{ev:Operand→Q}
def YZ{P:Program}{E:TypeId}{i:TypeInfo}{z Jp:Value}{w:World}(hi:P.info? E=some i)(hz:i.zero=some z)(h:(zeroValue E).run P w=.ok Jp w):Jp=z:=by
 simp[zeroValue,typeInfo,hi,hz]at h;exact h.symm
def ej.makeSlice{T E bytes d:Nat}{x y:Operand}{k dS:IntKind}{n:Int}{a:Q}{s8:Value}(h:o.op=.makeSlice T x y)(u:ev x=.int k n)(ag:ev y=.int dS n)(eo:kR G.P T E 1 bytes)(fq:ml G.P T E 1 [s8])(ay:∀I,bc I a s8)(bM:0≤n)(U:n≤4294967296)(xm:bytes≤65536)
  (hi:G.ids.contains d=false) (af:σ.clean [d].contains=true):h5 G o ev σ [d] [d] (λr az=>r=.own d∧az=(d,.slice E 1 (List.replicate n.toNat [a]) 0 false)::σ):=by
 intro cx I β w aZ an hop;have h1:=hop x (by simp[h,Op.operands]);rw[u]at h1;have h1:=jW h1
 have D:=hop y (by simp[h,Op.operands]);rw[ag]at D;have D:=jW D
 obtain⟨i,z,hE,i4,h9,od,u0⟩:=eo.info;obtain⟨Jp,cp,cG⟩:=fq.zero w;have:=YZ hE i4 cp;subst this;have L6:(i.bytes:Int)*n≤281474976710656:=by
  rw[od];have h1:(bytes:Int)*n≤(65536:Int)*4294967296:=Int.mul_le_mul (by omega) U bM (by omega);omega
 have aB:=run_make (P:=G.P) w T E i Jp eo.gY hE i4 k dS n n bM (Int.le_refl _) L6 (by omega);rw[h9,Nat.mul_one,cG]at aB;have eY:(execOp aZ o).run G.P w=.ok (.value (.slice (some ⟨w.heap.size,0,none⟩) n.toNat n.toNat)) (w.alloc (.cells (madeCells #[s8] n.toNat) E)):=by simp[execOp,h,h1,D,aB]
 rw[eY];have aa:=an.qy (dI:=[d]) (σ2:=σ) (env:=[]) ⟨λ_ _=>rfl,by simpa using hi,rfl,af,λx u cz n h=>by have:=(asF af x _ h).1;rw[List.contains_iff_mem.2 u]at this;cases this⟩;have U:∀y,y≠d→g7 (gI β [d]) d (.slice (some ⟨w.heap.size,0,none⟩) n.toNat n.toNat) y=β y:=λy ag=>by rw[g5 _ _ ag];simp[gI,ag]
 have tH:g7 (gI β [d]) d (.slice (some ⟨w.heap.size,0,none⟩) n.toNat n.toNat) d=.slice (some ⟨w.heap.size,0,none⟩) n.toNat n.toNat:=gL _ _ _;refine⟨.own d,_,I,g7 (gI β [d]) d (.slice (some ⟨w.heap.size,0,none⟩) n.toNat n.toNat),⟨rfl,rfl⟩,?_,?_,cn.refl I,λy ag=>U y (by simpa using ag),λy ag=>by rw[asw,if_neg (Ne.symm (by simpa using ag))]⟩
 ·simp only[au,tH,iD,and_self]
 ·refine aa.turn (d:=d) (gK.alloc w _) (.inl an.size) (λx u=>by rw[asw,if_neg (Ne.symm u)]) (λx u X e=>by
    obtain⟨aX,X⟩:=Option.isSome_iff_exists.1 X;exact absurd (aa.sL X e) (by omega)) (cn.refl I) (λ_ _ _=>rfl) (λhx dF ob=>by rw[an.iF (Nat.le_refl _)]at ob;cases ob) (an.iF (Nat.le_refl _) none)
   (λx u=>g5 _ _ u) (.inl (by simpa using hi)) (asV (by simp[gI])) (.inl (by rw[tH];rfl)) λaX cC=>?_
  rw[asw,if_pos rfl]at cC;cases cC;simp only[aY,tH];refine .inr (.inr ⟨w.heap.size,n.toNat,_,by rw[length_replicate],by rw[length_replicate];exact Nat.le_refl _,by simp[maxLen];omega,heap_alloc_new w _,by rw[size_madeCells,Nat.mul_one],?_,λe he=>by rw[List.eq_of_mem_replicate he];rfl,Nat.zero_le _,by simp,λo _=>an.iF (Nat.le_refl _) o,.inl an.size⟩);rw[toList_madeCells_one,length_replicate,Nat.mul_one];have:∀m:Nat,cV I (List.replicate m [a]).flatten (List.replicate m s8):=by
   intro m;induction m with
   |zero=>simp[cV]
   |succ m bg=>
    simp only[List.replicate_succ,flatten_cons,singleton_append,cV];exact⟨_,_,rfl,ay I,bg⟩
  have e:(List.replicate n.toNat s8).take n.toNat=List.replicate n.toNat s8:=by rw[take_of_length_le];simp
  rw[e];exact this _
def aua{T E N sz d off:Nat}{x y:Operand}{k:IntKind}{i:Int}(h:o.op=.indexAddr T x y)(u:ev x=.ptr d off)(ag:ev y=.int k i)(hu:G.P.underlying T=some (.array N E))(X:∀w,(sizeOf E).run G.P w=.ok sz w)(hi:0≤i∧i<N):
  Yields G o ev σ [] [] (.ptr d (off+i.toNat*sz)):=
 .pure λaz cx I β w aZ cf an hop=>by
  have h1:=hop x (by simp[h,Op.operands]);rw[u]at h1
  have D:=hop y (by simp[h,Op.operands]);rw[ag]at D;have D:=jW D
  simp only[au]at h1;obtain⟨b,fA,aj⟩:=h1;have aJ:∀w,(underlying T).run G.P w=.ok (.array N E) w:=λw=>by simp[underlying,program,Sem.run,hu]
  exact⟨.pointer (some ⟨b,off+i.toNat*sz,none⟩),by simp[execOp,h,D,aj,Instr.indexAt,Instr.sureAddr,asIntOf,aJ,hi,X,Addr.add],by simp only[au];exact⟨b,fA,rfl⟩⟩
end
def O9{p sg:Nat→Option (Nat×Nat)}(h:∀i q,p i=some q→sg i=some q):∀(parts:List (Nat×Value)) (cs cL:iY),Instr.fill p cs parts=some cL→Instr.fill sg cs parts=some cL
 |[],cs,cL,e=>e
 |(i,v)::r,cs,cL,e=>by
  simp only[Instr.fill]at e ⊢;cases aC:p i with
  |none=>rw[aC]at e;cases e
  |some q=>
   rw[aC]at e;rw[h i q aC];simp only at e ⊢;split at e
   ·cases e
   ·rename_i af;rw[if_neg af];exact O9 h r _ _ e
def V4(n sz:Nat):List (Nat×Nat):=(List.range n).map λi=>(i*sz,sz)
def Da{P:Program}{T E n sz:Nat}{zs:dZ}(hz:∀w,∃z,(zeroValue T).run P w=.ok z w∧z.cells=zs.toArray)(hu:P.underlying T=some (.array n E))(X:∀w,(sizeOf E).run P w=.ok sz w):kE P T zs (V4 n sz) where
 run:=λparts cells w h=>by
  have b3:Instr.fill (λi=>some (i*sz,sz)) zs.toArray parts.toList=some cells:=O9 (λi q bV=>by
   simp only[V4,List.getElem?_map,Option.map_eq_some_iff]at bV;obtain⟨j,h1,rfl⟩:=bV;obtain⟨D,aj⟩:=List.getElem?_eq_some_iff.1 h1;rw[List.getElem_range]at aj;rw[aj]) _ _ _ h
  have aJ:∀w,(underlying T).run P w=.ok (.array n E) w:=λw=>by simp[underlying,program,Sem.run,hu]
  obtain⟨z,i4,h9⟩:=hz w;unfold Instr.build;simp only[Sem.run_bind,i4,Result.andThen_ok,aJ,X,h9];simp only[b3];rfl
section
variable {P:Program}
def HL{α:Type}(bn d E:Nat)(l4:α)(e:α→List Q)(n:Int)(ids:dg)(op:Op)(env:ah)(σ:Y):Option (c7×cZ):=match op with
 |.makeSlice T x y=>(match env.cW x with
  |some (.int _ hH)=>(match env.cW y with
   |some (.int _ g3)=>bif Nat.beq T bn&&!ids.contains d&&σ.clean [d].contains then some (.e [d] [d] (.own d) ((d,.slice E 1 ((List.replicate n.toNat l4).map e) 0 false)::σ),([.int .i64 hH,.int .i64 g3],[]))else none
   |_=>none)
  |_=>none)
 |_=>none
def aev{α:Type}{bn E bytes d:Nat}{l4:α}{e:α→List Q}{n:Int}{a:Q}{s8:Value}(eo:kR P bn E 1 bytes)(fq:ml P bn E 1 [s8])(lZ:e l4=[a])(ay:∀I,bc I a s8)(bM:0≤n)(U:n≤4294967296)(xm:bytes≤65536){o:Oper}{N:Nat}{ids:dg}{env:ah}{σ:Y}{s:c7}{aX:cZ}
  (h:HL bn d E l4 e n ids o.op env σ=some (s,aX)) (he:aX=([.int .i64 n,.int .i64 n],[])):fP ⟨P,N,ids⟩ o env σ s:=by
 cases ai:o.op<;>rw[ai]at h
 case makeSlice T x y=>
  simp only[HL]at h;split at h
  ·rename_i gv hH u;split at h
   ·rename_i cK g3 ag;cases af:(Nat.beq T bn&&!ids.contains d&&σ.clean [d].contains)with
    |false=>rw[af]at h;cases h
    |true=>
     rw[af]at h;simp only[Bool.and_eq_true,Bool.not_eq_true']at af;obtain⟨⟨dO,ep⟩,hg⟩:=af;have:=Nat.eq_of_beq_eq_true dO;subst this;cases h;simp only[Prod.mk.injEq,List.cons.injEq,Q.int.injEq,and_true,true_and]at he;obtain⟨rfl,rfl⟩:=he;rw[List.map_replicate,lZ];exact⟨ej.makeSlice ai (asv u) (asv ag) eo fq ay bM U xm ep hg,by simp only[all_cons,all_nil,ep];rfl⟩
   ·cases h
  ·cases h
 all_goals (simp only[HL]at h;cases h)
def y8{α:Type}{bn E bytes:Nat}{a:Q}{s8:Value}(d:Nat)(l4:α)(e:α→List Q)(n:Int)(eo:kR P bn E 1 bytes)(fq:ml P bn E 1 [s8])(lZ:e l4=[a])(ay:∀I,bc I a s8)(aR:(decide (0≤n)&&decide (n≤4294967296))=true)(xm:bytes≤65536):Hint P:=
 .gs true ([.int .i64 n,.int .i64 n],[]) (HL bn d E l4 e n) λ_ _ _ _ _ _ _ h he=>by
  simp only[Bool.and_eq_true,decide_eq_true_eq]at aR;exact aev eo fq lZ ay aR.1 aR.2 xm h he
def Gp(bn:Nat)(zs:dZ)(fG:List (Nat×Nat))(op:Op)(env:ah):Option (c7×cZ):=match op with
 |.build T parts=>(match env.sZ parts.toList with
  |some ps=>(match zZ fG (rU zs) ps with
   |some cs=>bif Nat.beq T bn then some (.y [] (.agg cs),([],[]))else none
   |none=>none)
  |none=>none)
 |_=>none
def aew{bn:Nat}{zs:dZ}{fG:List (Nat×Nat)}(fq:kE P bn zs fG){o:Oper}{N:Nat}{ids:dg}{env:ah}{σ:Y}{s:c7}{aX:cZ}(h:Gp bn zs fG o.op env=some (s,aX)):fP ⟨P,N,ids⟩ o env σ s:=by
 cases ai:o.op<;>rw[ai]at h
 case build T parts=>
  simp only[Gp]at h;split at h
  ·rename_i ps aC;split at h
   ·rename_i cs bm;cases af:Nat.beq T bn with
    |false=>rw[af]at h;cases h
    |true=>
     rw[af]at h;have:=Nat.eq_of_beq_eq_true af;subst this;cases h;exact b7.build ai fq aC bm
   ·cases h
  ·cases h
 all_goals (simp only[Gp]at h;cases h)
def nA{bn:Nat}{zs:dZ}{fG:List (Nat×Nat)}(fq:kE P bn zs fG):Hint P:=.gs false ([],[]) (λ_ op env _=>Gp bn zs fG op env) λ_ _ _ _ _ _ _ h _=>aew fq h
def He(bn w3 sz:Nat)(op:Op)(env:ah):Option (c7×cZ):=match op with
 |.indexAddr T x y=>(match env.cW x with
  |some (.ptr d off)=>(match env.cW y with
   |some (.int _ i)=>bif Nat.beq T bn&&(decide (0≤i)&&decide (i<(w3:Int)))then some (.y [] (.ptr d (off+i.toNat*sz)),([],[]))else none
   |_=>none)
  |_=>none)
 |_=>none
def aex{bn w3 E sz:Nat}(hu:P.underlying bn=some (.array w3 E))(X:∀w,(sizeOf E).run P w=.ok sz w){o:Oper}{N:Nat}{ids:dg}{env:ah}{σ:Y}{s:c7}{aX:cZ}(h:He bn w3 sz o.op env=some (s,aX)):fP ⟨P,N,ids⟩ o env σ s:=by
 cases ai:o.op<;>rw[ai]at h
 case indexAddr T x y=>
  simp only[He]at h;split at h
  ·rename_i d off u;split at h
   ·rename_i k i ag;cases af:(Nat.beq T bn&&(decide (0≤i)&&decide (i<(w3:Int))))with
    |false=>rw[af]at h;cases h
    |true=>
     rw[af]at h;simp only[Bool.and_eq_true,decide_eq_true_eq]at af;have:=Nat.eq_of_beq_eq_true af.1;subst this;cases h;exact aua ai (asv u) (asv ag) hu X af.2
   ·cases h
  ·cases h
 all_goals (simp only[He]at h;cases h)
def uP{bn w3 E sz:Nat}(hu:P.underlying bn=some (.array w3 E))(X:∀w,(sizeOf E).run P w=.ok sz w):Hint P:=.gs false ([],[]) (λ_ op env _=>He bn w3 sz op env) λ_ _ _ _ _ _ _ h _=>aex hu X h
end
end
section
def encS{α:Type}(T:TypeId)(sz:Nat)(enc:α→List Q)(l:List (List α)):List gQ:=l.map λr=>.sl T sz (r.map enc)
def IS{α:Type}{T:TypeId}{sz:Nat}{enc:α→List Q}(l:List (List α))(i:Nat)(r:List α):encS T sz enc (l.set i r)=(encS T sz enc l).set i (.sl T sz (r.map enc)):=by simp[encS,List.map_set]
section weak
variable {G:ch}{env:ah}{σ:Y}
def aut{α:Type}{d e T n:Nat}(aV sz:Nat)(enc:α→List Q)(aR:0<n)(Z:σ.get d=some (.slice T 1 (List.replicate n [.c4]) 0 false))(he:σ.get e=none)(hi:G.ids.contains e=false)(af:env.clean [e].contains=true)(X:σ.clean [e].contains=true):
  cr G env σ env ((e,.b9 (encS aV sz enc (List.replicate n [])))::(d,.eO T e n none)::σ.minus [d]):=λcx I β a w h b3=>by
 have js:d≠e:=λcB=>by subst cB;rw[he]at Z;cases Z
 have rK:e∉G.ids:=by simpa using hi
 let lY:iY:=(List.replicate n (Value.slice none 0 0)).toArray
 refine⟨I,g7 β e (.tuple lY),?_,Dp b3 af λy ag=>g5 β _ ag⟩;have k2:g7 β e (.tuple lY) e=.tuple lY:=gL _ _ _;have lq:g7 β e (.tuple lY) d=β d:=g5 β _ js
 have Kj:∀c,c∉c2 (Value.tuple lY):=λc af=>by
  rw[oR]at af;obtain⟨aA,hu,kI⟩:=List.mem_filterMap.1 af;have:aA=Value.slice none 0 0:=List.eq_of_mem_replicate (by simpa [lY]using hu);rw[this]at kI;cases kI
 have mz:∀y,y∈[d,e]→∀o,Y.get ((e,cc.b9 (encS aV sz enc (List.replicate n [])))::(d,.eO T e n none)::σ.minus [d]) y=some o→(y=d∧o=.eO T e n none)∨(y=e∧o=.b9 (encS aV sz enc (List.replicate n []))):=λy ag o ai=>by
  rw[s0]at ai;split at ai
  ·rename_i cB;exact .inr ⟨cB.symm,(Option.some.inj ai).symm⟩
  ·rename_i g3;split at ai
   ·rename_i cB;exact .inl ⟨cB.symm,(Option.some.inj ai).symm⟩
   ·rename_i hH;simp only[mem_cons,not_mem_nil,or_false]at ag;rcases ag with rfl|rfl
    ·exact absurd rfl hH
    ·exact absurd rfl g3
 have Am:∀y,y∈[d,e]→y=d∨y=e:=λy ag=>by simpa using ag
 have b9:∀m:Nat,hs cx I w (encS aV sz enc (List.replicate m [])) (List.replicate m (Value.slice none 0 0)):=by
  intro m;induction m with
  |zero=>rfl
  |succ m bg=>
   simp only[List.replicate_succ,encS,map_cons,map_nil,hs]at bg ⊢;exact⟨_,_,rfl,Or.inl ⟨rfl,rfl⟩,λb (U:none=some b)=>(by cases U),bg⟩
 refine h.FA (M:=[d,e]) (news:=[e]) (λy ag=>?_) (λy ag=>g5 β _ (by simpa using ag)) (λy ag=>?_) (λy o _ hc=>(asF X y o hc).2) (λy ag o hc=>?_) (λy ag ef c af=>?_) (λy ag z hz mE eV ef c af gd=>?_)
 ·simp only[mem_cons,not_mem_nil,or_false,not_or]at ag;rw[s0,if_neg (Ne.symm ag.2),if_neg (Ne.symm ag.1),if_neg (by simp[ag.1])]
 ·simp only[List.mem_singleton]at ag;subst ag;exact⟨by simp,rK⟩
 ·rcases mz y ag o hc with⟨rfl,rfl⟩|⟨rfl,rfl⟩
  ·have:=h.cw y _ Z;simp only[aY,lq,k2]at this ⊢;rcases this with q|⟨q,wo,_⟩|⟨b,aO,arr,ak,ar,aM,aK,be,bJ,b8,cT,dD,eB,fm⟩
   ·exact .inl q
   ·
    have:n=0:=by simpa using wo
    omega
   ·refine .inr ⟨b,aO,arr,lY,by simpa using ak,by simpa using ar,aM,aK,by simpa using be,rfl,by simp[lY],?_,λo=>eB o (by omega),fm⟩;have:∀(m:Nat) (l:dZ),cV I (List.replicate m [Q.c4]).flatten l→l=List.replicate m (Value.slice none 0 0):=by
     intro m;induction m with
     |zero=>intro l aH;simpa [cV]using aH
     |succ m bg=>
      intro l aH;simp only[List.replicate_succ,flatten_cons,singleton_append,cV,bc]at aH;obtain⟨aA,bI,rfl,rfl,aH⟩:=aH;rw[bg bI aH,List.replicate_succ]
    have:=this n _ (by simpa using bJ);show arr.toList.take n=lY.toList;rw[this]
  ·simp only[aY,k2];exact .inr ⟨lY,rfl,by simpa [lY]using b9 n⟩
 ·rcases Am y ag with rfl|rfl
  ·rw[lq]at af;exact⟨y,by simp,by rw[Z];rfl,af⟩
  ·rw[k2]at af;exact absurd af (Kj c)
 ·rcases Am y ag with rfl|rfl
  ·rcases Am z hz with rfl|rfl
   ·exact mE rfl
   ·rw[k2]at gd;exact absurd gd (Kj c)
  ·rw[k2]at af;exact absurd af (Kj c)
def atp{α:Type}{aV sz T d e e2 t n i:Nat}{c5:Bool}(l:List (List α))(enc:α→List Q)(row:List α)
  (Z:σ.get d=some (.eO T e n (some (some i,t)))) (he:σ.get e=some (.b9 (encS aV sz enc (l.set i [])))) (bE:σ.get t=some (.slice aV sz (row.map enc) 0 c5))
  (k8:σ.get e2=none) (n9:G.ids.contains e2=false) (af:env.clean [e2].contains=true) (X:σ.clean [e2].contains=true) :
  cr G env σ env ((e2,.b9 (encS aV sz enc (l.set i row)))::(d,.eO T e2 n none)::σ.minus [d,e,t]):=λcx I β a w h b3=>by
 obtain⟨eF,h1,D⟩:=h.back Z rfl he bE k8 (by simpa using n9) X;refine⟨I,eF,?_,Dp b3 af h1⟩;have aJ:(encS aV sz enc (l.set i [])).set i (.sl aV sz (row.map enc))=encS aV sz enc (l.set i row):=by rw[←IS,List.set_set]
 rw[aJ]at D;exact D
def auu{α:Type}{aV sz T d e e2 t n:Nat}{i:Int}{c5:Bool}{row:List α}(l:List (List α))(enc:α→List Q)(hi:di l i=some row)
  (Z:σ.get d=some (.eO T e n (some (some i.toNat,t)))) (he:σ.get e=some (.b9 (encS aV sz enc (l.set i.toNat [])))) (bE:σ.get t=some (.slice aV sz (row.map enc) 0 c5))
  (k8:σ.get e2=none) (n9:G.ids.contains e2=false) (af:env.clean [e2].contains=true) (X:σ.clean [e2].contains=true) :
  cr G env σ env ((e2,.b9 (encS aV sz enc l))::(d,.eO T e2 n none)::σ.minus [d,e,t]):=by
 have h:=atp l enc row Z he bE k8 n9 af X;have aJ:l.set i.toNat row=l:=by
  unfold di at hi;split at hi
  ·apply List.ext_getElem?;intro j;rw[List.getElem?_set];split
   ·rename_i aT;subst aT;rw[if_pos (List.getElem?_eq_some_iff.1 hi).1,hi]
   ·rfl
  ·cases hi
 rwa [aJ]at h
end weak
section
variable {G:ch}{σ:Y}{o:Oper}{ev:Operand→Q}
def E4{cx:eW}{I:bs}{β:Nat→Value}{w:World}(an:bY G cx I β σ w){d e T n:Nat}{du:Option (ku×Nat)}{cU:List gQ}(Z:σ.get d=some (.eO T e n du))(he:σ.get e=some (.b9 cU))(aR:β d≠.nilFunc):
  ∃b aO arr,∃X:iY,β d=.slice (some ⟨b,0,none⟩) n aO∧n≤aO∧aO≤maxLen∧w.heap[b]?=some (.cells arr T (0,0))∧arr.size=aO∧β e=.tuple X∧X.size=n∧jD β X.toList (arr.toList.take n) du∧(∀o:Nat,I b o=none)∧Place cx b∧hs cx I w cU X.toList∧cU.length=n:=by
 have ai:=an.cw d _ Z;simp only[aY,aR,false_or]at ai;obtain⟨b,aO,arr,X,ak,ar,aM,aK,be,bJ,b8,cT,dD,eB⟩:=ai;have kH:=an.cw e _ he;simp only[aY,bJ,Value.tuple.injEq,reduceCtorEq,false_or]at kH;obtain⟨fF,rfl,U⟩:=kH;exact⟨b,aO,arr,X,ak,ar,aM,aK,be,bJ,b8,cT,dD,eB,U,by have:=U.length;simp at this;omega⟩
def atW{T E d e bn n:Nat}{du:Option (ku×Nat)}{cU:List gQ}{x y:Operand}{k:IntKind}{i:Int}(h:o.op=.indexAddr T x y)(u:ev x=.own d)(ag:ev y=.int k i)(Z:σ.get d=some (.eO bn e n du))(he:σ.get e=some (.b9 cU))(aQ:kV G.P T E 1)
  (hi:0≤i∧i<cU.length):Yields G o ev σ [] [d,e] (.ptr d i.toNat):=
 .pure λaz cx I β w aZ cf an hop=>by
  have h1:=hop x (by simp[h,Op.operands]);rw[u]at h1
  have D:=hop y (by simp[h,Op.operands]);rw[ag]at D;have D:=jW D
  simp only[au]at h1;obtain⟨h1,X⟩:=h1;have iR:β d≠.nilFunc:=λe=>by rw[h1,e]at X;simp[iD]at X
  obtain⟨b,aO,arr,fF,ak,ar,aM,aK,be,bJ,b8,cT,dD,eB,fm,qC⟩:=E4 an (by rw[cf d (by simp)];exact Z) (by rw[cf e (by simp)];exact he) iR;refine⟨.pointer (some ⟨b,i.toNat,none⟩),?_,by simp only[au];exact⟨b,by rw[ak];rfl,rfl⟩⟩;have aJ:∀w,(underlying T).run G.P w=.ok (.slice E) w:=λw=>by simp[underlying,program,Sem.run,aQ.gY]
  rw[ak]at h1;have rK:0≤i∧i<(n:Int):=by omega
  simp[execOp,h,h1,D,Instr.indexAt,asIntOf,aJ,rK,aQ.size,mc]
def auc{T d e bn n:Nat}{du:Option (ku×Nat)}{cU:List gQ}{x:Operand}{jx}(h:o.op=.call ⟨.builtin .len,#[x],jx⟩)(hk:jx=#[T])(u:ev x=.own d)(Z:σ.get d=some (.eO bn e n du))(he:σ.get e=some (.b9 cU)){E:Nat}(aQ:G.P.underlying T=some (.slice E)):
  Yields G o ev σ [] [d,e] (.int .i64 (cU.length:Int)):=
 .pure λaz cx I β w aZ cf an hop=>by
  subst hk;have h1:=hop x (by simp[h,Op.operands,Call.operands]);rw[u]at h1
  simp only[au]at h1;obtain⟨h1,X⟩:=h1;have iR:β d≠.nilFunc:=λe=>by rw[h1,e]at X;simp[iD]at X
  obtain⟨b,aO,arr,fF,ak,ar,aM,aK,be,bJ,b8,cT,dD,eB,fm,qC⟩:=E4 an (by rw[cf d (by simp)];exact Z) (by rw[cf e (by simp)];exact he) iR;rw[ak]at h1;have aJ:∀w,(underlying T).run G.P w=.ok (.slice E) w:=λw=>by simp[underlying,program,Sem.run,aQ]
  exact⟨.int .i64 n,by simp[execOp,h,resolve,invoke,builtin,Builtin.len_,h1,aJ,goInt],by simp[au,bc,qC]⟩
def auF{α:Type}{T d e e2 t p bn n aV sz:Nat}{x:Operand}(l:List (List α))(enc:α→List Q)(row:List α)(h:o.op=.load T x)(u:ev x=.ptr d p)(Z:σ.get d=some (.eO bn e n none))(he:σ.get e=some (.b9 (encS aV sz enc l)))(iz:l[p]?=some row)(aQ:dL G.P T 1 false)
  (bE:σ.get t=none) (k8:σ.get e2=none) (zf:t≠e2) (D1:G.ids.contains t=false) (n9:G.ids.contains e2=false) (hX:σ.clean [t,e2].contains=true) :
  h5 G o ev σ [d,e,e2,t] [t,e2] (λr az=>r=.own t∧az=(t,.slice aV sz (row.map enc) 0 false)::(e2,.b9 (encS aV sz enc (l.set p [])))::(d,.eO bn e2 n (some (some p,t)))::σ.minus [d,e]):=by
 intro cx I β w aZ an hop;have h1:=hop x (by simp[h,Op.operands]);rw[u]at h1
 simp only[au]at h1;obtain⟨b,h1,D⟩:=h1;have iR:β d≠.nilFunc:=λe=>by rw[e]at h1;cases h1
 obtain⟨aP,aO,arr,X,ak,ar,aM,aK,be,bJ,b8,cT,dD,eB,fm,qC⟩:=E4 an Z he iR;have rJ:aP=b:=by rw[ak]at h1;simpa [b1]using h1
 subst rJ;have aC:p<l.length:=(List.getElem?_eq_some_iff.1 iz).1;have A7:l.length=n:=by simpa [encS]using qC
 have aB:(encS aV sz enc l)[p]?=some (.sl aV sz (row.map enc)):=by simp[encS,iz]
 obtain⟨ef,cp,fS,cG,gC,kB⟩:=an.take Z rfl he aB iR bE k8 zf (by simpa using D1) (by simpa using n9) hX;rw[bJ]at cp;cases cp
 have mK:arr[p]?=some fS:=by
  have:(arr.toList.take n)[p]?=X.toList[p]?:=by rw[show arr.toList.take n=X.toList from cT]
  rw[getElem?_take,if_pos (by omega)]at this;have e:X.toList[p]?=some fS:=by simpa using cG
  rw[e]at this;simpa using this
 have pK:∀j,j<1→∃v,[fS][j]?=some v∧w.cell? ⟨aP,p+j,none⟩=some v:=λj aT=>by
  have:j=0:=by omega
  subst this;exact⟨fS,rfl,by simp[World.cell?,aK,mK]⟩
 have aH:=Bi aQ (vs:=[fS]) pK (λ_=>by omega);have eY:(execOp aZ o).run G.P w=.ok (.value fS) w:=by
  simp[execOp,h,D,Instr.loadAt,Instr.sureAddr,aH]
 rw[eY];refine⟨.own t,_,I,λy=>if y=t then fS else if y=e2 then .tuple (X.setIfInBounds p (.slice none 0 0))else β y,⟨rfl,rfl⟩,?_,?_,cn.refl I,λy ag=>?_,λy ag=>?_⟩
 ·simp only[au,if_true];refine⟨trivial,?_⟩;rcases gC with⟨q,_⟩|⟨b,aO,arr,q,_⟩<;>rw[q]<;>rfl
 ·rw[IS];exact kB
 ·simp only[mem_cons,not_mem_nil,or_false,not_or]at ag;simp only[if_neg ag.1,if_neg ag.2]
 ·simp only[mem_cons,not_mem_nil,or_false,not_or]at ag;rw[ys,if_neg (Ne.symm ag.2.2.2),if_neg (Ne.symm ag.2.2.1),if_neg (Ne.symm ag.1),if_neg (by simp[ag.1,ag.2.1])]
def auA{α:Type}{T d e e2 j p bn n aV sz:Nat}{c5:Bool}{x y:Operand}(l:List (List α))(enc:α→List Q)(row:List α)(h:o.op=.store T x y)(u:ev x=.ptr d p)(ag:ev y=.own j)(aT:σ.get j=some (.slice aV sz (row.map enc) 0 c5))(Z:σ.get d=some (.eO bn e n none))(he:σ.get e=some (.b9 (encS aV sz enc l)))(aC:p<l.length)(aQ:dL G.P T 1 false)
  (k8:σ.get e2=none) (n9:G.ids.contains e2=false) (hX:σ.clean [e2].contains=true) :
  h5 G o ev σ [d,e,e2,j] [e2] (λr az=>r=.undef∧az=(e2,.b9 (encS aV sz enc (l.set p row)))::(d,.eO bn e2 n none)::σ.minus [d,e,j]):=by
 intro cx I β w aZ an hop;have h1:=hop x (by simp[h,Op.operands]);rw[u]at h1
 have aj:=hop y (by simp[h,Op.operands]);rw[ag]at aj
 simp only[au]at h1 aj;obtain⟨b,h1,D⟩:=h1;obtain⟨aj,DJ⟩:=aj;have iR:β d≠.nilFunc:=λe=>by rw[e]at h1;cases h1
 obtain⟨aP,aO,arr,X,ak,ar,aM,aK,be,bJ,b8,cT,dD,eB,fm,qC⟩:=E4 an Z he iR;have rJ:aP=b:=by rw[ak]at h1;simpa [b1]using h1
 subst rJ;have A7:l.length=n:=by simpa [encS]using qC
 have iz:=asY (an.cw j _ aT) λe=>(by rw[aj,e]at DJ;cases DJ);have CM:e2∉G.ids:=by simpa using n9
 have n5:(σ.get d).isSome:=by rw[Z];rfl
 have jt:(σ.get e).isSome:=by rw[he];rfl
 have tL:(σ.get j).isSome:=by rw[aT];rfl
 have js:d≠e:=λcB=>by subst cB;rw[Z]at he;cases he
 have ajN:d≠j:=λcB=>by subst cB;rw[Z]at aT;cases aT
 have ajQ:e≠j:=λcB=>by subst cB;rw[he]at aT;cases aT
 have cb:∀y,(σ.get y).isSome→y≠e2:=λy ag e=>by subst e;rw[k8]at ag;cases ag
 have fL:aP∈c2 (β d):=j8 h1;have oU:(β j).oneCell'=true∧(β j).cells=#[β j]:=by
  rcases iz with⟨q,_⟩|⟨c,vF,apr,q,_⟩<;>rw[q]<;>exact⟨rfl,rfl⟩
 have mZ:=Hl (P:=G.P) aK [β j] (off:=p) (by simp;omega) (λv aa=>by rw[List.mem_singleton.1 aa];exact oU.1);have eY:(execOp aZ o).run G.P w=.ok .skip (w.setRow aP (iZ arr.toList p [β j]).toArray):=by
  have aJ:((#[β j]:iY).size≠1)=False:=by simp
  simp[execOp,h,D,aj,Instr.storeAt,Instr.sureAddr,storeVar,aQ.size,oU.2,mZ]
 rw[eY]
 let fF:iY:=X.setIfInBounds p (β j)
 have iA:fF.toList=X.toList.set p (β j):=by simp[fF]
 have KR:hs cx I w (encS aV sz enc (l.set p row)) fF.toList:=by
  rw[iA,IS];refine fm.set iz λi aA c _ akc DP kH=>?_;refine an.dA e j jt tL ajQ c ?_ (j8 DP);rw[bJ,oR];exact List.mem_filterMap.2 ⟨aA,List.mem_of_getElem? akc,kH⟩
 have ki:∀c∈fF.toList.filterMap b1,c∈c2 (β e)∨c∈c2 (β j):=λc af=>by
  rw[iA]at af;rcases HZ af with af|af
  ·exact .inl (by rw[bJ,oR];exact af)
  ·exact .inr (j8 af)
 have rN:∀c∈fF.toList.filterMap b1,c≠aP:=λc af cB=>by
  subst cB;rcases ki c af with q|q
  ·exact an.dA d e n5 jt js c fL q
  ·exact an.dA d j n5 tL ajN c fL q
 have hk:gK w (w.setRow aP (iZ arr.toList p [β j]).toArray) aP:=gK.setRow w aP _;have eS:∀y,y≠e2→(λy=>if y=e2 then(Value.tuple fF)else β y) y=β y:=λy ag=>if_neg ag;have pZ:(λy=>if y=e2 then(Value.tuple fF)else β y) e2=.tuple fF:=if_pos rfl
 have pO:∀y,y∉[d,e,e2,j]→Y.get ((e2,.b9 (encS aV sz enc (l.set p row)))::(d,.eO bn e2 n none)::σ.minus [d,e,j]) y=σ.get y:=λy ag=>by
  simp only[mem_cons,not_mem_nil,or_false,not_or]at ag;rw[s0,if_neg (Ne.symm ag.2.2.1),if_neg (Ne.symm ag.1),if_neg (by simp[ag.1,ag.2.1,ag.2.2.2])]
 generalize (λy=>if y=e2 then(Value.tuple fF)else β y)=eF at eS pZ;have lq:eF d=β d:=eS d (cb d n5)
 have mz:∀y,y∈[d,e,e2,j]→∀o,Y.get ((e2,.b9 (encS aV sz enc (l.set p row)))::(d,.eO bn e2 n none)::σ.minus [d,e,j]) y=some o→(y=d∧o=.eO bn e2 n none)∨(y=e2∧o=.b9 (encS aV sz enc (l.set p row))):=λy ag o ai=>by
  rw[s0]at ai;split at ai
  ·rename_i cB;exact .inr ⟨cB.symm,(Option.some.inj ai).symm⟩
  ·rename_i g3;split at ai
   ·rename_i cB;exact .inl ⟨cB.symm,(Option.some.inj ai).symm⟩
   ·split at ai
    ·cases ai
    ·rename_i hH wg;simp only[mem_cons,not_mem_nil,or_false,not_or]at ag wg;rcases ag with rfl|rfl|rfl|rfl
     ·exact absurd rfl hH
     ·exact absurd rfl wg.2.1
     ·exact absurd rfl g3
     ·exact absurd rfl wg.2.2
 have yB:∀y,y∈[d,e,e2,j]→(Y.get ((e2,.b9 (encS aV sz enc (l.set p row)))::(d,.eO bn e2 n none)::σ.minus [d,e,j]) y).isSome→y=d∨y=e2:=λy ag X=>by
  obtain⟨o,ai⟩:=Option.isSome_iff_exists.1 X;rcases mz y ag o ai with q|q
  ·exact .inl q.1
  ·exact .inr q.1
 have sep:∀c,c∈c2 (eF d)→c∉c2 (eF e2):=λc af gd=>by
  rw[lq,ak]at af;have:c=aP:=by simpa [c2,b1]using af
  exact rN c (by rw[pZ]at gd;exact gd) this
 refine⟨.undef,_,I,eF,⟨rfl,rfl⟩,by simp[au,bc],?_,cn.refl I,λy ag=>eS y (by simpa using ag),λy ag=>pO y ag⟩;refine an.redo (M:=[d,e,e2,j]) (news:=[e2]) (b:=aP) (eF:=eF) hk (λo=>?_) (λy ag X cB=>?_) eB (λy ag=>pO y ag) (λy ag=>eS y (by simpa using ag)) (λy ag=>?_) (λy o _ hc=>(asF hX y o hc).2) (λy ag o hc=>?_) (λy ag ef c af=>?_) (λy ag z hz mE eV ef c af gd=>?_)
 ·cases o with
  |none=>exact an.tu aK
  |some o=>exact dD o
 ·exact an.dA d y n5 X (λe=>ag (by simp[e])) aP fL cB
 ·simp only[List.mem_singleton]at ag;subst ag;exact⟨by simp,CM⟩
 ·rcases mz y ag o hc with⟨rfl,rfl⟩|⟨rfl,rfl⟩
  ·simp only[aY,lq,pZ];refine .inr ⟨aP,aO,_,fF,ak,ar,aM,setRow_heap w aP arr _ bn _ aK,by simp only[iZ,size_toArray,length_append,length_take,length_drop,length_singleton,Array.length_toList];omega,rfl,by simp[fF,b8],?_,dD,eB⟩;show(iZ arr.toList p [β j]).take n=fF.toList;rw[iA,←show arr.toList.take n=X.toList from cT];apply List.ext_getElem?;intro i;have aqI:p<arr.toList.length:=by simp;omega
   rw[getElem?_take,List.getElem?_set,getElem?_take];simp only[iZ,length_singleton];by_cases fB:i<n
   ·rw[if_pos fB,if_pos fB];by_cases mX:p=i
    ·subst mX;rw[if_pos rfl,if_pos (by simp;omega),List.append_assoc,List.getElem?_append_right (by simp;omega),length_take,Nat.min_eq_left (by omega)];simp
    ·rw[if_neg mX];by_cases bL:i<p
     ·rw[List.append_assoc,List.getElem?_append_left (by simp;omega),getElem?_take,if_pos bL]
     ·rw[List.getElem?_append_right (by simp;omega),getElem?_drop];congr 1;simp only[length_append,length_take,length_singleton];omega
   ·rw[if_neg fB,if_neg fB];by_cases mX:p=i
    ·omega
    ·rw[if_neg mX]
  ·simp only[aY];exact .inr ⟨fF,pZ,KR.go (cn.refl I) λc af=>⟨λbL=>hk.block c (rN c af) bL,λ_=>rfl,id⟩⟩
 ·rcases yB y ag ef with rfl|rfl
  ·rw[lq]at af;exact⟨y,by simp,n5,af⟩
  ·rw[pZ]at af;rcases ki c af with q|q
   ·exact⟨e,by simp,jt,q⟩
   ·exact⟨j,by simp,tL,q⟩
 ·rcases yB y ag eV with rfl|rfl<;>rcases yB z hz ef with rfl|rfl
  ·exact mE rfl
  ·exact sep c af gd
  ·exact sep c gd af
  ·exact mE rfl
end
end
section
section
variable {P:Program}
def Hi(bn:Nat)(op:Op)(env:ah)(σ:Y):Option (c7×cZ):=match op with
 |.indexAddr T x y=>(match env.cW x with
  |some (.own d)=>(match env.cW y with
   |some (.int k i)=>(match σ.get d with
    |some (.eO h3 e n du)=>(match σ.get e with
     |some (.b9 cU)=>bif Nat.beq T bn then some (.y [d,e] (.ptr d i.toNat),([.int .i64 i],[(0,.b9 cU)]))else none
     |_=>none)
    |_=>none)
   |_=>none)
  |_=>none)
 |_=>none
def aeB{α:Type}{bn E aV sz:Nat}{enc:α→List Q}{l:List (List α)}{i:Int}{row:List α}(aQ:kV P bn E 1)(hi:di l i=some row){o:Oper}{N:Nat}{ids:dg}{env:ah}{σ:Y}{s:c7}{aX:cZ}
  (h:Hi bn o.op env σ=some (s,aX)) (he:aX=([.int .i64 i],[(0,.b9 (encS aV sz enc l))])):fP ⟨P,N,ids⟩ o env σ s:=by
 cases ai:o.op<;>rw[ai]at h
 case indexAddr T x y=>
  simp only[Hi]at h;split at h
  ·rename_i d u;split at h
   ·rename_i k G7 ag;split at h
    ·rename_i h3 e n du Z;split at h
     ·rename_i cU U;cases af:Nat.beq T bn with
      |false=>rw[af]at h;cases h
      |true=>
       rw[af]at h;have:=Nat.eq_of_beq_eq_true af;subst this;cases h;simp only[Prod.mk.injEq,List.cons.injEq,Q.int.injEq,cc.b9.injEq,and_true,true_and]at he;obtain⟨rfl,rfl⟩:=he;refine atW ai (asv u) (asv ag) Z U aQ ?_;unfold di at hi;split at hi
       ·rename_i bM;have:=(List.getElem?_eq_some_iff.1 hi).1;simp only[encS,length_map];omega
       ·cases hi
     ·cases h
    ·cases h
   ·cases h
  ·cases h
 all_goals (simp only[Hi]at h;cases h)
def yZ{α:Type}{bn E:Nat}{l:List (List α)}{i:Int}{row:List α}(aV sz:Nat)(enc:α→List Q)(aQ:kV P bn E 1)(hi:di l i=some row):Hint P:=
 .gs false ([.int .i64 i],[(0,.b9 (encS aV sz enc l))]) (λ_=>Hi bn) λ_ _ _ _ _ _ _ h he=>aeB aQ hi h he
def HR(bn:Nat)(n:Int)(op:Op)(env:ah)(σ:Y):Option (c7×cZ):=match op with
 |.call c=>(match c.callee with
  |.builtin b=>(match b with
   |.len=>(match c.args.toList with
    |[x]=>(match c.argTypes.toList with
     |[T]=>(match env.cW x with
      |some (.own d)=>(match σ.get d with
       |some (.eO h3 e m du)=>(match σ.get e with
        |some (.b9 cU)=>bif Nat.beq T bn then some (.y [d,e] (.int .i64 n),([],[(0,.b9 cU)]))else none
        |_=>none)
       |_=>none)
      |_=>none)
     |_=>none)
    |_=>none)
   |_=>none)
  |_=>none)
 |_=>none
def aeC{α:Type}{bn E aV sz:Nat}{enc:α→List Q}{l:List (List α)}(aQ:kV P bn E 1){o:Oper}{N:Nat}{ids:dg}{env:ah}{σ:Y}{s:c7}{aX:cZ}
  (h:HR bn (l.length:Int) o.op env σ=some (s,aX)) (he:aX=([],[(0,.b9 (encS aV sz enc l))])):fP ⟨P,N,ids⟩ o env σ s:=by
 cases ai:o.op<;>rw[ai]at h
 case call c=>
  obtain⟨cl,args,tys⟩:=c;simp only[HR]at h;split at h
  ·rename_i b;split at h
   ·split at h
    ·rename_i x lX;have:args=#[x]:=Array.toList_inj.1 (by simpa using lX);subst this;split at h
     ·rename_i T An;have:tys=#[T]:=Array.toList_inj.1 (by simpa using An);subst this;split at h
      ·rename_i d u;split at h
       ·rename_i h3 e m du Z;split at h
        ·rename_i cU U;cases af:Nat.beq T bn with
         |false=>rw[af]at h;cases h
         |true=>
          rw[af]at h;have:=Nat.eq_of_beq_eq_true af;subst this;cases h;simp only[Prod.mk.injEq,List.cons.injEq,cc.b9.injEq,and_true,true_and]at he;subst he;have:=auc (G:=⟨P,N,ids⟩) ai rfl (asv u) Z U aQ.gY;rw[show(encS aV sz enc l).length=l.length by simp[encS]]at this;exact this
        ·cases h
       ·cases h
      ·cases h
     ·cases h
    ·cases h
   ·cases h
  ·cases h
 all_goals (simp only[HR]at h;cases h)
def xz{α:Type}{bn E:Nat}(aV sz:Nat)(enc:α→List Q)(l:List (List α))(aQ:kV P bn E 1):Hint P:=
 .gs false ([],[(0,.b9 (encS aV sz enc l))]) (λ_=>HR bn (l.length:Int)) λ_ _ _ _ _ _ _ h he=>aeC aQ h he
def HE{α:Type}(bn aV sz e2 t p:Nat)(l:List (List α))(row:List α)(enc:α→List Q)(ids:dg)(op:Op)(env:ah)(σ:Y):Option (c7×cZ):=match op with
 |.load T x=>(match env.cW x with
  |some (.ptr d sg)=>(match σ.get d with
   |some (.eO h3 e n none)=>(match σ.get e with
    |some (.b9 cU)=>bif Nat.beq T bn&&(σ.get t).isNone&&(σ.get e2).isNone&&!Nat.beq t e2&&!ids.contains t&&!ids.contains e2&&σ.clean [t,e2].contains then
      some (.e [d,e,e2,t] [t,e2] (.own t) ((t,.slice aV sz (row.map enc) 0 false)::(e2,.b9 (encS aV sz enc (l.set p [])))::(d,.eO h3 e2 n (some (some p,t)))::σ.minus [d,e]),([.ptr 0 sg],[(1,.b9 cU)]))else none
    |_=>none)
   |_=>none)
  |_=>none)
 |_=>none
def aeD{α:Type}{bn aV sz e2 t:Nat}{l:List (List α)}{i:Int}{row:List α}{enc:α→List Q}(aQ:dL P bn 1 false)(hi:di l i=some row){o:Oper}{N:Nat}{ids:dg}{env:ah}{σ:Y}{s:c7}{aX:cZ}
  (h:HE bn aV sz e2 t i.toNat l row enc ids o.op env σ=some (s,aX)) (he:aX=([.ptr 0 i.toNat],[(1,.b9 (encS aV sz enc l))])):fP ⟨P,N,ids⟩ o env σ s:=by
 cases ai:o.op<;>rw[ai]at h
 case load T x=>
  simp only[HE]at h;split at h
  ·rename_i d sg u;split at h
   ·rename_i h3 e n Z;split at h
    ·rename_i cU U;generalize af:(Nat.beq T bn&&_&&_&&_&&_&&_&&_)=eM at h;cases eM with
     |false=>cases h
     |true=>
      simp only[Bool.and_eq_true,Bool.not_eq_true']at af;obtain⟨⟨⟨⟨⟨⟨bl,b2⟩,c9⟩,e3⟩,gm⟩,hT⟩,jc⟩:=af;have:=Nat.eq_of_beq_eq_true bl;subst this;cases h;simp only[Prod.mk.injEq,List.cons.injEq,Q.ptr.injEq,cc.b9.injEq,and_true,true_and]at he;obtain⟨rfl,rfl⟩:=he;have iz:l[i.toNat]?=some row:=by
       unfold di at hi;split at hi
       ·exact hi
       ·cases hi
      refine⟨auF l enc row ai (asv u) Z U iz aQ (by simpa using b2) (by simpa using c9) (λe=>?_) gm hT jc,?_⟩
      ·subst e;rw[Nat.beq_refl]at e3;cases e3
      ·simp only[all_cons,all_nil,gm,hT];rfl
    ·cases h
   ·cases h
  ·cases h
 all_goals (simp only[HE]at h;cases h)
def L5{α:Type}{bn:Nat}{l:List (List α)}{i:Int}{row:List α}(aV sz e2 t:Nat)(enc:α→List Q)(aQ:dL P bn 1 false)(hi:di l i=some row):Hint P:=
 .gs true ([.ptr 0 i.toNat],[(1,.b9 (encS aV sz enc l))]) (HE bn aV sz e2 t i.toNat l row enc) λ_ _ _ _ _ _ _ h he=>aeD aQ hi h he
def Iu{α:Type}(bn aV sz e2 p:Nat)(l:List (List α))(row:List α)(enc:α→List Q)(ids:dg)(op:Op)(env:ah)(σ:Y):Option (c7×cZ):=match op with
 |.store T x y=>(match env.cW x with
  |some (.ptr d sg)=>(match env.cW y with
   |some (.own j)=>(match σ.get j with
    |some (.slice ll Ca xs 0 _)=>(match σ.get d with
     |some (.eO h3 e n none)=>(match σ.get e with
      |some (.b9 cU)=>bif Nat.beq T bn&&Nat.beq ll aV&&Nat.beq Ca sz&&(σ.get e2).isNone&&!ids.contains e2&&σ.clean [e2].contains then
        some (.e [d,e,e2,j] [e2] .undef ((e2,.b9 (encS aV sz enc (l.set p row)))::(d,.eO h3 e2 n none)::σ.minus [d,e,j]),([.ptr 0 sg,.bf false xs],[(1,.b9 cU)]))else none
      |_=>none)
     |_=>none)
    |_=>none)
   |_=>none)
  |_=>none)
 |_=>none
def aeE{α:Type}{bn aV sz e2:Nat}{l:List (List α)}{i:Int}{KS row:List α}{enc:α→List Q}(aQ:dL P bn 1 false)(hi:di l i=some KS){o:Oper}{N:Nat}{ids:dg}{env:ah}{σ:Y}{s:c7}{aX:cZ}
  (h:Iu bn aV sz e2 i.toNat l row enc ids o.op env σ=some (s,aX)) (he:aX=([.ptr 0 i.toNat,.bf false (row.map enc)],[(1,.b9 (encS aV sz enc l))])):fP ⟨P,N,ids⟩ o env σ s:=by
 cases ai:o.op<;>rw[ai]at h
 case store T x y=>
  simp only[Iu]at h;split at h
  ·rename_i d sg u;split at h
   ·rename_i j ag;split at h
    ·rename_i ll Ca xs c5 aT;split at h
     ·rename_i h3 e n Z;split at h
      ·rename_i cU U;generalize af:(Nat.beq T bn&&_&&_&&_&&_&&_)=eM at h;cases eM with
       |false=>cases h
       |true=>
        simp only[Bool.and_eq_true,Bool.not_eq_true']at af;obtain⟨⟨⟨⟨⟨bl,b2⟩,c9⟩,e3⟩,gm⟩,hT⟩:=af;have:=Nat.eq_of_beq_eq_true bl;subst this;have:=Nat.eq_of_beq_eq_true b2;subst this;have:=Nat.eq_of_beq_eq_true c9;subst this;cases h;simp only[Prod.mk.injEq,List.cons.injEq,Q.ptr.injEq,Q.bf.injEq,cc.b9.injEq,and_true,true_and]at he;obtain⟨⟨rfl,rfl⟩,rfl⟩:=he;have aC:i.toNat<l.length:=by
         unfold di at hi;split at hi
         ·exact(List.getElem?_eq_some_iff.1 hi).1
         ·cases hi
        exact⟨auA (c5:=c5) l enc row ai (asv u) (asv ag) aT Z U aC aQ (by simpa using e3) gm hT,by simp only[all_cons,all_nil,gm];rfl⟩
      ·cases h
     ·cases h
    ·cases h
   ·cases h
  ·cases h
 all_goals (simp only[Iu]at h;cases h)
def akG{α:Type}{bn:Nat}{l:List (List α)}{i:Int}{KS:List α}(aV sz e2:Nat)(enc:α→List Q)(row:List α)(aQ:dL P bn 1 false)(hi:di l i=some KS):Hint P:=
 .gs true ([.ptr 0 i.toNat,.bf false (row.map enc)],[(1,.b9 (encS aV sz enc l))]) (Iu bn aV sz e2 i.toNat l row enc) λ_ _ _ _ _ _ _ h he=>aeE aQ hi h he
def HK(bn d E:Nat)(n:Int)(ids:dg)(op:Op)(env:ah)(σ:Y):Option (c7×cZ):=match op with
 |.makeSlice T x y=>(match env.cW x with
  |some (.int _ hH)=>(match env.cW y with
   |some (.int _ g3)=>bif Nat.beq T bn&&!ids.contains d&&σ.clean [d].contains then some (.e [d] [d] (.own d) ((d,.slice E 1 (List.replicate n.toNat [.c4]) 0 false)::σ),([.int .i64 hH,.int .i64 g3],[]))else none
   |_=>none)
  |_=>none)
 |_=>none
def aeF{bn E bytes d:Nat}{n:Int}(eo:kR P bn E 1 bytes)(fq:ml P bn E 1 [.slice none 0 0])(bM:0≤n)(U:n≤4294967296)(xm:bytes≤65536){o:Oper}{N:Nat}{ids:dg}{env:ah}{σ:Y}{s:c7}{aX:cZ}
  (h:HK bn d E n ids o.op env σ=some (s,aX)) (he:aX=([.int .i64 n,.int .i64 n],[])):fP ⟨P,N,ids⟩ o env σ s:=by
 cases ai:o.op<;>rw[ai]at h
 case makeSlice T x y=>
  simp only[HK]at h;split at h
  ·rename_i gv hH u;split at h
   ·rename_i cK g3 ag;cases af:(Nat.beq T bn&&!ids.contains d&&σ.clean [d].contains)with
    |false=>rw[af]at h;cases h
    |true=>
     rw[af]at h;simp only[Bool.and_eq_true,Bool.not_eq_true']at af;obtain⟨⟨dO,ep⟩,hg⟩:=af;have:=Nat.eq_of_beq_eq_true dO;subst this;cases h;simp only[Prod.mk.injEq,List.cons.injEq,Q.int.injEq,and_true,true_and]at he;obtain⟨rfl,rfl⟩:=he;exact⟨ej.makeSlice ai (asv u) (asv ag) eo fq (λI=>by simp[bc]) bM U xm ep hg,by simp only[all_cons,all_nil,ep];rfl⟩
   ·cases h
  ·cases h
 all_goals (simp only[HK]at h;cases h)
def akq{bn E bytes:Nat}(d:Nat)(n:Int)(eo:kR P bn E 1 bytes)(fq:ml P bn E 1 [.slice none 0 0])(aR:(decide (0<n)&&decide (n≤4294967296))=true)(xm:bytes≤65536):Hint P:=
 .gs true ([.int .i64 n,.int .i64 n],[]) (HK bn d E n) λ_ _ _ _ _ _ _ h he=>by
  simp only[Bool.and_eq_true,decide_eq_true_eq]at aR;exact aeF eo fq (by omega) aR.2 xm h he
end
def ahc{n:Int}(aR:(decide (0<n)&&decide (n≤4294967296))=true):0<n.toNat:=by
 simp only[Bool.and_eq_true,decide_eq_true_eq]at aR;omega
end
section
def mo{ia α:Type}(q:ia→ia→Bool)(l:List (ia×α))(n:ia):Option α:=(l.find? λp=>q n p.1).map (·.2)
def p0{ia α:Type}(q:ia→ia→Bool):List (ia×α)→ia→α→List (ia×α)
 |[],n,v=>[(n,v)]
 |p::r,n,v=>bif q n p.1 then(n,v)::r else p::p0 q r n v
def Kl{ia α:Type}(vL:ia→Q)(enc:α→Q)(l:List (ia×α)):List (Q×Q):=l.map λp=>(vL p.1,enc p.2)
def bc.plain{I:bs}{a:Q}{v:Value}(aC:a.plain=true)(h:bc I a v):v=valOf a:=BB (β:=λ_=>Go.undef) a v aC (bc.rep _ _ _ h)
section
variable {P:Program}{I:bs}{ia α:Type}{K:TypeId}{vL:ia→Q}{q:ia→ia→Bool}{enc:α→Q}
end
section
variable {G:ch}{σ:Y}{o:Oper}{ev:Operand→Q}
end
end
section
section
variable {P:Program}
def afC{α:Type}(e:jS α){l r m:List α}(h:jR l r=some m)(aH:0<l.length):0<(ax e m).length:=by
 obtain⟨_,D⟩:=PK h;rw[oz,←D,length_append];omega
def Gj(bn E d2 sz:Nat)(zs:List (List Q))(ids:dg)(op:Op)(env:ah)(σ:Y):Option (c7×cZ):=match op with
 |.call c=>match c.callee with
  |.builtin b=>(match b with
   |.append=>(match c.args.toList with
    |[s,x]=>(match c.argTypes.toList with
     |[T,ll]=>bif Nat.beq T bn&&Nat.beq ll bn&&!ids.contains d2&&σ.clean [d2].contains then(match env.cW x with
       |none=>none
       |some nR=>match jG [] σ nR with
        |some (.bf f bx)=>(match env.cW s with
         |some (.bf true xs)=>some (.e [d2] [d2] (.own d2) ((d2,.slice E sz zs 0 false)::σ),([.bf false xs,.bf false bx],[]))
         |_=>none)
        |_=>none)else none
     |_=>none)
    |_=>none)
   |_=>none)
  |_=>none
 |_=>none
def aeG{bn E d2 sz bytes:Nat}{xs bx zs:List (List Q)}(aQ:kR P bn E sz bytes)(b4:Ap sz bytes xs bx zs)(cb:0<bx.length){o:Oper}{N:Nat}{ids:dg}{env:ah}{σ:Y}{s:c7}{aX:cZ}
  (h:Gj bn E d2 sz zs ids o.op env σ=some (s,aX)) (he:aX=([.bf false xs,.bf false bx],[])):fP ⟨P,N,ids⟩ o env σ s:=by
 obtain⟨BS,cQ,dM,eH,i6,pl⟩:=b4;cases ai:o.op<;>rw[ai]at h
 case call c=>
  obtain⟨cl,args,tys⟩:=c;simp only[Gj]at h;split at h
  ·split at h
   ·split at h
    ·rename_i kk l4 lZ;have:args=#[kk,l4]:=Array.toList_inj.1 (by simpa using lZ);subst this;split at h
     ·rename_i T ll yQ;have:tys=#[T,ll]:=Array.toList_inj.1 (by simpa using yQ);subst this;generalize U:(Nat.beq T bn&&_&&_&&_)=eM at h;cases eM with
      |false=>cases h
      |true=>
       simp only[cond_true]at h;simp only[Bool.and_eq_true,Bool.not_eq_true']at U;obtain⟨⟨⟨dO,ep⟩,hg⟩,kM⟩:=U;have:=Nat.eq_of_beq_eq_true dO;subst this;have:=Nat.eq_of_beq_eq_true ep;subst this;split at h
       ·cases h
       ·rename_i nR u;split at h
        ·rename_i f Ou X;have uW:iw σ (env.ev l4) (.bf f Ou):=by rw[asv u];exact tX X
         split at h
         ·rename_i l6 lY;cases h;simp only[Prod.mk.injEq,List.cons.injEq,Q.bf.injEq,and_true,true_and]at he;obtain⟨rfl,rfl⟩:=he;refine⟨?_,by simpa using hg⟩;rw[←BS];exact att (G:=⟨P,N,ids⟩) ai (.inr ⟨asv lY,cb⟩) uW aQ cQ dM eH i6 pl hg kM
         ·cases h
        ·cases h
     ·cases h
    ·cases h
   ·cases h
  ·cases h
 all_goals (simp only[Gj]at h;cases h)
def ajw{bn E sz bytes:Nat}(d2:Nat){xs bx zs:List (List Q)}(aQ:kR P bn E sz bytes)(b4:Ap sz bytes xs bx zs)(cb:0<bx.length):Hint P:=
 .gs true ([.bf false xs,.bf false bx],[]) (λids=>Gj bn E d2 sz zs ids) λ_ _ _ _ _ _ _ h he=>aeG aQ b4 cb h he
end
section hdr
def cr.hdr{G:ch}{env:ah}{σ:Y}{d e T sz k:Nat}{c5:Bool}{xs:List (List Q)}(n:Nat)(Z:σ.get d=some (.slice T sz xs k c5))(aR:xs.length=n){mA Az i t q:Nat}{cs:List Q}(bl:σ.get mA=some (.cells Az cs))(b2:cs[i]?=some (Q.own d))(bE:env.get t=.ptr mA q)(he:σ.get e=none)(hi:G.ids.contains e=false)(af:env.clean [e].contains=true)(X:σ.clean [e].contains=true)
  (js:(d==e)=false) :
  cr G env σ env ((e,.hdr d n)::σ):=λcx I β a w h b3=>by
 have ajL:d≠e:=by simpa using js
 refine⟨I,g7 β e (.pointer none),?_,Dp b3 af λy ag=>g5 β _ ag⟩;have k2:g7 β e (.pointer none) e=.pointer none:=gL _ _ _;have U:∀y,[e].contains y=false→g7 β e (.pointer none) y=β y:=λy ag=>g5 β _ (by simpa using ag);have iA:iD (β d)=true:=by
  have gJ:=b3 t;rw[bE]at gJ;simp only[au]at gJ;obtain⟨b,gA,_⟩:=gJ;have ai:=h.cw mA _ bl;simp only[aY]at ai;rcases ai with nk|⟨aP,arr,ak,ar,aM,_⟩
  ·rw[nk]at gA;cases gA
  ·have:∀(cs:List Q) (vs:dZ) (i:Nat),bW I β cs vs→cs[i]?=some (.own d)→iD (β d)=true:=by
    intro cs;induction cs with
    |nil=>intro vs i _ h;simp at h
    |cons x r bg=>
     intro vs i aB DR;simp only[bW]at aB;obtain⟨aA,bI,rfl,cp,cG⟩:=aB;cases i with
     |zero=>
      simp at DR;subst DR
      simp only[au]at cp;rw[←cp.1];exact cp.2
     |succ i=>exact bg bI i cG (by simpa using DR)
   exact this cs _ i aM b2
 refine{h with cw:=λy o ag=>?_,dA:=λy Og h1 D cb b fA eS=>?_,keep:=λy ag=>?_}
 ·rw[asw]at ag;split at ag
  ·rename_i vM;subst vM;cases ag
   refine⟨k2,?_⟩;rw[g5 β _ ajL];have ai:=h.cw d _ Z;simp only[aY]at ai;rcases ai with q|⟨ak,ar,_⟩|⟨b,aO,arr,ak,_⟩
   ·rw[q]at iA;cases iA
   ·subst ar;simp at aR;subst aR;exact⟨_,_,ak⟩
   ·rw[aR]at ak;exact⟨_,_,ak⟩
  ·obtain⟨bl,b2⟩:=asF X y o ag;exact(h.cw y o ag).beta U bl b2
 ·by_cases aJ:y=e
  ·subst aJ;rw[k2]at fA;simp[c2,b1]at fA
  ·by_cases e2:Og=e
   ·subst e2;rw[k2]at eS;simp[c2,b1]at eS
   ·rw[g5 β _ aJ]at fA;rw[g5 β _ e2]at eS
    rw[asw,if_neg (Ne.symm aJ)]at h1;rw[asw,if_neg (Ne.symm e2)]at D
    exact h.dA y Og h1 D cb b fA eS
 ·have:y≠e:=λaJ=>by subst aJ;rw[List.contains_iff_mem.2 ag]at hi;cases hi
  rw[g5 β _ this];exact h.keep y ag
variable {P:Program}
end hdr
end
end
end Go.Proofs.YtmnbolcmepihlaaGreat
