/- The wD Insert and Delete at ug bq the call aeh: what a world law ai4 of adX, as ahj on the store. No condition but bH bq stand in each. -/
import Derived.Test.YtjdopimopgpagaaGreatBA
import Derived.Shelf.Spec.SlicesInsertGrow
namespace Go.Proofs.YtjdopimopgpagaaGreat
set_option linter.all false
open Go Go.Lib Go.RowKit
variable {P:Program}
theorem rD(w:World)(dT sT ty elem:TypeId)(g o dLen dCap:Nat)(a:Addr)(sLen sCap sz n:Nat)(cur:Array Value)(t:TypeId)(cs:List Value)
  (hu:P.underlying dT=some (.slice elem)) (hs:∀w,(Go.sizeOf elem).run P w=.ok sz w) (hg:w.heap[g]?=some (.cells cur t (0,0))) (hm:Nat.min sLen dLen=n) (hn:cs.length=n*sz)
  (hsrc:∀j v,cs[j]?=some v→w.cell? (a.add j)=some v) (hfit:o+cs.length≤cur.size) (h1:∀v∈cs,v.oneCell'=true) :
  (Builtin.copy_ #[dT,sT] ty #[.slice (some ⟨g,o,none⟩) dLen dCap,.slice (some a) sLen sCap]).run P w =
   .ok (goInt n) (w.setRow g (cur.toList.take o++cs++cur.toList.drop (o+cs.length)).toArray):=by
 have hl:=run_loadCells_list (P:=P) w a cs hsrc
 have hst:=run_storeCells_at P g o t cs 0 cur w hg (by simpa using hfit) h1
 rw[hn]at hl
 subst hm
 simp[Builtin.copy_,run_underlying hu,Builtin.lenOf,Builtin.firstCells,hs,hl,hst]
def lC(w:World)(b m te sz:Nat)(cells:List Value)(e:Ending)(w':World):Prop:=∃b1 c1 ael,e=.returned (.slice (some ⟨b1,0,none⟩) m c1)∧m≤c1∧c1≤maxLen∧w'.heap[b1]?=some (.cells ael te (0,0))∧ael.size=c1*sz∧ael.toList.take (m*sz)=cells∧
 (b1=b∨w.heap.size≤b1)∧(∀k,k≠b→k<w.heap.size→w'.heap[k]?=w.heap[k]?)∧w.heap.size≤w'.heap.size∧w'.tape=w.tape∧w'.os=w.os∧w'.output=w.output∧w.drawn≤w'.drawn
variable {m p:Nat}
theorem ahD{arr cs row:List Value}(hcs:arr.take m=cs)(hp:p≤m)(hm:m+row.length≤arr.length)(hps:p+row.length≤m+row.length):
  (((arr.take (p+row.length)++cs.drop p++arr.drop (p+row.length+(cs.drop p).length)).take p++row++(arr.take (p+row.length)++cs.drop p++arr.drop (p+row.length+(cs.drop p).length)).drop (p+row.length))).take (m+row.length)=cs.take p++row++cs.drop p:=by
 have hcl:cs.length=m:=by rw[←hcs,List.length_take];omega
 have h1:(arr.take (p+row.length)++cs.drop p++arr.drop (p+row.length+(cs.drop p).length)).take p=cs.take p:=by
  rw[List.append_assoc,List.take_append_of_le_length (by rw[List.length_take];omega),List.take_take,←hcs,List.take_take]
  congr 1;omega
 have h2:(arr.take (p+row.length)++cs.drop p++arr.drop (p+row.length+(cs.drop p).length)).drop (p+row.length)=cs.drop p++arr.drop (p+row.length+(cs.drop p).length):=by
  rw[List.append_assoc,List.drop_left' (by rw[List.length_take];omega)]
 rw[h1,h2,←List.append_assoc,List.take_append_of_le_length (by simp;omega),List.take_of_length_le (by simp;omega)]
theorem agx{r0 cs row:List Value}(h0:r0.take p=cs.take p)(hcl:cs.length=m)(hp:p≤m)(hm:m+row.length≤r0.length):
  ((r0.take p++row++r0.drop (p+row.length)).take (p+row.length)++cs.drop p++(r0.take p++row++r0.drop (p+row.length)).drop (p+row.length+(cs.drop p).length)).take (m+row.length)=cs.take p++row++cs.drop p:=by
 have hpl:(r0.take p++row).length=p+row.length:=by simp;omega
 rw[List.take_left' hpl,h0,List.take_append_of_le_length (by simp;omega),List.take_of_length_le (by simp;omega)]
variable {b sz te:Nat}{cells:List Value}{w w':World}
theorem zf{c:Nat}{arr:Array Value}(hm:m≤c)(hc:c≤maxLen)(hs:arr.size=c*sz)(ht:arr.toList.take (m*sz)=cells)(hh:w'.heap[w.heap.size]?=some (.cells arr te (0,0)))
  (ho:∀k,k<w.heap.size→w'.heap[k]?=w.heap[k]?) (hz:w.heap.size≤w'.heap.size) (h1:w'.tape=w.tape) (h2:w'.os=w.os) (h3:w'.output=w.output) (h4:w.drawn≤w'.drawn) :
  lC w b m te sz cells (.returned (.slice (some ⟨w.heap.size,0,none⟩) m c)) w':=
 ⟨w.heap.size,c,arr,rfl,hm,hc,hh,hs,ht,.inr (Nat.le_refl _),λk _ hk=>ho k hk,hz,h1,h2,h3,h4⟩
theorem qq(z:Array Value)(k:Nat):(Builtin.zeroCells z k).size=k*z.size:=by
 unfold Builtin.zeroCells
 induction k with
 |zero=>simp
 |succ k ih=>simp[Nat.succ_mul]
theorem vC(w:World)(o:Obj):(w.drew.alloc o).heap[w.heap.size]?=some o:=by
 show(w.heap.push o)[w.heap.size]?=_
 simp
theorem sN(w:World)(o:Obj)(k:Nat)(hk:k<w.heap.size):(w.drew.alloc o).heap[k]?=w.heap[k]?:=by
 show(w.heap.push o)[k]?=_
 rw[Array.getElem?_push,if_neg (by omega)]
def afH(P:Program)(f te sz bytes:Nat):Prop:=
 (∀(b n c i vb vc:Nat) (arr fh:Array Value) (tv:TypeId) (cs row:List Value) (w:World),i≤n→n≤c→c≤maxLen→vb≠b→(n+1)*bytes≤140737488355328→
  w.heap[b]?=some (.cells arr te (0,0))→arr.size=c*sz→arr.toList.take (n*sz)=cs→w.heap[vb]?=some (.cells fh tv (0,0))→fh.toList.take sz=row→row.length=sz→(∀v∈cs,v.oneCell'=true)→(∀v∈row,v.oneCell'=true)→
  Calls P f #[.slice (some ⟨b,0,none⟩) n c,.int .i64 i,.slice (some ⟨vb,0,none⟩) 1 vc] w (lC w b (n+1) te sz (cs.take (i*sz)++row++cs.drop (i*sz))))∧
 ∀(vb vc b:Nat) (fh:Array Value) (tv:TypeId) (row:List Value) (w:World),w.heap[vb]?=some (.cells fh tv (0,0))→fh.toList.take sz=row→row.length=sz→
  Calls P f #[.slice none 0 0,.int .i64 (0:Nat),.slice (some ⟨vb,0,none⟩) 1 vc] w (lC w b 1 te sz row)
theorem bU.row{ids:List Nat}{cx:Cx}{I:Imm}{β:Nat→Value}{σ:Sto}{D:Nat}{e:Ending}{ys:List (List AV)}(hw:bU ⟨P,0,ids⟩ cx I β σ w)(hb:b=w.heap.size∨(Place cx b∧∀o,I b o=none))(hD:D∉ids)
    (ho:lC w b m te sz cells e w') (hl:ys.length=m) (hy:∀r∈ys,r.length=sz) (hr:bY I ys.flatten cells) :
    ∃v,e=.returned v∧∃β',Rep I β' (.own D) v∧bU ⟨P,0,ids⟩ cx I β' [(D,.slice te sz ys 0 false)] w':=by
  obtain⟨b1,c1,ael,rfl,g1,g2,g3,g4,g5,g6,g7,g8,g9,g10,g11,g12⟩:=ho
  have hI:∀o,I b o=none:=λo=>by
    rcases hb with rfl|hb
    · exact hw.eX (Nat.le_refl _) o
    · exact hb.2 o
  have hI1:∀o,I b1 o=none:=λo=>by
    rcases g6 with rfl|g6
    · exact hI o
    · exact hw.eX g6 o
  have hpl:Place cx b1:=by
    rcases g6 with rfl|g6
    · rcases hb with rfl|hb
      · exact .inl hw.size
      · exact hb.1
    · exact .inl (Nat.le_trans hw.size g6)
  refine⟨_,rfl,λx=>if x=D then .slice (some ⟨b1,0,none⟩) m c1 else β x,by simp[Rep,j8],?_⟩
  exact{good:=λb' o v hv=>by
            have hc:=hw.good b' o v hv
            have hne:b'≠b:=λe=>by subst e;rw[hI o]at hv;cases hv
            have hlt:b'<w.heap.size:=Classical.byContradiction λh=>by rw[hw.eX (by omega)]at hv;cases hv
            simp only[World.cell?]at hc ⊢
            rw[g7 b' hne hlt];exact hc
        eY:=λb' v hv=>by
            obtain⟨es,clock,h1,h2⟩:=hw.eY b' v hv
            have hne:b'≠b:=λe=>by subst e;rw[hI none]at hv;cases hv
            exact⟨es,clock,by rw[g7 b' hne (cG h1)];exact h1,h2⟩
        gK:=hw.gK
        iZ:=hw.iZ
        frame:=λb' h1 h2=>by
            have hne:b'≠b:=λe=>by
              subst e
              rcases hb with h|⟨h,_⟩
              · have:=hw.size;omega
              · rcases h with h|h
                · omega
                · exact h2 h
            rw[g7 b' hne (Nat.lt_of_lt_of_le h1 hw.size)];exact hw.frame b' h1 h2
        size:=Nat.le_trans hw.size g8
        tape:=g9.trans hw.tape
        os:=g10.trans hw.os
        output:=g11.trans hw.output
        drawn:=Nat.le_trans hw.drawn g12
        cz:=λx o h=>by
            rw[Sto.bz]at h
            split at h
            · rename_i e;subst e;injection h with h;subst h
              simp only[aS,if_true]
              exact .inr (.inr ⟨b1,c1,ael,by rw[hl],by omega,g2,g3,g4,by rw[hl,g5];exact hr,hy,by omega,λh=>(by cases h),λo _=>hI1 o,hpl⟩)
            · simp[Sto.get]at h
        cW:=λx y hx hy hne b hb hb'=>by
            rw[Sto.bz]at hx hy
            split at hx
            · rename_i e;subst e
              split at hy
              · rename_i e';exact hne e'
              · simp[Sto.get]at hy
            · simp[Sto.get]at hx
        keep:=λd hd=>by
            have:d≠D:=λe=>by subst e;exact hD hd
            simp only[if_neg this];exact hw.keep d hd}
variable {d f:Nat}{i:Int}{xs:List (List AV)}
theorem agy{bytes:Nat}(hs:afH P f te sz bytes)(hby:549755813888*bytes≤140737488355328){d2 D:Nat}{row:List AV}(hx:∀e∈xs,e.length=sz)(hrl:row.length=sz)(h1:xs.flatten.all AV.one=true)(h2:row.all AV.one=true)
  (hi:0≤i∧i≤xs.length) (hc:xs.length+1≤549755813888) (hd:d2≠d) (hD:D∉[d,d2]) :
  bM P f [(d,.slice te sz xs 0 false),(d2,.slice te sz [row] 0 false)] [.own d,.int .i64 i,.own d2] (λa σ'=>a=.own D∧σ'=[(D,.slice te sz (xs.take i.toNat++row::xs.drop i.toNat) 0 false)]):=by
 intro cx w I β vs hw hr
 simp only[bI]at hr
 obtain⟨u,us,rfl,hr,u2,us2,rfl,hr2,u3,us3,rfl,hr3,rfl⟩:=hr
 have hd1:Sto.get [(d,cM.slice te sz xs 0 false),(d2,.slice te sz [row] 0 false)] d=some (.slice te sz xs 0 false):=by rw[Sto.bz,if_pos rfl]
 have hd2:Sto.get [(d,cM.slice te sz xs 0 false),(d2,.slice te sz [row] 0 false)] d2=some (.slice te sz [row] 0 false):=by rw[Sto.bz,if_neg (Ne.symm hd),Sto.bz,if_pos rfl]
 have ho1:=hw.cz d _ hd1
 have ho2:=hw.cz d2 _ hd2
 simp only[Rep]at hr hr3
 have hr2:=fq hr2
 subst hr2
 obtain⟨rfl,hr⟩:=hr
 obtain⟨rfl,hr3⟩:=hr3
 simp only[aS]at ho1 ho2
 rcases ho2 with q|⟨_,q2,_⟩|⟨vb,aoL,fh,v1,v2,v3,v4,v5,v6,v7,v8,v9,v10,v11⟩
 ·rw[q]at hr3;simp[j8]at hr3
 ·simp at q2
 simp only[List.length_singleton,Nat.one_mul,List.flatten_cons,List.flatten_nil,List.append_nil]at v1 v6
 have aj0:(fh.toList.take sz).length=sz:=by rw[dB _ _ v6,hrl]
 have asg:∀v∈fh.toList.take sz,v.oneCell'=true:=um _ _ h2 v6
 rcases ho1 with q|⟨q,q2,_⟩|⟨b,cap,arr,q1,q2,q3,q4,q5,q6,q7,q8,q9,q10,q11⟩
 ·rw[q]at hr;simp[j8]at hr
 ·subst q2
  have hi0:i=((0:Nat):Int):=by simp at hi;omega
  subst hi0
  rw[q,v1]
  refine Calls.mono (hs.2 vb aoL w.heap.size fh _ _ w v4 rfl aj0) λe w' ho=>?_
  obtain⟨v,hv,β',g1,g2⟩:=hw.row (D:=D) (.inl rfl) hD ho (ys:=[row]) rfl (λr hr=>by simp at hr;subst hr;exact hrl) (by simpa using v6)
  exact⟨v,hv,.own D,_,I,β',⟨rfl,by simp⟩,g1,g2⟩
 ·have hne:vb≠b:=λe=>by
   have:=hw.sep d2 d (by rw[hd2];rfl) (by rw[hd1];rfl) hd vb (by rw[v1];rfl)
   exact this (by rw[q1,e];rfl)
  obtain⟨k,rfl⟩:∃k:Nat,i=(k:Int):=⟨i.toNat,by omega⟩
  have hk:k≤xs.length:=by omega
  rw[q1,v1]
  have hbig:(xs.length+1)*bytes≤140737488355328:=Nat.le_trans (Nat.mul_le_mul_right _ hc) hby
  refine Calls.mono (hs.1 b xs.length cap k vb aoL arr fh _ _ _ w hk q2 q3 hne hbig q4 q5 rfl v4 rfl aj0 (um _ _ h1 q6) asg) λe w' ho=>?_
  have hsplit:bY I (xs.take k++row::xs.drop k).flatten ((arr.toList.take (xs.length*sz)).take (k*sz)++fh.toList.take sz++(arr.toList.take (xs.length*sz)).drop (k*sz)):=by
   have e0:xs.flatten=(xs.take k).flatten++(xs.drop k).flatten:=by rw[←List.flatten_append,List.take_append_drop]
   rw[e0]at q6
   obtain⟨us,ws,e1,r1,r2⟩:=(cS _ _ _).1 q6
   have hul:us.length=k*sz:=by
    rw[dB _ _ r1,jd (xs.take k) (λe he=>hx e (List.mem_of_mem_take he)),List.length_take,Nat.min_eq_left hk]
   rw[e1,List.take_left' hul,List.drop_left' hul,List.flatten_append,List.flatten_cons,List.append_assoc]
   exact(cS _ _ _).2 ⟨_,_,rfl,r1,(cS _ _ _).2 ⟨_,_,rfl,v6,r2⟩⟩
  obtain⟨v,hv,β',g1,g2⟩:=hw.row (D:=D) (.inr ⟨q11,λo=>by cases o with|none=>exact hw.lI q4|some o=>exact q10 o (by omega)⟩) hD ho (ys:=xs.take k++row::xs.drop k) (by simp;omega) (λr hr=>by
   rcases List.mem_append.1 hr with hr|hr
   ·exact hx r (List.mem_of_mem_take hr)
   ·rcases List.mem_cons.1 hr with rfl|hr
    ·exact hrl
    ·exact hx r (List.mem_of_mem_drop hr)) hsplit
  exact⟨v,hv,.own D,_,I,β',⟨rfl,by simp⟩,g1,g2⟩
theorem aa1{ops:Array Oper}{o:Oper}{a:Act}{K:Act→World→Prop}{Q:Exit→Act→World→Prop}{E:Prop}
  (hg:o.guard=none) (d x:Operand) (dT sT:TypeId) (hop:o.op=Op.call {callee:=Callee.builtin Builtin.append,args:=#[d,x],argTypes:=#[dT,sT]})
  (v u:Value) (hd:a.eval d=v) (hx:a.eval x=u) {v':Value}  (hr:(Builtin.append_ #[dT,sT] o.type #[v,u]).run P w=.ok v' w') (hK:K (a.put o.dst v') w') :
  if Region.wanted o (yielded ops a.tmps)=true then Oper.wp P o a w K Q else E:=by
 have hw:Region.wanted o (yielded ops a.tmps)=true:=by simp[Region.wanted,hg]
 rw[if_pos hw]
 unfold Oper.wp
 simp[execOp,hop,resolve,invoke,builtin,hd,hx,hr,Result.andThen]
 exact hK
theorem xb(w:World)(t e ty:TypeId)(z:Value)(ht:P.underlying t=some (.slice e))(hv:∀w,(zeroValue e).run P w=.ok z w)(b o n c:Nat)(cur:Array Value)(T:TypeId)(hg:w.heap[b]?=some (.cells cur T (0,0)))(hn:0<n)
  (hfit:o+(Builtin.zeroCells z.cells n).toList.length≤cur.size) (h1:∀v∈(Builtin.zeroCells z.cells n).toList,v.oneCell'=true) :
  (Builtin.clear_ #[t] ty #[.slice (some ⟨b,o,none⟩) n c]).run P w=.ok (.tuple #[]) (w.setRow b (cur.toList.take o++(Builtin.zeroCells z.cells n).toList++cur.toList.drop (o+(Builtin.zeroCells z.cells n).toList.length)).toArray):=by
 have hst:=run_storeCells_at P b o T (Builtin.zeroCells z.cells n).toList 0 cur w hg (by simpa using hfit) h1
 simp only[Nat.add_zero]at hst
 obtain⟨m,rfl⟩:∃m,n=m+1:=⟨n-1,by omega⟩
 simp[Builtin.clear_,run_underlying ht,hv,hst]
theorem yQ{z:Array Value}(h:∀v∈z.toList,v.oneCell'=true):∀(n:Nat),∀v∈(Builtin.zeroCells z n).toList,v.oneCell'=true:=by
 intro n
 unfold Builtin.zeroCells
 intro v hv
 simp only[Array.toList_map,List.mem_map]at hv
 obtain⟨k,hk,rfl⟩:=hv
 by_cases hz:k%z.size<z.size
 ·rw[getElem!_pos z _ hz];exact h _ (by simp)
 ·have:z.size=0:=by
   rcases Nat.eq_zero_or_pos z.size with h|h
   ·exact h
   ·exact absurd (Nat.mod_lt k h) hz
  simp[this]at hk
def afI(P:Program)(f te sz:Nat):Prop:=
 ∀(b n c i j:Nat) (arr:Array Value) (cs:List Value) (w:World),i<j→j≤n→n≤c→c≤maxLen→w.heap[b]?=some (.cells arr te (0,0))→arr.size=c*sz→arr.toList.take (n*sz)=cs→(∀v∈cs,v.oneCell'=true)→
  Calls P f #[.slice (some ⟨b,0,none⟩) n c,.int .i64 i,.int .i64 j] w (lC w b (i+(n-j)) te sz (cs.take (i*sz)++cs.drop (j*sz)))
theorem agz(hs:afI P f te sz){D:Nat}{j:Int}(hx:∀e∈xs,e.length=sz)(h1:xs.flatten.all AV.one=true)(hi:0≤i∧i<j∧j≤xs.length)(hD:D∉[d]):
  bM P f [(d,.slice te sz xs 0 false)] [.own d,.int .i64 i,.int .i64 j] (λa σ'=>a=.own D∧σ'=[(D,.slice te sz (xs.take i.toNat++xs.drop j.toNat) 0 false)]):=by
 intro cx w I β vs hw hr
 simp only[bI]at hr
 obtain⟨u,us,rfl,hr,u2,us2,rfl,hr2,u3,us3,rfl,hr3,rfl⟩:=hr
 have hd1:Sto.get [(d,cM.slice te sz xs 0 false)] d=some (.slice te sz xs 0 false):=by rw[Sto.bz,if_pos rfl]
 have ho1:=hw.cz d _ hd1
 simp only[Rep]at hr
 have hr2:=fq hr2
 have hr3:=fq hr3
 subst hr2 hr3
 obtain⟨rfl,hr⟩:=hr
 simp only[aS]at ho1
 rcases ho1 with q|⟨q,q2,_⟩|⟨b,cap,arr,q1,q2,q3,q4,q5,q6,q7,q8,q9,q10,q11⟩
 ·rw[q]at hr;simp[j8]at hr
 ·subst q2;simp at hi;omega
 ·obtain⟨k,rfl⟩:∃k:Nat,i=(k:Int):=⟨i.toNat,by omega⟩
  obtain⟨m,rfl⟩:∃m:Nat,j=(m:Int):=⟨j.toNat,by omega⟩
  have hk:k<m:=by omega
  have hm:m≤xs.length:=by omega
  rw[q1]
  refine Calls.mono (hs b xs.length cap k m arr _ w hk hm q2 q3 q4 q5 rfl (um _ _ h1 q6)) λe w' ho=>?_
  have hsplit:bY I (xs.take k++xs.drop m).flatten ((arr.toList.take (xs.length*sz)).take (k*sz)++(arr.toList.take (xs.length*sz)).drop (m*sz)):=by
   have part:∀k,k≤xs.length→bY I (xs.take k).flatten ((arr.toList.take (xs.length*sz)).take (k*sz))∧bY I (xs.drop k).flatten ((arr.toList.take (xs.length*sz)).drop (k*sz)):=λk hk=>by
    have e0:xs.flatten=(xs.take k).flatten++(xs.drop k).flatten:=by rw[←List.flatten_append,List.take_append_drop]
    rw[e0]at q6
    obtain⟨us,ws,e1,r1,r2⟩:=(cS _ _ _).1 q6
    have hul:us.length=k*sz:=by
     rw[dB _ _ r1,jd (xs.take k) (λe he=>hx e (List.mem_of_mem_take he)),List.length_take,Nat.min_eq_left hk]
    rw[e1,List.take_left' hul,List.drop_left' hul];exact⟨r1,r2⟩
   rw[List.flatten_append]
   exact(cS _ _ _).2 ⟨_,_,rfl,(part k (by omega)).1,(part m hm).2⟩
  obtain⟨v,hv,β',g1,g2⟩:=hw.row (D:=D) (.inr ⟨q11,λo=>by cases o with|none=>exact hw.lI q4|some o=>exact q10 o (by omega)⟩) hD ho (ys:=xs.take k++xs.drop m) (by simp;omega) (λr hr=>by
   rcases List.mem_append.1 hr with hr|hr
   ·exact hx r (List.mem_of_mem_take hr)
   ·exact hx r (List.mem_of_mem_drop hr)) hsplit
  exact⟨v,hv,.own D,_,I,β',⟨rfl,by simp⟩,g1,g2⟩
end Go.Proofs.YtjdopimopgpagaaGreat
