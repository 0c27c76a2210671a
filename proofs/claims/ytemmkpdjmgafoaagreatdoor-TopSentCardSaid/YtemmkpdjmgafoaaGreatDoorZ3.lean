/- A part of the proof; the last text says of what. No condition but those that stand in each. -/
import Derived.Test.YtemmkpdjmgafoaaGreatDoorZ2
import Derived.Shelf.Spec.SlicesInsertGrow
import Derived.Maps.RangeRun
import Derived.Laws.MakeOwn
import Derived.Laws.OwnMore
namespace Go.Proofs.YtemmkpdjmgafoaaGreatDoor
set_option linter.all false
section
open Go Go.Lib Go.RowKit
variable {au:Bool}
variable {P:Program}
def E9(w:World)(fH q z f:TypeId)(g o e r:Nat)(a:Addr)(d m sz n:Nat)(b:ig)(t:TypeId)(cs:hD)
  (y:P.underlying fH=some (.slice f)) (h:∀w,(Go.sizeOf f).run P w=.ok sz w) (i:w.heap[g]?=some (.cells b t (0,0))) (x:Nat.min d e=n) (s:cs.length=n*sz)
  (p:∀j v,cs[j]?=some v->w.cell? (a.add j)=some v) (l:o+cs.length<=b.size) (u:∀v∈cs,v.oneCell'=true) :
  (Builtin.copy_ #[fH,q] z #[.slice (some ⟨g,o,none⟩) e r,.slice (some a) d m]).run P w =
   .ok (goInt n) (w.setRow g (b.toList.take o++cs++b.toList.drop (o+cs.length)).toArray):=by
 have c:=run_loadCells_list (P:=P) w a cs p;have k:=run_storeCells_at P g o t cs 0 b w i (by simpa using l) u;rw[s]at c;subst x;simp[Builtin.copy_,ja y,Builtin.lenOf,Builtin.firstCells,h,c,k]
def ll(w:World)(b m ahH sz:Nat)(cells:hD)(e:Ending)(w':World):Prop:=∃c a d,e=.returned (.slice (some ⟨c,0,none⟩) m a)/\m<=a/\a<=maxLen/\w'.heap[c]?=some (.cells d ahH (0,0))/\d.size=a*sz/\d.toList.take (m*sz)=cells/\
 (c=b\/w.heap.size<=c)/\(∀k,k≠b->k<w.heap.size->w'.heap[k]?=w.heap[k]?)/\w.heap.size<=w'.heap.size/\w'.tape=w.tape/\w'.os=w.os/\w'.output=w.output/\w.drawn<=w'.drawn
variable {W:World}{b j k:Nat}{l:hD}{t:TypeId}
def G5{arr:ig}{v:Value}(c:W.heap[b]?=some (.cells arr t (0,0)))(a:arr.toList.take k=l)(h:l[j]?=some v):W.cell? ⟨b,j,none⟩=some v:=by
 subst a;rw[l8]at h;split at h
 .rw[lH]at h;simp only[World.cell?,c,h];rfl
 .cases h
def yV{arr:ig}{v:Value}(c:W.heap[b]?=some (.cells arr t (0,0)))(a:arr.toList.take k=l)(h:l[j]?=some v):W.cell? ((⟨b,0,none⟩:Addr).add j)=some v:=by
 rw[Addr.add_lit,hR];exact G5 c a h
variable {m p:Nat}
theorem XI{arr cs row:hD}(b:arr.take m=cs)(d:p<=m)(g:m+row.length<=arr.length)(f:p+row.length<=m+row.length):
  (((arr.take (p+row.length)++cs.drop p++arr.drop (p+row.length+(cs.drop p).length)).take p++row++(arr.take (p+row.length)++cs.drop p++arr.drop (p+row.length+(cs.drop p).length)).drop (p+row.length))).take (m+row.length)=cs.take p++row++cs.drop p:=by
 have e:cs.length=m:=by rw[<-b,hg];omega
 have c:(arr.take (p+row.length)++cs.drop p++arr.drop (p+row.length+(cs.drop p).length)).take p=cs.take p:=by grind
 have a:(arr.take (p+row.length)++cs.drop p++arr.drop (p+row.length+(cs.drop p).length)).drop (p+row.length)=cs.drop p++arr.drop (p+row.length+(cs.drop p).length):=by grind
 rw[c,a,<-jt,zq (by simp;omega),qt (by simp;omega)]
def WI{fl cs row:hD}(b:fl.take p=cs.take p)(d:cs.length=m)(c:p<=m)(e:m+row.length<=fl.length):
  ((fl.take p++row++fl.drop (p+row.length)).take (p+row.length)++cs.drop p++(fl.take p++row++fl.drop (p+row.length)).drop (p+row.length+(cs.drop p).length)).take (m+row.length)=cs.take p++row++cs.drop p:=by
 have a:(fl.take p++row).length=p+row.length:=by simp;omega
 rw[rP a,b,zq (by simp;omega),qt (by simp;omega)]
variable {ahH sz:Nat}{cells:hD}{w w':World}
def Ga{c:Nat}{arr:ig}(o:m<=c)(j:c<=maxLen)(e:arr.size=c*sz)(h:arr.toList.take (m*sz)=cells)(g:w'.heap[w.heap.size]?=some (.cells arr ahH (0,0)))
  (a:∀k,k<w.heap.size->w'.heap[k]?=w.heap[k]?) (p:w.heap.size<=w'.heap.size) (l:w'.tape=w.tape) (d:w'.os=w.os) (f:w'.output=w.output) (i:w.drawn<=w'.drawn) :
  ll w b m ahH sz cells (.returned (.slice (some ⟨w.heap.size,0,none⟩) m c)) w':=
 ⟨w.heap.size,c,arr,rfl,o,j,g,e,h,.inr (eb _),λk _ n=>a k n,p,l,d,f,i⟩
theorem E6(a:ig)(k:Nat):(Builtin.zeroCells a k).size=k*a.size:=by
 unfold Builtin.zeroCells
 grind
def yW(w:World)(o:Obj):(w.drew.alloc o).heap[w.heap.size]?=some o:=by
 show(w.heap.push o)[w.heap.size]?=_;simp
theorem yt(w:World)(o:Obj)(k:Nat)(a:k<w.heap.size):(w.drew.alloc o).heap[k]?=w.heap[k]?:=by
 show(w.heap.push o)[k]?=_
 grind
def Ny(P:Program)(f ahH sz bytes:Nat):Prop:=
 (∀(b d g i c j:Nat) (l e:ig) (k:TypeId) (h a:hD) (w:World),i<=d->d<=g->g<=maxLen->c≠b->(d+1)*bytes<=140737488355328->
  w.heap[b]?=some (.cells l ahH (0,0))->l.size=g*sz->l.toList.take (d*sz)=h->w.heap[c]?=some (.cells e k (0,0))->e.toList.take sz=a->a.length=sz->(∀m∈h,m.oneCell'=true)->(∀m∈a,m.oneCell'=true)->
  Calls P f #[.slice (some ⟨b,0,none⟩) d g,.int .i64 i,.slice (some ⟨c,0,none⟩) 1 j] w (ll w b (d+1) ahH sz (h.take (i*sz)++a++h.drop (i*sz))))/\
 ∀(c j b:Nat) (e:ig) (k:TypeId) (a:hD) (w:World),w.heap[c]?=some (.cells e k (0,0))->e.toList.take sz=a->a.length=sz->
  Calls P f #[.slice none 0 0,.int .i64 (0:Nat),.slice (some ⟨c,0,none⟩) 1 j] w (ll w b 1 ahH sz a)
theorem bE.row{ids:cR}{cx:dz}{I:a8}{β:Nat->Value}{σ:ah}{D:Nat}{e:Ending}{ys:List (List U)}(H:bE ⟨P,0,ids,au⟩ cx I β σ w)(S:b=w.heap.size\/(Place cx b/\∀o,I b o=none))(aq:D∉ids)
    (am:ll w b m ahH sz cells e w') (aA:ys.length=m) (aa:∀r∈ys,r.length=sz) (aC:bP I ys.flatten cells) :
    ∃v,e=.returned v/\∃β',aD I β' (.own D) v/\bE ⟨P,0,ids,au⟩ cx I β' [(D,.slice ahH sz ys 0 false)] w':=by
  obtain⟨ae,an,aN,rfl,aG,aE,aI,aK,aL,Y,aj,ay,az,ar,aw,ax⟩:=am
  have ag:∀o,I b o=none:=λo=>by
    rcases S with rfl|S
    · exact H.ij (eb _) o
    · exact S.2 o
  have aB:∀o,I ae o=none:=λo=>by
    rcases Y with rfl|Y
    · exact ag o
    · exact H.ij Y o
  have aJ:Place cx ae:=by
    rcases Y with rfl|Y
    · rcases S with rfl|S
      · exact .inl H.size
      · exact S.1
    · exact .inl (gP H.size Y)
  refine⟨_,rfl,λx=>if x=D then .slice (some ⟨ae,0,none⟩) m an else β x,by simp[aD,gU],?_⟩
  exact{good:=λO o v Q=>by
            have ak:=H.good O o v Q;have X:O≠b:=λe=>by subst e;rw[ag o]at Q;cases Q
            have ao:O<w.heap.size:=zG λh=>by rw[H.ij (by omega)]at Q;cases Q
            simp only[World.cell?]at ak ⊢;rw[aj O X ao];exact ak
        fA:=λO v Q=>by
            obtain⟨es,clock,h1,Z⟩:=H.fA O v Q;have X:O≠b:=λe=>by subst e;rw[ag none]at Q;cases Q
            exact⟨es,clock,by rw[aj O X (gZ h1)];exact h1,Z⟩
        fV:=H.fV
        gm:=H.gm
        frame:=λO h1 Z=>by
            have X:O≠b:=λe=>by
              subst e;rcases S with h|⟨h,_⟩
              · have:=H.size;omega
              · rcases h with h|h
                · omega
                · exact Z h
            rw[aj O X (vZ h1 H.size)];exact H.frame O h1 Z
        size:=gP H.size ay
        tape:=az.trans H.tape
        os:=ar.trans H.os
        output:=aw.trans H.output
        drawn:=gP H.drawn ax
        bY:=λx o h=>by
            rw[aFc]at h;split at h
            · rename_i e;subst e;injection h with h;subst h
              simp only[bl,fE]
              grind
            · simp[ah.get]at h
        cQ:=λx y ab aa X b S aH=>by
            rw[aFc]at ab aa;split at ab
            · rename_i e;subst e
              split at aa
              · omega
              · simp[ah.get]at aa
            · simp[ah.get]at ab
        tab:=H.tab,keep:=λd hd=>by
            have:d≠D:=λe=>by subst e;exact aq hd
            simp only[bw this];exact H.keep d hd}
variable {f:Nat}{i:Int}{xs:List (List U)}
theorem WJ{bytes:Nat}(E:Ny P f ahH sz bytes)(ax:549755813888*bytes<=140737488355328){d d2 D:Nat}{row:List U}(s:∀e∈xs,e.length=sz)(x:row.length=sz)(az:xs.flatten.all U.one=true)(Z:row.all U.one=true)
  (hi:0<=i/\i<=xs.length) (aj:xs.length+1<=549755813888) (V:d2≠d) (H:D∉[d,d2]) :
  cz au P f [(d,.slice ahH sz xs 0 false),(d2,.slice ahH sz [row] 0 false)] [.own d,.int .i64 i,.own d2] (λa Y=>a=.own D/\Y=[(D,.slice ahH sz (xs.take i.toNat++row::xs.drop i.toNat) 0 false)]):=by
 intro aX w A a5 a2 g c;simp only[bD]at c;obtain⟨aZ,G,rfl,c,aR,aU,rfl,u,aT,aC,rfl,l,rfl⟩:=c;have O:ah.get [(d,b4.slice ahH sz xs 0 false),(d2,.slice ahH sz [row] 0 false)] d=some (.slice ahH sz xs 0 false):=by rw[aFc,bx rfl]
 have M:ah.get [(d,b4.slice ahH sz xs 0 false),(d2,.slice ahH sz [row] 0 false)] d2=some (.slice ahH sz [row] 0 false):=by rw[aFc,bw (et V),aFc,bx rfl]
 have L:=g.bY d _ O;have N:=g.bY d2 _ M;simp only[aD]at c l;have u:=g1 u;subst u;obtain⟨rfl,c⟩:=c;obtain⟨rfl,l⟩:=l;simp only[bl]at L N;rcases N with n|⟨_,h,_⟩|⟨o,S,j,p,aN,aV,Q,aW,m,aB,aH,aI,aE,aG⟩
 .rw[n]at l;simp[gU]at l
 .simp at h
 simp only[uc,qv,kk,List.flatten_nil,l5]at p m;have T:(j.toList.take sz).length=sz:=by rw[jG _ _ m,x]
 have aw:∀q∈j.toList.take sz,q.oneCell'=true:=yA _ _ Z m;rcases L with n|⟨n,h,_⟩|⟨b,aY,v,C,h,ab,F,ae,t,aJ,aK,aL,ak,am⟩
 .rw[n]at c;simp[gU]at c
 .subst h;have ao:i=((0:Nat):Int):=by simp at hi;omega
  subst ao;rw[n,p];refine hV (E.2 o S w.heap.size j _ _ w Q rfl T) λe w' r=>?_;obtain⟨q,B,X,J,I⟩:=g.row (D:=D) (.inl rfl) H r (ys:=[row]) rfl (λz c=>by simp at c;subst c;exact x) (by simpa using m)
  grind
 .have aa:o≠b:=λe=>by
   have:=g.sep d2 d (by rw[M];rfl) (by rw[O];rfl) V o (by rw[p];rfl);exact this (by rw[C,e];rfl)
  obtain⟨k,rfl⟩:∃k:Nat,i=(k:Int):=⟨i.toNat,by omega⟩;have W:k<=xs.length:=by omega
  rw[C,p];have aq:(xs.length+1)*bytes<=140737488355328:=gP (hp _ aj) ax;refine hV (E.1 b xs.length aY k o S v j _ _ _ w W h ab aa aq F ae rfl Q rfl T (yA _ _ az t) aw) λe w' r=>?_;have ar:bP A (xs.take k++row::xs.drop k).flatten ((v.toList.take (xs.length*sz)).take (k*sz)++j.toList.take sz++(v.toList.take (xs.length*sz)).drop (k*sz)):=by
   have an:xs.flatten=(xs.take k).flatten++(xs.drop k).flatten:=by rw[<-qC,o6]
   rw[an]at t;obtain⟨G,a4,ay,K,ag⟩:=(h8 _ _ _).1 t;have R:G.length=k*sz:=by
    rw[jG _ _ K,p4 (xs.take k) (λe aA=>s e (ue aA)),hg,o7 W]
   rw[ay,rP R,List.drop_left' R,qC,kk,jt];exact(h8 _ _ _).2 ⟨_,_,rfl,K,(h8 _ _ _).2 ⟨_,_,rfl,m,ag⟩⟩
  obtain⟨q,B,X,J,I⟩:=g.row (D:=D) (.inr ⟨am,λy=>by cases y with|none=>exact g.oQ F|some y=>exact ak y (by omega)⟩) H r (ys:=xs.take k++row::xs.drop k) (by simp;omega) (λz c=>by
   rcases dG.1 c with c|c
   .exact s z (ue c)
   .rcases c5.1 c with rfl|c
    .exact x
    .exact s z (wA c)) ar
  exact⟨q,B,.own D,_,A,X,⟨rfl,by simp⟩,J,I⟩
def Vs{e:jB}{o:Oper}{a:Act}{K:Act->World->Prop}{Q:Exit->Act->World->Prop}{E:Prop}
  (k:o.guard=none) (d x:Operand) (fH c:TypeId) (n:o.op=Op.call {callee:=Callee.builtin Builtin.append,args:=#[d,x],argTypes:=#[fH,c]})
  (g f:Value) (m:a.eval d=g) (j:a.eval x=f) {b:Value}  (h:(Builtin.append_ #[fH,c] o.type #[g,f]).run P w=.ok b w') (l:K (a.put o.dst b) w') :
  if Region.wanted o (yielded e a.tmps)=true then Oper.wp P o a w K Q else E:=by
 have i:Region.wanted o (yielded e a.tmps)=true:=by simp[Region.wanted,k]
 rw[bx i];unfold Oper.wp;simp[execOp,n,resolve,invoke,builtin,m,j,h,Result.andThen];exact l
def Kn(w:World)(t e l:TypeId)(a:Value)(h:P.underlying t=some (.slice e))(g:∀w,(zeroValue e).run P w=.ok a w)(b o n c:Nat)(d:ig)(T:TypeId)(i:w.heap[b]?=some (.cells d T (0,0)))(p:0<n)
  (j:o+(Builtin.zeroCells a.cells n).toList.length<=d.size) (k:∀v∈(Builtin.zeroCells a.cells n).toList,v.oneCell'=true) :
  (Builtin.clear_ #[t] l #[.slice (some ⟨b,o,none⟩) n c]).run P w=.ok (.tuple #[]) (w.setRow b (d.toList.take o++(Builtin.zeroCells a.cells n).toList++d.toList.drop (o+(Builtin.zeroCells a.cells n).toList.length)).toArray):=by
 have f:=run_storeCells_at P b o T (Builtin.zeroCells a.cells n).toList 0 d w i (by simpa using j) k;simp only[Nat.add_zero]at f;obtain⟨m,rfl⟩:∃m,n=m+1:=⟨n-1,by omega⟩;simp[Builtin.clear_,ja h,g,f]
theorem Ky{a:ig}(h:∀v∈a.toList,v.oneCell'=true):∀(n:Nat),∀v∈(Builtin.zeroCells a n).toList,v.oneCell'=true:=by
 intro n;unfold Builtin.zeroCells;intro v b;simp only[Array.toList_map,dg]at b;obtain⟨k,c,rfl⟩:=b;by_cases d:k%a.size<a.size
 .grind
 .have:a.size=0:=by
   rcases vY a.size with h|h
   .exact h
   .exact absurd (Nat.mod_lt k h) d
  simp[this]at c
def Nz(P:Program)(f ahH sz:Nat):Prop:=
 ∀(b a c i j:Nat) (e:ig) (d:hD) (w:World),i<j->j<=a->a<=c->c<=maxLen->w.heap[b]?=some (.cells e ahH (0,0))->e.size=c*sz->e.toList.take (a*sz)=d->(∀g∈d,g.oneCell'=true)->
  Calls P f #[.slice (some ⟨b,0,none⟩) a c,.int .i64 i,.int .i64 j] w (ll w b (i+(a-j)) ahH sz (d.take (i*sz)++d.drop (j*sz)))
theorem WK(G:Nz P f ahH sz){d D:Nat}{j:Int}(s:∀e∈xs,e.length=sz)(S:xs.flatten.all U.one=true)(hi:0<=i/\i<j/\j<=xs.length)(K:D∉[d]):
  cz au P f [(d,.slice ahH sz xs 0 false)] [.own d,.int .i64 i,.int .i64 j] (λa F=>a=.own D/\F=[(D,.slice ahH sz (xs.take i.toNat++xs.drop j.toNat) 0 false)]):=by
 intro am w h aw aq l c;simp only[bD]at c;obtain⟨an,u,rfl,c,ag,ak,rfl,o,aj,W,rfl,p,rfl⟩:=c;have O:ah.get [(d,b4.slice ahH sz xs 0 false)] d=some (.slice ahH sz xs 0 false):=by rw[aFc,bx rfl]
 have y:=l.bY d _ O;simp only[aD]at c;have o:=g1 o;have p:=g1 p;subst o p;obtain⟨rfl,c⟩:=c;simp only[bl]at y;rcases y with B|⟨B,v,_⟩|⟨b,aY,g,E,v,H,t,I,n,Y,Z,ae,L,M⟩
 .rw[B]at c;simp[gU]at c
 .grind
 .obtain⟨k,rfl⟩:∃k:Nat,i=(k:Int):=⟨i.toNat,by omega⟩;obtain⟨m,rfl⟩:∃m:Nat,j=(m:Int):=⟨j.toNat,by omega⟩;have q:k<m:=by omega
  have A:m<=xs.length:=by omega
  rw[E];refine hV (G b xs.length aY k m g _ w q A v H t I rfl (yA _ _ S n)) λe w' C=>?_;have Q:bP h (xs.take k++xs.drop m).flatten ((g.toList.take (xs.length*sz)).take (k*sz)++(g.toList.take (xs.length*sz)).drop (m*sz)):=by
   have part:∀k,k<=xs.length->bP h (xs.take k).flatten ((g.toList.take (xs.length*sz)).take (k*sz))/\bP h (xs.drop k).flatten ((g.toList.take (xs.length*sz)).drop (k*sz)):=λk q=>by
    have N:xs.flatten=(xs.take k).flatten++(xs.drop k).flatten:=by rw[<-qC,o6]
    rw[N]at n;obtain⟨u,ar,R,x,J⟩:=(h8 _ _ _).1 n;have z:u.length=k*sz:=by
     rw[jG _ _ x,p4 (xs.take k) (λe T=>s e (ue T)),hg,o7 q]
    rw[R,rP z,List.drop_left' z];exact⟨x,J⟩
   rw[qC];exact(h8 _ _ _).2 ⟨_,_,rfl,(part k (by omega)).1,(part m A).2⟩
  obtain⟨ao,X,ax,ab,aa⟩:=l.row (D:=D) (.inr ⟨M,λr=>by cases r with|none=>exact l.oQ t|some r=>exact L r (by omega)⟩) K C (ys:=xs.take k++xs.drop m) (by simp;omega) (λV c=>by
   rcases dG.1 c with c|c
   .grind
   .exact s V (wA c)) Q
  grind
end
section
open Go
section
section redo
variable {G:bI}{cx:dz}{I:a8}{β:Nat->Value}{σ:ah}{w:World}
variable {M news:cR}
theorem bE.redo(h:bE G cx I β σ w){σ2:ah}{dD:Nat->Value}{w':World}{b:Nat}(S:fR w w' b)(ar:∀o,I b o=none)(aB:∀x,x∉M->(σ.get x).isSome->b∉ct (β x))(ax:Place cx b)
    (aj:∀x,x∉M->σ2.get x=σ.get x) (am:∀x,x∉news->dD x=β x) (an:∀x∈news,x∈M/\x∉G.ids) (aA:∀x o,x∉M->σ.get x=some o->kR news.contains o=false)
    (aC:∀x∈M,∀o,σ2.get x=some o->bl cx I dD w' x o)
    (aq:∀x∈M,(σ2.get x).isSome->∀c∈ct (dD x),∃y∈M,(σ.get y).isSome/\c∈ct (β y))
    (aD:∀x∈M,∀y∈M,x≠y->(σ2.get x).isSome->(σ2.get y).isSome->∀c∈ct (dD x),c∉ct (dD y)):bE G cx I dD σ2 w':=by
  have ak:∀x,x∉M->dD x=β x:=λx H=>am x λX=>H (an x X).1
  exact{
    good:=λO o v Y=>by
      have h1:=h.good O o v Y;have az:O<w.heap.size:=zu w _ h1;have ab:O≠b:=λe=>by subst e;rw[ar]at Y;cases Y
      rw[World.cell?_of_block (w:=w) (S.block O ab az)];exact h1
    fA:=λO v Y=>by
      have ab:O≠b:=λe=>by subst e;rw[ar]at Y;cases Y
      obtain⟨es,clock,h1,ay⟩:=h.fA O v Y;exact⟨es,clock,by rw[S.block O ab (gZ h1)];exact h1,ay⟩
    fV:=h.fV
    gm:=h.gm
    frame:=λO aw X=>by
      have:O≠b:=λe=>by
        subst e;rcases ax with q|q
        · omega
        · exact X q
      rw[S.block O this (by have:=h.size;omega)];exact h.frame O aw X
    size:=gP h.size S.size
    tape:=S.tape.trans h.tape
    os:=S.os.trans h.os
    output:=S.output.trans h.output
    drawn:=gP h.drawn S.drawn
    bY:=λx o H=>by
      by_cases Q:x∈M
      · grind
      · rw[aj x Q]at H
        have h1:=(h.bY x o H).beta (β':=dD) (p:=news.contains) (λd hd=>am d (by simpa using hd)) (by simpa using λX=>Q (an x X).1) (aA x o Q H);exact h1.keep S rfl (by rw[ak x Q];exact aB x Q (by rw[H];rfl)) (b1.refl I) (λ_ _ _=>rfl) (fQ.refl dD)
    cQ:=λx y H aa ab c ag ae=>by
      by_cases Q:x∈M
      · by_cases Z:y∈M
        · grind
        · obtain⟨z,akw,alm,ao⟩:=aq x Q H c ag
          rw[aj y Z]at aa;rw[ak y Z]at ae;exact h.cQ z y alm aa (λe=>Z (e▸akw)) c ao ae
      · rw[aj x Q]at H
        rw[ak x Q]at ag;by_cases Z:y∈M
        · obtain⟨z,akw,alm,ao⟩:=aq y Z aa c ae
          exact h.cQ x z H alm (λe=>Q (e▸akw)) c ag ao
        · rw[aj y Z]at aa
          rw[ak y Z]at ae;exact h.cQ x y H aa ab c ag ae
    tab:=h.tab,keep:=λx H=>by
      have:x∉news:=λX=>(an x X).2 H;rw[am x this];exact h.keep x H}
def bE.zB(h:bE G cx I β σ w){σ2:ah}{dD:Nat->Value}
  (X:∀x,x∉M->σ2.get x=σ.get x) (Q:∀x,x∉news->dD x=β x) (S:∀x∈news,x∈M/\x∉G.ids) (O:∀x o,x∉M->σ.get x=some o->kR news.contains o=false)
  (Z:∀x∈M,∀o,σ2.get x=some o->bl cx I dD w x o)
  (Y:∀x∈M,(σ2.get x).isSome->∀c∈ct (dD x),∃y∈M,(σ.get y).isSome/\c∈ct (β y))
  (aa:∀x∈M,∀y∈M,x≠y->(σ2.get x).isSome->(σ2.get y).isSome->∀c∈ct (dD x),c∉ct (dD y)):bE G cx I dD σ2 w:=
 h.redo (b:=w.heap.size) ⟨λ_ _ _=>rfl,eb _,rfl,rfl,rfl,eb _⟩ (λo=>h.ij (eb _) o) (λx _ H e=>by
  obtain⟨o,H⟩:=hZ.1 H;exact absurd (h.rB H e) (by omega)) (.inl h.size) X Q S O Z Y aa
end redo
section rows
variable {cx:dz}{I:a8}{w:World}
def g4.length:∀{dV:List gc} {H:hD},g4 cx I w dV H->H.length=dV.length
 |[],_,h=>by rw[show _=[]from h];rfl
 |x::r,_,h=>by obtain⟨u,Q,rfl,_,_,O⟩:=h;simp[g4.length O]
def g4.get:∀{dV:List gc} {H:hD},g4 cx I w dV H->∀{i:Nat} {x:gc},dV[i]?=some x->∃v,H[i]?=some v/\h4 cx I w x v
 |[],_,_,i,x,hi=>by simp at hi
 |y::r,_,h,i,x,hi=>by
  obtain⟨u,S,rfl,Q,_,O⟩:=h;cases i with
  |zero=>simp at hi;subst hi;exact⟨u,rfl,Q⟩
  |succ i=>simp at hi ⊢;exact O.get hi
def g4.ne:∀{dV:List gc} {Q:hD},g4 cx I w dV Q->∀{i j:Nat} {u v:Value} {b:Nat},i≠j->Q[i]?=some u->Q[j]?=some v->bR u=some b->bR v≠some b
 |[],_,h,i,j,u,v,b,_,hi,_,_=>by rw[show _=[]from h]at hi;simp at hi
 |y::r,_,h,i,j,u,v,b,X,hi,H,hu=>by
  obtain⟨z,Z,rfl,aa,S,Y⟩:=h;cases i with
  |zero=>
   cases j with
   |zero=>exact absurd rfl X
   |succ j=>
    simp at hi H;subst hi
    intro O;exact S b hu (iB.2 ⟨v,nw H,O⟩)
  |succ i=>
   cases j with
   |zero=>
    simp at hi H;subst H
    intro O;exact S b O (iB.2 ⟨u,nw hi,hu⟩)
   |succ j=>simp at hi H;exact Y.ne (λe=>X (by rw[e])) hi H hu
theorem g4.set:∀{dV:List gc} {Q:hD},g4 cx I w dV Q->∀{i:Nat} {x:gc} {v:Value},h4 cx I w x v->(∀j u b,j≠i->Q[j]?=some u->bR v=some b->bR u≠some b)->g4 cx I w (dV.set i x) (Q.set i v)
 |[],_,h,i,x,v,_,_=>by rw[show _=[]from h];simp[g4]
 |y::r,_,h,i,x,v,Z,hd=>by
  obtain⟨z,ab,rfl,ae,ag,aa⟩:=h;cases i with
  |zero=>
   refine⟨v,ab,rfl,Z,λb O Y=>?_,aa⟩;obtain⟨u,H,X⟩:=iB.1 Y;obtain⟨j,S⟩:=List.getElem?_of_mem H;exact hd (j+1) u b (by simp) (by simpa using S) O X
  |succ i=>
   refine⟨z,ab.set i v,rfl,ae,λb O Y=>?_,aa.set Z λj u b S H O=>hd (j+1) u b (λe=>S (by simpa using e)) (by simpa using H) O⟩;obtain⟨u,H,X⟩:=iB.1 Y;rcases List.mem_or_eq_of_mem_set H with H|rfl
   .grind
   .exact hd 0 z b (by simp) rfl X O
theorem g4.push:∀{dV:List gc} {Q:hD},g4 cx I w dV Q->∀{x:gc} {v:Value},h4 cx I w x v->(∀u b,u∈Q->bR v=some b->bR u≠some b)->g4 cx I w (dV++[x]) (Q++[v])
 |[],_,h,x,v,O,_=>by rw[show _=[]from h];exact⟨v,[],rfl,O,by simp,rfl⟩
 |y::r,_,h,x,v,O,hd=>by
  obtain⟨z,X,rfl,Y,ab,S⟩:=h;refine⟨z,X++[v],rfl,Y,λb aa Z=>?_,S.push O λu b H=>hd u b (wz _ H)⟩;obtain⟨u,H,ae⟩:=iB.1 Z;rcases dG.1 H with H|H
  .grind
  .grind
def mm(vs:ig):ct (.tuple vs)=vs.toList.filterMap bR:=rfl
theorem FO{a:hD}{i:Nat}{v:Value}{b:Nat}(h:b∈(a.set i v).filterMap bR):b∈a.filterMap bR\/bR v=some b:=by grind
def gc.obj:gc->b4
 |.sl T sz xs=>.slice T sz xs 0 false
 |.mp K E H=>.map K E H
def gc.empty:gc->gc
 |.sl T sz _=>.sl T sz []
 |.mp _ _ _=>.sl 0 0 []
def gc.ZU(x:gc):h4 cx I w x.empty (.slice none 0 0):=by cases x<;>exact .inl ⟨rfl,rfl⟩
theorem h4.obj{x:gc}{v:Value}{β:Nat->Value}{d:Nat}(h:h4 cx I w x v)(hd:β d=v):bl cx I β w d x.obj:=by
 cases x with
 |sl T sz xs=>
  simp only[gc.obj,bl,hd];rcases h with⟨h,rfl⟩|⟨b,aY,arr,Y,H,O,S,X,Q,Z,aa,ab⟩
  .grind
  .grind
 |mp K E ae=>
  simp only[gc.obj,bl,hd];obtain⟨r,es,clock,Y,H,O,S,X,Q⟩:=h;exact .inr ⟨r,es,clock,Y,H,O,S,X,Q⟩
def aFG{T sz:Nat}{xs:List (List U)}{bL:Bool}{β:Nat->Value}{d:Nat}(h:bl cx I β w d (.slice T sz xs 0 bL))(l:β d≠.nilFunc):h4 cx I w (.sl T sz xs) (β d):=by
 simp only[bl]at h;rcases h with h|⟨h,rfl,_⟩|⟨m,aY,k,n,a,b,e,f,c,g,_,_,i,j⟩
 .exact absurd h l
 .exact .inl ⟨h,rfl⟩
 .exact .inr ⟨m,aY,k,n,a,b,e,f,c,g,λo=>i o (by omega),j⟩
def h4.ne{x:gc}{v:Value}(h:h4 cx I w x v):v≠.nilFunc/\(gU v=true\/l3 v=true):=by
 cases x with
 |sl T sz xs=>
  rcases h with⟨h,_⟩|⟨b,aY,arr,H,_⟩
  .rw[h];simp[gU]
  .rw[H];simp[gU]
 |mp K E O=>obtain⟨r,es,clock,H,_⟩:=h;rw[H];simp[l3]
def h4.yK{x:gc}{v:Value}(h:h4 cx I w x v){b:Nat}(H:b∈ct v):bR v=some b:=by
 cases v with
 |tuple vs=>
  have:=h.ne.2;simp[gU,l3]at this
 |_=>simpa [ct]using H
end rows
def b4.q9(e2:Nat)(H:Option (iG×Nat)):b4->b4
 |.hM T _ n _=>.hM T e2 n H
 |.fL T sz xs O _ _=>.fL T sz xs O e2 H
 |.eo K E _ keys _ Q=>.eo K E e2 keys H Q
 |o=>o
def b4.rZ:b4->Option (Nat×Option (iG×Nat))
 |.hM _ e _ h=>some (e,h)
 |.fL _ _ _ _ e h=>some (e,h)
 |.eo _ _ e _ h _=>some (e,h)
 |_=>none
def bl.outer{cx:dz}{I:a8}{β:Nat->Value}{w:World}{d:Nat}{o:b4}{e:Nat}{ag:Option (iG×Nat)}(O:o.rZ=some (e,ag))(h:bl cx I β w d o):
  β d=.nilFunc\/∃H aa,β e=.tuple H/\pk β H.toList aa ag/\∃b,bR (β d)=some b:=by
 cases o<;>simp only[b4.rZ,ee,kJ]at O<;>first|(cases O;done)|skip
 .obtain⟨rfl,rfl⟩:=O;simp only[bl]at h;rcases h with q|⟨b,aY,arr,H,Q,ae,Y,Z,ab,X,aj,S,ak,am⟩
  .exact .inl q
  .exact .inr ⟨H,_,X,S,b,by rw[Q];rfl⟩
 .obtain⟨rfl,rfl⟩:=O;simp only[bl]at h;rcases h with q|⟨b,aY,arr,H,aa,vs,Q,ae,Y,Z,ab,X,aj,S,ak⟩
  .exact .inl q
  .exact .inr ⟨H,_,X,S,b,by rw[Q];rfl⟩
 .obtain⟨rfl,rfl⟩:=O;simp only[bl]at h;rcases h with q|⟨r,es,clock,H,aa,Q,ae,Y,Z,ab,X,aj,S⟩
  .exact .inl q
  .exact .inr ⟨H,_,Y,Z,r,by rw[Q];rfl⟩
theorem bl.N9{cx:dz}{I:a8}{β dD:Nat->Value}{w:World}{d:Nat}{o:b4}{e e2:Nat}{Y X:Option (iG×Nat)}{S O:ig}(H:o.rZ=some (e,Y))(h:bl cx I β w d o)(hd:dD d=β d)
  (aw:β e=.tuple S) (aq:dD e2=.tuple O) (ar:O.size=S.size) (ab:∀Q,pk β S.toList Q Y->pk dD O.toList Q X):bl cx I dD w d (o.q9 e2 X):=by
 cases o<;>simp only[b4.rZ,ee,kJ]at H<;>first|(cases H;done)|skip
 .obtain⟨rfl,rfl⟩:=H;simp only[bl,b4.q9,hd]at h ⊢
  grind
 .obtain⟨rfl,rfl⟩:=H;simp only[bl,b4.q9,hd]at h ⊢;rcases h with q|⟨b,aY,arr,ax,Q,vs,aa,ak,ae,ag,aj,Z,am,an,ao⟩
  .exact .inl q
  .rw[aw]at Z;cases Z
   exact .inr ⟨b,aY,arr,O,Q,vs,aa,ak,ae,ag,aj,aq,ar.trans am,ab _ an,ao⟩
 .obtain⟨rfl,rfl⟩:=H;simp only[bl,b4.q9,hd]at h ⊢
  grind
section take
variable {G:bI}{cx:dz}{I:a8}{β:Nat->Value}{σ:ah}{w:World}
def vR(σ:ah)(d e e2 t:Nat)(ajC:b4)(dV:List gc)(i:Nat)(x:gc):ah:=(t,x.obj)::(e2,.de (dV.set i x.empty))::(d,ajC.q9 e2 (some (some i,t)))::σ.minus [d,e]
variable {M:cR}{aeo amj:b4}
def r0{σ:ah}{a b c:Nat}{d:b4}(x:Nat):ah.get ((a,amj)::(b,aeo)::(c,d)::σ.minus M) x=if a=x then some amj else if b=x then some aeo else if c=x then some d else if x∈M then none else σ.get x:=by
 rw[aFc,aFc,aFc,aFh]
def pF{σ:ah}{a b:Nat}(x:Nat):ah.get ((a,amj)::(b,aeo)::σ.minus M) x=if a=x then some amj else if b=x then some aeo else if x∈M then none else σ.get x:=by
 rw[aFc,aFc,aFh]
variable {ajC:b4}
theorem bE.take(h:bE G cx I β σ w){d e e2 t i:Nat}{dV:List gc}{x:gc}(hd:σ.get d=some ajC)(an:ajC.rZ=some (e,none))(aa:σ.get e=some (.de dV))(aB:dV[i]?=some x)(aG:β d≠.nilFunc)
  (aC:σ.get t=none) (aH:σ.get e2=none) (aJ:t≠e2) (bb:t∉G.ids) (a4:e2∉G.ids) (aD:σ.clean [t,e2].contains=true) :
  ∃Q:ig,β e=.tuple Q/\∃v,Q[i]?=some v/\h4 cx I w x v/\bE G cx I (λy=>if y=t then v else if y=e2 then .tuple (Q.setIfInBounds i (.slice none 0 0))else β y) (vR σ d e e2 t ajC dV i x) w:=by
 rcases(h.bY d ajC hd).outer an with q|⟨Q,aw,X,aX,bd,aW⟩
 .exact absurd q aG
 have ay:=h.bY e _ aa;simp only[bl,X,tK,reduceCtorEq,iT]at ay;obtain⟨aZ,rfl,am⟩:=ay;obtain⟨v,ab,ae⟩:=am.get aB;refine⟨Q,X,v,by simpa using ab,ae,?_⟩;have ar:∀y,(σ.get y).isSome->y≠t/\y≠e2:=λy O=>⟨λe=>(by subst e;rw[aC]at O;cases O),λe=>(by subst e;rw[aH]at O;cases O)⟩;have az:=ar d (by rw[hd];rfl);have be:=ar e (by rw[aa];rfl);have ib:d≠e:=λZ=>by subst Z;rw[hd]at aa;cases aa;cases an
 have aL:i<Q.toList.length:=(k0.1 ab).1
 let dD:Nat->Value:=λy=>if y=t then v else if y=e2 then .tuple (Q.setIfInBounds i (.slice none 0 0))else β y
 have ag:dD t=v:=by show(if _ then _ else _)=_;rw[bx rfl]
 have ak:dD e2=.tuple (Q.setIfInBounds i (.slice none 0 0)):=by show(if _ then _ else _)=_;rw[bw (et aJ),bx rfl]
 have aI:dD d=β d:=by show(if _ then _ else _)=_;rw[bw az.1,bw az.2]
 have fB:(Q.setIfInBounds i (.slice none 0 0)).toList=Q.toList.set i (.slice none 0 0):=by simp
 refine h.zB (M:=[d,e,e2,t]) (news:=[t,e2]) (dD:=dD) (λy O=>?_) (λy O=>?_) (λy O=>?_) (λy o _ S=>(aFi aD y o S).2) (λy O o S=>?_) (λy O aj c H=>?_) (λy O z hz a7 aY aj c H ax=>?_)
 .simp only[c5,hr,hG,not_or]at O;rw[vR,r0,bw (et O.2.2.2),bw (et O.2.2.1),bw (et O.1),bw (by simp[O.1,O.2.1])]
 .grind
 .grind
 .rw[vR,r0]at S;split at S
  .rename_i Z;subst Z;cases S;exact ae.obj ag
  .split at S
   .rename_i Z;subst Z;cases S
    simp only[bl];refine .inr ⟨_,ak,?_⟩;rw[fB];exact am.set x.ZU λj u b _ _ aE=>by cases aE
   .split at S
    .rename_i Z;subst Z;cases S
     refine(h.bY d ajC hd).N9 an aI X ak (by simp) λaw aT=>?_;rw[show aw=Q.toList from aT,fB];refine⟨by simpa using aL,by rw[ag];exact ae.ne.1,?_⟩;rw[ag,List.set_set];apply mF
     grind
    .grind
 .simp only[c5,hr,hG]at O;rw[vR,r0]at aj;by_cases ba:y=d
  .grind
  by_cases aR:y=t
  .subst aR;rw[ag]at H;exact⟨e,by simp,by rw[aa];rfl,by rw[X,mm];exact iB.2 ⟨v,nw ab,ae.yK H⟩⟩
  by_cases aN:y=e2
  .subst aN;rw[ak,mm,fB]at H;rcases FO H with H|H
   .exact⟨e,by simp,by rw[aa];rfl,by rw[X,mm];exact H⟩
   .cases H
  .grind
 ·
  have a5:∀y,y∈[d,e,e2,t]->(ah.get (vR σ d e e2 t ajC dV i x) y).isSome->y=d\/y=e2\/y=t:=λy O aj=>by
   rw[vR,r0]at aj;simp only[c5,hr,hG]at O;rcases O with rfl|rfl|rfl|rfl
   .exact .inl rfl
   .grind
   .omega
   .omega
  have bc:∀c,c∈ct (β d)->c∉ct (β e):=h.cQ d e (by rw[hd];rfl) (by rw[aa];rfl) ib
  have wW:∀c,c∈ct (dD e2)->∃j u,j≠i/\Q.toList[j]?=some u/\bR u=some c:=λc H=>by
   rw[ak,mm,fB]at H;obtain⟨u,aq,ao⟩:=iB.1 H;obtain⟨j,Y⟩:=List.getElem?_of_mem aq;rw[r7]at Y;split at Y
   .rename_i a2;cases Y;cases ao
   .grind
  have aU:∀c,c∈ct (dD e2)->c∈ct (β e):=λc H=>by
   obtain⟨j,u,_,Y,aq⟩:=wW c H;rw[X,mm];exact iB.2 ⟨u,nw Y,aq⟩
  have aA:∀c,c∈ct (dD t)->bR v=some c:=λc H=>by rw[ag]at H;exact ae.yK H
  have aV:∀c,c∈ct (dD t)->c∈ct (β e):=λc H=>by
   rw[X,mm];exact iB.2 ⟨v,nw ab,aA c H⟩
  have a9:∀c,c∈ct (dD e2)->c∈ct (dD t)->False:=λc H ax=>by
   obtain⟨j,u,Y,aK,ao⟩:=wW c H;exact am.ne Y aK ab ao (aA c ax)
  grind
theorem bE.back(h:bE G cx I β σ w){d e e2 t i:Nat}{dV:List gc}{T sz:Nat}{xs:List (List U)}{bL:Bool}(hd:σ.get d=some ajC)(X:ajC.rZ=some (e,some (some i,t)))(S:σ.get e=some (.de dV))
  (Q:σ.get t=some (.slice T sz xs 0 bL)) (aB:σ.get e2=none) (aD:e2∉G.ids) (az:σ.clean [e2].contains=true) :
  ∃dD,(∀y,y≠e2->dD y=β y)/\bE G cx I dD ((e2,.de (dV.set i (.sl T sz xs)))::(d,ajC.q9 e2 none)::σ.minus [d,e,t]) w:=by
 have ak:∀y,(σ.get y).isSome->y≠e2:=λy H e=>by subst e;rw[aB]at H;cases H
 have ao:=ak d (by rw[hd];rfl);have a9:=ak e (by rw[S];rfl);have aT:=ak t (by rw[Q];rfl);have ib:d≠e:=λaa=>by subst aa;rw[hd]at S;cases S;cases X
 have aL:d≠t:=λaa=>by subst aa;rw[hd]at Q;cases Q;cases X
 have aK:e≠t:=λaa=>by subst aa;rw[S]at Q;cases Q
 have aH:∃u:Value,(ajC.rZ=some (e,some (some i,t))->∀dD:Nat->Value,(∀y,y≠e2->dD y=β y)->dD e2=u->bl cx I dD w d (ajC.q9 e2 none)/\bl cx I dD w e2 (.de (dV.set i (.sl T sz xs))))/\∀c∈ct u,c∈ct (β e)\/c∈ct (β t):=by
  rcases(h.bY d ajC hd).outer X with q|⟨Y,a2,ab,⟨aW,ay,aU⟩,bd,aV⟩
  .refine⟨.nilFunc,λ_ dD ar ae=>⟨?_,by simp only[bl];exact .inl ae⟩,by simp[FA]⟩;have:dD d=.nilFunc:=by rw[ar d ao];exact q
   cases ajC<;>simp only[b4.rZ,reduceCtorEq]at X<;>simp only[b4.q9,bl]<;>exact .inl this
  .have aj:=h.bY e _ S;simp only[bl,ab,tK,reduceCtorEq,iT]at aj;obtain⟨a5,rfl,ax⟩:=aj;have aN:=aFG (h.bY t _ Q) ay;refine⟨.tuple (Y.setIfInBounds i (β t)),λ_ dD ar ae=>⟨?_,?_⟩,λc O=>?_⟩
   .refine(h.bY d ajC hd).N9 X (ar d ao) ab ae (by simp) λaJ aw=>?_;obtain⟨_,_,aw⟩:=aw;show aJ=_;rw[aw];simp
   .simp only[bl];refine .inr ⟨_,ae,?_⟩;rw[show(Y.setIfInBounds i (β t)).toList=Y.toList.set i (β t)by simp];refine ax.set aN λj u b aX aI aG aj=>?_;refine h.cQ e t (by rw[S];rfl) (by rw[Q];rfl) aK b ?_ (i4 aG);rw[ab,mm];exact iB.2 ⟨u,nw aI,aj⟩
   .rw[mm,show(Y.setIfInBounds i (β t)).toList=Y.toList.set i (β t)by simp]at O;rcases FO O with O|O
    .exact .inl (by rw[ab,mm];exact O)
    .exact .inr (i4 O)
 obtain⟨u,aC,aA⟩:=aH;have Z:∀y,y≠e2->(λy=>if y=e2 then u else β y) y=β y:=λy H=>bw H;have aq:(λy=>if y=e2 then u else β y) e2=u:=bx rfl;refine⟨λy=>if y=e2 then u else β y,Z,?_⟩;generalize (λy=>if y=e2 then u else β y)=dD at Z aq;obtain⟨a4,aZ⟩:=aC X dD Z aq
 have aE:∀y,y∈[d,e,e2,t]->(ah.get ((e2,.de (dV.set i (.sl T sz xs)))::(d,ajC.q9 e2 none)::σ.minus [d,e,t]) y).isSome->y=d\/y=e2:=λy H am=>by
  rw[pF]at am;simp only[c5,hr,hG]at H;rcases H with rfl|rfl|rfl|rfl
  .exact .inl rfl
  .grind
  .exact .inr rfl
  .grind
 have aR:∀c,c∈ct (dD d)->c∉ct (dD e2):=λc O an=>by
  rw[Z d ao]at O;rw[aq]at an;rcases aA c an with q|q
  .exact h.cQ d e (by rw[hd];rfl) (by rw[S];rfl) ib c O q
  .exact h.cQ d t (by rw[hd];rfl) (by rw[Q];rfl) aL c O q
 refine h.zB (M:=[d,e,e2,t]) (news:=[e2]) (dD:=dD) (λy H=>?_) (λy H=>Z y (by simpa using H)) (λy H=>by simp only[gL]at H;subst H;exact⟨by simp,aD⟩) (λy o _ ag=>(aFi az y o ag).2) (λy H o ag=>?_) (λy H am c O=>?_) (λy H z hz a7 aY am c O an=>?_)
 .simp only[c5,hr,hG,not_or]at H;rw[pF,bw (et H.2.2.1),bw (et H.1),bw (by simp[H.1,H.2.1,H.2.2.2])]
 .have:=aE y H (by rw[ag];rfl);rw[pF]at ag
  grind
 .grind
 .grind
end take
end
section
def dR{α:Type}(k:IntKind)(l:List (Int×α)):List U:=l.map λa=>.int k a.1
def eV{α:Type}(T:TypeId)(sz:Nat)(enc:α->List U)(l:List (Int×List α)):List gc:=l.map λa=>.sl T sz (a.2.map enc)
def gi{α:Type}:List (Int×α)->Int->Nat
 |[],_=>0
 |p::r,n=>if p.1=n then 0 else gi r n+1
def iE{α:Type}:List (Int×List α)->Int->List (Int×List α)
 |[],_=>[]
 |p::r,n=>if p.1=n then(p.1,[])::r else p::iE r n
def j7{α:Type}(l:List (Int×α))(n:Int)(t:Nat):Option (iG×Nat):=some (bif (aO l n).isSome then some (gi l n)else none,t)
variable {α:Type}
def h9(p:Int×α)(r:List (Int×α))(n:Int):aO (p::r) n=if p.1=n then some p.2 else aO r n:=by
 by_cases a:p.1=n<;>simp[aO,List.find?,a]
def Ln{α:Type}:∀{l:List (Int×List α)} {n:Int},aO l n=none->iE l n=l
 |[],_,_=>rfl
 |p::r,n,h=>by
  rw[h9]at h;split at h
  .cases h
  .rename_i a;simp only[iE,bw a,Ln h]
def Mh{α:Type}:∀(l:List (Int×List α)) (n:Int) (v:List α),bW (iE l n) n v=bW l n v
 |[],_,_=>rfl
 |p::r,n,v=>by
  by_cases a:p.1=n
  .simp[iE,bW,a]
  .simp[iE,bW,a,Mh r n v]
def Lo{α:Type}(k:IntKind):∀(l:List (Int×List α)) (n:Int),dR k (iE l n)=dR k l
 |[],_=>rfl
 |p::r,n=>by
  by_cases a:p.1=n
  .simp[iE,a,dR]
  .have:=Lo k r n;simp only[dR]at this;simp[iE,a,dR,this]
def Lp{α:Type}:∀(l:List (Int×List α)) (n:Int),(aO (iE l n) n).isSome=(aO l n).isSome
 |[],_=>rfl
 |p::r,n=>by
  by_cases a:p.1=n
  .simp[iE,a,h9]
  .simp[iE,a,h9,Lp r n]
def Mi{α:Type}:∀(l:List (Int×List α)) (n:Int),gi (iE l n) n=gi l n
 |[],_=>rfl
 |p::r,n=>by
  by_cases a:p.1=n
  .simp[iE,a,gi]
  .simp[iE,a,gi,Mi r n]
def XJ(l:List (Int×List α))(n:Int)(t:Nat):j7 (iE l n) n t=j7 l n t:=by simp[j7,Lp,Mi]
def Gg{α:Type}:∀{l:List (Int×α)} {n:Int} {a:α},aO l n=some a->∃m,m=n/\l[gi l n]?=some (m,a)
 |[],_,_,h=>by simp[aO]at h
 |p::r,n,a,h=>by
  rw[h9]at h;split at h
  .rename_i b;cases h;exact⟨p.1,b,by simp only[gi,bx b];rfl⟩
  .rename_i b;obtain⟨m,d,c⟩:=Gg h;exact⟨m,d,by simp[gi,b,c]⟩
def yX{α:Type}:∀{l:List (Int×α)} {n:Int} {a:α} (v:α),aO l n=some a->bW l n v=l.set (gi l n) (n,v)
 |[],_,_,_,h=>by simp[aO]at h
 |p::r,n,a,v,h=>by
  rw[h9]at h;split at h
  .rename_i b;simp[bW,gi,b]
  .rename_i b;simp[bW,gi,b,yX v h]
def yB{α:Type}:∀{l:List (Int×α)} {n:Int} (v:α),aO l n=none->bW l n v=l++[(n,v)]
 |[],_,_,_=>rfl
 |p::r,n,v,h=>by
  rw[h9]at h;split at h
  .cases h
  .rename_i a;simp[bW,a,yB v h]
def F3{α:Type}:∀{l:List (Int×List α)} {n:Int} {a:List α},aO l n=some a->iE l n=l.set (gi l n) (n,[])
 |[],_,_,h=>by simp[aO]at h
 |p::r,n,a,h=>by
  rw[h9]at h;split at h
  .rename_i b;simp[iE,gi,b]
  .rename_i b;simp[iE,gi,b,F3 h]
def Cu{T:TypeId}{sz:Nat}{enc:α->List U}(l:List (Int×List α))(i:Nat)(n:Int)(v:List α):eV T sz enc (l.set i (n,v))=(eV T sz enc l).set i (.sl T sz (v.map enc)):=by simp[eV,List.map_set]
theorem Mj{k:IntKind}{l:List (Int×α)}{n:Int}{a:α}(v:α)(h:aO l n=some a):dR k (l.set (gi l n) (n,v))=dR k l:=by
 obtain⟨c,rfl,b⟩:=Gg h;simp only[dR,List.map_set];apply mF
 grind
theorem FG{I:a8}{α:Type}{k:IntKind}(n:Int):∀(l:List (Int×α)) (vs:hD) (es:jN) (i:Nat) (a:α),h2 I (dR k l) vs es->aO l n=some a->
  ∃v e,vs[gi l n]?=some v/\es[gi l n]?=some e/\e.key=.int k n/\Instr.findNow (.int k) (.int k n) es i=some (some (i+gi l n,v))/\
   ∀(d:Value) (c:MapEntry->MapEntry),(∀e,(c e).key=.int k n/\(c e).val=d)->h2 I (dR k l) (vs.set (gi l n) d) (es.modify (gi l n) c)
 |[],vs,es,i,a,h,g=>by simp[aO]at g
 |(m,b)::r,vs,es,i,a,h,g=>by
  simp only[dR,dr,h2]at h;obtain⟨v,p,e,t,rfl,rfl,f,q,s⟩:=h;simp only[a1]at f;rw[h9]at g;by_cases o:m=n
  .subst o;simp only[gi,fE];refine⟨v,e,rfl,rfl,f,by simp[Instr.findNow,Instr.sameNow,f,q],λd c j=>?_⟩;simp only[dR,dr,List.set_cons_zero,List.modify_zero_cons,h2];exact⟨d,p,c e,t,rfl,rfl,by simp only[a1];exact(j e).1,(j e).2,s⟩
  .rw[bw o]at g;obtain⟨z,A,u,y,w,B,x⟩:=FG n r p t (i+1) a s g;simp only[gi,bw o];refine⟨z,A,by simpa using u,by simpa using y,w,?_,λd c j=>?_⟩
   .simp only[Instr.findNow,Instr.sameNow,f,bx]
    grind
   .simp only[dR,dr,List.set_cons_succ,List.modify_succ_cons,h2];exact⟨v,_,e,_,rfl,rfl,by simp only[a1];exact f,q,x d c j⟩
theorem FH{I:a8}{α:Type}{k:IntKind}(n:Int):∀(l:List (Int×α)) (vs:hD) (es:jN) (i:Nat),h2 I (dR k l) vs es->aO l n=none->
  Instr.findNow (.int k) (.int k n) es i=some none/\∀(b:α) (e:MapEntry),e.key=.int k n->h2 I (dR k (l++[(n,b)])) (vs++[e.val]) (es++[e])
 |[],vs,es,i,h,a=>by
  simp only[dR,mO,h2]at h;obtain⟨rfl,rfl⟩:=h;refine⟨rfl,λb e f=>?_⟩;simp only[lC,dR,dr,mO,h2];exact⟨e.val,[],e,[],rfl,rfl,by simp only[a1];exact f,rfl,rfl,rfl⟩
 |(m,c)::r,vs,es,i,h,a=>by
  simp only[dR,dr,h2]at h;obtain⟨u,j,e,t,rfl,rfl,d,p,q⟩:=h;simp only[a1]at d;rw[h9]at a;have g:m≠n:=λg=>by rw[bx g]at a;cases a
  rw[bw g]at a;obtain⟨v,o⟩:=FH n r j t (i+1) q a;refine⟨?_,λb s f=>?_⟩
  .simp only[Instr.findNow,Instr.sameNow,d,bx]
   grind
  .have:=o b s f;simp only[dR]at this;simp only[dR,l6,dr,h2];exact⟨u,_,e,_,rfl,rfl,by simp only[a1];exact d,p,this⟩
def h2.length{I:a8}:∀{ks:List U} {vs:hD} {es:jN},h2 I ks vs es->vs.length=ks.length/\es.length=ks.length
 |[],_,_,h=>by obtain⟨rfl,rfl⟩:=h;exact⟨rfl,rfl⟩
 |k::ks,_,_,h=>by
  obtain⟨v,O,e,Q,rfl,rfl,_,_,H⟩:=h;have:=H.length;simp[this.1,this.2]
section
variable {G:bI}{σ:ah}{o:Oper}{ev:Operand->U}
theorem D.RL{α:Type}{aE:Option (iu×Nat)}{T K E d e e2 t aZ sz:Nat}{k:IntKind}{x y:Operand}{n:Int}(l:List (Int×List α))(enc:α->List U)(h:o.op=.lookup T x y false)(S:ev x=.cc d)(H:ev y=.int k n)
  (hd:σ.get d=some (.eo K E e (dR k l) none aE)) (ab:σ.get e=some (.de (eV aZ sz enc l))) (ax:hs G.P T K E k) (hz:∀w,(zeroValue E).run G.P w=.ok (.slice none 0 0) w)
  (aL:σ.get t=none) (a7:σ.get e2=none) (aI:t≠e2) (bJ:G.ids.contains t=false) (bH:G.ids.contains e2=false) (aU:σ.clean [t,e2].contains=true) :
  fO G o ev σ [d,e,e2,t] [t,e2] (λr bk=>r=.own t/\bk=(t,.slice aZ sz (((aO l n).getD []).map enc) 0 false)::(e2,.de (eV aZ sz enc (iE l n)))::(d,.eo K E e2 (dR k l) (j7 l n t) aE)::σ.minus [d,e]):=by
 intro cx I β w aR aj hop;have aa:=hop x (by simp[h,Op.operands]);rw[S]at aa
 have ak:=hop y (by simp[h,Op.operands]);rw[H]at ak;have ak:=g1 ak
 simp only[aD]at aa;obtain⟨aa,bc⟩:=aa;have a5:β d≠.nilFunc:=λe=>by rw[aa,e]at bc;simp[l3]at bc
 have a9:=aj.bY d _ hd;simp only[bl,a5,iT]at a9;obtain⟨r,es,clock,ae,bB,ay,aN,aK,bo,an,bz,bt,bv⟩:=a9;rw[show bB=ae.toList from bo]at an;have bi:∀w,(underlying T).run G.P w=.ok (.map K E) w:=λw=>by simp[underlying,program,Sem.run,ax.fz]
 have ba:∀w,(underlying K).run G.P w=.ok (.int k) w:=λw=>by simp[underlying,program,Sem.run,ax.key]
 have aW:=x0 (P:=G.P) aN;have a4:=Bt (P:=G.P) ax.key (es.isEmpty) n w;have bT:t∉G.ids:=by simpa using bJ
 have bQ:e2∉G.ids:=by simpa using bH
 have aG:∀x,x∉[d,e,e2,t]->∀(bb aT be:b4),ah.get ((t,bb)::(e2,aT)::(d,be)::σ.minus [d,e]) x=σ.get x:=λx S bb aT be=>by
  simp only[c5,hr,hG,not_or]at S;rw[r0,bw (et S.2.2.2),bw (et S.2.2.1),bw (et S.1),bw (by simp[S.1,S.2.1])]
 cases Y:aO l n with
 |some a=>
  obtain⟨v,aV,a2,b0,bW,bF,_⟩:=FG n l ae.toList es.toList 0 a an Y;obtain⟨m,b3,bR⟩:=Gg Y;have bU:(eV aZ sz enc l)[gi l n]?=some (.sl aZ sz (a.map enc)):=by simp[eV,bR]
  obtain⟨ag,aX,ao,bZ,bD,bG⟩:=aj.take hd rfl ab bU a5 aL a7 aI bT bQ aU;rw[aK]at aX;cases aX
  have bj:ao=v:=by grind
  subst bj;have aC:(Instr.findKey K (.int k n) es.toList).run G.P w=.ok (some (0+gi l n,ao)) w:=by simp[Instr.findKey,ba,bF]
  have aB:(execOp aR o).run G.P w=.ok (.value ao) w:=by simp[execOp,h,Instr.lookup,aa,ay,ak,bi,aW,a4,aC]
  rw[aB];refine⟨.own t,_,I,λy=>if y=t then ao else if y=e2 then .tuple (ae.setIfInBounds (gi l n) (.slice none 0 0))else β y,⟨rfl,rfl⟩,?_,?_,b1.refl I,λy H=>?_,λy H=>aG y H _ _ _⟩
  .simp only[aD,fE];refine⟨trivial,?_⟩;rcases bD with⟨q,_⟩|⟨b,aY,arr,q,_⟩<;>rw[q]<;>rfl
  .have az:j7 l n t=some (some (gi l n),t):=by simp[j7,Y]
   rw[az,F3 Y,Cu];exact bG
  .grind
 |none=>
  obtain⟨a2,_⟩:=FH n l ae.toList es.toList 0 an Y;have aC:(Instr.findKey K (.int k n) es.toList).run G.P w=.ok none w:=by simp[Instr.findKey,ba,a2]
  have aB:(execOp aR o).run G.P w=.ok (.value (.slice none 0 0)) w:=by simp[execOp,h,Instr.lookup,aa,ay,ak,bi,aW,a4,aC,hz w]
  rw[aB]
  let dD:Nat->Value:=λy=>if y=t then .slice none 0 0 else if y=e2 then β e else β y
  have Z:dD t=.slice none 0 0:=by show(if _ then _ else _)=_;rw[bx rfl]
  have am:dD e2=β e:=by show(if _ then _ else _)=_;rw[bw (et aI),bx rfl]
  have aA:∀y,y∉[t,e2]->dD y=β y:=λy H=>by
   simp only[c5,hr,hG,not_or]at H;show(if _ then _ else _)=_;rw[bw H.1,bw H.2]
  have aJ:∀y,(σ.get y).isSome->y≠t/\y≠e2:=λy H=>⟨λe=>(by subst e;rw[aL]at H;cases H),λe=>(by subst e;rw[a7]at H;cases H)⟩;have aw:=aJ d (by rw[hd];rfl);have b2:=aJ e (by rw[ab];rfl);have ib:d≠e:=λaV=>by subst aV;rw[hd]at ab;cases ab
  have aq:dD d=β d:=aA d (by simp[aw.1,aw.2]);have az:j7 l n t=some (none,t):=by simp[j7,Y]
  refine⟨.own t,_,I,dD,⟨rfl,rfl⟩,by simp only[aD,Z,gU,and_self],?_,b1.refl I,aA,λy H=>aG y H _ _ _⟩;rw[az,Ln Y];simp only[Option.getD_none,mO]
  have ar:∀y,y∈[d,e,e2,t]->(ah.get ((t,b4.slice aZ sz [] 0 false)::(e2,.de (eV aZ sz enc l))::(d,.eo K E e2 (dR k l) (some (none,t)) aE)::σ.minus [d,e]) y).isSome->y=d\/y=e2\/y=t:=λy H ag=>by
   rw[r0]at ag;simp only[c5,hr,hG]at H;rcases H with rfl|rfl|rfl|rfl
   .exact .inl rfl
   .grind
   .omega
   .omega
  have bh:∀c,c∈ct (β d)->c∉ct (β e):=aj.cQ d e (by rw[hd];rfl) (by rw[ab];rfl) ib;refine aj.zB (M:=[d,e,e2,t]) (news:=[t,e2]) (dD:=dD) (λy H=>aG y H _ _ _) aA (λy H=>?_) (λy o _ Q=>(aFi aU y o Q).2) (λy H o Q=>?_) (λy H ag c O=>?_) (λy H z hz aH bs ag c O X=>?_)
  .grind
  .have:=ar y H (by rw[Q];rfl);rw[r0]at Q;rcases this with rfl|rfl|rfl
   .rw[bw (et aw.1),bw (et aw.2),bx rfl]at Q;cases Q
    simp only[bl,aq,am];exact .inr ⟨r,es,clock,ae,ae.toList,ay,aN,aK,rfl,an,bz,bt,bv⟩
   .rw[bw aI,bx rfl]at Q;cases Q
    have:=aj.bY e _ ab;simp only[bl,am]at this ⊢;exact this
   .rw[bx rfl]at Q;cases Q
    simp only[bl,Z];exact .inr (.inl ⟨trivial,trivial,trivial⟩)
  .rcases ar y H ag with rfl|rfl|rfl
   .rw[aq]at O;exact⟨y,by simp,by rw[hd];rfl,O⟩
   .rw[am]at O;exact⟨e,by simp,by rw[ab];rfl,O⟩
   .rw[Z]at O;cases O
  .rcases ar y H bs with rfl|rfl|rfl<;>rcases ar z hz ag with rfl|rfl|rfl
   .exact aH rfl
   .rw[aq]at O;rw[am]at X;exact bh c O X
   .rw[Z]at X;cases X
   .rw[aq]at X;rw[am]at O;exact bh c X O
   .exact aH rfl
   .rw[Z]at X;cases X
   .rw[Z]at O;cases O
   .rw[Z]at O;cases O
   .exact aH rfl
end
end
section
section put
variable {G:bI}{cx:dz}{I:a8}{β:Nat->Value}{σ:ah}{w:World}
theorem bE.RM(h:bE G cx I β σ w){d e e2 r K E ax:Nat}{keys Z:List U}{aW:Option (iG×Nat)}{a4:Option (iu×Nat)}{dV ab:List gc}{S:cR}{Q:ig}{ak:iu}{w':World}
  (hd:σ.get d=some (.eo K E e keys aW a4)) (aC:σ.get e=some (.de dV)) (ae:β d=.map (some r)) (a5:σ.get e2=none) (bj:e2∉G.ids) (aY:σ.clean [e2].contains=true) (a9:d∉S)
  (aN:fR w w' r) (aZ:w'.heap[r]?=some (.map ak ax)) (aR:g4 cx I w ab Q.toList) (a7:h2 I Z Q.toList ak.toList) (a2:iP ak ax)
  (aG:∀c∈Q.toList.filterMap bR,c∈ct (β e)\/∃y∈S,(σ.get y).isSome/\c∈ct (β y)) :
  bE G cx I (λy=>if y=e2 then .tuple Q else β y) ((e2,.de ab)::(d,.eo K E e2 Z none none)::σ.minus (d::e::S)) w':=by
 have aJ:=h.bY d _ hd;simp only[bl,ae,reduceCtorEq,iT]at aJ;obtain⟨bk,es,clock,aj,bi,aT,be,ba,bb,bc,aE,aD,bh,_⟩:=aJ;cases aT;have Y:(σ.get d).isSome:=by rw[hd];rfl
 have aH:(σ.get e).isSome:=by rw[aC];rfl
 have aV:∀y,(σ.get y).isSome->y≠e2:=λy H e=>by subst e;rw[a5]at H;cases H
 have ib:d≠e:=λan=>by subst an;rw[hd]at aC;cases aC
 have aw:r∈ct (β d):=i4 (by rw[ae];rfl)
 have aL:∀c∈Q.toList.filterMap bR,c≠r:=λc O e=>by
  subst e;rcases aG c O with q|⟨y,ar,aA,az⟩
  .exact h.cQ d e Y aH ib c aw q
  .exact h.cQ d y Y aA (λe=>a9 (e▸ar)) c aw az
 have am:∀y,y≠e2->(λy=>if y=e2 then(Value.tuple Q)else β y) y=β y:=λy H=>bw H;have aa:(λy=>if y=e2 then(Value.tuple Q)else β y) e2=.tuple Q:=bx rfl;generalize (λy=>if y=e2 then(Value.tuple Q)else β y)=dD at am aa;have ay:dD d=β d:=am d (aV d Y)
 have aI:∀y,y∈d::e::e2::S->∀o,(ah.get ((e2,.de ab)::(d,.eo K E e2 Z none none)::σ.minus (d::e::S)) y)=some o->(y=d/\o=.eo K E e2 Z none none)\/(y=e2/\o=.de ab):=λy H o ag=>by
  rw[pF]at ag;split at ag
  .grind
  .grind
 have aB:∀y,y∈d::e::e2::S->(ah.get ((e2,.de ab)::(d,.eo K E e2 Z none none)::σ.minus (d::e::S)) y).isSome->y=d\/y=e2:=λy H aj=>by
  obtain⟨o,ag⟩:=hZ.1 aj;rcases aI y H o ag with q|q
  .exact .inl q.1
  .exact .inr q.1
 have wW:∀c,c∈ct (dD e2)->c∈ct (β e)\/∃y∈S,(σ.get y).isSome/\c∈ct (β y):=λc O=>aG c (by rw[aa]at O;exact O)
 have sep:∀c,c∈ct (dD d)->c∉ct (dD e2):=λc O X=>by
  rw[ay,ae]at O;have:c=r:=by simpa [ct,bR]using O
  exact aL c (by rw[aa]at X;exact X) this
 refine h.redo (M:=d::e::e2::S) (news:=[e2]) (b:=r) (dD:=dD) aN aE (λy H aj an=>?_) aD (λy H=>?_) (λy H=>am y (by simpa using H)) (λy H=>?_) (λy o _ aq=>(aFi aY y o aq).2) (λy H o aq=>?_) (λy H ao c O=>?_) (λy H z hz aK aX ao c O X=>?_)
 .exact h.cQ d y Y aj (λe=>H (by simp[e])) r aw an
 .simp only[c5,not_or]at H;rw[pF,bw (et H.2.2.1),bw (et H.1),bw (by simp[H.1,H.2.1,H.2.2.2])]
 .grind
 .rcases aI y H o aq with⟨rfl,rfl⟩|⟨rfl,rfl⟩
  .simp only[bl,ay,ae,aa];exact .inr ⟨r,ak,ax,Q,Q.toList,rfl,aZ,rfl,rfl,a7,aE,aD,a2,by simp⟩
  .simp only[bl];exact .inr ⟨Q,aa,aR.go (b1.refl I) λc O=>⟨λaU=>aN.block c (aL c O) aU,λ_=>rfl,id⟩⟩
 .rcases aB y H ao with rfl|rfl
  .rw[ay]at O;exact⟨y,by simp,Y,O⟩
  .rcases wW c O with q|⟨y,ar,aA,az⟩
   .exact⟨e,by simp,aH,q⟩
   .exact⟨y,by simp[ar],aA,az⟩
 .rcases aB y H aX with rfl|rfl<;>rcases aB z hz ao with rfl|rfl
  .exact aK rfl
  .exact sep c O X
  .exact sep c X O
  .exact aK rfl
end put
section
variable {G:bI}{σ:ah}{o:Oper}{ev:Operand->U}
theorem aGr{α:Type}{T K E d e e2 aZ sz:Nat}{k:IntKind}{x y b:Operand}{n:Int}{bL:Bool}{bi:Option (iu×Nat)}{ae:Option (iG×Nat)}(s:cR)(l:List (Int×List α))(enc:α->List U)(row:List α)(h:o.op=.mapUpdate T x y b\/o.op=.insert T x y b)(a9:ev x=.cc d)(m:ev y=.int k n)
  (M:(ev b=.aF/\row=[]/\s=[])\/∃j,ev b=.own j/\σ.get j=some (.slice aZ sz (row.map enc) 0 bL)/\s=[j])
  (a4:σ.get d=some (.eo K E e (dR k l) ae bi)) (aC:ae=none\/∃t,ae=j7 l n t) (aw:σ.get e=some (.de (eV aZ sz enc l))) (W:hs G.P T K E k)
  (bk:σ.get e2=none) (bs:G.ids.contains e2=false) (bb:σ.clean [e2].contains=true) :
  fO G o ev σ (d::e::e2::s) [e2] (λr F=>r=.undef/\F=(e2,.de (eV aZ sz enc (bW l n row)))::(d,.eo K E e2 (dR k (bW l n row)) none none)::σ.minus (d::e::s)):=by
 intro cx I β w c D ay;have aq:x∈o.op.operands/\y∈o.op.operands/\b∈o.op.operands:=by rcases h with h|h<;>simp[h,Op.operands]
 have B:=ay x aq.1;rw[a9]at B
 have H:=ay y aq.2.1;rw[m]at H;have H:=g1 H
 have p:=ay b aq.2.2;simp only[aD]at B;obtain⟨B,aT⟩:=B;have bh:β d≠.nilFunc:=λe=>by rw[B,e]at aT;simp[l3]at aT
 have aN:=D.bY d _ a4;simp only[bl,bh,iT]at aN;obtain⟨r,A,V,i,O,X,aa,Y,u,Z,b2,b0,aG,_⟩:=aN;have R:=D.bY e _ aw;simp only[bl,Y,tK,reduceCtorEq,iT]at R;obtain⟨b3,rfl,aB⟩:=R;have a7:h4 cx I w (.sl aZ sz (row.map enc)) (c b)/\(∀g,bR (c b)=some g->∃y∈s,(σ.get y).isSome/\g∈ct (β y))/\d∉s/\e∉s:=by
  rcases M with⟨M,rfl,rfl⟩|⟨j,M,aE,rfl⟩
  .rw[M]at p;simp only[aD,a1]at p;rw[p];exact⟨Or.inl ⟨rfl,rfl⟩,λg (f:none=some g)=>(by cases f),by simp,by simp⟩
  .rw[M]at p;simp only[aD]at p;obtain⟨p,aV⟩:=p;rw[p];refine⟨aFG (D.bY j _ aE) λe=>(by rw[p,e]at aV;cases aV),λg f=>⟨j,by simp,by rw[aE];rfl,i4 f⟩,λbT=>?_,λbT=>?_⟩
   all_goals grind
 obtain⟨aK,bj,bx,bz⟩:=a7
 have aW:∀C z,C∈i.toList->bR (c b)=some z->bR C≠some z:=λC z az ar R=>by
  obtain⟨y,bo,bB,bv⟩:=bj z ar;refine D.cQ e y (by rw[aw];rfl) bB (λe=>bz (e▸bo)) z ?_ bv;rw[Y,mm];exact iB.2 ⟨C,az,R⟩
 have bG:e2∉G.ids:=by simpa using bs
 have aY:∀w,(underlying T).run G.P w=.ok (.map K E) w:=λw=>by simp[underlying,program,Sem.run,W.fz]
 have aR:∀w,(underlying K).run G.P w=.ok (.int k) w:=λw=>by simp[underlying,program,Sem.run,W.key]
 have aH:=x0 (P:=G.P) aa;have aI:=Bt (P:=G.P) W.key false n w;have aJ:∀v:Obj,(setObj r v).run G.P w=.ok () {w with heap:=w.heap.setIfInBounds r v}:=λv=>by simp[setObj,Sem.run,aa]
 have bD:∀v:Obj,({w with heap:=w.heap.setIfInBounds r v}:World).heap[r]?=some v:=λv=>by have:=gZ aa;simp[BX,this]
 have a2:∀(N:ig) (ao:List gc) (an:List U) (L:iu) (S:Nat),ao=eV aZ sz enc (bW l n row)->an=dR k (bW l n row)->
   (execOp c o).run G.P w=.ok .skip {w with heap:=w.heap.setIfInBounds r (.map L S)}->g4 cx I w ao N.toList->h2 I an N.toList L.toList->iP L S->
   (∀g∈N.toList.filterMap bR,g∈i.toList.filterMap bR\/bR (c b)=some g)->
   jb G.P (λbU bZ=>∃aX,∃F:ah,∃ab aA,(aX=.undef/\F=(e2,.de (eV aZ sz enc (bW l n row)))::(d,.eo K E e2 (dR k (bW l n row)) none none)::σ.minus (d::e::s))/\aD ab aA aX bU/\bE G cx ab aA F bZ/\b1 I ab/\(∀d,d∉[e2]->aA d=β d)/\(∀x,x∉d::e::e2::s->F.get x=σ.get x)) ((execOp c o).run G.P w):=by
  intro N ao an L S Q J ag ak am bQ bJ;subst Q J;rw[ag]
  have:=D.RM a4 aw X bk bG bb bx (aFz w r (.map L S)) (bD _) ak am bQ λg f=>by
   rcases bJ g f with a5|a5
   .exact .inl (by rw[Y,mm];exact a5)
   .grind
  refine⟨.undef,_,I,_,⟨rfl,rfl⟩,by simp[aD,a1],this,b1.refl I,λy m=>bw (by simpa using m),λy m=>?_⟩;simp only[c5,not_or]at m;rw[pF,bw (et m.2.2.1),bw (et m.1),bw (by simp[m.1,m.2.1,m.2.2.2])]
 cases q:aO l n with
 |none=>
  have ax:O=i.toList:=by
   rcases aC with rfl|⟨t,rfl⟩
   .exact u
   .simp only[j7,q,Option.isSome_none,bH]at u;exact u
  rw[ax]at Z;obtain⟨Q,J⟩:=FH n l i.toList A.toList 0 Z q;have aj:(Instr.findKey K (.int k n) A.toList).run G.P w=.ok none w:=by simp[Instr.findKey,aR,Q]
  refine a2 (i.push (c b)) (eV aZ sz enc l++[.sl aZ sz (row.map enc)]) (dR k (l++[(n,row)])) (A.push ⟨.int k n,c b,V⟩) (V+1) ?_ ?_ ?_ ?_ ?_ ?_ ?_
  .rw[yB row q];simp[eV]
  .rw[yB row q]
  .rcases h with h|h<;>simp[execOp,h,Instr.mapUpdate,B,X,H,aY,aH,aI,aj,aJ]
  .simp only[Array.toList_push];exact aB.push aK aW
  .simp only[Array.toList_push];exact J row ⟨.int k n,c b,V⟩ rfl
  .exact aG.push _ _
  .intro g f;simp only[Array.toList_push,r5,dG]at f;rcases f with f|f
   .exact .inl f
   .obtain⟨C,az,aL⟩:=iB.1 f;rw[gL.1 az]at aL;exact .inr aL
 |some a=>
  obtain⟨ba,bc,Q,J,ag,ak,am⟩:=FG n l O A.toList 0 a Z q;have aj:(Instr.findKey K (.int k n) A.toList).run G.P w=.ok (some (0+gi l n,ba)) w:=by simp[Instr.findKey,aR,ak]
  have be:A[gi l n]?=some bc:=by simpa using J
  have bt:(Instr.keyThatStays (.int k n) (.int k n)).run G.P w=.ok (.int k n) w:=by simp[Instr.keyThatStays,Instr.sameBits]
  have ax:O.set (gi l n) (c b)=i.toList.set (gi l n) (c b):=by
   rcases aC with rfl|⟨t,rfl⟩
   .rw[show O=i.toList from u]
   .simp only[j7,q,Option.isSome_some,cm]at u;obtain⟨_,_,u⟩:=u;rw[u,List.set_set]
  have fB:(i.setIfInBounds (gi l n) (c b)).toList=i.toList.set (gi l n) (c b):=by simp
  have aU:=am (c b) (λe=>{e with key:=.int k n,val:=c b}) (λe=>⟨rfl,rfl⟩);rw[ax]at aU;refine a2 (i.setIfInBounds (gi l n) (c b)) ((eV aZ sz enc l).set (gi l n) (.sl aZ sz (row.map enc))) (dR k l) (A.modify (gi l n) λe=>{e with key:=.int k n,val:=c b}) V ?_ ?_ ?_ ?_ ?_ ?_ ?_
  .rw[yX row q,Cu]
  .rw[yX row q,Mj row q]
  .rcases h with h|h<;>simp[execOp,h,Instr.mapUpdate,B,X,H,aY,aH,aI,aj,aJ,be,ag,bt]
  .rw[fB];exact aB.set aK λj C z _ bF ar=>aW C z (nw bF) ar
  .rw[fB];simpa using aU
  .exact aG.modify _ _ λ_=>rfl
  .intro g f;rw[fB]at f;exact FO f
end
end
section
section imms
variable {cx:dz}{I:a8}{β:Nat->Value}{w:World}
def bl.Ph{H:a8}{d:Nat}{o:b4}(bt:b1 I H)(Q:∀b∈ct (β d),∀o,H b o=I b o)(O:bl cx I β w d o):bl cx H β w d o:=O.Ai bt rfl (fQ.refl β) λb e=>⟨λ_=>rfl,Q b e,id⟩
end imms
section weak
variable {G:bI}{env:av}{σ:ah}
def Ds{I:a8}{β dD:Nat->Value}{env:av}{a:Act}{e:Nat}(h:iC I β env a)(d:env.clean [e].contains=true)(c:∀y,y≠e->dD y=β y):iC I dD env a:=λb=>
 sW (p:=[e].contains) (λf g=>c f (by simpa using g)) _ _ (aFB d b) (h b)
theorem aGd{d e K E:Nat}(l:σ.get d=some (.map K E []))(F:σ.get e=none)(hi:G.ids.contains e=false)(f:env.clean [e].contains=true)(q:σ.clean [e].contains=true):
  cZ G env σ env ((e,.de [])::(d,.eo K E e [] none none)::σ.minus [d]):=λcx I β O w o s=>by
 have ib:d≠e:=λx=>by subst x;rw[F]at l;cases l
 have R:e∉G.ids:=by simpa using hi
 refine⟨I,gA β e (.tuple #[]),?_,Ds s f λa b=>gx β _ b⟩;have g:gA β e (.tuple #[]) e=.tuple #[]:=gb _ _ _;have z:gA β e (.tuple #[]) d=β d:=gx β _ ib
 have A:∀a,a∈[d,e]->∀c,ah.get ((e,b4.de [])::(d,.eo K E e [] none none)::σ.minus [d]) a=some c->(a=d/\c=.eo K E e [] none none)\/(a=e/\c=.de []):=λa b c m=>by
  rw[pF]at m;split at m
  .grind
  .grind
 have j:∀a,a∈[d,e]->(ah.get ((e,b4.de [])::(d,.eo K E e [] none none)::σ.minus [d]) a).isSome->a=d\/a=e:=λa b _=>by simpa using b
 refine o.zB (M:=[d,e]) (news:=[e]) (λa b=>?_) (λa b=>gx β _ (by simpa using b)) (λa b=>?_) (λa c _ i=>(aFi q a c i).2) (λa b c i=>?_) (λa b h C f=>?_) (λa b N H B v h C f n=>?_)
 .simp only[c5,hr,hG,not_or]at b;rw[pF,bw (et b.2),bw (et b.1),bw (by simp[b.1])]
 .grind
 .rcases A a b c i with⟨rfl,rfl⟩|⟨rfl,rfl⟩
  .have:=o.bY a _ l;simp only[bl,z,g]at this ⊢;rcases this with J|⟨L,k,D,p,u,P,r,t,y⟩
   .exact .inl J
   .refine .inr ⟨L,k,D,#[],[],p,u,rfl,rfl,?_,r,t,y,by simp⟩;have:k.toList=[]:=by cases Q:k.toList<;>simp_all [ey]
    rw[this];exact⟨rfl,rfl⟩
  .simp only[bl,g];exact .inr ⟨#[],rfl,rfl⟩
 .rcases j a b h with rfl|rfl
  .grind
  .rw[g]at f;cases f
 .rcases j a b v with rfl|rfl
  .rcases j N H h with rfl|rfl
   .exact B rfl
   .rw[g]at n;cases n
  .rw[g]at f;cases f
variable {k:IntKind}{α:Type}
def aHp{aZ sz:Nat}{K E d e e2 t:Nat}{bL:Bool}{c:Option (iu×Nat)}(l:List (Int×List α))(n:Int)(enc:α->List U)(row:List α)(g:(aO l n).isSome=true)
  (f:σ.get d=some (.eo K E e (dR k l) (j7 l n t) c)) (y:σ.get e=some (.de (eV aZ sz enc (iE l n)))) (j:σ.get t=some (.slice aZ sz (row.map enc) 0 bL))
  (p:σ.get e2=none) (q:G.ids.contains e2=false) (o:env.clean [e2].contains=true) (h:σ.clean [e2].contains=true) :
  cZ G env σ env ((e2,.de (eV aZ sz enc (bW l n row)))::(d,.eo K E e2 (dR k (bW l n row)) none c)::σ.minus [d,e,t]):=λcx I β z w v m=>by
 obtain⟨A,a⟩:=hZ.1 g;have i:j7 l n t=some (some (gi l n),t):=by simp[j7,a]
 rw[i]at f;obtain⟨s,x,b⟩:=v.back f rfl y j p (by simpa using q) h;refine⟨I,s,?_,Ds m o x⟩;have u:(eV aZ sz enc (iE l n)).set (gi l n) (.sl aZ sz (row.map enc))=eV aZ sz enc (bW l n row):=by
  rw[F3 a,Cu,List.set_set,yX row a,Cu]
 rw[u]at b;have r:dR k (bW l n row)=dR k l:=by rw[yX row a,Mj row a]
 rw[r];exact b
theorem h4.bn{cx:dz}{I S:a8}{w:World}{T sz:Nat}{xs:List (List U)}{v:Value}(h:h4 cx I w (.sl T sz xs) v)(bt:b1 I S)(ar:∀b,bR v=some b->∀o,S b o=fu w b o):a1 S (.bn false xs) v:=by
 rcases h with⟨rfl,rfl⟩|⟨b,aY,arr,rfl,Z,an,aq,aD,aC,aE,aG,aH⟩
 .simp only[a1];exact⟨none,0,rfl,by simp,by simp[maxLen],by simp,.inl trivial⟩
 .simp only[a1];refine⟨_,aY,rfl,Z,an,by simp,.inr ⟨b,0,rfl,?_⟩⟩;have aw:∀o:Nat,S b o=arr[o]?:=λo=>by rw[ar b rfl o];simp[fu,World.cell?,aq]
  have key:∀(Q:List (List U)) (off:Nat) (H:hD),(∀e∈Q,e.length=sz)->bP I Q.flatten H->(∀j,j<H.length->arr[off+j]?=H[j]?)->fT S b Q off:=by
   intro Q;induction Q with
   |nil=>intro _ _ _ _ _;simp[fT]
   |cons y Q ao=>
    intro off H am ag ak;simp only[kk]at ag;have row:∀(cs:List U) (o:Nat) (X:List U) (H:hD),bP I (cs++X) H->(∀j,j<H.length->arr[o+j]?=H[j]?)->iw S b cs o/\∃O,bP I X O/\H=H.take cs.length++O/\O=H.drop cs.length:=by
     intro cs;induction cs with
     |nil=>intro o X H h _;exact⟨by simp[iw],H,h,by simp,by simp⟩
     |cons c cs ay=>
      intro o X H h Y;simp only[l6,bP]at h;obtain⟨u,az,rfl,aA,Z⟩:=h
      obtain⟨ab,O,aa,aj,ae⟩:=ay (o+1) X az Z λj ax=>by
       have:=Y (j+1) (by simpa using ax);simpa [mD,Nat.add_comm 1]using this
      refine⟨?_,O,aa,by simpa using aj,by simpa using ae⟩;simp only[iw];refine⟨⟨u,?_,iZ bt c u aA⟩,ab⟩;rw[aw];simpa using Y 0 (by simp)
    obtain⟨ab,O,aa,aj,ae⟩:=row y off Q.flatten H ag ak;simp only[fT];refine⟨ab,ao (off+y.length) O (λe aB=>am e (wz _ aB)) aa λj Y=>?_⟩;subst ae;have:=ak (y.length+j) (by simp at Y;omega);rw[wu,<-this,mD]
  grind
theorem LP{cx:dz}{I c:a8}{w:World}{α:Type}{k:IntKind}{T sz:Nat}{enc:α->List U}(bt:b1 I c):∀(l:List (Int×List α)) (vs:hD) (es:jN),h2 I (dR k l) vs es->g4 cx I w (eV T sz enc l) vs->(∀b∈vs.filterMap bR,∀o,c b o=fu w b o)->
  ey c (bo k (λf=>.bn false (f.map enc)) l) es
 |[],vs,es,h,_,_=>by
  simp only[dR,mO,h2]at h;rw[h.2];simp[bo,ey]
 |(n,f)::l,vs,es,h,a,d=>by
  simp only[dR,dr,h2]at h;obtain⟨x,i,s,e,rfl,rfl,g,j,m⟩:=h;simp only[eV,dr,g4]at a;obtain⟨u,v,r,p,t,q⟩:=a;cases r;simp only[bo,dr,ey];refine⟨s,e,rfl,iZ bt _ _ g,?_,LP bt l i e m q λb a=>d b ?_⟩
  .rw[j];exact h4.bn p bt λb a=>d b (by simp[a])
  .grind
theorem aGe{aZ sz:Nat}{K E d e:Nat}{V:Option (iu×Nat)}(l:List (Int×List α))(enc:α->List U)
  (t:σ.get d=some (.eo K E e (dR k l) none V)) (q:σ.get e=some (.de (eV aZ sz enc l))) :
  cZ G env σ env ((d,.jY K E (bo k (λm=>.bn false (m.map enc)) l))::σ.minus [d,e]):=λcx I β ab w h O=>by
 have ib:d≠e:=λR=>by subst R;rw[t]at q;cases q
 have A:(σ.get d).isSome:=by rw[t];rfl
 have X:(σ.get e).isSome:=by rw[q];rfl
 let r:a8:=λa b=>if a∈ct (β d)\/a∈ct (β e)then fu w a b else I a b
 have o:∀a,a∈ct (β d)\/a∈ct (β e)->∀b,r a b=fu w a b:=λa c b=>bx c;have s:∀a,¬(a∈ct (β d)\/a∈ct (β e))->∀b,r a b=I a b:=λa c b=>bw c
 have bt:b1 I r:=λa b n i=>by
  by_cases c:a∈ct (β d)\/a∈ct (β e)
  .rw[o a c];exact h.zi a b n i
  .grind
 have W:∀a,a∈ct (β d)\/a∈ct (β e)->Place cx a:=λa c=>by
  rcases c with c|c
  .exact(h.zf t c).2
  .exact(h.zf q c).2
 have J:∀f b,ah.get ((d,.jY K E (bo k (λm=>.bn false (m.map enc)) l))::σ.minus [d,e]) f=some b->(f=d/\b=.jY K E (bo k (λm=>.bn false (m.map enc)) l))\/(f≠d/\f≠e/\σ.get f=some b):=λf b g=>by
  rw[aFc,aFh]at g;split at g
  .grind
  .grind
 have C:∀f,(ah.get ((d,b4.jY K E (bo k (λm=>.bn false (m.map enc)) l))::σ.minus [d,e]) f).isSome->(σ.get f).isSome:=λf g=>by
  obtain⟨b,g⟩:=hZ.1 g;rcases J f b g with⟨rfl,_⟩|⟨_,_,g⟩
  .exact A
  .rw[g];rfl
 refine⟨r,β,{h with good:=λa b n i=>?_,fA:=λa n i=>?_,fV:=h.fV.trans bt,gm:=λa c D b=>?_,bY:=λf b g=>?_,cQ:=λf L g M=>h.cQ f L (C f g) (C L M)},O.mono bt (fQ.refl β)⟩
 .by_cases c:a∈ct (β d)\/a∈ct (β e)
  .rw[o a c]at i;exact yg a b n i
  .rw[s a c]at i;exact h.good a b n i
 .by_cases c:a∈ct (β d)\/a∈ct (β e)
  .rw[o a c]at i;exact x9 a n i
  .rw[s a c]at i;exact h.fA a n i
 .have:¬(a∈ct (β d)\/a∈ct (β e)):=λp=>by
   rcases W a p with j|j
   .omega
   .exact D j
  rw[s a this];exact h.gm a c D b
 .rcases J f b g with⟨rfl,rfl⟩|⟨Y,Z,g⟩
  .have B:=h.bY f _ t;simp only[bl]at B ⊢;rcases B with j|⟨H,F,aa,v,T,u,P,x,N,y,ae,Q,S,_⟩
   .exact .inl j
   .rw[show T=v.toList from N]at y;have z:=h.bY e _ q;simp only[bl,x,tK,reduceCtorEq,iT]at z;obtain⟨ag,rfl,c⟩:=z;refine .inr ⟨H,F,aa,u,?_,LP bt l v.toList F.toList y c λa p=>o a (.inr (by rw[x,mm];exact p)),Q,S⟩;rw[o H (.inl (i4 (by rw[u];rfl)))];simp[fu,P]
  .refine(h.bY f b g).Ph bt λa c=>s a λp=>?_;rcases p with j|j
   .exact h.cQ f d (by rw[g];rfl) A Y a c j
   .exact h.cQ f e (by rw[g];rfl) X Z a c j
def aGp{c:Code}{Q:Exit->av->ah->Prop}{ι:Type}{dc:ι->av}{σ2:ι->ah}(h:∀cx I β a w,bE G cx I β σ w->iC I β env a->∃i b β',bE G cx b β' (σ2 i) w/\iC b β' (dc i) a)(k:∀i,ar G c Q (dc i) (σ2 i)):ar G c Q env σ:=
 aFw λcx a w d=>by
  obtain⟨I,β,m,e,f,j⟩:=d;obtain⟨i,b,β',l,g⟩:=h cx I β a w m e;exact(k i).use cx a w ⟨b,β',l,g,f,j⟩
theorem yY{d:Nat}{o c:b4}(k:σ.get d=some o){cx:dz}{I:a8}{β:Nat->Value}{w:World}(h:bE G cx I β σ w)(j:bl cx I β w d c):bE G cx I β (σ.set d c) w:=by
 have e:∀b,(ah.get (σ.set d c) b).isSome->(σ.get b).isSome:=λb a=>by
  rw[aFf]at a;split at a
  .grind
  .exact a
 refine{h with bY:=λb i a=>?_,cQ:=λb f a g=>h.cQ b f (e b a) (e f g)};rw[aFf]at a;split at a
 .grind
 .exact h.bY b i a
variable {bG:List (U×U)}
def aGn{c:Code}{Q:Exit->av->ah->Prop}{d K E:Nat}(e:σ.get d=some (.map K E bG))(k:∀es clock,ar G c Q env (σ.set d (.gl es clock K E bG))):ar G c Q env σ:=
 aGp (ι:=iu×Nat) (dc:=λ_=>env) (σ2:=λa=>σ.set d (.gl a.1 a.2 K E bG)) (λcx I β p w b f=>by
  have:=b.bY d _ e;simp only[bl]at this;rcases this with n|⟨o,es,clock,g,l,h,i,j,m⟩
  .exact⟨(#[],0),I,β,yY e b (by simp only[bl];exact .inl n),f⟩
  .exact⟨(es,clock),I,β,yY e b (by simp only[bl];exact .inr ⟨o,g,l,h,i,j,m⟩),f⟩) λa=>k a.1 a.2
theorem aGc{d K E clock:Nat}{es:iu}(b:σ.get d=some (.gl es clock K E bG)):cZ G env σ env (σ.set d (.map K E bG)):=λcx I β f w a c=>by
 refine⟨I,β,yY b a ?_,c⟩;have:=a.bY d _ b;simp only[bl]at this ⊢;rcases this with e|⟨m,g,k,h,i,j,l⟩
 .exact .inl e
 .grind
def aGU{c:Code}{Q:Exit->av->ah->Prop}{d K E e:Nat}{keys:List U}{b:Option (iG×Nat)}(g:σ.get d=some (.eo K E e keys b none))(k:∀es clock,ar G c Q env (σ.set d (.eo K E e keys b (some (es,clock))))):ar G c Q env σ:=
 aGp (ι:=iu×Nat) (dc:=λ_=>env) (σ2:=λa=>σ.set d (.eo K E e keys b (some a))) (λcx I β x w f h=>by
  have:=f.bY d _ g;simp only[bl]at this;rcases this with i|⟨v,es,clock,l,u,j,p,m,n,o,t,r,s,_⟩
  .exact⟨(#[],0),I,β,yY g f (by simp only[bl];exact .inl i),h⟩
  .exact⟨(es,clock),I,β,yY g f (by simp only[bl];exact .inr ⟨v,es,clock,l,u,j,p,m,n,o,t,r,s,λi q=>(qw q).symm⟩),h⟩) λa=>k a.1 a.2
end weak
end
section
open Go.ChangeMaps (setBlock)
def hb{α S:Type}(B:Int->α->S->Option S):List (Int×α)->S->Option S
 |[],s=>some s
 |p::r,s=>match B p.1 p.2 s with|none=>none|some a=>hb B r a
open Classical in
noncomputable def rH{α S:Type}(l:List (Int×α))(B:Int->α->S->Option S)(s:S):Option S:=
 if ∀a:List (Int×α),a.Perm l->hb B a s=hb B l s then hb B l s else none
theorem B6{α S:Type}{l:List (Int×α)}{B:Int->α->S->Option S}{s r:S}(h:rH l B s=some r):(∀a:List (Int×α),a.Perm l->hb B a s=hb B l s)/\hb B l s=some r:=by
 unfold rH at h
 grind
theorem LQ{α S:Type}{l:List (Int×α)}{B:Int->α->S->Option S}{s r:S}(h:∀a:List (Int×α),a.Perm l->hb B a s=some r):rH l B s=some r:=by
 unfold rH
 simp_all
def FE{α S:Type}{B:Int->α->S->Option S}:∀(l a:List (Int×α)) (s:S),hb B (l++a) s=(hb B l s).bind (hb B a)
 |[],_,_=>rfl
 |p::r,a,s=>by
  simp only[l6,hb];cases B p.1 p.2 s with
  |none=>rfl
  |some b=>exact FE r a b
section
variable {G:bI}{σ:ah}{o:Oper}{ev:Operand->U}
def b4.qZ:b4->Option (iu×Nat)
 |.gl es c _ _ _=>some (es,c)
 |.eo _ _ _ _ _ H=>H
 |_=>none
variable {I:a8}{ah6:b4}{cB clock:Nat}{cx:dz}{es:iu}{w:World}{β:Nat->Value}
theorem C4(e:bE G cx I β σ w)(f:σ.get cB=some ah6)(a:ah6.qZ=some (es,clock))(c:β cB≠.nilFunc):
  ∃b,β cB=.map (some b)/\w.heap[b]?=some (.map es clock)/\iP es clock:=by
 have d:=e.bY cB ah6 f;cases ah6<;>simp only[b4.qZ,reduceCtorEq]at a
 .cases a;simp only[bl,c,iT]at d
  grind
 .simp only[bl,c,iT]at d
  grind
def D.range{T cB dh K E clock:Nat}{x:Operand}{es:iu}{ah6:b4}(h:o.op=.range T x)(H:ev x=.cc cB)(hd:σ.get cB=some ah6)(an:ah6.qZ=some (es,clock))(ao:G.P.underlying T=some (.map K E))
  (hi:G.ids.contains dh=false) (Y:σ.clean [dh].contains=true):fO G o ev σ [dh] [dh] (λr aq=>r=.ptr dh 0/\aq=(dh,.iter cB clock clock #[])::σ):=by
 intro cx I β w aw O hop;have S:=hop x (by simp[h,Op.operands]);rw[H]at S
 simp only[aD]at S;obtain⟨S,ak⟩:=S;have az:β cB≠.nilFunc:=λe=>by rw[S,e]at ak;simp[l3]at ak
 obtain⟨Z,ag,ar,aB⟩:=C4 O hd an az
 have aA:cB≠dh:=λe=>by
  have:=(aFi Y cB ah6 hd).1;simp[e]at this
 have ay:(execOp aw o).run G.P w=.ok (.value (.pointer (some ⟨w.heap.size,0,none⟩))) (w.alloc (.mapIter (some Z) clock #[] clock)):=by
  simp[execOp,h,S,ag,run_range_map w T K E Z es clock ao ar]
 rw[ay];have ae:=O.pR (c7:=[dh]) (σ2:=σ) (env:=[]) ⟨λ_ _=>rfl,by simpa using hi,rfl,Y,λx H o h=>by have:=(aFi Y x _ h).1;rw[ua.2 H]at this;cases this⟩;have ab:∀y,y≠dh->gA (gV β [dh]) dh (.pointer (some ⟨w.heap.size,0,none⟩)) y=β y:=λy Q=>by rw[gx _ _ Q];simp[gV,Q]
 have aa:gA (gV β [dh]) dh (.pointer (some ⟨w.heap.size,0,none⟩)) dh=.pointer (some ⟨w.heap.size,0,none⟩):=gb _ _ _;refine⟨.ptr dh 0,_,I,gA (gV β [dh]) dh (.pointer (some ⟨w.heap.size,0,none⟩)),⟨rfl,rfl⟩,?_,?_,b1.refl I,λy Q=>ab y (by simpa using Q),λy Q=>by rw[aFc,bw (et (by simpa using Q))]⟩
 .simp only[aD,aa];exact⟨w.heap.size,rfl,rfl⟩
 .refine ae.turn (d:=dh) (fR.alloc w _) (.inl O.size) (λx H=>by rw[aFc,bw (et H)]) (λx H X e=>by
    obtain⟨ax,X⟩:=hZ.1 X;exact absurd (ae.rB X e) (by omega)) (b1.refl I) (λ_ _ _=>rfl) (λaE aC am=>by rw[O.ij (eb _)]at am;cases am) (O.ij (eb _) none)
   (λx H=>gx _ _ H) (.inl (by simpa using hi)) (aFO (by simp[gV])) (.inl (by rw[aa];rfl)) λax aj=>?_
  rw[aFc,bx rfl]at aj;cases aj;simp only[bl,aa,ab cB aA,ag];exact .inr ⟨w.heap.size,Z,rfl,rfl,pf w _,λo=>O.ij (eb _) o,.inl O.size⟩
theorem D.next{cB dh clock:Nat}{x:Operand}{es:iu}{seen:lT}{ah6:b4}(h:o.op=.next x false)(S:ev x=.ptr dh 0)(hi:σ.get dh=some (.iter cB clock clock seen))(hd:σ.get cB=some ah6)(ar:ah6.qZ=some (es,clock)):
  fO G o ev σ [dh] [] (λr aj=>((leftOf es seen).size=0/\r=.bO [.bool false]/\aj=σ)\/∃e∈(leftOf es seen).toList,r=.bO [.bool true,.dH,.dH]/\aj=σ.set dh (.iter cB clock clock (seen.push e.born))):=by
 intro cx I β w ao Q hop;have H:=hop x (by simp[h,Op.operands]);rw[S]at H
 simp only[aD]at H;obtain⟨b,H,ak⟩:=H;have aC:β dh≠.nilFunc:=λe=>by rw[e]at H;cases H
 have nL:=Q.bY dh _ hi;simp only[bl,aC,iT]at nL;obtain⟨r,aJ,aw,X,am,an,aA⟩:=nL;have aK:b=r:=by rw[aw]at H;simpa [bR]using H.symm
 subst aK;have aI:β cB≠.nilFunc:=λe=>by rw[e]at X;cases X
 obtain⟨O,aG,aH,aB⟩:=C4 Q hd ar aI;have:O=aJ:=by rw[aG]at X;simpa [bR]using X
 subst this;rcases run_next_at (P:=G.P) w o.type b O clock clock seen es clock am aH aB.2 (eb _)with⟨ae,Z⟩|⟨e,ae,aa,Z,s3⟩
 .have ab:(execOp ao o).run G.P w=.ok (.value (.tuple #[.bool false])) w:=by simp[execOp,h,ak,Z]
  rw[ab];refine⟨.bO [.bool false],σ,I,β,.inl ⟨ae,rfl,rfl⟩,?_,Q,b1.refl I,λ_ _=>rfl,λ_ _=>rfl⟩;simp[aD,bD,a1]
 .have ab:(execOp ao o).run G.P w=.ok (.value (.tuple #[.bool true,e.key,e.val])) (setBlock aa b (.mapIter (some O) clock (seen.push e.born) clock)):=by simp[execOp,h,ak,s3]
  rw[ab];refine⟨.bO [.bool true,.dH,.dH],σ.set dh (.iter cB clock clock (seen.push e.born)),I,β,.inr ⟨e,ae,rfl,rfl⟩,?_,?_,b1.refl I,λ_ _=>rfl,λy ay=>by rw[aFf,bw (by simpa using ay)]⟩
  .simp only[aD,bD,a1]
   grind
  .have aL:fR w (setBlock aa b (.mapIter (some O) clock (seen.push e.born) clock)) b:=by
    rcases Z with rfl|rfl
    .exact aFz _ b _
    .exact fR.drew (aFz _ b _)
   have aq:bR (β dh)=some b:=H;have aN:(setBlock aa b (.mapIter (some O) clock (seen.push e.born) clock)).heap[b]?=some (.mapIter (some O) clock (seen.push e.born) clock):=by
    have az:=gZ am;have:aa.heap=w.heap:=by rcases Z with rfl|rfl<;>rfl
    simp[setBlock,this,BX,az]
   refine Q.turn (d:=dh) aL aA (λx S=>by rw[aFf,bw S]) (λx S ax aE=>Q.cQ x dh ax (by rw[hi];rfl) S b aE (i4 aq)) (b1.refl I) (λ_ _ _=>rfl)
    (λo v ag=>by rw[an o]at ag;cases ag) (an none) (λ_ _=>rfl) (.inr rfl) (fQ.refl β) (.inl aq) λaR Y=>?_
   rw[aFf,bx rfl,hi]at Y;injection Y with Y
   subst Y;simp only[bl]
   grind
def Mk{I:a8}:∀{d:List (U×U)} {es:jN} {i:Nat} {a c:U} {e:MapEntry},ey I d es->d[i]?=some (a,c)->es[i]?=some e->a1 I a e.key/\a1 I c e.val
 |[],_,i,_,_,_,_,h,_=>by simp at h
 |(k,v)::r,_,i,a,c,e,h,b,he=>by
  simp only[ey]at h;obtain⟨m,l,rfl,j,f,g⟩:=h;cases i with
  |zero=>simp at b he;obtain⟨rfl,rfl⟩:=b;subst he;exact⟨j,f⟩
  |succ i=>simp at b he;exact Mk g b he
def LR{I:a8}:∀{ks:List U} {vs:hD} {es:jN} {i:Nat} {a:U} {e:MapEntry},h2 I ks vs es->ks[i]?=some a->es[i]?=some e->a1 I a e.key
 |[],_,_,i,_,_,_,h,_=>by simp at h
 |k::r,_,_,i,a,e,h,b,he=>by
  simp only[h2]at h;obtain⟨m,g,j,l,rfl,rfl,d,f,c⟩:=h;cases i with
  |zero=>simp at b he;subst b;subst he;exact d
  |succ i=>simp at b he;exact LR c b he
variable {dh i:Nat}
theorem LS{f:Operand->Value}{x:Operand}{seen:lT}{e:MapEntry}(d:bE G cx I β σ w)(h:o.op=.entry x)(a:aD I β (.ptr dh 0) (f x))
  (hi:σ.get dh=some (.iter cB clock clock (seen.push e.born))) (y:σ.get cB=some ah6) (k:ah6.qZ=some (es,clock)) (C:es[i]?=some e):(execOp f o).run G.P w=.ok (.value (.tuple #[e.key,e.val])) w/\β cB≠.nilFunc:=by
 simp only[aD]at a;obtain⟨b,a,m⟩:=a;have q:β dh≠.nilFunc:=λe=>by rw[e]at a;cases a
 have nL:=d.bY dh _ hi;simp only[bl,q,iT]at nL;obtain⟨z,u,l,c,n,A,B⟩:=nL;have v:b=z:=by rw[l]at a;simpa [bR]using a.symm
 subst v;have g:β cB≠.nilFunc:=λe=>by rw[e]at c;cases c
 obtain⟨j,r,s,p⟩:=C4 d y k g;have:j=u:=by rw[r]at c;simpa [bR]using c
 subst this;have t:e∈es.toList:=by grind
 exact⟨by simp[execOp,h,m,run_entry_at (P:=G.P) w b j clock seen es clock e n s t p.1],g⟩
variable {E K:Nat}{k:IntKind}{α:Type}
def aGu{x:Operand}{seen:lT}{e:MapEntry}{n:Int}{v:α}(l:List (Int×α))(enc:α->U)(h:o.op=.entry x)(q:ev x=.ptr dh 0)(hi:σ.get dh=some (.iter cB clock clock (seen.push e.born)))
  (z:σ.get cB=some (.gl es clock K E (bo k enc l))) (m:es[i]?=some e) (y:l[i]?=some (n,v)):Yields G o ev σ [] [dh,cB] (.bO [.int k n,enc v]):=
 .pure λp cx I β w F f d A=>by
  have j:=A x (by simp[h,Op.operands]);rw[q]at j
  have g:p.get cB=some (.gl es clock K E (bo k enc l)):=by rw[f cB (by simp)];exact z
  obtain⟨u,s⟩:=LS d h j (by rw[f dh (by simp)];exact hi) g rfl m;refine⟨_,u,?_⟩;have b:=d.bY cB _ g;simp only[bl,s,iT]at b;obtain⟨H,C,D,r,_⟩:=b;obtain⟨B,t⟩:=Mk r (i:=i) (a:=.int k n) (c:=enc v) (e:=e) (by simp[bo,y]) (by simpa using m);simp only[aD,bD];exact⟨_,rfl,e.key,[e.val],rfl,B,e.val,[],rfl,a1.rep β _ _ t,rfl⟩
def aGv{j:Nat}{d:Option (iG×Nat)}{x:Operand}{seen:lT}{e:MapEntry}{n:Int}(l:List (Int×α))(h:o.op=.entry x)(s:ev x=.ptr dh 0)(hi:σ.get dh=some (.iter cB clock clock (seen.push e.born)))
  (A:σ.get cB=some (.eo K E j (dR k l) d (some (es,clock)))) (q:es[i]?=some e) (m:(l.map (·.1))[i]?=some n):Yields G o ev σ [] [dh,cB] (.bO [.int k n,.dH]):=
 .pure λr cx I β w M f c B=>by
  have p:=B x (by simp[h,Op.operands]);rw[s]at p
  have g:r.get cB=some (.eo K E j (dR k l) d (some (es,clock))):=by rw[f cB (by simp)];exact A
  obtain⟨y,u⟩:=LS c h p (by rw[f dh (by simp)];exact hi) g rfl q;refine⟨_,y,?_⟩;have b:=c.bY cB _ g;simp only[bl,u,iT]at b;obtain⟨U,R,S,F,Q,D,L,H,J,t,P,N,O,z⟩:=b;cases z _ rfl;have C:=LR t (i:=i) (a:=.int k n) (e:=e) (by
   simp only[l7,Option.map_eq_some_iff]at m;obtain⟨T,v,rfl⟩:=m;simp[dR,v]) (by simpa using q)
  simp only[aD,bD];exact⟨_,rfl,e.key,[e.val],rfl,C,e.val,[],rfl,trivial,rfl⟩
def kL{α:Type}(l:List (Int×α))(n:Int):List (Int×α):=match l with
 |[]=>[]
 |p::r=>if p.1=n then r else p::kL r n
theorem Kz{I:a8}{α:Type}{k:IntKind}{enc:α->U}(n:Int):∀(l:List (Int×α)) (es:jN) (i:Nat) (a:α),ey I (bo k enc l) es->aO l n=some a->
  ∃j v,Instr.findNow (.int k) (.int k n) es i=some (some (i+j,v))/\j<es.length/\ey I (bo k enc (kL l n)) (es.eraseIdx j)
 |[],es,i,a,h,c=>by simp[aO]at c
 |(m,b)::r,es,i,a,h,c=>by
  simp only[bo,dr,ey]at h;obtain⟨g,p,rfl,d,s,f⟩:=h;simp only[a1]at d;rw[h9]at c;by_cases e:m=n
  .subst e;refine⟨0,g.val,by simp[Instr.findNow,Instr.sameNow,d],by simp,?_⟩;simp only[kL,fE,List.eraseIdx_cons_zero];exact f
  .rw[bw e]at c;obtain⟨j,v,t,q,o⟩:=Kz n r p (i+1) a f c;refine⟨j+1,v,?_,by simpa using q,?_⟩
   .simp only[Instr.findNow,Instr.sameNow,d,bx]
    grind
   .simp only[kL,e,h0,List.eraseIdx_cons_succ,bo,dr,ey];exact⟨g,_,rfl,by simp only[a1];exact d,s,o⟩
def LU{α:Type}:∀{l:List (Int×α)} {n:Int},aO l n=none->kL l n=l
 |[],_,_=>rfl
 |p::r,n,h=>by
  rw[h9]at h;split at h
  .cases h
  .rename_i a;simp only[kL,bw a,LU h]
theorem iP.erase(h:iP es clock)(j:Nat):iP (es.eraseIdxIfInBounds j) clock:=by
 obtain⟨Q,H⟩:=h;have e:(es.eraseIdxIfInBounds j).toList=es.toList.eraseIdx j:=by simp
 refine⟨?_,λx O=>H x ?_⟩
 all_goals grind
def D.XK{T d:Nat}{x y:Operand}{n:Int}(l:List (Int×α))(enc:α->U)(h:o.op=.call ⟨.builtin .delete,#[x,y],#[T,K]⟩)(H:ev x=.cc d)(aH:ev y=.int k n)
  (hd:σ.get d=some (.map K E (bo k enc l))) (Y:hs G.P T K E k) :
  fO G o ev σ [d] [] (λr aE=>r=.bO []/\aE=σ.set d (.map K E (bo k enc (kL l n)))):=by
 intro cx I β w aI Z hop;have aC:=hop x (by simp[h,Op.operands,Call.operands]);rw[H]at aC
 have O:=hop y (by simp[h,Op.operands,Call.operands]);rw[aH]at O;have O:=g1 O
 obtain⟨r,es,clock,az,an,ae,aa,ab,ao,ar⟩:=FR Z hd aC;have aA:∀w,(underlying T).run G.P w=.ok (.map K E) w:=λw=>by simp[underlying,program,Sem.run,Y.fz]
 have aB:∀w,(underlying K).run G.P w=.ok (.int k) w:=λw=>by simp[underlying,program,Sem.run,Y.key]
 have aq:=x0 (P:=G.P) ae;have ax:=Bt (P:=G.P) Y.key (es.isEmpty) n w;have ay:∀S:Obj,(setObj r S).run G.P w=.ok () {w with heap:=w.heap.setIfInBounds r S}:=λS=>by simp[setObj,Sem.run,ae]
 have aT:∃Q,(execOp aI o).run G.P w=.ok (.value (.tuple #[])) {w with heap:=w.heap.setIfInBounds r (.map Q clock)}/\ey I (bo k enc (kL l n)) Q.toList/\iP Q clock:=by
  cases ag:aO l n with
  |none=>
   obtain⟨aj,aL⟩:=Fj n l es.toList 0 aa ag;have ak:(Instr.findKey K (.int k n) es.toList).run G.P w=.ok none w:=by simp[Instr.findKey,aB,aj]
   refine⟨es,by simp[execOp,h,resolve,invoke,builtin,Builtin.delete_,az,O,aA,aq,ax,ak,ay],?_,ar⟩;rw[LU ag];exact aa
  |some a=>
   obtain⟨j,u,aj,aL,aJ⟩:=Kz n l es.toList 0 a aa ag;have ak:(Instr.findKey K (.int k n) es.toList).run G.P w=.ok (some (0+j,u)) w:=by simp[Instr.findKey,aB,aj]
   refine⟨es.eraseIdxIfInBounds j,by simp[execOp,h,resolve,invoke,builtin,Builtin.delete_,az,O,aA,aq,ax,ak,ay],?_,ar.erase j⟩;simpa using aJ
 obtain⟨Q,aN,aR,aK⟩:=aT;rw[aN];refine⟨.bO [],_,I,β,⟨rfl,rfl⟩,by simp[aD,bD],?_,b1.refl I,λ_ _=>rfl,λx H=>by rw[aFf,bw (by simpa using H)]⟩;have aw:bR (β d)=some r:=by rw[an];rfl
 refine Z.turn (d:=d) (aFz w r _) ao (λx H=>by rw[aFf,bw H]) (λx H aG e=>Z.cQ x d aG (by rw[hd];rfl) H r e (i4 aw)) (b1.refl I) (λ_ _ _=>rfl)
  (λo v am=>by rw[ab o]at am;cases am) (ab none) (λ_ _=>rfl) (.inr rfl) (fQ.refl β) (.inl aw) λS X=>?_
 rw[aFf,bx rfl,hd]at X;injection X with X
 subst X;simp only[bl];exact .inr ⟨r,Q,clock,an,by have:=gZ ae;simp[BX,this],aR,ab,ao,aK⟩
variable {env:av}
def A.zO{c:Code}{Q:Exit->av->ah->Prop}{F:Prop}(h:∀cx I β a w,bE G cx I β σ w->iC I β env a->F)(k:F->ar G c Q env σ):ar G c Q env σ:=
 aFw λcx a w S=>by
  obtain⟨I,β,O,H,X,Y⟩:=S;exact(k (h cx I β a w O H)).use cx a w ⟨I,β,O,H,X,Y⟩
def lW{a α:Type}(l:List (a×α))(p:cR):List (a×α):=p.filterMap λi=>l[i]?
theorem LV{c:Type}(l:List (c×α)):lW l (List.range l.length)=l:=by
 have:∀(a:Nat),a<=l.length->lW l (List.range a)=l.take a:=by
  intro a;induction a with
  |zero=>intro _;simp[lW]
  |succ a b=>
   intro d;rw[List.range_succ];simp only[lW,r5,List.filterMap_cons,List.filterMap_nil]at b ⊢;rw[b (by omega),jW (by omega)];simp only;rw[List.take_succ,jW (by omega)];rfl
 grind
def La{p:cR}{n:Nat}(b:p.Nodup)(a:∀i,i∈p↔i<n):p.Perm (List.range n):=
 (List.perm_ext_iff_of_nodup b List.nodup_range).2 λi=>by rw[pQ];exact a i
variable {S:Type}{B:Int->α->S->Option S}{ai1:S}{b id it t1 t2:Nat}{l:List (Int×α)}
theorem aGo{Q:Exit->av->ah->Prop}(m:∀E:List (Int×α),E.Perm l->∃r,hb B E ai1=some r){o q:Oper}{y:Code}
  (C:S->Prop) (h:S->av) (k:lT->S->ah) (L:o.op=.next (.tmp it) false/\o.dst=some t1/\o.guard=none) (Y:q.op=.extract (.tmp t1) 0/\q.dst=some t2/\q.guard=none) (bF:v6 G.N #[o,q]=true)
  (bs:C ai1) (bj:∀n v g d,B n v g=some d->C g->C d) (nL:∀g,(h g).get it=.ptr dh 0) (aH:∀seen g,(k seen g).get dh=some (.iter cB clock clock seen)) (fB:∀seen g,∃ah6,(k seen g).get cB=some ah6/\ah6.qZ=some (es,clock))
  (a4:∀seen g ae,(k seen g).set dh (.iter cB clock clock ae)=k ae g) (aY:∀seen g,C g->∀cx I β w,bE G cx I β (k seen g) w->β cB≠.nilFunc->es.size=l.length)
  (aV:cZ G env σ (h ai1) (k #[] ai1))
  (bt:∀(seen:lT) (e:MapEntry) (i:Nat) (n:Int) (v:α) (g d:S),es[i]?=some e->l[i]?=some (n,v)->C g->B n v g=some d->
   ar G y (l1 (λaw p=>cZ G aw p (h d) (k (seen.push e.born) d)) Q) ((t2,.bool true)::(t1,.bO [.bool true,.dH,.dH])::h g) (k (seen.push e.born) g))
  (out:∀seen r E,E.Perm l->hb B E ai1=some r->Q (.exit b) ((t2,.bool false)::(t1,.bO [.bool false])::h r) (k seen r)) :
  ar G (.loop (.seq (.region id #[o,q] false) (.seq (.cond (.tmp t2) .skip (.exit b)) y))) Q env σ:=by
 refine A.loop (α:=lT×S) (λs=>h s.2) (λs=>k s.1 s.2) (λs=>C s.2/\∃c:cR,c.Nodup/\(∀i∈c,i<l.length)/\(∀(i:Nat) (e:MapEntry),es[i]?=some e->(s.1.contains e.born=true↔i∈c))/\hb B (lW l c) ai1=some s.2)
  (λs=>(leftOf es s.1).size) (#[],ai1) ⟨bs,[],nx,by simp,by simp,rfl⟩ aV ?_
 rintro⟨seen,g⟩ ⟨Z,c,aZ,ao,T,ay⟩;refine A.zO (F:=es.size=l.length/\(es.toList.map (·.born)).Nodup) (λcx I β aN w X aT=>?_) λ⟨f1,f2⟩=>?_
 .have z:=aT it;rw[show(h (seen,g).2).get it=.ptr dh 0 from nL g]at z;simp only[aD]at z;obtain⟨b,z,_⟩:=z;have aX:β dh≠.nilFunc:=λe=>by rw[e]at z;cases z
  have ab:=X.bY dh _ (aH seen g);simp only[bl,aX,iT]at ab;obtain⟨r,bR,bH,ag,_⟩:=ab;have ax:β cB≠.nilFunc:=λe=>by rw[e]at ag;cases ag
  obtain⟨ah6,aa,V⟩:=fB seen g;obtain⟨_,_,_,bG⟩:=C4 X aa V ax;exact⟨aY seen g Z cx I β w X ax,bG.1⟩
 obtain⟨ah6,aa,V⟩:=fB seen g;have bi:av.get ((t2,.bool true)::(t1,.bO [.bool true,.dH,.dH])::h g) t2=.bool true:=by rw[aFr,bx rfl]
 have bh:av.get ((t2,.bool false)::(t1,.bO [.bool false])::h g) t2=.bool false:=by rw[aFr,bx rfl]
 refine aq (A.region bF ?_);show hQ G #[o,q] ⟨false,[],[]⟩ [] [0,1] (h g) (k seen g) _;refine⟨o,rfl,.inr (.inr (.inl ⟨by simp only[g7,L.2.2],by simp,[dh],[],_,D.next (x:=.tmp it) L.1 (nL g) (aH seen g) aa V,by simp,aFN _,by simp,λbU p ba=>?_⟩))⟩
 have ext:∀(O:List U) (J:Bool) (p:ah) (K:av->ah->Prop),O[0]?=some (.bool J)->K ((t2,.bool J)::(t1,.bO O)::h g) p->hQ G #[o,q] ⟨false,[],[]⟩ [] [1] ((h g).put o.dst (.bO O)) p K:=λO J p K aU a2=>by
  refine⟨q,rfl,.inr (.inl ⟨by simp only[g7,Y.2.2],by simp,[],[],.bool J,p,aFK _ _ _,by simp,by simp,bB.extract (x:=.tmp t1) Y.1 (by rw[L.2.1];show av.get _ _=_;rw[av.put,aFr,bx rfl]) aU,?_⟩)⟩;rw[L.2.1,Y.2.1];exact a2
 rcases ba with⟨M,rfl,rfl⟩|⟨e,M,rfl,rfl⟩
 .refine ext _ false _ _ rfl ?_
  have bb:∀i,i∈c↔i<l.length:=λi=>⟨ao i,λbJ=>by
   have bo:i<es.size:=by omega
   refine(T i es[i] (qj bo)).1 ?_;by_cases W:seen.contains es[i].born=true
   .exact W
   .exfalso;have:es[i]∈leftOf es seen:=by
     unfold leftOf
     grind
    have:leftOf es seen≠#[]:=λe=>by rw[e]at this;simp at this
    exact this (Array.eq_empty_of_size_eq_zero M)⟩
  have aW:(lW l c).Perm l:=by
   have:=(La aZ bb).filterMap λi=>l[i]?;have N:=LV l;unfold lW at N ⊢
   rwa [N]at this
  refine aq (A.cond (b:=false) bh (λa=>by cases a) λ_=>bQ ?_);exact out seen g _ aW ay
 .refine ext _ true _ _ rfl ?_;rw[a4 seen g];obtain⟨a5,a7⟩:=mem_left M;obtain⟨i,t⟩:=List.getElem?_of_mem a5;have t:es[i]?=some e:=by simpa using t
  have bc:i<l.length:=by have:=(lG.1 t).1;omega
  have bT:i∉c:=λa=>by
   have:=(T i e t).2 a;rw[a7]at this;cases this
  have bk:l[i]?=some (l[i].1,l[i].2):=jW bc;have aJ:(c++[i]).Nodup:=by grind
  have aI:∀f∈c++[i],f<l.length:=λf j=>by
   rcases dG.1 j with j|j
   .exact ao f j
   .grind
  have be:∃d,B l[i].1 l[i].2 g=some d/\hb B (lW l (c++[i])) ai1=some d:=by
   have bw:lW l (c++[i])=lW l c++[(l[i].1,l[i].2)]:=by
    unfold lW
    grind
   have N:hb B (lW l (c++[i])) ai1=B l[i].1 l[i].2 g:=by
    rw[bw,FE,ay];simp only[Option.bind_some,hb];cases B l[i].1 l[i].2 g<;>rfl
   have bD:(c++[i]++(List.range l.length).filter λf=>!(c++[i]).contains f).Perm (List.range l.length):=by
    refine La ?_ λf=>?_
    .rw[uf];refine⟨aJ,List.nodup_range.filter _,λaN aR bv W e=>?_⟩;subst e;have:=(gz.1 W).2;simp only[gD,List.contains_eq_mem,iz]at this;exact this aR
    .rw[dG,gz,pQ];constructor
     .rintro(a|a)
      .exact aI f a
      .exact a.1
     .intro a;by_cases j:f∈c++[i]
      .exact .inl j
      .exact .inr ⟨a,by simpa using j⟩
   have aB:=bD.filterMap λi=>l[i]?;have ak:=LV l;unfold lW at ak;rw[ak,r5]at aB;obtain⟨r,P⟩:=m _ aB;rw[FE]at P;cases R:hb B (lW l (c++[i])) ai1 with
   |none=>unfold lW at R;rw[R]at P;cases P
   |some d=>exact⟨d,by rw[<-N];exact R,rfl⟩
  obtain⟨d,az,a9⟩:=be;refine aq (A.cond (b:=true) bi (λ_=>aK ?_) λa=>by cases a);refine(bt seen e i l[i].1 l[i].2 g d t bk Z az).mono λbz aw p u=>?_;cases bz with
  |normal=>
   refine⟨(seen.push e.born,d),⟨bj _ _ _ _ az Z,c++[i],aJ,aI,λf aj j=>?_,a9⟩,left_shrinks es seen e M,u⟩;rw[contains_push,kZ,beq_iff_eq,T f aj j,dG,gL];constructor
   .rintro(a|a)
    .exact .inl a
    .right;have aA:es.toList[f]?=some aj:=by simpa using j
     have aE:es.toList[i]?=some e:=by simpa using t
     have aC:=(k0.1 aA).1;have aG:=(k0.1 aE).1;have an:=(k0.1 aA).2;have am:=(k0.1 aE).2;have aL:=tG.1 f2;rcases Nat.lt_trichotomy f i with H|H|H
     .refine absurd ?_ (aL f i (by simpa using aC) (by simpa using aG) H);rw[List.getElem_map,List.getElem_map,an,am,a]
     .exact H
     .refine absurd ?_ (aL i f (by simpa using aG) (by simpa using aC) H);rw[List.getElem_map,List.getElem_map,an,am,a]
   .rintro(a|a)
    .exact .inl a
    .subst a;rw[j]at t;cases t;exact .inr rfl
  |exit id=>exact u
  |goto l=>exact u
  |ret=>exact u
  |panic bv=>exact u
  |outgrown=>exact u
def aGm{Q:Exit->av->ah->Prop}{r:S}(k:rH l B ai1=some r){j h:Oper}{y:Code}
  (f:S->Prop) (c:S->av) (a:lT->S->ah) (z:j.op=.next (.tmp it) false/\j.dst=some t1/\j.guard=none) (A:h.op=.extract (.tmp t1) 0/\h.dst=some t2/\h.guard=none) (H:v6 G.N #[j,h]=true)
  (E:f ai1) (D:∀n v g d,B n v g=some d->f g->f d) (nL:∀g,(c g).get it=.ptr dh 0) (C:∀seen g,(a seen g).get dh=some (.iter cB clock clock seen)) (fB:∀seen g,∃ah6,(a seen g).get cB=some ah6/\ah6.qZ=some (es,clock))
  (x:∀seen g p,(a seen g).set dh (.iter cB clock clock p)=a p g) (t:∀seen g,f g->∀cx I β w,bE G cx I β (a seen g) w->β cB≠.nilFunc->es.size=l.length)
  (q:cZ G env σ (c ai1) (a #[] ai1))
  (F:∀(seen:lT) (e:MapEntry) (i:Nat) (n:Int) (v:α) (g d:S),es[i]?=some e->l[i]?=some (n,v)->f g->B n v g=some d->
   ar G y (l1 (λu s=>cZ G u s (c d) (a (seen.push e.born) d)) Q) ((t2,.bool true)::(t1,.bO [.bool true,.dH,.dH])::c g) (a (seen.push e.born) g))
  (out:∀seen,Q (.exit b) ((t2,.bool false)::(t1,.bO [.bool false])::c r) (a seen r)) :
  ar G (.loop (.seq (.region id #[j,h] false) (.seq (.cond (.tmp t2) .skip (.exit b)) y))) Q env σ:=
 aGo (λm o=>⟨r,((B6 k).1 m o).trans (B6 k).2⟩) f c a z A H E D nL C fB x t q F λseen J m o e=>by
  cases e.symm.trans (((B6 k).1 m o).trans (B6 k).2);exact out seen
end
end
section
variable {au:Bool}
def ep{α:Type}(e:e9 α)(l:List α):U:=.bn false (bc e l)
def adI{α:Type}(e:e9 α)(I:a8):a1 I (ep e []) (.slice none 0 0):=by
 simp only[ep,bc,mO,a1];exact⟨none,0,rfl,by simp,by simp[maxLen],by simp,.inl trivial⟩
def BV{P:Program}{E:Nat}{α:Type}(e:e9 α)(h:∀w,(zeroValue E).run P w=.ok (.slice none 0 0) w):∀w,∃v,(zeroValue E).run P w=.ok v w/\∀I,a1 I (ep e []) v:=λw=>⟨_,h w,adI e⟩
def s5{P:Program}{E:Nat}{k:IntKind}(h:∀w,(zeroValue E).run P w=.ok (.int k 0) w):∀w,∃v,(zeroValue E).run P w=.ok v w/\∀I,a1 I (dZ k 0) v:=λw=>⟨_,h w,λI=>by simp[dZ,a1]⟩
section
variable {P:Program}
def EN{α:Type}(aeG agA agt aZ sz e2 t:Nat)(k:IntKind)(l:List (Int×List α))(n:Int)(enc:α->List U)(ids:cR)(op:Op)(env:av)(σ:ah):Option (cf×cb):=match op with
 |.lookup T x y false=>(match env.cn x with
  |some (.cc d)=>(match env.cn y with
   |some (.int a c)=>(match σ.get d with
    |some (.eo K E e keys none b)=>(match σ.get e with
     |some (.de dV)=>bif Nat.beq T aeG&&Nat.beq K agA&&Nat.beq E agt&&(σ.get t).isNone&&(σ.get e2).isNone&&!Nat.beq t e2&&!ids.contains t&&!ids.contains e2&&σ.clean [t,e2].contains then
       some (.e [d,e,e2,t] [t,e2] (.own t) ((t,.slice aZ sz (((aO l n).getD []).map enc) 0 false)::(e2,.de (eV aZ sz enc (iE l n)))::(d,.eo K E e2 (dR k l) (j7 l n t) b)::σ.minus [d,e]),([.int a c,.agg keys],[(1,.de dV)]))else none
     |_=>none)
    |_=>none)
   |_=>none)
  |_=>none)
 |_=>none
variable {N aZ aeG agA agt e2 sz:Nat}{aeo:cb}{env:av}{k:IntKind}{o:Oper}{α:Type}{enc:α->List U}{σ:ah}
theorem aaU{t:Nat}{l:List (Int×List α)}{n:Int}(d:hs P aeG agA agt k)(B:∀w,(zeroValue agt).run P w=.ok (.slice none 0 0) w){ids:cR}{s:cf}
  (h:EN aeG agA agt aZ sz e2 t k l n enc ids o.op env σ=some (s,aeo)) (A:aeo=([.int k n,.agg (dR k l)],[(1,.de (eV aZ sz enc l))])):eu ⟨P,N,ids,au⟩ o env σ s:=by
 cases a:o.op<;>rw[a]at h
 case lookup T x y ok=>
  cases ok with
  |true=>cases h
  |false=>
   simp only[EN]at h;split at h
   .rename_i I f;split at h
    .rename_i F K i;split at h
     .rename_i E C v J H z;split at h
      .rename_i dV c;obtain⟨b,⟨⟩⟩:=eN h;simp only[b9,gD]at b;obtain⟨⟨⟨⟨⟨⟨⟨⟨g,e⟩,m⟩,p⟩,j⟩,G⟩,r⟩,q⟩,u⟩:=b;obtain rfl:=ek g;obtain rfl:=ek e;obtain rfl:=ek m;cases A;refine⟨D.RL l enc a (aFb f) (aFb i) z c d B (by simpa using p) (by simpa using j) (λv=>?_) r q u,?_⟩
       all_goals simp_all
      .cases h
     .cases h
    .cases h
   .cases h
 all_goals (simp only[EN]at h;cases h)
def Am{α:Type}{aeG agA agt:Nat}{k:IntKind}(aZ sz e2 t:Nat)(l:List (Int×List α))(n:Int)(enc:α->List U)(a:hs P aeG agA agt k)(d:∀w,(zeroValue agt).run P w=.ok (.slice none 0 0) w):Hint P au:=
 .gs true ([.int k n,.agg (dR k l)],[(1,.de (eV aZ sz enc l))]) (EN aeG agA agt aZ sz e2 t k l n enc) λ_ _ _ _ _ _ _ b c=>aaU a d b c
def Pn(env:av)(σ:ah)(aZ sz:Nat)(d:Operand):Option (cR×List (List U)):=match env.cn d with
 |some .aF=>some ([],[])
 |some (.own a)=>(match σ.get a with
  |some (.slice b c xs 0 _)=>bif Nat.beq b aZ&&Nat.beq c sz then some ([a],xs)else none
  |_=>none)
 |_=>none
def AT{α:Type}(aeG agA agt aZ sz e2:Nat)(k:IntKind)(afs:List (Int×List α))(enc:α->List U)(ids:cR)(T:Nat)(x y g:Operand)(env:av)(σ:ah):Option (cf×cb×Option (iG×Nat)):=match env.cn x with
  |some (.cc a)=>(match env.cn y with
   |some (.int d f)=>(match σ.get a with
    |some (.eo K E e keys c h)=>(match σ.get e with
     |some (.de dV)=>(match Pn env σ aZ sz g with
      |some (b,xs)=>bif Nat.beq T aeG&&Nat.beq K agA&&Nat.beq E agt&&(σ.get e2).isNone&&!ids.contains e2&&σ.clean [e2].contains then
       some (.e (a::e::e2::b) [e2] .undef ((e2,.de (eV aZ sz enc afs))::(a,.eo K E e2 (dR k afs) none none)::σ.minus (a::e::b)),([.int d f,.agg keys,.bn false xs],[(1,.de dV)]),c)else none
      |none=>none)
     |_=>none)
    |_=>none)
   |_=>none)
  |_=>none
variable {T:Nat}{afs:List (Int×List α)}{ks:List U}{x:Operand}
theorem Qq{l:List (Int×List α)}{n:Int}{row:List α}(i:hs P aeG agA agt k){ids:cR}{s:cf}{d:Option (iG×Nat)}{y f:Operand}
  (j:o.op=.mapUpdate T x y f\/o.op=.insert T x y f) (h:AT aeG agA agt aZ sz e2 k afs enc ids T x y f env σ=some (s,aeo,d)) (J:aeo=([.int k n,.agg ks,.bn false (row.map enc)],[(1,.de (eV aZ sz enc l))])) (H:dR k l=ks) (F:bW l n row=afs) (q:d=none\/∃t,d=j7 l n t) (I:row.map enc=[]->row=[]):eu ⟨P,N,ids,au⟩ o env σ s:=by
 subst H F;simp only[AT]at h;split at h
 .rename_i U m;split at h
  .rename_i O X p;split at h
   .rename_i L K V W M Q w;split at h
    .rename_i dV g;split at h
     .rename_i R Y a;obtain⟨v,⟨⟩⟩:=eN h;simp only[b9,gD]at v;obtain⟨⟨⟨⟨⟨B,A⟩,D⟩,r⟩,c⟩,u⟩:=v;obtain rfl:=ek B;obtain rfl:=ek A;obtain rfl:=ek D;cases J;simp only[Pn]at a;split at a
      .rename_i e;simp only[ee,kJ]at a;obtain⟨rfl,a⟩:=a;exact⟨aGr (bL:=false) [] l enc row j (aFb m) (aFb p) (.inl ⟨aFb e,I a.symm,rfl⟩) w q g i (by simpa using r) c u,by simp only[qA,List.all_nil,c];rfl⟩
      .rename_i z e;split at a
       .rename_i E G S bL C;cases b:(Nat.beq E aZ&&Nat.beq G sz)with
        |false=>rw[b]at a;cases a
        |true=>
         rw[b]at a;simp only[cm,ee,kJ]at a;obtain⟨rfl,rfl⟩:=a;simp only[b9]at b;obtain rfl:=ek b.1;obtain rfl:=ek b.2;exact⟨aGr (bL:=bL) [z] l enc row j (aFb m) (aFb p) (.inr ⟨z,aFb e,C,rfl⟩) w q g i (by simpa using r) c u,by simp only[qA,List.all_nil,c];rfl⟩
       .grind
      .cases a
     .cases h
    .cases h
   .cases h
  .cases h
 .cases h
def oE:Option (iG×Nat)->U
 |none=>.dH
 |some (none,t)=>.own t
 |some (some i,t)=>.ptr t i
def XQ:∀{a b:Option (iG×Nat)},oE a=oE b->a=b
 |none,none,_=>rfl
 |some (none,t),some (none,u),h=>by simp only[oE,U.own.injEq]at h;rw[h]
 |some (some i,t),some (some c,u),h=>by simp only[oE,U.ptr.injEq]at h;rw[h.1,h.2]
 |none,some (none,_),h|none,some (some _,_),h|some (none,_),none,h|some (some _,_),none,h|some (none,_),some (some _,_),h|some (some _,_),some (none,_),h=>by simp[oE]at h
def xB{α:Type}(aeG agA agt aZ sz e2:Nat)(k:IntKind)(afs:List (Int×List α))(enc:α->List U)(ids:cR)(op:Op)(env:av)(σ:ah):Option (cf×cb):=match op with
 |.mapUpdate T x y z=>(match AT aeG agA agt aZ sz e2 k afs enc ids T x y z env σ with|some (s,aeo,a)=>some (s,(oE a::aeo.1,aeo.2))|none=>none)
 |.insert T x y z=>(match AT aeG agA agt aZ sz e2 k afs enc ids T x y z env σ with|some (s,aeo,a)=>some (s,(oE a::aeo.1,aeo.2))|none=>none)
 |_=>none
theorem Ob{l:List (Int×List α)}{n:Int}{row:List α}{d:Option (iG×Nat)}(i:hs P aeG agA agt k)(v:dR k l=ks)(u:bW l n row=afs)(p:d=none\/∃t,d=j7 l n t){ids:cR}{s:cf}
  (h:xB aeG agA agt aZ sz e2 k afs enc ids o.op env σ=some (s,aeo)) (g:aeo=([oE d,.int k n,.agg ks,.bn false (row.map enc)],[(1,.de (eV aZ sz enc l))])):eu ⟨P,N,ids,au⟩ o env σ s:=by
 have y:row.map enc=[]->row=[]:=λh=>List.map_eq_nil_iff.1 h;have z:∀{T:Nat} {x a b:Operand} (f:Option (iG×Nat)) (c:cb),(o.op=.mapUpdate T x a b\/o.op=.insert T x a b)->AT aeG agA agt aZ sz e2 k afs enc ids T x a b env σ=some (s,c,f)->aeo=(oE f::c.1,c.2)->eu ⟨P,N,ids,au⟩ o env σ s:=by
  intro T x a b f c e j m;rw[m]at g;simp only[kJ,iV]at g;obtain⟨⟨w,r⟩,q⟩:=g;refine Qq i e j (Prod.ext r q) v u ?_ y;rw[XQ w];exact p
 cases e:o.op<;>rw[e]at h
 case mapUpdate T x a b=>
  simp only[xB]at h;split at h
  .grind
  .cases h
 case insert T x a b=>
  simp only[xB]at h;split at h
  .grind
  .cases h
 all_goals (simp only[xB]at h;cases h)
def PA{α:Type}{aeG agA agt:Nat}{k:IntKind}(aZ sz e2:Nat)(l:List (Int×List α))(n:Int)(enc:α->List U)(row:List α)(a:hs P aeG agA agt k):Hint P au:=
 .gs true ([oE none,.int k n,.agg (dR k l),.bn false (row.map enc)],[(1,.de (eV aZ sz enc l))]) (xB aeG agA agt aZ sz e2 k (bW l n row) enc) λ_ _ _ _ _ _ _ b c=>Ob a rfl rfl (.inl rfl) b c
def Dt{α:Type}{aeG agA agt:Nat}{k:IntKind}(aZ sz e2:Nat)(l:List (Int×List α))(n:Int)(enc:α->List U)(row:List α)(t:Nat)(a:hs P aeG agA agt k):Hint P au:=
 .gs true ([oE (j7 l n t),.int k n,.agg (dR k l),.bn false (row.map enc)],[(1,.de (eV aZ sz enc (iE l n)))]) (xB aeG agA agt aZ sz e2 k (bW l n row) enc) λ_ _ _ _ _ _ _ b c=>Ob a (Lo k l n) (Mh l n row) (.inr ⟨t,(XJ l n t).symm⟩) b c
def D7{α:Type}(aeG:Nat)(k:IntKind)(l:List (Int×α))(n:Int)(enc:α->U)(a:α)(op:Op)(env:av)(σ:ah):Option (cf×cb):=match op with
 |.lookup T x y ok=>(match env.cn x with
  |some (.dK c)=>(match env.cn y with
   |some (.int b e)=>bif Nat.beq T aeG then some (.y [] (bif ok then .bO [enc ((aO l n).getD a),.bool (aO l n).isSome]else enc ((aO l n).getD a)),([.dK c,.int b e],[]))else none
   |_=>none)
  |some (.cc d)=>(match env.cn y with
   |some (.int b e)=>(match σ.get d with
    |some (.gl es clock K E c)=>bif Nat.beq T aeG then some (.y [d] (bif ok then .bO [enc ((aO l n).getD a),.bool (aO l n).isSome]else enc ((aO l n).getD a)),([.dK c,.int b e],[]))else none
    |_=>none)
   |_=>none)
  |_=>none)
 |_=>none
variable {clock:Nat}{es:iu}
def aHj{G:bI}{ev:Operand->U}{K E r q d:Nat}{y:Operand}{f:Bool}{n:Int}(l:List (Int×α))(enc:α->U)(b:α)(h:o.op=.lookup T x y f)(j:ev x=.cc d)(m:ev y=.int k n)(s:σ.get d=some (.gl es clock r q (bo k enc l)))
  (g:hs G.P T K E k) (t:∀w,∃v,(zeroValue E).run G.P w=.ok v w/\∀I,a1 I (enc b) v) :
  Yields G o ev σ [] [d] (bif f then .bO [enc ((aO l n).getD b),.bool (aO l n).isSome]else enc ((aO l n).getD b)):=
 .pure λu cx I A w z p i e=>by
  have c:=e x (by simp[h,Op.operands]);rw[j]at c
  have a:=e y (by simp[h,Op.operands]);rw[m]at a;have a:=g1 a
  exact B9 l enc b h (XX i (by rw[p d (by simp)];exact s) c) a g t
variable {l:List (Int×α)}
def Qr{n:Int}{enc:α->U}{a:α}(f:hs P aeG agA agt k)(i:∀w,∃v,(zeroValue agt).run P w=.ok v w/\∀I,a1 I (enc a) v){ids:cR}{s:cf}
  (h:D7 aeG k l n enc a o.op env σ=some (s,aeo)) (g:aeo=([.dK (bo k enc l),.int k n],[])):eu ⟨P,N,ids,au⟩ o env σ s:=by
 cases c:o.op<;>rw[c]at h
 case lookup T x y ok=>
  simp only[D7]at h;split at h
  .rename_i m d;split at h
   .rename_i j q e;obtain⟨b,⟨⟩⟩:=eN h;obtain rfl:=ek b;cases g;exact aHl l enc a c (aFb d) (aFb e) f i
   .cases h
  .rename_i u d;split at h
   .rename_i j q e;split at h
    .rename_i es clock t r m p;obtain⟨b,⟨⟩⟩:=eN h;obtain rfl:=ek b;cases g;exact aHj l enc a c (aFb d) (aFb e) p f i
    .cases h
   .cases h
  .cases h
 all_goals (simp only[D7]at h;cases h)
def oK{α:Type}{aeG agA agt:Nat}{k:IntKind}(l:List (Int×α))(n:Int)(enc:α->U)(a:α)(b:hs P aeG agA agt k)(e:∀w,∃v,(zeroValue agt).run P w=.ok v w/\∀I,a1 I (enc a) v):Hint P au:=
 .gs false ([.dK (bo k enc l),.int k n],[]) (λ_=>D7 aeG k l n enc a) λ_ _ _ _ _ _ _ c d=>Qr b e c d
def Eh(aeG:Nat)(n:Int)(op:Op)(env:av)(_:ah):Option (cf×cb):=match op with
 |.call c=>(match c.callee with
  |.builtin b=>(match b with
   |.len=>(match c.args.toList with
    |[x]=>(match c.argTypes.toList with
     |[T]=>(match env.cn x with
      |some (.dK a)=>bif Nat.beq T aeG then some (.y [] (.int .i64 n),([.dK a],[]))else none
      |_=>none)
     |_=>none)
    |_=>none)
   |_=>none)
  |_=>none)
 |_=>none
def Qs{enc:α->U}(d:hs P aeG agA agt k){ids:cR}{s:cf}
  (h:Eh aeG (l.length:Int) o.op env σ=some (s,aeo)) (i:aeo=([.dK (bo k enc l)],[])):eu ⟨P,N,ids,au⟩ o env σ s:=by
 cases a:o.op<;>rw[a]at h
 case call c=>
  obtain⟨p,args,j⟩:=c;simp only[Eh]at h;split at h
  .rename_i m;split at h
   .split at h
    .rename_i x f;have:args=#[x]:=oj.1 (by simpa using f);subst this;split at h
     .rename_i T g;have:j=#[T]:=oj.1 (by simpa using g);subst this;split at h
      .rename_i n e;obtain⟨b,⟨⟩⟩:=eN h;obtain rfl:=ek b;cases i;exact aHb l enc a rfl (aFb e) d.fz
      .cases h
     .cases h
    .cases h
   .cases h
  .cases h
 all_goals (simp only[Eh]at h;cases h)
def acJ{α:Type}{aeG agA agt:Nat}{k:IntKind}(l:List (Int×α))(enc:α->U)(a:hs P aeG agA agt k):Hint P au:=
 .gs false ([.dK (bo k enc l)],[]) (λ_=>Eh aeG (l.length:Int)) λ_ _ _ _ _ _ _ b c=>Qs (l:=l) (enc:=enc) a b c
def DN{α:Type}(aeG agA:Nat)(k:IntKind)(l:List (Int×α))(n:Int)(enc:α->U)(op:Op)(env:av)(σ:ah):Option (cf×cb):=match op with
 |.call c=>(match c.callee with
  |.builtin b=>(match b with
   |.delete=>(match c.args.toList with
    |[x,y]=>(match c.argTypes.toList with
     |[T,K]=>(match env.cn x with
      |some (.cc d)=>(match env.cn y with
       |some (.int e g)=>(match σ.get d with
        |some (.map a E f)=>bif Nat.beq T aeG&&Nat.beq K agA&&Nat.beq a agA then some (.e [d] [] (.bO []) (σ.set d (.map a E (bo k enc (kL l n)))),([.dK f,.int e g],[(0,.cells E [])]))else none
        |_=>none)
       |_=>none)
      |_=>none)
     |_=>none)
    |_=>none)
   |_=>none)
  |_=>none)
 |_=>none
theorem Qt{n:Int}{enc:α->U}(e:hs P aeG agA agt k){ids:cR}{s:cf}
  (h:DN aeG agA k l n enc o.op env σ=some (s,aeo)) (t:aeo=([.dK (bo k enc l),.int k n],[(0,.cells agt [])])):eu ⟨P,N,ids,au⟩ o env σ s:=by
 cases b:o.op<;>rw[b]at h
 case call c=>
  obtain⟨C,args,u⟩:=c;simp only[DN]at h;split at h
  .rename_i A;split at h
   .split at h
    .rename_i x v p;have:args=#[x,v]:=oj.1 (by simpa using p);subst this;split at h
     .rename_i T d q;have:u=#[T,d]:=oj.1 (by simpa using q);subst this;split at h
      .rename_i E f;split at h
       .rename_i y F g;split at h
        .rename_i z w B r;obtain⟨a,⟨⟩⟩:=eN h;simp only[b9]at a;obtain⟨⟨j,i⟩,m⟩:=a;obtain rfl:=ek j;obtain rfl:=ek i;obtain rfl:=ek m;cases t;exact⟨D.XK l enc b (aFb f) (aFb g) r e,rfl⟩
        .grind
       .cases h
      .cases h
     .cases h
    .cases h
   .cases h
  .cases h
 all_goals (simp only[DN]at h;cases h)
def ib{α:Type}{aeG agA agt:Nat}{k:IntKind}(l:List (Int×α))(n:Int)(enc:α->U)(a:hs P aeG agA agt k):Hint P au:=
 .gs true ([.dK (bo k enc l),.int k n],[(0,.cells agt [])]) (λ_=>DN aeG agA k l n enc) λ_ _ _ _ _ _ _ b c=>Qt a b c
def Ev(aeG dh:Nat)(es:iu)(clock:Nat)(ids:cR)(op:Op)(env:av)(σ:ah):Option (cf×cb):=match op with
 |.range T x=>(match env.cn x with
  |some (.cc cB)=>(match σ.get cB with
   |some a=>(match a.qZ with
    |some (c,b)=>bif Nat.beq T aeG&&!ids.contains dh&&σ.clean [dh].contains then some (.e [dh] [dh] (.ptr dh 0) ((dh,.iter cB clock clock #[])::σ),([],[(0,.gl c b 0 0 [])]))else none
    |_=>none)
   |_=>none)
  |_=>none)
 |_=>none
variable {dh:Nat}
def Qu(e:hs P aeG agA agt k){ids:cR}{s:cf}
  (h:Ev aeG dh es clock ids o.op env σ=some (s,aeo)) (l:aeo=([],[(0,.gl es clock 0 0 [])])):eu ⟨P,N,ids,au⟩ o env σ s:=by
 cases b:o.op<;>rw[b]at h
 case range T x=>
  simp only[Ev]at h;split at h
  .rename_i cB f;split at h
   .rename_i m j;split at h
    .rename_i p n d;obtain⟨a,⟨⟩⟩:=eN h;simp only[b9,gD]at a;obtain⟨⟨g,c⟩,i⟩:=a;obtain rfl:=ek g;cases l;exact⟨D.range b (aFb f) j d e.fz c i,by simp only[qA,List.all_nil,c];rfl⟩
    .cases h
   .cases h
  .cases h
 all_goals (simp only[Ev]at h;cases h)
def IC{aeG agA agt:Nat}{k:IntKind}(dh:Nat)(es:iu)(clock:Nat)(a:hs P aeG agA agt k):Hint P au:=
 .gs true ([],[(0,.gl es clock 0 0 [])]) (Ev aeG dh es clock) λ_ _ _ _ _ _ _ b c=>Qu a b c
def sr(dh cB:Nat)(a:U)(f:Bool)(op:Op)(env:av)(σ:ah):Option (cf×cb):=match op with
 |.entry x=>(match env.cn x with
  |some (.ptr b 0)=>(match σ.get dh with
   |some d=>(match σ.get cB with
    |some (.gl es c K E g)=>bif Nat.beq b dh&&!f then some (.y [dh,cB] a,([.dK g],[(0,d),(1,.gl es c 0 0 [])]))else none
    |some (.eo K E e keys h (some (es,c)))=>bif Nat.beq b dh&&f then some (.y [dh,cB] a,([.agg keys],[(0,d),(1,.gl es c 0 0 [])]))else none
    |_=>none)
   |_=>none)
  |_=>none)
 |_=>none
variable {cB i:Nat}
theorem Qv{seen:lT}{e:MapEntry}{n:Int}{v:α}{enc:α->U}(g:es[i]?=some e)(d:l[i]?=some (n,v)){ids:cR}{s:cf}
  (h:sr dh cB (.bO [.int k n,enc v]) false o.op env σ=some (s,aeo)) (c:aeo=([.dK (bo k enc l)],[(0,.iter cB clock clock (seen.push e.born)),(1,.gl es clock 0 0 [])])):eu ⟨P,N,ids,au⟩ o env σ s:=by
 cases b:o.op<;>rw[b]at h
 case entry x=>
  simp only[sr]at h;split at h
  .rename_i j f;split at h
   .rename_i u m;split at h
    .rename_i t y r q w p;cases a:Nat.beq j dh with
     |false=>rw[a]at h;cases h
     |true=>
      rw[a]at h;have:=ek a;subst this;cases h;simp only[kJ,iV,U.dK.injEq,b4.gl.injEq,and_true,true_and]at c;obtain⟨rfl,rfl,rfl,rfl⟩:=c;exact aGu l enc b (aFb f) m p g d
    all_goals grind
   .cases h
  .cases h
 all_goals (simp only[sr]at h;cases h)
def Aj{α:Type}{es:iu}{i:Nat}{e:MapEntry}{n:Int}{v:α}{l:List (Int×α)}(dh cB clock:Nat)(k:IntKind)(seen:lT)(enc:α->U)(b:es[i]?=some e)(a:l[i]?=some (n,v)):Hint P au:=
 .gs false ([.dK (bo k enc l)],[(0,.iter cB clock clock (seen.push e.born)),(1,.gl es clock 0 0 [])]) (λ_=>sr dh cB (.bO [.int k n,enc v]) false) λ_ _ _ _ _ _ _ c d=>Qv b a c d
theorem Qw{seen:lT}{e:MapEntry}{n:Int}(g:es[i]?=some e)(d:(l.map (·.1))[i]?=some n){ids:cR}{s:cf}
  (h:sr dh cB (.bO [.int k n,.dH]) true o.op env σ=some (s,aeo)) (c:aeo=([.agg (dR k l)],[(0,.iter cB clock clock (seen.push e.born)),(1,.gl es clock 0 0 [])])):eu ⟨P,N,ids,au⟩ o env σ s:=by
 cases b:o.op<;>rw[b]at h
 case entry x=>
  simp only[sr]at h;split at h
  .rename_i j f;split at h
   .rename_i v m;split at h
    .grind
    .rename_i r q e y t u w p;cases a:Nat.beq j dh with
     |false=>rw[a]at h;cases h
     |true=>
      rw[a]at h;have:=ek a;subst this;cases h;simp only[kJ,iV,U.agg.injEq,b4.gl.injEq,and_true,true_and]at c;obtain⟨rfl,rfl,rfl,rfl⟩:=c;exact aGv l b (aFb f) m p g d
    .cases h
   .cases h
  .cases h
 all_goals (simp only[sr]at h;cases h)
def acG{α:Type}{es:iu}{i:Nat}{e:MapEntry}{n:Int}{l:List (Int×α)}(dh cB clock:Nat)(k:IntKind)(seen:lT)(b:es[i]?=some e)(a:(l.map (·.1))[i]?=some n):Hint P au:=
 .gs false ([.agg (dR k l)],[(0,.iter cB clock clock (seen.push e.born)),(1,.gl es clock 0 0 [])]) (λ_=>sr dh cB (.bO [.int k n,.dH]) true) λ_ _ _ _ _ _ _ c d=>Qw b a c d
end
variable {G:bI}{I:a8}{cx:dz}{w:World}
def JJ{σ:ah}{β:Nat->Value}{α:Type}{k:IntKind}{enc:α->U}{cB K E clock:Nat}{es:iu}{l:List (Int×α)}(b:bE G cx I β σ w)(e:σ.get cB=some (.gl es clock K E (bo k enc l)))(d:β cB≠.nilFunc):es.size=l.length:=by
 have a:=b.bY cB _ e;simp only[bl,d,iT]at a;obtain⟨h,f,g,c,_⟩:=a;have:=FN _ _ c;simpa [bo]using this
def H6{σ:ah}{β:Nat->Value}{α:Type}{k:IntKind}{cB K E e clock:Nat}{es:iu}{h:Option (iG×Nat)}{l b:List (Int×α)}(d:bE G cx I β σ w)(n:σ.get cB=some (.eo K E e (dR k l) h (some (es,clock))))(j:β cB≠.nilFunc)(c:l.map (·.1)=b.map (·.1)):es.size=b.length:=by
 have a:=d.bY cB _ n;simp only[bl,j,iT]at a;obtain⟨A,y,z,p,x,o,s,q,r,g,v,t,u,i⟩:=a;cases i _ rfl;have m:=g.length.2;have f:=fq List.length c;simp[dR]at m f;omega
def F4{α:Type}:∀{l:List (Int×α)} {n:Int} (v:α),(aO l n).isSome=true->(bW l n v).map (·.1)=l.map (·.1)
 |[],_,_,h=>by simp[aO]at h
 |p::r,n,v,h=>by
  rw[h9]at h;by_cases a:p.1=n
  .simp[bW,a]
  .rw[bw a]at h;simp[bW,a,F4 v h]
def Qx{α:Type}{l a:List (Int×α)}{i:Nat}{n:Int}{v:α}(h:l.map (·.1)=a.map (·.1))(b:a[i]?=some (n,v)):(l.map (·.1))[i]?=some n:=by rw[h];simp[b]
end
section
variable {au:Bool}
section
variable {G:bI}{σ:ah}{o:Oper}{ev:Operand->U}
def aG7{T E N sz d off:Nat}{x y:Operand}{k:IntKind}{i:Int}(h:o.op=.indexAddr T x y)(f:ev x=.ptr d off)(j:ev y=.int k i)(p:G.P.underlying T=some (.array N E))(g:∀w,(sizeOf E).run G.P w=.ok sz w)(hi:0<=i/\i<N):
  Yields G o ev σ [] [] (.ptr d (off+i.toNat*sz)):=
 .pure λs v q z w t u r e=>by
  have b:=e x (by simp[h,Op.operands]);rw[f]at b
  have a:=e y (by simp[h,Op.operands]);rw[j]at a;have a:=g1 a
  simp only[aD]at b;obtain⟨c,m,l⟩:=b;have n:∀w,(underlying T).run G.P w=.ok (.array N E) w:=λw=>by simp[underlying,program,Sem.run,p]
  exact⟨.pointer (some ⟨c,off+i.toNat*sz,none⟩),by simp[execOp,h,a,l,Instr.indexAt,Instr.sureAddr,asIntOf,n,hi,g,Addr.add],by simp only[aD];exact⟨c,m,rfl⟩⟩
end
section
variable {P:Program}
end
end
section
def encS{α:Type}(T:TypeId)(sz:Nat)(enc:α->List U)(l:List (List α)):List gc:=l.map λa=>.sl T sz (a.map enc)
def Ml{α:Type}{T:TypeId}{sz:Nat}{enc:α->List U}(l:List (List α))(i:Nat)(r:List α):encS T sz enc (l.set i r)=(encS T sz enc l).set i (.sl T sz (r.map enc)):=by simp[encS,List.map_set]
section weak
variable {G:bI}{env:av}{σ:ah}
end weak
section
variable {G:bI}{σ:ah}{o:Oper}{ev:Operand->U}
end
end
end
section
open Go
section
variable {au:Bool}
section
theorem bP.row{I H:a8}(bt:b1 I H){b:Nat}:∀(cs:List U) (vs:hD) (o:Nat),bP I cs vs->(∀j,j<vs.length->H b ((o+j:Nat):iG)=vs[j]?)->iw H b cs o
 |[],_,_,_,_=>by simp[iw]
 |x::r,vs,o,h,O=>by
  simp only[bP]at h;obtain⟨u,S,rfl,X,Q⟩:=h;simp only[iw];refine⟨⟨u,?_,iZ bt _ _ X⟩,bP.row bt r S (o+1) Q λj Y=>?_⟩
  .have:=O 0 (by simp);simpa using this
  .have:=O (j+1) (by simp;omega)
   grind
variable {G:bI}{T:Nat}{env:av}{σ:ah}
theorem aGQ(t C:Nat){cs:List U}(J:env.get t=.ptr C 0)(z:σ.get C=some (.cells T cs))(O:i1 cs=true):cZ G env σ ((t,.dI cs)::env) (σ.minus [C]):=by
 intro Y h E a aa d u;have l:=d.bY C _ z;simp only[bl]at l;have p:=u t;rw[J]at p;simp only[aD]at p;obtain⟨S,j,X⟩:=p;rcases l with n|⟨e,i,F,L,I,V,K⟩
 .rw[n]at j;simp[bR]at j
 .have Q:e=S:=by rw[F]at j;simpa [bR]using j
  subst Q
  let m:a8:=h.on λb o=>if b=e then i[o]? else h b o
  have bt:b1 h m:=λb o k f=>by
   cases o with
   |none=>exact f
   |some o=>
   show(if b=e then i[o]? else h b o)=some k;split
   .grind
   .exact f
  have x:∀b o,b≠e->m b o=h b o:=λb o q=>by
   cases o with
   |none=>rfl
   |some o=>
   show(if b=e then i[o]? else h b o)=_;rw[bw q]
  have w:∀c o,(σ.minus [C]).get c=some o->c≠C/\σ.get c=some o:=λc o g=>by
   rw[aFh]at g;split at g
   .cases g
   .grind
  have y:∀c,((σ.minus [C]).get c).isSome->(σ.get c).isSome:=λc g=>by
   obtain⟨o,l⟩:=hZ.1 g;rw[(w c o l).2];rfl
  have Z:iw m e cs 0:=bP.row bt cs i.toList 0 (FT O I) λD W=>by
   show(if e=e then i[0+D]? else h e (some (0+D)))=_;rw[bx rfl];simp
  refine⟨m,E,{good:=λb o k f=>?_,fA:=d.fA,fV:=λb o k f=>bt _ _ _ (d.fV _ _ _ f),gm:=λb r A o=>?_,frame:=d.frame,size:=d.size,tape:=d.tape,os:=d.os,output:=d.output,drawn:=d.drawn,bY:=λc o g=>?_,cQ:=λc B g N=>d.cQ c B (y c g) (y B N),tab:=d.tab,keep:=d.keep},λR=>?_⟩
  .change (if b=e then i[o]? else h b o)=some k at f
   split at f
   .rename_i H;subst H;simp only[World.cell?,L];simpa using f
   .exact d.good b o k f
  .have q:b≠e:=λs=>by
    subst s;rcases K with n|n
    .omega
    .exact A n
   rw[x b o q];exact d.gm b r A o
  .obtain⟨P,v⟩:=w c o g;refine(d.bY c o v).IF bt x λb r M=>?_;subst M;exact d.cQ c C (by rw[v];rfl) (by rw[z];rfl) P b r (i4 j)
  .rw[aFr];split
   .rename_i s;subst s
    simp only[aD,a1]
    grind
   .exact(u.mono bt (fQ.refl E)) R
variable {a:Act}{t:Nat}
def Gh{v:Value}(h:t<a.tmps.size):(a.put (some t) v).eval (.tmp t)=v:=by
 simp[Act.put,Act.eval,Array.getD,h]
def zd{b:Nat}{v:Value}(h:t≠b):(a.put (some t) v).eval (.tmp b)=a.eval (.tmp b):=by
 simp[Act.put,Act.eval,vb,BX,h]
def Cd{P:Program}{b:jB}{Q:Exit->Act->World->Prop}{i:Nat}{l:cR}{w w':World}{o:Oper}{v:Value}(f:b[i]?=some o)(h:o.guard=none)(e:(execOp a.eval o).run P w=.ok (.value v) w')
  (k:wpOps P b Q l (a.put o.dst v) w'):wpOps P b Q (i::l) a w:=by
 have g:Region.wanted o (yielded b a.tmps)=true:=by simp[Region.wanted,h]
 simp only[wpOps,f,g,fE];exact .inl (jb.wp (Φ:=λc d=>c=v/\d=w') (by rw[e];exact⟨rfl,rfl⟩) λc d j=>by obtain⟨rfl,rfl⟩:=j;exact k)
def FP{α:Type}{sz:Nat}:∀(xs:List (List α)) (n:Nat),(∀e∈xs,e.length=sz)->(xs.take n).flatten=xs.flatten.take (n*sz)
 |[],_,_=>by simp
 |x::r,0,_=>by simp
 |x::r,n+1,h=>by
  have a:=h x (by simp);rw[List.take_succ_cons,kk,kk,FP r n λe b=>h e (by simp[b]),ha,qv,Nat.add_comm (n*sz) sz,List.take_append,a];rw[qt (l:=x) (by omega),Nat.add_sub_cancel_left]
theorem Ko(a:ig):∀m,(Builtin.zeroCells a m).toList=(List.replicate m a.toList).flatten:=by
 intro m;apply mF;intro b;induction m generalizing b with
 |zero=>simp[Builtin.zeroCells]
 |succ m d=>
  rw[tH,kk];unfold Builtin.zeroCells at d ⊢;simp only[Array.toList_map,l7,Array.toList_range]at d ⊢;by_cases c:b<a.size
  .rw[nu (by simpa using c),zV (by rw[ha];omega)];simp[nj c,c]
  .rw[pO (by simpa using c)];have:=d (b-a.size);simp only[kr];rw[<-this];by_cases e:b<(m+1)*a.size
   .rw[zV e,zV (by rw[ha]at e;omega)];simp[<-Nat.mod_eq_sub_mod (by omega:b>=a.size)]
   .grind
def LW{I:a8}{zr:List U}{zs:hD}(h:bP I zr zs):∀m,bP I (List.replicate m zr).flatten (List.replicate m zs).flatten
 |0=>by simp[bP]
 |m+1=>by
  rw[tH,kk,tH,kk];exact(h8 _ _ _).2 ⟨_,_,rfl,h,LW h m⟩
variable {α:Type}
theorem XL(m:Nat)(l:List α):(List.replicate m l).flatten.length=m*l.length:=by simp_all
def Qz(e:e9 α)(l:List α)(n:Nat)(a:α):(bc e l).take n++List.replicate ((bc e l).length-n) (e.enc a)=bc e (l.take n++List.replicate (l.length-n) a):=by simp[bc,List.map_take]
variable {i:Int}
def RO(e:e9 α){l:List α}(h:0<=i/\i<(l.length:Int)):0<=i/\i<((bc e l).length:Int):=by rw[lR];exact h
theorem aGS{Q:Exit->av->ah->Prop}{id:Nat}(D q t1 t2 t3 E sz d:Nat){o0 l h g:Oper}{xs:List (List U)}{c:Value}{zr:List U}
  (ab:o0.op=.move (.tmp D)/\o0.dst=some t1/\o0.guard=none) (ag:l.op=.move (.tmp q)/\l.dst=some t2/\l.guard=none)
  (L:h.op=.slice T (.tmp t1) (some (.tmp t2)) none none/\h.dst=some t3/\h.guard=none) (N:g.op=.call ⟨.builtin .clear,#[.tmp t3],#[T]⟩/\g.dst=none/\g.guard=none)
  (Z:t1<G.N/\t2<G.N/\t3<G.N) (ax:t1≠t2/\t1≠t3/\t2≠t3/\t1≠q) (H:lJ G.P T E sz) (bB:∀w,(zeroValue E).run G.P w=.ok c w) (a2:∀v∈c.cells.toList,v.oneCell'=true) (aJ:∀I,bP I zr c.cells.toList) (bs:c.cells.size=sz)
  (M:env.get D=.own d) (hi:env.get q=.int .i64 i) (aj:σ.get d=some (.slice E sz xs 0 false)) (bF:0<=i/\i<xs.length) (e:env.get t1=.dH/\env.get t2=.dH/\env.get t3=.dH)
  {ys:List (List U)} (bc:xs.take i.toNat++List.replicate (xs.length-i.toNat) zr=ys) (k:Q .normal env (σ.set d (.slice E sz ys 0 false))):ar G (.region id #[o0,l,h,g] false) Q env σ:=by
 subst bc;refine aFw λbv a w aT=>?_;obtain⟨I,F,B,O,aG,bo⟩:=aT;have r:=O D;rw[M]at r;simp only[aD]at r
 obtain⟨r,aK⟩:=r;have s:=O q;rw[hi]at s;have s:=g1 s
 have ao:=B.bY d _ aj;simp only[bl]at ao;rcases ao with ak|⟨ak,V,_⟩|⟨b,aY,z,J,V,aU,R,S,aA,X,bG,bH,aB,aC⟩
 .rw[r,ak]at aK;cases aK
 .grind
 obtain⟨n,rfl⟩:∃n:Nat,i=(n:Int):=⟨i.toNat,by omega⟩;have bU:n<xs.length:=by omega
 simp only[rW]at k ⊢;have a5:a.eval (.tmp D)=.slice (some ⟨b,0,none⟩) xs.length aY:=by rw[<-J];exact r
 have s:a.eval (.tmp q)=.int .i64 n:=s;obtain⟨u,p⟩:∃u,u=a.put (some t1) (.slice (some ⟨b,0,none⟩) xs.length aY):=⟨_,rfl⟩;obtain⟨j,m⟩:∃j,j=u.put (some t2) (.int .i64 n):=⟨_,rfl⟩;obtain⟨f,x⟩:∃f,f=j.put (some t3) (.slice (some ⟨b,n*sz,none⟩) (xs.length-n) (aY-n)):=⟨_,rfl⟩;have aL:u.tmps.size=G.N:=by rw[p,sX];exact aG
 have az:j.tmps.size=G.N:=by rw[m,sX];exact aL
 have bD:f.tmps.size=G.N:=by rw[x,sX];exact az
 have aZ:j.eval (.tmp t1)=.slice (some ⟨b,0,none⟩) xs.length aY:=by rw[m,zd (et ax.1),p,Gh (by rw[aG];exact Z.1)]
 have a4:j.eval (.tmp t2)=.int .i64 n:=by rw[m,Gh (by rw[aL];exact Z.2.1)]
 have aH:f.eval (.tmp t3)=.slice (some ⟨b,n*sz,none⟩) (xs.length-n) (aY-n):=by rw[x,Gh (by rw[az];exact Z.2.2)]
 have a9:aY≠n:=by omega
 have aW:(execOp j.eval h).run G.P w=.ok (.value (.slice (some ⟨b,n*sz,none⟩) (xs.length-n) (aY-n))) w:=by
  have bb:(Instr.sliceBounds true xs.length aY (some (.int .i64 n)) none none).run G.P w=.ok (n,xs.length,aY) w:=by
   have:=run_sliceBound (P:=G.P) (k:=.i64) (n:=(n:Int)) (y:=xs.length) (code:=.sliceB) (w:=w) ⟨by omega,by omega⟩;simp[Instr.sliceBounds,this]
  have be:∀w,(underlying T).run G.P w=.ok (.slice E) w:=λw=>ja H.fz w;simp only[execOp,L.1,Instr.sliceAt,Instr.slice,aZ,iS,a4,fD,be,gQ,bb,H.size,jq,Option.map_none];rw[bw a9];simp only[Addr.add_lit,iS,hR]
 have aI:c.cells.toList.length=sz:=by rw[<-bs,kr]
 obtain⟨A,Y⟩:∃A,A=(z.toList.take (n*sz)++(Builtin.zeroCells c.cells (xs.length-n)).toList++z.toList.drop (n*sz+(Builtin.zeroCells c.cells (xs.length-n)).toList.length)).toArray:=⟨_,rfl⟩;have aa:(Builtin.zeroCells c.cells (xs.length-n)).toList.length=(xs.length-n)*sz:=by rw[Ko,XL,aI]
 have bQ:n*sz+(xs.length-n)*sz=xs.length*sz:=by rw[<-ha];congr 1;omega
 have bT:xs.length*sz<=aY*sz:=hp _ V;have a7:(execOp f.eval g).run G.P w=.ok (.value (.tuple #[])) (w.setRow b A):=by
  have:=Kn (P:=G.P) w T E g.type c H.fz bB b (n*sz) (xs.length-n) (aY-n) z E R (by omega) (by rw[aa,S];omega) (Ky a2 _);rw[<-Y]at this;simp only[execOp,N.1];have ak:f.tmps.getD t3 undef=_:=aH;simp[resolve,invoke,builtin,aH,this,Result.andThen]
 have bk:lD G bv env (σ.set d (.slice E sz (xs.take n++List.replicate (xs.length-n) zr) 0 false)) f (w.setRow b A):=by
  refine⟨I,F,?_,λt=>?_,bD,by rw[x,sO,m,sO,p,sO];exact bo⟩
  .have am:bR (F d)=some b:=by rw[J];rfl
   refine B.turn (d:=d) (fR.setRow w b _) aC (λaN K=>by rw[aFf,bw K]) (λaN K M ae=>B.cQ aN d M (by rw[aj];rfl) K b ae (i4 am)) (b1.refl I) (λ_ _ _=>rfl)
    (λo v an=>by rw[aB o (by omega)]at an;cases an) (B.oQ R) (λ_ _=>rfl) (.inr rfl) (fQ.refl F) (.inl am) λaeo C=>?_
   rw[aFf,bx rfl,aj]at C;injection C with C
   subst C;have bi:(xs.take n++List.replicate (xs.length-n) zr).length=xs.length:=by simp;omega
   simp only[bl,bi];have bt:zr.length=sz:=by rw[<-aI];exact(jG _ _ (aJ I)).symm
   refine .inr (.inr ⟨b,aY,A,J,V,aU,kf w b z A E _ R,?_,?_,?_,Nat.zero_le _,(λbz=>by cases bz),aB,aC⟩)
   .rw[Y];simp only[pe,dF,hg,l2,kr,aa,S];omega
   .rw[qC,FP xs n X];have bh:A.toList.take (xs.length*sz)=(z.toList.take (xs.length*sz)).take (n*sz)++(List.replicate (xs.length-n) c.cells.toList).flatten:=by
     rw[Y,<-Ko,List.take_take,o7 (by omega)];refine rP ?_;rw[dF,hg,aa,kr,S];omega
    rw[bh];refine(h8 _ _ _).2 ⟨_,_,rfl,?_,LW (aJ I) _⟩;have aX:xs.flatten=xs.flatten.take (n*sz)++xs.flatten.drop (n*sz):=(o6 _ _).symm;rw[aX]at aA;obtain⟨aV,bW,ba,aE,bJ⟩:=(h8 _ _ _).1 aA;have aR:aV.length=n*sz:=by
     rw[jG _ _ aE,hg,p4 xs X];exact o7 (by omega)
    rw[ba,rP aR];exact aE
   .intro ae e;rcases dG.1 e with e|e
    .exact X ae (ue e)
    .rw[(List.mem_replicate.1 e).2];exact bt
  .by_cases aw:t=t1
   .subst aw;rw[e.1];simp[aD]
   by_cases aq:t=t2
   .subst aq;rw[e.2.1];simp[aD]
   by_cases ay:t=t3
   .subst ay;rw[e.2.2];simp[aD]
   have:f.eval (.tmp t)=a.eval (.tmp t):=by rw[x,zd (et ay),m,zd (et aq),p,zd (et aw)]
   have W:=O t
   change aD I F (env.get t) (a.eval (.tmp t))at W
   rw[<-this]at W;exact W
 refine wp_region ?_;show wpOps G.P #[o0,l,h,g] _ [0,1,2,3] a w;refine Cd (o:=o0) (v:=.slice (some ⟨b,0,none⟩) xs.length aY) (w':=w) rfl ab.2.2 (by simp only[execOp,ab.1];simp[a5]) ?_;rw[ab.2.1,<-p];have bj:u.eval (.tmp q)=.int .i64 n:=by rw[p,zd ax.2.2.2];exact s
 refine Cd (o:=l) (v:=.int .i64 n) (w':=w) rfl ag.2.2 (by simp only[execOp,ag.1];simp[bj]) ?_;rw[ag.2.1,<-m];refine Cd (o:=h) rfl L.2.2 aW ?_;rw[L.2.1,<-x];refine Cd (o:=g) rfl N.2.2 a7 ?_;rw[N.2.1];exact⟨env,_,bk,k⟩
end
section
variable {G:bI}{o:Oper}{ev:Operand->U}{σ:ah}
def Mm{I:a8}:∀{xs:List U} {vs:hD} (n:Nat),bP I xs vs->bP I (xs.take n) (vs.take n)
 |[],vs,n,h=>by simp only[bP]at h;subst h;simp[bP]
 |x::r,vs,0,h=>by simp[bP]
 |x::r,vs,n+1,h=>by
  simp only[bP]at h;obtain⟨c,d,rfl,b,a⟩:=h;simp only[List.take_succ_cons,bP];exact⟨c,_,rfl,b,Mm n a⟩
theorem aGX{T E sz aZ d d2:Nat}{x y:Operand}{xs:List (List U)}{k:IntKind}{n:Int}(h:o.op=.slice T x none (some y) none)(b:ev x=.own d)(u:ev y=.int k n)(L:σ.get d=some (.slice aZ sz xs 0 false))(O:lJ G.P T E sz)
  (B:0<=n/\n<=xs.length) (hi:G.ids.contains d2=false) (ar:(σ.minus [d]).clean [d2].contains=true) :
  fO G o ev σ [d,d2] [d2] (λr p=>r=.own d2/\p=(d2,.slice aZ sz (xs.take n.toNat) 0 false)::σ.minus [d]):=by
 intro K m e w v j ab;have g:=ab x (by simp[h,Op.operands]);rw[b]at g;simp only[aD]at g;obtain⟨g,W⟩:=g;have A:=ab y (by simp[h,Op.operands]);rw[u]at A;have A:=g1 A;have Y:bE G K m e (σ.minus [d]) w:=j.sub λx aeo b=>by rw[aFh]at b;split at b<;>first|cases b|exact b
 have Q:=j.bY d _ L;simp only[bl]at Q;have ae:∀(a:Option Addr) (i:Nat),v x=.slice a xs.length i->xs.length<=i->(execOp v o).run G.P w=.ok (.value (.slice (if i=0 then a else a.map (·.add (0*sz))) n.toNat i)) w:=by
  intro a i aE aJ;have s:(Instr.sliceBounds true xs.length i none (some (.int k n)) none).run G.P w=.ok (0,n.toNat,i) w:=by
   have:=run_sliceBound (P:=G.P) (k:=k) (n:=n) (y:=i) (code:=.sliceAcap) (w:=w) ⟨B.1,by omega⟩;simp[Instr.sliceBounds,this]
  have t:∀w,(underlying T).run G.P w=.ok (.slice E) w:=λw=>ja O.fz w;simp only[execOp,h,Instr.sliceAt,Instr.slice,aE,fD,t,gQ,iS,Option.map_none,A,s,O.size,jq,Nat.sub_zero]
 have aa:∀(c:Value),(execOp v o).run G.P w=.ok (.value c) w->gU c=true->(∀f∈ct c,f∈ct (e d))->bl K m (gA e d2 c) w d2 (.slice aZ sz (xs.take n.toNat) 0 false)->
   jb G.P (λaH aI=>∃(Z:U) (p:ah) (D:a8) (N:Nat->Value),(Z=.own d2/\p=(d2,b4.slice aZ sz (xs.take n.toNat) 0 false)::σ.minus [d])/\aD D N Z aH/\bE G K D N p aI/\b1 m D/\(∀x,x∉[d2]->N x=e x)/\(∀x,x∉[d,d2]->p.get x=σ.get x)) ((execOp v o).run G.P w):=by
  intro c ay fB X aL;rw[ay];refine⟨.own d2,_,m,gA e d2 c,⟨rfl,rfl⟩,by simp only[aD,gb,fB,and_self],?_,b1.refl m,λx b=>gx e c (by simpa using b),λx b=>?_⟩
  .have aB:∀x,[d2].contains x=false->gA e d2 c x=e x:=λx b=>gx e c (by simpa using b);refine{Y with bY:=λx aeo b=>?_,cQ:=λx y b u S f=>?_,keep:=λx b=>?_}
   .rw[aFc]at b;split at b
    .grind
    .obtain⟨aj,ag⟩:=aFi ar x aeo b;exact(Y.bY x aeo b).beta aB aj ag
   .have J:∀x,(ah.get ((d2,b4.slice aZ sz (xs.take n.toNat) 0 false)::σ.minus [d]) x).isSome->x≠d2->(σ.get x).isSome/\x≠d:=λx b B=>by
     rw[aFc,bw (et B),aFh]at b;split at b
     .cases b
     .grind
    by_cases H:x=d2
    .subst H;have l:y≠x:=λq=>S q.symm;obtain⟨C,F⟩:=J y u l;rw[gb,gx e c l];intro s t;exact j.cQ y d C (by rw[L];rfl) F f t (X f s)
    .obtain⟨C,F⟩:=J x b H;rw[gx e c H];by_cases l:y=d2
     .subst l;rw[gb];intro s t;exact j.cQ x d C (by rw[L];rfl) F f s (X f t)
     .obtain⟨t1,t2⟩:=J y u l;rw[gx e c l];exact j.cQ x y C t1 S f
   .have:x≠d2:=λq=>by subst q;rw[<-mM]at hi;exact hi (by simpa using b)
    rw[gx e c this];exact j.keep x b
  .have b:x≠d/\x≠d2:=by simpa using b
   rw[aFc,bw (et b.2),aFh,bw (by simpa using b.1)]
 rcases Q with M|⟨M,rfl,_⟩|⟨f,aY,aC,R,ao,ak,am,an,aq,V,aN,aR,aw,ax⟩
 .rw[M]at g;rw[g]at W;simp[gU]at W
 .have aA:n=0:=by simp at B;omega
  subst aA;refine aa _ (ae none 0 (by rw[g,M];rfl) (by simp)) rfl (by simp[ct,bR]) ?_;simp only[bl,gb];exact .inr (.inl ⟨by simp,by simp,trivial⟩)
 .have az:n.toNat<=xs.length:=by omega
  refine aa _ (ae _ aY (by rw[g,R]) ao) rfl ?_ ?_
  .intro aK z;rw[R];split at z
   .exact z
   .simp only[iS,i5]at z;exact z
  .simp only[bl,gb];have I:(xs.take n.toNat).length=n.toNat:=by simp;omega
   refine .inr (.inr ⟨f,aY,aC,?_,by rw[I];omega,ak,am,an,?_,λq aG=>V q (ue aG),Nat.zero_le _,λh=>by simp at h,aw,ax⟩)
   .rw[I];split<;>simp[i5]
   .rw[I,FP _ _ V];have:=Mm (n.toNat*sz) aq
    rwa [List.take_take,o7 (hp _ az)]at this
end
section
variable {P:Program}
def uv(c d2 sz:Nat)(zs:List (List U))(ids:cR)(op:Op)(env:av)(σ:ah):Option (cf×cb):=match op with
 |.slice T x none (some y) none=>(match env.cn x with
  |some (.own d)=>(match env.cn y with
   |some (.int k n)=>(match σ.get d with
    |some (.slice b a xs 0 false)=>bif Nat.beq T c&&Nat.beq a sz&&!ids.contains d2&&(σ.minus [d]).clean [d2].contains then some (.e [d,d2] [d2] (.own d2) ((d2,.slice b a zs 0 false)::σ.minus [d]),([.bn false xs,.int .i64 n],[]))else none
    |_=>none)
   |_=>none)
  |_=>none)
 |_=>none
variable {N:Nat}{aeo:cb}{env:av}
theorem QA{c E d2 sz:Nat}{xs zs:List (List U)}{n:Int}(e:lJ P c E sz)(i:nr sz xs 0 n zs){o:Oper}{ids:cR}{σ:ah}{s:cf}
  (h:uv c d2 sz zs ids o.op env σ=some (s,aeo)) (r:aeo=([.bn false xs,.int .i64 n],[])):eu ⟨P,N,ids,au⟩ o env σ s:=by
 cases b:o.op<;>rw[b]at h
 case slice T x lo hi hT=>
  cases lo with
  |some m=>simp only[uv]at h;cases h
  |none=>
  cases hi with
  |none=>simp only[uv]at h;cases h
  |some y=>
  cases hT with
  |some m=>simp only[uv]at h;cases h
  |none=>
   simp only[uv]at h;split at h
   .rename_i B f;split at h
    .rename_i C D g;split at h
     .rename_i t z A q;obtain⟨a,⟨⟩⟩:=eN h;simp only[b9,gD]at a;obtain⟨⟨⟨k,j⟩,d⟩,p⟩:=a;obtain rfl:=ek k;obtain rfl:=ek j;cases r;obtain⟨w,l,u⟩:=i;refine⟨?_,by simpa using d⟩;have v:=aGX (G:=⟨P,N,ids,au⟩) (d2:=d2) b (aFb f) (aFb g) q e ⟨by omega,l.2.2⟩ d p
      grind
     .cases h
    .cases h
   .cases h
 all_goals (simp only[uv]at h;cases h)
def acD{a E sz:Nat}(d2:Nat){xs zs:List (List U)}{n:Int}(b:lJ P a E sz)(c:nr sz xs 0 n zs):Hint P au:=
 .gs true ([.bn false xs,.int .i64 n],[]) (λids=>uv a d2 sz zs ids) λ_ _ _ _ _ _ _ d e=>QA b c d e
def Yields.cD{G:bI}{o:Oper}{ev:Operand->U}{σ:ah}{c7 R:cR}{f:Nat}{l:List U}(h:Yields G o ev σ c7 R (.fn f l))(ae:i1 l=true):Yields G o ev σ c7 R (.cD f l):=λS cx I β w Y ab Z ag hop=>by
 have:=h S cx I β w Y ab Z ag hop;generalize (execOp Y o).run G.P w=r at this
 have key:∀v w',(∃H O,aD H O (.fn f l) v/\bE G cx H O S w'/\b1 I H/\(∀d,d∉c7->O d=β d))->∃H O,aD H O (.cD f l) v/\bE G cx H O S w'/\b1 I H/\(∀d,d∉c7->O d=β d):=λv w' ⟨H,O,Q,X⟩=>by
  simp only[aD]at Q;obtain⟨vs,rfl,aa⟩:=Q;exact⟨H,O,by simp only[aD,a1];exact⟨vs,rfl,FT ae aa⟩,X⟩
 cases r with
 |halt x w'=>exact this.elim
 |ok n w'=>cases n with
  |value v=>exact key _ _ this
  |skip=>exact key _ _ this
  |enter f args=>exact hV this λe aj ⟨v,Q,X⟩=>⟨v,Q,key _ _ X⟩
  |_=>exact this.elim
def Ix(op:Op)(env:av):Option (cf×cb):=match op with
 |.makeFunc (.func f) first aY=>match first.toList with
  |[]=>(match env.lE aY.toList with
   |some l=>bif i1 l then some (.y [] (.cD f l),([],[]))else none
   |_=>none)
  |_=>none
 |_=>none
def QB{o:Oper}{ids:cR}{σ:ah}{s:cf}(h:Ix o.op env=some (s,aeo)):eu ⟨P,N,ids,au⟩ o env σ s:=by
 unfold Ix at h;split at h
 .rename_i f first aY b;split at h
  .rename_i c;split at h
   .rename_i g a;obtain⟨d,⟨⟩⟩:=eN h;have e:first=#[]:=by simpa using fq List.toArray c
    subst e;exact Yields.cD (a4.makeFunc b a) d
   .cases h
  .cases h
 .cases h
def acE:Hint P au:=.gs false ([],[]) (λ_ b env _=>Ix b env) λ_ _ _ _ _ _ _ a _=>QB a
end
end
section
variable {au:Bool}
def pn.mono{G:bI}{fn:Func}{Post aa:U->ah->Prop}{e:Exit}{env:av}{σ:ah}(h:pn G fn Post e env σ)(Z:∀a s,Post a s->aa a s):pn G fn aa e env σ:=by
 obtain⟨ae,ag,ab,H⟩:=h;refine⟨ae,ag,ab,?_⟩;cases e with
 |normal=>obtain⟨bL,x,r,O,Y,Q,S,X⟩:=H;exact⟨bL,x,r,O,Y,Q,S,Z _ _ X⟩
 |ret=>obtain⟨bL,x,r,O,Y,Q,S,X⟩:=H;exact⟨bL,x,r,O,Y,Q,S,Z _ _ X⟩
 |_=>exact H
end
end
section
open Go
variable {au:Bool}
def LX{I:a8}:∀{xs:List U} {vs:hD} {i:Nat} {a:U},bP I xs vs->xs[i]?=some a->∃v,vs[i]?=some v/\a1 I a v
 |[],_,_,_,_,h=>by simp at h
 |x::r,vs,i,a,h,b=>by
  simp only[bP]at h;obtain⟨e,f,rfl,d,c⟩:=h;cases i with
  |zero=>simp only[List.getElem?_cons_zero,ee]at b ⊢;subst b;exact⟨e,rfl,d⟩
  |succ i=>simp only[List.getElem?_cons_succ]at b ⊢;exact LX c b
def LY{I:a8}{a:U}{v:Value}(b:a1 I a v):∀{xs:List U} {vs:hD} (i:Nat),bP I xs vs->bP I (xs.set i a) (vs.set i v)
 |[],vs,i,h=>by simp only[bP]at h;subst h;simp[bP]
 |x::r,vs,i,h=>by
  simp only[bP]at h;obtain⟨f,d,rfl,e,c⟩:=h;cases i with
  |zero=>simp only[List.set_cons_zero,bP];exact⟨v,d,rfl,b,c⟩
  |succ i=>simp only[List.set_cons_succ,bP];exact⟨f,_,rfl,e,LY b i c⟩
variable {I:a8}{cx:dz}{w:World}
theorem QC{G:bI}{β:Nat->Value}{σ:ah}(c:bE G cx I β σ w){e:Nat}{dV:List gc}(f:σ.get e=some (.de dV)){a:ig}(b:β e=.tuple a):g4 cx I w dV a.toList:=by
 have d:=c.bY e _ f;simp only[bl,b,tK,reduceCtorEq,iT]at d
 grind
section
variable {G:bI}{σ:ah}{o:Oper}{ev:Operand->U}
end
section
variable {P:Program}
theorem vu{α:Type}{l:List α}{i:Int}{r:α}(h:b6 l i=some r):0<=i/\i.toNat<l.length/\l[i.toNat]?=some r:=by
 unfold b6 at h
 grind
end
structure gw(n:Nat) where
 l:bX
 h:l.length=n
def gw.zero(n:Nat):gw n:=⟨List.replicate n 0,List.length_replicate⟩
def gw.put{n:Nat}(v:gw n)(i:Nat)(x:Int):gw n:=⟨v.l.set i x,by rw[List.length_set];exact v.h⟩
def m4{σ:ah}{d:Nat}{o o0:b4}(h:σ.get d=some o0):(σ.set d o).get d=some o:=by rw[aFf,bx rfl,h];rfl
def qo{σ:ah}{d x:Nat}{o:b4}(h:x≠d):(σ.set d o).get x=σ.get x:=by rw[aFf,bw h]
def Ch{β:Nat->Value}{d T:Nat}{xs:bX}:bl cx I β w d (.vec T xs)↔bl cx I β w d (.cells T (xs.map (U.int .i64))):=by
 simp only[bl];constructor
 .rintro(g|⟨f,e,h,a,b,c⟩)
  .exact .inl g
  .exact .inr ⟨f,e,h,a,by rw[b];exact CW xs,c⟩
 .rintro(g|⟨f,e,h,a,b,c⟩)
  .exact .inl g
  .exact .inr ⟨f,e,h,a,GI xs _ b,c⟩
theorem bE.swap{G:bI}{β:Nat->Value}{σ σ2:ah}(h:bE G cx I β σ w){d:Nat}{o O:b4}(hd:σ.get d=some o)(aa:σ2.get d=some O)(Y:∀x,x≠d->σ2.get x=σ.get x)(S:bl cx I β w d o->bl cx I β w d O):bE G cx I β σ2 w:=by
 have Q:∀x,(σ2.get x).isSome->(σ.get x).isSome:=λx H=>by
  by_cases e:x=d
  .grind
  .grind
 refine{h with bY:=λx Z H=>?_,cQ:=λx y H X=>h.cQ x y (Q x H) (Q y X)};by_cases e:x=d
 .subst e;rw[aa]at H;cases H;exact S (h.bY x o hd)
 .rw[Y x e]at H;exact h.bY x Z H
section
variable {G:bI}{σ:ah}{o:Oper}{ev:Operand->U}
def Yields.vec{c7 R:cR}{bN:U}{d T:Nat}{xs:bX}(hd:σ.get d=some (.vec T xs))(ak:d∈R)(h:Yields G o ev (σ.set d (.cells T (xs.map (U.int .i64)))) c7 R bN):Yields G o ev σ c7 R bN:=λQ cx I β w aa ab ae am hop=>by
 have X:Q.get d=some (.vec T xs):=by rw[ab d ak];exact hd
 have aj:bE G cx I β (Q.set d (.cells T (xs.map (U.int .i64)))) w:=ae.swap X (m4 X) (λx S=>qo S) Ch.1
 have:=h (Q.set d (.cells T (xs.map (U.int .i64)))) cx I β w aa (λx S=>by
  by_cases e:x=d
  .subst e;rw[m4 X,m4 hd]
  .rw[qo e,qo e];exact ab x S) aj am hop
 generalize (execOp aa o).run G.P w=r at this;have key:∀v w',(∃H O,aD H O bN v/\bE G cx H O (Q.set d (.cells T (xs.map (U.int .i64)))) w'/\b1 I H/\(∀d,d∉c7->O d=β d))->∃H O,aD H O bN v/\bE G cx H O Q w'/\b1 I H/\(∀d,d∉c7->O d=β d):=λv w' ⟨H,O,Z,Y,ag⟩=>⟨H,O,Z,Y.swap (m4 X) X (λx S=>(qo S).symm) Ch.2,ag⟩;cases r with
 |halt x w'=>exact this.elim
 |ok n w'=>cases n with
  |value v=>exact key _ _ this
  |skip=>exact key _ _ this
  |enter f args=>exact hV this λe an ⟨v,Z,Y⟩=>⟨v,Z,key _ _ Y⟩
  |_=>exact this.elim
def Yields.arr{c7 R:cR}{xs:bX}(h:Yields G o ev σ c7 R (.agg (xs.map (U.int .i64)))):Yields G o ev σ c7 R (.arr xs):=λQ cx I β w Y aa Z ab hop=>by
 have:=h Q cx I β w Y aa Z ab hop;generalize (execOp Y o).run G.P w=r at this;have key:∀v w',(∃H O,aD H O (.agg (xs.map (U.int .i64))) v/\bE G cx H O Q w'/\b1 I H/\(∀d,d∉c7->O d=β d))->∃H O,aD H O (.arr xs) v/\bE G cx H O Q w'/\b1 I H/\(∀d,d∉c7->O d=β d):=λv w' ⟨H,O,X,S⟩=>⟨H,O,GJ.1 X,S⟩;cases r with
 |halt x w'=>exact this.elim
 |ok n w'=>cases n with
  |value v=>exact key _ _ this
  |skip=>exact key _ _ this
  |enter f args=>exact hV this λe ae ⟨v,X,S⟩=>⟨v,X,key _ _ S⟩
  |_=>exact this.elim
def fO.vec{d T X:Nat}{xs ys:bX}{fl:U}{M:cR}(ak:M=[d])(hd:σ.get d=some (.vec T xs))
  (h:fO G o ev (σ.set d (.cells T (xs.map (U.int .i64)))) M [] (λr H=>r=fl/\H=(σ.set d (.cells T (xs.map (U.int .i64)))).set d (.cells X (ys.map (U.int .i64))))) :
  fO G o ev σ M [] (λr H=>r=fl/\H=σ.set d (.vec X ys)):=λcx I β w aa ab hop=>by
 subst ak;have am:bE G cx I β (σ.set d (.cells T (xs.map (U.int .i64)))) w:=ab.swap hd (m4 hd) (λx S=>qo S) Ch.1;have:=h cx I β w aa am hop
 have conv:∀{O Q w'},bE G cx O Q ((σ.set d (.cells T (xs.map (U.int .i64)))).set d (.cells X (ys.map (U.int .i64)))) w'->bE G cx O Q (σ.set d (.vec X ys)) w':=λY=>
  Y.swap (d:=d) (m4 (m4 hd)) (m4 hd) (λx S=>by rw[qo S,qo S,qo S]) Ch.2
 have an:∀x,x∉[d]->(σ.set d (.vec X ys)).get x=σ.get x:=λx S=>qo (by simpa using S);generalize (execOp aa o).run G.P w=r at this
 have key:∀v w',(∃bN H O Q,(bN=fl/\H=(σ.set d (.cells T (xs.map (U.int .i64)))).set d (.cells X (ys.map (U.int .i64))))/\aD O Q bN v/\bE G cx O Q H w'/\b1 I O/\(∀x,x∉([]:cR)->Q x=β x)/\(∀x,x∉[d]->H.get x=(σ.set d (.cells T (xs.map (U.int .i64)))).get x))->∃bN H O Q,(bN=fl/\H=σ.set d (.vec X ys))/\aD O Q bN v/\bE G cx O Q H w'/\b1 I O/\(∀x,x∉([]:cR)->Q x=β x)/\(∀x,x∉[d]->H.get x=σ.get x):=λv w' ⟨a,H,O,Q,⟨ao,Z⟩,Y,ae,ag,aj,_⟩=>by
  subst ao Z;exact⟨a,_,O,Q,⟨rfl,rfl⟩,Y,conv ae,ag,aj,an⟩
 cases r with
 |halt x w'=>exact this.elim
 |ok n w'=>cases n with
  |value v=>exact key _ _ this
  |skip=>exact key _ _ this
  |enter f args=>exact hV this λe aq ⟨v,Z,Y⟩=>⟨v,Z,key _ _ Y⟩
  |_=>exact this.elim
end
section
variable {P:Program}
def EY(aeG d:Nat)(xs:bX)(op:Op)(ids:cR):Option (cf×cb):=match op with
 |.alloc a=>bif Nat.beq a aeG&&!ids.contains d then some (.v d (.vec a xs) (.ptr d 0),([],[]))else none
 |_=>none
variable {N aeG:Nat}{aeo:cb}{env:av}{xs:bX}
def QD{d:Nat}{zs:hD}(g:∀w,∃c,(zeroValue aeG).run P w=.ok c w/\c.cells=zs.toArray)(e:l0 zs=xs.map (U.int .i64)){o:Oper}{ids:cR}{σ:ah}{s:cf}
  (h:EY aeG d xs o.op ids=some (s,aeo)):eu ⟨P,N,ids,au⟩ o env σ s:=by
 cases b:o.op<;>rw[b]at h
 case alloc T=>
  simp only[EY]at h;obtain⟨a,⟨⟩⟩:=eN h;simp only[b9,gD]at a;obtain rfl:=ek a.1;refine⟨a.2,Yields.vec (T:=T) (xs:=xs) (by rw[aFc,bx rfl]) (by simp) ?_⟩;refine Yields.PT (σ:=(d,.cells T (l0 zs))::σ) (λi f=>?_) (bB.alloc b g a.2);rw[gL.1 f,m4 (o0:=.vec T xs) (by rw[aFc,bx rfl]),aFc,bx rfl,e]
 all_goals (simp only[EY]at h;cases h)
def nM{aeG n:Nat}{zs:hD}(d:Nat)(v:gw n)(e:∀w,∃a,(zeroValue aeG).run P w=.ok a w/\a.cells=zs.toArray)(b:l0 zs=v.l.map (U.int .i64)):Hint P au:=
 .gs false ([],[]) (λids f _ _=>EY aeG d v.l f ids) λ_ _ _ _ _ _ _ c _=>QD e b c
def EZ(aeG:Nat)(op:Op)(env:av):Option (cf×cb):=match op with
 |.indexAddr a x y=>(match env.cn x with
  |some (.ptr d off)=>(match env.cn y with
   |some (.int k i)=>bif Nat.beq a aeG then some (.y [] (.ptr d i.toNat),([.ptr 0 off,.int .i64 i],[]))else none
   |_=>none)
  |_=>none)
 |_=>none
variable {aiR:Nat}
def QE{E:Nat}{i:Int}(g:P.underlying aeG=some (.array aiR E))(c:∀w,(sizeOf E).run P w=.ok 1 w)(hi:0<=i/\i<aiR){o:Oper}{ids:cR}{σ:ah}{s:cf}
  (h:EZ aeG o.op env=some (s,aeo)) (f:aeo=([.ptr 0 0,.int .i64 i],[])):eu ⟨P,N,ids,au⟩ o env σ s:=by
 cases a:o.op<;>rw[a]at h
 case indexAddr T x y=>
  simp only[EZ]at h;split at h
  .rename_i k m b;split at h
   .rename_i l j d;obtain⟨e,⟨⟩⟩:=eN h;obtain rfl:=ek e;cases f;have:=aG7 (G:=⟨P,N,ids,au⟩) (σ:=σ) a (aFb b) (aFb d) g c hi;rw[Nat.mul_one,hR]at this;exact this
   .cases h
  .cases h
 all_goals (simp only[EZ]at h;cases h)
def ID{aeG aiR E:Nat}{v:gw aiR}{i c:Int}(h:b6 v.l i=some c)(e:P.underlying aeG=some (.array aiR E))(a:∀w,(sizeOf E).run P w=.ok 1 w):Hint P au:=
 .gs false ([.ptr 0 0,.int .i64 i],[]) (λ_ f env _=>EZ aeG f env) λ_ _ _ _ _ _ _ b d=>QE e a (by have:=vu h;have:=v.h;omega) b d
def E0(aeG:Nat)(a:U)(op:Op)(env:av)(σ:ah):Option (cf×cb):=match op with
 |.load b x=>(match env.cn x with
  |some (.ptr d p)=>(match σ.get d with
   |some (.vec c xs)=>bif Nat.beq b aeG then some (.y [d] a,([.ptr 0 p],[(0,.vec 0 xs)]))else none
   |_=>none)
  |_=>none)
 |_=>none
variable {p:Nat}
def QF{c:Int}(f:hl P aeG 1 false)(b:xs[p]?=some c){o:Oper}{ids:cR}{σ:ah}{s:cf}
  (h:E0 aeG (.int .i64 c) o.op env σ=some (s,aeo)) (k:aeo=([.ptr 0 p],[(0,.vec 0 xs)])):eu ⟨P,N,ids,au⟩ o env σ s:=by
 cases a:o.op<;>rw[a]at h
 case load T x=>
  simp only[E0]at h;split at h
  .rename_i j n g;split at h
   .rename_i i m d;obtain⟨e,⟨⟩⟩:=eN h;obtain rfl:=ek e;cases k;refine Yields.vec d (by simp) ?_;have l:=(k0.1 b).1;have:=aFX (G:=⟨P,N,ids,au⟩) (σ:=σ.set j (.cells i (xs.map (U.int .i64)))) a (aFb g) (m4 d) f rfl (by simp;omega);rw[show jZ false 1 ((xs.map (U.int .i64)).drop p)=.int .i64 c by
     simp only[jZ,bH,<-List.map_drop,List.headD_eq_head?_getD,List.head?_map,List.head?_drop,b];rfl]at this
    exact this
   .cases h
  .cases h
 all_goals (simp only[E0]at h;cases h)
def jI{aeG aiR:Nat}{v:gw aiR}{i c:Int}(h:b6 v.l i=some c)(a:hl P aeG 1 false):Hint P au:=
 .gs false ([.ptr 0 i.toNat],[(0,.vec 0 v.l)]) (λ_=>E0 aeG (.int .i64 c)) λ_ _ _ _ _ _ _ b d=>QF a (vu h).2.2 b d
def E3(aeG:Nat)(op:Op)(env:av)(σ:ah):Option (cf×cb):=match op with
 |.load a x=>(match env.cn x with
  |some (.ptr d p)=>(match σ.get d with
   |some (.vec b xs)=>bif Nat.beq a aeG then some (.y [d] (.arr xs),([.ptr 0 p],[(0,.vec 0 xs)]))else none
   |_=>none)
  |_=>none)
 |_=>none
def QG{v:gw aiR}(c:hl P aeG aiR true){o:Oper}{ids:cR}{σ:ah}{s:cf}
  (h:E3 aeG o.op env σ=some (s,aeo)) (i:aeo=([.ptr 0 0],[(0,.vec 0 v.l)])):eu ⟨P,N,ids,au⟩ o env σ s:=by
 cases a:o.op<;>rw[a]at h
 case load T x=>
  simp only[E3]at h;split at h
  .rename_i g k d;split at h
   .rename_i f j b;obtain⟨e,⟨⟩⟩:=eN h;obtain rfl:=ek e;cases i;refine Yields.vec b (by simp) (Yields.arr ?_);have:=aFX (G:=⟨P,N,ids,au⟩) (σ:=σ.set g (.cells f (v.l.map (U.int .i64)))) a (aFb d) (m4 b) c rfl (by simp[v.h]);simp only[jZ,cm,List.drop_zero]at this;rw[qt (by simp[v.h])]at this;exact this
   .cases h
  .cases h
 all_goals (simp only[E3]at h;cases h)
def acM{aeG aiR:Nat}(v:gw aiR)(a:hl P aeG aiR true):Hint P au:=
 .gs false ([.ptr 0 0],[(0,.vec 0 v.l)]) (λ_=>E3 aeG) λ_ _ _ _ _ _ _ b c=>QG a b c
def E1(aeG:Nat)(ys:bX)(op:Op)(env:av)(σ:ah):Option (cf×cb):=match op with
 |.store b x y=>(match env.cn x with
  |some (.ptr d p)=>(match env.cn y with
   |some a=>(match σ.get d with
    |some (.vec c xs)=>bif Nat.beq b aeG then some (.e [d] [] .undef (σ.set d (.vec c ys)),([.ptr 0 p,a],[(0,.vec 0 xs)]))else none
    |_=>none)
   |_=>none)
  |_=>none)
 |_=>none
theorem WL{α:Type}{l:List α}{x:α}(h:p<l.length):gy l p [x]=l.set p x:=by
 apply mF;intro a;simp only[gy,uc,r7]
 grind
def QH{a:Int}(d:hl P aeG 1 false)(l:p<xs.length){o:Oper}{ids:cR}{σ:ah}{s:cf}
  (h:E1 aeG (xs.set p a) o.op env σ=some (s,aeo)) (k:aeo=([.ptr 0 p,.int .i64 a],[(0,.vec 0 xs)])):eu ⟨P,N,ids,au⟩ o env σ s:=by
 cases b:o.op<;>rw[b]at h
 case store T x y=>
  simp only[E1]at h;split at h
  .rename_i j q e;split at h
   .rename_i m f;split at h
    .rename_i i n c;obtain⟨g,⟨⟩⟩:=eN h;obtain rfl:=ek g;cases k;refine⟨fO.vec rfl c ?_,rfl⟩;have:=aF3 (G:=⟨P,N,ids,au⟩) (σ:=σ.set j (.cells i (xs.map (U.int .i64)))) b (aFb e) (aFb f) (m4 c) d.size rfl rfl (by simp;omega);rw[show gy (xs.map (U.int .i64)) p (i2 (.int .i64 a))=(xs.set p a).map (U.int .i64)by
      rw[show i2 (.int .i64 a)=[.int .i64 a]from rfl,WL (by simp;omega),List.map_set]]at this
     exact this
    .cases h
   .cases h
  .cases h
 all_goals (simp only[E1]at h;cases h)
def acL{aeG aiR:Nat}{v:gw aiR}{i c:Int}(x:Int)(h:b6 v.l i=some c)(a:hl P aeG 1 false):Hint P au:=
 .gs true ([.ptr 0 i.toNat,.int .i64 x],[(0,.vec 0 v.l)]) (λ_=>E1 aeG (v.put i.toNat x).l) λ_ _ _ _ _ _ _ b d=>QH a (vu h).2.1 b d
theorem D.XS{G:bI}{σ:ah}{o:Oper}{ev:Operand->U}{T aZ d n:Nat}{x y:Operand}{cs:List U}(h:o.op=.store T x y)(O:ev x=.ptr d 0)(Q:ev y=.arr xs)(hd:σ.get d=some (.cells aZ cs))(Y:∀w,(sizeOf T).run G.P w=.ok n w)(ak:xs.length=n)(am:cs.length=n):
  fO G o ev σ [d] [] (λr aa=>r=.undef/\aa=σ.set d (.cells aZ (xs.map (U.int .i64)))):=by
 have ae:(U.agg (xs.map (U.int .i64))).flat=true:=by
  show(xs.map (U.int .i64)).all U.one=true;rw[gE];intro a X;obtain⟨x,_,rfl⟩:=dg.1 X;rfl
 have ag:(i2 (U.agg (xs.map (U.int .i64)))).length=n:=by simp[i2,ak]
 have ab:gy cs 0 (i2 (U.agg (xs.map (U.int .i64))))=xs.map (U.int .i64):=by
  simp only[gy,i2,List.take_zero,lC,hR]
  grind
 intro cx I β w S Z hop
 letI:DecidableEq Operand:=λ_ _=>Classical.propDecidable _
 let H:Operand->U:=λz=>if z=y then .agg (xs.map (U.int .i64))else ev z
 have aj:x≠y:=λe=>by rw[e,Q]at O;cases O
 have:=aF3 (G:=G) (σ:=σ) (o:=o) (ev:=H) (aZ:=aZ) h (show H x=.ptr d 0 by simp[H,aj,O]) (show H y=U.agg (xs.map (U.int .i64))by simp[H]) hd Y ae ag (by omega);rw[ab]at this;refine this cx I β w S Z λz hz=>?_;show aD I β (if z=y then _ else ev z) (S z);split
 .rename_i e;subst e
  have:=hop z hz;rw[Q]at this;exact GJ.2 this
 .exact hop z hz
def E2(aeG:Nat)(op:Op)(env:av)(σ:ah):Option (cf×cb):=match op with
 |.store b x y=>(match env.cn x with
  |some (.ptr d p)=>(match env.cn y with
   |some (.arr a)=>(match σ.get d with
    |some (.vec c xs)=>bif Nat.beq b aeG then some (.e [d] [] .undef (σ.set d (.vec c a)),([.ptr 0 p,.arr a],[(0,.vec 0 xs)]))else none
    |_=>none)
   |_=>none)
  |_=>none)
 |_=>none
def QI{v c:gw aiR}(d:∀w,(sizeOf aeG).run P w=.ok aiR w){o:Oper}{ids:cR}{σ:ah}{s:cf}
  (h:E2 aeG o.op env σ=some (s,aeo)) (i:aeo=([.ptr 0 0,.arr c.l],[(0,.vec 0 v.l)])):eu ⟨P,N,ids,au⟩ o env σ s:=by
 cases a:o.op<;>rw[a]at h
 case store T x y=>
  simp only[E2]at h;split at h
  .rename_i l k e;split at h
   .rename_i m f;split at h
    .rename_i j xs b;obtain⟨g,⟨⟩⟩:=eN h;obtain rfl:=ek g;cases i;exact⟨fO.vec rfl b (D.XS a (aFb e) (aFb f) (m4 b) d c.h (by simp[v.h])),rfl⟩
    .cases h
   .cases h
  .cases h
 all_goals (simp only[E2]at h;cases h)
def PB{aeG aiR:Nat}(v d:gw aiR)(a:∀w,(sizeOf aeG).run P w=.ok aiR w):Hint P au:=
 .gs true ([.ptr 0 0,.arr d.l],[(0,.vec 0 v.l)]) (λ_=>E2 aeG) λ_ _ _ _ _ _ _ b c=>QI a b c
def aGT{ids:cR}{bu:eX}(W:gM P bu){d:Func}{e1:av}{σ s1 σ2:ah}{x R:U}{e:Exit}(j:List lI)(k:(match e with|.ret|.normal=>true|_=>false)=true)(l:uo ids j env σ=some (e1,s1))(h:mR ⟨P,N,ids,au⟩ e1 s1 d.results.toList x)(i:gR σ2.ids s1 x=some R)(g:s1.at σ2.ids=some σ2):
  pn ⟨P,N,ids,au⟩ d (λa b=>a=R/\b=σ2) e env σ:=by
 refine⟨e1,s1,y3 l,?_⟩;have m:∃c x f b,mR ⟨P,N,ids,au⟩ e1 (s1.freeze c) d.results.toList x/\gp (s1.freeze c) x f/\(∀p∈b,(s1.freeze c).get p.1=some p.2)/\(f=R/\b=σ2):=by
  refine⟨[],x,R,σ2,?_,?_,?_,rfl,rfl⟩
  .rw[aFC];exact h
  .rw[aFC];exact nW i
  .rw[aFC];exact(aFq g).1.mem
 cases e<;>first|exact m|cases k
end
end
section
open Go
variable {au:Bool}
section look
variable {P:Program}{I:a8}{aln α:Type}{K:TypeId}{arz:aln->U}{q:aln->aln->Bool}{enc:α->U}
end look
section ops
variable {G:bI}{σ:ah}{o:Oper}{ev:Operand->U}
end ops
section hints
variable {P:Program}
end hints
def jb.mono{P:Program}{Φ O:Value->World->Prop}{r:Result Next}(h:jb P Φ r)(H:∀v w,Φ v w->O v w):jb P O r:=by
 cases r with
 |ok n w=>
  cases n with
  |value v=>exact H _ _ h
  |skip=>exact H _ _ h
  |enter f args=>exact hV h λe X ⟨v,S,Q⟩=>⟨v,S,H _ _ Q⟩
  |_=>exact h
 |_=>exact h
def fO.Hl{G:bI}{o:Oper}{ev:Operand->U}{σ σ2:ah}{M news:cR}{r r':U}(h:fO G o ev σ M news (λa H=>a=r/\H=σ2++σ))(Z:gR [] (σ2.freeze σ2.ids) r=some r')(aq:σ2.ids.all (λd=>(σ.get d).isNone)=true):
  fO G o ev σ M news (λa H=>a=r'/\H=σ):=by
 intro cx I β w ag X hop;refine jb.mono (h cx I β w ag X hop) ?_;rintro v w' ⟨bN,H,ay,aw,⟨rfl,rfl⟩,Y,ae,aa,ab,ax⟩;obtain⟨an,bt,Q⟩:=ae.Cm σ2.ids
 have am:∀d o,σ.get d=some o->((σ2++σ).freeze σ2.ids).get d=some o:=λd o hd=>by
  have O:d∉σ2.ids:=λar=>by
   have:=gE.1 aq d ar;rw[hd]at this;cases this
  rw[aFk,aFy];have:σ2.get d=none:=by
   cases h:σ2.get d with
   |none=>rfl
   |some x=>
    obtain⟨p,aj,ak,_⟩:=nX σ2 d x h;exact absurd (by rw[<-ak];exact dg.2 ⟨p,aj,rfl⟩) O
  rw[this];simp[hd,O]
 have ao:∀d o,(σ2.freeze σ2.ids).get d=some o->((σ2++σ).freeze σ2.ids).get d=some o:=λd o hd=>by
  rw[aFk]at hd ⊢;rw[aFy];cases h:σ2.get d with
  |none=>rw[h]at hd;simp at hd
  |some x=>rw[h]at hd;exact hd
 refine⟨r',σ,an,aw,⟨rfl,rfl⟩,(nW Z).rep (Q.sub ao) _ (yL bt (fQ.refl _) _ _ Y),Q.sub am,λb o v S=>bt _ _ _ (aa _ _ _ S),ab,λ_ _=>rfl⟩
def Ed(ids:cR)(env:av)(σ:ah)(e news:cR)(r r':U)(σ2:ah)(op:Op):Option (cf×cb):=match op with
 |.call c=>match tF env c with
  |none=>none
  |some (f,b)=>match σ.at e with
   |none=>none
   |some σs=>match nm (tE 9 σs) b with
    |none=>none
    |some d=>match gR [] (σ2.freeze σ2.ids) r with
     |none=>none
     |some x=>bif news.all (λa=>!ids.contains a&&(σ.get a).isNone)&&σ.clean news.contains&&r.l9&&!r.refs (λa=>!news.contains a)&&σ2.clean (λa=>!news.contains a)&&σ2.ids.all (λa=>(σ.get a).isNone)then some (.e news news r' σ,(.fn f []::x::d,[]))else none
 |_=>none
def QJ{P:Program}{N:Nat}{ids:cR}{env:av}{σ:ah}{o:Oper}{C news:cR}{f:FuncId}{σ2:ah}{i:List U}{r r':U}(p:cz au P f [] i (λa l=>a=r/\l=σ2))(u:a3 P f)(A:pl σ2){s:cf}{g:cb}(h:Ed ids env σ C news r r' σ2 o.op=some (s,g))(F:g=(.fn f []::r'::i,[])):eu ⟨P,N,ids,au⟩ o env σ s:=by
 cases e:o.op<;>rw[e]at h
 case call c=>
  simp only[Ed]at h;split at h
  .cases h
  .rename_i I K j;obtain⟨H,args,L,aY,M,rfl,q,k,rfl⟩:=yU j;split at h
   .cases h
   .rename_i y x;split at h
    .cases h
    .rename_i J n;split at h
     .cases h
     .rename_i O m;obtain⟨d,⟨⟩⟩:=eN h;simp only[b9,gD]at d;obtain⟨⟨⟨⟨⟨b,t⟩,v⟩,w⟩,z⟩,B⟩:=d;cases F;exact⟨(aGs (G:=⟨P,N,ids,au⟩) (σs:=y) 9 news e q u.h p k n (aFq x).1 b t v w z A).Hl m B,by rw[gE]at b ⊢;exact λD E=>((b9 _ _).mp (b D E)).1⟩
 all_goals (simp only[Ed]at h;cases h)
def Ak{P:Program}(h news:cR){f:FuncId}{b:List U}{r:U}(r':U){σ2:ah}(d:cz au P f [] b (λa c=>a=r/\c=σ2))(e:a3 P f)(g:pl σ2):Hint P au:=
 .gs true (.fn f []::r'::b,[]) (λids l i σ=>Ed ids i σ h news r r' σ2 l) λ_ _ _ _ _ _ _ j k=>QJ d e g j k
section many
variable {P:Program}
end many
section made
variable {G:bI}{σ:ah}{o:Oper}{ev:Operand->U}
end made
section
variable {P:Program}
end
end
section
open Go
variable {au:Bool}
variable {α:Type}{afs l:List (Int×α)}
theorem XM(h:l.Perm afs)(a:(l.map (·.1)).Nodup)(n:Int):aO afs n=aO l n:=by
 induction h with
 |nil=>rfl
 |cons x _ b=>simp only[h9,b (jX.1 a).2]
 |swap x y l=>
  simp only[dr,jX,c5,not_or]at a;simp only[h9]
  grind
 |trans h1 _ d c=>rw[c ((h1.map _).nodup a),d a]
variable {I:a8}{enc:α->U}{k:IntKind}
def XN{L g:jN}(h:L.Perm g):∀{l:List (Int×α)},ey I (bo k enc l) L->∃afs,l.Perm afs/\ey I (bo k enc afs) g:=by
 induction h with
 |nil=>exact λ{l} h=>⟨l,.refl _,h⟩
 |cons e _ m=>
  intro l h
  match l with
  |[]=>cases h
  |p::r=>
   simp only[bo,dr,ey,iV]at h;obtain⟨_,_,⟨rfl,rfl⟩,f,b,c⟩:=h;obtain⟨afs,a,d⟩:=m c;refine⟨p::afs,a.cons p,?_⟩;simp only[bo,dr,ey];exact⟨_,_,rfl,f,b,d⟩
 |swap x y L=>
  intro l h
  match l with
  |[]=>cases h
  |[p]=>
   simp only[bo,dr,mO,ey,iV]at h;obtain⟨_,_,⟨rfl,rfl⟩,_,_,h⟩:=h;cases h
  |p::q::r=>
   simp only[bo,dr,ey,iV]at h;obtain⟨_,_,⟨rfl,rfl⟩,f,b,_,_,⟨rfl,rfl⟩,c,n,o⟩:=h;refine⟨q::p::r,.swap ..,?_⟩;simp only[bo,dr,ey];exact⟨_,_,rfl,c,n,_,_,rfl,f,b,o⟩
 |trans _ _ u t=>
  intro l h;obtain⟨v,a,d⟩:=u h;obtain⟨s,i,j⟩:=t d;exact⟨s,a.trans i,j⟩
theorem Lb:((bo k enc l).map Prod.fst).Nodup↔(l.map (·.1)).Nodup:=by
 have:(bo k enc l).map Prod.fst=(l.map (·.1)).map (U.int k):=by simp[bo]
 grind
variable {G:bI}{β:Nat->Value}{σ:ah}
def XT{cx:dz}{w:World}(c:bE G cx I β σ w){v:Value}(a:aD I β (.gr (bo k enc l)) v):∃afs,vG I w v (bo k enc afs)/\∀n,aO afs n=aO l n:=by
 simp only[aD,a1]at a;obtain⟨b,p,o,q,rfl,e,f,i,j⟩:=a;obtain⟨r,s,g,m⟩:=c.fA b _ e;obtain⟨rfl,rfl⟩:=F8 m;obtain⟨afs,d,h⟩:=XN i f;exact⟨afs,⟨b,p,o,rfl,g,h⟩,XM d (Lb.1 j)⟩
variable {o:Oper}
def aHm{ev:Operand->U}{T K E:Nat}{x y:Operand}{e:Bool}{n:Int}(l:List (Int×α))(enc:α->U)(b:α)(h:o.op=.lookup T x y e)(j:ev x=.gr (bo k enc l))(m:ev y=.int k n)
  (f:hs G.P T K E k) (q:∀w,∃v,(zeroValue E).run G.P w=.ok v w/\∀I,a1 I (enc b) v) :
  Yields G o ev σ [] [] (bif e then .bO [enc ((aO l n).getD b),.bool (aO l n).isSome]else enc ((aO l n).getD b)):=
 .pure λr u I β w s t g d=>by
  have c:=d x (by simp[h,Op.operands]);rw[j]at c
  have a:=d y (by simp[h,Op.operands]);rw[m]at a;have a:=g1 a
  obtain⟨afs,i,p⟩:=XT g c;rw[<-p n];exact B9 afs enc b h i a f q
def Eb{α:Type}(c:Nat)(l:List (Int×α))(n:Int)(enc:α->U)(a:α)(op:Op)(env:av):Option (cf×cb):=match op with
 |.lookup b x y ok=>(match env.cn x with
  |some (.gr e)=>(match env.cn y with
   |some (.int d f)=>bif Nat.beq b c then some (.y [] (bif ok then .bO [enc ((aO l n).getD a),.bool (aO l n).isSome]else enc ((aO l n).getD a)),([.gr e,.int d f],[]))else none
   |_=>none)
  |_=>none)
 |_=>none
variable {P:Program}
def QK{c m e:Nat}{n:Int}{a:α}(g:hs P c m e k)(q:∀w,∃v,(zeroValue e).run P w=.ok v w/\∀I,a1 I (enc a) v){N:Nat}{ids:cR}{env:av}{s:cf}{d:cb}
  (h:Eb c l n enc a o.op env=some (s,d)) (p:d=([.gr (bo k enc l),.int k n],[])):eu ⟨P,N,ids,au⟩ o env σ s:=by
 cases b:o.op<;>rw[b]at h
 case lookup T x y ok=>
  simp only[Eb]at h;split at h
  .rename_i t i;split at h
   .rename_i r u j;obtain⟨f,⟨⟩⟩:=eN h;obtain rfl:=ek f;cases p;exact aHm l enc a b (aFb i) (aFb j) g q
   .cases h
  .cases h
 all_goals (simp only[Eb]at h;cases h)
def Pz{P:Program}{α:Type}{a e b:Nat}{k:IntKind}(l:List (Int×α))(n:Int)(enc:α->U)(c:α)(d:hs P a e b k)(i:∀w,∃v,(zeroValue b).run P w=.ok v w/\∀I,a1 I (enc c) v):Hint P au:=
 .gs false ([.gr (bo k enc l),.int k n],[]) (λ_ j f _=>Eb a l n enc c j f) λ_ _ _ _ _ _ _ g h=>QK d i g h
open Classical in
noncomputable def CL{α β:Type}(l:List (Int×α))(B:Int->α->List (Int×β)->Option (List (Int×β))):Option (List (Int×β)):=
 match hb B l []with
 |some r=>if(∀afs:List (Int×α),afs.Perm l->∃a,hb B afs []=some a/\r.Perm a)/\(r.map (·.1)).Nodup then some r else none
 |none=>none
theorem FF{β:Type}{B:Int->α->List (Int×β)->Option (List (Int×β))}{r:List (Int×β)}(h:CL l B=some r):(∀afs:List (Int×α),afs.Perm l->∃r',hb B afs []=some r'/\r.Perm r')/\(r.map (·.1)).Nodup:=by
 unfold CL at h
 grind
def WM(h:afs.Perm l):∀{L:jN},ey I (bo k enc afs) L->∃a,ey I (bo k enc l) a/\a.Perm L:=by
 induction h with
 |nil=>exact λ{L} h=>⟨L,h,.refl _⟩
 |cons p _ n=>
  intro L h;simp only[bo,dr,ey]at h;obtain⟨b,i,rfl,g,d,e⟩:=h;obtain⟨a,c,f⟩:=n e;refine⟨b::a,?_,f.cons b⟩;simp only[bo,dr,ey];exact⟨_,_,rfl,g,d,c⟩
 |swap p q r=>
  intro L h;simp only[bo,dr,ey]at h;obtain⟨b,_,rfl,g,d,t,i,rfl,e,o,s⟩:=h;refine⟨t::b::i,?_,.swap ..⟩;simp only[bo,dr,ey];exact⟨_,_,rfl,e,o,_,_,rfl,g,d,s⟩
 |trans _ _ v u=>
  intro L h;obtain⟨x,c,f⟩:=v h;obtain⟨w,j,m⟩:=u c;exact⟨w,j,m.trans f⟩
def Zv(h:l.Perm afs)(g:(l.map (·.1)).Nodup){v:Value}(a:aD I β (.dK (bo k enc afs)) v):aD I β (.gr (bo k enc l)) v:=by
 simp only[aD,a1]at a ⊢;obtain⟨n,j,i,m,d,e,o⟩:=a;obtain⟨b,c,f⟩:=WM h.symm e;exact⟨n,j,i,b,m,d,c,f,Lb.2 g⟩
def aHs{f:FuncId}{b:ah}{args:List U}{Post c:U->ah->Prop}(h:cz au P f b args Post)(d:∀r a,Post r a->∃r',c r' a/\∀I β v,aD I β r v->aD I β r' v):cz au P f b args c:=
 λn s I β q o g=>hV (h n s I β q o g) λ_ _ ⟨v,p,r,a,k,t,e,j,i⟩=>by
  obtain⟨r',l,m⟩:=d _ _ e;exact⟨v,p,r',a,k,t,l,m _ _ _ j,i⟩
end
section
open Go
variable {au:Bool}
variable {adW vs:hD}
def G6{sz afl:Nat}:(mx sz afl adW vs).length=vs.length:=by simp[mx]
def y1{sz afl j:Nat}:(mx sz afl adW vs)[j]?=vs[j]?.map λv=>if j%sz=afl then adW.getD (j / sz) v else v:=by simp[mx,List.getElem?_mapIdx]
def C5{sz afl i:Nat}(h:afl<sz):(i*sz+afl)%sz=afl/\(i*sz+afl) / sz=i:=by
 refine⟨by rw[rQ,Nat.mul_add_mod,nj h],?_⟩;rw[rQ,Nat.mul_add_div (by omega),vX h];omega
theorem OH{sz afl i n:Nat}(h:afl<sz)(hi:i<n):i*sz+afl<n*sz:=by
 have:=hp sz (show i+1<=n by omega)
 grind
theorem Zw{sz afl i:Nat}(d:afl<sz){v:Value}(hi:i<adW.length)(c:i*sz+afl<vs.length):mx sz afl (adW.set i v) vs=(mx sz afl adW vs).set (i*sz+afl) v:=by
 apply mF;intro a;rw[y1,r7,y1,G6];by_cases b:i*sz+afl=a
 .subst b;rw[bx rfl,bx c,jW c];simp[(C5 (i:=i) d).1,(C5 (i:=i) d).2,oy,hi]
 .rw[bw b];cases g:vs[a]? with
  |none=>rfl
  |some u=>
   simp only[iS,ee];split
   .rename_i f;have:a / sz≠i:=λe=>b (by have:=Nat.div_add_mod a sz;rw[f,e,rQ]at this;exact this)
    grind
   .rfl
theorem Mn{sz afl:Nat}(e:afl<sz){h:Value}{a:hD}(d:a.length=sz):mx sz afl (h::adW) (a++vs)=a.set afl h++mx sz afl adW vs:=by
 apply mF;intro b;rw[y1];by_cases c:b<sz
 .rw[nu (by omega),nu (by rw[List.length_set];omega),r7,nj c,vX c,jW (by omega)]
  grind
 .rw[pO (by omega),pO (by rw[List.length_set];omega),List.length_set,d,y1];have f:b%sz=(b-sz)%sz:=by rw[<-Nat.mod_eq_sub_mod (by omega)]
  have g:b / sz=(b-sz) / sz+1:=by rw[Nat.div_eq_sub_div (by omega) (by omega)]
  grind
def FI{I:a8}:∀{a b:List U} {vs:hD},bP I (a++b) vs->∃c v,vs=c++v/\c.length=a.length/\bP I a c/\bP I b v
 |[],b,vs,h=>⟨[],vs,rfl,rfl,rfl,h⟩
 |x::r,b,vs,h=>by
  simp only[l6,bP]at h;obtain⟨d,k,rfl,j,f⟩:=h;obtain⟨c,v,rfl,e,i,g⟩:=FI f;exact⟨d::c,v,rfl,by simp[e],by simp only[bP];exact⟨d,c,rfl,j,i⟩,g⟩
def LZ{I:a8}:∀{a b:List U} {c v:hD},bP I a c->bP I b v->bP I (a++b) (c++v)
 |[],b,c,v,h1,d=>by simp only[bP]at h1;subst h1;exact d
 |x::r,b,c,v,h1,d=>by
  simp only[l6,bP]at h1 ⊢;obtain⟨h,f,rfl,e,g⟩:=h1;exact⟨h,f++v,rfl,e,LZ g d⟩
theorem Mo{cx:dz}{I f:a8}{w:World}{α:Type}{T sz afl n:Nat}{enc:α->List U}(g:afl<n)(bt:b1 I f):∀(xs:List (List U)) (l:List (List α)) (adW vs:hD),xs.length=l.length->(∀e∈xs,e.length=n)->bP I xs.flatten vs->g4 cx I w (encS T sz enc l) adW->
  (∀b∈adW.filterMap bR,∀o,f b o=fu w b o)->bP f (List.zipWith (λe r=>e.set afl (.bn false (r.map enc))) xs l).flatten (mx n afl adW vs)
 |[],l,adW,vs,d,_,c,_,_=>by
  simp only[List.flatten_nil,bP]at c;subst c;simp[bP,mx]
 |x::xs,[],adW,vs,d,_,_,_,_=>by simp at d
 |x::xs,r::l,adW,vs,d,i,c,a,h=>by
  simp only[encS,dr,g4]at a;obtain⟨z,p,rfl,u,_,k⟩:=a;rw[kk]at c;obtain⟨y,s,rfl,j,q,m⟩:=FI c;have t:=i x (by simp);rw[Mn g (j.trans t)];simp only[List.zipWith_cons_cons,kk];refine LZ (LY (h4.bn u bt λb a=>h b (by simp[a])) afl (k9 bt _ _ q)) (Mo g bt xs l p s (by simpa using d) (λe v=>i e (by simp[v])) m k λb a=>h b ?_);rw[List.filterMap_cons];split
  .exact a
  .grind
def NA{G:bI}{cx:dz}{I:a8}{β:Nat->Value}{σ:ah}{w:World}(g:bE G cx I β σ w){d T sz afl e:Nat}{xs:List (List U)}{j:Option (iG×Nat)}{dV:List gc}(v:σ.get d=some (.fL T sz xs afl e j))(x:σ.get e=some (.de dV))(u:β d≠.nilFunc):
  ∃b aY arr,∃adW:ig,∃a vs,β d=.slice (some ⟨b,0,none⟩) xs.length aY/\xs.length<=aY/\aY<=maxLen/\w.heap[b]?=some (.cells arr T (0,0))/\arr.size=aY*sz/\β e=.tuple adW/\adW.size=xs.length/\pk β adW.toList a j/\
   (bP I xs.flatten vs/\(∀e∈xs,e.length=sz)/\arr.toList.take (xs.length*sz)=mx sz afl a vs)/\(∀o:Nat,I b o=none)/\Place cx b/\g4 cx I w dV adW.toList/\dV.length=xs.length/\vs.length=xs.length*sz:=by
 have f:=g.bY d _ v;simp only[bl,u,iT]at f;obtain⟨b,aY,arr,adW,a,vs,m,i,n,p,h,k,q,r,l,s,t⟩:=f;have c:=QC g x k;have z:xs.length*sz<=arr.size:=by rw[h];exact hp sz i
 have jI:=fq List.length l.2.2;simp only[G6,hg]at jI;have y:arr.toList.length=arr.size:=rfl;exact⟨b,aY,arr,adW,a,vs,m,i,n,p,h,k,q,r,l,s,t,c,by have:=c.length;simp at this;omega,by omega⟩
section weak
variable {G:bI}{env:av}{σ:ah}
variable {T sz:Nat}{xs:List (List U)}{α:Type}
theorem aHo{d e:Nat}(aZ aga afl:Nat)(enc:α->List U)(aj:afl<sz)(H:xs≠[])(aG:∀a∈xs,a[afl]?=some .aF)(s:σ.get d=some (.slice T sz xs 0 false))(am:σ.get e=none)(hi:G.ids.contains e=false)(i:env.clean [e].contains=true)(adW:σ.clean [e].contains=true):
  cZ G env σ env ((e,.de (encS aZ aga enc (List.replicate xs.length [])))::(d,.fL T sz xs afl e none)::σ.minus [d]):=λak n h a aq A K=>by
 have ib:d≠e:=λR=>by subst R;rw[am]at s;cases s
 have aD:e∉G.ids:=by simpa using hi
 let f:ig:=(List.replicate xs.length (Value.slice none 0 0)).toArray
 refine⟨n,gA h e (.tuple f),?_,Ds K i λb c=>gx h _ c⟩;have y:gA h e (.tuple f) e=.tuple f:=gb _ _ _;have ae:gA h e (.tuple f) d=h d:=gx h _ ib
 have ar:∀m,m∉ct (Value.tuple f):=λm i=>by
  rw[mm]at i;obtain⟨D,an,w⟩:=iB.1 i;have:D=Value.slice none 0 0:=List.eq_of_mem_replicate (show D∈List.replicate xs.length (Value.slice none 0 0)from an);rw[this]at w;cases w
 have ag:∀b,b∈[d,e]->∀o,ah.get ((e,b4.de (encS aZ aga enc (List.replicate xs.length [])))::(d,.fL T sz xs afl e none)::σ.minus [d]) b=some o->(b=d/\o=.fL T sz xs afl e none)\/(b=e/\o=.de (encS aZ aga enc (List.replicate xs.length []))):=λb c o t=>by
  rw[pF]at t;split at t
  .grind
  .grind
 have aE:∀b,b∈[d,e]->b=d\/b=e:=λb c=>by simpa using c
 have aH:∀k:Nat,g4 ak n aq (encS aZ aga enc (List.replicate k [])) (List.replicate k (Value.slice none 0 0)):=by
  intro k;induction k with
  |zero=>rfl
  |succ k l=>
   simp only[tH,encS,dr,mO,g4]at l ⊢;exact⟨_,_,rfl,Or.inl ⟨rfl,rfl⟩,λr (E:none=some r)=>(by cases E),l⟩
 refine A.zB (M:=[d,e]) (news:=[e]) (λb c=>?_) (λb c=>gx h _ (by simpa using c)) (λb c=>?_) (λb o _ q=>(aFi adW b o q).2) (λb c o q=>?_) (λb c S m i=>?_) (λb c aL aI aC aw S m i aB=>?_)
 .simp only[c5,hr,hG,not_or]at c;rw[pF,bw (et c.2),bw (et c.1),bw (by simp[c.1])]
 .grind
 .rcases ag b c o q with⟨rfl,rfl⟩|⟨rfl,rfl⟩
  .have:=A.bY b _ s;simp only[bl,ae,y]at this ⊢;rcases this with C|⟨C,ab,_⟩|⟨r,aY,z,F,N,I,J,L,V,Q,ax,az,Y,Z⟩
   .exact .inl C
   .exact absurd ab H
   .refine .inr ⟨r,aY,z,f,f.toList,z.toList.take (xs.length*sz),F,N,I,J,L,rfl,by simp[f],rfl,⟨V,Q,?_⟩,λo=>Y o (by omega),Z⟩;have aJ:∀(g:List (List U)) (vs:hD),(∀a∈g,a[afl]?=some U.aF)->(∀e∈g,e.length=sz)->bP n g.flatten vs->mx sz afl (List.replicate g.length (Value.slice none 0 0)) vs=vs:=by
     intro g;induction g with
     |nil=>intro vs _ _ j;simp only[List.flatten_nil,bP]at j;subst j;rfl
     |cons x g l=>
      intro vs B u j;rw[kk]at j;obtain⟨aA,aa,rfl,W,X,P⟩:=FI j;rw[fW,tH,Mn aj (W.trans (u x (by simp))),l aa (λa p=>B a (by simp[p])) (λa p=>u a (by simp[p])) P];obtain⟨aK,ay,v⟩:=LX X (B x (by simp));simp only[a1]at v;subst v;congr 1;apply mF;intro ao;rw[r7];by_cases O:afl=ao
      .grind
      .rw[bw O]
    grind
  .simp only[bl,y]
   grind
 .grind
 .grind
variable {aZ afl aga:Nat}
def aHq{d e e2 t i:Nat}{bL:Bool}(l:List (List α))(enc:α->List U)(row:List α)
  (p:σ.get d=some (.fL T sz xs afl e (some (some i,t)))) (q:σ.get e=some (.de (encS aZ aga enc (l.set i [])))) (c:σ.get t=some (.slice aZ aga (row.map enc) 0 bL))
  (h:σ.get e2=none) (j:G.ids.contains e2=false) (g:env.clean [e2].contains=true) (adW:σ.clean [e2].contains=true) :
  cZ G env σ env ((e2,.de (encS aZ aga enc (l.set i row)))::(d,.fL T sz xs afl e2 none)::σ.minus [d,e,t]):=λs b v r u n f=>by
 obtain⟨k,o,a⟩:=n.back p rfl q c h (by simpa using j) adW;refine⟨b,k,?_,Ds f g o⟩;have m:(encS aZ aga enc (l.set i [])).set i (.sl aZ aga (row.map enc))=encS aZ aga enc (l.set i row):=by rw[<-Ml,List.set_set]
 rw[m]at a;exact a
theorem aGP{d e:Nat}(l:List (List α))(enc:α->List U)(am:afl<sz)(w:σ.get d=some (.fL T sz xs afl e none))(p:σ.get e=some (.de (encS aZ aga enc l)))(ys:List (List U))(m:ys=List.zipWith (λa r=>a.set afl (.bn false (r.map enc))) xs l):
  cZ G env σ env ((d,.slice T sz ys 0 false)::σ.minus [d,e]):=λan u i a E h K=>by
 have ib:d≠e:=λN=>by subst N;rw[w]at p;cases p
 have A:(σ.get d).isSome:=by rw[w];rfl
 have z:(σ.get e).isSome:=by rw[p];rfl
 let q:a8:=λb o=>if b∈ct (i e)then fu E b o else u b o
 have s:∀b,b∈ct (i e)->∀o,q b o=fu E b o:=λb f o=>bx f;have n:∀b,¬(b∈ct (i e))->∀o,q b o=u b o:=λb f o=>bw f
 have bt:b1 u q:=λb o k j=>by
  by_cases f:b∈ct (i e)
  .rw[s b f];exact h.zi b o k j
  .grind
 have Z:∀b,b∈ct (i e)->Place an b:=λb f=>(h.zf p f).2
 have D:∀c o,ah.get ((d,.slice T sz ys 0 false)::σ.minus [d,e]) c=some o->(c=d/\o=.slice T sz ys 0 false)\/(c≠d/\c≠e/\σ.get c=some o):=λc o g=>by
  rw[aFc,aFh]at g;split at g
  .grind
  .grind
 have B:∀c,(ah.get ((d,b4.slice T sz ys 0 false)::σ.minus [d,e]) c).isSome->(σ.get c).isSome:=λc g=>by
  obtain⟨o,g⟩:=hZ.1 g;rcases D c o g with⟨rfl,_⟩|⟨_,_,g⟩
  .exact A
  .rw[g];rfl
 refine⟨q,i,{h with good:=λb o k j=>?_,fA:=λb k j=>?_,fV:=h.fV.trans bt,gm:=λb f C o=>?_,bY:=λc o g=>?_,cQ:=λc F g m=>h.cQ c F (B c g) (B F m)},K.mono bt (fQ.refl i)⟩
 .by_cases f:b∈ct (i e)
  .rw[s b f]at j;exact yg b o k j
  .rw[n b f]at j;exact h.good b o k j
 .by_cases f:b∈ct (i e)
  .rw[s b f]at j;exact x9 b k j
  .rw[n b f]at j;exact h.fA b k j
 .have:¬(b∈ct (i e)):=λW=>by
   rcases Z b W with t|t
   .omega
   .exact C t
  rw[n b this];exact h.gm b f C o
 .rcases D c o g with⟨rfl,rfl⟩|⟨aq,ag,g⟩
  .by_cases y:i c=.nilFunc
   .simp only[bl];exact .inl y
   obtain⟨b,aY,aj,adW,aa,vs,x,M,I,J,L,P,ao,O,⟨R,Q,X⟩,Y,S,V,ae,_⟩:=NA h w p y;have ab:xs.length=l.length:=by simpa [encS]using ae.symm
   have ak:¬b∈ct (i e):=h.cQ c e A z ib b (i4 (by rw[x];rfl));have v:ys.length=xs.length:=by rw[m,List.length_zipWith];omega
   simp only[bl];refine .inr (.inr ⟨b,aY,aj,by rw[v];exact x,by rw[v];exact M,I,J,L,?_,λa H=>?_,Nat.zero_le _,(λh=>by cases h),(λo _=>by rw[n b ak];exact Y o),S⟩)
   .have:=Mo am bt xs l adW.toList vs ab Q R V λb f=>s b (by rw[P,mm];exact f);rw[v,X,show aa=adW.toList from O,m];exact this
   .rw[m,List.mem_iff_getElem?]at H
    grind
  .exact(h.bY c o g).Ph bt λb f=>n b λt=>h.cQ c e (by rw[g];rfl) z ag b f t
end weak
theorem Wc{arr:hD}{p m:Nat}(a:p<m)(b:m<=arr.length)(v:Value):(gy arr p [v]).take m=(arr.take m).set p v:=by
 apply mF;intro i;rw[l8,r7,l8];simp only[gy,uc]
 grind
def XO{v:Value}(h:gU v=true):v.oneCell'=true/\v.cells=#[v]:=by
 cases v<;>simp[gU]at h<;>exact⟨rfl,rfl⟩
section
variable {G:bI}{σ:ah}{o:Oper}{ev:Operand->U}
variable {T aeG afl sz:Nat}
def aG5{E d e:Nat}{xs:List (List U)}{r:Option (iG×Nat)}{x y:Operand}{k:IntKind}{i:Int}(h:o.op=.indexAddr T x y)(p:ev x=.own d)(q:ev y=.int k i)(v:σ.get d=some (.fL aeG sz xs afl e r))(f:lJ G.P T E sz)
  (hi:0<=i/\i<xs.length):Yields G o ev σ [] [d] (.ptr d (i.toNat*sz)):=
 .pure λA H z w c B s n m=>by
  have a:=m x (by simp[h,Op.operands]);rw[p]at a
  have b:=m y (by simp[h,Op.operands]);rw[q]at b;have b:=g1 b
  simp only[aD]at a;obtain⟨a,adW⟩:=a;have g:=n.bY d _ (by rw[s d (by simp)];exact v);have t:w d≠.nilFunc:=λe=>by rw[a,e]at adW;simp[gU]at adW
  simp only[bl,t,iT]at g;obtain⟨l,aY,F,C,D,vs,j,_⟩:=g;refine⟨.pointer (some ⟨l,i.toNat*sz,none⟩),?_,by simp only[aD];exact⟨l,by rw[j];rfl,rfl⟩⟩;have u:∀c,(underlying T).run G.P c=.ok (.slice E) c:=λc=>by simp[underlying,program,Sem.run,f.fz]
  rw[j]at a;simp[execOp,h,a,b,Instr.indexAt,asIntOf,u,hi,f.size,i5]
variable {aZ aga i p t:Nat}
theorem D.RR{α:Type}{d e e2:Nat}{xs:List (List U)}{x:Operand}(l:List (List α))(enc:α->List U)(row:List α)(h:o.op=.load T x)(ao:ev x=.ptr d p)(ak:p=i*sz+afl)(S:afl<sz)(hd:σ.get d=some (.fL aeG sz xs afl e none))(ab:σ.get e=some (.de (encS aZ aga enc l)))(aa:l[i]?=some row)(ag:hl G.P T 1 false)
  (ar:σ.get t=none) (aG:σ.get e2=none) (aN:t≠e2) (aT:G.ids.contains t=false) (aI:G.ids.contains e2=false) (az:σ.clean [t,e2].contains=true) :
  fO G o ev σ [d,e,e2,t] [t,e2] (λr an=>r=.own t/\an=(t,.slice aZ aga (row.map enc) 0 false)::(e2,.de (encS aZ aga enc (l.set i [])))::(d,.fL aeG sz xs afl e2 (some (some i,t)))::σ.minus [d,e]):=by
 intro cx I β w ax X hop;have H:=hop x (by simp[h,Op.operands]);rw[ao]at H
 simp only[aD]at H;obtain⟨b,H,aq⟩:=H;have Z:β d≠.nilFunc:=λe=>by rw[e]at H;cases H
 obtain⟨Y,aY,arr,adW,aL,vs,am,aX,aV,aw,aW,aB,a4,aA,⟨a9,a7,aC⟩,bc,ba,bb,aR,aU⟩:=NA X hd ab Z;have aK:Y=b:=by rw[am]at H;simpa [bR]using H
 subst aK;have bh:i<l.length:=(k0.1 aa).1;have ay:i<xs.length:=by simp[encS]at aR;omega
 have aj:(encS aZ aga enc l)[i]?=some (.sl aZ aga (row.map enc)):=by simp[encS,aa]
 obtain⟨a5,dJ,Q,bz,cw,nP⟩:=X.take hd rfl ab aj Z ar aG aN (by simpa using aT) (by simpa using aI) az;rw[aB]at dJ;cases dJ
 have be:=OH S ay;have aH:arr[p]?=some Q:=by
  have bi:(arr.toList.take (xs.length*sz))[p]?=some Q:=by
   rw[aC,y1,show aL=adW.toList from aA,ak,(C5 S).1,(C5 S).2,jW (by omega)]
   grind
  grind
 have aJ:∀j,j<1->∃v,[Q][j]?=some v/\w.cell? ⟨Y,p+j,none⟩=some v:=λj a2=>by
  have:j=0:=by omega
  subst this;exact⟨Q,rfl,by simp[World.cell?,aw,aH]⟩
 have ae:=Fq ag (vs:=[Q]) aJ (λ_=>by omega);have aE:(execOp ax o).run G.P w=.ok (.value Q) w:=by
  simp[execOp,h,aq,Instr.loadAt,Instr.sureAddr,ae]
 rw[aE];refine⟨.own t,_,I,λy=>if y=t then Q else if y=e2 then .tuple (adW.setIfInBounds i (.slice none 0 0))else β y,⟨rfl,rfl⟩,?_,?_,b1.refl I,λy O=>?_,λy O=>?_⟩
 .simp only[aD,fE];refine⟨trivial,?_⟩;rcases cw with⟨q,_⟩|⟨b,aY,arr,q,_⟩<;>rw[q]<;>rfl
 .rw[Ml];exact nP
 .grind
 .simp only[c5,hr,hG,not_or]at O;rw[r0,bw (et O.2.2.2),bw (et O.2.2.1),bw (et O.1),bw (by simp[O.1,O.2.1])]
theorem D.Qf{d e j k:Nat}{bL:Bool}{xs ba:List (List U)}{x y:Operand}(h:o.op=.store T x y)(aA:ev x=.ptr d p)(H:ev y=.own j)(ae:p=i*sz+afl)(aw:afl<sz)(bb:σ.get j=some (.slice aZ aga ba k bL))(hd:σ.get d=some (.fL aeG sz xs afl e (some (some i,t))))(ax:hl G.P T 1 false):
  fO G o ev σ [d,j] [] (λr az=>r=.undef/\az=(d,.fL aeG sz xs afl e (some (some i,j)))::σ.minus [d]):=by
 intro cx I β w aG X hop;have Q:=hop x (by simp[h,Op.operands]);rw[aA]at Q
 have S:=hop y (by simp[h,Op.operands]);rw[H]at S
 simp only[aD]at Q S;obtain⟨b,Q,aB⟩:=Q;obtain⟨S,aa⟩:=S;have aV:β d≠.nilFunc:=λe=>by rw[e]at Q;cases Q
 have ab:=X.bY d _ hd;simp only[bl,aV,iT]at ab;obtain⟨O,aY,arr,adW,bj,vs,ag,aj,aC,Z,aE,aL,aH,⟨dJ,bz,cw⟩,⟨aR,aN,am⟩,an,ak⟩:=ab;have a4:O=b:=by rw[ag]at Q;simpa [bR]using Q
 subst a4;have a2:(σ.get d).isSome:=by rw[hd];rfl
 have a5:β j≠.nilFunc:=λe=>by rw[S,e]at aa;simp[gU]at aa
 have ar:(β j).oneCell'=true/\(β j).cells=#[β j]:=XO (by rw[<-S];exact aa);have a7:xs.length*sz<=arr.size:=by rw[aE];exact hp sz aj
 have aI:i<xs.length:=by simp at dJ;omega
 have aX:p<xs.length*sz:=by rw[ae];exact OH aw aI
 have jI:=fq List.length am;simp only[G6,hg]at jI;have bh:arr.toList.length=arr.size:=rfl;have aW:=Jb (P:=G.P) Z [β j] (off:=p) (by simp;omega) (λv ay=>by rw[gL.1 ay];exact ar.1);have aU:(execOp aG o).run G.P w=.ok .skip (w.setRow O (gy arr.toList p [β j]).toArray):=by
  simp[execOp,h,aB,S,Instr.storeAt,Instr.sureAddr,storeVar,ax.size,ar.2,aW]
 rw[aU];have a9:fR w (w.setRow O (gy arr.toList p [β j]).toArray) O:=fR.setRow w O _
 have aq:∀y,ah.get ((d,.fL aeG sz xs afl e (some (some i,j)))::σ.minus [d]) y=if d=y then some (.fL aeG sz xs afl e (some (some i,j)))else σ.get y:=λy=>by
  rw[aFc,aFh];by_cases H:d=y
  .grind
  .grind
 have ao:∀y,y∉[d]->ah.get ((d,.fL aeG sz xs afl e (some (some i,j)))::σ.minus [d]) y=σ.get y:=λy H=>by
  rw[aq,bw λe=>H (by simp[e])]
 refine⟨.undef,_,I,β,⟨rfl,rfl⟩,by simp[aD,a1],?_,b1.refl I,λy H=>rfl,λy H=>ao y (by simp only[c5,hr,hG,not_or]at H ⊢;exact H.1)⟩;refine X.redo (M:=[d]) (news:=[]) (b:=O) a9 (λo=>?_) (λy H adW aJ=>?_) ak (λy H=>ao y H) (λy H=>rfl) (λy H=>by cases H) (λy o _ Y=>(aFi (aFL σ) y o Y).2) (λy H o Y=>?_) (λy H aK c aT=>?_) (λy H z hz bi bc aK c aT be=>?_)
 .cases o with
  |none=>exact X.oQ Z
  |some o=>exact an o
 .exact X.cQ d y a2 adW (λe=>H (by simp[e])) O (i4 Q) aJ
 .simp only[gL]at H;subst H;rw[aq,bx rfl]at Y;cases Y;simp only[bl];refine .inr ⟨O,aY,_,adW,adW.toList.set i (β j),vs,ag,aj,aC,kf w O arr _ aeG _ Z,by simp only[gy,pe,dF,hg,l2,uc,kr];omega,aL,aH,⟨dJ,a5,rfl⟩,⟨aR,aN,?_⟩,an,ak⟩;rw[Wc aX (by simpa using a7),am,cw,ae,<-Zw aw (by simpa using dJ) (by omega),List.set_set]
 .grind
 .grind
end
section
variable {P:Program}
def E8(aeG sz:Nat)(op:Op)(env:av)(σ:ah):Option (cf×cb):=match op with
 |.indexAddr T x y=>(match env.cn x with
  |some (.own d)=>(match env.cn y with
   |some (.int _ i)=>(match σ.get d with
    |some (.fL _ aga xs _ _ _)=>bif Nat.beq T aeG&&Nat.beq aga sz then some (.y [d] (.ptr d (i.toNat*sz)),([.int .i64 i,.bn false xs],[]))else none
    |_=>none)
   |_=>none)
  |_=>none)
 |_=>none
variable {E N aeG sz:Nat}{aeo:cb}
def Qg{i:Int}{xs:List (List U)}(c:lJ P aeG E sz)(hi:0<=i/\i<xs.length){o:Oper}{ids:cR}{env:av}{σ:ah}{s:cf}
  (h:E8 aeG sz o.op env σ=some (s,aeo)) (k:aeo=([.int .i64 i,.bn false xs],[])):eu ⟨P,N,ids,au⟩ o env σ s:=by
 cases a:o.op<;>rw[a]at h
 case indexAddr T x y=>
  simp only[E8]at h;split at h
  .rename_i q e;split at h
   .rename_i t p g;split at h
    .rename_i m aga n afl r l j;obtain⟨b,⟨⟩⟩:=eN h;simp only[b9]at b;obtain⟨f,d⟩:=b;obtain rfl:=ek f;obtain rfl:=ek d;cases k;exact aG5 a (aFb e) (aFb g) j c hi
    .cases h
   .cases h
  .cases h
 all_goals (simp only[E8]at h;cases h)
def PC{aeG E sz:Nat}(i:Int)(xs:List (List U))(a:lJ P aeG E sz)(hi:0<=i/\i<xs.length):Hint P au:=
 .gs false ([.int .i64 i,.bn false xs],[]) (λ_=>E8 aeG sz) λ_ _ _ _ _ _ _ b c=>Qg a hi b c
def Ec{α:Type}(aeG aZ aga e2 t i:Nat)(l:List (List α))(row:List α)(enc:α->List U)(ids:cR)(op:Op)(env:av)(σ:ah):Option (cf×cb):=match op with
 |.load T x=>(match env.cn x with
  |some (.ptr d p)=>(match σ.get d with
   |some (.fL a sz xs afl e none)=>(match σ.get e with
    |some (.de dV)=>bif Nat.beq T aeG&&Nat.blt afl sz&&(σ.get t).isNone&&(σ.get e2).isNone&&!Nat.beq t e2&&!ids.contains t&&!ids.contains e2&&σ.clean [t,e2].contains then
      some (.e [d,e,e2,t] [t,e2] (.own t) ((t,.slice aZ aga (row.map enc) 0 false)::(e2,.de (encS aZ aga enc (l.set i [])))::(d,.fL a sz xs afl e2 (some (some i,t)))::σ.minus [d,e]),([.ptr 0 p,.ptr sz afl],[(1,.de dV)]))else none
    |_=>none)
   |_=>none)
  |_=>none)
 |_=>none
variable {aqs ara i:Nat}
theorem Qh{α:Type}{aZ aga e2 t:Nat}{l:List (List α)}{row:List α}{enc:α->List U}(d:hl P aeG 1 false)(hi:l[i]?=some row){o:Oper}{ids:cR}{env:av}{σ:ah}{s:cf}
  (h:Ec aeG aZ aga e2 t i l row enc ids o.op env σ=some (s,aeo)) (v:aeo=([.ptr 0 (i*ara+aqs),.ptr ara aqs],[(1,.de (encS aZ aga enc l))])):eu ⟨P,N,ids,au⟩ o env σ s:=by
 cases a:o.op<;>rw[a]at h
 case load T x=>
  simp only[Ec]at h;split at h
  .rename_i z p f;split at h
   .rename_i y sz xs afl r u;split at h
    .rename_i dV c;obtain⟨b,⟨⟩⟩:=eN h;simp only[b9,gD]at b;obtain⟨⟨⟨⟨⟨⟨⟨g,q⟩,e⟩,k⟩,w⟩,j⟩,n⟩,m⟩:=b;obtain rfl:=ek g;cases v;refine⟨D.RR l enc row a (aFb f) rfl (qu q) u c hi d (by simpa using e) (by simpa using k) (λr=>?_) j n m,?_⟩
     all_goals simp_all
    .cases h
   .cases h
  .cases h
 all_goals (simp only[Ec]at h;cases h)
def acH{α:Type}{aeG:Nat}{l:List (List α)}{i:Nat}{row:List α}(sz afl aZ aga e2 t:Nat)(enc:α->List U)(a:hl P aeG 1 false)(hi:l[i]?=some row):Hint P au:=
 .gs true ([.ptr 0 (i*sz+afl),.ptr sz afl],[(1,.de (encS aZ aga enc l))]) (Ec aeG aZ aga e2 t i l row enc) λ_ _ _ _ _ _ _ b c=>Qh a hi b c
def EH(aeG i:Nat)(op:Op)(env:av)(σ:ah):Option (cf×cb):=match op with
 |.store T x y=>(match env.cn x with
  |some (.ptr d p)=>(match env.cn y with
   |some (.own a)=>(match σ.get a with
    |some (.slice _ _ _ _ _)=>(match σ.get d with
     |some (.fL b sz xs afl e (some (some q,_)))=>bif Nat.beq T aeG&&Nat.blt afl sz then
       some (.e [d,a] [] .undef ((d,.fL b sz xs afl e (some (some i,a)))::σ.minus [d]),([.ptr 0 p,.ptr sz afl,.ptr q 0],[]))else none
     |_=>none)
    |_=>none)
   |_=>none)
  |_=>none)
 |_=>none
def Qi(c:hl P aeG 1 false){o:Oper}{ids:cR}{env:av}{σ:ah}{s:cf}
  (h:EH aeG i o.op env σ=some (s,aeo)) (l:aeo=([.ptr 0 (i*ara+aqs),.ptr ara aqs,.ptr i 0],[])):eu ⟨P,N,ids,au⟩ o env σ s:=by
 cases a:o.op<;>rw[a]at h
 case store T x y=>
  simp only[EH]at h;split at h
  .rename_i z p d;split at h
   .rename_i B f;split at h
    .rename_i u v q bz w g;split at h
     .rename_i r m n afl A C t k;obtain⟨b,⟨⟩⟩:=eN h;simp only[b9]at b;obtain⟨e,j⟩:=b;obtain rfl:=ek e;cases l;exact⟨D.Qf a (aFb d) (aFb f) rfl (qu j) g k c,by simp⟩
     .cases h
    .cases h
   .cases h
  .cases h
 all_goals (simp only[EH]at h;cases h)
def acK{aeG:Nat}(sz afl i:Nat)(a:hl P aeG 1 false):Hint P au:=.gs true ([.ptr 0 (i*sz+afl),.ptr sz afl,.ptr i 0],[]) (λ_=>EH aeG i) λ_ _ _ _ _ _ _ b c=>Qi a b c
def DL(aeG sz:Nat)(op:Op)(env:av):Option (cf×cb):=match op with
 |.buildSlice T len parts=>bif Nat.beq T aeG&&(Nat.beq parts.size len&&(Nat.ble (len*sz) 65536&&Nat.ble len 65536))then(match env.ou parts.toList with
  |none=>none
  |some a=>match rt sz 0 a with
   |none=>none
   |some xs=>bif i1 xs.flatten then some (.y [] (.bn true xs),([],[]))else none)else none
 |_=>none
def Qj{zs:hD}(c:uj P aeG E sz zs){o:Oper}{ids:cR}{env:av}{σ:ah}{s:cf}(h:DL aeG sz o.op env=some (s,aeo)):eu ⟨P,N,ids,au⟩ o env σ s:=by
 cases b:o.op<;>rw[b]at h
 case buildSlice T len parts=>
  simp only[DL]at h
  replace h:=eN h
  obtain⟨a,h⟩:=h;simp only[b9]at a;obtain⟨g,f,j,k⟩:=a;obtain rfl:=ek g;split at h
  .cases h
  .rename_i l d;split at h
   .cases h
   .rename_i xs e;obtain⟨i,⟨⟩⟩:=eN h;exact bB.buildSlice b c (by simpa using f) ⟨qu j,qu k⟩ (by rw[aFF d];exact BU _ e) i
 all_goals (simp only[DL]at h;cases h)
def Px{aeG E sz:Nat}{zs:hD}(a:uj P aeG E sz zs):Hint P au:=.gs false ([],[]) (λ_ c env _=>DL aeG sz c env) λ_ _ _ _ _ _ _ b _=>Qj a b
end
end
end Go.Proofs.YtemmkpdjmgafoaaGreatDoor
