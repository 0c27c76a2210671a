/- bg dS a V5 Bo of a call to dS aR iD want, and back. bM bN cu cg bz cv in ck. -/
import Derived.Test.YtmnbolcmepihlaaGreatBA
import Derived.Below
import Derived.ChangeSame
import Derived.WideKeyArgs
import Derived.ProofKit
namespace Go.Proofs.YtmnbolcmepihlaaGreat
set_option linter.all false
open Go Go.ChangeShapes Go.WideShapes Go.ChangeAt Go.RowKit
structure yS(P:Program)(T:Nat){α:Type}(enc:α→List U)(n:Nat):Prop where
 cells:P.cellsOf T=n
 read:∀(H:Type) (pP:TypeId×Value→H) (w:World) (jU:Nat) (nc:Nat→Bool) (Z:Bool) (fuel:Nat) (cs:List Value) (x:DataW H×List MemPlace),
  DataW.trod pP P w jU nc Z fuel T cs=some x→∃a:α,b9 (iq w) (enc a) cs
variable {P:Program}{T:Nat}
theorem Y5{k:IntKind}(h:P.underlying T=some (.int k))(aa:P.cellsOf T=1):yS P T (λn:Int=>[.int k n]) 1:=by
 refine⟨aa,λH pP w jU nc Z fuel cs x u=>?_⟩;cases fuel with
 |zero=>cases u
 |succ n=>
  unfold DataW.trod at u;rw[h]at u;split at u<;>first|(simp at u;done)|skip
  all_goals (rename_i he;cases he)
  rename_i eM m;split at u
  ·rename_i hk;obtain⟨rfl,_⟩:=hk
   exact⟨m,by simp[b9,aO]⟩
  ·cases u
theorem KH{α β:Type}{f:α→Option β}:∀{l:List α} {r:List β},l.mapM f=some r→r.length=l.length∧∀(i:Nat) (a:α),l[i]?=some a→∃b:β,f a=some b∧r[i]?=some b
 |[],r,h=>by simp at h;subst h;exact⟨rfl,λi a hi=>by simp at hi⟩
 |x::l,r,h=>by
  rw[List.mapM_cons]at h;cases u:f x with
  |none=>rw[u]at h;cases h
  |some y=>
   rw[u]at h;cases aJ:l.mapM f with
   |none=>rw[aJ]at h;cases h
   |some bu=>
    rw[aJ]at h;cases h;obtain⟨h1,D⟩:=KH aJ;refine⟨by simp[h1],λi a hi=>?_⟩;cases i with
    |zero=>simp at hi;subst hi;exact⟨y,u,rfl⟩
    |succ i=>simpa using D i a (by simpa using hi)
theorem TO{α β:Type}{p:Nat→β→Prop}:∀(n:Nat),(∀i,i<n→∃b,p i b)→∃l:List β,l.length=n∧∀i b,l[i]?=some b→p i b
 |0,_=>⟨[],rfl,λi b h=>by simp at h⟩
 |n+1,h=>by
  obtain⟨l,h1,D⟩:=TO (α:=α) n (λi hi=>h i (by omega));obtain⟨b,V⟩:=h n (by omega);refine⟨l++[b],by simp[h1],λi c aa=>?_⟩;by_cases hi:i<n
  ·rw[List.getElem?_append_left (by omega)]at aa;exact D i c aa
  ·have:i=n:=by
    have:=(List.getElem?_eq_some_iff.1 aa).1;simp at this;omega
   subst this;rw[List.getElem?_append_right (by omega)]at aa;simp[h1]at aa;subst aa;exact V
variable {a:Addr}
theorem V6{w:World}{jU:Nat}{n:Nat}{cs:List Value}(h:w.cells? jU a n=some cs):cs.length=n∧∀i v,cs[i]?=some v→w.cell? (a.add i)=some v:=by
 unfold World.cells? at h;split at h
 ·obtain⟨h1,D⟩:=KH h;have aJ:cs.length=n:=by simpa using h1
  refine⟨aJ,λi v af=>?_⟩;have hi:i<n:=by rw[←aJ];exact(List.getElem?_eq_some_iff.1 af).1
  obtain⟨b,an,au⟩:=D i i (by simp[hi]);rw[af]at au;cases au;exact an
 ·cases h
theorem Tp{α:Type}{I:bw}{b sz:Nat}{enc:α→List U}:∀(l:List α) (o:Nat),(∀r,(enc r).length=sz)→(∀i a,l[i]?=some a→jY I b (enc a) (o+i*sz))→iG I b (l.map enc) o
 |[],_,_,_=>trivial
 |x::r,o,hz,h=>by
  simp only[List.map_cons,iG];refine⟨by simpa using h 0 x rfl,?_⟩;rw[hz x];refine Tp r (o+sz) hz λi a aC=>?_;have:=h (i+1) a (by simpa using aC)
  rwa [Nat.add_mul,Nat.one_mul,Nat.add_comm (i*sz),←Nat.add_assoc]at this
theorem Xw(h:a.spot=none)(i:Nat):a.add i=⟨a.block,a.off+i,none⟩:=by
 obtain⟨b,o,s⟩:=a;simp only at h;subst h;exact kJ b o i
variable {E:Nat}{α:Type}
theorem V7{e:iU α}(h:P.underlying T=some (.slice E))(aa:P.cellsOf T=1)(hv:yS P E e.enc e.sz)(aB:0<e.sz):yS P T (λl:List α=>[.aX false (aD e l)]) 1:=by
 refine⟨aa,λH pP w jU nc Z fuel cs x u=>?_⟩;cases fuel with
 |zero=>cases u
 |succ n=>
  unfold DataW.trod at u;rw[h]at u;split at u<;>first|(simp at u;done)|skip
  all_goals (rename_i he;try cases he)
  ·refine⟨[],?_⟩;simp only[b9,aO,aD,List.map_nil];exact⟨_,_,rfl,⟨none,0,rfl,by simp,by simp[maxLen],by simp,by simp⟩,rfl⟩
  ·rename_i a len aF;split at u
   ·rename_i V;obtain⟨_,h1,D⟩:=V;dsimp only at u;generalize hm:(List.range len).mapM (λi=>(w.cells? jU (a.add (i*P.cellsOf E)) (P.cellsOf E)).bind (DataW.trod pP P w jU nc Z n E))=jb at u;cases jb with
    |none=>cases u
    |some afF=>
     obtain⟨an,au⟩:=KH hm;have aJ:afF.length=len:=by simpa using an
     have key:∀i,i<len→∃b:α,∃row:List Value,b9 (iq w) (e.enc b) row∧∀j v,row[j]?=some v→w.cell? ((a.add (i*P.cellsOf E)).add j)=some v:=λi hi=>by
      obtain⟨z,lp,_⟩:=au i i (by simp[hi]);cases ax:w.cells? jU (a.add (i*P.cellsOf E)) (P.cellsOf E)with
      |none=>rw[ax]at lp;cases lp
      |some row=>
       rw[ax]at lp;obtain⟨b,V⟩:=hv.read H pP w jU nc Z n row z lp;exact⟨b,row,V,(V6 ax).2⟩
     obtain⟨l,jt,hQ⟩:=TO (α:=Unit) len key;refine⟨l,?_⟩;simp only[b9,aO];refine⟨_,_,rfl,⟨some a,aF,by rw[mD,jt],by rw[mD,jt];exact h1,D,by simp,?_⟩,rfl⟩;by_cases bJ:len=0
     ·left;have:l=[]:=List.eq_nil_of_length_eq_zero (by omega);subst this;rfl
     ·right;have r7:a.spot=none:=by
       obtain⟨b,row,hr,hl⟩:=key 0 (by omega);have Cf:row.length=e.sz:=by rw[nv _ _ hr,e.hz]
       cases h0:row with
       |nil=>rw[h0]at Cf;simp at Cf;omega
       |cons ay bF=>
        have:=hl 0 ay (by rw[h0];rfl);simp only[Nat.zero_mul,Addr.add,if_true]at this;simp only[World.cell?]at this;split at this
        ·split at this
         ·cases this
         ·rename_i W;cases anW:a.spot<;>simp_all
        ·cases this
      refine⟨a.block,a.off,?_,?_⟩
      ·obtain⟨b,o,s⟩:=a;simp only at r7;subst r7;rfl
      ·refine Tp l a.off e.hz λi c aa=>?_;obtain⟨row,hr,hl⟩:=hQ i c aa;refine F8 _ _ row hr λj v af=>?_;have:=hl j v af;rw[hv.cells,Xw r7,kJ]at this;exact this
   ·cases u
structure MW(P:Program)(T:Nat){α:Type}(bE:α→U)(ok:α→Prop):Prop where
 read:∀(H:Type) (pP:TypeId×Value→H) (w:World) (jU:Nat) (v:Value) (d:DataW H) (ps:List MemPlace),Value.okWide P w .any jU T v→DataW.Trod pP P w 0 (λ_=>true) true T v d ps→∃a:α,ok a∧aO (iq w) (bE a) v
theorem Y6{bE:α→U}(aj:yS P T (λa=>[bE a]) 1)(hk:∀w jU v,Value.okWide P w .any jU T v→v.cells=#[v]):MW P T bE (λ_=>True):=by
 refine⟨λH pP w jU v d ps af Z=>?_⟩;obtain⟨fuel,Z⟩:=Z;obtain⟨a,aC⟩:=aj.read _ _ _ _ _ _ _ _ _ Z;rw[hk w jU v af]at aC;simp only[b9]at aC;obtain⟨ay,bF,h1,D,rfl⟩:=aC;simp at h1;subst h1;exact⟨a,trivial,D⟩
theorem V8(h:P.underlying T=some (.slice E))(w:World)(jU:Nat)(v:Value)(af:Value.okWide P w .any jU T v):v.cells=#[v]:=by
 simp only[Value.okWide,h,Cell.okWide,Cell.ok]at af;cases v<;>first|rfl|(simp at af;done)
structure Bp(P:Program)(ts:List Nat){β:Type}(cO:β→List U)(ok:β→Prop):Prop where
 read:∀(H:Type) (pP:TypeId×Value→H) (w:World) (jU:Nat) (vs:List Value) (ds:List (DataW H)) (ps:List MemPlace),(∀(j:Nat) t v,ts[j]?=some t→vs[j]?=some v→Value.okWide P w .any jU t v)→
  DataW.TrodAll pP P w 0 (λ_=>true) true ts vs ds ps→∃b:β,ok b∧b9 (iq w) (cO b) vs
theorem Xx:Bp P [] (λ_:Unit=>[]) (λ_=>True):=⟨λ_ _ _ _ vs ds _ _ h=>by
 cases vs<;>cases ds<;>first|exact⟨(),trivial,rfl⟩|exact h.elim⟩
variable {β:Type}
theorem V9{ts:List Nat}{jj:α→U}{a2:β→List U}{gd:α→Prop}{ey:β→Prop}(h1:MW P T jj gd)(D:Bp P ts a2 ey):Bp P (T::ts) (λp:α×β=>jj p.1::a2 p.2) (λp=>gd p.1∧ey p.2):=by
 refine⟨λH pP w jU vs ds ps af h=>?_⟩;cases vs with
 |nil=>cases ds<;>exact h.elim
 |cons v vs=>
  cases ds with
  |nil=>exact h.elim
  |cons d ds=>
   obtain⟨p,q,an,au,_⟩:=h;obtain⟨a,yl,aC⟩:=h1.read H pP w jU v d p (af 0 T v rfl rfl) an;obtain⟨b,aI,V⟩:=D.read H pP w jU vs ds q (λj t v h dc=>af (j+1) t v (by simpa using h) (by simpa using dc)) au;exact⟨(a,b),⟨yl,aI⟩,by simp only[b9];exact⟨v,vs,rfl,aC,V⟩⟩
theorem Tq{H:Type}{enc:TypeId×Value→H}{P:Program}(aJ:laidOutB P=true){a1 W':World}{nc:Nat→Bool}(V:Below a1.heap.size a1 W'):∀{ts:List Nat} {vs:List Value} {ds:List (DataW H)} {ps:List MemPlace},(∀t∈ts,P.readableRec t=true∧t<P.types.size)→
  DataW.TrodAll enc P a1 0 (λ_=>true) true ts vs ds ps→(∀x∈ps,x.block<a1.heap.size)→(∀x∈ps,nc x.block=true)→DataW.TrodAll enc P W' 0 nc true ts vs ds ps
 |[],vs,ds,ps,_,h,_,_=>by cases vs<;>cases ds<;>exact h
 |t::ts,vs,ds,ps,bB,h,bQ,W=>by
  cases vs with
  |nil=>cases ds<;>exact h.elim
  |cons v vs=>
   cases ds with
   |nil=>exact h.elim
   |cons d ds=>
    obtain⟨p,q,an,au,rfl⟩:=h;have h1:=bB t (by simp)
    exact⟨p,q,WideElems.Trod_stays aJ h1.1 h1.2 an (λx u=>V.same (bQ x (by simp[u]))) (λx u=>W x (by simp[u])),
     Tq aJ V (λt EZ=>bB t (by simp[EZ])) au (λx u=>bQ x (by simp[u])) (λx u=>W x (by simp[u])),rfl⟩
theorem Xy{H:Type}{enc:TypeId×Value→H}{f HB:Nat}{fn:Func}{s:ChangeSpec}{cO:β→List U}{ok:β→Prop}(aJ:laidOutB P=true)(ax:fn.resultTypes=#[HB])(fv:P.underlying HB=some .bool)(SD:s.vars=[])
    (ahv:∀t∈fn.params.toList,P.readableRec t=true∧t<P.types.size) (dR:Bp P fn.params.toList cO ok) (ahh:∀b,ok b→ef P f [] (cO b) (.bool true))
    (ad8:∀ds:List (DataW H),ds.length=fn.params.size→(s.fn H ds).results=[.lit (.bool true)]∧(s.fn H ds).args=ds∧(s.fn H ds).vars=[])
    (a1:World) (jU:Nat) (args:Array Value) (ds gs:List (DataW H)) (yW:List MemPlace) (ahP:∀(j:Nat) t v,fn.params[j]?=some t→args[j]?=some v→Value.okWide P a1 .any jU t v)
    (i4:DataW.Whole enc P fn.params.toList s.vars false a1 args.toList ds gs yW) :
    Calls P f args a1 λe W'=>∃v,e=.returned v∧s.post enc P fn false true false false a1 args v W':=by
  have JJ:=i4;obtain⟨p,q,aH,vA,rfl,anJ,fm⟩:=i4;rw[SD]at vA;obtain⟨rfl,rfl⟩:=trodVars_none vA;simp only[List.append_nil]at JJ;obtain⟨b,b3,V⟩:=dR.read H enc a1 jU args.toList ds p (λj t v h dc=>ahP j t v (by simpa using h) (by simpa using dc)) aH
  have fA:bS ⟨P,0,[]⟩ (mE (iq a1) (λ_=>.nilFunc) [] a1) (iq a1) (λ_=>.nilFunc) [] a1:=
    {good:=CY,h9:=CQ,ja:=b7.refl _,iL:=λ_ _ _ _=>rfl,frame:=λ_ _ _=>rfl,size:=Nat.le_refl _,tape:=rfl,os:=rfl,output:=rfl,drawn:=Nat.le_refl _,
     cB:=λd o Z=>by simp[Y.get]at Z,dn:=λd eD Z=>by simp[Y.get]at Z,keep:=λd Z=>by simp at Z}
  have aa:=ahh b b3 _ a1 (iq a1) (λ_=>.nilFunc) args.toList fA V.IX;rw[Array.toArray_toList]at aa;refine Calls.mono aa ?_;rintro e W' ⟨v,rfl,r,az,aS,β',⟨rfl,rfl⟩,jg,eS⟩;have af:=v1 jg;subst af;have Qo:Below a1.heap.size a1 W':=⟨eS.os,eS.tape,eS.output,eS.size,λk hk=>eS.frame k hk (by simp[mE,te,Y.ids])⟩;have eF:ds.length=fn.params.size:=by
    have key:∀(ts:List Nat) (vs:List Value) (ds:List (DataW H)) (ps:List MemPlace),DataW.TrodAll enc P a1 0 (λ_=>true) true ts vs ds ps→ds.length=ts.length:=by
      intro ts;induction ts with
      |nil=>intro vs ds ps h;cases vs<;>cases ds<;>first|rfl|exact h.elim
      |cons t ts bD=>
        intro vs ds ps h;cases vs<;>cases ds<;>first|exact h.elim|skip
        obtain⟨_,_,_,au,_⟩:=h;simp[bD _ _ _ au]
    simpa using key _ _ _ _ aH
  obtain⟨aA,e2,b6⟩:=ad8 ds eF;have bQ:∀x∈p,x.block<a1.heap.size:=λx u=>by simpa using JJ.lt x u
  have ahC:∀(b:Nat) (nc:Nat→Bool) (Z:Bool),DataW.TrodAll enc P W' b nc Z fn.resultTypes.toList ((Value.bool true).resultList fn.resultTypes.size) [DataW.lit (.bool true)] []:=λb nc Z=>by
    rw[ax];exact trodAll_mk1 (shut_bool fv true)
  have lB:∀nc:Nat→Bool,(∀x∈p,nc x.block=true)→DataW.TrodAll enc P W' 0 nc true fn.params.toList args.toList ds p:=λnc r7=>Tq aJ Qo ahv aH bQ r7;have iP:=ok_one (P:=P) (W':=W') ax rfl (okWide_bool_mk fv true);have agh:∀nc:Nat→Bool,DataW.TrodVars enc P W' nc s.vars (s.fn H ds).vars []:=λnc=>by rw[SD,b6];rfl
  refine⟨_,rfl,ds,[],p,[],p,[],by simpa using JJ,?_,?_,?_,World.keptBut_mono (λx u=>⟨u,.inr (.inl u)⟩) (Qo.frame (·∈p)),λh=>by cases h⟩
  · rw[List.append_nil,aA];exact ahC _ _ _
  · rw[List.append_nil,e2];exact lB _ (λx u=>by simpa using bQ x u)
  · rw[List.append_nil];exact agh _
end Go.Proofs.YtmnbolcmepihlaaGreat
