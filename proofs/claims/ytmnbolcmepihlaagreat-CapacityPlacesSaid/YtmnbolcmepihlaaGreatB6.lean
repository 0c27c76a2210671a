/- aD what a af9 aay of a call to what the walks want, and back. No condition but bf aM stand in each. -/
import Derived.Test.YtmnbolcmepihlaaGreatBA
import Derived.Below
import Derived.ChangeSame
import Derived.WideKeyArgs
import Derived.ProofKit
namespace Go.Proofs.YtmnbolcmepihlaaGreat
set_option linter.all false
open Go Go.ChangeShapes Go.WideShapes Go.ChangeAt Go.RowKit
structure Opn(P:Program)(T:Nat){α:Type}(enc:α→List AV)(n:Nat):Prop where
 cells:P.cellsOf T=n
 read:∀(H:Type) (eH:TypeId×Value→H) (w:World) (base:Nat) (sp:Nat→Bool) (hd:Bool) (fuel:Nat) (cs:List Value) (x:DataW H×List MemPlace),
  DataW.trod eH P w base sp hd fuel T cs=some x→∃a:α,aS (snap w) (enc a) cs
variable {P:Program}{T:Nat}
theorem als{k:IntKind}(h:P.underlying T=some (.int k))(hc:P.cellsOf T=1):Opn P T (λn:Int=>[.int k n]) 1:=by
 refine⟨hc,λH eH w base sp hd fuel cs x hx=>?_⟩;cases fuel with
 |zero=>cases hx
 |succ n=>
  unfold DataW.trod at hx;rw[h]at hx;split at hx<;>first|(simp at hx;done)|skip
  all_goals (rename_i he;cases he)
  rename_i k' m;split at hx
  ·rename_i hk;obtain⟨rfl,_⟩:=hk
   exact⟨m,by simp[aS,aB]⟩
  ·cases hx
theorem mapM_some{α β:Type}{f:α→Option β}:∀{l:List α} {r:List β},l.mapM f=some r→r.length=l.length∧∀(i:Nat) (a:α),l[i]?=some a→∃b:β,f a=some b∧r[i]?=some b
 |[],r,h=>by simp at h;subst h;exact⟨rfl,λi a hi=>by simp at hi⟩
 |x::l,r,h=>by
  rw[List.mapM_cons]at h;cases hx:f x with
  |none=>rw[hx]at h;cases h
  |some y=>
   rw[hx]at h;cases hl:l.mapM f with
   |none=>rw[hl]at h;cases h
   |some ys=>
    rw[hl]at h;cases h;obtain⟨h1,h2⟩:=mapM_some hl;refine⟨by simp[h1],λi a hi=>?_⟩;cases i with
    |zero=>simp at hi;subst hi;exact⟨y,hx,rfl⟩
    |succ i=>simpa using h2 i a (by simpa using hi)
theorem ym{α β:Type}{p:Nat→β→Prop}:∀(n:Nat),(∀i,i<n→∃b,p i b)→∃l:List β,l.length=n∧∀i b,l[i]?=some b→p i b
 |0,_=>⟨[],rfl,λi b h=>by simp at h⟩
 |n+1,h=>by
  obtain⟨l,h1,h2⟩:=ym (α:=α) n (λi hi=>h i (by omega));obtain⟨b,hb⟩:=h n (by omega);refine⟨l++[b],by simp[h1],λi c hc=>?_⟩;by_cases hi:i<n
  ·rw[List.getElem?_append_left (by omega)]at hc;exact h2 i c hc
  ·have:i=n:=by
    have:=(List.getElem?_eq_some_iff.1 hc).1;simp at this;omega
   subst this;rw[List.getElem?_append_right (by omega)]at hc;simp[h1]at hc;subst hc;exact hb
variable {a:Addr}
theorem aga{w:World}{base:Nat}{n:Nat}{cs:List Value}(h:w.cells? base a n=some cs):cs.length=n∧∀i v,cs[i]?=some v→w.cell? (a.add i)=some v:=by
 unfold World.cells? at h;split at h
 ·obtain⟨h1,h2⟩:=mapM_some h;have hl:cs.length=n:=by simpa using h1
  refine⟨hl,λi v hv=>?_⟩;have hi:i<n:=by rw[←hl];exact(List.getElem?_eq_some_iff.1 hv).1
  obtain⟨b,q1,q2⟩:=h2 i i (by simp[hi]);rw[hv]at q2;cases q2;exact q1
 ·cases h
theorem vZ{α:Type}{I:Imm}{b sz:Nat}{enc:α→List AV}:∀(l:List α) (o:Nat),(∀r,(enc r).length=sz)→(∀i a,l[i]?=some a→fc I b (enc a) (o+i*sz))→dg I b (l.map enc) o
 |[],_,_,_=>trivial
 |x::r,o,hz,h=>by
  simp only[List.map_cons,dg];refine⟨by simpa using h 0 x rfl,?_⟩;rw[hz x];refine vZ r (o+sz) hz λi a ha=>?_;have:=h (i+1) a (by simpa using ha)
  rwa [Nat.add_mul,Nat.one_mul,Nat.add_comm (i*sz),←Nat.add_assoc]at this
theorem ahN(h:a.spot=none)(i:Nat):a.add i=⟨a.block,a.off+i,none⟩:=by
 obtain⟨b,o,s⟩:=a;simp only at h;subst h;exact dY b o i
variable {E:Nat}{α:Type}
theorem agb{e:En α}(h:P.underlying T=some (.slice E))(hc:P.cellsOf T=1)(hE:Opn P E e.enc e.sz)(hp:0<e.sz):Opn P T (λl:List α=>[.lst false (ml e l)]) 1:=by
 refine⟨hc,λH eH w base sp hd fuel cs x hx=>?_⟩;cases fuel with
 |zero=>cases hx
 |succ n=>
  unfold DataW.trod at hx;rw[h]at hx;split at hx<;>first|(simp at hx;done)|skip
  all_goals (rename_i he;try cases he)
  ·refine⟨[],?_⟩;simp only[aS,aB,ml,List.map_nil];exact⟨_,_,rfl,⟨none,0,rfl,by simp,by simp[maxLen],by simp,by simp⟩,rfl⟩
  ·rename_i a len cap;split at hx
   ·rename_i hb;obtain⟨_,h1,h2⟩:=hb;dsimp only at hx;generalize hm:(List.range len).mapM (λi=>(w.cells? base (a.add (i*P.cellsOf E)) (P.cellsOf E)).bind (DataW.trod eH P w base sp hd n E))=om at hx;cases om with
    |none=>cases hx
    |some elems=>
     obtain⟨q1,q2⟩:=mapM_some hm;have hl:elems.length=len:=by simpa using q1
     have key:∀i,i<len→∃b:α,∃row:List Value,aS (snap w) (e.enc b) row∧∀j v,row[j]?=some v→w.cell? ((a.add (i*P.cellsOf E)).add j)=some v:=λi hi=>by
      obtain⟨z,z1,_⟩:=q2 i i (by simp[hi]);cases hr:w.cells? base (a.add (i*P.cellsOf E)) (P.cellsOf E)with
      |none=>rw[hr]at z1;cases z1
      |some row=>
       rw[hr]at z1;obtain⟨b,hb⟩:=hE.read H eH w base sp hd n row z z1;exact⟨b,row,hb,(aga hr).2⟩
     obtain⟨l,l1,l2⟩:=ym (α:=Unit) len key;refine⟨l,?_⟩;simp only[aS,aB];refine⟨_,_,rfl,⟨some a,cap,by rw[eF,l1],by rw[eF,l1];exact h1,h2,by simp,?_⟩,rfl⟩;by_cases h0:len=0
     ·left;have:l=[]:=List.eq_nil_of_length_eq_zero (by omega);subst this;rfl
     ·right;have hsp:a.spot=none:=by
       obtain⟨b,row,r1,r2⟩:=key 0 (by omega);have hrl:row.length=e.sz:=by rw[dQ _ _ r1,e.hz]
       cases hrow:row with
       |nil=>rw[hrow]at hrl;simp at hrl;omega
       |cons u us=>
        have:=r2 0 u (by rw[hrow];rfl);simp only[Nat.zero_mul,Addr.add,if_true]at this;simp only[World.cell?]at this;split at this
        ·split at this
         ·cases this
         ·rename_i hs;cases hsa:a.spot<;>simp_all
        ·cases this
      refine⟨a.block,a.off,?_,?_⟩
      ·obtain⟨b,o,s⟩:=a;simp only at hsp;subst hsp;rfl
      ·refine vZ l a.off e.hz λi c hc=>?_;obtain⟨row,r1,r2⟩:=l2 i c hc;refine s5 _ _ row r1 λj v hv=>?_;have:=r2 j v hv;rw[hE.cells,ahN hsp,dY]at this;exact this
   ·cases hx
structure Arg(P:Program)(T:Nat){α:Type}(av:α→AV)(ok:α→Prop):Prop where
 read:∀(H:Type) (eH:TypeId×Value→H) (w:World) (base:Nat) (v:Value) (d:DataW H) (ps:List MemPlace),Value.okWide P w .any base T v→DataW.Trod eH P w 0 (λ_=>true) true T v d ps→∃a:α,ok a∧aB (snap w) (av a) v
theorem alu{av:α→AV}(ho:Opn P T (λa=>[av a]) 1)(hk:∀w base v,Value.okWide P w .any base T v→v.cells=#[v]):Arg P T av (λ_=>True):=by
 refine⟨λH eH w base v d ps hv hd=>?_⟩;obtain⟨fuel,hd⟩:=hd;obtain⟨a,ha⟩:=ho.read _ _ _ _ _ _ _ _ _ hd;rw[hk w base v hv]at ha;simp only[aS]at ha;obtain⟨u,us,h1,h2,rfl⟩:=ha;simp at h1;subst h1;exact⟨a,trivial,h2⟩
theorem agc(h:P.underlying T=some (.slice E))(w:World)(base:Nat)(v:Value)(hv:Value.okWide P w .any base T v):v.cells=#[v]:=by
 simp only[Value.okWide,h,Cell.okWide,Cell.ok]at hv;cases v<;>first|rfl|(simp at hv;done)
structure acB(P:Program)(ts:List Nat){β:Type}(avs:β→List AV)(ok:β→Prop):Prop where
 read:∀(H:Type) (eH:TypeId×Value→H) (w:World) (base:Nat) (vs:List Value) (ds:List (DataW H)) (ps:List MemPlace),(∀(j:Nat) t v,ts[j]?=some t→vs[j]?=some v→Value.okWide P w .any base t v)→
  DataW.TrodAll eH P w 0 (λ_=>true) true ts vs ds ps→∃b:β,ok b∧aS (snap w) (avs b) vs
theorem ahO:acB P [] (λ_:Unit=>[]) (λ_=>True):=⟨λ_ _ _ _ vs ds _ _ h=>by
 cases vs<;>cases ds<;>first|exact⟨(),trivial,rfl⟩|exact h.elim⟩
variable {β:Type}
theorem agd{ts:List Nat}{a1:α→AV}{a2:β→List AV}{o1:α→Prop}{o2:β→Prop}(h1:Arg P T a1 o1)(h2:acB P ts a2 o2):acB P (T::ts) (λp:α×β=>a1 p.1::a2 p.2) (λp=>o1 p.1∧o2 p.2):=by
 refine⟨λH eH w base vs ds ps hv h=>?_⟩;cases vs with
 |nil=>cases ds<;>exact h.elim
 |cons v vs=>
  cases ds with
  |nil=>exact h.elim
  |cons d ds=>
   obtain⟨p,q,q1,q2,_⟩:=h;obtain⟨a,oa,ha⟩:=h1.read H eH w base v d p (hv 0 T v rfl rfl) q1;obtain⟨b,ob,hb⟩:=h2.read H eH w base vs ds q (λj t v h h'=>hv (j+1) t v (by simpa using h) (by simpa using h')) q2;exact⟨(a,b),⟨oa,ob⟩,by simp only[aS];exact⟨v,vs,rfl,ha,hb⟩⟩
theorem v7{H:Type}{enc:TypeId×Value→H}{P:Program}(hl:laidOutB P=true){W W':World}{sp:Nat→Bool}(hb:Below W.heap.size W W'):∀{ts:List Nat} {vs:List Value} {ds:List (DataW H)} {ps:List MemPlace},(∀t∈ts,P.readableRec t=true∧t<P.types.size)→
  DataW.TrodAll enc P W 0 (λ_=>true) true ts vs ds ps→(∀x∈ps,x.block<W.heap.size)→(∀x∈ps,sp x.block=true)→DataW.TrodAll enc P W' 0 sp true ts vs ds ps
 |[],vs,ds,ps,_,h,_,_=>by cases vs<;>cases ds<;>exact h
 |t::ts,vs,ds,ps,ht,h,hlt,hs=>by
  cases vs with
  |nil=>cases ds<;>exact h.elim
  |cons v vs=>
   cases ds with
   |nil=>exact h.elim
   |cons d ds=>
    obtain⟨p,q,q1,q2,rfl⟩:=h;have h1:=ht t (by simp)
    exact⟨p,q,WideElems.Trod_stays hl h1.1 h1.2 q1 (λx hx=>hb.same (hlt x (by simp[hx]))) (λx hx=>hs x (by simp[hx])),
     v7 hl hb (λt ht2=>ht t (by simp[ht2])) q2 (λx hx=>hlt x (by simp[hx])) (λx hx=>hs x (by simp[hx])),rfl⟩
theorem ahP{H:Type}{enc:TypeId×Value→H}{f TB:Nat}{fn:Func}{s:ChangeSpec}{avs:β→List AV}{ok:β→Prop}(hl:laidOutB P=true)(hr:fn.resultTypes=#[TB])(hB:P.underlying TB=some .bool)(hvars:s.vars=[])
    (hpar:∀t∈fn.params.toList,P.readableRec t=true∧t<P.types.size) (hA:acB P fn.params.toList avs ok) (hlaw:∀b,ok b→RO P f [] (avs b) (.bool true))
    (arp:∀ds:List (DataW H),ds.length=fn.params.size→(s.fn H ds).results=[.lit (.bool true)]∧(s.fn H ds).args=ds∧(s.fn H ds).vars=[])
    (W:World) (base:Nat) (args:Array Value) (ds gs:List (DataW H)) (before:List MemPlace) (hval:∀(j:Nat) t v,fn.params[j]?=some t→args[j]?=some v→Value.okWide P W .any base t v)
    (hW:DataW.Whole enc P fn.params.toList s.vars false W args.toList ds gs before) :
    Calls P f args W λe W'=>∃v,e=.returned v∧s.post enc P fn false true false false W args v W':=by
  have hW':=hW;obtain⟨p,q,hT,hV,rfl,hfz,hnd⟩:=hW;rw[hvars]at hV;obtain⟨rfl,rfl⟩:=trodVars_none hV;simp only[List.append_nil]at hW';obtain⟨b,hob,hb⟩:=hA.read H enc W base args.toList ds p (λj t v h h'=>hval j t v (by simpa using h) (by simpa using h')) hT
  have hin:aX ⟨P,0,[]⟩ (gO (snap W) (λ_=>.nilFunc) [] W) (snap W) (λ_=>.nilFunc) [] W:=
    {good:=qL,dO:=pJ,eX:=aQ.refl _,fU:=λ_ _ _ _=>rfl,frame:=λ_ _ _=>rfl,size:=Nat.le_refl _,tape:=rfl,os:=rfl,output:=rfl,drawn:=Nat.le_refl _,
     bB:=λd o hd=>by simp[Sto.get]at hd,bQ:=λd d' hd=>by simp[Sto.get]at hd,keep:=λd hd=>by simp at hd}
  have hc:=hlaw b hob _ W (snap W) (λ_=>.nilFunc) args.toList hin hb.ahH;rw[Array.toArray_toList]at hc;refine Calls.mono hc ?_;rintro e W' ⟨v,rfl,r,σ',I',β',⟨rfl,rfl⟩,fD,hw'⟩;have hv:=nh fD;subst hv;have anA:Below W.heap.size W W':=⟨hw'.os,hw'.tape,hw'.output,hw'.size,λk hk=>hw'.frame k hk (by simp[gO,kQ,Sto.ids])⟩;have hlen:ds.length=fn.params.size:=by
    have key:∀(ts:List Nat) (vs:List Value) (ds:List (DataW H)) (ps:List MemPlace),DataW.TrodAll enc P W 0 (λ_=>true) true ts vs ds ps→ds.length=ts.length:=by
      intro ts;induction ts with
      |nil=>intro vs ds ps h;cases vs<;>cases ds<;>first|rfl|exact h.elim
      |cons t ts ih=>
        intro vs ds ps h;cases vs<;>cases ds<;>first|exact h.elim|skip
        obtain⟨_,_,_,q2,_⟩:=h;simp[ih _ _ _ q2]
    simpa using key _ _ _ _ hT
  obtain⟨e1,e2,e3⟩:=arp ds hlen;have hlt:∀x∈p,x.block<W.heap.size:=λx hx=>by simpa using hW'.lt x hx
  have hres:∀(b:Nat) (sp:Nat→Bool) (hd:Bool),DataW.TrodAll enc P W' b sp hd fn.resultTypes.toList ((Value.bool true).resultList fn.resultTypes.size) [DataW.lit (.bool true)] []:=λb sp hd=>by
    rw[hr];exact trodAll_mk1 (shut_bool hB true)
  have hargs:∀sp:Nat→Bool,(∀x∈p,sp x.block=true)→DataW.TrodAll enc P W' 0 sp true fn.params.toList args.toList ds p:=λsp hsp=>v7 hl anA hpar hT hlt hsp;have hok:=ok_one (P:=P) (W':=W') hr rfl (okWide_bool_mk hB true);have hVn:∀sp:Nat→Bool,DataW.TrodVars enc P W' sp s.vars (s.fn H ds).vars []:=λsp=>by rw[hvars,e3];rfl
  refine⟨_,rfl,ds,[],p,[],p,[],by simpa using hW',?_,?_,?_,World.keptBut_mono (λx hx=>⟨hx,.inr (.inl hx)⟩) (anA.frame (·∈p)),λh=>by cases h⟩
  · rw[List.append_nil,e1];exact hres _ _ _
  · rw[List.append_nil,e2];exact hargs _ (λx hx=>by simpa using hlt x hx)
  · rw[List.append_nil];exact hVn _
end Go.Proofs.YtmnbolcmepihlaaGreat
