/- A part of the proof; the last text says of what. No condition but those that stand in each. -/
import Derived.Test.YtmnbolcmepihlaaGreatZ6
import Derived.RangeFuncGives
import Derived.Maps.RangeRun
import Derived.Sort.MapsRangeIn
import Derived.Shelf.Abstract
import Derived.WalkKit
import Derived.OwnWalkIn
import Derived.TacticsInMore
import Derived.RegionIn
import Derived.LoopNIn
import Derived.LoopIn
import Derived.RangeFuncBox
import Derived.RangeFuncLeaves
import Derived.Laws.AppendOwn
import Derived.Test.YtmnbolcmepihlaaGreatZ5
import Derived.Shelf.Slices.CompactI
import Derived.Test.YtmnbolcmepihlaaGreatZ4
namespace Go.Proofs.YtmnbolcmepihlaaGreat
section
set_option linter.all false
open Go Go.Proofs.Tryz
def hb(f:Nat)(m:List (Int×Int)):U:=.cW f [.dF [.b8 (bg .i64 (bW .i64) m)]]
def Mm(m:List (Int×Int)):bY prog 169 [] [.b8 (bg .i64 (bW .i64) m)] (hb 194 m):=by
 refine bT func169 rfl rfl ?_;refine auT aY [] [(0,.al 910000000)] [(1,.ptr 910000000 0)] [(910000000,.cells 144 [.b8 (bg .i64 (bW .i64) m)])] (by kernel_rfl) ?_;refine auZ (avy (T:=144) (cs:=[.b8 (bg .i64 (bW .i64) m)]) 1 910000000 rfl rfl rfl) ?_;refine auT aY [] [(0,r1)] [(2,hb 194 m)] [] (by kernel_rfl) ?_;refine A.ret ?_;exact auW aY [] rfl (by kernel_rfl)
def Mn(m:List (Int×Int)):bY prog 168 [] [.b8 (bg .i64 (bW .i64) m)] (hb 193 m):=by
 refine bT func168 rfl rfl ?_;refine auT aY [] [(0,.al 910000000)] [(1,.ptr 910000000 0)] [(910000000,.cells 144 [.b8 (bg .i64 (bW .i64) m)])] (by kernel_rfl) ?_;refine auZ (avy (T:=144) (cs:=[.b8 (bg .i64 (bW .i64) m)]) 1 910000000 rfl rfl rfl) ?_;refine auT aY [] [(0,r1)] [(2,hb 193 m)] [] (by kernel_rfl) ?_;refine A.ret ?_;exact auW aY [] rfl (by kernel_rfl)
def RY{av:kZ}{target:Int}{r:List (Int×Int)}(e:oz av target=some r):cI prog 165 [] [.aL false (ag cz av),.int .i64 target] (λa c=>a=.cc 145/\c=[(145,.map 3 3 (bg .i64 (bW .i64) r))]):=by
 obtain⟨d,b⟩:=H8 e;exact hA.at [(910000002,145)] (Ml d b)
end
section
set_option linter.all false
open Go Go.Proofs.Tryz Go.RowKit Go.Shelf
open Go.ChangeMaps (setBlock)
attribute [local go_sem] Oper.semAt_some
set_option maxRecDepth 100000
theorem H9{w a:World}(b:a=w\/a=w.drew)(r:Nat)(o:Obj):w.grownBy (setBlock a r o) (some r):=by
 have c:a.heap=w.heap:=by rcases b with rfl|rfl<;>rfl
 have d:(setBlock a r o).heap=w.heap.setIfInBounds r o:=by simp only[setBlock,c]
 refine⟨by rcases b with rfl|rfl<;>rfl,by rcases b with rfl|rfl<;>rfl,by rcases b with rfl|rfl<;>rfl,by rw[d];simp,λf _ e=>?_⟩
 grind
def n9{β:Type}(B:Nat)(J:β->World->Prop):Prop:=
 ∀e a b d,J e a->a.grownBy b d->a.drawn<=b.drawn->(∀c,d=some c->B<=c/\∃o:Obj,a.heap[c]?=some o/\o.isWalk=true)->J e b
def Ia{w a:World}(b:a=w\/a=w.drew)(r:Nat)(o:Obj):w.drawn<=(setBlock a r o).drawn:=by
 rcases b with rfl|rfl
 .exact Nat.le_refl _
 .exact Nat.le_succ _
section
variable {P:Program}{F:Fence}{n:Nat}{ops:hU}{SN:Exit->Act->World->Prop}{o:Oper}{VR:List Oper}{a:Act}{w:World}
def Bc(f:o.guard=none)(m:Operand)(t k e:TypeId)(c:o.op=Op.range t m)(d:P.underlying t=some (.map k e))(b clock:Nat)(es:dK)(p:a.eval m=.map (some b))(g:w.heap[b]?=some (.map es clock))
  (i:wpListIn F n P ops SN VR (a.put o.dst (.pointer (some ⟨w.heap.size,0,none⟩))) (w.alloc (.mapIter (some b) clock #[] clock))):wpListIn F n P ops SN (o::VR) a w:=by
 refine wpListIn_plain f λq l=>?_;have j:=run_range_map (P:=P) w t k e b es clock d g;unfold Oper.wpIn;refine⟨by simp[Oper.about,c],?_⟩;rw[Oper.semAt_plain F _ _ (by rw[c];intro r h;cases h)];simp[execOp,c,p,j,Result.andThen];exact l _ _ i
theorem Bh(t:o.guard=none)(it:Operand)(g:o.op=Op.next it false)(b r clock:Nat)(seen:iz)(es:dK)(s:a.eval it=.pointer (some ⟨r,0,none⟩))
  (f:w.heap[r]?=some (.mapIter (some b) clock seen clock)) (i:w.heap[b]?=some (.map es clock)) (m:fM es clock)
  (y:(leftOf es seen).size=0->wpListIn F n P ops SN VR (a.put o.dst (.tuple #[.bool false])) w)
  (z:∀e∈(leftOf es seen).toList,∀c,w.grownBy c (some r)->w.drawn<=c.drawn->c.heap.size=w.heap.size->c.heap[r]?=some (.mapIter (some b) clock (seen.push e.born) clock)->c.heap[b]?=some (.map es clock)->(Instr.entry (.pointer (some ⟨r,0,none⟩))).run P c=.ok (.tuple #[e.key,e.val]) c->
   wpListIn F n P ops SN VR (a.put o.dst (.tuple #[.bool true,e.key,e.val])) c):wpListIn F n P ops SN (o::VR) a w:=by
 refine wpListIn_plain t λD q=>?_;unfold Oper.wpIn;refine⟨by simp[Oper.about,g],?_⟩;rw[Oper.semAt_plain F _ _ (by rw[g];intro E v;cases v)];rcases run_next_at (P:=P) w o.type r b clock clock seen es clock f i m.2 (Nat.le_refl _)with⟨h,d⟩|⟨e,h,j,d,C⟩
 .simp[execOp,g,s,d,Result.andThen];exact q _ _ (y h)
 .simp[execOp,g,s,C,Result.andThen];have u:r<w.heap.size:=(Array.getElem?_eq_some_iff.1 f).1;have k:j.heap=w.heap:=by rcases d with rfl|rfl<;>rfl
  have p:(setBlock j r (.mapIter (some b) clock (seen.push e.born) clock)).heap[r]?=some (.mapIter (some b) clock (seen.push e.born) clock):=by
   simp[setBlock,k,Array.getElem?_setIfInBounds,u]
  have A:r≠b:=λB=>by rw[B,i]at f;cases f
  have l:(setBlock j r (.mapIter (some b) clock (seen.push e.born) clock)).heap[b]?=some (.map es clock):=by
   simp[setBlock,k,Array.getElem?_setIfInBounds,A,i]
  have x:e∈es.toList:=by
   unfold leftOf at h
   grind
  exact q _ _ (z e h _ (H9 d r _) (Ia d r _) (by simp[setBlock,k]) p l (run_entry_at (P:=P) _ r b clock seen es clock e p l x m.1))
end
structure nV{cE α:Type}(es:Array MapEntry)(m:List (cE×α))(seen:Array Nat)(p:List Nat):Prop where
 nd:p.Nodup
 sz:seen.size=p.length
 lt:∀i∈p,i<m.length
 on:∀(i:Nat) (e:MapEntry),es[i]?=some e->(seen.contains e.born=true↔i∈p)
variable {I:a2}{es:dK}
def DB{m:List (Int×Int)}(b:c3 I (bg .i64 (bW .i64) m) es.toList):es.size=m.length/\∀(i:Nat) (e:MapEntry),es[i]?=some e->∃q,m[i]?=some q/\e.key=.int .i64 q.1/\e.val=.int .i64 q.2:=by
 have o:∀(m:List (Int×Int)) (d:iw),c3 I (bg .i64 (bW .i64) m) d->d.length=m.length:=by
  intro m;induction m with
  |nil=>intro d b;simp[bg,c3]at b;simp[b]
  |cons p r j=>
   intro d b;simp only[bg,List.map_cons,c3]at b;obtain⟨e,t,rfl,_,_,h⟩:=b;simp[j _ (by simpa [bg]using h)]
 have n:es.size=m.length:=by rw[<-o m es.toList b,Array.length_toList]
 refine⟨n,λi e f=>?_⟩;have s:i<es.size:=(Array.getElem?_eq_some_iff.1 f).1;have g:m[i]?=some m[i]:=List.getElem?_eq_getElem (by omega);obtain⟨k,l⟩:=tw b (i:=i) (a:=.int .i64 (m[i]'(by omega)).1) (c:=bW .i64 (m[i]'(by omega)).2) (e:=e) (by simp[bg,g]) (by simpa using f);exact⟨_,g,by simpa [aN]using k,by simpa [aN,bW]using l⟩
variable {cE α:Type}{p:cg}{seen:iz}
theorem nV.step{m:List (cE×α)}(h:nV es m seen p)(Y:es.size=m.length)(am:(es.toList.map (·.born)).Nodup){e:MapEntry}(ab:e∈(leftOf es seen).toList):
  ∃i,es[i]?=some e/\i<m.length/\i∉p/\nV es m (seen.push e.born) (p++[i])/\p.length<m.length:=by
 unfold leftOf at ab;simp only[Array.mem_toList_iff,Array.mem_filter,Bool.not_eq_true']at ab;obtain⟨aA,ae⟩:=ab;obtain⟨i,aB,ax⟩:=Array.mem_iff_getElem.1 aA;have aa:es[i]?=some e:=by rw[Array.getElem?_eq_getElem aB,ax]
 have ak:i∉p:=λar=>by
  have:=(h.on i e aa).2 ar;rw[this]at ae;cases ae
 have dr:(p++[i]).Nodup:=by
  rw[List.nodup_append];exact⟨h.nd,by simp,λa az b ag an=>by simp at ag;subst ag;subst an;exact ak az⟩
 have ai:∀j∈p++[i],j<m.length:=λj u=>by
  rcases List.mem_append.1 u with u|u
  .exact h.lt j u
  .simp at u;omega
 refine⟨i,aa,by omega,ak,⟨dr,by rw[Array.size_push,h.sz];simp,ai,λj O X=>?_⟩,?_⟩
 .rw[Array.contains_push,Bool.or_eq_true,h.on j O X,List.mem_append,List.mem_singleton];constructor
  .rintro(F|F)
   .exact .inl F
   .right;have aw:O.born=e.born:=by simpa using F
    have u:j<es.size:=(Array.getElem?_eq_some_iff.1 X).1;have af:∀(x:Nat) (y:MapEntry),es[x]?=some y->(es.toList.map (·.born))[x]?=some y.born:=λx y ao=>by simp[ao]
    have D:=af j O X;have Q:=af i e aa;rw[aw]at D;obtain⟨aD,D⟩:=List.getElem?_eq_some_iff.1 D;obtain⟨aC,Q⟩:=List.getElem?_eq_some_iff.1 Q;exact(List.getElem_inj am).1 (D.trans Q.symm)
  .grind
 .have aq:(p++[i]).length<=(List.range m.length).length:=List.Nodup.length_le_of_subset dr (λj u=>List.mem_range.2 (ai j u));simp at aq;omega
theorem nV.done{m:List (cE×α)}(h:nV es m seen p)(Y:es.size=m.length)(Q:(leftOf es seen).size=0):(fC m p).Perm m:=by
 have u:∀i,i∈p↔i<m.length:=λi=>⟨h.lt i,λO=>by
  have F:i<es.size:=by omega
  refine(h.on i es[i] (Array.getElem?_eq_getElem F)).1 ?_;by_cases D:seen.contains es[i].born=true
  .exact D
  .exfalso;have:es[i]∈leftOf es seen:=by
    unfold leftOf
    grind
   have:=Array.size_pos_of_mem this;omega⟩
 have:=(xA h.nd u).filterMap (λi=>m[i]?);have e:=xP m;unfold fC at e ⊢
 rwa [e]at this
def yx{m:List (cE×α)}{i:Nat}{q:cE×α}(a:m[i]?=some q):fC m (p++[i])=fC m p++[q]:=by
 simp[fC,a]
def uw{cE α:Type}{m:List (cE×α)}:∀{p:cg},(∀i∈p,i<m.length)->(fC m p).length=p.length
 |[],_=>rfl
 |i::p,h=>by
  have:=uw (p:=p) λb a=>h b (List.mem_cons_of_mem _ a);simp only[fC]at this ⊢;rw[List.filterMap_cons,List.getElem?_eq_getElem (h i List.mem_cons_self)];simp[this]
set_option maxHeartbeats 2000000 in
def Mo(F:Fence)(n:Nat)(A:F.fn 194)(a1:F.round=none)(af:1<=n)(l r s b clock:Nat)(es:dK)(m:List (Int×Int))(G:c3 I (bg .i64 (bW .i64) m) es.toList)(i:fM es clock)(J:bH->World->Prop)
  (H:∀pre x a,J pre a->pre.length<m.length->YieldAt F (n-1) prog l #[.int .i64 x] a λe W'=>e=.returned (.bool true)/\J (pre++[x]) W'/\KeepsWalks a W')
  (a:World) (h:n9 a.heap.size J) (an:a.cell? ⟨r,s,none⟩=some (.map (some b))) (d:a.heap[b]?=some (.map es clock)) (P:J [] a) :
  CallsIn F n prog 194 #[.func (.yield l) #[] #[],.pointer (some ⟨r,s,none⟩)] a λe W'=>(∃v,e=.returned v)/\∃j:bH,j.Perm (m.map Prod.fst)/\J j W':=by
 obtain⟨k,T⟩:=DB G;have O:b<a.heap.size:=(Array.getElem?_eq_some_iff.1 d).1;refine callsIn_of_wp func194 rfl A ?_ a1;simp only[Tryz.ntmps194,List.size_toArray,List.length_cons,List.length_nil,Nat.reduceAdd,Nat.reduceSub,Array.replicate_succ,Array.replicate_zero,List.push_toArray,List.append_toArray,List.nil_append,List.cons_append]
 gi_wp2_with (first
  |(gi_at_range;refine Bc rfl _ 144 3 3 rfl underlying144 b clock es rfl d ?_)
  |gi_in)
 go_frame
 gi_loopw [3] (λ_ wr=>∃(seen:iz) (p:cg),wr.heap[a.heap.size]?=some (.mapIter (some b) clock seen clock)/\wr.heap[b]?=some (.map es clock)/\nV es m seen p/\J ((fC m p).map Prod.fst) wr)
  (λ_ wr=>match wr.heap[a.heap.size]? with|some (.mapIter _ _ seen _)=>es.size-seen.size|_=>0)
 case atStart=>
  exact⟨#[],[],World.alloc_heap_new a _,(Below.heap_alloc a _ b O).trans d,⟨List.nodup_nil,rfl,by simp,by simp⟩,h [] a _ none P (World.grownBy_alloc a _ none) (Nat.le_refl _) (λY e=>by cases e)⟩
 case round=>
  obtain⟨seen,p,g,V,c,t⟩:=hrel
  gi_wp2_with (first
   |(gi_at_next;refine Bh rfl _ rfl b a.heap.size clock seen es rfl g V i ?_ ?_)
   |gi_in)
  .intro U
   gi_wp2
   go_end0
   exact⟨⟨_,rfl⟩,_,(c.done k (by rw[U];rfl)).map _,t⟩
  .intro e W f S N c0 L B Q;obtain⟨u,C,ab,ae,K,R⟩:=c.step k i.1 (Array.mem_toList_iff.2 W);obtain⟨X,y,z,w⟩:=T u e C;have E:J ((fC m p).map Prod.fst) f:=h _ wr f (some a.heap.size) t S N (λY e=>by cases e;exact⟨Nat.le_refl _,_,g,rfl⟩);obtain⟨am,ao,ai,ak,Z,D⟩:=H _ X.1 f E (by rw[List.length_map,uw c.lt];exact R);rw[z,w]at Q ⊢;clear c0
   gi_wp2
   refine D.mono ?_;rintro aa ag ⟨rfl,M,o⟩
   gi_wp2
   have q:=o.same _ _ L rfl
   go_roundw
   case rel=>exact⟨_,p++[u],q,o.same _ _ B rfl,K,by rw[yx y,List.map_append];exact M⟩
   case measure=>
    rw[q,g];have:=c.sz;simp only[Array.size_push];omega
set_option maxHeartbeats 2000000 in
def Mp(F:Fence)(n:Nat)(A:F.fn 193)(a1:F.round=none)(af:1<=n)(l r s b clock:Nat)(es:dK)(m:List (Int×Int))(G:c3 I (bg .i64 (bW .i64) m) es.toList)(i:fM es clock)(J:bH->World->Prop)
  (H:∀pre x a,J pre a->pre.length<m.length->YieldAt F (n-1) prog l #[.int .i64 x] a λe W'=>e=.returned (.bool true)/\J (pre++[x]) W'/\KeepsWalks a W')
  (a:World) (h:n9 a.heap.size J) (an:a.cell? ⟨r,s,none⟩=some (.map (some b))) (d:a.heap[b]?=some (.map es clock)) (P:J [] a) :
  CallsIn F n prog 193 #[.func (.yield l) #[] #[],.pointer (some ⟨r,s,none⟩)] a λe W'=>(∃v,e=.returned v)/\∃j:bH,j.Perm (m.map Prod.snd)/\J j W':=by
 obtain⟨k,T⟩:=DB G;have O:b<a.heap.size:=(Array.getElem?_eq_some_iff.1 d).1;refine callsIn_of_wp func193 rfl A ?_ a1;simp only[Tryz.ntmps193,List.size_toArray,List.length_cons,List.length_nil,Nat.reduceAdd,Nat.reduceSub,Array.replicate_succ,Array.replicate_zero,List.push_toArray,List.append_toArray,List.nil_append,List.cons_append]
 gi_wp2_with (first
  |(gi_at_range;refine Bc rfl _ 144 3 3 rfl underlying144 b clock es rfl d ?_)
  |gi_in)
 go_frame
 gi_loopw [4] (λ_ wr=>∃(seen:iz) (p:cg),wr.heap[a.heap.size]?=some (.mapIter (some b) clock seen clock)/\wr.heap[b]?=some (.map es clock)/\nV es m seen p/\J ((fC m p).map Prod.snd) wr)
  (λ_ wr=>match wr.heap[a.heap.size]? with|some (.mapIter _ _ seen _)=>es.size-seen.size|_=>0)
 case atStart=>
  exact⟨#[],[],World.alloc_heap_new a _,(Below.heap_alloc a _ b O).trans d,⟨List.nodup_nil,rfl,by simp,by simp⟩,h [] a _ none P (World.grownBy_alloc a _ none) (Nat.le_refl _) (λY e=>by cases e)⟩
 case round=>
  obtain⟨seen,p,g,V,c,t⟩:=hrel
  gi_wp2_with (first
   |(gi_at_next;refine Bh rfl _ rfl b a.heap.size clock seen es rfl g V i ?_ ?_)
   |gi_in)
  .intro U
   gi_wp2
   go_end0
   exact⟨⟨_,rfl⟩,_,(c.done k (by rw[U];rfl)).map _,t⟩
  .intro e W f S N c0 L B Q;obtain⟨u,C,ab,ae,K,R⟩:=c.step k i.1 (Array.mem_toList_iff.2 W);obtain⟨X,y,z,w⟩:=T u e C;have E:J ((fC m p).map Prod.snd) f:=h _ wr f (some a.heap.size) t S N (λY e=>by cases e;exact⟨Nat.le_refl _,_,g,rfl⟩);obtain⟨am,ao,ai,ak,Z,D⟩:=H _ X.2 f E (by rw[List.length_map,uw c.lt];exact R);rw[z,w]at Q ⊢;clear c0
   gi_wp2
   refine D.mono ?_;rintro aa ag ⟨rfl,M,o⟩
   gi_wp2
   have q:=o.same _ _ L rfl
   go_roundw
   case rel=>exact⟨_,p++[u],q,o.same _ _ B rfl,K,by rw[yx y,List.map_append];exact M⟩
   case measure=>
    rw[q,g];have:=c.sz;simp only[Array.size_push];omega
end
section
set_option linter.all false
open Go Go.Proofs.Tryz Go.RowKit Go.Shelf
attribute [local go_sem] Oper.semAt_some
set_option maxRecDepth 100000
variable {F:Fence}{P:Program}{SN:Exit->Act->World->Prop}{a:Act}{w:World}
def Ds{n:Nat}{α:Type}{g:Operand}{ps:Array Tmp}{assign body:Code}
  (a1:F.round=none) (aM:1<=n) {gf:Nat} {lb:eN} (q:a.eval g=.func (.func gf) #[] lb) (ak:F.fn gf) (ai:∀args w,(callFunc gf args).run P w=.ok (.enter gf args) w)
  {encs:α->eN} (N:Nat) (S:List α->Prop) (ag:∀x,(encs x).size=ps.size) (I:List α->World->Prop)
  (C:∀s b W' row,I s b->b.grownBy W' row->b.drawn<=W'.drawn->(∀r,row=some r->w.heap.size<=r/\∃o:Obj,b.heap[r]?=some o/\o.isCells=false)->I s W') (ae:I [] w)
  (am:∀(l:Nat) (J:List α->World->Prop) (b:World),Below w.heap.size w b->n9 b.heap.size J->(∀pre x c,J pre c->pre.length<N->YieldAt F (n-1-1) P l (encs x) c λe W'=>e=.returned (.bool true)/\J (pre++[x]) W'/\KeepsWalks c W')->J [] b->
   CallsIn F (n-1) P gf (#[.func (.yield l) #[] #[]]++lb) b λe W'=>(∃v,e=.returned v)/\∃m,S m/\J m W')
  (A:List α->α->Act->World->Prop) (ao:∀pre x h b l o t,w.heap.size<=l->A pre x h b->b.heap[l]?=some o->o.isCells=false->A pre x h (b.putObj l t))
  (aq:∀(l:Nat) (pre:List α) (x:α) (b:World) (K:Act->World->Prop),I pre b->(∀h ge,A pre x h ge->Below b.heap.size b ge->K h ge)->
   assign.wpIn (F.inRound l) (n-1-1) P (Exit.then K (λ_ _ _=>False)) {tmps:=(ps.zip (encs x)).foldl (λaS (aR,v)=>aS.setIfInBounds aR v) a.tmps,defers:=[]} b)
  (aD:∀(l:Nat) (pre:List α) (x:α) (h:Act) (b:World),pre.length<N->A pre x h b->body.wpIn (F.inRound l) (n-1-1) P (λe _ W'=>match e with
   |.normal=>(∀p o,w.heap.size<=p->p<w.heap.size+2->b.heap[p]?=some o->o.isCells=false->W'.heap[p]?=some o)/\I (pre++[x]) W'/\KeepsWalks b W'|_=>False) h b)
  (aE:∀(m:List α) (cB:Nat) (b:World),S m->w.heap.size<=cB->I m b->b.heap[cB]?=some (.deferred (some []))->SN .normal {a with defers:={target:=.collected cB,args:=#[]}::a.defers} b) :
  (Code.rangeFunc g ps assign body).wpIn F n P SN a w:=by
 refine wpIn_rangeFunc λfn an=>?_;rw[a1];obtain⟨j,i⟩:∃r:LoopState->Option Code->Loop,r=λst aG=>{state:=st,pending:=aG,fn,tmps:=a.tmps,params:=ps,assign,body,defers:=w.heap.size}:=⟨_,rfl⟩;obtain⟨c,k⟩:∃c,(w.alloc (.deferred (some []))).alloc (.loop (j .ready none))=c:=⟨_,rfl⟩;have aw:c.heap[w.heap.size+1]?=some (.loop (j .ready none)):=by
  rw[<-k];have:=World.alloc_heap_new (w.alloc (.deferred (some []))) (.loop (j .ready none));rwa [World.size_alloc]at this
 have X:c.heap[w.heap.size]?=some (.deferred (some [])):=by
  rw[<-k];exact(Below.heap_alloc _ _ _ (by simp)).trans (World.alloc_heap_new w _)
 have W:Below w.heap.size w c:=by rw[<-k];exact((Below.refl _ w).alloc (Nat.le_refl _) _).alloc (by simp) _
 have O:∀s b o,I s b->I s (b.alloc o):=λs b o D=>C s b _ none D (World.grownBy_alloc b o none) (Nat.le_refl _) (λr e=>by cases e);have aF:∀(b:World) (l:Nat) (o:Obj),b.grownBy (b.putObj l o) (some l):=λb l o=>⟨rfl,rfl,rfl,by rw[World.putObj_size];exact Nat.le_refl _,λp _ d=>World.putObj_heap_other (λe=>d (by rw[e]))⟩;have Q:∀s b l o t,w.heap.size<=l->I s b->b.heap[l]?=some o->o.isCells=false->I s (b.putObj l t):=λs b l o t f D dX G=>C s b _ (some l) D (aF b l t) (Nat.le_refl _) (λr e=>by cases e;exact⟨f,o,dX,G⟩);have ar:I [] c:=by rw[<-k];exact O _ _ _ (O _ _ _ ae)
 have dM:c.heap.size=w.heap.size+2:=by rw[<-k];simp
 refine⟨w.heap.size+1,[{target:=.collected w.heap.size,args:=#[]}],c,{target:=.fn (.func gf) lb,args:=#[.func (.yield (w.heap.size+1)) #[] #[]]},c,gf,
  #[.func (.yield (w.heap.size+1)) #[] #[]]++lb,c,?_,?_,?_,?_,λ_=>aM,?_⟩
 .rw[<-k,i];exact run_enterLoop_outer _ _ _ _ _
 .simp only[resolve,q];simp[go_sem]
 .intro aU R;simp[Target.leads]at R;subst R;exact ak
 .simp[invoke,go_sem,ai]
 .refine(am (w.heap.size+1) (λpre b=>I pre b/\b.heap[w.heap.size+1]?=some (.loop (j .ready none))/\b.heap[w.heap.size]?=some (.deferred (some []))) c W ?_ ?_ ⟨ar,aw,X⟩).mono ?_
  .rintro s b W' row ⟨y,f,d⟩ q ab u;have L:∀r,row=some r->∃o:Obj,b.heap[r]?=some o/\o.isWalk=true:=λr e=>(u r e).2;refine⟨C s b W' row y q ab λr e=>?_,(grownBy_keeps q L f rfl).trans f,(grownBy_keeps q L d rfl).trans d⟩;obtain⟨aT,o,U,T⟩:=u r e;exact⟨by omega,o,U,by cases o<;>simp[Obj.isWalk]at T<;>rfl⟩
  .rintro pre x b ⟨y,f,d⟩ Z;have Y:w.heap.size+1<b.heap.size:=(Array.getElem?_eq_some_iff.1 f).1;have E:=run_yield (P:=P) (args:=encs x) f (by rw[i];exact ag x);rw[i]at E;refine⟨fn,_,assign,body,E,roundIn_of_wpIn an (aq _ pre x b _ y λh ge lH kv=>?_)⟩;have B:=(kv.block _ Y).trans f;have az:=(kv.block _ (Array.getElem?_eq_some_iff.1 d).1).trans d;have aC:w.heap.size+1<ge.heap.size:=(Array.getElem?_eq_some_iff.1 B).1;have aB:KeepsWalks b ge:=⟨kv.size,λp o d G=>(kv.block _ (Array.getElem?_eq_some_iff.1 d).1).trans d⟩;refine⟨_,run_beginRound B (by rw[i]),?_⟩;have aa:(ge.putObj (w.heap.size+1) (.loop {j .ready none with state:=.busy})).heap[w.heap.size+1]?=some (.loop {j .ready none with state:=.busy}):=World.putObj_heap_same aC;have af:(ge.putObj (w.heap.size+1) (.loop {j .ready none with state:=.busy})).heap[w.heap.size]?=some (.deferred (some [])):=(World.putObj_heap_other (by omega)).trans az;have aA:=aB.trans (KeepsWalks.putObj (.loop {j .ready none with state:=.busy}) B rfl);refine wpIn_mono (aD _ pre x h _ Z (ao _ _ _ _ _ _ _ (by omega) lH B rfl)) ?_;rintro e aV aW H;cases e with
   |normal=>
    obtain⟨M,ax,aI⟩:=H;have z:=M _ _ (by omega) (by omega) aa rfl;have u:=run_endRound (P:=P) none z;rw[i]at u;refine⟨_,_,u,rfl,⟨Q _ _ _ _ _ (by omega) ax z rfl,?_,(World.putObj_heap_other (by omega)).trans (M _ _ (Nat.le_refl _) (by omega) af rfl)⟩,(aA.trans aI).trans (KeepsWalks.putObj _ z rfl)⟩;rw[i];exact World.putObj_heap_same (Array.getElem?_eq_some_iff.1 z).1
   |_=>exact H.elim
  .rintro e aX ⟨⟨v,rfl⟩,m,V,y,f,d⟩;exact⟨none,_,by have:=run_endLoop (P:=P) f (by rw[i];simp);rw[i]at this;exact this,aE _ _ _ V (Nat.le_refl _) (Q _ _ _ _ _ (by omega) y f rfl) ((World.putObj_heap_other (by omega)).trans d)⟩
variable {E T:Nat}
theorem Kf(h:gO P T E 1 8)(w:World)(i o:Nat)(v:Value)(xs:c4)(A:w.ownsRow o E 1 v xs.length xs)(e:Addr)(c:Nat)(b:Value)(M:w.cell? e=some b)(K:b.oneCell'=true)(y:(xs.length+1)*8<=140737488355328)(G:o<=w.heap.size):
  ∃k w',(Builtin.append_ #[T,T] i #[v,.slice (some e) 1 c]).run P w=.ok k w'/\w'.ownsRow o E 1 k (xs.length+1) (xs++[b])/\w.grownBy w' v.ownBlock/\w.drawn<=w'.drawn:=by
 obtain⟨p,u,m,q,f,r,J⟩:=h.info
 have n:∀d a,[b][d]?=some a->w.cell? (e.add d)=some a:=λd a g=>by
  cases d with
  |zero=>simp at g;subst g;exact M
  |succ d=>simp at g
 have z:∀a∈[b],a.oneCell'=true:=λa g=>by rw[List.mem_singleton.1 g];exact K
 have C:xs.length+1<=maxLen:=by simp only[maxLen];omega
 obtain⟨k,w',l,F,D,N⟩:=run_append_own (P:=P) w o T i E p u 1 8 h.ee m q f r J (by decide) v xs.length xs A e 1 c [b] rfl n z C y G;refine⟨k,w',l,F,D,?_⟩;rcases A.2 with⟨rfl,O⟩|⟨t,aR,s,rfl,_,x,S,Q,I,R⟩
 .have:=run_append_nil (P:=P) w T i E p u h.ee m q e 1 c [b] (by rw[f];rfl) n (by omega) (by omega) (by rw[r];omega);rw[l]at this
  simp_all
 .by_cases B:xs.length+1<=aR
  .have:=run_append_room (P:=P) w T i E p h.ee m t xs.length aR s x e 1 c [b] (by rw[f];rfl) n z B (by rw[f,Nat.mul_one,I,Nat.mul_one];exact B);rw[l]at this
   simp_all
  .have H:(s.toList.take xs.length).length=xs.length:=by rw[List.length_take];simp;omega
   have L:∀d a,(s.toList.take xs.length)[d]?=some a->w.cell? ((⟨t,0,none⟩:Addr).add d)=some a:=λd a j=>by
    rw[g2];rw[List.getElem?_take]at j;split at j
    .simp only[World.cell?,x,Nat.zero_add];simpa using j
    .cases j
   have:=run_append_grow (P:=P) w T i E p u h.ee m q ⟨t,0,none⟩ xs.length aR _ (by rw[f,Nat.mul_one];exact H) L e 1 c [b] (by rw[f];rfl) n (by omega) (by simp only[maxLen]at C;omega) (growslice_fits (by omega) (by rw[r];exact y));rw[l]at this
   simp_all
def HL{n:Nat}{l:hU}{o:Oper}{k:List Oper}(D:gO P T E 1 8)(p:o.guard=none)(s x:Operand)(j:o.op=Op.call {callee:=Callee.builtin Builtin.append,args:=#[s,x],argTypes:=#[T,T]})
  (f:Nat) (g:Value) (c:c4) (B:a.eval s=g) (C:w.ownsRow f E 1 g c.length c) (h:Addr) (i:Nat) (e:Value) (m:a.eval x=.slice (some h) 1 i) (I:w.cell? h=some e) (H:e.oneCell'=true) (q:(c.length+1)*8<=140737488355328) (z:f<=w.heap.size)
  (t:∀d b,b.ownsRow f E 1 d (c.length+1) (c++[e])->w.grownBy b g.ownBlock->w.drawn<=b.drawn->wpListIn F n P l SN k (a.put o.dst d) b):wpListIn F n P l SN (o::k) a w:=by
 refine wpListIn_plain p λJ G=>?_;obtain⟨d,b,y,v,u,A⟩:=Kf D w o.type f g c C h i e I H q z;unfold Oper.wpIn;refine⟨?_,?_⟩
 .simp[Oper.about,j,resolve,Target.leads,Sem.run_pure]
 .rw[Oper.semAt_plain F _ _ (by rw[j];intro i r;cases r)];simp[execOp,j,resolve,invoke,builtin,B,m,y,Result.andThen];exact G _ _ (t d b v u A)
theorem ny{a W':World}{d e k:Nat}{v:Value}{n:Nat}{xs:c4}{row:fV}(g:a.ownsRow d e k v n xs)(j:a.grownBy W' row)(s:∀r,row=some r->∃o:Obj,a.heap[r]?=some o/\∀c,o≠.cells c e (0,0)):W'.ownsRow d e k v n xs:=by
 refine⟨g.1,?_⟩;rcases g.2 with p|⟨f,aR,l,m,h,b,i⟩
 .exact .inl p
 .refine .inr ⟨f,aR,l,m,h,(j.block f (Array.getElem?_eq_some_iff.1 b).1 λq=>?_).trans b,i⟩
  grind
def Al(x:Int):eN:=#[.int .i64 x]
structure rI(w:World)(pre:List Int)(aH:World):Prop where
 below:Below w.heap.size w aH
 drawn:w.drawn<=aH.drawn
 box:∃v,aH.heap[w.heap.size]?=some (.cells #[v] 22 (0,0))/\aH.ownsRow (w.heap.size+1) 3 1 v (pre.map (Value.int .i64)).length (pre.map (Value.int .i64))
set_option maxHeartbeats 4000000 in
theorem Kg(F:Fence)(n:Nat)(W:F.fn 234)(a1:F.round=none)(aT:3<=n)(g:Nat)(lb:eN)(ax:F.fn g)(aw:∀args w,(callFunc g args).run prog w=.ok (.enter g args) w)(N:Nat)(aS:N*8<=140737488355328)(S:bH->Prop)(w:World)
    (aA:∀(l:Nat) (J:bH->World->Prop) (a:World),Below w.heap.size w a->n9 a.heap.size J->(∀pre x E,J pre E->pre.length<N->YieldAt F (n-1-1) prog l (Al x) E λe W'=>e=.returned (.bool true)/\J (pre++[x]) W'/\KeepsWalks E W')->J [] a->
      CallsIn F (n-1) prog g (#[.func (.yield l) #[] #[]]++lb) a λe W'=>(∃v,e=.returned v)/\∃y,S y/\J y W') :
    CallsIn F n prog 234 #[.slice none 0 0,.func (.func g) #[] lb] w λe W'=>∃v D,e=.returned v/\S D/\W'.ownsRow (w.heap.size+1) 3 1 v D.length (D.map (Value.int .i64))/\Below w.heap.size w W'/\w.drawn<=W'.drawn:=by
  have aF:1<=n:=by omega
  refine callsIn_of_wp_marks func234 rfl W ?_ a1;simp only[Tryz.ntmps234,List.size_toArray,List.length_cons,List.length_nil,Nat.reduceAdd,Nat.reduceSub,Array.replicate_succ,Array.replicate_zero,List.push_toArray,List.append_toArray,List.nil_append,List.cons_append]
  gi_wp2
  have R:(w.alloc (Obj.cells #[Value.slice none 0 0] 22)).heap[w.heap.size]?=some (.cells #[Value.slice none 0 0] 22 (0,0)):=World.alloc_heap_new w _;have K:rI w [] (w.alloc (Obj.cells #[Value.slice none 0 0] 22)):=⟨(Below.refl _ w).alloc (Nat.le_refl _) _,Nat.le_refl _,_,R,rfl,.inl ⟨rfl,rfl⟩⟩;have ak:(w.alloc (Obj.cells #[Value.slice none 0 0] 22)).heap.size=w.heap.size+1:=by simp
  generalize w.alloc (Obj.cells #[Value.slice none 0 0] 22)=ag at K ak ⊢;clear R
  have B:∀(s:bH) (a W':World) (O:fV),rI w s a->a.grownBy W' O->a.drawn<=W'.drawn->(∀f,O=some f->ag.heap.size<=f/\∃b:Obj,a.heap[f]?=some b/\b.isCells=false)->rI w s W':=λs a W' O z A ao M=>by
    obtain⟨v,k,t⟩:=z.box;refine⟨z.below.grown A z.below.size λc e=>by have:=(M c e).1;omega,Nat.le_trans z.drawn ao,v,(A.block _ (Array.getElem?_eq_some_iff.1 k).1 λe=>by have:=(M _ e.symm).1;omega).trans k,ny t A λf e=>?_⟩;obtain⟨_,b,V,P⟩:=M f e;exact⟨b,V,λm Z=>by rw[Z]at P;cases P⟩
  refine Ds a1 aF (gf:=g) (lb:=lb) rfl ax aw (encs:=Al) N S (λ_=>rfl) (rI w) B K (λl J a af aa ai ar=>aA l J a ?below aa ai ar)
    (λpre x C a=>rI w pre a/\C={tmps:=#[.slice none 0 0,.func (.func g) #[] lb,.pointer (some ⟨w.heap.size,0,none⟩),undef,.slice none 0 0,.int .i64 x,.func (.func g) #[] lb,.int .i64 x,undef,undef,undef,undef,undef],defers:=[]}) ?Am ?assign ?body ?done
  case below=>exact K.below.trans (af.mono (by omega))
  case Am=>
    rintro pre x C a l b am aq ⟨aG,rfl⟩ j az;exact⟨B _ _ _ (some l) aG (grownBy_putObj' a l am) (Nat.le_refl _) (λf e=>by cases e;exact⟨aq,b,j,az⟩),rfl⟩
  case assign=>
    rintro l pre x a aI h ab;simp only[Al]
    gi_wp2
    exact ab _ _ ⟨h,rfl⟩ (Below.refl _ a)
  case body=>
    rintro l pre x C a aM ⟨h,rfl⟩;obtain⟨v,k,t⟩:=h.box;have aR:w.heap.size<a.heap.size:=(Array.getElem?_eq_some_iff.1 k).1;have an:a.cell? ⟨w.heap.size,0,none⟩=some v:=by simp[World.cell?,k]
    have r:(a.alloc (.cells #[.int .i64 x] 3)).ownsRow (w.heap.size+1) 3 1 v (pre.map (Value.int .i64)).length (pre.map (Value.int .i64)):=ny t (World.grownBy_alloc a _ none) λf e=>by cases e
    have aC:(a.alloc (.cells #[.int .i64 x] 3)).cell? ⟨a.heap.size,0,none⟩=some (.int .i64 x):=by simp_all
    gi_wp2_with (first
      |(gi_at_builtin;refine HL rB rfl _ _ rfl (w.heap.size+1) v (pre.map (Value.int .i64)) rfl r ⟨a.heap.size,0,none⟩ 1 (.int .i64 x) rfl aC rfl (by rw[List.length_map];omega) (by simp;omega) ?_;intro Y d U L aD
        obtain⟨o,p,rfl⟩:∃o p,Y=.slice (some ⟨o,0,none⟩) ((pre.map (Value.int .i64)).length+1) p:=by
           rcases U.2 with⟨_,aU⟩|⟨o,p,_,i,_⟩
           all_goals grind
        have G:∀(c:Nat) (b:Obj),a.heap[c]?=some b->(∀m,b≠.cells m 3 (0,0))->d.heap[c]?=some b:=λc b q j=>by
           have H:=(Below.heap_alloc a (.cells #[.int .i64 x] 3) c (Array.getElem?_eq_some_iff.1 q).1).trans q;refine(L.block c (Array.getElem?_eq_some_iff.1 H).1 λe=>?_).trans H;rcases r.2 with⟨i,_⟩|⟨o,p,aB,i,_,aE,_⟩
           · rw[i]at e;cases e
           · rw[i]at e;cases e
             grind
        have u:d.heap[w.heap.size]?=some (.cells #[v] 22 (0,0)):=G _ _ k λm e=>by cases e
        have aW:d.cell? ⟨w.heap.size,0,none⟩=some v:=by simp[World.cell?,u]
        have aX:d.frozen? ⟨w.heap.size,0,none⟩=false:=by simp[World.frozen?,u]
        go_frame)
      |gi_in)
    have Q:Below w.heap.size w d:=(h.below.alloc (by omega) (.cells #[.int .i64 x] 3)).grown L (by have:=h.below.size;simp;omega) λc e=>by
      rcases r.2 with⟨i,_⟩|⟨o,p,aB,i,aE,_⟩
      · rw[i]at e;cases e
      · rw[i]at e;cases e;simp only;omega
    have kT:a.heap.size<=d.heap.size:=by have:=L.size;simp at this;omega
    refine⟨λc b H aV q j=>(heap_setCell_other d _ c _ (by simp only;omega)).trans (G c b q λm e=>by rw[e]at j;cases j),⟨Q.grown (grownBy_setCell' d _ _) Q.size λc e=>by cases e;exact Nat.le_refl _,Nat.le_trans h.drawn aD,_,heap_setCell_same d w.heap.size 0 #[v] _ _ u,?_⟩,(show KeepsWalks a d from⟨kT,λc b q j=>G c b q λm e=>by rw[e]at j;cases j⟩).trans (KeepsWalks.setCell d _ _)⟩;have:=ny U (grownBy_setCell' d w.heap.size (.slice (some ⟨o,0,none⟩) ((pre.map (Value.int .i64)).length+1) p)) λf e=>by cases e;exact⟨_,u,λm e=>by cases e⟩
    simpa using this
  case done=>
    rintro y cB a X ae h I;obtain⟨v,k,t⟩:=h.box;have an:a.cell? ⟨w.heap.size,0,none⟩=some v:=by simp[World.cell?,k]
    gi_wp2
    refine⟨by simp,.inl ⟨_,_,rfl,run_takeDeferred I,?_⟩⟩;have T:=B _ _ _ (some cB) h (grownBy_putObj' a cB (.deferred none)) (Nat.le_refl _) λf e=>by cases e;exact⟨ae,_,I,rfl⟩
    have r:=ny t (grownBy_putObj' a cB (.deferred none)) λf e=>by cases e;exact⟨_,I,λm e=>by cases e⟩
    exact⟨_,results_tmp rfl _ _ _,v,y,rfl,X,by simpa using r,T.below,T.drawn⟩
theorem Dt(f:Nat)(u:Int×Int->Int)(aB:∀args w,(callFunc f args).run prog w=.ok (.enter f args) w)
  (ai:∀(l E F b clock:Nat) (es:dK) (m:List (Int×Int)) (I:a2),c3 I (bg .i64 (bW .i64) m) es.toList->fM es clock->∀J:bH->World->Prop,
   (∀pre x g,J pre g->pre.length<m.length->YieldAt Fence.wide 1 prog l #[.int .i64 x] g λe W'=>e=.returned (.bool true)/\J (pre++[x]) W'/\KeepsWalks g W')->∀g:World,n9 g.heap.size J->g.cell? ⟨E,F,none⟩=some (.map (some b))->g.heap[b]?=some (.map es clock)->J [] g->
   CallsIn Fence.wide 2 prog f #[.func (.yield l) #[] #[],.pointer (some ⟨E,F,none⟩)] g λe W'=>(∃v,e=.returned v)/\∃c:bH,c.Perm (m.map u)/\J c W')
  (m:List (Int×Int)) (ab:m.length*8<=140737488355328) (d:Nat):cI prog 234 [] [.bC,hb f m] (λa t=>∃c:bH,c.Perm (m.map u)/\a=.own d/\t=[(d,.slice 3 1 (ag af c) 0 false)]):=by
 intro L w I O a5 j K;simp only[bx,az,hb,aN,bX]at K;obtain⟨aZ,a0,rfl,rfl,aX,a1,rfl,⟨aF,rfl,aG,aU,aI,⟨b,i,rfl,C⟩,rfl⟩,rfl⟩:=K;have:aF=#[.pointer (some ⟨b,i,none⟩)]:=Array.toList_inj.1 (by simpa using aI);subst this;simp only[gy,aN]at C;obtain⟨⟨aG,X,k,es,clock,rfl,am,ae,Z⟩,-⟩:=C;have D:=j.good _ _ _ X;obtain⟨aW,aY,H,aE⟩:=j.eD _ _ am;obtain⟨rfl,rfl⟩:=qD aE;have hJ:k<w.heap.size:=(Array.getElem?_eq_some_iff.1 H).1;refine Calls.mono (callsIn_wide.1 (Kg Fence.wide 3 trivial rfl (Nat.le_refl _) f #[.pointer (some ⟨b,i,none⟩)] trivial aB m.length ab (λc=>c.Perm (m.map u)) w λl J g A V ak aC=>?_)) ?_
 .exact ai l b i k clock es m I ae Z J ak g V ((A.cell (p:=⟨b,i,none⟩) (World.block_lt_of_cell? w _ D)).trans D) ((A.block k hJ).trans H) aC
 .rintro e N ⟨v,c,rfl,T,aq,o,aw⟩;have B:∀q,w.heap.size<=q->∀i,I q i=none:=λq M=>j.fJ M;have s:=j.jE (cw:=[d]) (σ2:=[]) (env:=[]) ⟨λ_ _=>rfl,by simp[W.ids],rfl,rfl,λx n a3 a4 aM=>by simp[W.get]at aM⟩
  have fin:∀h,w.heap.size<=h->fA v=true->(bE v=some h\/b3 v=[])->bb L I (et (eg O [d]) d v) N d (.slice 3 1 (ag af c) 0 false)->
    ∃z,Ending.returned v=Ending.returned z/\∃k t y P,(∃c:bH,c.Perm (m.map u)/\k=U.own d/\t=[(d,b1.slice 3 1 (ag af c) 0 false)])/\az y P k z/\bG ⟨prog,0,W.ids []⟩ L y P t N:=λh r eZ an aa=>by
   refine⟨_,rfl,.own d,_,I,et (eg O [d]) d v,⟨c,T,rfl,rfl⟩,by simp[az,eB,eZ],?_⟩
   refine s.turn (d:=d) (b:=h) ⟨λq M Y=>o.block q Y,o.size,o.tape,o.os,o.output,aw⟩ (.inl (Nat.le_trans j.size r)) (λx n=>by rw[auU,if_neg (Ne.symm n)]) (λx n ao e=>by simp[W.get]at ao) (bM.refl I) (λ_ _ _=>rfl)
    (λi v s=>by rw[B h r]at s;cases s) (B h r none) (λx n=>ff _ _ n) (.inl (by simp[W.ids])) (avi (by simp[eg])) (by rw[eB];exact an) λaV G=>?_
   rw[auU,if_pos rfl]at G;cases G;exact aa
  rcases aq.2 with⟨rfl,aA⟩|⟨h,aR,ax,rfl,r,aD,aS,Q,S,R⟩
  .have:c=[]:=List.eq_nil_of_length_eq_zero aA;subst this;exact fin w.heap.size (Nat.le_refl _) rfl (.inr rfl) (by simp[bb,eB,ag])
  .refine fin h (by omega) rfl (.inl rfl) ?_;simp only[bb,eB];have ar:(ag af c).length=c.length:=by simp[ag]
   rw[ar];refine .inr (.inr ⟨h,aR,ax,rfl,aS,Q,aD,by simpa using S,?_,?_,by omega,?_,?_,.inl (by have:=j.size;omega)⟩)
   .rw[R];exact(oL _ _).2 rfl
   .intro e aT;obtain⟨x,_,rfl⟩:=List.mem_map.1 aT;rfl
   all_goals grind
def Ot(m:List (Int×Int))(i:m.length*8<=140737488355328)(d:Nat):cI prog 234 [] [.bC,hb 194 m] (λa f=>∃b:bH,b.Perm (m.map Prod.fst)/\a=.own d/\f=[(d,.slice 3 1 (ag af b) 0 false)]):=
 Dt 194 Prod.fst (enters_of func194 (by kernel_rfl) rfl) (λu l n q r s m v j h c k o g t e p=>Mo Fence.wide 2 trivial rfl (by decide) u l n q r s m j h c k o g t e p) m i d
def Ou(m:List (Int×Int))(i:m.length*8<=140737488355328)(d:Nat):cI prog 234 [] [.bC,hb 193 m] (λa f=>∃b:bH,b.Perm (m.map Prod.snd)/\a=.own d/\f=[(d,.slice 3 1 (ag af b) 0 false)]):=
 Dt 193 Prod.snd (enters_of func193 (by kernel_rfl) rfl) (λu l n q r s m v j h c k o g t e p=>Mp Fence.wide 2 trivial rfl (by decide) u l n q r s m j h c k o g t e p) m i d
def gL.same{σ:W}:∀l:List U,gL σ l l
 |[]=>.nil
 |x::r=>.cons (.refl x) (gL.same r)
def avB{P:Program}{N:Nat}{ids:cg}{env:ah}{σ cb:W}{o:Oper}{c:Call}{f:FuncId}{b:List U}{a:U->W->Prop}(news:cg)(g:o.op=.call c)(q:mF env c=some (f,b))(n:σ.at cb.ids=some cb)
  (j:news.all (λd=>!ids.contains d&&(σ.get d).isNone)=true) (k:(σ.minus cb.ids).clean news.contains=true) (m:∀r σ2,a r σ2->r.refs (λd=>!(cb.ids++news).contains d)=false/\σ2.clean (λd=>!(cb.ids++news).contains d)=true) (l:cI P f cb b a) (p:bB P f) :
  eL ⟨P,N,ids⟩ o env.ev σ (cb.ids++news) news (λr h=>∃σ2,a r σ2/\h=σ2++σ.minus cb.ids):=by
 obtain⟨s,args,t,aR,u,rfl,e,i,rfl⟩:=qK q;exact avP (G:=⟨P,N,ids⟩) (σ:=σ) news g e p.h l i (gL.same _) (avg n).1 j k m
variable {f:Nat}{m:List (Int×Int)}
def IG{S:bH->Prop}(e:cI prog 234 [] [.bC,hb f m] (λa c=>∃b:bH,S b/\a=.own 910000000/\c=[(910000000,.slice 3 1 (ag af b) 0 false)])):
  cI prog 192 [] [hb f m] (λa c=>∃b:bH,S b/\a=.own 910000000/\c=[(910000000,.slice 3 1 (ag af b) 0 false)]):=by
 refine bT func192 rfl rfl ?_;refine auT aY [] [] [(0,hb f m)] [] (by kernel_rfl) ?_;refine A.seq ?_;refine avo aY 1 [2] [] [(3,hb f m),(0,hb f m)] [] (by kernel_rfl) (by kernel_rfl) (by kernel_rfl) rfl rfl (avB (cb:=[]) [910000000] rfl rfl rfl rfl rfl ?_ e OI) rfl rfl ?_
 .rintro h σ2 ⟨b,d,rfl,rfl⟩;simp[U.refs,W.clean,ho]
 rintro g c ⟨σ2,⟨b,d,rfl,rfl⟩,rfl⟩;refine⟨[],_,_,rfl,?_⟩;show ar _ _ _ _ _;refine A.ret ?_;refine h4.mono (auW aY [] (R:=.own 910000000) (σ2:=[(910000000,.slice 3 1 (ag af b) 0 false)]) rfl (by kernel_rfl)) ?_;rintro a i ⟨rfl,rfl⟩;exact⟨b,d,rfl,rfl⟩
theorem CF{c:Int×Int->Int}{d:Nat}(l:m.length<=100000)(j:cI prog 234 [] [.bC,hb f m] (λa e=>∃b:bH,b.Perm (m.map c)/\a=.own 910000000/\e=[(910000000,.slice 3 1 (ag af b) 0 false)])):
  cI prog 167 [] [hb f m] (λa e=>a=.own d/\e=[(d,.slice 3 1 (ag af (dh (m.map c))) 0 false)]):=by
 refine hA.at [(910000000,d)] (eS:=[]) (args:=[hb f m]) (r:=.own 910000000) (σ2:=[(910000000,.slice 3 1 (ag af (dh (m.map c))) 0 false)]) ?_;refine bT func167 rfl rfl ?_;refine auT aY [] [] [(0,hb f m)] [] (by kernel_rfl) ?_;refine A.seq ?_;refine avo aY 1 [2] [] [(4,hb f m),(0,hb f m)] [] (by kernel_rfl) (by kernel_rfl) (by kernel_rfl) rfl rfl (avB (cb:=[]) [910000000] rfl rfl rfl rfl rfl ?_ (IG j) Pc) rfl rfl ?_
 .rintro r σ2 ⟨b,g,rfl,rfl⟩;simp[U.refs,W.clean,ho]
 rintro k e ⟨σ2,⟨b,g,rfl,rfl⟩,rfl⟩;refine⟨[],_,_,rfl,?_⟩;show ar _ _ _ _ _;have i:b.length<4611686018427387904:=by
  have:=g.length_eq
  grind
 have h:dh b=dh (m.map c):=Bn ((mb b).trans (g.trans (mb _).symm)) (oF _) (oF _);refine auT aY [] [(1,cS [] (DH (d:=910000000) (T:=3) b i) FY)] [(3,.own 910000000)] [(910000000,.slice 3 1 (ag af (dh b)) 0 false)] (by kernel_rfl) ?_;rw[h];refine auT aY [] [] [(2,.own 910000000)] [(910000000,.slice 3 1 (ag af (dh (m.map c))) 0 false)] (by kernel_rfl) ?_;refine A.ret ?_;exact auW aY [] (R:=.own 910000000) rfl (by kernel_rfl)
def IQ{d:Nat}(m:List (Int×Int))(c:m.length<=100000):cI prog 167 [] [hb 194 m] (λa b=>a=.own d/\b=[(d,.slice 3 1 (ag af (dh (m.map Prod.fst))) 0 false)]):=CF c (Ot m (by omega) 910000000)
def IS{d:Nat}(m:List (Int×Int))(c:m.length<=100000):cI prog 167 [] [hb 193 m] (λa b=>a=.own d/\b=[(d,.slice 3 1 (ag af (dh (m.map Prod.snd))) 0 false)]):=CF c (Ou m (by omega) 910000000)
end
section
set_option linter.all false
open Go Go.Proofs.Tryz Go.Sort Go.RowKit
def KZ:∀{l:bH},l≠[]->dZ l≠[]
 |[],h=>absurd rfl h
 |x::r,_=>by
  unfold dZ;split
  .simp
  .split<;>simp
theorem CG(x:Int):∀l:bH,dZ (l++[x])=if l.getLast?=some x then dZ l else dZ l++[x]
 |[]=>rfl
 |a::r=>by
  have d:=CG x r;rw[List.cons_append];unfold dZ;rw[d];cases r with
  |nil=>
   by_cases b:a=x
   .subst b;simp[dZ]
   .simp[dZ,b]
  |cons c s=>
   rw[List.getLast?_cons_cons];have e:=KZ (l:=c::s) (by simp);by_cases b:(c::s).getLast?=some x
   .grind
   .grind
theorem IT(a:bH):Lib.compact a=dZ a:=by
 have l:∀b,b<=a.length->Lib.compactUpTo a.toArray b=dZ (a.take b):=by
  intro b;induction b with
  |zero=>intro _;rfl
  |succ b e=>
   intro j;have d:b<a.length:=j;have c:a.toArray[b]! = a[b]:=by simp[d]
   rw[Lib.compactUpTo_succ,e (by omega),List.take_add_one,List.getElem?_eq_getElem d,Option.toList_some,CG,c];cases b with
   |zero=>simp[Lib.keeps]
   |succ k=>
    have i:k<a.length:=by omega
    have g:(a.take (k+1)).getLast?=some a[k]:=by grind
    have f:a.toArray[k]! = a[k]:=by simp[i]
    rw[g];unfold Lib.keeps;rw[c,show k+1-1=k by omega,f];by_cases h:a[k]=a[k+1]
    .simp[h]
    .grind
 have:=l a.length (Nat.le_refl _);rw[List.take_length]at this;exact this
def awc:Shelf.Ren:={f:=λa=>match a with|20=>166|n=>n,t:=λa=>match a with|22=>22|n=>n,g:=λn=>n}
def avI:Lays2.n20 prog awc:=
 {mixed:=by kernel_rfl,f20:=Eq.trans func166 (congrArg some (by kernel_rfl)),t0:=underlying0,a0:=isAgg0,z0:=sizeOf0,v0:=zeroValue0,t3:=underlying3,a3:=isAgg3,z3:=sizeOf3,v3:=zeroValue3,t4:=underlying4,a4:=isAgg4,z4:=sizeOf4,v4:=zeroValue4,t22:=underlying22,a22:=isAgg22,z22:=sizeOf22,v22:=zeroValue22,i3:=by kernel_rfl}
def Ij(bE off aR:Nat)(a:bH)(w:World)(c:Holds (Value.int .i64) w bE off a.toArray)(b:a.length<=9223372036854775807)(d:a.length<=aR):
  Calls prog 166 #[.slice (some ⟨bE,off,none⟩) a.length aR] w λe w'=>e=.returned (.slice (some ⟨bE,off,none⟩) (dZ a).length aR)/\∃q,w'=putRow (Value.int .i64) (Sort.ahead w q) bE off (dZ a++List.replicate (a.length-(dZ a).length) 0).toArray:=by
 have:=Any.slices_Compact_int avI bE off aR a w c b d;rw[IT]at this;exact this
def II(w:World):Calls prog 166 #[.slice none 0 0] w λe w'=>e=.returned (.slice none 0 0)/\w'=w:=Any.slices_Compact_int_empty avI none 0 w
theorem IU{d d2:Nat}(w:d2≠d)(l:bH)(t:l.length<=100000):cI prog 166 [(d,.slice 3 1 (ag af l) 0 false)] [.own d] (λa N=>a=.own d2/\N=[(d2,.slice 3 1 (ag af (dZ l)) 0 false)]):=by
 intro aa s n z aC j i;simp only[bx]at i;obtain⟨aA,ak,rfl,i,rfl⟩:=i;have T:W.get [(d,b1.slice 3 1 (ag af l) 0 false)] d=some (.slice 3 1 (ag af l) 0 false):=by rw[auU,if_pos rfl]
 have B:=j.b5 d _ T;simp only[az]at i;obtain⟨rfl,i⟩:=i;have H:∀l:bH,(ag af l).length=l.length:=λl=>by simp[ag]
 have ar:(dZ l).length<=l.length:=by
  have:∀l:bH,(dZ l).length<=l.length:=by
   intro l;induction l with
   |nil=>exact Nat.le_refl _
   |cons f r am=>
    unfold dZ;split
    .simp
    .grind
  exact this l
 have U:bG ⟨prog,0,W.ids [(d,b1.slice 3 1 (ag af l) 0 false)]⟩ aa n z [] s:=j.sub λf A c=>by simp[W.get]at c
 have h:=U.jE (cw:=[d2]) (σ2:=[]) (env:=[]) ⟨λ_ _=>rfl,by simp[W.ids];exact w,rfl,rfl,λf c aB K t=>by simp[W.get]at t⟩;simp only[bb,H]at B;rcases B with y|⟨y,v,_⟩|⟨b,aR,q,O,v,M,o,E,C,ao,aq,an,F,G⟩
 .rw[y]at i;simp[fA]at i
 .have V:l=[]:=by simpa [ag]using v
  subst V;rw[y];refine Calls.mono (II s) ?_;rintro m L ⟨rfl,rfl⟩;refine⟨_,rfl,.own d2,_,n,et (eg z [d2]) d2 (.slice none 0 0),⟨rfl,rfl⟩,by simp[az,eB,fA],?_⟩
  refine h.turn (d:=d2) (b:=L.heap.size) ⟨λae J D=>rfl,Nat.le_refl _,rfl,rfl,rfl,Nat.le_refl _⟩ (.inl j.size) (λf c=>by rw[auU,if_neg (Ne.symm c)]) (λf c x m=>by simp[W.get]at x) (bM.refl n) (λ_ _ _=>rfl)
   (λu ai h=>by rw[j.fJ (Nat.le_refl _)]at h;cases h) (j.fJ (Nat.le_refl _) none) (λf c=>ff _ _ c) (.inl (by simp[W.ids];exact w)) (avi (by simp[eg])) (.inr (by rw[eB];rfl)) λA p=>?_
  rw[auU,if_pos rfl]at p;cases p;simp[bb,eB,dZ,ag]
 .simp only[Nat.mul_one]at E C;have S:q.toList.take l.length=l.map (Value.int .i64):=(oL l _).1 C
  have aw:∀e,e<l.length->q[e]?=some (Value.int .i64 (l[e]?.getD default)):=λe g=>by
   have:=congrArg (·[e]?) S;simp only[List.getElem?_take,if_pos g,Array.getElem?_toList,List.getElem?_map]at this;rw[this,List.getElem?_eq_getElem g];rfl
  have R:Holds (Value.int .i64) s b 0 l.toArray:=λe g=>by
   have g:e<l.length:=by simpa using g
   constructor
   .simp only[World.cell?,o,Nat.zero_add]
    grind
   .simp[World.frozen?,o]
  have D:=fo o;rw[O];refine Calls.mono (Ij b 0 aR l s R (by omega) v) ?_;rintro m L ⟨rfl,K,rfl⟩;generalize I:dZ l++List.replicate (l.length-(dZ l).length) 0=k;have ax:k.length=l.length:=by rw[<-I,List.length_append,List.length_replicate];omega
  have X:(putRow (Value.int .i64) (Go.Sort.ahead s K) b 0 k.toArray).heap[b]?=some (.cells (putCells (Value.int .i64) 0 k.toArray q) 3 (0,0)):=by
   simp only[putRow,mapBlock,Go.Sort.ahead];rw[Array.getElem?_modify,if_pos rfl,o];rfl
  have Y:(putCells (Value.int .i64) 0 k.toArray q).toList.take (dZ l).length=(dZ l).map (Value.int .i64):=by
   apply List.ext_getElem?;intro e;rw[List.getElem?_take,List.getElem?_map];split
   .rename_i g;have P:e<q.size:=by omega
    have Q:e<k.length:=by omega
    have Z:k[e]?=(dZ l)[e]?:=by rw[<-I,List.getElem?_append_left g]
    rw[Array.getElem?_toList];simp only[putCells,Array.getElem?_mapIdx];rw[Array.getElem?_eq_getElem P,<-Z];simp[Q]
   .rename_i g;rw[List.getElem?_eq_none (by omega)];rfl
  refine⟨_,rfl,.own d2,_,n,et (eg z [d2]) d2 (.slice (some ⟨b,0,none⟩) (dZ l).length aR),⟨rfl,rfl⟩,by simp[az,eB,fA],?_⟩
  refine h.turn (d:=d2) (b:=b) ⟨λae J D=>?_,by simp[putRow,mapBlock,Go.Sort.ahead],rfl,rfl,rfl,by simp[putRow,mapBlock,Go.Sort.ahead]⟩ G (λf c=>by rw[auU,if_neg (Ne.symm c)]) (λf c x m=>by simp[W.get]at x) (bM.refl n) (λ_ _ _=>rfl)
   (λu ai h=>by rw[F u (by omega)]at h;cases h) (j.kW o) (λf c=>ff _ _ c) (.inl (by simp[W.ids];exact w)) (avi (by simp[eg])) (.inl (by rw[eB];rfl)) λA p=>?_
  .simp only[putRow,mapBlock,Go.Sort.ahead];rw[Array.getElem?_modify,if_neg (λm=>J m.symm)]
  .rw[auU,if_pos rfl]at p;cases p;simp only[bb,eB,H];refine .inr (.inr ⟨b,aR,_,rfl,by omega,M,X,by simpa [putCells]using E,?_,?_,by omega,?_,?_,G⟩)
   .rw[Nat.mul_one,Y];exact(oL _ _).2 rfl
   .intro m ab;obtain⟨f,_,rfl⟩:=List.mem_map.1 ab;rfl
   .intro t;cases t
   .intro u _;exact F u (by omega)
end
section
open Go Go.Proofs.Tryz
set_option maxRecDepth 100000
set_option linter.all false
variable {r:(bH)}
def Rl{b:bH}(f:ag af b≠[])(c:pY b=some r):cI prog 103 [] [aD af b] (λa e=>a=.own 47/\e=[(47,.slice 3 1 (ag af r) 0 false)]):=by
 refine bT func103 rfl rfl ?_;unfold pY at c;refine aG [] [(0,aD af b)] []<|A.seq<|ak [(1,.tc false (aD af b) (Kx f))] [] [(4,.bool false)]<|au1 rfl rfl<|A.skip ?_
 obtain⟨d,g,c⟩:=aB c;refine aG [(0,.al 103005),(2,e9 149 (ap af (bytes:=8) (by decide) g))] [(2,.own 149)] [(149,.slice 3 1 (ag af d) 0 false)]<|A.ret ?_
 obtain rfl:=e0 c;exact auW aY [.eC 149 47] rfl (by kernel_rfl)
def Rm(b:GW=some r):cI prog 103 [] [.gq] (λa d=>a=.own 47/\d=[(47,.slice 3 1 (ag af r) 0 false)]):=by
 refine bT func103 rfl rfl ?_;unfold GW at b;refine aG [] [(0,.gq)] []<|A.seq<|ak [(1,.tc false .gq (Ky))] [] [(4,.bool false)]<|au1 rfl rfl<|A.skip ?_
 obtain⟨c,e,b⟩:=aB b;refine aG [(0,.al 103005),(2,e9 149 (ap af (bytes:=8) (by decide) e))] [(2,.own 149)] [(149,.slice 3 1 (ag af c) 0 false)]<|A.ret ?_
 obtain rfl:=e0 b;exact auW aY [.eC 149 47] rfl (by kernel_rfl)
def Rv(n c:Nat)(w:World):Calls prog 103 #[.slice none n c] w λe w'=>e=.returned (.slice none 0 0)/\w'=w:=by
 have f:∀(w:World) (a:Option Addr) (n c b d:Nat),(binOp .eql 22 (.slice a n c) (.slice none b d)).run prog w=.ok (.bool a.isNone) w:=λw a n c b d=>Lib.run_eql_slice_nil w _ _ a n c b d underlying22
 go_enter func103,Tryz.ntmps103
 go_wp2
 go_ret
 exact⟨rfl,rfl⟩
def Ry{s r:bH}(d:AZ s=some r):cI prog 103 [] [.aL false (ag af s)] (λa e=>a=.own 47/\e=[(47,.slice 3 1 (ag af r) 0 false)]):=by
 obtain rfl:s=r:=by
  unfold AZ pY at d;obtain⟨g,c,d⟩:=aB d;have:=(LJ c).symm;simp at this;subst this
  exact e0 d
 refine Jh Rv (λc=>Rl c d) (λc=>?_) (λc=>c);have f:s=[]:=by cases s with|nil=>rfl|cons a b=>simp[ag]at c
 subst f;exact Rm d
variable {U8:Int->Int->fe}{Ve:bH}{a b:Int}{dI:Nat}{dY:List U}
def GR(eU:bB prog dI)(eV:∀(t:Int) (v:Int) (q:Int),U8 t v=some q->bY prog dI [] ([u t,u v]++dY) (u q))(c:oi Ve a b U8=some r):cI prog 190 [(66,.slice 3 1 (ag af Ve) 0 false)] [.own 66,u a,u b,.cW dI dY] (λa y=>a=.bO []/\y=[(66,.slice 3 1 (ag af r) 0 false)]):=by
 refine bT func190 rfl rfl ?_;unfold oi at c;refine aG [] [(0,.own 66),(1,u a),(2,u b),(3,.cW dI dY),(8,u (an (a+1)))] [(66,.slice 3 1 (ag af Ve) 0 false)]<|A.block ?_
 obtain⟨D,R,E,c⟩:=fQ c;refine au6 (F:=D) c (λ(d,j)=>[(0,.own 66),(1,u a),(2,u b),(3,.cW dI dY),(8,u d)]) (λ(d,j)=>[(66,.slice 3 1 (ag af j) 0 false)]) ?_ ?_
 .exact cq
 rintro M ⟨d,j⟩ c;rw[E]at c;refine A.seq<|ak [] [] [(14,.d (d<b))] ?_
 rcases aV c with⟨k,c⟩|⟨k,c⟩
 .refine aT k<|A.skip<|A.seq<|A.block<|ak [] [14] [(9,u d)]<|A.block ?_
  obtain⟨K,S,L,c⟩:=fQ c;refine au6 (F:=K) c (λ(e,f)=>[(0,.own 66),(1,u a),(2,u b),(3,.cW dI dY),(8,u d),(9,u e)]) (λ(e,f)=>[(66,.slice 3 1 (ag af f) 0 false)]) ?_ ?_
  .exact cq
  rintro O ⟨e,f⟩ c;rw[L]at c;refine A.seq ?_;obtain⟨z,C,c⟩:=dx c;refine A.J (J:=z) (r:=r) (λm=>[(0,.own 66),(1,u a),(2,u b),(3,.cW dI dY),(8,u d),(9,u e),(34,.bool m)]) (λm=>[(66,.slice 3 1 (ag af f) 0 false)]) ?_ ?_
  .rcases aV c with⟨i,c⟩|⟨i,c⟩
   .obtain⟨P,w,c⟩:=aB c;obtain⟨Q,n,c⟩:=aB c;obtain⟨p,x,c⟩:=aB c;exact bn [(3,ai (be i)),(7,bh (ix af w)),(8,dX 66 0 (ix af w)),(12,bh (ix af n)),(13,dX 66 0 (ix af n)),(14,hI (eV _ _ _ x) eU)] [] [(34,.d (p<0))]<|aX (decide (p<0)) c
   exact bn [(3,ai (be i))] [] [(34,.bool false)]<|aX false c
  rintro m c;rw[C]at c;rcases aV c with⟨h,c⟩|⟨h,c⟩
  .refine aT h<|A.skip<|A.seq<|A.block ?_
   obtain⟨G,o,c⟩:=aB c;obtain⟨I,g,c⟩:=aB c;obtain⟨N,B,c⟩:=aB c;obtain⟨T,l,c⟩:=aB c;obtain⟨s,H,c⟩:=aB c;exact c6 [(8,bh (ix af o)),(9,dX 66 0 (ix af o)),(12,bh (ix af g)),(13,dX 66 0 (ix af g)),(14,bh (ix af g)),(15,hq 66 (st af (off:=0) (ca:=[u G]) g B rfl) (hY g).1.1),(16,bh (ix af l)),(17,hq 66 (st af (off:=0) (ca:=[u I]) l H rfl) (hY l).1.1)] [34] [] [66] [(66,.slice 3 1 (ag af s) 0 false)]<|bn [] [9] [(9,u (an (e-1)))]<|aX (an (e-1),s) c
  exact aS h<|A.exit<|bn [] [8,9,34] [(8,u (an (d+1)))]<|aX (an (d+1),f) c
 refine aS k<|A.exit ?_
 obtain rfl:=e0 c;exact auW aY [] rfl (by kernel_rfl)
def AT{n:Int}(eU:bB prog dI)(eV:∀(j:Int) (k:Int) (q:Int),U8 j k=some q->bY prog dI [] ([u j,u k]++dY) (u q))(c:oj Ve a b n U8=some r):cI prog 257 [(89,.slice 3 1 (ag af Ve) 0 false)] [.own 89,u a,u b,u n,.cW dI dY] (λa p=>a=.bO []/\p=[(89,.slice 3 1 (ag af r) 0 false)]):=by
 refine bT func257 rfl rfl ?_;unfold oj at c;refine aG [] [(0,.own 89),(1,u a),(2,u b),(3,u n),(10,u 0)] [(89,.slice 3 1 (ag af Ve) 0 false)]<|A.block ?_
 obtain⟨C,c⟩:=gC c;obtain⟨v,w,s,t,c⟩:=kV c;refine avj (hi:=n) (B:=v) (K:=w) c rfl (λd=>λf=>[(0,.own 89),(1,u a),(2,u b),(3,u n),(10,u d)]) (λd=>λf=>[(89,.slice 3 1 (ag af f) 0 false)]) ?_ ?_ ?_
 .exact cq
 .rintro d D f x h c;rw[s]at c;refine A.seq<|ak [] [] [(13,.d ((d:Int)<n))] ?_
  refine au3 rfl (decide_eq_true h)<|A.skip<|A.seq<|A.block ?_
  obtain⟨y,l,c⟩:=aB c;obtain⟨z,e,c⟩:=aB c;obtain⟨E,o,c⟩:=aB c;obtain⟨F,g,c⟩:=aB c;obtain⟨i,m,c⟩:=aB c;exact c6 [(12,bh (ix af l)),(13,dX 89 0 (ix af l)),(18,bh (ix af e)),(19,dX 89 0 (ix af e)),(20,bh (ix af e)),(21,hq 89 (st af (off:=0) (ca:=[u y]) e o rfl) (hY e).1.1),(22,bh (ix af g)),(23,hq 89 (st af (off:=0) (ca:=[u z]) g m rfl) (hY g).1.1)] [13] [] [89] [(89,.slice 3 1 (ag af i) 0 false)]<|bn [(1,ai (lg (by omega) h (of_decide_eq_true C)))] [10] [(10,u (d+1:Int))]<|aX i c
 rintro d f x ch c;rw[t]at c;refine A.seq<|ak [] [] [(13,.d ((d:Int)<n))] ?_
 refine au1 rfl (lG ch)<|A.exit ?_
 obtain rfl:=e0 c;exact auW aY [] rfl (by kernel_rfl)
def Ri{m:Int}(eU:bB prog dI)(eV:∀(k:Int) (l:Int) (q:Int),U8 k l=some q->bY prog dI [] ([u k,u l]++dY) (u q))(c:r0 Ve a m b U8=some r):cI prog 233 [(78,.slice 3 1 (ag af Ve) 0 false)] [.own 78,u a,u m,u b,.cW dI dY] (λa s=>a=.bO []/\s=[(78,.slice 3 1 (ag af r) 0 false)]):=by
 refine bT func233 rfl rfl ?_;unfold r0 at c;refine aG [] [(0,.own 78),(2,u m),(3,u b),(4,.cW dI dY),(10,u (an (m-a)))] [(78,.slice 3 1 (ag af Ve) 0 false)]<|ak [] [3] [(11,u (an (b-m)))]<|A.seq<|A.block ?_
 obtain⟨t,y,v,c⟩:=fQ c;refine au6 (F:=t) c (λ(d,e,g)=>[(0,.own 78),(2,u m),(4,.cW dI dY),(10,u d),(11,u e)]) (λ(d,e,g)=>[(78,.slice 3 1 (ag af g) 0 false)]) ?_ ?_
 .exact cq
 rintro x ⟨d,e,g⟩ c;rw[v]at c;refine A.seq<|ak [] [] [(20,.bool (!decide (d=e)))] ?_
 rcases aV c with⟨h,c⟩|⟨h,c⟩
 .refine aT h<|A.skip<|A.block<|ak [] [20] [(23,.d (e<d))] ?_
  rcases aV c with⟨f,c⟩|⟨f,c⟩
  .refine aT f ?_;obtain⟨j,w,c⟩:=aB c;exact bD [(7,cS [] (hA.at [(89,78)] (AT (eU:=eU) (eV:=eV) w)) zZ)] [23] [] [78] [(78,.slice 3 1 (ag af j) 0 false)]<|bn [] [10] [(10,u (an (d-e)))]<|aX (an (d-e),e,j) c
  refine aS f ?_;obtain⟨i,n,c⟩:=aB c;exact bD [(11,cS [] (hA.at [(89,78)] (AT (eU:=eU) (eV:=eV) n)) zZ)] [23] [] [78] [(78,.slice 3 1 (ag af i) 0 false)]<|bn [] [11] [(11,u (an (e-d)))]<|aX (d,an (e-d),i) c
 refine aS h<|A.exit ?_
 obtain⟨o,p,c⟩:=aB c;refine qA [(7,cS [] (hA.at [(89,78)] (AT (eU:=eU) (eV:=eV) p)) zZ)] [] [(78,.slice 3 1 (ag af o) 0 false)] ?_;obtain rfl:=e0 c;exact auW aY [] rfl (by kernel_rfl)
def GS:∀(x:Nat) {Ve:bH} {a:Int} {m:Int} {b:Int} {U8:Int->Int->fe} {dI:Nat} {dY:List U} (eU:bB prog dI) (eV:∀(ao:Int) (ar:Int) (q:Int),U8 ao ar=some q->bY prog dI [] ([u ao,u ar]++dY) (u q)) {r:(bH)} (c:lq x Ve a m b U8=some r),cI prog 191 [(12,.slice 3 1 (ag af Ve) 0 false)] [.own 12,u a,u m,u b,.cW dI dY] (λa aI=>a=.bO []/\aI=[(12,.slice 3 1 (ag af r) 0 false)]):=by
 intro x;induction x with
 |zero=>intros;rename_i c;cases c
 |succ x Y=>
 intro Ve a m b U8 dI dY eU eV r c;refine bT func191 rfl rfl ?_;rw[lq]at c;refine A.seq<|aG [] [(0,.own 12),(1,u a),(2,u m),(3,u b),(4,.cW dI dY),(28,.d (an (m-a)=(1:Int)))] [(12,.slice 3 1 (ag af Ve) 0 false)] ?_
 rcases aV c with⟨D,c⟩|⟨D,c⟩
 .refine aT D<|ak [] [2,28] [(10,u m)]<|ak [] [3] [(11,u b)]<|A.seq<|A.block ?_
  obtain⟨a3,cb,a4,c⟩:=fQ c;refine au6 (F:=a3) c (λ(e,g)=>[(0,.own 12),(1,u a),(4,.cW dI dY),(10,u e),(11,u g)]) (λ(e,g)=>[(12,.slice 3 1 (ag af Ve) 0 false)]) ?_ ?_
  .exact cq
  rintro bJ ⟨e,g⟩ c;rw[a4]at c;refine A.seq<|ak [] [] [(33,.d (e<g))] ?_
  rcases aV c with⟨B,c⟩|⟨B,c⟩
  .refine aT B<|A.skip<|A.block<|ak [(4,.sh (1:Int) (by decide))] [33] [(12,u (an (Int.fdiv (IntKind.wrap .u64 (an (e+g))) (2 ^ min (1:Int).toNat 64))))] ?_
   obtain⟨bV,aA,c⟩:=aB c;obtain⟨bW,W,c⟩:=aB c;obtain⟨aF,aE,c⟩:=aB c;refine ak [(3,bh (ix af aA)),(4,dX 12 0 (ix af aA)),(7,bh (ix af W)),(8,dX 12 0 (ix af W)),(9,hI (eV _ _ _ aE) eU)] [] [(50,.d (aF<0))] ?_;rcases aV c with⟨y,c⟩|⟨y,c⟩
   .exact aT y<|bn [] [10,12,50] [(10,u (an ((an (Int.fdiv (IntKind.wrap .u64 (an (e+g))) (2 ^ min (1:Int).toNat 64)))+(1:Int))))]<|aX (an ((an (Int.fdiv (IntKind.wrap .u64 (an (e+g))) (2 ^ min (1:Int).toNat 64)))+(1:Int)),g) c
   exact aS y<|bn [] [11,12,50] [(11,u (an (Int.fdiv (IntKind.wrap .u64 (an (e+g))) (2 ^ min (1:Int).toNat 64))))]<|aX (e,an (Int.fdiv (IntKind.wrap .u64 (an (e+g))) (2 ^ min (1:Int).toNat 64))) c
  refine aS B<|A.exit<|A.seq<|ak [] [1,4,11,33] [(13,u a)]<|A.block ?_
  obtain⟨bs,cd,bu,c⟩:=fQ c;refine au6 (F:=bs) c (λ(k,C)=>[(0,.own 12),(10,u e),(13,u k)]) (λ(k,C)=>[(12,.slice 3 1 (ag af C) 0 false)]) ?_ ?_
  .exact cq
  rintro bP ⟨k,C⟩ c;rw[bu]at c;refine A.seq<|ak [] [] [(58,.d (k<an (e-1)))] ?_
  rcases aV c with⟨H,c⟩|⟨H,c⟩
  .refine aT H<|A.skip<|A.seq<|A.block ?_
   obtain⟨a5,X,c⟩:=aB c;obtain⟨a7,n,c⟩:=aB c;obtain⟨bL,aW,c⟩:=aB c;obtain⟨ce,G,c⟩:=aB c;obtain⟨Z,a6,c⟩:=aB c;exact c6 [(8,bh (ix af X)),(9,dX 12 0 (ix af X)),(12,bh (ix af n)),(13,dX 12 0 (ix af n)),(14,bh (ix af n)),(15,hq 12 (st af (off:=0) (ca:=[u a5]) n aW rfl) (hY n).1.1),(16,bh (ix af G)),(17,hq 12 (st af (off:=0) (ca:=[u a7]) G a6 rfl) (hY G).1.1)] [58] [] [12] [(12,.slice 3 1 (ag af Z) 0 false)]<|bn [] [13] [(13,u (an (k+1)))]<|aX (an (k+1),Z) c
  refine aS H<|A.exit ?_
  cases c;exact A.ret bk
 refine aS D<|A.skip<|A.seq<|ak [] [28] [(80,.d (an (b-m)=(1:Int)))] ?_
 rcases aV c with⟨E,c⟩|⟨E,c⟩
 .refine aT E<|ak [] [1,3,80] [(14,u a)]<|ak [] [] [(15,u m)]<|A.seq<|A.block ?_
  obtain⟨bE,cC,bF,c⟩:=fQ c;refine au6 (F:=bE) c (λ(f,h)=>[(0,.own 12),(2,u m),(4,.cW dI dY),(14,u f),(15,u h)]) (λ(f,h)=>[(12,.slice 3 1 (ag af Ve) 0 false)]) ?_ ?_
  .exact cq
  rintro b1 ⟨f,h⟩ c;rw[bF]at c;refine A.seq<|ak [] [] [(85,.d (f<h))] ?_
  rcases aV c with⟨I,c⟩|⟨I,c⟩
  .refine aT I<|A.skip<|A.block<|ak [(4,.sh (1:Int) (by decide))] [85] [(16,u (an (Int.fdiv (IntKind.wrap .u64 (an (f+h))) (2 ^ min (1:Int).toNat 64))))] ?_
   obtain⟨cj,am,c⟩:=aB c;obtain⟨cf,aq,c⟩:=aB c;obtain⟨aC,a9,c⟩:=aB c;refine ak [(3,bh (ix af am)),(4,dX 12 0 (ix af am)),(7,bh (ix af aq)),(8,dX 12 0 (ix af aq)),(9,hI (eV _ _ _ a9) eU)] [] [(103,.bool (!(decide (aC<0))))] ?_;rcases aV c with⟨L,c⟩|⟨L,c⟩
   .exact aT L<|bn [] [14,16,103] [(14,u (an ((an (Int.fdiv (IntKind.wrap .u64 (an (f+h))) (2 ^ min (1:Int).toNat 64)))+(1:Int))))]<|aX (an ((an (Int.fdiv (IntKind.wrap .u64 (an (f+h))) (2 ^ min (1:Int).toNat 64)))+(1:Int)),h) c
   exact aS L<|bn [] [15,16,103] [(15,u (an (Int.fdiv (IntKind.wrap .u64 (an (f+h))) (2 ^ min (1:Int).toNat 64))))]<|aX (f,an (Int.fdiv (IntKind.wrap .u64 (an (f+h))) (2 ^ min (1:Int).toNat 64))) c
  refine aS I<|A.exit<|A.seq<|ak [] [2,4,15,85] [(17,u m)]<|A.block ?_
  obtain⟨bA,cy,bv,c⟩:=fQ c;refine au6 (F:=bA) c (λ(l,z)=>[(0,.own 12),(14,u f),(17,u l)]) (λ(l,z)=>[(12,.slice 3 1 (ag af z) 0 false)]) ?_ ?_
  .exact cq
  rintro ch ⟨l,z⟩ c;rw[bv]at c;refine A.seq<|ak [] [] [(110,.d (f<l))] ?_
  rcases aV c with⟨K,c⟩|⟨K,c⟩
  .refine aT K<|A.skip<|A.seq<|A.block ?_
   obtain⟨bc,aw,c⟩:=aB c;obtain⟨bf,p,c⟩:=aB c;obtain⟨b4,bi,c⟩:=aB c;obtain⟨cn,Q,c⟩:=aB c;obtain⟨ae,br,c⟩:=aB c;exact c6 [(8,bh (ix af aw)),(9,dX 12 0 (ix af aw)),(12,bh (ix af p)),(13,dX 12 0 (ix af p)),(14,bh (ix af p)),(15,hq 12 (st af (off:=0) (ca:=[u bc]) p bi rfl) (hY p).1.1),(16,bh (ix af Q)),(17,hq 12 (st af (off:=0) (ca:=[u bf]) Q br rfl) (hY Q).1.1)] [110] [] [12] [(12,.slice 3 1 (ag af ae) 0 false)]<|bn [] [17] [(17,u (an (l-1)))]<|aX (an (l-1),ae) c
  refine aS K<|A.exit ?_
  cases c;exact A.ret bk
 refine aS E<|A.skip<|ak [(4,.sh (1:Int) (by decide))] [80] [(18,u (an (Int.fdiv (IntKind.wrap .u64 (an (a+b))) (2 ^ min (1:Int).toNat 64))))]<|ak [] [] [(19,u (an ((an (Int.fdiv (IntKind.wrap .u64 (an (a+b))) (2 ^ min (1:Int).toNat 64)))+m)))]<|ak [] [] [] ?_
 obtain⟨aU,a0,c⟩:=dx c;refine A.J (J:=aU) (r:=r) (λ(T,S)=>[(0,.own 12),(1,u a),(2,u m),(3,u b),(4,.cW dI dY),(18,u (an (Int.fdiv (IntKind.wrap .u64 (an (a+b))) (2 ^ min (1:Int).toNat 64)))),(19,u (an ((an (Int.fdiv (IntKind.wrap .u64 (an (a+b))) (2 ^ min (1:Int).toNat 64)))+m))),(20,u T),(21,u S)]) (λ(T,S)=>[(12,.slice 3 1 (ag af Ve) 0 false)]) ?_ ?_
 .refine ak [] [] [(140,.d (an (Int.fdiv (IntKind.wrap .u64 (an (a+b))) (2 ^ min (1:Int).toNat 64))<m))] ?_;rcases aV c with⟨M,c⟩|⟨M,c⟩
  .exact aT M<|ak [] [140] [(20,u (an ((an ((an (Int.fdiv (IntKind.wrap .u64 (an (a+b))) (2 ^ min (1:Int).toNat 64)))+m))-b)))]<|bn [] [] [(21,u (an (Int.fdiv (IntKind.wrap .u64 (an (a+b))) (2 ^ min (1:Int).toNat 64))))]<|aX (an ((an ((an (Int.fdiv (IntKind.wrap .u64 (an (a+b))) (2 ^ min (1:Int).toNat 64)))+m))-b),an (Int.fdiv (IntKind.wrap .u64 (an (a+b))) (2 ^ min (1:Int).toNat 64))) c
  exact aS M<|ak [] [140] [(20,u a)]<|bn [] [] [(21,u m)]<|aX (a,m) c
 rintro⟨T,S⟩ c;rw[a0]at c;refine ak [] [] [(22,u (an ((an ((an (Int.fdiv (IntKind.wrap .u64 (an (a+b))) (2 ^ min (1:Int).toNat 64)))+m))-(1:Int))))]<|A.seq<|A.block ?_
 obtain⟨bD,cz,bx,c⟩:=fQ c;refine au6 (F:=bD) c (λ(d,i)=>[(0,.own 12),(1,u a),(2,u m),(3,u b),(4,.cW dI dY),(18,u (an (Int.fdiv (IntKind.wrap .u64 (an (a+b))) (2 ^ min (1:Int).toNat 64)))),(19,u (an ((an (Int.fdiv (IntKind.wrap .u64 (an (a+b))) (2 ^ min (1:Int).toNat 64)))+m))),(20,u d),(21,u i),(22,u (an ((an ((an (Int.fdiv (IntKind.wrap .u64 (an (a+b))) (2 ^ min (1:Int).toNat 64)))+m))-(1:Int))))]) (λ(d,i)=>[(12,.slice 3 1 (ag af Ve) 0 false)]) ?_ ?_
 .exact cq
 rintro ci ⟨d,i⟩ c;rw[bx]at c;refine A.seq<|ak [] [] [(151,.d (d<i))] ?_
 rcases aV c with⟨N,c⟩|⟨N,c⟩
 .refine aT N<|A.skip<|A.block<|ak [(4,.sh (1:Int) (by decide))] [151] [(23,u (an (Int.fdiv (IntKind.wrap .u64 (an (d+i))) (2 ^ min (1:Int).toNat 64))))] ?_
  obtain⟨cu,ax,c⟩:=aB c;obtain⟨cp,az,c⟩:=aB c;obtain⟨aD,bj,c⟩:=aB c;refine ak [(5,bh (ix af ax)),(6,dX 12 0 (ix af ax)),(9,bh (ix af az)),(10,dX 12 0 (ix af az)),(11,hI (eV _ _ _ bj) eU)] [] [(171,.bool (!(decide (aD<0))))] ?_;rcases aV c with⟨O,c⟩|⟨O,c⟩
  .exact aT O<|bn [] [20,23,171] [(20,u (an ((an (Int.fdiv (IntKind.wrap .u64 (an (d+i))) (2 ^ min (1:Int).toNat 64)))+(1:Int))))]<|aX (an ((an (Int.fdiv (IntKind.wrap .u64 (an (d+i))) (2 ^ min (1:Int).toNat 64)))+(1:Int)),i) c
  exact aS O<|bn [] [21,23,171] [(21,u (an (Int.fdiv (IntKind.wrap .u64 (an (d+i))) (2 ^ min (1:Int).toNat 64))))]<|aX (d,an (Int.fdiv (IntKind.wrap .u64 (an (d+i))) (2 ^ min (1:Int).toNat 64))) c
 refine aS N<|A.exit<|ak [] [19,21,22,151] [(24,u (an ((an ((an (Int.fdiv (IntKind.wrap .u64 (an (a+b))) (2 ^ min (1:Int).toNat 64)))+m))-d)))] ?_
 obtain⟨aR,a1,c⟩:=dx c;refine A.J (J:=aR) (r:=r) (λo=>[(0,.own 12),(1,u a),(3,u b),(4,.cW dI dY),(18,u (an (Int.fdiv (IntKind.wrap .u64 (an (a+b))) (2 ^ min (1:Int).toNat 64)))),(20,u d),(24,u (an ((an ((an (Int.fdiv (IntKind.wrap .u64 (an (a+b))) (2 ^ min (1:Int).toNat 64)))+m))-d)))]) (λo=>[(12,.slice 3 1 (ag af o) 0 false)]) ?_ ?_
 .refine au4 [(0,.own 12),(1,u a),(2,u m),(3,u b),(4,.cW dI dY),(18,u (an (Int.fdiv (IntKind.wrap .u64 (an (a+b))) (2 ^ min (1:Int).toNat 64)))),(20,u d),(24,u (an ((an ((an (Int.fdiv (IntKind.wrap .u64 (an (a+b))) (2 ^ min (1:Int).toNat 64)))+m))-d))),(185,.bool ((decide (d<m))&&(decide (m<an ((an ((an (Int.fdiv (IntKind.wrap .u64 (an (a+b))) (2 ^ min (1:Int).toNat 64)))+m))-d)))))] [(12,.slice 3 1 (ag af Ve) 0 false)] (λj=>?_) ?_
  .rcases fl (decide (d<m))with s|s
   .exact aG [(3,ai (be s)),(7,ai (gl (q:=decide (m<an ((an ((an (Int.fdiv (IntKind.wrap .u64 (an (a+b))) (2 ^ min (1:Int).toNat 64)))+m))-d))) s))] _ _ j
   exact aG [(3,ai (be s)),(7,ai (gP (q:=decide (m<an ((an ((an (Int.fdiv (IntKind.wrap .u64 (an (a+b))) (2 ^ min (1:Int).toNat 64)))+m))-d))) s))] _ _ j
  rcases aV c with⟨P,c⟩|⟨P,c⟩
  .refine aT P ?_;obtain⟨aa,ba,c⟩:=aB c;exact c6 [(5,cS [] (hA.at [(78,12)] (Ri (eU:=eU) (eV:=eV) ba)) OH)] [2,185] [] [12] [(12,.slice 3 1 (ag af aa) 0 false)]<|aX aa c
  exact aS P<|A.skip<|aX Ve c
 rintro o c;rw[a1]at c;obtain⟨aZ,a8,c⟩:=dx c;refine A.J (J:=aZ) (r:=r) (λw=>[(0,.own 12),(3,u b),(4,.cW dI dY),(18,u (an (Int.fdiv (IntKind.wrap .u64 (an (a+b))) (2 ^ min (1:Int).toNat 64)))),(24,u (an ((an ((an (Int.fdiv (IntKind.wrap .u64 (an (a+b))) (2 ^ min (1:Int).toNat 64)))+m))-d)))]) (λw=>[(12,.slice 3 1 (ag af w) 0 false)]) ?_ ?_
 .refine au4 [(0,.own 12),(1,u a),(3,u b),(4,.cW dI dY),(18,u (an (Int.fdiv (IntKind.wrap .u64 (an (a+b))) (2 ^ min (1:Int).toNat 64)))),(20,u d),(24,u (an ((an ((an (Int.fdiv (IntKind.wrap .u64 (an (a+b))) (2 ^ min (1:Int).toNat 64)))+m))-d))),(199,.bool ((decide (a<d))&&(decide (d<an (Int.fdiv (IntKind.wrap .u64 (an (a+b))) (2 ^ min (1:Int).toNat 64))))))] [(12,.slice 3 1 (ag af o) 0 false)] (λj=>?_) ?_
  .rcases fl (decide (a<d))with t|t
   .exact aG [(3,ai (be t)),(7,ai (gl (q:=decide (d<an (Int.fdiv (IntKind.wrap .u64 (an (a+b))) (2 ^ min (1:Int).toNat 64)))) t))] _ _ j
   exact aG [(3,ai (be t)),(7,ai (gP (q:=decide (d<an (Int.fdiv (IntKind.wrap .u64 (an (a+b))) (2 ^ min (1:Int).toNat 64)))) t))] _ _ j
  rcases aV c with⟨R,c⟩|⟨R,c⟩
  .refine aT R ?_;obtain⟨ab,bg,c⟩:=aB c;exact c6 [(5,cS [] (Y (eU:=eU) (eV:=eV) bg) u3)] [1,20,199] [] [12] [(12,.slice 3 1 (ag af ab) 0 false)]<|aX ab c
  exact aS R<|A.skip<|aX o c
 rintro w c;rw[a8]at c;refine au4 [(0,.own 12),(3,u b),(4,.cW dI dY),(18,u (an (Int.fdiv (IntKind.wrap .u64 (an (a+b))) (2 ^ min (1:Int).toNat 64)))),(24,u (an ((an ((an (Int.fdiv (IntKind.wrap .u64 (an (a+b))) (2 ^ min (1:Int).toNat 64)))+m))-d))),(213,.bool ((decide (an (Int.fdiv (IntKind.wrap .u64 (an (a+b))) (2 ^ min (1:Int).toNat 64))<an ((an ((an (Int.fdiv (IntKind.wrap .u64 (an (a+b))) (2 ^ min (1:Int).toNat 64)))+m))-d)))&&(decide (an ((an ((an (Int.fdiv (IntKind.wrap .u64 (an (a+b))) (2 ^ min (1:Int).toNat 64)))+m))-d)<b))))] [(12,.slice 3 1 (ag af w) 0 false)] (λj=>?_) ?_
 .rcases fl (decide (an (Int.fdiv (IntKind.wrap .u64 (an (a+b))) (2 ^ min (1:Int).toNat 64))<an ((an ((an (Int.fdiv (IntKind.wrap .u64 (an (a+b))) (2 ^ min (1:Int).toNat 64)))+m))-d)))with v|v
  .exact aG [(3,ai (be v)),(7,ai (gl (q:=decide (an ((an ((an (Int.fdiv (IntKind.wrap .u64 (an (a+b))) (2 ^ min (1:Int).toNat 64)))+m))-d)<b)) v))] _ _ j
  exact aG [(3,ai (be v)),(7,ai (gP (q:=decide (an ((an ((an (Int.fdiv (IntKind.wrap .u64 (an (a+b))) (2 ^ min (1:Int).toNat 64)))+m))-d)<b)) v))] _ _ j
 rcases aV c with⟨V,c⟩|⟨V,c⟩
 .refine aT V ?_;obtain⟨aM,bl,c⟩:=aB c;refine qA [(5,cS [] (Y (eU:=eU) (eV:=eV) bl) u3)] [] [(12,.slice 3 1 (ag af aM) 0 false)] ?_;obtain rfl:=e0 c;exact auW aY [] rfl (by kernel_rfl)
 refine aS V<|A.skip ?_
 obtain rfl:=e0 c;exact auW aY [] rfl (by kernel_rfl)
def Rj{n:Int}(eU:bB prog dI)(eV:∀(w:Int) (x:Int) (q:Int),U8 w x=some q->bY prog dI [] ([u w,u x]++dY) (u q))(b:vL Ve n U8=some r):cI prog 163 [(39,.slice 3 1 (ag af Ve) 0 false)] [.own 39,u n,.cW dI dY] (λa D=>a=.bO []/\D=[(39,.slice 3 1 (ag af r) 0 false)]):=by
 refine bT func163 rfl rfl ?_;unfold vL at b;refine aG [] [(0,.own 39),(1,u n),(2,.cW dI dY),(6,u 20)] [(39,.slice 3 1 (ag af Ve) 0 false)]<|ak [] [] [(7,u 0),(8,u 20)]<|A.seq<|A.block ?_
 obtain⟨H,S,I,b⟩:=fQ b;refine au6 (F:=H) b (λ(p,d,l)=>[(0,.own 39),(1,u n),(2,.cW dI dY),(6,u 20),(7,u p),(8,u d)]) (λ(p,d,l)=>[(39,.slice 3 1 (ag af l) 0 false)]) ?_ ?_
 .exact cq
 rintro P ⟨p,d,l⟩ b;rw[I]at b;refine A.seq<|ak [] [] [(13,.d (d<=n))] ?_
 rcases aV b with⟨m,b⟩|⟨m,b⟩
 .refine aT m<|A.skip<|A.block ?_
  obtain⟨t,O,b⟩:=aB b;exact bD [(4,cS [] (hA.at [(66,39)] (GR (eU:=eU) (eV:=eV) O)) F4)] [7,13] [] [39] [(39,.slice 3 1 (ag af t) 0 false)]<|ak [] [] [(7,u d)]<|bn [] [8] [(8,u (an (d+20)))]<|aX (d,an (d+20),t) b
 refine aS m<|A.exit ?_
 obtain⟨B,y,b⟩:=aB b;refine bD [(4,cS [] (hA.at [(66,39)] (GR (eU:=eU) (eV:=eV) y)) F4)] [7,8,13] [] [39] [(39,.slice 3 1 (ag af B) 0 false)]<|A.block ?_
 obtain⟨K,T,L,b⟩:=fQ b;refine au6 (F:=K) b (λ(c,j)=>[(0,.own 39),(1,u n),(2,.cW dI dY),(6,u c)]) (λ(c,j)=>[(39,.slice 3 1 (ag af j) 0 false)]) ?_ ?_
 .exact cq
 rintro Q ⟨c,j⟩ b;rw[L]at b;refine A.seq<|ak [] [] [(30,.d (c<n))] ?_
 rcases aV b with⟨k,b⟩|⟨k,b⟩
 .refine aT k<|A.skip<|A.block<|ak [] [30] [(7,u 0),(8,u (an ((2:Int)*c)))]<|A.seq<|A.block ?_
  obtain⟨M,U,N,b⟩:=fQ b;refine au6 (F:=M) b (λ(f,e,h)=>[(0,.own 39),(1,u n),(2,.cW dI dY),(6,u c),(7,u f),(8,u e)]) (λ(f,e,h)=>[(39,.slice 3 1 (ag af h) 0 false)]) ?_ ?_
  .exact cq
  rintro R ⟨f,e,h⟩ b;rw[N]at b;refine A.seq<|ak [] [] [(35,.d (e<=n))] ?_
  rcases aV b with⟨i,b⟩|⟨i,b⟩
  .refine aT i<|A.skip<|A.block ?_
   obtain⟨s,C,b⟩:=aB b;exact bD [(7,cS [] (hA.at [(12,39)] (GS fuel (eU:=eU) (eV:=eV) C)) u3)] [7,35] [] [39] [(39,.slice 3 1 (ag af s) 0 false)]<|ak [] [] [(7,u e)]<|bn [] [8] [(8,u (an (e+(an ((2:Int)*c)))))]<|aX (e,an (e+(an ((2:Int)*c))),s) b
  refine aS i<|A.exit ?_
  obtain⟨E,G,b⟩:=dx b;refine A.J (J:=E) (r:=r) (λg=>[(0,.own 39),(1,u n),(2,.cW dI dY),(6,u c)]) (λg=>[(39,.slice 3 1 (ag af g) 0 false)]) ?_ ?_
  .refine ak [] [8,35] [(9,u (an (f+c)))]<|ak [] [] [(54,.d (an (f+c)<n))] ?_
   rcases aV b with⟨o,b⟩|⟨o,b⟩
   .refine aT o ?_;obtain⟨v,z,b⟩:=aB b;exact c6 [(5,cS [] (hA.at [(12,39)] (GS fuel (eU:=eU) (eV:=eV) z)) u3)] [7,9,54] [] [39] [(39,.slice 3 1 (ag af v) 0 false)]<|aX v b
   exact aS o<|A.skip<|aX h b
  rintro g b;rw[G]at b;exact bn [] [6] [(6,u (an (c*2)))]<|aX (an (c*2),g) b
 refine aS k<|A.exit ?_
 obtain rfl:=e0 b;exact auW aY [] rfl (by kernel_rfl)
def Q9{c:bH}(eU:bB prog dI)(eV:∀(d:Int) (e:Int) (q:Int),U8 d e=some q->bY prog dI [] ([u d,u e]++dY) (u q))(b:rY c U8=some r):cI prog 104 [(173,.slice 3 1 (ag af c) 0 false)] [.own 173,.cW dI dY] (λa g=>a=.bO []/\g=[(173,.slice 3 1 (ag af r) 0 false)]):=by
 refine bT func104 rfl rfl ?_;unfold rY at b;obtain⟨f,h,b⟩:=aB b;refine qA [(2,ai (bu af c)),(4,cS [] (hA.at [(39,173)] (Rj (eU:=eU) (eV:=eV) h)) OW)] [] [(173,.slice 3 1 (ag af f) 0 false)] ?_;obtain rfl:=e0 b;exact auW aY [] rfl (by kernel_rfl)
variable {root:Int}
def RQ{av:kZ}{G:Int}{r:(mR)×(kZ)}(c:p8 av root G=some r):cI prog 107 [(25,.slice 175 3 (ag cz av) 0 false)] [.own 25,u root,u G] (λa S=>a=.own 206/\S=[(25,.slice 175 3 (ag cz r.2) 0 false),(206,.slice 120 2 (ag bF r.1) 0 false)]):=by
 refine bT func107 rfl rfl ?_;unfold p8 at c;refine aG [] [(0,.own 25),(1,u root),(2,u G)] [(25,.slice 175 3 (ag cz av) 0 false)] ?_;obtain⟨b,a3,c⟩:=aB c;refine bD [(2,QG [25] [145] (RY a3) OX ⟨Kz _,trivial⟩)] [2] [(7,.cc 145)] [] [(145,.map 3 3 (bg .i64 (bW .i64) b))]<|ak [(2,l4 (lk (E:=3) (k:=.i64) (enc:=(bW .i64)) b root (0:Int) (λa4=>⟨_,zeroValue3 a4,λa5=>by simp[aN,bW,ew]⟩)))] [1] [(8,u ((ay b root).getD (0:Int)))]<|auZ (cu:=[(0,.own 25),(7,.b8 (bg .i64 (bW .i64) b)),(8,u ((ay b root).getD (0:Int)))]) (σ2:=[(25,.slice 175 3 (ag cz av) 0 false)]) (dJ [.bK [145]] [7]) ?_
 obtain⟨P,c⟩:=gC c;obtain⟨R,c⟩:=gC c;refine aG [(1,a1 (Mn b) OZ),(2,cS [542107001] (IS (d:=542107001) b (of_decide_eq_true P)) F2),(3,cS [542107002] (IU (d:=542107001) (d2:=542107002) (by decide) (dh (b.map Prod.snd)) (of_decide_eq_true R)) OY)] [(0,.own 25),(7,.b8 (bg .i64 (bW .i64) b)),(8,u ((ay b root).getD (0:Int))),(9,.own 542107002)] [(25,.slice 175 3 (ag cz av) 0 false),(542107002,.slice 3 1 (ag af (dZ (dh (b.map Prod.snd)))) 0 false)]<|ak [] [] [(10,.bC)] ?_
 obtain⟨ae,aq,c⟩:=dx c;refine A.J (J:=ae) (r:=r) (λo=>[(0,.own 25),(7,.b8 (bg .i64 (bW .i64) b)),(8,u ((ay b root).getD (0:Int))),(10,.own 33)]) (λo=>[(25,.slice 175 3 (ag cz av) 0 false),(33,.slice 120 2 (ag bF o) 0 false)]) ?_ ?_
 .refine ak [(1,ai (bu af (dZ (dh (b.map Prod.snd)))))] [] [(32,.own 542107002),(33,u ((dZ (dh (b.map Prod.snd))).length:Int)),(34,u 0)]<|A.block<|avp 9 rfl rfl λY=>?_
  obtain⟨V,W,T,U,c⟩:=cZ c;refine auV (l:=dZ (dh (b.map Prod.snd))) (cD:=0) (B:=V) (K:=W) c (λf=>λm=>[(0,.own 25),(7,.b8 (bg .i64 (bW .i64) b)),(8,u ((ay b root).getD (0:Int))),(9,.own 542107002),(10,.own 33),(32,.own 542107002),(33,u ((dZ (dh (b.map Prod.snd))).length:Int)),(34,u f)]) (λf=>λm=>[(25,.slice 175 3 (ag cz av) 0 false),(542107002,.slice 3 1 (ag af (dZ (dh (b.map Prod.snd)))) 0 false),(33,.slice 120 2 (ag bF m) 0 false)]) ?_ ?_ ?_
  .exact dJ [.ad 10 33 120 2] []
  .rintro f h a6 m X v c;rw[T]at c;refine ak [] [] [(35,.d ((f:Int)<((dZ (dh (b.map Prod.snd))).length:Int)))]<|A.seq<|aT (cU v)<|A.skip<|A.seq<|A.block<|ak [(1,bh (ix af (cf v))),(2,dX 542107002 0 (ix af (cf v)))] [35] [(11,u f),(12,u h)]<|A.seq<|ak [] [] [(41,.d (((ay b root).getD (0:Int))<=h))] ?_
   rcases aV c with⟨C,c⟩|⟨C,c⟩
   .exact aT C<|A.exit<|aX m c
   refine aS C<|A.skip ?_
   obtain⟨j,I,c⟩:=aB c;refine bD [(3,bh (ix af I)),(4,dX 542107002 0 (ix af I)),(10,.al 86)] [11,41] [(13,.ptr 86 0)] [] [(86,.c 120 [.bC,u (an ((if((ay b root).getD (0:Int))<j then((ay b root).getD (0:Int))else j)-h))])]<|A.seq ?_
   obtain⟨Q,c⟩:=gC c;refine bD [(1,a1 (Mm b) O0),(2,cS [542107003] (IQ (d:=542107003) b (of_decide_eq_true Q)) F2),(3,ai (bu af (dh (b.map Prod.fst))))] [] [(54,.own 542107003),(55,u ((dh (b.map Prod.fst)).length:Int)),(56,u 0)] [] [(542107003,.slice 3 1 (ag af (dh (b.map Prod.fst))) 0 false)]<|A.block<|avp 54 rfl rfl λab=>?_
   obtain⟨aw,aD,ax,az,c⟩:=cZ c;refine auV (l:=dh (b.map Prod.fst)) (cD:=0) (B:=aw) (K:=aD) c (λi=>λt=>[(0,.own 25),(7,.b8 (bg .i64 (bW .i64) b)),(8,u ((ay b root).getD (0:Int))),(9,.own 542107002),(10,.own 33),(12,u h),(13,.ptr 86 0),(32,.own 542107002),(33,u ((dZ (dh (b.map Prod.snd))).length:Int)),(34,u f),(54,.own 542107003),(55,u ((dh (b.map Prod.fst)).length:Int)),(56,u i)]) (λi=>λt=>[(25,.slice 175 3 (ag cz av) 0 false),(542107002,.slice 3 1 (ag af (dZ (dh (b.map Prod.snd)))) 0 false),(33,.slice 120 2 (ag bF m) 0 false),(86,.c 120 [.own 110,u (an ((if((ay b root).getD (0:Int))<j then((ay b root).getD (0:Int))else j)-h))]),(542107003,.slice 3 1 (ag af (dh (b.map Prod.fst))) 0 false),(110,.slice 3 1 (ag af t) 0 false)]) ?_ ?_ ?_
   .exact dJ [.ac 86 110 3 1 0] []
   .rintro i H a7 t aF x c;rw[ax]at c;refine ak [] [] [(57,.d ((i:Int)<((dh (b.map Prod.fst)).length:Int)))]<|A.seq<|aT (cU x)<|A.skip ?_
    obtain⟨aa,ar,c⟩:=dx c;refine A.J (J:=aa) (r:=r) (λw=>[(0,.own 25),(7,.b8 (bg .i64 (bW .i64) b)),(8,u ((ay b root).getD (0:Int))),(9,.own 542107002),(10,.own 33),(12,u h),(13,.ptr 86 0),(32,.own 542107002),(33,u ((dZ (dh (b.map Prod.snd))).length:Int)),(34,u f),(54,.own 542107003),(55,u ((dh (b.map Prod.fst)).length:Int)),(56,u i)]) (λw=>[(25,.slice 175 3 (ag cz av) 0 false),(542107002,.slice 3 1 (ag af (dZ (dh (b.map Prod.snd)))) 0 false),(33,.slice 120 2 (ag bF m) 0 false),(86,.c 120 [.own 110,u (an ((if((ay b root).getD (0:Int))<j then((ay b root).getD (0:Int))else j)-h))]),(542107003,.slice 3 1 (ag af (dh (b.map Prod.fst))) 0 false),(110,.slice 3 1 (ag af w) 0 false)]) ?_ ?_
    .refine A.block<|ak [(0,bh (ix af (cf x))),(1,dX 542107003 0 (ix af (cf x)))] [57] [(15,u H)] ?_
     refine ak [(2,g4 b H (bW .i64) (0:Int) h3 (ki (k:=.i64) zeroValue3))] [] [(64,.d (((ay b H).getD (0:Int))<=h))] ?_;rcases aV c with⟨z,c⟩|⟨z,c⟩
     .refine aT z ?_;obtain⟨L,am,c⟩:=aB c;exact c6 [(4,e9 191 (ap af (bytes:=8) (by decide) am))] [15,64] [] [86,110] [(86,.c 120 [.own 191,u (an ((if((ay b root).getD (0:Int))<j then((ay b root).getD (0:Int))else j)-h))]),(191,.slice 3 1 (ag af L) 0 false)]<|Exists.intro L (And.intro c (dJ [.eC 191 110] []))
     exact aS z<|A.skip<|aX t c
    rintro w c;rw[ar]at c;exact bn [(0,ai (cK x ab))] [56] [(56,u ((i+1:Nat):Int))]<|aX w c
   rintro i t aF aE c;rw[az]at c;refine ak [] [] [(57,.d ((i:Int)<((dh (b.map Prod.fst)).length:Int)))]<|A.seq<|aS (cT aE)<|A.exit ?_
   obtain⟨D,Z,c⟩:=aB c;exact A.R aY [.bK [110],.sc 86 [25,542107002,33,86,542107003]] [(3,e9 161 (ap bF (bytes:=32) (by decide) Z))] [(0,.own 25),(7,.b8 (bg .i64 (bW .i64) b)),(8,u ((ay b root).getD (0:Int))),(9,.own 542107002),(10,.own 161),(32,.own 542107002),(33,u ((dZ (dh (b.map Prod.snd))).length:Int)),(34,u f)] [(25,.slice 175 3 (ag cz av) 0 false),(542107002,.slice 3 1 (ag af (dZ (dh (b.map Prod.snd)))) 0 false),(161,.slice 120 2 (ag bF D) 0 false)] (by kernel_rfl)<|qA [(0,ai (cK v Y))] [(0,.own 25),(7,.b8 (bg .i64 (bW .i64) b)),(8,u ((ay b root).getD (0:Int))),(9,.own 542107002),(10,.own 161),(32,.own 542107002),(33,u ((dZ (dh (b.map Prod.snd))).length:Int)),(34,u ((f+1:Nat):Int))] [(25,.slice 175 3 (ag cz av) 0 false),(542107002,.slice 3 1 (ag af (dZ (dh (b.map Prod.snd)))) 0 false),(161,.slice 120 2 (ag bF D) 0 false)]<|Exists.intro D (And.intro c (dJ [.eC 161 33] []))
  rintro f m X ch c;rw[U]at c;exact ak [] [] [(35,.d ((f:Int)<((dZ (dh (b.map Prod.snd))).length:Int)))]<|A.seq<|aS (cT ch)<|A.exit<|aX m c
 rintro o c;rw[aq]at c;refine A.seq<|ak [(1,ai (bu cz av))] [] [(77,.own 25),(78,u av.length),(79,u 0)] ?_
 refine A.block<|avp 0 rfl rfl λaM=>?_
 obtain⟨aU,aW,aZ,a0,c⟩:=cZ c;refine auV (l:=av) (cD:=0) (B:=aU) (K:=aW) c (λg=>λp=>[(0,.own 25),(7,.b8 (bg .i64 (bW .i64) b)),(8,u ((ay b root).getD (0:Int))),(10,.own 33),(77,.own 25),(78,u av.length),(79,u g)]) (λg=>λp=>[(25,.slice 175 3 (ag cz p) 0 false),(33,.slice 120 2 (ag bF o) 0 false)]) ?_ ?_ ?_
 .exact cq
 .rintro g a8 a9 p aI N c;rw[aZ]at c;refine ak [] [] [(80,.d ((g:Int)<av.length))]<|A.seq<|aT (cU N)<|A.skip ?_
  obtain⟨ao,aR,c⟩:=dx c;refine A.J (J:=ao) (r:=r) (λy=>[(0,.own 25),(7,.b8 (bg .i64 (bW .i64) b)),(8,u ((ay b root).getD (0:Int))),(10,.own 33),(77,.own 25),(78,u av.length),(79,u g)]) (λy=>[(25,.slice 175 3 (ag cz y) 0 false),(33,.slice 120 2 (ag bF o) 0 false)]) ?_ ?_
  .refine A.block ?_;obtain⟨e,n,c⟩:=aB c;refine bD [(1,bh (ix cz n)),(2,dX 25 0 (ix cz n)),(3,.al 184)] [80] [(17,.ptr 184 0),(16,u g)] [] [(184,.cells 175 (l9 e))]<|ak [(4,g4 b e.Hop.aO (bW .i64) (0:Int) h3 (ki (k:=.i64) zeroValue3))] [] [(18,u ((ay b e.Hop.aO).getD (0:Int))),(19,.bool ((ay b e.Hop.aO).isSome))]<|bD [(4,g4 b e.Hop.aJ (bW .i64) (0:Int) h3 (ki (k:=.i64) zeroValue3))] [17] [(20,u ((ay b e.Hop.aJ).getD (0:Int))),(21,.bool ((ay b e.Hop.aJ).isSome))] [184] []<|au4 [(0,.own 25),(7,.b8 (bg .i64 (bW .i64) b)),(8,u ((ay b root).getD (0:Int))),(10,.own 33),(77,.own 25),(78,u av.length),(79,u g),(16,u g),(18,u ((ay b e.Hop.aO).getD (0:Int))),(20,u ((ay b e.Hop.aJ).getD (0:Int))),(103,.bool (((ay b e.Hop.aO).isSome)&&((ay b e.Hop.aJ).isSome)))] [(25,.slice 175 3 (ag cz p) 0 false),(33,.slice 120 2 (ag bF o) 0 false)] (λO=>?_) ?_
   .rcases fl ((ay b e.Hop.aO).isSome)with s|s
    .exact aG [(1,ai (be s)),(3,ai (gl (q:=(ay b e.Hop.aJ).isSome) s))] _ _ O
    exact aG [(1,ai (be s)),(3,ai (gP (q:=(ay b e.Hop.aJ).isSome) s))] _ _ O
   rcases aV c with⟨F,c⟩|⟨F,c⟩
   .refine aT F ?_;obtain⟨M,aC,c⟩:=aB c;exact c6 [(2,bh (ix cz n)),(4,dX 25 2 (ix cz n)),(14,bh (ix cz n)),(16,hq 25 (st cz (off:=2) (ca:=[u (an (e.b6-(if(an ((if((ay b root).getD (0:Int))<((ay b e.Hop.aO).getD (0:Int))then((ay b root).getD (0:Int))else((ay b e.Hop.aO).getD (0:Int)))-(if((ay b root).getD (0:Int))<((ay b e.Hop.aJ).getD (0:Int))then((ay b root).getD (0:Int))else((ay b e.Hop.aJ).getD (0:Int)))))>(0:Int)then an ((if((ay b root).getD (0:Int))<((ay b e.Hop.aO).getD (0:Int))then((ay b root).getD (0:Int))else((ay b e.Hop.aO).getD (0:Int)))-(if((ay b root).getD (0:Int))<((ay b e.Hop.aJ).getD (0:Int))then((ay b root).getD (0:Int))else((ay b e.Hop.aJ).getD (0:Int))))else(0:Int))))]) n aC rfl) (hY n).1.1)] [16,18,20,103] [] [25] [(25,.slice 175 3 (ag cz M) 0 false)]<|aX M c
   exact aS F<|A.skip<|aX p c
  rintro y c;rw[aR]at c;exact bn [(0,ai (cK N aM))] [79] [(79,u ((g+1:Nat):Int))]<|aX y c
 rintro g p aI aA c;rw[a0]at c;refine ak [] [] [(80,.d ((g:Int)<av.length))]<|A.seq<|aS (cT aA)<|A.exit<|ak [] [0,7,8,10,77,78,79,80] [(6,.own 33)]<|A.ret ?_
 obtain rfl:=e0 c;exact auW aY [.eC 33 206] rfl (by kernel_rfl)
def RZ{c:List (Int×Int)}{r:Int}(d:su a b c=some r):bY prog 105 [] [u a,u b,.dF [.b8 (bg .i64 (bW .i64) c)]] (u r):=by
 refine bT func105 rfl rfl ?_;unfold su at d;refine aG [] [(0,u a),(1,u b),(2,.dF [.b8 (bg .i64 (bW .i64) c)])] [] ?_;obtain⟨e,f,d⟩:=aB d;refine aG [(2,g4 c b (bW .i64) (0:Int) h3 (ki (k:=.i64) zeroValue3)),(5,g4 c a (bW .i64) (0:Int) h3 (ki (k:=.i64) zeroValue3)),(6,a1 (jM f) j1)] [(5,u e)] [] ?_;cases d;exact A.ret bk
def R7{t:aK}{b:bH}{r:(mR)×Int}(a:l2 t root b=some r):bY prog 47 [] [.agg (aZ t),u root,aD af b] (.bO [aD bF r.1,u r.2]):=by
 refine bT func47 rfl rfl ?_;unfold l2 at a;refine aG [(0,.al 64)] [(1,u root),(2,aD af b),(3,.ptr 64 0)] [(64,.cells 28 (aZ t))]<|A.seq ?_
 obtain⟨w,aw,a⟩:=aB a;refine ak [(3,a1 (wD aw) va)] [] [(8,u w)]<|ak [] [] [(25,.bool (!decide (w=0)))] ?_
 rcases aV a with⟨x,a⟩|⟨x,a⟩
 .refine aT x<|aG [] [(6,.bC),(7,u w)] [] ?_
  cases a;exact A.ret bk
 refine aS x<|A.skip<|bD [(0,.al 83),(1,.al 75)] [8,25] [(9,.ptr 75 0)] [] [(83,.map 3 3 (bg .i64 (bW .i64) [])),(75,.c 144 [.cc 83])]<|A.seq<|ak [(1,ai (bu af b))] [] [(28,aD af b),(29,u b.length),(30,u 0)]<|A.block<|auX 2 rfl λQ=>?_
 obtain⟨N,O,L,M,a⟩:=cZ a;refine auV (l:=b) (cD:=0) (B:=N) (K:=O) a (λg=>λd=>[(1,u root),(2,aD af b),(3,.ptr 64 0),(9,.ptr 75 0),(28,aD af b),(29,u b.length),(30,u g)]) (λg=>λd=>[(64,.cells 28 (aZ t)),(83,.map 3 3 (bg .i64 (bW .i64) d)),(75,.c 144 [.cc 83])]) ?_ ?_ ?_
 .exact cq
 .rintro g p ax d P q a;rw[L]at a;refine ak [] [] [(31,.d ((g:Int)<b.length))]<|A.seq<|aT (cU q)<|A.skip<|A.seq<|A.block<|ak [(0,bh (ix af (cf q)))] [31] [(11,u p)] ?_
  obtain⟨h,F,a⟩:=aB a;refine ak [(3,a1 (R6 F) Pp)] [] [(12,u h.1),(13,.bool h.2)]<|A.seq<|ak [] [13] [(42,.bool (!h.2))] ?_
  rcases aV a with⟨v,a⟩|⟨v,a⟩
  .refine aT v<|aG [] [(6,.bC),(7,u 9)] [] ?_
   cases a;exact A.ret bk
  exact aS v<|A.skip<|c6 [(3,l5 (jq (k:=.i64) (enc:=(bW .i64)) d p h.1 rfl))] [11,12,42] [] [83] [(83,.map 3 3 (bg .i64 (bW .i64) (bc d p h.1)))]<|bn [(0,ai (cK q Q))] [30] [(30,u ((g+1:Nat):Int))]<|aX (bc d p h.1) a
 rintro g d P ch a;rw[M]at a;refine ak [] [] [(31,.d ((g:Int)<b.length))]<|A.seq<|aS (cT ch)<|A.exit ?_
 obtain⟨D,I,a⟩:=aB a;refine bD [(1,cS [47] (Ry I) Pq)] [2,28,29,30,31] [(14,.own 47)] [] [(47,.slice 3 1 (ag af D) 0 false)]<|auZ ((bJ.go (cu:=[(1,u root),(3,.ptr 64 0),(9,.ptr 75 0),(14,.own 47)]) (σ2:=[(64,.cells 28 (aZ t)),(83,.gM 3 3 (bg .i64 (bW .i64) d)),(75,.c 144 [.b8 (bg .i64 (bW .i64) d)]),(47,.slice 3 1 (ag af D) 0 false)]) [.bK [83],.sc 75 []] [] (by kernel_rfl)).trans (avy (T:=144) (cs:=[.b8 (bg .i64 (bW .i64) d)]) 9 75 (by kernel_rfl) (by kernel_rfl) (by kernel_rfl))) ?_
 obtain⟨c,G,a⟩:=aB a;refine aG [(1,r1),(2,cS [] (hA.at [(173,47)] (Q9 (dI:=105) (dY:=[.dF [.b8 (bg .i64 (bW .i64) d)]]) (eU:=Pt) (eV:=λ_ _ _ ar=>RZ ar) G)) Pr)] [(1,u root),(3,.ptr 64 0),(14,.own 47)] [(64,.cells 28 (aZ t)),(47,.slice 3 1 (ag af c) 0 false)] ?_;obtain⟨X,H,a⟩:=aB a;refine bD [(1,cS [37] (Br H) Ao)] [3] [(15,.own 37)] [64] [(37,.slice 175 3 (ag cz X) 0 false)]<|ak [] [] [(16,.bC)] ?_
 obtain⟨V,Y,a⟩:=dx a;refine A.J (J:=V) (r:=r) (λy=>[(16,.own 84)]) (λy=>[(84,.slice 120 2 (ag bF y) 0 false)]) ?_ ?_
 .refine ak [(1,ai (bu af c))] [14] [(54,.own 47),(55,u c.length),(56,u 0)]<|A.block<|avp 54 rfl rfl λU=>?_
  obtain⟨aa,am,ab,ae,a⟩:=cZ a;refine auV (l:=c) (cD:=0) (B:=aa) (K:=am) a (λe=>λ(j,f)=>[(1,u root),(15,.own 90),(16,.own 84),(54,.own 47),(55,u c.length),(56,u e)]) (λe=>λ(j,f)=>[(47,.slice 3 1 (ag af c) 0 false),(90,.slice 175 3 (ag cz j) 0 false),(84,.slice 120 2 (ag bF f) 0 false)]) ?_ ?_ ?_
  .exact dJ [.eC 37 90,.ad 16 84 120 2] []
  .rintro e E az ⟨j,f⟩ aq m a;rw[ab]at a;refine ak [] [] [(57,.d ((e:Int)<c.length))]<|A.seq<|aT (cU m)<|A.skip ?_
   obtain⟨S,Z,a⟩:=dx a;refine A.J (J:=S) (r:=r) (λ(n,o)=>[(1,u root),(15,.own 90),(16,.own 84),(54,.own 47),(55,u c.length),(56,u e)]) (λ(n,o)=>[(47,.slice 3 1 (ag af c) 0 false),(90,.slice 175 3 (ag cz n) 0 false),(84,.slice 120 2 (ag bF o) 0 false)]) ?_ ?_
   .refine A.block<|ak [(0,bh (ix af (cf m))),(1,dX 47 0 (ix af (cf m)))] [57] [(18,u E)] ?_
    refine A.seq<|ak [] [] [(62,.d (E=root))] ?_
    rcases aV a with⟨s,a⟩|⟨s,a⟩
    .exact aT s<|A.exit<|aX (j,f) a
    refine aS s<|A.skip ?_
    obtain⟨i,W,a⟩:=aB a;refine bD [(3,cS [157] (hA.at [(25,90),(206,157)] (RQ W)) Pu)] [18,62] [(19,.own 157)] [90] [(90,.slice 175 3 (ag cz i.2) 0 false),(157,.slice 120 2 (ag bF i.1) 0 false)]<|A.seq<|ak [(1,ai (bu bF f)),(3,ai (bu bF i.1))] [] [(72,.d (200<an ((f.length:Int)+(i.1.length:Int))))] ?_
    rcases aV a with⟨z,a⟩|⟨z,a⟩
    .exact aT z<|A.exit<|aX f a
    refine aS z<|A.skip ?_
    obtain⟨C,R,a⟩:=aB a;exact A.R aY [.bK [157]] [(2,e9 204 (ap bF (bytes:=32) (by decide) R))] [(1,u root),(15,.own 90),(16,.own 204),(54,.own 47),(55,u c.length),(56,u e)] [(47,.slice 3 1 (ag af c) 0 false),(90,.slice 175 3 (ag cz i.2) 0 false),(204,.slice 120 2 (ag bF C) 0 false)] (by kernel_rfl)<|Exists.intro (i.2,C) (And.intro a (dJ [.eC 204 84] []))
   rintro⟨n,o⟩ a;rw[Z]at a;exact bn [(0,ai (cK m U))] [56] [(56,u ((e+1:Nat):Int))]<|aX (n,o) a
  rintro e ⟨j,f⟩ aq ao a;rw[ae]at a;exact ak [] [] [(57,.d ((e:Int)<c.length))]<|A.seq<|aS (cT ao)<|A.exit<|aX f a
 rintro y a;rw[Y]at a;refine ak [] [16] [(6,.own 84),(7,u 0)]<|A.ret ?_
 obtain rfl:=e0 a;exact auW aY [.bK [84]] rfl (by kernel_rfl)
def Rz{g:jP}{c:List (Int×Int)}{a:Int}{r:(bH)}(b:r4 g c a=some r):bY prog 173 [] [.agg [.b8 (bg .i64 (fN cM) g.gZ),.b8 (bg .i64 (fN cM) g.nh)],.b8 (bg .i64 (bW .i64) c),u a] (aD af r):=by
 refine bT func173 rfl rfl ?_;unfold r4 at b;refine aG [(0,.al 141)] [(1,.b8 (bg .i64 (bW .i64) c)),(2,u a),(3,.ptr 141 0)] [(141,.c 210 [.b8 (bg .i64 (fN cM) g.gZ),.b8 (bg .i64 (fN cM) g.nh)])]<|ak [] [] [(7,.bC)]<|ak [(2,g4 c a (bW .i64) (0:Int) h3 (ki (k:=.i64) zeroValue3))] [] [(8,u ((ay c a).getD (0:Int))),(9,.bool ((ay c a).isSome))]<|A.seq<|ak [] [9] [(21,.bool (!((ay c a).isSome)))] ?_
 rcases aV b with⟨n,b⟩|⟨n,b⟩
 .refine aT n<|aG [] [(6,.bC)] [] ?_
  cases b;exact A.ret bk
 refine aS n<|A.skip<|A.seq<|bD [(3,g4 g.gZ a (fN cM) [] iK (B0 cM zeroValue234)),(4,ai (bu cM ((ay g.gZ a).getD [])))] [2,3,21] [(25,aD cM ((ay g.gZ a).getD [])),(26,u (((ay g.gZ a).getD []).length:Int)),(27,u 0)] [141] []<|A.block<|auX 25 rfl λy=>?_
 obtain⟨v,w,s,t,b⟩:=cZ b;refine auV (l:=((ay g.gZ a).getD [])) (cD:=0) (B:=v) (K:=w) b (λe=>λf=>[(1,.b8 (bg .i64 (bW .i64) c)),(7,.own 94),(8,u ((ay c a).getD (0:Int))),(25,aD cM ((ay g.gZ a).getD [])),(26,u (((ay g.gZ a).getD []).length:Int)),(27,u e)]) (λe=>λf=>[(94,.slice 3 1 (ag af f) 0 false)]) ?_ ?_ ?_
 .exact dJ [.ad 7 94 3 1] []
 .rintro e d E f x j b;rw[s]at b;refine ak [] [] [(28,.d ((e:Int)<(((ay g.gZ a).getD []).length:Int)))]<|A.seq<|aT (cU j)<|A.skip ?_
  obtain⟨z,C,b⟩:=dx b;refine A.J (J:=z) (r:=r) (λi=>[(1,.b8 (bg .i64 (bW .i64) c)),(7,.own 94),(8,u ((ay c a).getD (0:Int))),(25,aD cM ((ay g.gZ a).getD [])),(26,u (((ay g.gZ a).getD []).length:Int)),(27,u e)]) (λi=>[(94,.slice 3 1 (ag af i) 0 false)]) ?_ ?_
  .refine A.block<|bD [(0,bh (ix cM (cf j))),(2,.al 155)] [28] [(11,.ptr 155 0)] [] [(155,.cells 237 (nm d))] ?_
   refine ak [(3,g4 c d.dm (bW .i64) (0:Int) h3 (ki (k:=.i64) zeroValue3))] [] [(12,u ((ay c d.dm).getD (0:Int))),(13,.bool ((ay c d.dm).isSome))]<|au4 [(1,.b8 (bg .i64 (bW .i64) c)),(7,.own 94),(8,u ((ay c a).getD (0:Int))),(25,aD cM ((ay g.gZ a).getD [])),(26,u (((ay g.gZ a).getD []).length:Int)),(27,u e),(11,.ptr 155 0),(46,.bool (((ay c d.dm).isSome)&&(decide (an (d.fS+((ay c d.dm).getD (0:Int)))=((ay c a).getD (0:Int))))))] [(94,.slice 3 1 (ag af f) 0 false),(155,.cells 237 (nm d))] (λp=>?_) ?_
   .rcases fl ((ay c d.dm).isSome)with h|h
    .exact aG [(1,ai (be h)),(8,ai (gl (q:=decide (an (d.fS+((ay c d.dm).getD (0:Int)))=((ay c a).getD (0:Int)))) h))] _ _ p
    exact aG [(1,ai (be h)),(8,ai (gP (q:=decide (an (d.fS+((ay c d.dm).getD (0:Int)))=((ay c a).getD (0:Int)))) h))] _ _ p
   rcases aV b with⟨m,b⟩|⟨m,b⟩
   .refine aT m ?_;obtain⟨o,D,b⟩:=aB b;exact c6 [(4,e9 199 (ap af (bytes:=8) (by decide) D))] [7,11,46] [(7,.own 199)] [94,155] [(199,.slice 3 1 (ag af o) 0 false)]<|Exists.intro o (And.intro b (dJ [.eC 199 94] []))
   exact aS m<|A.skip<|aX f b
  rintro i b;rw[C]at b;exact bn [(0,ai (cK j y))] [27] [(27,u ((e+1:Nat):Int))]<|aX i b
 rintro e f x ch b;rw[t]at b;refine ak [] [] [(28,.d ((e:Int)<(((ay g.gZ a).getD []).length:Int)))]<|A.seq<|aS (cT ch)<|A.exit<|ak [] [1,7,8,25,26,27,28] [(6,.own 94)]<|A.ret ?_
 obtain rfl:=e0 b;exact auW aY [.bK [94]] rfl (by kernel_rfl)
def RR{t:aK}{c:Int}{b:Int}{r:(bH)}(a:sx t c b=some r):bY prog 112 [] [.agg (aZ t),u c,u b] (aD af r):=by
 refine bT func112 rfl rfl ?_;unfold sx at a;refine aG [(0,.al 137)] [(1,u c),(2,u b),(3,.ptr 137 0)] [(137,.cells 28 (aZ t))]<|A.seq ?_
 obtain⟨y,B,a⟩:=dx a;refine A.J (J:=y) (r:=r) (λl=>[(1,u c),(2,u b),(3,.ptr 137 0),(19,.bool l)]) (λl=>[(137,.cells 28 (aZ t))]) ?_ ?_
 .obtain⟨G,q,a⟩:=aB a;rcases aV a with⟨i,a⟩|⟨i,a⟩
  .exact bn [(1,a1 (A6 q) zY),(3,ai (be i))] [] [(19,.bool true)]<|aX true a
  exact bn [(1,a1 (A6 q) zY),(3,ai (be i))] [] [(19,.d (c=b))]<|aX (decide (c=b)) a
 rintro l a;rw[B]at a;rcases aV a with⟨g,a⟩|⟨g,a⟩
 .refine aT g<|aG [] [(6,.bC)] [] ?_
  cases a;exact A.ret bk
 refine aS g<|A.skip ?_
 obtain⟨d,s,a⟩:=aB a;refine bD [(1,a1 (He s) F0),(2,.al 92)] [3,19] [(7,.ptr 92 0)] [137] [(92,.c 210 [.b8 (bg .i64 (fN cM) d.gZ),.b8 (bg .i64 (fN cM) d.nh)])] ?_;obtain⟨n,x,a⟩:=aB a;refine ak [(3,a1 (GY x) FZ)] [] [(8,.b8 (bg .i64 (bW .i64) n))]<|ak [] [] [(9,.bC)]<|A.seq<|ak [] [1] [(10,u c)]<|A.block ?_
 obtain⟨C,I,D,a⟩:=fQ a;refine au6 (F:=C) a (λ(j,e)=>[(2,u b),(7,.ptr 92 0),(8,.b8 (bg .i64 (bW .i64) n)),(9,.own 122),(10,u e)]) (λ(j,e)=>[(92,.c 210 [.b8 (bg .i64 (fN cM) d.gZ),.b8 (bg .i64 (fN cM) d.nh)]),(122,.slice 3 1 (ag af j) 0 false)]) ?_ ?_
 .exact dJ [.ad 9 122 3 1] []
 rintro E ⟨j,e⟩ a;rw[D]at a;refine A.seq<|ak [] [] [(29,.bool (!decide (e=b)))] ?_
 rcases aV a with⟨f,a⟩|⟨f,a⟩
 .refine aT f<|A.skip<|A.seq<|A.block ?_
  obtain⟨k,v,a⟩:=aB a;refine ak [(3,a1 (Rz v) O3)] [10,29] [(11,aD af k)]<|A.seq<|ak [(1,ai (bu af k))] [] [(42,.d ((k.length:Int)=(0:Int)))] ?_
  rcases aV a with⟨m,a⟩|⟨m,a⟩
  .refine aT m<|aG [] [(6,.bC)] [] ?_
   cases a;exact A.ret bk
  refine aS m<|A.skip ?_
  obtain⟨H,w,a⟩:=aB a;obtain⟨h,z,a⟩:=aB a;refine c6 [(2,bh (ix af w)),(5,e9 152 (ap af (bytes:=8) (by decide) z))] [9,11,42] [(9,.own 152)] [122] [(152,.slice 3 1 (ag af h) 0 false)] ?_;obtain⟨p,o,a⟩:=aB a;exact bn [(2,ai (bu af h)),(4,bh (ix af o)),(5,dX 152 0 (ix af o))] [] [(10,u p)]<|Exists.intro (h,p) (And.intro a (dJ [.eC 152 122] []))
 refine aS f<|A.exit<|bD [] [2,7,8,9,10,29] [(6,.own 122)] [92] []<|A.ret ?_
 obtain rfl:=e0 a;exact auW aY [.bK [122]] rfl (by kernel_rfl)
end
section
open Go
set_option maxRecDepth 100000
set_option linter.all false
noncomputable section
def sX: Option aK:=
 gj ((5:Int)-(1:Int)).toNat (1:Int) (λ(d:Int) (e:(oO)->Option _) (c:(oO))=>aj (dP c ([(ck.mk (d:Int) true)]:oO)) λ(f:oO)=>e f) (λ(d:Int) (c:(oO))=>bZ ([(dL.mk (1:Int) (2:Int) (2:Int)),(dL.mk (1:Int) (3:Int) (3:Int)),(dL.mk (1:Int) (4:Int) (3:Int)),(dL.mk (2:Int) (3:Int) (2:Int)),(dL.mk (2:Int) (4:Int) (2:Int))]:List dL) 0 (λ(i:Int) (a:dL) (g:(oK)->Option _) (b:(oK))=>aj (dP b ([(bU.mk a.c5 a.yh a.jc a.jc (0:Int))]:oK)) λ(h:oK)=>g h) (λ(b:(oK))=>some (aK.mk c b)) []) []
def qh: fz:=
 aj (sX) λ(d:aK)=>lC d (1:Int) ([(3:Int),(4:Int)]:bH) λ(a:b0×Int×Int)=>aj (sX) λ(c:aK)=>aj (lD c (1:Int) ([(3:Int),(4:Int)]:bH) ([(bI.mk ([(2:Int),(3:Int),(4:Int)]:bH) (1:Int)),(bI.mk ([(3:Int)]:bH) (2:Int)),(bI.mk ([(4:Int)]:bH) (2:Int))]:mR)) λ(b:Int×Int)=>some ((decide (a.2.2=0))&&((decide (b.2=0))&&((decide (a.2.1=6))&&((decide (b.1=5))&&(decide (1<(a.1.Links.length:Int)))))))
end
end
section
open Go
set_option maxRecDepth 100000
set_option linter.all false
noncomputable section
def sK(l:mR):fz:=
 dn (λ(c:(Int×Int)->Option _) (b,a)=>bif ((decide (a<(l.length:Int)))&&(decide (b<2000)))then aj (bq l a) λ(d:bI)=>c (an (b+(d.aP.length:Int)),an (a+1))else some (decide (b<=1000))) ((l.length:Int),(0:Int))
def sW(m:bR)(l:mR):Option ((mR)×bR):=
 aj (dP ([]:mR) l) λ(d:mR)=>bif decide ((d.length:Int)=(0:Int))then aj (lz m (1:Int) (5:Int)) λ(k:Int×bR)=>aj (lz k.2 (0:Int) (3:Int)) λ(j:Int×bR)=>some (([(bI.mk ([k.1]:bH) j.1)]:mR),j.2)else aj (gW m (d.length:Int)) λ(a:Int×bR)=>aj (bq d a.1) λ(n:bI)=>aj (dP ([]:bH) n.aP) λ(s:bH)=>aj (e3 d a.1 (bI.mk s n.Value)) λ(c:mR)=>jn (λ(r:(mR)×(bH)×Int)=>match r with|(t,q,p)=>some (t,(bR.mk q p))) λe=>aj (gW a.2 (4:Int)) λ(b:Int×bR)=>bif decide (b.1=0)then aj (bq c a.1) λ(g:bI)=>aj (km b.2 ([(-1:Int),(1:Int),(2:Int),an (0-g.Value)]:bH)) λ(h:Int×bR)=>aj (e3 c a.1 (bI.mk g.aP (an (g.Value+h.1)))) λ(u:mR)=>e (u,h.2.L,h.2.At)else bif decide (b.1=1)then aj (bq c a.1) λ(i:bI)=>aj (h5 i.aP (0:Int) (an (Int.tdiv (i.aP.length:Int) (2:Int)))) λ(w:bH)=>aj (e3 c a.1 (bI.mk w i.Value)) λ(x:mR)=>e (x,b.2.L,b.2.At)else bif decide (b.1=2)then aj (bq c a.1) λ(o:bI)=>aj (lz b.2 (0:Int) (9:Int)) λ(f:Int×bR)=>aj (dP o.aP ([f.1]:bH)) λ(y:bH)=>aj (e3 c a.1 (bI.mk y o.Value)) λ(z:mR)=>e (z,f.2.L,f.2.At)else aj (bq c (0:Int)) λ(v:bI)=>aj (dP c ([v]:mR)) λ(A:mR)=>e (A,b.2.L,b.2.At)
end
end
section
open Go Go.Proofs.Tryz
set_option maxRecDepth 100000
set_option linter.all false
def Hl{r:aK}(a:sX=some r):bY prog 69 [] [] (.agg (aZ r)):=by
 refine bT func69 rfl rfl ?_;unfold sX at a;refine aG [(0,.al 67)] [(0,.ptr 67 0)] [(67,.c 28 [.bC,.bC])]<|bD [(0,.al 72)] [] [(1,.ptr 72 0)] [] [(72,.c 28 [.bC,.bC])]<|A.seq<|ak [] [] [(2,u 1)]<|A.block ?_
 obtain⟨p,q,m,o,a⟩:=kV a;refine avj (hi:=(5:Int)) (B:=p) (K:=q) a rfl (λc=>λd=>[(0,.ptr 67 0),(1,.ptr 72 0),(2,u c)]) (λc=>λd=>[(67,.c 28 [.bC,.bC]),(72,.c 28 [.own 85,.bC]),(85,.slice 31 2 (ag cp d) 0 false)]) ?_ ?_ ?_
 .exact dJ [.ac 72 85 31 2 0] []
 .rintro c E d s h a;rw[m]at a;refine A.seq<|ak [] [] [(6,.d ((c:Int)<=(4:Int)))] ?_
  refine au3 rfl (QT h)<|A.skip<|A.seq<|A.block ?_
  obtain⟨i,D,a⟩:=aB a;exact c6 [(5,e9 175 (ap cp (bytes:=16) (by decide) D))] [6] [] [72,85] [(72,.c 28 [.own 175,.bC]),(175,.slice 31 2 (ag cp i) 0 false)]<|bn [(1,ai (lg (by omega) h (by decide)))] [2] [(2,u (c+1:Int))]<|Exists.intro i (And.intro a (dJ [.eC 175 85] []))
 rintro c d s ch a;rw[o]at a;refine A.seq<|ak [] [] [(6,.d ((c:Int)<=(4:Int)))] ?_
 refine au1 rfl (QF ch)<|A.exit<|A.seq<|ak [(0,kv (rJ (n:=3) rA underlying179 sizeOf3)),(1,kv (rJ (n:=3) rA underlying179 sizeOf3)),(2,kv (rJ (n:=3) rA underlying179 sizeOf3)),(3,kv (rJ (n:=3) rA underlying179 sizeOf3)),(4,kv (rJ (n:=3) rA underlying179 sizeOf3)),(6,ai (bu xB ([(dL.mk (1:Int) (2:Int) (2:Int)),(dL.mk (1:Int) (3:Int) (3:Int)),(dL.mk (1:Int) (4:Int) (3:Int)),(dL.mk (2:Int) (3:Int) (2:Int)),(dL.mk (2:Int) (4:Int) (2:Int))]:List dL)))] [2,6] [(21,.aL true (ag xB ([(dL.mk (1:Int) (2:Int) (2:Int)),(dL.mk (1:Int) (3:Int) (3:Int)),(dL.mk (1:Int) (4:Int) (3:Int)),(dL.mk (2:Int) (3:Int) (2:Int)),(dL.mk (2:Int) (4:Int) (2:Int))]:List dL))),(22,u (([(dL.mk (1:Int) (2:Int) (2:Int)),(dL.mk (1:Int) (3:Int) (3:Int)),(dL.mk (1:Int) (4:Int) (3:Int)),(dL.mk (2:Int) (3:Int) (2:Int)),(dL.mk (2:Int) (4:Int) (2:Int))]:List dL).length:Int)),(23,u 0)]<|A.block<|auX 21 rfl λt=>?_
 obtain⟨v,y,w,x,a⟩:=cZ a;refine auV (l:=([(dL.mk (1:Int) (2:Int) (2:Int)),(dL.mk (1:Int) (3:Int) (3:Int)),(dL.mk (1:Int) (4:Int) (3:Int)),(dL.mk (2:Int) (3:Int) (2:Int)),(dL.mk (2:Int) (4:Int) (2:Int))]:List dL)) (cD:=0) (B:=v) (K:=y) a (λb=>λe=>[(0,.ptr 67 0),(1,.ptr 72 0),(21,.aL true (ag xB ([(dL.mk (1:Int) (2:Int) (2:Int)),(dL.mk (1:Int) (3:Int) (3:Int)),(dL.mk (1:Int) (4:Int) (3:Int)),(dL.mk (2:Int) (3:Int) (2:Int)),(dL.mk (2:Int) (4:Int) (2:Int))]:List dL))),(22,u (([(dL.mk (1:Int) (2:Int) (2:Int)),(dL.mk (1:Int) (3:Int) (3:Int)),(dL.mk (1:Int) (4:Int) (3:Int)),(dL.mk (2:Int) (3:Int) (2:Int)),(dL.mk (2:Int) (4:Int) (2:Int))]:List dL).length:Int)),(23,u b)]) (λb=>λe=>[(67,.c 28 [.bC,.bC]),(72,.c 28 [.own 85,.own 123]),(85,.slice 31 2 (ag cp d) 0 false),(123,.slice 62 5 (ag cC e) 0 false)]) ?_ ?_ ?_
 .exact dJ [.ac 72 123 62 5 1] []
 .rintro b g F e C f a;rw[w]at a;refine ak [] [] [(24,.d ((b:Int)<(([(dL.mk (1:Int) (2:Int) (2:Int)),(dL.mk (1:Int) (3:Int) (3:Int)),(dL.mk (1:Int) (4:Int) (3:Int)),(dL.mk (2:Int) (3:Int) (2:Int)),(dL.mk (2:Int) (4:Int) (2:Int))]:List dL).length:Int)))]<|A.seq<|aT (cU f)<|A.skip<|A.seq<|A.block<|bD [(0,bh (ix xB (cf f))),(2,.al 242)] [24] [(4,.ptr 242 0)] [] [(242,.c 179 [u g.c5,u g.yh,u g.jc])] ?_
  obtain⟨j,k,a⟩:=aB a;exact c6 [(2,lH underlying179 sizeOf3),(4,lH underlying179 sizeOf3),(6,lH underlying179 sizeOf3),(8,lH underlying179 sizeOf3),(12,e9 176 (ap cC (bytes:=40) (by decide) k))] [4] [] [72,123,242] [(72,.c 28 [.own 85,.own 176]),(176,.slice 62 5 (ag cC j) 0 false)]<|bn [(0,ai (cK f t))] [23] [(23,u ((b+1:Nat):Int))]<|Exists.intro j (And.intro a (dJ [.eC 176 123] []))
 rintro b e C z a;rw[x]at a;refine ak [] [] [(24,.d ((b:Int)<(([(dL.mk (1:Int) (2:Int) (2:Int)),(dL.mk (1:Int) (3:Int) (3:Int)),(dL.mk (1:Int) (4:Int) (3:Int)),(dL.mk (2:Int) (3:Int) (2:Int)),(dL.mk (2:Int) (4:Int) (2:Int))]:List dL).length:Int)))]<|A.seq<|aS (cT z)<|A.exit<|bD [] [1,21,22,23,24] [] [67,72] [(67,.c 28 [.own 85,.own 123])]<|A.ret ?_
 obtain rfl:=e0 a;exact auW aY [.bK [85,123]] rfl (by kernel_rfl)
def Hi{r:Bool}(d:qh=some r):bY prog 18 [] [] (.bool r):=by
 refine bT func18 rfl rfl ?_;unfold qh at d;refine aG [] [] [] ?_;obtain⟨m,k,d⟩:=aB d;refine avW aY 2 [3,4,5,6,7,8,9,10] [] [(0,a1 (Hl k) Gv)] (G1 d) Gp (by kernel_rfl) (by kernel_rfl) (by kernel_rfl) (by rintro _ _ ⟨rfl,_,_,rfl⟩;exact⟨rfl,rfl⟩) ?_;rintro _ _ ⟨rfl,a,d,rfl⟩
 try dsimp only at d
 refine⟨[(7,.al 186)],[(1,.ptr 186 0),(2,u a.2.1),(3,u a.2.2)],[(186,.cells 36 (c8 a.1))],by kernel_rfl,?_⟩;obtain⟨l,i,d⟩:=aB d;obtain⟨b,j,d⟩:=aB d;refine aG [(0,a1 (Hl i) Gv),(9,a1 (GX j) Gt)] [(1,.ptr 186 0),(2,u a.2.1),(3,u a.2.2),(4,u b.1),(5,u b.2)] [(186,.cells 36 (c8 a.1))]<|au4 [(0,.bool ((decide (a.2.2=0))&&((decide (b.2=0))&&((decide (a.2.1=6))&&((decide (b.1=5))&&(decide (1<(a.1.Links.length:Int))))))))] [] (λh=>?_) ?_
 .rcases fl (decide (a.2.2=0))with c|c
  .rcases fl (decide (b.2=0))with e|e
   .rcases fl (decide (a.2.1=6))with f|f
    .rcases fl (decide (b.1=5))with g|g
     .exact aG [(2,ai (be c)),(6,ai (be e)),(10,ai (be f)),(14,ai (be g)),(17,ai (bu bl a.1.Links)),(20,ai ((((gl (q:=decide (1<(a.1.Links.length:Int))) g).trans (gl (q:=((decide (b.1=5))&&(decide (1<(a.1.Links.length:Int))))) f)).trans (gl (q:=((decide (a.2.1=6))&&((decide (b.1=5))&&(decide (1<(a.1.Links.length:Int)))))) e)).trans (gl (q:=((decide (b.2=0))&&((decide (a.2.1=6))&&((decide (b.1=5))&&(decide (1<(a.1.Links.length:Int))))))) c)))] _ _ h
     exact aG [(2,ai (be c)),(6,ai (be e)),(10,ai (be f)),(14,ai (be g)),(20,ai ((((gP (q:=decide (1<(a.1.Links.length:Int))) g).trans (gl (q:=((decide (b.1=5))&&(decide (1<(a.1.Links.length:Int))))) f)).trans (gl (q:=((decide (a.2.1=6))&&((decide (b.1=5))&&(decide (1<(a.1.Links.length:Int)))))) e)).trans (gl (q:=((decide (b.2=0))&&((decide (a.2.1=6))&&((decide (b.1=5))&&(decide (1<(a.1.Links.length:Int))))))) c)))] _ _ h
    exact aG [(2,ai (be c)),(6,ai (be e)),(10,ai (be f)),(20,ai (((gP (q:=((decide (b.1=5))&&(decide (1<(a.1.Links.length:Int))))) f).trans (gl (q:=((decide (a.2.1=6))&&((decide (b.1=5))&&(decide (1<(a.1.Links.length:Int)))))) e)).trans (gl (q:=((decide (b.2=0))&&((decide (a.2.1=6))&&((decide (b.1=5))&&(decide (1<(a.1.Links.length:Int))))))) c)))] _ _ h
   exact aG [(2,ai (be c)),(6,ai (be e)),(20,ai ((gP (q:=((decide (a.2.1=6))&&((decide (b.1=5))&&(decide (1<(a.1.Links.length:Int)))))) e).trans (gl (q:=((decide (b.2=0))&&((decide (a.2.1=6))&&((decide (b.1=5))&&(decide (1<(a.1.Links.length:Int))))))) c)))] _ _ h
  exact aG [(2,ai (be c)),(20,ai (gP (q:=((decide (b.2=0))&&((decide (a.2.1=6))&&((decide (b.1=5))&&(decide (1<(a.1.Links.length:Int))))))) c))] _ _ h
 cases d;exact A.ret bk
def HP{l:mR}{r:Bool}(a:sK l=some r):bY prog 50 [] [aD bF l] (.bool r):=by
 refine bT func50 rfl rfl ?_;unfold sK at a;refine aG [] [(0,aD bF l)] []<|ak [(1,ai (bu bF l))] [] [(3,u l.length)]<|A.seq<|ak [] [] [(4,u 0)]<|A.block ?_
 obtain⟨h,m,i,a⟩:=fQ a;refine au6 (F:=h) a (λ(b,c)=>[(0,aD bF l),(3,u b),(4,u c)]) (λ(b,c)=>[]) ?_ ?_
 .exact cq
 rintro k ⟨b,c⟩ a;rw[i]at a;refine A.seq<|au4 [(0,aD bF l),(3,u b),(4,u c),(14,.bool ((decide (c<(l.length:Int)))&&(decide (b<2000))))] [] (λg=>?_) ?_
 .rcases fl (decide (c<(l.length:Int)))with d|d
  .exact aG [(2,ai (bu bF l)),(4,ai (be d)),(7,ai (gl (q:=decide (b<2000)) d))] _ _ g
  exact aG [(2,ai (bu bF l)),(4,ai (be d)),(7,ai (gP (q:=decide (b<2000)) d))] _ _ g
 rcases aV a with⟨e,a⟩|⟨e,a⟩
 .refine aT e<|A.skip<|A.seq<|A.block ?_
  obtain⟨f,j,a⟩:=aB a;exact bn [(3,bh (ix bF j)),(6,ai (bu af f.aP))] [3,14] [(3,u (an (b+(f.aP.length:Int))))]<|bn [] [4] [(4,u (an (c+1)))]<|aX (an (b+(f.aP.length:Int)),an (c+1)) a
 refine aS e<|A.exit<|aG [] [(2,.d (b<=1000))] [] ?_
 cases a;exact A.ret bk
end
section
set_option linter.all false
open Go
theorem zz{sz:Nat}(b:0<sz)(a vs:c4):A9 sz sz a vs=vs:=by
 unfold A9;apply List.ext_getElem?;intro j;rw[List.getElem?_mapIdx];have:=Nat.mod_lt j b
 grind
section
variable {G:bQ}{σ:W}{o:Oper}{ev:Operand->U}
variable {T sz:Nat}{β:Nat->Value}
def zw{cx:c2}{I:a2}{w:World}(k:bG G cx I β σ w){d e:Nat}{xs:List (List U)}{g:Option (fV×Nat)}(x:0<sz)(u:σ.get d=some (.fk T sz xs sz e g))(v:β d≠.nilFunc):
  ∃b aR a vs,β d=.slice (some ⟨b,0,none⟩) xs.length aR/\xs.length<=aR/\aR<=maxLen/\w.heap[b]?=some (.cells a T (0,0))/\a.size=aR*sz/\bX I xs.flatten vs/\(∀e∈xs,e.length=sz)/\kH β vs (a.toList.take (xs.length*sz)) g/\(∀o:Nat,I b o=none)/\Place cx b/\∃c,β e=.tuple c:=by
 have f:=k.b5 d _ u;simp only[bb,v,false_or]at f;obtain⟨b,aR,a,c,vs,l,m,i,j,p,n,y,⟨s,q,h⟩,r,t⟩:=f;rw[zz x]at h;exact⟨b,aR,a,vs,l,m,i,j,p,s,q,h,r,t,c,n⟩
variable {p t:Nat}
theorem kH.cell{Y zs:c4}(h:kH β Y zs (some (some p,t))):zs[p]?=some (β t)/\p<Y.length/\β t≠.nilFunc:=by
 obtain⟨D,u,rfl⟩:=h
 grind
variable {SA WV aM k:Nat}{bK:Bool}
theorem awz{d e:Nat}{xs rows:List (List U)}{x:Operand}(H:0<sz)(l:o.op=.load T x)(q:ev x=.ptr d p)(D:σ.get d=some (.fk SA sz xs sz e (some (some p,t))))(s:σ.get t=some (.slice aM WV rows k bK))(F:dN G.P T 1 false):
  Yields G o ev σ [] [d,t] (.own t):=
 .pure λO Z K β J M g c I=>by
  have a:=I x (by simp[l,Op.operands]);rw[q]at a
  simp only[az]at a;obtain⟨i,a,r⟩:=a;have z:β d≠.nilFunc:=λe=>by rw[e]at a;cases a
  obtain⟨b,aR,h,vs,v,P,N,u,R,Q,Y,y,X,W,_⟩:=zw c H (by rw[g d (by simp)];exact D) z;have A:b=i:=by rw[v]at a;simpa [bE]using a
  subst A;obtain⟨V,S,w⟩:=y.cell;have C:h[p]?=some (β t):=by grind
  have B:∀j,j<1->∃n,[β t][j]?=some n/\J.cell? ⟨b,p+j,none⟩=some n:=λj L=>by
   have:j=0:=by omega
   subst this;exact⟨β t,rfl,by simp[World.cell?,u,C]⟩
  have E:=m9 F (vs:=[β t]) B (λ_=>by omega);refine⟨β t,by simp[execOp,l,r,Instr.loadAt,Instr.sureAddr,E],?_⟩;simp only[az,true_and];have f:=c.b5 t _ (by rw[g t (by simp)];exact s);simp only[bb,w,false_or]at f;rcases f with⟨m,_⟩|⟨i,aR,h,m,_⟩<;>rw[m]<;>rfl
theorem Ck{a:c4}{m:Nat}(b:p<m)(c:m<=a.length)(v:Value):(ei a p [v]).take m=(a.take m).set p v:=by
 apply List.ext_getElem?;intro d;rw[List.getElem?_take,List.getElem?_set,List.getElem?_take];simp only[ei,List.length_singleton]
 grind
def Ec{v:Value}(a:fA v=true):v.oneCell'=true/\v.cells=#[v]:=by
 cases v<;>simp[fA]at a<;>exact⟨rfl,rfl⟩
variable {j:Nat}
theorem axk{d e:Nat}{xs rows:List (List U)}{x y:Operand}(aB:0<sz)(u:o.op=.store T x y)(V:ev x=.ptr d p)(a:ev y=.own j)(v:σ.get j=some (.slice aM WV rows k bK))(q:σ.get d=some (.slice SA sz xs 0 false))(A:p<xs.length*sz)(aA:dN G.P T 1 false)
  (R:σ.get e=none) (aw:G.ids.contains e=false) (ak:σ.clean [e].contains=true) :
  eL G o ev σ [d,e,j] [e] (λr aa=>r=.undef/\aa=(e,.bp [])::(d,.fk SA sz xs sz e (some (some p,j)))::σ.minus [d]):=by
 intro aW D β i Y n S;have f:=S x (by simp[u,Op.operands]);rw[V]at f
 have g:=S y (by simp[u,Op.operands]);rw[a]at g
 simp only[az]at f g;obtain⟨b,f,X⟩:=f;obtain⟨g,C⟩:=g;have ai:β d≠.nilFunc:=λe=>by rw[e]at f;cases f
 have I:=n.b5 d _ q;simp only[bb,ai,false_or]at I;rcases I with⟨aY,rfl,_⟩|⟨c,aR,h,F,H,Z,w,ae,ab,af,aG,aF,J,K⟩
 .simp at A
 have am:c=b:=by rw[F]at f;simpa [bE]using f
 subst am;have aT:e∉G.ids:=by simpa using aw
 have an:(σ.get d).isSome:=by rw[q];rfl
 have aS:(σ.get j).isSome:=by rw[v];rfl
 have gn:d≠e:=λl=>by subst l;rw[R]at q;cases q
 have Q:j≠e:=λl=>by subst l;rw[R]at v;cases v
 have aC:β j≠.nilFunc:=λe=>by rw[g,e]at C;simp[fA]at C
 have O:(β j).oneCell'=true/\(β j).cells=#[β j]:=Ec (by rw[<-g];exact C);have ax:xs.length*sz<=h.size:=by rw[ae];exact Nat.mul_le_mul_right sz H
 have aq:=p2 (P:=G.P) w [β j] (off:=p) (by simp;omega) (λaZ z=>by rw[List.mem_singleton.1 z];exact O.1);have ag:(execOp Y o).run G.P i=.ok .skip (i.setRow c (ei h.toList p [β j]).toArray):=by
  simp[execOp,u,X,g,Instr.storeAt,Instr.sureAddr,storeVar,aA.size,O.2,aq]
 rw[ag];have aD:dW i (i.setRow c (ei h.toList p [β j]).toArray) c:=dW.setRow i c _;have m:∀y,y≠e->et β e (.tuple #[]) y=β y:=λy a=>ff β _ a;have N:et β e (.tuple #[]) e=.tuple #[]:=eB _ _ _
 have L:∀y,y∉[d,e]->W.get ((e,.bp [])::(d,.fk SA sz xs sz e (some (some p,j)))::σ.minus [d]) y=σ.get y:=λy a=>by
  simp only[List.mem_cons,List.not_mem_nil,or_false,not_or]at a;rw[jB,if_neg (Ne.symm a.2),if_neg (Ne.symm a.1),if_neg (by simp[a.1])]
 have ar:∀y,y∈[d,e]->∀o,W.get ((e,.bp [])::(d,.fk SA sz xs sz e (some (some p,j)))::σ.minus [d]) y=some o->(y=d/\o=.fk SA sz xs sz e (some (some p,j)))\/(y=e/\o=.bp []):=λy a o E=>by
  rw[jB]at E;split at E
  .grind
  .grind
 have aU:∀y,y∈[d,e]->y=d\/y=e:=λy a=>by simpa using a
 have aV:∀t,t∉b3 (Value.tuple #[]):=λt s=>by rw[hX]at s;cases s
 refine⟨.undef,_,D,et β e (.tuple #[]),⟨rfl,rfl⟩,by simp[az,aN],?_,bM.refl D,λy a=>m y (by simpa using a),λy a=>L y (by simp only[List.mem_cons,List.not_mem_nil,or_false,not_or]at a ⊢;exact⟨a.1,a.2.1⟩)⟩;refine n.redo (M:=[d,e]) (news:=[e]) (b:=c) aD (λo=>?_) (λy a ao l=>?_) K (λy a=>L y a) (λy a=>m y (by simpa using a)) (λy a=>?_) (λy o _ B=>(au8 ak y o B).2) (λy a o B=>?_) (λy a c0 t s=>?_) (λy a a0 aX aI dM c0 t s aE=>?_)
 .cases o with
  |none=>exact n.kW w
  |some o=>exact J o (by omega)
 .exact n.cA d y an ao (λe=>a (by simp[e])) c (gv f) l
 .grind
 .rcases ar y a o B with⟨rfl,rfl⟩|⟨rfl,rfl⟩
  .have z:(h.toList.take (xs.length*sz)).length=xs.length*sz:=by rw[List.length_take];simp;omega
   simp only[bb,m y gn,N];refine .inr ⟨c,aR,_,#[],h.toList.take (xs.length*sz),F,H,Z,setRow_heap i c h _ SA _ w,by simp only[ei,List.size_toArray,List.length_append,List.length_take,List.length_drop,List.length_singleton,Array.length_toList];omega,rfl,λu=>by omega,⟨ab,af,?_⟩,λo=>J o (by omega),K⟩;rw[zz aB];refine⟨by rw[z];exact A,by rw[m j Q];exact aC,?_⟩;rw[m j Q];exact Ck A (by simpa using ax) _
  .simp only[bb,N];exact .inr ⟨#[],rfl,rfl⟩
 .grind
 .grind
theorem axi{d e:Nat}{xs rows:List (List U)}{x y:Operand}(H:0<sz)(n:o.op=.store T x y)(L:ev x=.ptr d p)(a:ev y=.own j)(aA:σ.get j=some (.slice aM WV rows k bK))(F:σ.get d=some (.fk SA sz xs sz e (some (some p,t))))(ao:dN G.P T 1 false):
  eL G o ev σ [d,j] [] (λr S=>r=.undef/\S=(d,.fk SA sz xs sz e (some (some p,j)))::σ.minus [d]):=by
 intro aE v β h O i J;have f:=J x (by simp[n,Op.operands]);rw[L]at f
 have g:=J y (by simp[n,Op.operands]);rw[a]at g
 simp only[az]at f g;obtain⟨b,f,N⟩:=f;obtain⟨g,u⟩:=g;have ag:β d≠.nilFunc:=λe=>by rw[e]at f;cases f
 obtain⟨c,aR,m,K,w,z,Q,q,Y,V,ab,af,B,A,s,aa⟩:=zw i H F ag;have ai:c=b:=by rw[w]at f;simpa [bE]using f
 subst ai;have ak:(σ.get d).isSome:=by rw[F];rfl
 have ar:β j≠.nilFunc:=λe=>by rw[g,e]at u;simp[fA]at u
 have E:(β j).oneCell'=true/\(β j).cells=#[β j]:=Ec (by rw[<-g];exact u);have an:xs.length*sz<=m.size:=by rw[Y];exact Nat.mul_le_mul_right sz z
 obtain⟨Z,aB,C⟩:=af;have ow:K.length=xs.length*sz:=by
  have:=congrArg List.length C
  grind
 have am:=p2 (P:=G.P) q [β j] (off:=p) (by simp;omega) (λaG R=>by rw[List.mem_singleton.1 R];exact E.1);have ae:(execOp O o).run G.P h=.ok .skip (h.setRow c (ei m.toList p [β j]).toArray):=by
  simp[execOp,n,N,g,Instr.storeAt,Instr.sureAddr,storeVar,ao.size,E.2,am]
 rw[ae];have ax:dW h (h.setRow c (ei m.toList p [β j]).toArray) c:=dW.setRow h c _
 have I:∀y,W.get ((d,.fk SA sz xs sz e (some (some p,j)))::σ.minus [d]) y=if d=y then some (.fk SA sz xs sz e (some (some p,j)))else σ.get y:=λy=>by
  rw[auU,avc];by_cases a:d=y
  .grind
  .grind
 have D:∀y,y∉[d]->W.get ((d,.fk SA sz xs sz e (some (some p,j)))::σ.minus [d]) y=σ.get y:=λy a=>by
  rw[I,if_neg λe=>a (by simp[e])]
 refine⟨.undef,_,v,β,⟨rfl,rfl⟩,by simp[az,aN],?_,bM.refl v,λy a=>rfl,λy a=>D y (by simp only[List.mem_cons,List.not_mem_nil,or_false,not_or]at a ⊢;exact a.1)⟩;refine i.redo (M:=[d]) (news:=[]) (b:=c) ax (λo=>?_) (λy a s X=>?_) A (λy a=>D y a) (λy a=>rfl) (λy a=>by cases a) (λy o _ l=>(au8 (avD σ) y o l).2) (λy a o l=>?_) (λy a c0 aw aq=>?_) (λy a aI aF aD dM c0 aw aq aC=>?_)
 .cases o with
  |none=>exact i.kW q
  |some o=>exact B o
 .exact i.cA d y ak s (λe=>a (by simp[e])) c (gv f) X
 .simp only[List.mem_singleton]at a;subst a;rw[I,if_pos rfl]at l;cases l;simp only[bb];refine .inr ⟨c,aR,_,s,K,w,z,Q,setRow_heap h c m _ SA _ q,by simp only[ei,List.size_toArray,List.length_append,List.length_take,List.length_drop,List.length_singleton,Array.length_toList];omega,aa,λn=>by omega,⟨V,ab,?_⟩,B,A⟩;rw[zz H];refine⟨Z,ar,?_⟩;rw[Ck (by omega) (by simpa using an),C,List.set_set]
 .grind
 .grind
end
theorem avA{G:bQ}{env:ah}{σ:W}{d e p t SA sz aM WV k:Nat}{xs rows:List (List U)}(a:List (List U))(I:0<sz)(h:σ.get d=some (.fk SA sz xs sz e (some (some p,t))))(j:σ.get t=some (.slice aM WV rows k true))
  (u:a.flatten=xs.flatten.set p (.aL false rows)) (i:a.length=xs.length) (L:∀e∈a,e.length=sz):bJ G env σ env ((d,.slice SA sz a 0 false)::σ.minus [d]):=λS f β Q V b s=>by
 have P:(σ.get d).isSome:=by rw[h];rfl
 have m:∀c,W.get ((d,.slice SA sz a 0 false)::σ.minus [d]) c=if d=c then some (.slice SA sz a 0 false)else σ.get c:=λc=>by
  rw[auU,avc];by_cases M:d=c
  .grind
  .grind
 refine⟨f,β,?_,s⟩;refine b.swap (d:=d) h (by rw[m,if_pos rfl]) (λX r=>by rw[m,if_neg (Ne.symm r)]) λg=>?_;by_cases l:β d=.nilFunc
 .simp only[bb];exact .inl l
 obtain⟨x,aR,n,T,y,z,v,w,B,A,O,H,E,D,_⟩:=zw b I h l;obtain⟨N,C,F⟩:=H;have K:az f β (.own t) (β t):=by
  simp only[az,true_and];have g:=b.b5 t _ j;simp only[bb,C,false_or]at g;rcases g with⟨q,_⟩|⟨R,aR,n,q,_⟩<;>rw[q]<;>rfl
 have J:aN f (.aL false rows) (β t):=by
  have:=b.slice j K;simpa only[az]using this
 simp only[bb];refine .inr (.inr ⟨x,aR,n,by rw[i];exact y,by rw[i];exact z,v,w,B,?_,L,Nat.zero_le _,(λb=>by cases b),(λo _=>E o),D⟩);rw[u,i,F];exact BV J p A
def Ed{α:Type}{e:fx α}{sz z:Nat}(b:∀x,(e.enc x).length=sz)(f:z<sz){v:U}:∀{l:List α} {i:Nat} {x y:α},l[i]?=some x->e.enc y=(e.enc x).set z v->(ag e (l.set i y)).flatten=(ag e l).flatten.set (i*sz+z) v
 |[],i,x,y,h,_=>by simp at h
 |a::r,0,x,y,h,c=>by
  simp at h;subst h;simp only[ag,List.set_cons_zero,List.map_cons,List.flatten_cons,Nat.zero_mul,Nat.zero_add];rw[List.set_append_left _ _ (by rw[b];exact f),c]
 |a::r,i+1,x,y,h,c=>by
  have d:=Ed (l:=r) (i:=i) b f (by simpa using h) c;simp only[ag,List.set_cons_succ,List.map_cons,List.flatten_cons]at d ⊢;rw[d,List.set_append_right _ _ (by rw[b,Nat.succ_mul];omega),b];congr 2;rw[Nat.succ_mul];omega
section
variable {P:Program}
def w3(SA e:Nat)(ids:cg)(op:Op)(env:ah)(σ:W):Option (bP×bL):=match op with
 |.store T x y=>(match env.bS x with
  |some (.ptr d p)=>(match env.bS y with
   |some (.own j)=>(match σ.get j with
    |some (.slice _ _ _ _ _)=>(match σ.get d with
     |some (.slice a sz xs 0 false)=>bif Nat.beq T SA&&Nat.ble 1 sz&&(σ.get e).isNone&&!ids.contains e&&σ.clean [e].contains then
       some (.e [d,e,j] [e] .undef ((e,.bp [])::(d,.fk a sz xs sz e (some (some p,j)))::σ.minus [d]),([.ptr 0 p],[(0,.slice 0 sz xs 0 false)]))else none
     |_=>none)
    |_=>none)
   |_=>none)
  |_=>none)
 |_=>none
variable {N SA p:Nat}{SC:bL}{env:ah}
def Ov{e sz:Nat}{xs:List (List U)}(r:dN P SA 1 false)(k:p<xs.length*sz){o:Oper}{ids:cg}{σ:W}{s:bP}
  (a:w3 SA e ids o.op env σ=some (s,SC)) (t:SC=([.ptr 0 p],[(0,.slice 0 sz xs 0 false)])):c7 ⟨P,N,ids⟩ o env σ s:=by
 cases c:o.op<;>rw[c]at a
 case store T x y=>
  simp only[w3]at a;split at a
  .rename_i D w g;split at a
   .rename_i j i;split at a
    .rename_i v z C aZ bK h;split at a
     .rename_i u A B q;obtain⟨f,⟨⟩⟩:=dG a;simp only[Bool.and_eq_true,Bool.not_eq_true']at f;obtain⟨⟨⟨⟨l,b⟩,m⟩,d⟩,n⟩:=f;obtain rfl:=Nat.eq_of_beq_eq_true l;have b:=Nat.le_of_ble_eq_true b;cases t;exact⟨axk b c (auS g) (auS i) h q k r (by simpa using m) d n,by simp only[List.all_cons,List.all_nil,d];rfl⟩
     .cases a
    .cases a
   .cases a
  .cases a
 all_goals (simp only[w3]at a;cases a)
def dM{SA:Nat}(e:Nat){p sz:Nat}{xs:List (List U)}(b:dN P SA 1 false)(a:p<xs.length*sz):Hint P:=
 .gs true ([.ptr 0 p],[(0,.slice 0 sz xs 0 false)]) (w3 SA e) λ_ _ _ _ _ _ _ c d=>Ov b a c d
def vZ(SA:Nat)(op:Op)(env:ah)(σ:W):Option (bP×bL):=match op with
 |.load T x=>(match env.bS x with
  |some (.ptr d p)=>(match σ.get d with
   |some (.fk _ sz _ a _ (some (some q,t)))=>(match σ.get t with
    |some (.slice _ _ _ _ _)=>bif Nat.beq T SA&&Nat.ble 1 sz&&Nat.beq a sz then some (.y [d,t] (.own t),([.ptr 0 p,.ptr 0 q],[]))else none
    |_=>none)
   |_=>none)
  |_=>none)
 |_=>none
def Ow(j:dN P SA 1 false){o:Oper}{ids:cg}{σ:W}{s:bP}
  (a:vZ SA o.op env σ=some (s,SC)) (k:SC=([.ptr 0 p,.ptr 0 p],[])):c7 ⟨P,N,ids⟩ o env σ s:=by
 cases c:o.op<;>rw[c]at a
 case load T x=>
  simp only[vZ]at a;split at a
  .rename_i v n e;split at a
   .rename_i l sz z q w y t i;split at a
    .rename_i m r u aZ bK g;obtain⟨d,⟨⟩⟩:=dG a;simp only[Bool.and_eq_true]at d;obtain⟨⟨h,b⟩,f⟩:=d;obtain rfl:=Nat.eq_of_beq_eq_true h;obtain rfl:=Nat.eq_of_beq_eq_true f;have b:=Nat.le_of_ble_eq_true b;cases k;exact awz b c (auS e) i g j
    .cases a
   .cases a
  .cases a
 all_goals (simp only[vZ]at a;cases a)
def ch{SA:Nat}(p:Nat)(a:dN P SA 1 false):Hint P:=.gs false ([.ptr 0 p,.ptr 0 p],[]) (λ_=>vZ SA) λ_ _ _ _ _ _ _ b c=>Ow a b c
def w4(SA:Nat)(op:Op)(env:ah)(σ:W):Option (bP×bL):=match op with
 |.store T x y=>(match env.bS x with
  |some (.ptr d p)=>(match env.bS y with
   |some (.own j)=>(match σ.get j with
    |some (.slice _ _ _ _ _)=>(match σ.get d with
     |some (.fk a sz xs b e (some (some q,_)))=>bif Nat.beq T SA&&Nat.ble 1 sz&&Nat.beq b sz then
       some (.e [d,j] [] .undef ((d,.fk a sz xs sz e (some (some p,j)))::σ.minus [d]),([.ptr 0 p,.ptr 0 q],[]))else none
     |_=>none)
    |_=>none)
   |_=>none)
  |_=>none)
 |_=>none
def Ox(l:dN P SA 1 false){o:Oper}{ids:cg}{σ:W}{s:bP}
  (a:w4 SA o.op env σ=some (s,SC)) (m:SC=([.ptr 0 p,.ptr 0 p],[])):c7 ⟨P,N,ids⟩ o env σ s:=by
 cases c:o.op<;>rw[c]at a
 case store T x y=>
  simp only[w4]at a;split at a
  .rename_i B r e;split at a
   .rename_i j h;split at a
    .rename_i q v A aZ bK g;split at a
     .rename_i n w z u C D t k;obtain⟨d,⟨⟩⟩:=dG a;simp only[Bool.and_eq_true]at d;obtain⟨⟨i,b⟩,f⟩:=d;obtain rfl:=Nat.eq_of_beq_eq_true i;obtain rfl:=Nat.eq_of_beq_eq_true f;have b:=Nat.le_of_ble_eq_true b;cases m;exact⟨axi b c (auS e) (auS h) g k l,by simp⟩
     .cases a
    .cases a
   .cases a
  .cases a
 all_goals (simp only[w4]at a;cases a)
def c0{SA:Nat}(p:Nat)(a:dN P SA 1 false):Hint P:=.gs true ([.ptr 0 p,.ptr 0 p],[]) (λ_=>w4 SA) λ_ _ _ _ _ _ _ b c=>Ox a b c
end
end
section
set_option linter.all false
open Go Go.Proofs.Tryz
theorem Ey{α:Type}{l:List α}{i:Int}{x:α}(a:bq l i=some x):l[i.toNat]?=some x:=by
 unfold bq at a
 grind
def HV{k:bR}{l:mR}{r:(mR)×bR}(b:sW k l=some r):cI prog 56 [(1,.cells 103 [.aL false (ag af k.L),.int .i64 k.At])] [.ptr 1 0,.aL false (ag bF l)] (λa Z=>a=.aL false (ag bF r.1)/\Z=[(1,.cells 103 [.aL false (ag af r.2.L),.int .i64 r.2.At])]):=by
 refine bT func56 rfl rfl ?_;unfold sW at b;refine auT aY [] [] [(0,.ptr 1 0),(1,.aL false (ag bF l))] [(1,.cells 103 [.aL false (ag af k.L),.int .i64 k.At])] (by kernel_rfl) ?_;obtain⟨g,aM,b⟩:=aB b;refine auT aY [] [(0,.al 56007),(2,e9 56509 (ap bF (bytes:=32) (by decide) aM))] [(0,.ptr 1 0),(5,.own 56509)] [(1,.cells 103 [.aL false (ag af k.L),.int .i64 k.At]),(56509,.slice 120 2 (ag bF g) 0 false)] (by kernel_rfl) ?_;refine A.seq ?_;refine auT aY [] [(1,ai (bu bF g))] [(0,.ptr 1 0),(5,.own 56509),(12,.bool (decide ((g.length:Int)=(0:Int))))] [(1,.cells 103 [.aL false (ag af k.L),.int .i64 k.At]),(56509,.slice 120 2 (ag bF g) 0 false)] (by kernel_rfl) ?_;rcases aV b with⟨F,b⟩|⟨F,b⟩
 .skip
  refine au3 rfl F ?_;obtain⟨Y,V,b⟩:=aB b;obtain⟨B,X,b⟩:=aB b;refine auT aY [] [(1,cS [] (pZ V) pL),(4,cS [] (pZ X) pL)] [(4,.aL true (ag bF ([(bI.mk ([Y.1]:bH) B.1)]:mR)))] [(1,.cells 103 [.aL false (ag af B.2.L),.int .i64 B.2.At])] (by kernel_rfl) ?_;refine A.ret ?_;obtain rfl:=e0 b;exact auW aY [] rfl (by kernel_rfl)
 refine au1 rfl F ?_;refine A.skip ?_;show ar _ _ _ _ _;obtain⟨c,W,b⟩:=aB b;obtain⟨G,D,b⟩:=aB b;refine auT aY [] [(3,ai (bu bF g)),(4,cS [] (hT W) h8),(5,bh (ix bF D))] [(0,.ptr 1 0),(5,.own 56509),(6,.ptr 56509 (c.1.toNat*2))] [(1,.cells 103 [.aL false (ag af c.2.L),.int .i64 c.2.At]),(56509,.slice 120 2 (ag bF g) 0 false)] (by kernel_rfl) ?_;obtain⟨i,ab,b⟩:=aB b;obtain⟨I,h,b⟩:=aB b;have L:=Ey D;have ax:c.1.toNat*2<(ag bF g).length*2:=by rw[g9];have:=(List.getElem?_eq_some_iff.1 L).1;omega
 have j:∀(N:bH) (r:mR),e3 g c.1 (bI.mk N G.Value)=some r->(ag bF r).flatten=(ag bF g).flatten.set (c.1.toNat*2) (.aL false (ag af N))/\(ag bF r).length=(ag bF g).length/\∀e∈ag bF r,e.length=2:=λN r x=>by
  unfold e3 at x;split at x
  .cases x;refine⟨Ed (e:=bF) (sz:=2) (z:=0) (λ_=>rfl) (by decide) L rfl,by simp[ag],λe aR=>?_⟩;obtain⟨aT,_,rfl⟩:=List.mem_map.1 aR;rfl
  .cases x
 refine auT aY [] [(1,.al 56027),(5,dX 56509 0 (ix bF D)),(6,e9 56532 (ap af (bytes:=8) (by decide) ab)),(9,dM 910000100 hN ax)] [(0,.ptr 1 0),(5,.own 56509),(6,.ptr 56509 (c.1.toNat*2))] [(1,.cells 103 [.aL false (ag af c.2.L),.int .i64 c.2.At]),(56509,.fk 120 2 (ag bF g) 2 910000100 (some (some (c.1.toNat*2),56532))),(910000100,.bp []),(56532,.slice 3 1 (ag af i) 0 false)] (by kernel_rfl) ?_;obtain⟨aa,ak,b⟩:=dx b;refine A.J (J:=aa) (r:=r) (λE=>match E with|(s,q,p)=>[(5,.own 147)]) (λE=>match E with|(s,q,p)=>[(1,.cells 103 [.aL false (ag af q),.int .i64 p]),(147,.slice 120 2 (ag bF s) 0 false)]) ?_ ?_
 .skip
  obtain⟨f,ao,b⟩:=aB b;refine auT aY [] [(1,cS [] (hT ao) h8)] [(0,.ptr 1 0),(5,.own 56509),(6,.ptr 56509 (c.1.toNat*2)),(36,.int .i64 f.1)] [(1,.cells 103 [.aL false (ag af f.2.L),.int .i64 f.2.At]),(56509,.fk 120 2 (ag bF g) 2 910000100 (some (some (c.1.toNat*2),56532))),(910000100,.bp []),(56532,.slice 3 1 (ag af i) 0 false)] (by kernel_rfl) ?_;refine A.block ?_;refine auT aY [] [] [(0,.ptr 1 0),(5,.own 56509),(6,.ptr 56509 (c.1.toNat*2)),(36,.int .i64 f.1),(43,.bool (decide (f.1=(0:Int))))] [(1,.cells 103 [.aL false (ag af f.2.L),.int .i64 f.2.At]),(56509,.fk 120 2 (ag bF g) 2 910000100 (some (some (c.1.toNat*2),56532))),(910000100,.bp []),(56532,.slice 3 1 (ag af i) 0 false)] (by kernel_rfl) ?_;rcases aV b with⟨C,b⟩|⟨C,b⟩
  .skip
   refine au3 rfl C ?_;refine auZ (cu:=[(0,.ptr 1 0),(5,.own 56509),(6,.ptr 56509 (c.1.toNat*2))]) (σ2:=[(1,.cells 103 [.aL false (ag af f.2.L),.int .i64 f.2.At]),(56509,.fk 120 2 (ag bF g) 2 910000100 (some (some (c.1.toNat*2),56532))),(910000100,.bp []),(56532,.slice 3 1 (ag af i) (ag af i).length true)]) (bJ.go [.bK [56532]] [] (by kernel_rfl)) ?_;refine auZ (avA (d:=56509) (e:=910000100) (t:=56532) (sz:=2) (ag bF I) (by decide) rfl rfl (j _ _ h).1 (j _ _ h).2.1 (j _ _ h).2.2) ?_;obtain⟨ae,u,b⟩:=aB b;obtain⟨n,aq,b⟩:=aB b;obtain⟨P,aA,b⟩:=aB b;refine A.R aY [] [(3,dX 56509 1 (ix bF u)),(8,dX 56509 1 (ix bF u)),(11,cS [] (m3 aq) n0),(15,hq 56509 (st bF (off:=1) (ca:=[.int .i64 (an (ae.Value+n.1))]) u aA rfl) (hY u).1.1)] [(5,.own 56509)] [(1,.cells 103 [.aL false (ag af n.2.L),.int .i64 n.2.At]),(56509,.slice 120 2 (ag bF P) 0 false)] (by kernel_rfl) ?_;exact Exists.intro (P,n.2.L,n.2.At) (And.intro b (bJ.go [.eC 56509 147] [] (by kernel_rfl)))
  refine au1 rfl C ?_;refine auT aY [] [] [(0,.ptr 1 0),(5,.own 56509),(6,.ptr 56509 (c.1.toNat*2)),(36,.int .i64 f.1),(60,.bool (decide (f.1=(1:Int))))] [(1,.cells 103 [.aL false (ag af f.2.L),.int .i64 f.2.At]),(56509,.fk 120 2 (ag bF g) 2 910000100 (some (some (c.1.toNat*2),56532))),(910000100,.bp []),(56532,.slice 3 1 (ag af i) 0 false)] (by kernel_rfl) ?_;rcases aV b with⟨y,b⟩|⟨y,b⟩
  .skip
   refine au3 rfl y ?_;refine auZ (cu:=[(0,.ptr 1 0),(5,.own 56509),(6,.ptr 56509 (c.1.toNat*2))]) (σ2:=[(1,.cells 103 [.aL false (ag af f.2.L),.int .i64 f.2.At]),(56509,.fk 120 2 (ag bF g) 2 910000100 (some (some (c.1.toNat*2),56532))),(910000100,.bp []),(56532,.slice 3 1 (ag af i) (ag af i).length true)]) (bJ.go [.bK [56532]] [] (by kernel_rfl)) ?_;refine auZ (avA (d:=56509) (e:=910000100) (t:=56532) (sz:=2) (ag bF I) (by decide) rfl rfl (j _ _ h).1 (j _ _ h).2.1 (j _ _ h).2.2) ?_;obtain⟨am,v,b⟩:=aB b;obtain⟨aD,aw,b⟩:=aB b;obtain⟨S,aF,b⟩:=aB b;refine A.R aY [] [(4,dX 56509 0 (ix bF v)),(8,dX 56509 0 (ix bF v)),(9,ai (bu af am.aP)),(10,.qr (2:Int) (by decide)),(11,eZ (sl af aw)),(14,hq 56509 (st bF (off:=0) (ca:=[.aL false (ag af aD)]) v aF rfl) (hY v).1.1)] [(5,.own 56509)] [(1,.cells 103 [.aL false (ag af f.2.L),.int .i64 f.2.At]),(56509,.slice 120 2 (ag bF S) 0 false)] (by kernel_rfl) ?_;exact Exists.intro (S,f.2.L,f.2.At) (And.intro b (bJ.go [.eC 56509 147] [] (by kernel_rfl)))
  refine au1 rfl y ?_;refine auT aY [] [] [(0,.ptr 1 0),(5,.own 56509),(6,.ptr 56509 (c.1.toNat*2)),(76,.bool (decide (f.1=(2:Int))))] [(1,.cells 103 [.aL false (ag af f.2.L),.int .i64 f.2.At]),(56509,.fk 120 2 (ag bF g) 2 910000100 (some (some (c.1.toNat*2),56532))),(910000100,.bp []),(56532,.slice 3 1 (ag af i) 0 false)] (by kernel_rfl) ?_;rcases aV b with⟨H,b⟩|⟨H,b⟩
  .skip
   refine au3 rfl H ?_;obtain⟨az,aE,b⟩:=aB b;obtain⟨m,aG,b⟩:=aB b;obtain⟨o,Q,b⟩:=aB b;obtain⟨K,w,b⟩:=aB b;have T:az=bI.mk i G.Value:=by
    unfold e3 at h;split at h
    .cases h;have:=Ey aE;rw[List.getElem?_set,if_pos rfl,if_pos (List.getElem?_eq_some_iff.1 L).1]at this;exact(Option.some.inj this).symm
    .cases h
   have aI:dP i ([m.1]:bH)=some o:=by rw[T]at Q;exact Q
   have M:e3 g c.1 (bI.mk o G.Value)=some K:=by
    rw[T]at w;unfold e3 at h w ⊢;split at h
    .rename_i O;cases h;rw[List.length_set,if_pos O,List.set_set]at w;rw[if_pos O];exact w
    .cases h
   refine A.R aY [] [(4,ch (c.1.toNat*2) hN),(6,cS [] (pZ aG) pL),(8,e9 56586 (ap af (bytes:=8) (by decide) aI)),(11,c0 (c.1.toNat*2) hN)] [(5,.own 56509)] [(1,.cells 103 [.aL false (ag af m.2.L),.int .i64 m.2.At]),(56509,.fk 120 2 (ag bF g) 2 910000100 (some (some (c.1.toNat*2),56586))),(910000100,.bp []),(56586,.slice 3 1 (ag af o) 0 false)] (by kernel_rfl) ?_;exact Exists.intro (K,m.2.L,m.2.At) (And.intro b ((bJ.go (cu:=[(5,.own 56509)]) (σ2:=[(1,.cells 103 [.aL false (ag af m.2.L),.int .i64 m.2.At]),(56509,.fk 120 2 (ag bF g) 2 910000100 (some (some (c.1.toNat*2),56586))),(910000100,.bp []),(56586,.slice 3 1 (ag af o) (ag af o).length true)]) [.bK [56586]] [] (by kernel_rfl)).trans ((avA (d:=56509) (e:=910000100) (t:=56586) (sz:=2) (ag bF K) (by decide) rfl rfl (j _ _ M).1 (j _ _ M).2.1 (j _ _ M).2.2).trans (bJ.go [.eC 56509 147] [] (by kernel_rfl)))))
  refine au1 rfl H ?_;refine auZ (cu:=[(0,.ptr 1 0),(5,.own 56509),(6,.ptr 56509 (c.1.toNat*2))]) (σ2:=[(1,.cells 103 [.aL false (ag af f.2.L),.int .i64 f.2.At]),(56509,.fk 120 2 (ag bF g) 2 910000100 (some (some (c.1.toNat*2),56532))),(910000100,.bp []),(56532,.slice 3 1 (ag af i) (ag af i).length true)]) (bJ.go [.bK [56532]] [] (by kernel_rfl)) ?_;refine auZ (avA (d:=56509) (e:=910000100) (t:=56532) (sz:=2) (ag bF I) (by decide) rfl rfl (j _ _ h).1 (j _ _ h).2.1 (j _ _ h).2.2) ?_;obtain⟨aS,R,b⟩:=aB b;obtain⟨U,aC,b⟩:=aB b;refine A.R aY [] [(2,bh (ix bF R)),(3,dX 56509 0 (ix bF R)),(5,e9 209 (ap bF (bytes:=32) (by decide) aC))] [(5,.own 209)] [(1,.cells 103 [.aL false (ag af f.2.L),.int .i64 f.2.At]),(209,.slice 120 2 (ag bF U) 0 false)] (by kernel_rfl) ?_;exact Exists.intro (U,f.2.L,f.2.At) (And.intro b (bJ.go [.eC 209 147] [] (by kernel_rfl)))
 rintro⟨s,q,p⟩ b;rw[ak]at b;refine auT aY [] [] [(4,.own 147)] [(1,.cells 103 [.aL false (ag af q),.int .i64 p]),(147,.slice 120 2 (ag bF s) 0 false)] (by kernel_rfl) ?_;refine A.ret ?_;obtain rfl:=e0 b;exact auW aY [.bK [147]] rfl (by kernel_rfl)
end
section
set_option linter.all false
open Go Go.Proofs.Tryz Go.RowKit Go.Shelf
attribute [local go_sem] Oper.semAt_some
set_option maxRecDepth 100000
def jm(m:List (aQ×Bool)):U:=.cW 175 [.dF [.b8 (e5 (iD bl) ew m)]]
def Mq(m:List (aQ×Bool)):bY prog 114 [] [.b8 (e5 (iD bl) ew m)] (jm m):=by
 refine bT func114 rfl rfl ?_;refine auT aY [] [(0,.al 910000000)] [(1,.ptr 910000000 0)] [(910000000,.cells 152 [.b8 (e5 (iD bl) ew m)])] (by kernel_rfl) ?_;refine auZ (avy (T:=152) (cs:=[.b8 (e5 (iD bl) ew m)]) 1 910000000 rfl rfl rfl) ?_;refine auT aY [] [(0,r1)] [(2,jm m)] [] (by kernel_rfl) ?_;refine A.ret ?_;exact auW aY [] rfl (by kernel_rfl)
def q7(x:aQ):Value:=.agg #[.int .i64 x.aO,.int .i64 x.aJ]
def q8(x:aQ):eN:=#[q7 x]
variable {I:a2}{m:List (aQ×Bool)}
def K1{es:dK}(b:c3 I (e5 (iD bl) ew m) es.toList):es.size=m.length/\∀(i:Nat) (e:MapEntry),es[i]?=some e->∃q,m[i]?=some q/\e.key=q7 q.1/\e.val=.bool q.2:=by
 have o:∀(m:List (aQ×Bool)) (d:iw),c3 I (e5 (iD bl) ew m) d->d.length=m.length:=by
  intro m;induction m with
  |nil=>intro d b;simp[e5,c3]at b;simp[b]
  |cons p r k=>
   intro d b;simp only[e5,List.map_cons,c3]at b;obtain⟨e,v,rfl,_,_,j⟩:=b;simp[k _ (by simpa [e5]using j)]
 have n:es.size=m.length:=by rw[<-o m es.toList b,Array.length_toList]
 refine⟨n,λi e g=>?_⟩;have u:i<es.size:=(Array.getElem?_eq_some_iff.1 g).1;have h:m[i]?=some m[i]:=List.getElem?_eq_getElem (by omega);obtain⟨f,l⟩:=tw b (i:=i) (a:=iD bl (m[i]'(by omega)).1) (c:=ew (m[i]'(by omega)).2) (e:=e) (by simp[e5,h]) (by simpa using g);refine⟨_,h,?_,by simpa [aN,ew]using l⟩;simp only[iD,aN]at f;obtain⟨w,s,t⟩:=f;have:=(vg I _ _).1 t;rw[s];unfold q7;congr 1;apply Array.toList_inj.1;rw[this];rfl
set_option maxHeartbeats 2000000 in
def Mr(F:Fence)(n:Nat)(H:F.fn 175)(a1:F.round=none)(ak:1<=n)(l u w b clock:Nat)(es:dK)(m:List (aQ×Bool))(N:c3 I (e5 (iD bl) ew m) es.toList)(o:fM es clock)(J:lR->World->Prop)
  (O:∀pre x a,J pre a->pre.length<m.length->YieldAt F (n-1) prog l (q8 x) a λe W'=>e=.returned (.bool true)/\J (pre++[x]) W'/\KeepsWalks a W')
  (a:World) (i:n9 a.heap.size J) (ar:a.cell? ⟨u,w,none⟩=some (.map (some b))) (h:a.heap[b]?=some (.map es clock)) (T:J [] a) :
  CallsIn F n prog 175 #[.func (.yield l) #[] #[],.pointer (some ⟨u,w,none⟩)] a λe W'=>(∃v,e=.returned v)/\∃p:lR,p.Perm (m.map Prod.fst)/\J p W':=by
 obtain⟨q,W⟩:=K1 N;have S:b<a.heap.size:=(Array.getElem?_eq_some_iff.1 h).1;refine callsIn_of_wp func175 rfl H ?_ a1;simp only[Tryz.ntmps175,List.size_toArray,List.length_cons,List.length_nil,Nat.reduceAdd,Nat.reduceSub,Array.replicate_succ,Array.replicate_zero,List.push_toArray,List.append_toArray,List.nil_append,List.cons_append]
 gi_wp2_with (first
  |(gi_at_range;refine Bc rfl _ 152 84 4 rfl underlying152 b clock es rfl h ?_)
  |gi_in)
 go_frame
 gi_loopw [3] (λ_ wr=>∃(seen:iz) (f:cg),wr.heap[a.heap.size]?=some (.mapIter (some b) clock seen clock)/\wr.heap[b]?=some (.map es clock)/\nV es m seen f/\J ((fC m f).map Prod.fst) wr)
  (λ_ wr=>match wr.heap[a.heap.size]? with|some (.mapIter _ _ seen _)=>es.size-seen.size|_=>0)
 case atStart=>
  exact⟨#[],[],World.alloc_heap_new a _,(Below.heap_alloc a _ b S).trans h,⟨List.nodup_nil,rfl,by simp,by simp⟩,i [] a _ none T (World.grownBy_alloc a _ none) (Nat.le_refl _) (λB e=>by cases e)⟩
 case round=>
  obtain⟨seen,f,j,Y,g,z⟩:=hrel
  gi_wp2_with (first
   |(gi_at_next;refine Bh rfl _ rfl b a.heap.size clock seen es rfl j Y o ?_ ?_)
   |gi_in)
  .intro X
   gi_wp2
   go_end0
   exact⟨⟨_,rfl⟩,_,(g.done q (by rw[X];rfl)).map _,z⟩
  .intro e ae c V R c0 r k y;obtain⟨A,K,ag,ai,P,U⟩:=g.step q o.1 (Array.mem_toList_iff.2 ae);obtain⟨d,E,G,C⟩:=W A e K;have M:J ((fC m f).map Prod.fst) c:=i _ wr c (some a.heap.size) z V R (λB e=>by cases e;exact⟨Nat.le_refl _,_,j,rfl⟩);have aa:=i _ c (c.alloc (.cells #[.int .i64 d.1.aO,.int .i64 d.1.aJ] 84)) none M (World.grownBy_alloc c _ none) (Nat.le_refl _) (λB e=>by cases e);have ab:=(Below.heap_alloc c (.cells #[.int .i64 d.1.aO,.int .i64 d.1.aJ] 84) _ (Array.getElem?_eq_some_iff.1 r).1).trans r;have Z:=(Below.heap_alloc c (.cells #[.int .i64 d.1.aO,.int .i64 d.1.aJ] 84) _ (Array.getElem?_eq_some_iff.1 k).1).trans k;obtain⟨aq,aw,an,ao,D,L⟩:=O _ d.1 _ aa (by rw[List.length_map,uw g.lt];exact U);rw[G,C]at y ⊢;simp only[q8,q7]at D y ⊢;clear c0
   gi_wp2
   refine L.mono ?_;rintro af am ⟨rfl,Q,s⟩
   gi_wp2
   have t:=s.same _ _ ab rfl
   go_roundw
   case rel=>exact⟨_,f++[A],t,s.same _ _ Z rfl,P,by rw[yx E,List.map_append];exact Q⟩
   case measure=>
    rw[t,j];have:=g.sz;simp only[Array.size_push];omega
variable {E T acE k:Nat}{P:Program}
theorem K2(d:gO P T E k acE)(w:World)(g p:Nat)(v:Value)(n:Nat)(xs:c4)(C:w.ownsRow p E k v n xs)(e:Addr)(c:Nat)(a:c4)(f:a.length=k)(o:∀j x,a[j]?=some x->w.cell? (e.add j)=some x)(B:∀x∈a,x.oneCell'=true)(N:acE<=4096)(A:(n+1)*acE<=140737488355328)(O:n+1<=140737488355328)(I:p<=w.heap.size):
  ∃i w',(Builtin.append_ #[T,T] g #[v,.slice (some e) 1 c]).run P w=.ok i w'/\w'.ownsRow p E k i (n+1) (xs++a)/\w.grownBy w' v.ownBlock/\w.drawn<=w'.drawn:=by
 obtain⟨q,y,m,r,b,s,L⟩:=d.info;have F:n+1<=maxLen:=by simp only[maxLen];omega
 obtain⟨i,w',l,H,G,Q⟩:=run_append_own (P:=P) w p T g E q y k acE d.ee m r b s L d.pos v n xs C e 1 c a (by rw[f,Nat.one_mul]) o B F A I;refine⟨i,w',l,H,G,?_⟩;rcases C.2 with⟨rfl,R⟩|⟨u,aR,t,rfl,_,z,V,S,K,U⟩
 .have:=run_append_nil (P:=P) w T g E q y d.ee m r e 1 c a (by rw[b,f,Nat.one_mul]) o (by omega) (by omega) (by rw[s];omega);rw[l]at this
  simp_all
 .by_cases D:n+1<=aR
  .have:=run_append_room (P:=P) w T g E q d.ee m u n aR t z e 1 c a (by rw[b,f,Nat.one_mul]) o B D (by rw[b,K,f];have:=Nat.mul_le_mul_right k D;rw[Nat.add_mul,Nat.one_mul]at this;exact this);rw[l]at this
   simp_all
  .have J:(t.toList.take (n*k)).length=n*k:=by grind
   have M:∀j x,(t.toList.take (n*k))[j]?=some x->w.cell? ((⟨u,0,none⟩:Addr).add j)=some x:=λj x h=>by
    rw[g2];rw[List.getElem?_take]at h;split at h
    .simp only[World.cell?,z,Nat.zero_add];simpa using h
    .cases h
   have:=run_append_grow (P:=P) w T g E q y d.ee m r ⟨u,0,none⟩ n aR _ (by rw[b];exact J) M e 1 c a (by rw[b,f,Nat.one_mul]) o (by omega) (by simp only[maxLen]at F;omega) (growslice_fits (by omega) (by rw[s];exact A));rw[l]at this
   simp_all
def HM{F:Fence}{n:Nat}{r:hU}{l:Exit->Act->World->Prop}{o:Oper}{p:List Oper}{a:Act}{w:World}(M:gO P T E k acE)(u:o.guard=none)(s x:Operand)(i:o.op=Op.call {callee:=Callee.builtin Builtin.append,args:=#[s,x],argTypes:=#[T,T]})
  (e:Nat) (f:Value) (m:Nat) (j:c4) (J:a.eval s=f) (K:w.ownsRow e E k f m j) (g:Addr) (h:Nat) (c:c4) (t:a.eval x=.slice (some g) 1 h) (L:c.length=k) (Q:∀q x,c[q]?=some x->w.cell? (g.add q)=some x) (O:∀x∈c,x.oneCell'=true) (v:acE<=4096) (y:(m+1)*acE<=140737488355328) (H:m+1<=140737488355328) (G:e<=w.heap.size)
  (A:∀d b,b.ownsRow e E k d (m+1) (j++c)->w.grownBy b f.ownBlock->w.drawn<=b.drawn->wpListIn F n P r l p (a.put o.dst d) b):wpListIn F n P r l (o::p) a w:=by
 refine wpListIn_plain u λR N=>?_;obtain⟨d,b,D,C,B,I⟩:=K2 M w o.type e f m j K g h c L Q O v y H G;unfold Oper.wpIn;refine⟨?_,?_⟩
 .simp[Oper.about,i,resolve,Target.leads,Sem.run_pure]
 .rw[Oper.semAt_plain F _ _ (by rw[i];intro h z;cases z)];simp[execOp,i,resolve,invoke,builtin,J,t,D,Result.andThen];exact N _ _ (A d b C B I)
structure rR(w:World)(pre:List aQ)(aH:World):Prop where
 below:Below w.heap.size w aH
 drawn:w.drawn<=aH.drawn
 box:∃v,aH.heap[w.heap.size]?=some (.cells #[v] 34 (0,0))/\aH.ownsRow (w.heap.size+1) 84 2 v pre.length (pre.map jW).flatten
set_option maxHeartbeats 4000000 in
theorem J2(F:Fence)(n:Nat)(ab:F.fn 196)(a1:F.round=none)(aY:3<=n)(g:Nat)(lb:eN)(aD:F.fn g)(aC:∀args w,(callFunc g args).run prog w=.ok (.enter g args) w)(N:Nat)(aX:N*16<=140737488355328)(S:lR->Prop)(w:World)
    (aE:∀(l:Nat) (J:lR->World->Prop) (a:World),Below w.heap.size w a->n9 a.heap.size J->(∀pre x H,J pre H->pre.length<N->YieldAt F (n-1-1) prog l (q8 x) H λe W'=>e=.returned (.bool true)/\J (pre++[x]) W'/\KeepsWalks H W')->J [] a->
      CallsIn F (n-1) prog g (#[.func (.yield l) #[] #[]]++lb) a λe W'=>(∃v,e=.returned v)/\∃B,S B/\J B W') :
    CallsIn F n prog 196 #[.slice none 0 0,.func (.func g) #[] lb] w λe W'=>∃v G,e=.returned v/\S G/\W'.ownsRow (w.heap.size+1) 84 2 v G.length (G.map jW).flatten/\Below w.heap.size w W'/\w.drawn<=W'.drawn:=by
  have aR:1<=n:=by omega
  refine callsIn_of_wp_marks func196 rfl ab ?_ a1;simp only[Tryz.ntmps196,List.size_toArray,List.length_cons,List.length_nil,Nat.reduceAdd,Nat.reduceSub,Array.replicate_succ,Array.replicate_zero,List.push_toArray,List.append_toArray,List.nil_append,List.cons_append]
  gi_wp2
  have W:(w.alloc (Obj.cells #[Value.slice none 0 0] 34)).heap[w.heap.size]?=some (.cells #[Value.slice none 0 0] 34 (0,0)):=World.alloc_heap_new w _;have M:rR w [] (w.alloc (Obj.cells #[Value.slice none 0 0] 34)):=⟨(Below.refl _ w).alloc (Nat.le_refl _) _,Nat.le_refl _,_,W,rfl,.inl ⟨rfl,rfl⟩⟩;have ar:(w.alloc (Obj.cells #[Value.slice none 0 0] 34)).heap.size=w.heap.size+1:=by simp
  generalize w.alloc (Obj.cells #[Value.slice none 0 0] 34)=ao at M ar ⊢;clear W
  have z:∀(s:lR) (a W':World) (T:fV),rR w s a->a.grownBy W' T->a.drawn<=W'.drawn->(∀d,T=some d->ao.heap.size<=d/\∃b:Obj,a.heap[d]?=some b/\b.isCells=false)->rR w s W':=λs a W' T C D az P=>by
    obtain⟨v,j,y⟩:=C.box;refine⟨C.below.grown D C.below.size λk e=>by have:=(P k e).1;omega,Nat.le_trans C.drawn az,v,(D.block _ (Array.getElem?_eq_some_iff.1 j).1 λe=>by have:=(P _ e.symm).1;omega).trans j,ny y D λd e=>?_⟩;obtain⟨_,b,aa,U⟩:=P d e;exact⟨b,aa,λm ag=>by rw[ag]at U;cases U⟩
  refine Ds a1 aR (gf:=g) (lb:=lb) rfl aD aC (encs:=q8) N S (λ_=>rfl) (rR w) z M (λl J a an ai aq aB=>aE l J a ?below ai aq aB)
    (λpre x E a=>rR w pre a/\∃o,a.heap[o]?=some (.cells #[.int .i64 x.aO,.int .i64 x.aJ] 84 (0,0))/\E={tmps:=#[.slice none 0 0,.func (.func g) #[] lb,.pointer (some ⟨w.heap.size,0,none⟩),undef,.slice none 0 0,.pointer (some ⟨o,0,none⟩),.func (.func g) #[] lb,.agg #[.int .i64 x.aO,.int .i64 x.aJ],undef,undef,undef,undef,undef],defers:=[]}) ?Am ?assign ?body ?done
  case below=>exact M.below.trans (an.mono (by omega))
  case Am=>
    rintro pre x E a l b aw aA ⟨aS,o,p,rfl⟩ f Y;exact⟨z _ _ _ (some l) aS (grownBy_putObj' a l aw) (Nat.le_refl _) (λd e=>by cases e;exact⟨aA,b,f,Y⟩),o,(World.putObj_heap_other λe=>by rw[e]at p;rw[p]at f;cases f;cases Y).trans p,rfl⟩
  case assign=>
    rintro l pre x a aT h ak;simp only[q8,q7]
    gi_wp2
    exact ak _ _ ⟨z _ _ _ none h (World.grownBy_alloc a _ none) (Nat.le_refl _) (λd e=>by cases e),a.heap.size,World.alloc_heap_new a _,rfl⟩ ((Below.refl _ a).alloc (Nat.le_refl _) _)
  case body=>
    rintro l pre x E a aV ⟨h,o,p,rfl⟩;have a5:a.cell? ⟨o,0,none⟩=some (.int .i64 x.aO):=by simp[World.cell?,p]
    have a6:a.cell? ⟨o,1,none⟩=some (.int .i64 x.aJ):=by simp[World.cell?,p]
    obtain⟨v,j,y⟩:=h.box;have aW:w.heap.size<a.heap.size:=(Array.getElem?_eq_some_iff.1 j).1;have ax:a.cell? ⟨w.heap.size,0,none⟩=some v:=by simp[World.cell?,j]
    have u:(a.alloc (.cells #[.int .i64 x.aO,.int .i64 x.aJ] 84)).ownsRow (w.heap.size+1) 84 2 v pre.length (pre.map jW).flatten:=ny y (World.grownBy_alloc a _ none) λd e=>by cases e
    have aG:∀R Q,[Value.int .i64 x.aO,Value.int .i64 x.aJ][R]?=some Q->(a.alloc (.cells #[.int .i64 x.aO,.int .i64 x.aJ] 84)).cell? ((⟨a.heap.size,0,none⟩:Addr).add R)=some Q:=by
      have:=World.alloc_heap_new a (.cells #[.int .i64 x.aO,.int .i64 x.aJ] 84);intro R Q aU;rw[g2]
      simp_all
    gi_wp2_with (first
      |(gi_at_builtin;refine HM zS rfl _ _ rfl (w.heap.size+1) v pre.length (pre.map jW).flatten rfl u ⟨a.heap.size,0,none⟩ 1 [.int .i64 x.aO,.int .i64 x.aJ] rfl rfl aG (by simp[Value.oneCell']) (by decide) (by omega) (by omega) (by simp;omega) ?_;intro af c Z O aI
        obtain⟨q,r,rfl⟩:∃q r,af=.slice (some ⟨q,0,none⟩) (pre.length+1) r:=by
           rcases Z.2 with⟨_,aZ⟩|⟨q,r,_,i,_⟩
           all_goals grind
        have I:∀(k:Nat) (b:Obj),a.heap[k]?=some b->(∀m,b≠.cells m 84 (0,0))->c.heap[k]?=some b:=λk b t f=>by
           have K:=(Below.heap_alloc a (.cells #[.int .i64 x.aO,.int .i64 x.aJ] 84) k (Array.getElem?_eq_some_iff.1 t).1).trans t;refine(O.block k (Array.getElem?_eq_some_iff.1 K).1 λe=>?_).trans K;rcases u.2 with⟨i,_⟩|⟨q,r,aF,i,_,aM,_⟩
           · rw[i]at e;cases e
           · rw[i]at e;cases e
             grind
        have A:c.heap[w.heap.size]?=some (.cells #[v] 34 (0,0)):=I _ _ j λm e=>by cases e
        have a3:c.cell? ⟨w.heap.size,0,none⟩=some v:=by simp[World.cell?,A]
        have a4:c.frozen? ⟨w.heap.size,0,none⟩=false:=by simp[World.frozen?,A]
        go_frame)
      |gi_in)
    have V:Below w.heap.size w c:=(h.below.alloc (by omega) (.cells #[.int .i64 x.aO,.int .i64 x.aJ] 84)).grown O (by have:=h.below.size;simp;omega) λk e=>by
      rcases u.2 with⟨i,_⟩|⟨q,r,aF,i,aM,_⟩
      · rw[i]at e;cases e
      · rw[i]at e;cases e;simp only;omega
    have kT:a.heap.size<=c.heap.size:=by have:=O.size;simp at this;omega
    refine⟨λk b K a0 t f=>(heap_setCell_other c _ k _ (by simp only;omega)).trans (I k b t λm e=>by rw[e]at f;cases f),⟨V.grown (grownBy_setCell' c _ _) V.size λk e=>by cases e;exact Nat.le_refl _,Nat.le_trans h.drawn aI,_,heap_setCell_same c w.heap.size 0 #[v] _ _ A,?_⟩,(show KeepsWalks a c from⟨kT,λk b t f=>I k b t λm e=>by rw[e]at f;cases f⟩).trans (KeepsWalks.setCell c _ _)⟩;have:=ny Z (grownBy_setCell' c w.heap.size (.slice (some ⟨q,0,none⟩) (pre.length+1) r)) λd e=>by cases e;exact⟨_,A,λm e=>by cases e⟩
    rw[show[Value.int .i64 x.aO,Value.int .i64 x.aJ]=jW x from rfl]at this;simpa using this
  case done=>
    rintro B cB a ae am h L;obtain⟨v,j,y⟩:=h.box;have ax:a.cell? ⟨w.heap.size,0,none⟩=some v:=by simp[World.cell?,j]
    gi_wp2
    refine⟨by simp,.inl ⟨_,_,rfl,run_takeDeferred L,?_⟩⟩;have X:=z _ _ _ (some cB) h (grownBy_putObj' a cB (.deferred none)) (Nat.le_refl _) λd e=>by cases e;exact⟨am,_,L,rfl⟩
    have u:=ny y (grownBy_putObj' a cB (.deferred none)) λd e=>by cases e;exact⟨_,L,λm e=>by cases e⟩
    exact⟨_,results_tmp rfl _ _ _,v,B,rfl,ae,by simpa using u,X.below,X.drawn⟩
theorem Oy(m:List (aQ×Bool))(T:m.length*16<=140737488355328)(d:Nat):cI prog 196 [] [.bC,jm m] (λa r=>∃c:lR,c.Perm (m.map Prod.fst)/\a=.own d/\r=[(d,.slice 84 2 (ag bl c) 0 false)]):=by
 intro C j I G aZ h B;simp only[bx,az,jm,aN,bX]at B;obtain⟨aU,aV,rfl,rfl,aS,aW,rfl,⟨ar,rfl,aw,aG,aA,⟨b,f,rfl,x⟩,rfl⟩,rfl⟩:=B;have:ar=#[.pointer (some ⟨b,f,none⟩)]:=Array.toList_inj.1 (by simpa using aA);subst this;simp only[gy,aN]at x;obtain⟨⟨aw,P,i,aB,ax,rfl,Y,V,R⟩,-⟩:=x;have y:=h.good _ _ _ P;obtain⟨aM,aT,A,aq⟩:=h.eD _ _ Y;obtain⟨rfl,rfl⟩:=qD aq;have hJ:i<j.heap.size:=(Array.getElem?_eq_some_iff.1 A).1;refine Calls.mono (callsIn_wide.1 (J2 Fence.wide 3 trivial rfl (Nat.le_refl _) 175 #[.pointer (some ⟨b,f,none⟩)] trivial (enters_of func175 (by kernel_rfl) rfl) m.length T (λc=>c.Perm (m.map Prod.fst)) j λaF J ak v O X an=>?_)) ?_
 .exact Mr Fence.wide 2 trivial rfl (by decide) aF b f i ax aB m V R J X ak O ((v.cell (p:=⟨b,f,none⟩) (World.block_lt_of_cell? j _ y)).trans y) ((v.block i hJ).trans A) an
 .rintro D F ⟨g,c,rfl,N,ab,n,af⟩;have w:∀k,j.heap.size<=k->∀f,I k f=none:=λk E=>h.fJ E;have q:=h.jE (cw:=[d]) (σ2:=[]) (env:=[]) ⟨λ_ _=>rfl,by simp[W.ids],rfl,rfl,λs l aX aY aC=>by simp[W.get]at aC⟩
  have fin:∀e,j.heap.size<=e->fA g=true->(bE g=some e\/b3 g=[])->bb C I (et (eg G [d]) d g) F d (.slice 84 2 (ag bl c) 0 false)->
    ∃u,Ending.returned g=Ending.returned u/\∃i r t H,(∃c:lR,c.Perm (m.map Prod.fst)/\i=U.own d/\r=[(d,b1.slice 84 2 (ag bl c) 0 false)])/\az t H i u/\bG ⟨prog,0,W.ids []⟩ C t H r F:=λe o eZ Z S=>by
   refine⟨_,rfl,.own d,_,I,et (eg G [d]) d g,⟨c,N,rfl,rfl⟩,by simp[az,eB,eZ],?_⟩
   refine q.turn (d:=d) (b:=e) ⟨λk E Q=>n.block k Q,n.size,n.tape,n.os,n.output,af⟩ (.inl (Nat.le_trans h.size o)) (λs l=>by rw[auU,if_neg (Ne.symm l)]) (λs l aa D=>by simp[W.get]at aa) (bM.refl I) (λ_ _ _=>rfl)
    (λf g q=>by rw[w e o]at q;cases q) (w e o none) (λs l=>ff _ _ l) (.inl (by simp[W.ids])) (avi (by simp[eg])) (by rw[eB];exact Z) λaI z=>?_
   rw[auU,if_pos rfl]at z;cases z;exact S
  rcases ab.2 with⟨rfl,am⟩|⟨e,aR,ai,rfl,o,ao,aD,K,M,L⟩
  .have:c=[]:=List.eq_nil_of_length_eq_zero am;subst this;exact fin j.heap.size (Nat.le_refl _) rfl (.inr rfl) (by simp[bb,eB,ag])
  .refine fin e (by omega) rfl (.inl rfl) ?_;simp only[bb,eB];have ae:(ag bl c).length=c.length:=by simp[ag]
   rw[ae];refine .inr (.inr ⟨e,aR,ai,rfl,aD,K,ao,by simpa using M,?_,?_,by omega,?_,?_,.inl (by have:=h.size;omega)⟩)
   .rw[L];exact(s6 (vg _) _ _).2 rfl
   .intro D aE;obtain⟨s,_,rfl⟩:=List.mem_map.1 aE;rfl
   all_goals grind
def K3{S:lR->Prop}(e:cI prog 196 [] [.bC,jm m] (λa c=>∃b:lR,S b/\a=.own 910000000/\c=[(910000000,.slice 84 2 (ag bl b) 0 false)])):
  cI prog 174 [] [jm m] (λa c=>∃b:lR,S b/\a=.own 910000000/\c=[(910000000,.slice 84 2 (ag bl b) 0 false)]):=by
 refine bT func174 rfl rfl ?_;refine auT aY [] [] [(0,jm m)] [] (by kernel_rfl) ?_;refine A.seq ?_;refine avo aY 1 [2] [] [(3,jm m),(0,jm m)] [] (by kernel_rfl) (by kernel_rfl) (by kernel_rfl) rfl rfl (avB (cb:=[]) [910000000] rfl rfl rfl rfl rfl ?_ e Pe) rfl rfl ?_
 .rintro g σ2 ⟨b,d,rfl,rfl⟩;simp[U.refs,W.clean,ho]
 rintro f c ⟨σ2,⟨b,d,rfl,rfl⟩,rfl⟩;refine⟨[],_,_,rfl,?_⟩;show ar _ _ _ _ _;refine A.ret ?_;refine h4.mono (auW aY [] (R:=.own 910000000) (σ2:=[(910000000,.slice 84 2 (ag bl b) 0 false)]) rfl (by kernel_rfl)) ?_;rintro a h ⟨rfl,rfl⟩;exact⟨b,d,rfl,rfl⟩
def IW{d:Nat}(m:List (aQ×Bool))(h:m.length<=100000){r:lR}(g:gA (c9 [λx:aQ=>x.aO,λx:aQ=>x.aJ]) (m.map Prod.fst)=some r):
  cI prog 113 [] [jm m,.fn 115 []] (λa b=>a=.own d/\b=[(d,.slice 84 2 (ag bl r) 0 false)]):=by
 refine hA.at [(910000000,d)] (eS:=[]) (args:=[jm m,.fn 115 []]) (r:=.own 910000000) (σ2:=[(910000000,.slice 84 2 (ag bl r) 0 false)]) ?_;refine bT func113 rfl rfl ?_;refine auT aY [] [] [(0,jm m),(1,.fn 115 [])] [] (by kernel_rfl) ?_;refine A.seq ?_;refine avo aY 1 [2] [] [(6,jm m),(0,jm m),(1,.fn 115 [])] [] (by kernel_rfl) (by kernel_rfl) (by kernel_rfl) rfl rfl (avB (cb:=[]) [910000000] rfl rfl rfl rfl rfl ?_ (K3 (Oy m (by omega) 910000000)) O4) rfl rfl ?_
 .rintro r σ2 ⟨c,e,rfl,rfl⟩;simp[U.refs,W.clean,ho]
 rintro i b ⟨σ2,⟨c,e,rfl,rfl⟩,rfl⟩;refine⟨[],_,_,rfl,?_⟩;show ar _ _ _ _ _;have f:gA (c9 [λx:aQ=>x.aO,λx:aQ=>x.aJ]) c=some r:=I1 g e;refine auT aY [] [(2,cS [] (Km (d:=910000000) (T:=84) f) FR)] [(5,.own 910000000)] [(910000000,.slice 84 2 (ag bl r) 0 false)] (by kernel_rfl) ?_;refine auT aY [] [] [(4,.own 910000000)] [(910000000,.slice 84 2 (ag bl r) 0 false)] (by kernel_rfl) ?_;refine A.ret ?_;exact auW aY [] (R:=.own 910000000) rfl (by kernel_rfl)
end
section
open Go Go.Proofs.Tryz
set_option maxRecDepth 100000
set_option linter.all false
def IX:rK prog 152 84 4 (iD bl) gH:=⟨underlying152,λ_=>rfl,λ_=>rfl,⟨_,underlying84,λ_ _=>rfl⟩,λa b c=>QC (by kernel_rfl) (by kernel_rfl) (z1 a.aO b.aO a.aJ b.aJ c),λe a c=>by kernel_rfl,λa b d=>by cases a;cases b;simpa [gH]using d,λa=>by simp[iD,bl,valOf,tX,Instr.sameBits]⟩
def RD{t:aK}{root:Int}{b:bH}{r:b0×Int}(a:l1 t root b=some r):bY prog 54 [] [.agg (aZ t),u root,aD af b] (.bO [.agg (c8 r.1),u r.2]):=by
 refine bT func54 rfl rfl ?_;unfold l1 at a;refine aG [(0,.al 44),(1,.al 38)] [(1,u root),(2,aD af b),(3,.ptr 44 0),(6,.ptr 38 0)] [(44,.cells 28 (aZ t)),(38,.c 36 [u 0,.bC])]<|A.seq ?_
 obtain⟨o,R,a⟩:=aB a;refine ak [(3,a1 (wD R) va)] [] [(8,u o)]<|ak [] [] [(21,.bool (!decide (o=0)))] ?_
 rcases aV a with⟨p,a⟩|⟨p,a⟩
 .refine aT p<|bD [] [1,2,3,8,21] [(7,u o)] [44] [] ?_
  cases a;exact A.ret bk
 refine aS p<|A.skip<|bD [(0,QK 58 84 4)] [8,21] [(9,.cc 58)] [] [(58,.map 84 4 (e5 (iD bl) ew []))]<|A.seq<|ak [(1,ai (bu af b))] [2] [(25,aD af b),(26,u b.length),(27,u 0)]<|A.block<|auX 25 rfl λI=>?_
 obtain⟨F,G,D,E,a⟩:=cZ a;refine auV (l:=b) (cD:=0) (B:=F) (K:=G) a (λe=>λg=>[(1,u root),(3,.ptr 44 0),(6,.ptr 38 0),(9,.cc 58),(25,aD af b),(26,u b.length),(27,u e)]) (λe=>λg=>[(44,.cells 28 (aZ t)),(38,.c 36 [u 0,.bC]),(58,.map 84 4 (e5 (iD bl) ew g))]) ?_ ?_ ?_
 .exact cq
 .rintro e v S g H m a;rw[D]at a;refine ak [] [] [(28,.d ((e:Int)<b.length))]<|A.seq<|aT (cU m)<|A.skip<|A.seq<|A.block<|ak [(0,bh (ix af (cf m)))] [28] [(11,u v)] ?_
  obtain⟨c,x,a⟩:=aB a;refine ak [(3,a1 (RR x) Px)] [] [(12,aD af c)]<|A.seq<|au4 [(1,u root),(3,.ptr 44 0),(6,.ptr 38 0),(9,.cc 58),(25,aD af b),(26,u b.length),(27,u e),(12,aD af c),(42,.bool ((!decide (v=root))&&(decide ((c.length:Int)=(0:Int)))))] [(44,.cells 28 (aZ t)),(38,.c 36 [u 0,.bC]),(58,.map 84 4 (e5 (iD bl) ew g))] (λw=>?_) ?_
  .rcases fl (!decide (v=root))with k|k
   .exact aG [(3,ai (be k)),(5,ai (bu af c)),(7,ai (gl (q:=decide ((c.length:Int)=(0:Int))) k))] _ _ w
   exact aG [(3,ai (be k)),(7,ai (gP (q:=decide ((c.length:Int)=(0:Int))) k))] _ _ w
  rcases aV a with⟨n,a⟩|⟨n,a⟩
  .refine aT n<|bD [] [1,3,9,25,26,27,12,42] [(7,u 9)] [44,58] [] ?_
   cases a;exact A.ret bk
  refine aS n<|A.skip<|ak [] [42] [(13,u root)]<|ak [(1,ai (bu af c))] [12] [(45,aD af c),(46,u c.length),(47,u 0)]<|A.block<|auX 45 rfl λJ=>?_
  obtain⟨L,O,M,N,a⟩:=cZ a;refine auV (l:=c) (cD:=0) (B:=L) (K:=O) a (λh=>λ(i,f)=>[(1,u root),(3,.ptr 44 0),(6,.ptr 38 0),(9,.cc 58),(13,u i),(25,aD af b),(26,u b.length),(27,u e),(45,aD af c),(46,u c.length),(47,u h)]) (λh=>λ(i,f)=>[(44,.cells 28 (aZ t)),(38,.c 36 [u 0,.bC]),(58,.map 84 4 (e5 (iD bl) ew f))]) ?_ ?_ ?_
  .exact cq
  .rintro h j T ⟨i,f⟩ Q s a;rw[M]at a;exact ak [] [] [(48,.d ((h:Int)<c.length))]<|A.seq<|aT (cU s)<|A.skip<|A.seq<|A.block<|ak [(0,bh (ix af (cf s)))] [48] [(15,u j)]<|bD [(4,QI f (aQ.mk i j) ew true IX rfl)] [13] [] [58] [(58,.map 84 4 (e5 (iD bl) ew (g7 gH f (aQ.mk i j) true)))]<|bn [] [15] [(13,u j)]<|bn [(0,ai (cK s J))] [47] [(47,u ((h+1:Nat):Int))]<|aX (j,g7 gH f (aQ.mk i j) true) a
  rintro h ⟨i,f⟩ Q P a;rw[N]at a;exact ak [] [] [(48,.d ((h:Int)<c.length))]<|A.seq<|aS (cT P)<|A.exit<|bn [(0,ai (cK m I))] [13,27,45,46,47,48] [(27,u ((e+1:Nat):Int))]<|aX f a
 rintro e g H ch a;rw[E]at a;refine ak [] [] [(28,.d ((e:Int)<b.length))]<|A.seq<|aS (cT ch)<|A.exit<|auZ (cu:=[(1,u root),(3,.ptr 44 0),(6,.ptr 38 0),(9,.b8 (e5 (iD bl) ew g)),(25,aD af b),(26,u b.length),(27,u e),(28,.d ((e:Int)<b.length))]) (σ2:=[(44,.cells 28 (aZ t)),(38,.c 36 [u 0,.bC])]) (dJ [.bK [58]] [9]) ?_
 obtain⟨C,a⟩:=gC a;obtain⟨z,y,a⟩:=aB a;refine aG [(2,a1 (Mq g) Pz),(3,cS [542054001] (IW (d:=542054001) g (of_decide_eq_true C) y) Py)] [(6,.ptr 38 0),(7,u 0)] [(38,.c 36 [u root,.own 542054001]),(542054001,.slice 84 2 (ag bl z) 0 false)]<|A.ret ?_
 obtain rfl:=e0 a;exact auW aY [.bK [542054001]] rfl (by kernel_rfl)
variable {r:(bH)}{t:aK}
def HQ{d:bH}{g:Int}(a:sL t d g=some r):bY prog 176 [] [.agg (aZ t),aD af d,u g] (aD af r):=by
 refine bT func176 rfl rfl ?_;unfold sL at a;refine aG [(0,.al 63)] [(1,aD af d),(2,u g),(3,.ptr 63 0)] [(63,.cells 28 (aZ t))]<|ak [] [] [(7,.bC)] ?_
 obtain⟨b,Q,a⟩:=aB a;refine ak [(3,a1 (sJ Q) rE)] [] [(8,u b)]<|A.seq<|au4 [(1,aD af d),(2,u g),(3,.ptr 63 0),(7,.bC),(8,u b),(22,.bool ((decide (b=1073741824))||(decide (b=0))))] [(63,.cells 28 (aZ t))] (λx=>?_) ?_
 .rcases fl (decide (b=1073741824))with i|i
  .exact aG [(2,ai (be i)),(5,ai (k4 (q:=decide (b=0)) i))] _ _ x
  exact aG [(2,ai (be i)),(5,ai (iQ (q:=decide (b=0)) i))] _ _ x
 rcases aV a with⟨m,a⟩|⟨m,a⟩
 .refine aT m<|aG [] [(6,.bC)] [] ?_
  cases a;exact A.ret bk
 refine aS m<|A.skip ?_
 obtain⟨c,y,a⟩:=aB a;refine ak [(2,a1 (HW y) Pf)] [22] [(9,aD af c)]<|A.seq<|ak [] [] [(10,u 0)]<|A.block<|auX 9 rfl λI=>?_
 obtain⟨F,G,D,E,a⟩:=cZ a;refine auV (l:=c) (cD:=0) (B:=F) (K:=G) a (λe=>λh=>[(1,aD af d),(2,u g),(3,.ptr 63 0),(7,.own 88),(8,u b),(9,aD af c),(10,u e)]) (λe=>λh=>[(63,.cells 28 (aZ t)),(88,.slice 3 1 (ag af h) 0 false)]) ?_ ?_ ?_
 .exact dJ [.ad 7 88 3 1] []
 .rintro e T R h H f a;rw[D]at a;refine A.seq<|ak [(2,ai (bu af c))] [] [(29,.d ((e:Int)<c.length))] ?_
  refine aT (cU f)<|A.skip ?_
  obtain⟨M,O,a⟩:=dx a;refine A.J (J:=M) (r:=r) (λj=>[(1,aD af d),(2,u g),(3,.ptr 63 0),(7,.own 88),(8,u b),(9,aD af c),(10,u e)]) (λj=>[(63,.cells 28 (aZ t)),(88,.slice 3 1 (ag af j) 0 false)]) ?_ ?_
  .refine A.block ?_;obtain⟨n,C,a⟩:=aB a;refine ak [(4,bh (ix af (cf f))),(6,a1 (Bf C) zX)] [29] [(11,u n.1)] ?_;obtain⟨L,P,a⟩:=dx a;refine A.J (J:=L) (r:=r) (λo=>[(1,aD af d),(2,u g),(3,.ptr 63 0),(7,.own 88),(8,u b),(9,aD af c),(10,u e),(62,.bool o)]) (λo=>[(63,.cells 28 (aZ t)),(88,.slice 3 1 (ag af h) 0 false)]) ?_ ?_
   .obtain⟨S,s,a⟩:=aB a;rcases aV a with⟨k,a⟩|⟨k,a⟩
    .obtain⟨w,z,a⟩:=aB a;exact bn [(4,bh (ix af (cf f))),(6,a1 (sJ s) rE),(8,ai (be k)),(14,bh (ix af (cf f))),(16,a1 (sJ z) rE)] [11] [(62,.d (an (n.1+w)=b))]<|aX (decide (an (n.1+w)=b)) a
    exact bn [(4,bh (ix af (cf f))),(6,a1 (sJ s) rE),(8,ai (be k))] [11] [(62,.bool false)]<|aX false a
   rintro o a;rw[P]at a;rcases aV a with⟨p,a⟩|⟨p,a⟩
   .refine aT p ?_;obtain⟨v,N,a⟩:=aB a;exact c6 [(3,bh (ix af (cf f))),(6,e9 200 (ap af (bytes:=8) (by decide) N))] [7,62] [(7,.own 200)] [88] [(200,.slice 3 1 (ag af v) 0 false)]<|Exists.intro v (And.intro a (dJ [.eC 200 88] []))
   exact aS p<|A.skip<|aX h a
  rintro j a;rw[O]at a;exact bn [(1,ai (cK f I))] [10] [(10,u ((e+1:Nat):Int))]<|aX j a
 rintro e h H ch a;rw[E]at a;refine A.seq<|ak [(2,ai (bu af c))] [] [(29,.d ((e:Int)<c.length))] ?_
 refine aS (cT ch)<|A.exit<|bD [] [1,2,3,7,8,9,10,29] [(6,.own 88)] [63] []<|A.ret ?_
 obtain rfl:=e0 a;exact auW aY [.bK [88]] rfl (by kernel_rfl)
variable {Ui Uj:Int}
def HR(a:sM t Ui Uj=some r):bY prog 116 [] [.agg (aZ t),u Ui,u Uj] (aD af r):=by
 refine bT func116 rfl rfl ?_;unfold sM at a;refine aG [(0,.al 79)] [(1,u Ui),(2,u Uj),(3,.ptr 79 0)] [(79,.cells 28 (aZ t))]<|A.seq ?_
 obtain⟨v,x,a⟩:=dx a;refine A.J (J:=v) (r:=r) (λh=>[(1,u Ui),(2,u Uj),(3,.ptr 79 0),(19,.bool h)]) (λh=>[(79,.cells 28 (aZ t))]) ?_ ?_
 .obtain⟨C,n,a⟩:=aB a;rcases aV a with⟨e,a⟩|⟨e,a⟩
  .exact bn [(2,a1 (lF n) lX),(4,ai (be e))] [] [(19,.bool true)]<|aX true a
  obtain⟨j,o,a⟩:=aB a;exact bn [(2,a1 (lF n) lX),(4,ai (be e)),(7,a1 (lF o) lX)] [] [(19,.bool (!j))]<|aX (!j) a
 rintro h a;rw[x]at a;rcases aV a with⟨d,a⟩|⟨d,a⟩
 .refine aT d<|aG [] [(6,.bC)] [] ?_
  cases a;exact A.ret bk
 refine aS d<|A.skip ?_
 obtain⟨l,s,a⟩:=aB a;refine ak [(2,a1 (Hy s) FP)] [19] [(7,aD af l)]<|ak [] [] [(8,.bC)]<|A.seq<|A.block ?_
 obtain⟨y,D,z,a⟩:=fQ a;refine au6 (F:=y) a (λ(b,f)=>[(1,u b),(2,u Uj),(3,.ptr 79 0),(7,aD af l),(8,.own 120)]) (λ(b,f)=>[(79,.cells 28 (aZ t)),(120,.slice 3 1 (ag af f) 0 false)]) ?_ ?_
 .exact dJ [.ad 8 120 3 1] []
 rintro B ⟨b,f⟩ a;rw[z]at a;refine A.seq<|ak [] [] [(25,.bool (!decide (b=Uj)))] ?_
 rcases aV a with⟨c,a⟩|⟨c,a⟩
 .refine aT c<|A.skip<|A.block ?_
  obtain⟨g,p,a⟩:=aB a;refine ak [(3,a1 (HQ p) O5)] [1,25] [(9,aD af g)]<|A.seq<|ak [(1,ai (bu af g))] [] [(32,.d ((g.length:Int)=(0:Int)))] ?_
  rcases aV a with⟨i,a⟩|⟨i,a⟩
  .refine aT i<|aG [] [(6,.bC)] [] ?_
   cases a;exact A.ret bk
  refine aS i<|A.skip ?_
  obtain⟨m,q,a⟩:=aB a;refine ak [(1,bh (ix af q))] [9,32] [(1,u m)] ?_;obtain⟨k,w,a⟩:=aB a;exact c6 [(3,e9 194 (ap af (bytes:=8) (by decide) w))] [8] [(8,.own 194)] [120] [(194,.slice 3 1 (ag af k) 0 false)]<|Exists.intro (m,k) (And.intro a (dJ [.eC 194 120] []))
 refine aS c<|A.exit<|bD [] [1,2,3,7,8,25] [(6,.own 120)] [79] []<|A.ret ?_
 obtain rfl:=e0 a;exact auW aY [.bK [120]] rfl (by kernel_rfl)
variable {l:mR}
def A7{r:Int}(a:p9 l Ui Uj=some r):bY prog 118 [] [aD bF l,u Ui,u Uj] (u r):=by
 refine bT func118 rfl rfl ?_;unfold p9 at a;refine aG [] [(0,aD bF l),(1,u Ui),(2,u Uj)] []<|ak [] [] [(7,u 0)]<|A.seq<|ak [(1,ai (bu bF l))] [0] [(10,aD bF l),(11,u l.length),(12,u 0)]<|A.block<|auX 10 rfl λt=>?_
 obtain⟨p,q,n,o,a⟩:=cZ a;refine auV (l:=l) (cD:=0) (B:=p) (K:=q) a (λb=>λc=>[(1,u Ui),(2,u Uj),(7,u c),(10,aD bF l),(11,u l.length),(12,u b)]) (λb=>λc=>[]) ?_ ?_ ?_
 .exact cq
 .rintro b e z c s f a;rw[n]at a;refine ak [] [] [(13,.d ((b:Int)<l.length))]<|A.seq<|aT (cU f)<|A.skip ?_
  obtain⟨w,x,a⟩:=dx a;refine A.J (J:=w) (r:=r) (λd=>[(1,u Ui),(2,u Uj),(7,u d),(10,aD bF l),(11,u l.length),(12,u b)]) (λd=>[]) ?_ ?_
  .refine A.block<|bD [(0,bh (ix bF (cf f))),(2,.al 138)] [13] [(9,.ptr 138 0)] [] [(138,.cells 120 (i0 e))] ?_
   obtain⟨v,y,a⟩:=dx a;refine A.J (J:=v) (r:=r) (λi=>[(1,u Ui),(2,u Uj),(7,u c),(9,.ptr 138 0),(10,aD bF l),(11,u l.length),(12,u b),(26,.bool i)]) (λi=>[(138,.cells 120 (i0 e))]) ?_ ?_
   .obtain⟨C,k,a⟩:=aB a;rcases aV a with⟨h,a⟩|⟨h,a⟩
    .obtain⟨j,m,a⟩:=aB a;exact bn [(3,a1 (jO k) j8),(4,ai (be h)),(8,a1 (jO m) j8)] [] [(26,.bool (!j))]<|aX (!j) a
    exact bn [(3,a1 (jO k) j8),(4,ai (be h))] [] [(26,.bool false)]<|aX false a
   rintro i a;rw[y]at a;rcases aV a with⟨g,a⟩|⟨g,a⟩
   .exact aT g<|c6 [] [7,9,26] [(7,u (an (c+e.Value)))] [138] []<|aX (an (c+e.Value)) a
   exact aS g<|A.skip<|aX c a
  rintro d a;rw[x]at a;exact bn [(0,ai (cK f t))] [12] [(12,u ((b+1:Nat):Int))]<|aX d a
 rintro b c s ch a;rw[o]at a;refine ak [] [] [(13,.d ((b:Int)<l.length))]<|A.seq<|aS (cT ch)<|A.exit<|aG [] [(6,u c)] [] ?_
 cases a;exact A.ret bk
variable {SI:bH}{root:Int}
def RE{r:Int×Int}(a:m8 t root SI l=some r):bY prog 57 [] [.agg (aZ t),u root,aD af SI,aD bF l] (.bO [u r.1,u r.2]):=by
 refine bT func57 rfl rfl ?_;unfold m8 at a;refine aG [(0,.al 31)] [(1,u root),(2,aD af SI),(3,aD bF l),(4,.ptr 31 0)] [(31,.cells 28 (aZ t))]<|A.seq ?_
 obtain⟨p,aR,a⟩:=aB a;refine ak [(3,a1 (Bg aR) Ap)] [] [(10,u p)]<|ak [] [] [(24,.bool (!decide (p=0)))] ?_
 rcases aV a with⟨q,a⟩|⟨q,a⟩
 .refine aT q<|aG [] [(8,u 0),(9,u p)] [] ?_
  cases a;exact A.ret bk
 refine aS q<|A.skip<|A.seq<|ak [(1,ai (bu bF l))] [10,24] [(28,.d (200<(l.length:Int)))] ?_
 rcases aV a with⟨o,a⟩|⟨o,a⟩
 .refine aT o<|aG [] [(8,u 0),(9,u 1)] [] ?_
  cases a;exact A.ret bk
 refine aS o<|A.skip<|ak [] [28] [(11,u 0)]<|A.seq<|ak [(1,ai (bu bF l))] [] [(29,aD bF l),(30,u l.length),(31,u 0)]<|A.block<|auX 3 rfl λW=>?_
 obtain⟨T,U,R,S,a⟩:=cZ a;refine auV (l:=l) (cD:=0) (B:=T) (K:=U) a (λd=>λc=>[(1,u root),(2,aD af SI),(3,aD bF l),(4,.ptr 31 0),(11,u c),(29,aD bF l),(30,u l.length),(31,u d)]) (λd=>λc=>[(31,.cells 28 (aZ t))]) ?_ ?_ ?_
 .exact cq
 .rintro d b aU c V k a;rw[R]at a;refine ak [] [] [(32,.d ((d:Int)<l.length))]<|A.seq<|aT (cU k)<|A.skip<|A.seq<|A.block<|bD [(0,bh (ix bF (cf k))),(2,.al 56)] [32] [(13,.ptr 56 0)] [] [(56,.cells 120 (i0 b))]<|ak [] [] [(14,.bool false)]<|A.seq<|ak [(2,ai (bu af b.aP))] [] [(36,aD af b.aP),(37,u b.aP.length),(38,u 0)]<|A.block<|auX 36 rfl λN=>?_
  obtain⟨ag,ar,am,ao,a⟩:=cZ a;refine auV (l:=b.aP) (cD:=0) (B:=ag) (K:=ar) a (λe=>λh=>[(1,u root),(2,aD af SI),(3,aD bF l),(4,.ptr 31 0),(11,u c),(13,.ptr 56 0),(14,.bool h),(29,aD bF l),(30,u l.length),(31,u d),(36,aD af b.aP),(37,u b.aP.length),(38,u e)]) (λe=>λh=>[(31,.cells 28 (aZ t)),(56,.cells 120 (i0 b))]) ?_ ?_ ?_
  .exact cq
  .rintro e O aW h ax i a;rw[am]at a;refine ak [] [] [(39,.d ((e:Int)<b.aP.length))]<|A.seq<|aT (cU i)<|A.skip<|A.seq<|A.block<|ak [(0,bh (ix af (cf i)))] [39] [(16,u O)]<|A.seq ?_
   obtain⟨Y,ab,a⟩:=dx a;refine A.J (J:=Y) (r:=r) (λw=>[(1,u root),(2,aD af SI),(3,aD bF l),(4,.ptr 31 0),(11,u c),(13,.ptr 56 0),(14,.bool h),(16,u O),(29,aD bF l),(30,u l.length),(31,u d),(36,aD af b.aP),(37,u b.aP.length),(38,u e),(50,.bool w)]) (λw=>[(31,.cells 28 (aZ t)),(56,.cells 120 (i0 b))]) ?_ ?_
   .rcases aV a with⟨m,a⟩|⟨m,a⟩
    .exact bn [(3,ai (be m))] [] [(50,.bool true)]<|aX true a
    obtain⟨H,P,a⟩:=aB a;exact bn [(3,ai (be m)),(6,a1 (lF P) lX)] [] [(50,.bool (!H))]<|aX (!H) a
   rintro w a;rw[ab]at a;rcases aV a with⟨x,a⟩|⟨x,a⟩
   .refine aT x<|aG [] [(8,u 0),(9,u 1)] [] ?_
    cases a;exact A.ret bk
   refine aS x<|A.skip ?_
   rcases aV a with⟨s,a⟩|⟨s,a⟩
   .exact bn [(1,ai (be s))] [14,16,50] [(14,.bool true)]<|bn [(0,ai (cK i N))] [38] [(38,u ((e+1:Nat):Int))]<|aX true a
   obtain⟨I,Q,a⟩:=aB a;exact bn [(1,ai (be s)),(4,a1 (jO Q) j8)] [14,16,50] [(14,.bool I)]<|bn [(0,ai (cK i N))] [38] [(38,u ((e+1:Nat):Int))]<|aX I a
  rintro e h ax aw a;rw[ao]at a;refine ak [] [] [(39,.d ((e:Int)<b.aP.length))]<|A.seq<|aS (cT aw)<|A.exit<|A.seq ?_
  obtain⟨X,ae,a⟩:=dx a;refine A.J (J:=X) (r:=r) (λC=>[(1,u root),(2,aD af SI),(3,aD bF l),(4,.ptr 31 0),(11,u c),(13,.ptr 56 0),(29,aD bF l),(30,u l.length),(31,u d),(75,.bool C)]) (λC=>[(31,.cells 28 (aZ t)),(56,.cells 120 (i0 b))]) ?_ ?_
  .rcases aV a with⟨g,a⟩|⟨g,a⟩
   .exact bn [(2,ai (be g))] [14,36,37,38,39] [(75,.bool true)]<|aX true a
   obtain⟨aY,n,a⟩:=aB a;rcases aV a with⟨j,a⟩|⟨j,a⟩
   .exact bn [(2,ai (be g)),(5,a1 (sg n) rN),(8,ai (be j))] [14,36,37,38,39] [(75,.bool true)]<|aX true a
   rcases aV a with⟨y,a⟩|⟨y,a⟩
   .exact bn [(2,ai (be g)),(5,a1 (sg n) rN),(8,ai (be j)),(13,ai (be y))] [14,36,37,38,39] [(75,.bool true)]<|aX true a
   exact bn [(2,ai (be g)),(5,a1 (sg n) rN),(8,ai (be j)),(13,ai (be y))] [14,36,37,38,39] [(75,.d (24000<b.Value))]<|aX (decide (24000<b.Value)) a
  rintro C a;rw[ae]at a;rcases aV a with⟨D,a⟩|⟨D,a⟩
  .refine aT D<|aG [] [(8,u 0),(9,u 1)] [] ?_
   cases a;exact A.ret bk
  exact aS D<|A.skip<|c6 [] [11,13,75] [(11,u (an (c+b.Value)))] [56] []<|bn [(0,ai (cK k W))] [31] [(31,u ((d+1:Nat):Int))]<|aX (an (c+b.Value)) a
 rintro d c V ch a;rw[S]at a;refine ak [] [] [(32,.d ((d:Int)<l.length))]<|A.seq<|aS (cT ch)<|A.exit<|A.seq<|bD [(2,ai (bu cC t.Links))] [1,2,4,29,30,31,32] [(82,aD cC t.Links),(83,u t.Links.length),(84,u 0)] [31] []<|A.block<|auX 82 rfl λaA=>?_
 obtain⟨aE,aF,aI,aM,a⟩:=cZ a;refine auV (l:=t.Links) (cD:=0) (B:=aE) (K:=aF) a (λf=>λ()=>[(3,aD bF l),(11,u c),(82,aD cC t.Links),(83,u t.Links.length),(84,u f)]) (λf=>λ()=>[]) ?_ ?_ ?_
 .exact cq
 .rintro f v a3 ⟨⟩ az z a;rw[aI]at a;refine ak [] [] [(85,.d ((f:Int)<t.Links.length))]<|A.seq<|aT (cU z)<|A.skip<|A.seq<|A.block<|bD [(0,bh (ix cC (cf z))),(2,.al 238)] [85] [(18,.ptr 238 0)] [] [(238,.cells 62 (de v))] ?_
  obtain⟨aa,aC,a⟩:=dx a;refine A.J (J:=aa) (r:=r) (λG=>[(3,aD bF l),(11,u c),(82,aD cC t.Links),(83,u t.Links.length),(84,u f),(107,.bool G)]) (λG=>[]) ?_ ?_
  .obtain⟨a0,L,a⟩:=aB a;rcases aV a with⟨E,a⟩|⟨E,a⟩
   .exact c6 [(5,a1 (A7 L) zT),(9,ai (be E))] [18] [(107,.bool true)] [238] []<|aX true a
   obtain⟨M,Z,a⟩:=aB a;exact c6 [(5,a1 (A7 L) zT),(9,ai (be E)),(15,a1 (A7 Z) zT)] [18] [(107,.d (v.eP<M))] [238] []<|aX (decide (v.eP<M)) a
  rintro G a;rw[aC]at a;rcases aV a with⟨F,a⟩|⟨F,a⟩
  .refine aT F<|aG [] [(8,u 0),(9,u 1)] [] ?_
   cases a;exact A.ret bk
  exact aS F<|A.skip<|bn [(0,ai (cK z aA))] [84,107] [(84,u ((f+1:Nat):Int))]<|aX () a
 rintro f ⟨⟩ az aq a;rw[aM]at a;refine ak [] [] [(85,.d ((f:Int)<t.Links.length))]<|A.seq<|aS (cT aq)<|A.exit<|aG [] [(8,u c),(9,u 0)] [] ?_
 cases a;exact A.ret bk
def Ib{l:lR}{b:aQ}{r:(lR)}(a:oI l b=some r):bY prog 117 [] [aD bl l,.agg (ec b)] (aD bl r):=by
 refine bT func117 rfl rfl ?_;unfold oI at a;refine aG [(0,.al 80)] [(0,aD bl l),(3,.ptr 80 0)] [(80,.cells 84 (ec b))]<|ak [] [] [(5,u 0)]<|A.seq<|A.block ?_
 obtain⟨C,N,D,a⟩:=fQ a;refine au6 (F:=C) a (λc=>[(0,aD bl l),(3,.ptr 80 0),(5,u c)]) (λc=>[(80,.cells 84 (ec b))]) ?_ ?_
 .exact cq
 rintro K c a;rw[D]at a;refine A.seq ?_;obtain⟨x,z,a⟩:=dx a;refine A.J (J:=x) (r:=r) (λj=>[(0,aD bl l),(3,.ptr 80 0),(5,u c),(40,.bool j)]) (λj=>[(80,.cells 84 (ec b))]) ?_ ?_
 .rcases aV a with⟨e,a⟩|⟨e,a⟩
  .obtain⟨p,d,a⟩:=aB a;rcases aV a with⟨f,a⟩|⟨f,a⟩
   .exact bn [(2,ai (bu bl l)),(4,ai (be e)),(7,bh (ix bl d)),(13,ai (be f))] [] [(40,.bool true)]<|aX true a
   rcases aV a with⟨h,a⟩|⟨h,a⟩
   .exact bn [(2,ai (bu bl l)),(4,ai (be e)),(7,bh (ix bl d)),(13,ai (be f)),(16,bh (ix bl d)),(22,ai (be h)),(25,bh (ix bl d))] [] [(40,.d (p.aJ<b.aJ))]<|aX (decide (p.aJ<b.aJ)) a
   exact bn [(2,ai (bu bl l)),(4,ai (be e)),(7,bh (ix bl d)),(13,ai (be f)),(16,bh (ix bl d)),(22,ai (be h))] [] [(40,.bool false)]<|aX false a
  exact bn [(2,ai (bu bl l)),(4,ai (be e))] [] [(40,.bool false)]<|aX false a
 rintro j a;rw[z]at a;rcases aV a with⟨k,a⟩|⟨k,a⟩
 .exact aT k<|A.skip<|A.block<|bn [] [5,40] [(5,u (an (c+1)))]<|aX (an (c+1)) a
 refine aS k<|A.exit<|A.seq ?_
 obtain⟨w,B,a⟩:=dx a;refine A.J (J:=w) (r:=r) (λn=>[(0,aD bl l),(3,.ptr 80 0),(5,u c),(54,.bool n)]) (λn=>[(80,.cells 84 (ec b))]) ?_ ?_
 .rcases aV a with⟨i,a⟩|⟨i,a⟩
  .obtain⟨g,q,a⟩:=aB a;exact bn [(2,ai (bu bl l)),(4,ai (be i)),(7,bh (ix bl q)),(10,.td false 84 (.agg (ec g)) (.agg (ec b)) (gH g b) (λH I G=>JH H I _ _ _ _ G))] [40] [(54,.bool (gH g b))]<|aX (gH g b) a
  exact bn [(2,ai (bu bl l)),(4,ai (be i))] [40] [(54,.bool false)]<|aX false a
 rintro n a;rw[B]at a;rcases aV a with⟨m,a⟩|⟨m,a⟩
 .refine aT m<|aG [] [(4,aD bl l)] [] ?_
  cases a;exact A.ret bk
 refine aS m<|A.skip ?_
 obtain⟨L,t,a⟩:=aB a;obtain⟨v,o,a⟩:=aB a;refine bD [(1,.al 117057),(4,eZ (vl bl t)),(5,e9 195 (ap bl (bytes:=16) (by decide) o))] [3,54] [(6,.own 195)] [80] [(195,.slice 84 2 (ag bl v) 0 false)] ?_;obtain⟨M,s,a⟩:=aB a;obtain⟨E,y,a⟩:=aB a;refine auT aY [.bK [195]] [(3,kT (sl bl s)),(5,Az 196 zS (ap bl (bytes:=16) (by decide) y) (Ay bl o (Nat.succ_pos _)))] [(4,.own 196)] [(196,.slice 84 2 (ag bl E) 0 false)] (by kernel_rfl)<|A.ret ?_
 obtain rfl:=e0 a;exact auW aY [.bK [196]] rfl (by kernel_rfl)
def RS{r:b0×Int}(a:m7 t root SI=some r):bY prog 55 [] [.agg (aZ t),u root,aD af SI] (.bO [.agg (c8 r.1),u r.2]):=by
 refine bT func55 rfl rfl ?_;unfold m7 at a;refine aG [(0,.al 48),(1,.al 41)] [(1,u root),(2,aD af SI),(3,.ptr 48 0),(6,.ptr 41 0)] [(48,.cells 28 (aZ t)),(41,.c 36 [u 0,.bC])]<|A.seq ?_
 obtain⟨j,N,a⟩:=aB a;refine ak [(3,a1 (Bg N) Ap)] [] [(8,u j)]<|ak [] [] [(20,.bool (!decide (j=0)))] ?_
 rcases aV a with⟨k,a⟩|⟨k,a⟩
 .refine aT k<|bD [] [1,2,3,8,20] [(7,u j)] [48] [] ?_
  cases a;exact A.ret bk
 refine aS k<|A.skip<|A.seq ?_
 obtain⟨s,p,a⟩:=aB a;refine ak [(3,a1 (G4 p) Gu)] [8,20] [(27,.bool (!s))] ?_;rcases aV a with⟨i,a⟩|⟨i,a⟩
 .refine aT i<|bD [] [1,2,3,27] [(7,u 9)] [48] [] ?_
  cases a;exact A.ret bk
 refine aS i<|A.skip<|bD [(2,.al 61)] [27] [(9,.ptr 61 0)] [] [(61,.c 36 [u root,.bC])]<|A.seq<|ak [(1,ai (bu af SI))] [2] [(31,aD af SI),(32,u SI.length),(33,u 0)]<|A.block<|auX 31 rfl λD=>?_
 obtain⟨y,z,w,x,a⟩:=cZ a;refine auV (l:=SI) (cD:=0) (B:=y) (K:=z) a (λc=>λf=>[(1,u root),(3,.ptr 48 0),(6,.ptr 41 0),(9,.ptr 61 0),(31,aD af SI),(32,u SI.length),(33,u c)]) (λc=>λf=>[(48,.cells 28 (aZ t)),(41,.c 36 [u 0,.bC]),(61,.c 36 [u root,aD bl f])]) ?_ ?_ ?_
 .exact dJ [.sc 61 [48,41,61]] []
 .rintro c M O f C h a;rw[w]at a;refine ak [] [] [(34,.d ((c:Int)<SI.length))]<|A.seq<|aT (cU h)<|A.skip<|A.seq<|A.block<|ak [(0,bh (ix af (cf h)))] [34] [(11,u M)]<|ak [] [] [(12,u root)] ?_
  obtain⟨b,v,a⟩:=aB a;refine ak [(3,a1 (HR v) PA),(4,ai (bu af b))] [11] [(41,aD af b),(42,u b.length),(43,u 0)]<|A.block<|auX 41 rfl λE=>?_
  obtain⟨F,I,G,H,a⟩:=cZ a;refine auV (l:=b) (cD:=0) (B:=F) (K:=I) a (λd=>λ(g,e)=>[(1,u root),(3,.ptr 48 0),(6,.ptr 41 0),(9,.ptr 61 0),(12,u g),(31,aD af SI),(32,u SI.length),(33,u c),(41,aD af b),(42,u b.length),(43,u d)]) (λd=>λ(g,e)=>[(48,.cells 28 (aZ t)),(41,.c 36 [u 0,.bC]),(61,.c 36 [u root,aD bl e])]) ?_ ?_ ?_
  .exact cq
  .rintro d n P ⟨g,e⟩ L m a;rw[G]at a;refine ak [] [] [(44,.d ((d:Int)<b.length))]<|A.seq<|aT (cU m)<|A.skip<|A.seq<|A.block<|ak [(0,bh (ix af (cf m)))] [44] [(14,u n)] ?_
   obtain⟨o,q,a⟩:=aB a;exact bD [(5,a1 (Ib q) PB)] [12] [] [61] [(61,.c 36 [u root,aD bl o])]<|bn [] [14] [(12,u n)]<|bn [(0,ai (cK m E))] [43] [(43,u ((d+1:Nat):Int))]<|aX (n,o) a
  rintro d ⟨g,e⟩ L J a;rw[H]at a;exact ak [] [] [(44,.d ((d:Int)<b.length))]<|A.seq<|aS (cT J)<|A.exit<|bn [(0,ai (cK h D))] [12,33,41,42,43,44] [(33,u ((c+1:Nat):Int))]<|aX e a
 rintro c f C ch a;rw[x]at a;refine ak [] [] [(34,.d ((c:Int)<SI.length))]<|A.seq<|aS (cT ch)<|A.exit<|aG [] [(6,.ptr 41 0),(7,u 0)] [(41,.c 36 [u root,aD bl f])] ?_
 cases a;exact A.ret bk
end
section
open Go
set_option maxRecDepth 100000
set_option linter.all false
noncomputable section
def vV(t:bH)(p:aK)(A:b0)(g:bH)(B:mR)(root:Int):fz:=
 jn (λ(N:Bool)=>bif N then aj (qh) λ(J:Bool)=>some J else aj (sq t) λ(M:bR)=>aj (sA M (7:Int)) λ(e:aK×bR)=>aj (sS e.2 e.1) λ(h:Int×bR)=>aj (s7 h.2 e.1 (4:Int)) λ(k:(bH)×bR)=>aj (r9 k.2 e.1) λ(o:aK×bR)=>bZ ([p,e.1,o.1]:oW) 0 (λ(ab:Int) (a:aK) (H:((bH)×Int)->Option _) (w,v)=>aj (s8 (bR.mk w v) e.1 h.1) λ(q:b0×bR)=>bZ ([A,q.1,(b0.mk h.1 [])]:List b0) 0 (λ(aa:Int) (f:b0) (L:Unit->Option _) ()=>aj (sN a f) λ(F:Int×Int)=>aj (sU a f) λ(C:Int×Int)=>jn (λ(P:Bool)=>bif P then some false else L ()) λi=>(bif !decide (F.2=C.2)then i true else(bif !decide (F.1=C.1)then i true else aj (oq a f k.1) λ(T:Int)=>aj (oy a f k.1) λ(S:Int)=>(bif !decide (T=S)then i true else aj (oq a f g) λ(U:Int)=>aj (oy a f g) λ(V:Int)=>i (!decide (U=V)))))) (λ(b:Unit)=>match b with|()=>gj ((2:Int)-(0:Int)).toNat (0:Int) (λ(x:Int) (O:((bH)×Int)->Option _) (n,m)=>jn (λ(b:Int×(bH))=>match b with|(d,c)=>aj (l1 a d c) λ(G:b0×Int)=>aj (m7 a d c) λ(u:b0×Int)=>lC a d c λ(W:b0×Int×Int)=>aj (l3 a d c) λ(X:Int×Int)=>aj (l2 a d c) λ(r:(mR)×Int)=>jn (λ(R:Bool)=>bif R then some false else aj (sW (bR.mk n m) r.1) λ(s:(mR)×bR)=>bZ ([B,r.1,s.1]:q6) 0 (λ(ae:Int) (z:mR) (Q:Unit->Option _) ()=>aj (lD a d c z) λ(D:Int×Int)=>aj (m8 a d c z) λ(E:Int×Int)=>bif ((!decide (D.1=E.1))||(!decide (D.2=E.2)))then some false else Q ()) (λ(b:Unit)=>match b with|()=>O (s.2.L,s.2.At)) ()) λl=>(bif !decide (G.2=u.2)then l true else(bif !decide (W.2.2=X.2)then l true else aj (sw G.1 u.1) λ(Z:Bool)=>(bif !Z then l true else l (!decide (r.2=u.2)))))) λy=>bif decide ((x:Int)=(1:Int))then y (root,g)else y (h.1,k.1)) (λ(x:Int) (b:(bH)×Int)=>match b with|(n,m)=>H (n,m)) (q.2.L,q.2.At)) ()) (λ(b:(bH)×Int)=>match b with|(w,v)=>aj (qh) λ(Y:Bool)=>some Y) (o.2.L,o.2.At)) λj=>aj (v2 p) λ(K:Bool)=>(bif !K then j true else(bif decide (40<(A.Links.length:Int))then j true else(bif decide (40<(g.length:Int))then j true else aj (sK B) λ(I:Bool)=>j (!I))))
end
end
end Go.Proofs.YtmnbolcmepihlaaGreat
