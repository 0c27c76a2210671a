/- The walk of the map of uM: a loop pK an iterator. No condition but bf aM stand in each. -/
import Derived.RangeFuncBox
import Derived.RangeFuncLeaves
import Derived.Shelf.Abstract
import Derived.WalkKit
import Derived.OwnWalkIn
import Derived.TacticsInMore
import Derived.LoopNIn
import Derived.LoopIn
import Derived.Test.YtmnbolcmepihlaaGreatWY
namespace Go.Proofs.YtmnbolcmepihlaaGreat
set_option linter.all false
open Go Go.Proofs.Tryz Go.RowKit Go.Shelf
attribute [local go_sem] Oper.semAt_some
set_option maxRecDepth 100000
theorem adQ{F:Fence}{n:Nat}{P:Program}{α:Type}{g:Operand}{ps:Array Tmp}{assign body:Code}{Q:Exit→Act→World→Prop}{a:Act}{w:World}
  (hro:F.round=none) (h1:1≤n) {gf:Nat} {lb:Array Value} (hg:a.eval g=.func (.func gf) #[] lb) (hFg:F.fn gf) (eg:∀args w,(callFunc gf args).run P w=.ok (.enter gf args) w)
  {encs:α→Array Value} (N:Nat) (full:List α) (hps:∀x,(encs x).size=ps.size) (I:List α→World→Prop) (Fx:World→Prop)
  (hal:∀s W o,I s W→I s (W.alloc o)) (hput:∀s W l o o',w.heap.size≤l→I s W→W.heap[l]?=some o→o.isCells=false→I s (W.putObj l o')) (hfx:∀s W,I s W→Fx W) (h0:I [] w)
  (hseq:∀(l:Nat) (J:List α→World→Prop) (W:World),(∀s W,J s W→Fx W)→(∀pre x W1,J pre W1→pre.length<N→YieldAt F (n-1-1) P l (encs x) W1 λe W'=>e=.returned (.bool true)∧J (pre++[x]) W')→J [] W→
   CallsIn F (n-1) P gf (#[.func (.yield l) #[] #[]]++lb) W λe W'=>(∃v,e=.returned v)∧J full W')
  (A:List α→α→Act→World→Prop) (asG:∀pre x a' W l o o',w.heap.size≤l→l<w.heap.size+2→A pre x a' W→W.heap[l]?=some o→o.isCells=false→A pre x a' (W.putObj l o'))
  (hassign:∀(l:Nat) (pre:List α) (x:α) (W:World) (K:Act→World→Prop),I pre W→w.heap.size+2≤W.heap.size→(∀a' W',A pre x a' W'→(∀k o,w.heap.size≤k→k<w.heap.size+2→W.heap[k]?=some o→W'.heap[k]?=some o)→K a' W')→
   assign.wpIn (F.inRound l) (n-1-1) P (Exit.then K (λ_ _ _=>False)) {tmps:=(ps.zip (encs x)).foldl (λt (p,v)=>t.setIfInBounds p v) a.tmps,defers:=[]} W)
  (hbody:∀(l:Nat) (pre:List α) (x:α) (a':Act) (W:World),A pre x a' W→body.wpIn (F.inRound l) (n-1-1) P (λe _ W'=>match e with|.normal=>(∀k o,w.heap.size≤k→k<w.heap.size+2→W.heap[k]?=some o→W'.heap[k]?=some o)∧I (pre++[x]) W'|_=>False) a' W)
  (hdone:∀(D:Nat) (W:World),w.heap.size≤D→I full W→W.heap[D]?=some (.deferred (some []))→Q .normal {a with defers:={target:=.collected D,args:=#[]}::a.defers} W) :
  (Code.rangeFunc g ps assign body).wpIn F n P Q a w:=by
 refine wpIn_rangeFunc λfn hfn=>?_;rw[hro];obtain⟨y4,xe⟩:∃r:LoopState→Option Code→Loop,r=λst pe=>{state:=st,pending:=pe,fn,tmps:=a.tmps,params:=ps,assign,body,defers:=w.heap.size}:=⟨_,rfl⟩;obtain⟨W1,hW1⟩:∃W1,(w.alloc (.deferred (some []))).alloc (.loop (y4 .ready none))=W1:=⟨_,rfl⟩;have hL1:W1.heap[w.heap.size+1]?=some (.loop (y4 .ready none)):=by
  rw[←hW1];have:=World.alloc_heap_new (w.alloc (.deferred (some []))) (.loop (y4 .ready none));rwa [World.size_alloc]at this
 have hK1:W1.heap[w.heap.size]?=some (.deferred (some [])):=by
  rw[←hW1];exact(Below.heap_alloc _ _ _ (by simp)).trans (World.alloc_heap_new w _)
 have hI1:I [] W1:=by rw[←hW1];exact hal _ _ _ (hal _ _ _ h0)
 refine⟨w.heap.size+1,[{target:=.collected w.heap.size,args:=#[]}],W1,{target:=.fn (.func gf) lb,args:=#[.func (.yield (w.heap.size+1)) #[] #[]]},W1,gf,
  #[.func (.yield (w.heap.size+1)) #[] #[]]++lb,W1,?_,?_,?_,?_,λ_=>h1,?_⟩
 ·rw[←hW1,xe];exact run_enterLoop_outer _ _ _ _ _
 ·simp only[resolve,hg];simp[go_sem]
 ·intro f' hf';simp[Target.leads]at hf';subst hf';exact hFg
 ·simp[invoke,go_sem,eg]
 ·refine(hseq (w.heap.size+1) (λpre W=>I pre W∧W.heap[w.heap.size+1]?=some (.loop (y4 .ready none))∧W.heap[w.heap.size]?=some (.deferred (some []))) W1 (λs W h=>hfx s W h.1) ?_ ⟨hI1,hL1,hK1⟩).mono ?_
  ·rintro pre x W ⟨hi,hl,hk⟩ hlen;have hlt:w.heap.size+1<W.heap.size:=(Array.getElem?_eq_some_iff.1 hl).1;have hy:=run_yield (P:=P) (args:=encs x) hl (by rw[xe];exact hps x);rw[xe]at hy;refine⟨fn,_,assign,body,hy,roundIn_of_wpIn hfn (hassign _ pre x W _ hi (by omega) λa' Wa hia hka=>?_)⟩;have hla:=hka _ _ (by omega) (by omega) hl;have hka0:=hka _ _ (Nat.le_refl _) (by omega) hk;have hlta:w.heap.size+1<Wa.heap.size:=(Array.getElem?_eq_some_iff.1 hla).1;refine⟨_,run_beginRound hla (by rw[xe]),?_⟩;have hl2:(Wa.putObj (w.heap.size+1) (.loop {y4 .ready none with state:=.busy})).heap[w.heap.size+1]?=some (.loop {y4 .ready none with state:=.busy}):=World.putObj_heap_same hlta;have hk2:(Wa.putObj (w.heap.size+1) (.loop {y4 .ready none with state:=.busy})).heap[w.heap.size]?=some (.deferred (some [])):=(World.putObj_heap_other (by omega)).trans hka0;refine wpIn_mono (hbody _ pre x a' _ (asG _ _ _ _ _ _ _ (by omega) (by omega) hia hla rfl)) ?_;rintro e a3 W3 hp;cases e with
   |normal=>
    obtain⟨hk3,hi3⟩:=hp;have hl3:=hk3 _ _ (by omega) (by omega) hl2;have hr:=run_endRound (P:=P) none hl3;rw[xe]at hr;refine⟨_,_,hr,rfl,hput _ _ _ _ _ (by omega) hi3 hl3 rfl,?_,(World.putObj_heap_other (by omega)).trans (hk3 _ _ (Nat.le_refl _) (by omega) hk2)⟩;rw[xe];exact World.putObj_heap_same (Array.getElem?_eq_some_iff.1 hl3).1
   |_=>exact hp.elim
  ·rintro e W2 ⟨⟨v,rfl⟩,hi,hl,hk⟩;exact⟨none,_,by have:=run_endLoop (P:=P) hl (by rw[xe];simp);rw[xe]at this;exact this,hdone _ _ (Nat.le_refl _) (hput _ _ _ _ _ (by omega) hi hl rfl) ((World.putObj_heap_other (by omega)).trans hk)⟩
def afp(x:Nat×aR):Array Value:=#[.int .i64 (x.1:Int),.agg #[.int .i64 x.2.aD,.int .i64 x.2.To,.int .i64 x.2.Count]]
def pW(zs:List aR)(k:Nat):List (Nat×aR):=(List.range k).map λj=>(zs.length-1-j,zs.getD (zs.length-1-j) default)
theorem afq(zs:List aR)(k:Nat):pW zs (k+1)=pW zs k++[(zs.length-1-k,zs.getD (zs.length-1-k) default)]:=by simp[pW,List.range_succ]
theorem abD(zs:List aR)(k:Nat):(pW zs k).length=k:=by simp[pW]
structure aea(W:World)(Bs b off cap:Nat)(zs:List aR):Prop where
 box:W.cell? ⟨Bs,0,none⟩=some (.slice (some ⟨b,off,none⟩) zs.length cap)
 el:∀j,j<zs.length→W.cell? ⟨b,off+j*3,none⟩=some (.int .i64 (zs.getD j default).aD)∧W.cell? ⟨b,off+j*3+1,none⟩=some (.int .i64 (zs.getD j default).To)∧W.cell? ⟨b,off+j*3+2,none⟩=some (.int .i64 (zs.getD j default).Count)
set_option maxHeartbeats 2000000 in
theorem aiF(F:Fence)(n:Nat)(h7:F.fn 187)(hro:F.round=none)(hn:1≤n)(l Bs b off cap:Nat)(zs:List aR)(agy:zs.length*24≤140737488351232)(J:List (Nat×aR)→World→Prop)(hJ:∀s W,J s W→aea W Bs b off cap zs)
  (hY:∀pre x W,J pre W→pre.length<zs.length→YieldAt F (n-1) prog l (afp x) W λe W'=>e=.returned (.bool true)∧J (pre++[x]) W') (W:World) (h0:J [] W) :
  CallsIn F n prog 187 #[.func (.yield l) #[] #[],.pointer (some ⟨Bs,0,none⟩)] W λe W'=>(∃v,e=.returned v)∧J (pW zs zs.length) W':=by
 refine callsIn_of_wp func187 rfl h7 ?_ hro;simp only[Tryz.ntmps187,List.size_toArray,List.length_cons,List.length_nil,Nat.reduceAdd,Nat.reduceSub,Array.replicate_succ,Array.replicate_zero,List.push_toArray,List.append_toArray,List.nil_append,List.cons_append];have hbox:=(hJ _ _ h0).box
 gi_wp2
 gi_loopw [3] (λi wr=>∃k:Nat,k≤zs.length∧i=.int .i64 ((zs.length:Int)-1-k)∧J (pW zs k) wr)
  (λi _=>(intOf i+1).toNat)
 case atStart=>exact⟨0,Nat.zero_le _,by simp,h0⟩
 case round=>
  obtain⟨k,hk,rfl,hJs⟩:=hrel;have hA:=hJ _ _ hJs;have hbx:=hA.box;by_cases hlt:k<zs.length
  ·obtain⟨e1,e2,e3⟩:=hA.el (zs.length-1-k) (by omega);obtain⟨fn,tmps,assign,body,hy,hR⟩:=hY _ (zs.length-1-k,zs.getD (zs.length-1-k) default) wr hJs (by rw[abD];exact hlt);have hi:((zs.length:Int)-1-k)=((zs.length-1-k:Nat):Int):=by omega
   rw[hi];simp only[afp]at hy;have hnx:=afq zs k;generalize zs.getD (zs.length-1-k) default=x at e1 e2 e3 hy hR hnx
   gi_wp2
   refine hR.mono ?_;rintro e W3 ⟨rfl,hJ3⟩
   gi_wp2
   go_roundw
   case rel=>exact⟨k+1,by omega,by congr 1;omega,by rw[hnx];exact hJ3⟩
   case measure=>simp[intOf]
  ·obtain rfl:k=zs.length:=by omega
   gi_wp2
   go_end0
   exact⟨⟨_,rfl⟩,hJs⟩
set_option maxHeartbeats 2000000 in
theorem aiG(F:Fence)(n:Nat)(h7:F.fn 187)(hro:F.round=none)(l Bs:Nat)(a:Option Addr)(cap:Nat)(J:List (Nat×aR)→World→Prop)(W:World)(hB:W.cell? ⟨Bs,0,none⟩=some (.slice a 0 cap))(h0:J [] W):
  CallsIn F n prog 187 #[.func (.yield l) #[] #[],.pointer (some ⟨Bs,0,none⟩)] W λe W'=>(∃v,e=.returned v)∧J [] W':=by
 refine callsIn_of_wp func187 rfl h7 ?_ hro;simp only[Tryz.ntmps187,List.size_toArray,List.length_cons,List.length_nil,Nat.reduceAdd,Nat.reduceSub,Array.replicate_succ,Array.replicate_zero,List.push_toArray,List.append_toArray,List.nil_append,List.cons_append]
 gi_wp2
 gi_loopw [3] (λi wr=>i=.int .i64 (-1)∧J [] wr) (λ_ _=>0)
 case atStart=>exact⟨rfl,h0⟩
 case round=>
  obtain⟨rfl,hJs⟩:=hrel
  gi_wp2
  go_end0
  exact⟨⟨_,rfl⟩,hJs⟩
set_option maxHeartbeats 1000000 in
theorem alQ(F:Fence)(n:Nat)(h5:F.fn 158)(hro:F.round=none)(a:Option Addr)(len cap:Nat)(w:World):
  CallsIn F n prog 158 #[.slice a len cap] w λe w'=>e=.returned (.func (.func 187) #[] #[.pointer (some ⟨w.heap.size,0,none⟩)])∧w'=w.alloc (.cells #[.slice a len cap] 53):=by
 refine callsIn_of_wp func158 rfl h5 ?_ hro;simp only[Tryz.ntmps158,List.size_toArray,List.length_cons,List.length_nil,Nat.reduceAdd,Nat.reduceSub,Array.replicate_succ,Array.replicate_zero,List.push_toArray,List.append_toArray,List.nil_append,List.cons_append]
 gi_wp2
 go_ret
 exact⟨rfl,rfl⟩
theorem tu:jE prog 126 84 3 (kv aJ) bA:=⟨underlying126,λ_=>rfl,λ_=>rfl,⟨_,underlying84,λ_ _=>rfl⟩,λa b w=>eqK (by kernel_rfl) (by kernel_rfl) (zH a.aD b.aD a.To b.To w),λe a w=>by kernel_rfl,λa b h=>by cases a;cases b;simpa [bA]using h,λa=>by simp[kv,aJ,valOf,pz,Instr.sameBits]⟩
theorem afr{W:World}{r clock:Nat}{es:Array MapEntry}{l:List (az×Int)}(hb:W.heap[r]?=some (.map es clock))(hB:gv es clock)(hE:∀I,cW I (bG (kv aJ) (vI .i64) l) es.toList)(h:az)(c:Int):
  ∃es' clock',(Instr.mapUpdate 126 (.map (some r)) (.agg #[.int .i64 h.aD,.int .i64 h.To]) (.int .i64 c)).run prog W=.ok () (W.putObj r (.map es' clock'))∧gv es' clock'∧∀I,cW I (bG (kv aJ) (vI .i64) (er bA l h c)) es'.toList:=by
 have e1:∀w,(underlying 126).run prog w=.ok (.map 84 3) w:=λw=>by simp[underlying,program,Sem.run,tu.und]
 have e3:=fJ (P:=prog) hb;have hv:(Value.agg #[.int .i64 h.aD,.int .i64 h.To])=valOf (kv aJ h):=rfl;have e4:=tu.key.chk false h W;have e0:=sL tu.key h W es.toList;have dN:∀ob:Obj,(setObj r ob).run prog W=.ok () (W.putObj r ob):=λob=>by simp[setObj,Sem.run,hb,World.putObj]
 rw[hv];cases hg:bZ bA l h with
 |none=>
  obtain⟨p1,_⟩:=oU (enc:=vI .i64) tu.key h W l es.toList 0 (hE λ_ _=>none) hg;have e5:(Instr.findKey 84 (valOf (kv aJ h)) es.toList).run prog W=.ok none W:=by rw[e0,p1]
  refine⟨es.push ⟨valOf (kv aJ h),.int .i64 c,clock⟩,clock+1,by simp[Instr.mapUpdate,e1,e3,e4,e5,dN],hB.push _ _,λI=>?_⟩;obtain⟨_,p2⟩:=oU (enc:=vI .i64) tu.key h W l es.toList 0 (hE I) hg;simpa using p2 c ⟨valOf (kv aJ h),.int .i64 c,clock⟩ (by simp[vI,aB]) (by rw[←hv];simp[kv,aJ,aB,aS])
 |some a=>
  obtain⟨e',p1,_,p3,p4,_⟩:=ug (enc:=vI .i64) tu.key h W l es.toList 0 a (hE λ_ _=>none) hg;have e5:(Instr.findKey 84 (valOf (kv aJ h)) es.toList).run prog W=.ok (some (0+ixK bA l h,e'.val)) W:=by rw[e0,p1]
  have e6:es[ixK bA l h]?=some e':=by simpa using p3
  have e7:(Instr.keyThatStays (valOf (kv aJ h)) (valOf (kv aJ h))).run prog W=.ok (valOf (kv aJ h)) W:=by simp[Instr.keyThatStays,tu.key.bits h]
  refine⟨es.modify (ixK bA l h) (λe=>{e with key:=valOf (kv aJ h),val:=.int .i64 c}),clock,by simp[Instr.mapUpdate,e1,e3,e4,e5,e6,p4,e7,dN],hB.modify _ _ λ_=>rfl,λI=>?_⟩;obtain⟨_,_,_,_,_,p5⟩:=ug (enc:=vI .i64) tu.key h W l es.toList 0 a (hE I) hg;simpa using p5 c (λe=>{e with key:=valOf (kv aJ h),val:=.int .i64 c}) (λe _=>by rw[←hv];simp[kv,aJ,aB,aS]) (λe=>by simp[vI,aB])
structure vN(w0:World)(B b off cap:Nat)(a:Option Addr)(zs pre:List aR)(W:World):Prop where
 below:Below w0.heap.size w0 W
 drawn:w0.drawn≤W.drawn
 out:W.heap[B+1]?=some (.cells #[.map (some B)] 126 (0,0))
 box:W.heap[B+2]?=some (.cells #[.slice a zs.length cap] 53 (0,0))
 aL:∃es clock,W.heap[B]?=some (.map es clock)∧gv es clock∧∀I,cW I (bG (kv aJ) (vI .i64) (pre.foldl (λm x=>er bA m (az.mk x.aD x.To) x.Count) [])) es.toList
set_option maxHeartbeats 4000000 in
theorem aiH(F:Fence)(n:Nat)(h3:F.fn 90)(h4:F.fn 158)(h5:F.fn 187)(hro:F.round=none)(hn:3≤n)(a:Option Addr)(cap:Nat)(zs:List aR)(agy:zs.length*24≤140737488351232)(w:World)
  (hL:∀b off,a=some ⟨b,off,none⟩→∀j,j<zs.length→b<w.heap.size∧w.cell? ⟨b,off+j*3,none⟩=some (.int .i64 (zs.getD j default).aD)∧w.cell? ⟨b,off+j*3+1,none⟩=some (.int .i64 (zs.getD j default).To)∧w.cell? ⟨b,off+j*3+2,none⟩=some (.int .i64 (zs.getD j default).Count)) (ha:zs≠[]→∃b off,a=some ⟨b,off,none⟩) :
  CallsIn F n prog 90 #[.slice a zs.length cap] w λe W'=>e=.returned (.map (some w.heap.size))∧vN w w.heap.size 0 0 cap a zs zs.reverse W':=by
 have h1:1≤n:=by omega
 have hmm:=@run_makeMap prog;refine callsIn_of_wp_marks func90 rfl h3 ?_ hro;simp only[Tryz.ntmps90,List.size_toArray,List.length_cons,List.length_nil,Nat.reduceAdd,Nat.reduceSub,Array.replicate_succ,Array.replicate_zero,List.push_toArray,List.append_toArray,List.nil_append,List.cons_append]
 gi_wp2_with (gi_at_call 158;refine(alQ F (n-1) h4 hro _ _ _ _).mono ?_;rintro e w' ⟨rfl,rfl⟩)
 have hG:∀{pre W},vN w w.heap.size 0 0 cap a zs pre W→w.heap.size+3≤W.heap.size:=λh=>by have:=(Array.getElem?_eq_some_iff.1 h.box).1;omega
 have apH:∀(pre:List aR) (W:World) (o:Obj),vN w w.heap.size 0 0 cap a zs pre W→vN w w.heap.size 0 0 cap a zs pre (W.alloc o):=λpre W o h=>by
  have hs:=hG h;obtain⟨es,clock,e1,e2,e3⟩:=h.aL;exact⟨h.below.alloc (by omega) o,h.drawn,(Below.heap_alloc W o _ (by omega)).trans h.out,(Below.heap_alloc W o _ (by omega)).trans h.box,es,clock,(Below.heap_alloc W o _ (by omega)).trans e1,e2,e3⟩
 have afs:∀(pre:List aR) (W:World) (l:Nat) (o':Obj),w.heap.size+3≤l→vN w w.heap.size 0 0 cap a zs pre W→vN w w.heap.size 0 0 cap a zs pre (W.putObj l o'):=λpre W l o' hl h=>by
  obtain⟨es,clock,e1,e2,e3⟩:=h.aL;exact⟨⟨h.below.os,h.below.tape,h.below.output,by rw[World.putObj_size];exact h.below.size,λk hk=>(World.putObj_heap_other (by omega)).trans (h.below.block k hk)⟩,h.drawn,(World.putObj_heap_other (by omega)).trans h.out,(World.putObj_heap_other (by omega)).trans h.box,es,clock,(World.putObj_heap_other (by omega)).trans e1,e2,e3⟩
 have h0:vN w w.heap.size 0 0 cap a zs [] (((w.alloc (Obj.map #[] 0)).alloc (Obj.cells #[Value.map (some w.heap.size)] 126)).alloc (Obj.cells #[Value.slice a zs.length cap] 53)):=by
  refine⟨(((Below.refl _ w).alloc (Nat.le_refl _) _).alloc (by simp) _).alloc (by simp;omega) _,Nat.le_refl _,?_,?_,#[],0,?_,⟨by simp,by simp⟩,λI=>by simp[bG,cW]⟩
  ·exact(Below.heap_alloc _ _ _ (by simp)).trans (by have:=World.alloc_heap_new (w.alloc (Obj.map #[] 0)) (Obj.cells #[Value.map (some w.heap.size)] 126);rwa [World.size_alloc]at this)
  ·have:=World.alloc_heap_new ((w.alloc (Obj.map #[] 0)).alloc (Obj.cells #[Value.map (some w.heap.size)] 126)) (Obj.cells #[Value.slice a zs.length cap] 53)
   rwa [World.size_alloc,World.size_alloc]at this
  ·exact(Below.heap_alloc _ _ _ (by simp;omega)).trans ((Below.heap_alloc _ _ _ (by simp)).trans (World.alloc_heap_new w _))
 have hsz:(((w.alloc (Obj.map #[] 0)).alloc (Obj.cells #[Value.map (some w.heap.size)] 126)).alloc (Obj.cells #[Value.slice a zs.length cap] 53)).heap.size=w.heap.size+3:=by simp
 generalize ((w.alloc (Obj.map #[] 0)).alloc (Obj.cells #[Value.map (some w.heap.size)] 126)).alloc (Obj.cells #[Value.slice a zs.length cap] 53)=w3 at h0 hsz ⊢
 refine adQ hro h1 (gf:=187) (lb:=#[.pointer (some ⟨w.heap.size+1+1,0,none⟩)]) rfl h5 (enters_of func187 (by kernel_rfl) rfl) (encs:=afp) zs.length (pW zs zs.length) (λ_=>rfl)
  (λpre W=>vN w w.heap.size 0 0 cap a zs (pre.map (·.2)) W)
  (λW=>W.cell? ⟨w.heap.size+1+1,0,none⟩=some (.slice a zs.length cap)∧∀b off,a=some ⟨b,off,none⟩→aea W (w.heap.size+1+1) b off cap zs)
  (λs W o h=>apH _ _ _ h) (λs W l o o' hl h _ _=>afs _ _ _ _ (by omega) h) (λs W h=>?fx) h0 (λl J W hJ hY hJ0=>?seq)
  (λpre x a' W=>∃B5,w.heap.size+5≤B5∧W.heap[B5]?=some (.cells #[.int .i64 x.2.aD,.int .i64 x.2.To,.int .i64 x.2.Count] 60 (0,0))∧vN w w.heap.size 0 0 cap a zs (pre.map (·.2)) W∧
   a'={tmps:=#[.slice a zs.length cap,undef,.map none,.pointer (some ⟨w.heap.size+1,0,none⟩),undef,.pointer (some ⟨B5,0,none⟩),.map (some w.heap.size),.slice a zs.length cap,.func (.func 187) #[] #[.pointer (some ⟨w.heap.size+1+1,0,none⟩)],.int .i64 (x.1:Int),.agg #[.int .i64 x.2.aD,.int .i64 x.2.To,.int .i64 x.2.Count],undef,undef,undef,undef,undef,undef,undef,undef,undef],defers:=[]}) ?puta ?assign ?body ?done
 case fx=>
  have hs:=hG h;have hcell:W.cell? ⟨w.heap.size+1+1,0,none⟩=some (.slice a zs.length cap):=by simp[World.cell?,show W.heap[w.heap.size+1+1]?=_ from h.box]
  refine⟨hcell,λb off hab=>⟨by rw[←hab];exact hcell,λj hj=>?_⟩⟩;obtain⟨q1,r1,r2,r3⟩:=hL b off hab j hj;exact⟨(h.below.cell (p:=⟨b,off+j*3,none⟩) q1).trans r1,(h.below.cell (p:=⟨b,off+j*3+1,none⟩) q1).trans r2,(h.below.cell (p:=⟨b,off+j*3+2,none⟩) q1).trans r3⟩
 case seq=>
  by_cases hz:zs=[]
  ·subst hz;exact aiG F (n-1) h5 hro l _ a cap J W (hJ _ _ hJ0).1 hJ0
  ·obtain⟨b,off,hab⟩:=ha hz;exact aiF F (n-1) h5 hro (by omega) l _ b off cap zs agy J (λs W hs=>(hJ s W hs).2 b off hab) hY W hJ0
 case puta=>
  rintro pre x a' W l o o' hl hl2 ⟨B5,b1,b2,b3,rfl⟩ ho hoc;have:B5≠l:=λe=>by omega
  exact⟨B5,b1,(World.putObj_heap_other this).trans b2,afs _ _ _ _ (by omega) b3,rfl⟩
 case assign=>
  rintro l pre x W K hI hWs hK;have hs:=hG hI;simp only[afp]
  gi_wp2
  refine hK _ _ ⟨W.heap.size,by omega,World.alloc_heap_new W _,apH _ _ _ hI,rfl⟩ λk o hk1 hk2 hk=>(Below.heap_alloc W _ _ (by omega)).trans hk
 case body=>
  rintro l pre x a' W ⟨B5,b1,b2,b3,rfl⟩;obtain⟨es,clock,e1,e2,e3⟩:=b3.aL;obtain⟨es',clock',hmu,q1,q2⟩:=afr e1 e2 e3 (az.mk x.2.aD x.2.To) x.2.Count;have c0:W.cell? ⟨w.heap.size+1,0,none⟩=some (.map (some w.heap.size)):=by simp[World.cell?,show W.heap[w.heap.size+1]?=_ from b3.out]
  have c1:W.cell? ⟨B5,0,none⟩=some (.int .i64 x.2.aD):=by simp[World.cell?,b2]
  have c2:W.cell? ⟨B5,1,none⟩=some (.int .i64 x.2.To):=by simp[World.cell?,b2]
  have c3:W.cell? ⟨B5,2,none⟩=some (.int .i64 x.2.Count):=by simp[World.cell?,b2]
  simp only at hmu
  gi_wp2
  refine⟨λk o hk1 hk2 hk=>(World.putObj_heap_other (by omega)).trans hk,?_⟩;have hs:=hG b3;refine⟨⟨b3.below.os,b3.below.tape,b3.below.output,by rw[World.putObj_size];exact b3.below.size,λk hk=>(World.putObj_heap_other (by omega)).trans (b3.below.block k hk)⟩,b3.drawn,(World.putObj_heap_other (by omega)).trans b3.out,(World.putObj_heap_other (by omega)).trans b3.box,es',clock',World.putObj_heap_same (by omega),q1,?_⟩;rw[List.foldl_append];exact q2
 case done=>
  rintro D W hD hI hDh;have c0:W.cell? ⟨w.heap.size+1,0,none⟩=some (.map (some w.heap.size)):=by simp[World.cell?,show W.heap[w.heap.size+1]?=_ from hI.out]
  gi_wp2
  refine⟨by simp,.inl ⟨_,_,rfl,run_takeDeferred hDh,?_⟩⟩;refine⟨_,results_tmp rfl _ _ _,rfl,?_⟩;have he:(pW zs zs.length).map (·.2)=zs.reverse:=by
   refine List.ext_getElem (by simp[pW]) λk h1 h2=>?_;simp only[List.length_map,abD]at h1;simp[pW,List.getD_eq_getElem?_getD,List.getElem?_eq_getElem (show zs.length-1-k<zs.length by omega)]
  rw[he]at hI;exact afs _ _ _ _ (by omega) hI
theorem wm{l:List aR}{r:List (az×Int)}(hm:mw l=some r):RO prog 90 [] [.lst false (ml bn l)] (.mpf (bG (kv aJ) (vI .i64) r)):=by
 unfold mw at hm;split at hm
 rotate_left
 ·cases hm
 rename_i hlen;simp only[Option.some.injEq]at hm;subst hm;refine SC.zF [0] (σ2:=[(0,.map 84 3 (bG (kv aJ) (vI .i64) (qQ l)))]) (r:=.bX 0) ?_ rfl rfl;intro cx w I β vs hw hr;simp only[aW,Rep]at hr;obtain⟨u,us,rfl,hr,rfl⟩:=hr;simp only[aB]at hr;obtain⟨a,c,rfl,hc1,hc2,_,hr⟩:=hr;have hlm:(ml bn l).length=l.length:=by simp[ml]
 rw[hlm]
 have hcells:∀b off,(∀j,j<l.length→fc I b (bn.enc (l.getD j default)) (off+j*3))→∀j,j<l.length→b<w.heap.size∧w.cell? ⟨b,off+j*3,none⟩=some (.int .i64 (l.getD j default).aD)∧w.cell? ⟨b,off+j*3+1,none⟩=some (.int .i64 (l.getD j default).To)∧w.cell? ⟨b,off+j*3+2,none⟩=some (.int .i64 (l.getD j default).Count):=λb off h j hj=>by
  obtain⟨⟨u1,p1,p2⟩,⟨u2,p3,p4⟩,⟨u3,p5,p6⟩,_⟩:=h j hj;simp only[aB]at p2 p4 p6;subst p2 p4 p6;exact⟨World.block_lt_of_cell? w _ (hw.good _ _ _ p1),hw.good _ _ _ p1,hw.good _ _ _ p3,hw.good _ _ _ p5⟩
 have hrows:∀b (xs:List aR) off,dg I b (ml bn xs) off→∀j,j<xs.length→fc I b (bn.enc (xs.getD j default)) (off+j*3):=λb xs=>by
  induction xs with
  |nil=>intro off _ j hj;cases hj
  |cons x r ih=>
   intro off h j hj;simp only[ml,List.map_cons,dg]at h;cases j with
   |zero=>simpa using h.1
   |succ j=>
    have:=ih _ h.2 j (by simpa using hj);simp only[List.getD_cons_succ];have e:off+(j+1)*3=off+(bn.enc x).length+j*3:=by
     have:(bn.enc x).length=3:=rfl;omega
    rw[e];exact this
 refine Calls.mono (callsIn_wide.1 (aiH Fence.wide 3 trivial trivial trivial rfl (Nat.le_refl _) a c l (by omega) w (λb off hab=>?_) (λhz=>?_))) ?_
 ·rcases hr with hz|⟨b',o',rfl,h⟩
  ·intro j hj;rw[←hlm,hz]at hj;cases hj
  ·cases hab;exact hcells _ _ (hrows _ _ _ h)
 ·rcases hr with h|⟨b,o,rfl,_⟩
  ·exact(hz (by simpa [ml]using h)).elim
  ·exact⟨b,o,rfl⟩
 ·rintro e w' ⟨rfl,hG⟩;refine⟨_,rfl,.bX 0,[(0,.map 84 3 (bG (kv aJ) (vI .i64) (qQ l)))],I,en (dP β [0]) 0 (.map (some w.heap.size)),⟨rfl,rfl⟩,?_,?_⟩
  ·simp[Rep,bO,jS]
  ·obtain⟨es,clock,e1,e2,e3⟩:=hG.aL;have hin:∀o,I w.heap.size o=none:=hw.ct (Nat.le_refl _);have hv:=hw.ov (mat:=[0]) (σ2:=[]) (env:=[]) ⟨λ_ _=>rfl,by simp[Sto.ids],rfl,rfl,λx hx dm n h=>by simp[Sto.get]at h⟩
   refine hv.turn (d:=0) (b:=w.heap.size) ⟨λk hk hlt=>hG.below.block k hlt,hG.below.size,hG.below.tape,hG.below.os,hG.below.output,hG.drawn⟩ (.inl hw.size) (λx hx=>by rw[Sto.aK,if_neg (Ne.symm hx)]) (λx hx hs e=>by simp[Sto.get]at hs) (aQ.refl I) (λ_ _ _=>rfl)
    (λo v hv=>by rw[hin]at hv;cases hv) (hin none) (λx hx=>cc _ _ hx) (.inl (by simp[Sto.ids])) (HLe.upd (by simp[dP])) (.inl (by rw[bO];rfl)) λob hob=>?_
   ·rw[Sto.aK,if_pos rfl]at hob;cases hob;simp only[aj,bO];exact .inr ⟨_,es,clock,rfl,e1,e3 I,hin,.inl hw.size,e2⟩
end Go.Proofs.YtmnbolcmepihlaaGreat
