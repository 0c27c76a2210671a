/- gw yN of aR map of uP: a loop qp hg Kq. bM bN cu cg bz cv in ck. -/
import Derived.RangeFuncBox
import Derived.RangeFuncLeaves
import Derived.Shelf.Abstract
import Derived.WalkKit
import Derived.OwnWalkIn
import Derived.TacticsInMore
import Derived.LoopNIn
import Derived.LoopIn
import Derived.Test.YtmnbolcmepihlaaGreatWY
namespace Go.Proofs.YtmnbolcmepihlaaGreat
set_option linter.all false
open Go Go.Proofs.Tryz Go.RowKit Go.Shelf
attribute [local go_sem] Oper.semAt_some
set_option maxRecDepth 100000
theorem VG{F:Fence}{n:Nat}{P:Program}{α:Type}{g:Operand}{ps:Array Tmp}{assign body:Code}{Q:Exit→Act→World→Prop}{a:Act}{w:World}
  (cE:F.round=none) (h1:1≤n) {gf:Nat} {lb:Array Value} (bl:a.eval g=.func (.func gf) #[] lb) (af7:F.fn gf) (afE:∀args w,(callFunc gf args).run P w=.ok (.enter gf args) w)
  {encs:α→Array Value} (N:Nat) (full:List α) (EX:∀x,(encs x).size=ps.size) (I:List α→World→Prop) (M1:World→Prop)
  (pU:∀s a1 o,I s a1→I s (a1.alloc o)) (vO:∀s a1 l o g4,w.heap.size≤l→I s a1→a1.heap[l]?=some o→o.isCells=false→I s (a1.putObj l g4)) (agR:∀s a1,I s a1→M1 a1) (bJ:I [] w)
  (ahH:∀(l:Nat) (J:List α→World→Prop) (a1:World),(∀s a1,J s a1→M1 a1)→(∀pre x qD,J pre qD→pre.length<N→YieldAt F (n-1-1) P l (encs x) qD λe W'=>e=.returned (.bool true)∧J (pre++[x]) W')→J [] a1→
   CallsIn F (n-1) P gf (#[.func (.yield l) #[] #[]]++lb) a1 λe W'=>(∃v,e=.returned v)∧J full W')
  (A:List α→α→Act→World→Prop) (aem:∀pre x e8 a1 l o g4,w.heap.size≤l→l<w.heap.size+2→A pre x e8 a1→a1.heap[l]?=some o→o.isCells=false→A pre x e8 (a1.putObj l g4))
  (agp:∀(l:Nat) (pre:List α) (x:α) (a1:World) (K:Act→World→Prop),I pre a1→w.heap.size+2≤a1.heap.size→(∀e8 W',A pre x e8 W'→(∀k o,w.heap.size≤k→k<w.heap.size+2→a1.heap[k]?=some o→W'.heap[k]?=some o)→K e8 W')→
   assign.wpIn (F.inRound l) (n-1-1) P (Exit.then K (λ_ _ _=>False)) {tmps:=(ps.zip (encs x)).foldl (λt (p,v)=>t.setIfInBounds p v) a.tmps,defers:=[]} a1)
  (agt:∀(l:Nat) (pre:List α) (x:α) (e8:Act) (a1:World),A pre x e8 a1→body.wpIn (F.inRound l) (n-1-1) P (λe _ W'=>match e with|.normal=>(∀k o,w.heap.size≤k→k<w.heap.size+2→a1.heap[k]?=some o→W'.heap[k]?=some o)∧I (pre++[x]) W'|_=>False) e8 a1)
  (agE:∀(en:Nat) (a1:World),w.heap.size≤en→I full a1→a1.heap[en]?=some (.deferred (some []))→Q .normal {a with defers:={target:=.collected en,args:=#[]}::a.defers} a1) :
  (Code.rangeFunc g ps assign body).wpIn F n P Q a w:=by
 refine wpIn_rangeFunc λfn agO=>?_;rw[cE];obtain⟨yM,wY⟩:∃r:LoopState→Option Code→Loop,r=λeY aiM=>{state:=eY,pending:=aiM,fn,tmps:=a.tmps,params:=ps,assign,body,defers:=w.heap.size}:=⟨_,rfl⟩;obtain⟨qD,EL⟩:∃qD,(w.alloc (.deferred (some []))).alloc (.loop (yM .ready none))=qD:=⟨_,rfl⟩;have aga:qD.heap[w.heap.size+1]?=some (.loop (yM .ready none)):=by
  rw[←EL];have:=World.alloc_heap_new (w.alloc (.deferred (some []))) (.loop (yM .ready none));rwa [World.size_alloc]at this
 have hq:qD.heap[w.heap.size]?=some (.deferred (some [])):=by
  rw[←EL];exact(Below.heap_alloc _ _ _ (by simp)).trans (World.alloc_heap_new w _)
 have JD:I [] qD:=by rw[←EL];exact pU _ _ _ (pU _ _ _ bJ)
 refine⟨w.heap.size+1,[{target:=.collected w.heap.size,args:=#[]}],qD,{target:=.fn (.func gf) lb,args:=#[.func (.yield (w.heap.size+1)) #[] #[]]},qD,gf,
  #[.func (.yield (w.heap.size+1)) #[] #[]]++lb,qD,?_,?_,?_,?_,λ_=>h1,?_⟩
 ·rw[←EL,wY];exact run_enterLoop_outer _ _ _ _ _
 ·simp only[resolve,bl];simp[go_sem]
 ·intro mb R6;simp[Target.leads]at R6;subst R6;exact af7
 ·simp[invoke,go_sem,afE]
 ·refine(ahH (w.heap.size+1) (λpre a1=>I pre a1∧a1.heap[w.heap.size+1]?=some (.loop (yM .ready none))∧a1.heap[w.heap.size]?=some (.deferred (some []))) qD (λs a1 h=>agR s a1 h.1) ?_ ⟨JD,aga,hq⟩).mono ?_
  ·rintro pre x a1 ⟨hi,aJ,hk⟩ eF;have bQ:w.heap.size+1<a1.heap.size:=(Array.getElem?_eq_some_iff.1 aJ).1;have ah:=run_yield (P:=P) (args:=encs x) aJ (by rw[wY];exact EX x);rw[wY]at ah;refine⟨fn,_,assign,body,ah,roundIn_of_wpIn agO (agp _ pre x a1 _ hi (by omega) λe8 HC zm Sd=>?_)⟩;have JY:=Sd _ _ (by omega) (by omega) aJ;have ag9:=Sd _ _ (Nat.le_refl _) (by omega) hk;have ahl:w.heap.size+1<HC.heap.size:=(Array.getElem?_eq_some_iff.1 JY).1;refine⟨_,run_beginRound JY (by rw[wY]),?_⟩;have kg:(HC.putObj (w.heap.size+1) (.loop {yM .ready none with state:=.busy})).heap[w.heap.size+1]?=some (.loop {yM .ready none with state:=.busy}):=World.putObj_heap_same ahl;have p0:(HC.putObj (w.heap.size+1) (.loop {yM .ready none with state:=.busy})).heap[w.heap.size]?=some (.deferred (some [])):=(World.putObj_heap_other (by omega)).trans ag9;refine wpIn_mono (agt _ pre x e8 _ (aem _ _ _ _ _ _ _ (by omega) (by omega) zm JY rfl)) ?_;rintro e a3 Vm aB;cases e with
   |normal=>
    obtain⟨zn,ag1⟩:=aB;have n1:=zn _ _ (by omega) (by omega) kg;have ax:=run_endRound (P:=P) none n1;rw[wY]at ax;refine⟨_,_,ax,rfl,vO _ _ _ _ _ (by omega) ag1 n1 rfl,?_,(World.putObj_heap_other (by omega)).trans (zn _ _ (Nat.le_refl _) (by omega) p0)⟩;rw[wY];exact World.putObj_heap_same (Array.getElem?_eq_some_iff.1 n1).1
   |_=>exact aB.elim
  ·rintro e amy ⟨⟨v,rfl⟩,hi,aJ,hk⟩;exact⟨none,_,by have:=run_endLoop (P:=P) aJ (by rw[wY];simp);rw[wY]at this;exact this,agE _ _ (Nat.le_refl _) (vO _ _ _ _ _ (by omega) hi aJ rfl) ((World.putObj_heap_other (by omega)).trans hk)⟩
def DV(x:Nat×ep):Array Value:=#[.int .i64 (x.1:Int),.agg #[.int .i64 x.2.bg,.int .i64 x.2.aQ,.int .i64 x.2.Count]]
def st(zs:List ep)(k:Nat):List (Nat×ep):=(List.range k).map λj=>(zs.length-1-j,zs.getD (zs.length-1-j) default)
theorem VM(zs:List ep)(k:Nat):st zs (k+1)=st zs k++[(zs.length-1-k,zs.getD (zs.length-1-k) default)]:=by simp[st,List.range_succ]
theorem US(zs:List ep)(k:Nat):(st zs k).length=k:=by simp[st]
structure NZ(a1:World)(xe b off aF:Nat)(zs:List ep):Prop where
 box:a1.cell? ⟨xe,0,none⟩=some (.slice (some ⟨b,off,none⟩) zs.length aF)
 el:∀j,j<zs.length→a1.cell? ⟨b,off+j*3,none⟩=some (.int .i64 (zs.getD j default).bg)∧a1.cell? ⟨b,off+j*3+1,none⟩=some (.int .i64 (zs.getD j default).aQ)∧a1.cell? ⟨b,off+j*3+2,none⟩=some (.int .i64 (zs.getD j default).Count)
set_option maxHeartbeats 2000000 in
theorem W3(F:Fence)(n:Nat)(fF:F.fn 187)(cE:F.round=none)(aT:1≤n)(l xe b off aF:Nat)(zs:List ep)(OP:zs.length*24≤140737488351232)(J:List (Nat×ep)→World→Prop)(lz:∀s a1,J s a1→NZ a1 xe b off aF zs)
  (ha:∀pre x a1,J pre a1→pre.length<zs.length→YieldAt F (n-1) prog l (DV x) a1 λe W'=>e=.returned (.bool true)∧J (pre++[x]) W') (a1:World) (bJ:J [] a1) :
  CallsIn F n prog 187 #[.func (.yield l) #[] #[],.pointer (some ⟨xe,0,none⟩)] a1 λe W'=>(∃v,e=.returned v)∧J (st zs zs.length) W':=by
 refine callsIn_of_wp func187 rfl fF ?_ cE;simp only[Tryz.ntmps187,List.size_toArray,List.length_cons,List.length_nil,Nat.reduceAdd,Nat.reduceSub,Array.replicate_succ,Array.replicate_zero,List.push_toArray,List.append_toArray,List.nil_append,List.cons_append];have anE:=(lz _ _ bJ).box
 gi_wp2
 gi_loopw [3] (λi wr=>∃k:Nat,k≤zs.length∧i=.int .i64 ((zs.length:Int)-1-k)∧J (st zs k) wr)
  (λi _=>(intOf i+1).toNat)
 case atStart=>exact⟨0,Nat.zero_le _,by simp,bJ⟩
 case round=>
  obtain⟨k,hk,rfl,BV⟩:=hrel;have dR:=lz _ _ BV;have anF:=dR.box;by_cases bQ:k<zs.length
  ·obtain⟨aA,e2,b6⟩:=dR.el (zs.length-1-k) (by omega);obtain⟨fn,tmps,assign,body,ah,b2⟩:=ha _ (zs.length-1-k,zs.getD (zs.length-1-k) default) wr BV (by rw[US];exact bQ);have hi:((zs.length:Int)-1-k)=((zs.length-1-k:Nat):Int):=by omega
   rw[hi];simp only[DV]at ah;have Sq:=VM zs k;generalize zs.getD (zs.length-1-k) default=x at aA e2 b6 ah b2 Sq
   gi_wp2
   refine b2.mono ?_;rintro e Vm ⟨rfl,vw⟩
   gi_wp2
   go_roundw
   case rel=>exact⟨k+1,by omega,by congr 1;omega,by rw[Sq];exact vw⟩
   case measure=>simp[intOf]
  ·obtain rfl:k=zs.length:=by omega
   gi_wp2
   go_end0
   exact⟨⟨_,rfl⟩,BV⟩
set_option maxHeartbeats 2000000 in
theorem W4(F:Fence)(n:Nat)(fF:F.fn 187)(cE:F.round=none)(l xe:Nat)(a:Option Addr)(aF:Nat)(J:List (Nat×ep)→World→Prop)(a1:World)(fv:a1.cell? ⟨xe,0,none⟩=some (.slice a 0 aF))(bJ:J [] a1):
  CallsIn F n prog 187 #[.func (.yield l) #[] #[],.pointer (some ⟨xe,0,none⟩)] a1 λe W'=>(∃v,e=.returned v)∧J [] W':=by
 refine callsIn_of_wp func187 rfl fF ?_ cE;simp only[Tryz.ntmps187,List.size_toArray,List.length_cons,List.length_nil,Nat.reduceAdd,Nat.reduceSub,Array.replicate_succ,Array.replicate_zero,List.push_toArray,List.append_toArray,List.nil_append,List.cons_append]
 gi_wp2
 gi_loopw [3] (λi wr=>i=.int .i64 (-1)∧J [] wr) (λ_ _=>0)
 case atStart=>exact⟨rfl,bJ⟩
 case round=>
  obtain⟨rfl,BV⟩:=hrel
  gi_wp2
  go_end0
  exact⟨⟨_,rfl⟩,BV⟩
set_option maxHeartbeats 1000000 in
theorem Z6(F:Fence)(n:Nat)(bX:F.fn 158)(cE:F.round=none)(a:Option Addr)(len aF:Nat)(w:World):
  CallsIn F n prog 158 #[.slice a len aF] w λe w'=>e=.returned (.func (.func 187) #[] #[.pointer (some ⟨w.heap.size,0,none⟩)])∧w'=w.alloc (.cells #[.slice a len aF] 53):=by
 refine callsIn_of_wp func158 rfl bX ?_ cE;simp only[Tryz.ntmps158,List.size_toArray,List.length_cons,List.length_nil,Nat.reduceAdd,Nat.reduceSub,Array.replicate_succ,Array.replicate_zero,List.push_toArray,List.append_toArray,List.nil_append,List.cons_append]
 gi_wp2
 go_ret
 exact⟨rfl,rfl⟩
theorem uN:kR prog 126 84 3 (ei b1) c2:=⟨underlying126,λ_=>rfl,λ_=>rfl,⟨_,underlying84,λ_ _=>rfl⟩,λa b w=>BI (by kernel_rfl) (by kernel_rfl) (DG a.bg b.bg a.aQ b.aQ w),λe a w=>by kernel_rfl,λa b h=>by cases a;cases b;simpa [c2]using h,λa=>by simp[ei,b1,valOf,uy,Instr.sameBits]⟩
theorem VN{a1:World}{r clock:Nat}{es:Array MapEntry}{l:List (bh×Int)}(V:a1.heap[r]?=some (.map es clock))(fv:iK es clock)(hv:∀I,e9 I (dz (ei b1) (c5 .i64) l) es.toList)(h:bh)(c:Int):
  ∃gG jC,(Instr.mapUpdate 126 (.map (some r)) (.agg #[.int .i64 h.bg,.int .i64 h.aQ]) (.int .i64 c)).run prog a1=.ok () (a1.putObj r (.map gG jC))∧iK gG jC∧∀I,e9 I (dz (ei b1) (c5 .i64) (ga c2 l h c)) gG.toList:=by
 have aA:∀w,(underlying 126).run prog w=.ok (.map 84 3) w:=λw=>by simp[underlying,program,Sem.run,uN.gv]
 have b6:=nS (P:=prog) V;have af:(Value.agg #[.int .i64 h.bg,.int .i64 h.aQ])=valOf (ei b1 h):=rfl;have cQ:=uN.key.ij false h a1;have e0:=x8 uN.key h a1 es.toList;have gy:∀aI:Obj,(setObj r aI).run prog a1=.ok () (a1.putObj r aI):=λaI=>by simp[setObj,Sem.run,V,World.putObj]
 rw[af];cases bl:c3 c2 l h with
 |none=>
  obtain⟨bU,_⟩:=s9 (enc:=c5 .i64) uN.key h a1 l es.toList 0 (hv λ_ _=>none) bl;have fo:(Instr.findKey 84 (valOf (ei b1 h)) es.toList).run prog a1=.ok none a1:=by rw[e0,bU]
  refine⟨es.push ⟨valOf (ei b1 h),.int .i64 c,clock⟩,clock+1,by simp[Instr.mapUpdate,aA,b6,cQ,fo,gy],fv.push _ _,λI=>?_⟩;obtain⟨_,cG⟩:=s9 (enc:=c5 .i64) uN.key h a1 l es.toList 0 (hv I) bl;simpa using cG c ⟨valOf (ei b1 h),.int .i64 c,clock⟩ (by simp[c5,aO]) (by rw[←af];simp[ei,b1,aO,b9])
 |some a=>
  obtain⟨cw,bU,_,dP,gT,_⟩:=Dd (enc:=c5 .i64) uN.key h a1 l es.toList 0 a (hv λ_ _=>none) bl;have fo:(Instr.findKey 84 (valOf (ei b1 h)) es.toList).run prog a1=.ok (some (0+lY c2 l h,cw.val)) a1:=by rw[e0,bU]
  have jX:es[lY c2 l h]?=some cw:=by simpa using dP
  have kK:(Instr.keyThatStays (valOf (ei b1 h)) (valOf (ei b1 h))).run prog a1=.ok (valOf (ei b1 h)) a1:=by simp[Instr.keyThatStays,uN.key.bits h]
  refine⟨es.modify (lY c2 l h) (λe=>{e with key:=valOf (ei b1 h),val:=.int .i64 c}),clock,by simp[Instr.mapUpdate,aA,b6,cQ,fo,jX,gT,kK,gy],fv.modify _ _ λ_=>rfl,λI=>?_⟩;obtain⟨_,_,_,_,_,kk⟩:=Dd (enc:=c5 .i64) uN.key h a1 l es.toList 0 a (hv I) bl;simpa using kk c (λe=>{e with key:=valOf (ei b1 h),val:=.int .i64 c}) (λe _=>by rw[←af];simp[ei,b1,aO,b9]) (λe=>by simp[c5,aO])
structure u1(w0:World)(B b off aF:Nat)(a:Option Addr)(zs pre:List ep)(a1:World):Prop where
 below:Below w0.heap.size w0 a1
 drawn:w0.drawn≤a1.drawn
 out:a1.heap[B+1]?=some (.cells #[.map (some B)] 126 (0,0))
 box:a1.heap[B+2]?=some (.cells #[.slice a zs.length aF] 53 (0,0))
 bx:∃es clock,a1.heap[B]?=some (.map es clock)∧iK es clock∧∀I,e9 I (dz (ei b1) (c5 .i64) (pre.foldl (λm x=>ga c2 m (bh.mk x.bg x.aQ) x.Count) [])) es.toList
set_option maxHeartbeats 4000000 in
theorem W5(F:Fence)(n:Nat)(ak:F.fn 90)(bc:F.fn 158)(bX:F.fn 187)(cE:F.round=none)(aT:3≤n)(a:Option Addr)(aF:Nat)(zs:List ep)(OP:zs.length*24≤140737488351232)(w:World)
  (iZ:∀b off,a=some ⟨b,off,none⟩→∀j,j<zs.length→b<w.heap.size∧w.cell? ⟨b,off+j*3,none⟩=some (.int .i64 (zs.getD j default).bg)∧w.cell? ⟨b,off+j*3+1,none⟩=some (.int .i64 (zs.getD j default).aQ)∧w.cell? ⟨b,off+j*3+2,none⟩=some (.int .i64 (zs.getD j default).Count)) (aC:zs≠[]→∃b off,a=some ⟨b,off,none⟩) :
  CallsIn F n prog 90 #[.slice a zs.length aF] w λe W'=>e=.returned (.map (some w.heap.size))∧u1 w w.heap.size 0 0 aF a zs zs.reverse W':=by
 have h1:1≤n:=by omega
 have J1:=@run_makeMap prog;refine callsIn_of_wp_marks func90 rfl ak ?_ cE;simp only[Tryz.ntmps90,List.size_toArray,List.length_cons,List.length_nil,Nat.reduceAdd,Nat.reduceSub,Array.replicate_succ,Array.replicate_zero,List.push_toArray,List.append_toArray,List.nil_append,List.cons_append]
 gi_wp2_with (gi_at_call 158;refine(Z6 F (n-1) bc cE _ _ _ _).mono ?_;rintro e w' ⟨rfl,rfl⟩)
 have qO:∀{pre a1},u1 w w.heap.size 0 0 aF a zs pre a1→w.heap.size+3≤a1.heap.size:=λh=>by have:=(Array.getElem?_eq_some_iff.1 h.box).1;omega
 have Q4:∀(pre:List ep) (a1:World) (o:Obj),u1 w w.heap.size 0 0 aF a zs pre a1→u1 w w.heap.size 0 0 aF a zs pre (a1.alloc o):=λpre a1 o h=>by
  have W:=qO h;obtain⟨es,clock,aA,e2,b6⟩:=h.bx;exact⟨h.below.alloc (by omega) o,h.drawn,(Below.heap_alloc a1 o _ (by omega)).trans h.out,(Below.heap_alloc a1 o _ (by omega)).trans h.box,es,clock,(Below.heap_alloc a1 o _ (by omega)).trans aA,e2,b6⟩
 have HX:∀(pre:List ep) (a1:World) (l:Nat) (g4:Obj),w.heap.size+3≤l→u1 w w.heap.size 0 0 aF a zs pre a1→u1 w w.heap.size 0 0 aF a zs pre (a1.putObj l g4):=λpre a1 l g4 aJ h=>by
  obtain⟨es,clock,aA,e2,b6⟩:=h.bx;exact⟨⟨h.below.os,h.below.tape,h.below.output,by rw[World.putObj_size];exact h.below.size,λk hk=>(World.putObj_heap_other (by omega)).trans (h.below.block k hk)⟩,h.drawn,(World.putObj_heap_other (by omega)).trans h.out,(World.putObj_heap_other (by omega)).trans h.box,es,clock,(World.putObj_heap_other (by omega)).trans aA,e2,b6⟩
 have bJ:u1 w w.heap.size 0 0 aF a zs [] (((w.alloc (Obj.map #[] 0)).alloc (Obj.cells #[Value.map (some w.heap.size)] 126)).alloc (Obj.cells #[Value.slice a zs.length aF] 53)):=by
  refine⟨(((Below.refl _ w).alloc (Nat.le_refl _) _).alloc (by simp) _).alloc (by simp;omega) _,Nat.le_refl _,?_,?_,#[],0,?_,⟨by simp,by simp⟩,λI=>by simp[dz,e9]⟩
  ·exact(Below.heap_alloc _ _ _ (by simp)).trans (by have:=World.alloc_heap_new (w.alloc (Obj.map #[] 0)) (Obj.cells #[Value.map (some w.heap.size)] 126);rwa [World.size_alloc]at this)
  ·have:=World.alloc_heap_new ((w.alloc (Obj.map #[] 0)).alloc (Obj.cells #[Value.map (some w.heap.size)] 126)) (Obj.cells #[Value.slice a zs.length aF] 53)
   rwa [World.size_alloc,World.size_alloc]at this
  ·exact(Below.heap_alloc _ _ _ (by simp;omega)).trans ((Below.heap_alloc _ _ _ (by simp)).trans (World.alloc_heap_new w _))
 have jH:(((w.alloc (Obj.map #[] 0)).alloc (Obj.cells #[Value.map (some w.heap.size)] 126)).alloc (Obj.cells #[Value.slice a zs.length aF] 53)).heap.size=w.heap.size+3:=by simp
 generalize ((w.alloc (Obj.map #[] 0)).alloc (Obj.cells #[Value.map (some w.heap.size)] 126)).alloc (Obj.cells #[Value.slice a zs.length aF] 53)=TU at bJ jH ⊢
 refine VG cE h1 (gf:=187) (lb:=#[.pointer (some ⟨w.heap.size+1+1,0,none⟩)]) rfl bX (enters_of func187 (by kernel_rfl) rfl) (encs:=DV) zs.length (st zs zs.length) (λ_=>rfl)
  (λpre a1=>u1 w w.heap.size 0 0 aF a zs (pre.map (·.2)) a1)
  (λa1=>a1.cell? ⟨w.heap.size+1+1,0,none⟩=some (.slice a zs.length aF)∧∀b off,a=some ⟨b,off,none⟩→NZ a1 (w.heap.size+1+1) b off aF zs)
  (λs a1 o h=>Q4 _ _ _ h) (λs a1 l o g4 aJ h _ _=>HX _ _ _ _ (by omega) h) (λs a1 h=>?fx) bJ (λl J a1 lz ha JE=>?seq)
  (λpre x e8 a1=>∃qA,w.heap.size+5≤qA∧a1.heap[qA]?=some (.cells #[.int .i64 x.2.bg,.int .i64 x.2.aQ,.int .i64 x.2.Count] 60 (0,0))∧u1 w w.heap.size 0 0 aF a zs (pre.map (·.2)) a1∧
   e8={tmps:=#[.slice a zs.length aF,undef,.map none,.pointer (some ⟨w.heap.size+1,0,none⟩),undef,.pointer (some ⟨qA,0,none⟩),.map (some w.heap.size),.slice a zs.length aF,.func (.func 187) #[] #[.pointer (some ⟨w.heap.size+1+1,0,none⟩)],.int .i64 (x.1:Int),.agg #[.int .i64 x.2.bg,.int .i64 x.2.aQ,.int .i64 x.2.Count],undef,undef,undef,undef,undef,undef,undef,undef,undef],defers:=[]}) ?aiN ?assign ?body ?done
 case fx=>
  have W:=qO h;have mg:a1.cell? ⟨w.heap.size+1+1,0,none⟩=some (.slice a zs.length aF):=by simp[World.cell?,show a1.heap[w.heap.size+1+1]?=_ from h.box]
  refine⟨mg,λb off iN=>⟨by rw[←iN];exact mg,λj aM=>?_⟩⟩;obtain⟨an,hr,hl,oZ⟩:=iZ b off iN j aM;exact⟨(h.below.cell (p:=⟨b,off+j*3,none⟩) an).trans hr,(h.below.cell (p:=⟨b,off+j*3+1,none⟩) an).trans hl,(h.below.cell (p:=⟨b,off+j*3+2,none⟩) an).trans oZ⟩
 case seq=>
  by_cases hz:zs=[]
  ·subst hz;exact W4 F (n-1) bX cE l _ a aF J a1 (lz _ _ JE).1 JE
  ·obtain⟨b,off,iN⟩:=aC hz;exact W3 F (n-1) bX cE (by omega) l _ b off aF zs OP J (λs a1 W=>(lz s a1 W).2 b off iN) ha a1 JE
 case aiN=>
  rintro pre x e8 a1 l o g4 aJ kg ⟨qA,dJ,eL,gQ,rfl⟩ aj anO;have:qA≠l:=λe=>by omega
  exact⟨qA,dJ,(World.putObj_heap_other this).trans eL,HX _ _ _ _ (by omega) gQ,rfl⟩
 case assign=>
  rintro l pre x a1 K gR anB fz;have W:=qO gR;simp only[DV]
  gi_wp2
  refine fz _ _ ⟨a1.heap.size,by omega,World.alloc_heap_new a1 _,Q4 _ _ _ gR,rfl⟩ λk o B4 p0 hk=>(Below.heap_alloc a1 _ _ (by omega)).trans hk
 case body=>
  rintro l pre x e8 a1 ⟨qA,dJ,eL,gQ,rfl⟩;obtain⟨es,clock,aA,e2,b6⟩:=gQ.bx;obtain⟨gG,jC,vL,an,au⟩:=VN aA e2 b6 (bh.mk x.2.bg x.2.aQ) x.2.Count;have kI:a1.cell? ⟨w.heap.size+1,0,none⟩=some (.map (some w.heap.size)):=by simp[World.cell?,show a1.heap[w.heap.size+1]?=_ from gQ.out]
  have bk:a1.cell? ⟨qA,0,none⟩=some (.int .i64 x.2.bg):=by simp[World.cell?,eL]
  have bZ:a1.cell? ⟨qA,1,none⟩=some (.int .i64 x.2.aQ):=by simp[World.cell?,eL]
  have c1:a1.cell? ⟨qA,2,none⟩=some (.int .i64 x.2.Count):=by simp[World.cell?,eL]
  simp only at vL
  gi_wp2
  refine⟨λk o B4 p0 hk=>(World.putObj_heap_other (by omega)).trans hk,?_⟩;have W:=qO gQ;refine⟨⟨gQ.below.os,gQ.below.tape,gQ.below.output,by rw[World.putObj_size];exact gQ.below.size,λk hk=>(World.putObj_heap_other (by omega)).trans (gQ.below.block k hk)⟩,gQ.drawn,(World.putObj_heap_other (by omega)).trans gQ.out,(World.putObj_heap_other (by omega)).trans gQ.box,gG,jC,World.putObj_heap_same (by omega),an,?_⟩;rw[List.foldl_append];exact au
 case done=>
  rintro en a1 g1 gR af4;have kI:a1.cell? ⟨w.heap.size+1,0,none⟩=some (.map (some w.heap.size)):=by simp[World.cell?,show a1.heap[w.heap.size+1]?=_ from gR.out]
  gi_wp2
  refine⟨by simp,.inl ⟨_,_,rfl,run_takeDeferred af4,?_⟩⟩;refine⟨_,results_tmp rfl _ _ _,rfl,?_⟩;have he:(st zs zs.length).map (·.2)=zs.reverse:=by
   refine List.ext_getElem (by simp[st]) λk h1 D=>?_;simp only[List.length_map,US]at h1;simp[st,List.getD_eq_getElem?_getD,List.getElem?_eq_getElem (show zs.length-1-k<zs.length by omega)]
  rw[he]at gR;exact HX _ _ _ _ (by omega) gR
theorem akU{l:List ep}{r:List (bh×Int)}(hm:Fp l=some r):ef prog 90 [] [.aX false (aD gx l)] (.de (dz (ei b1) (c5 .i64) r)):=by
 unfold Fp at hm;split at hm
 rotate_left
 ·cases hm
 rename_i eF;simp only[Option.some.injEq]at hm;subst hm;refine sQ.Hl [0] (σ2:=[(0,.map 84 3 (dz (ei b1) (c5 .i64) (wu l)))]) (r:=.dm 0) ?_ rfl rfl;intro cx w I β vs aq ax;simp only[bO,ar]at ax;obtain⟨ay,bF,rfl,ax,rfl⟩:=ax;simp only[aO]at ax;obtain⟨a,c,rfl,s2,oB,_,ax⟩:=ax;have zu:(aD gx l).length=l.length:=by simp[aD]
 rw[zu]
 have kv:∀b off,(∀j,j<l.length→jY I b (gx.enc (l.getD j default)) (off+j*3))→∀j,j<l.length→b<w.heap.size∧w.cell? ⟨b,off+j*3,none⟩=some (.int .i64 (l.getD j default).bg)∧w.cell? ⟨b,off+j*3+1,none⟩=some (.int .i64 (l.getD j default).aQ)∧w.cell? ⟨b,off+j*3+2,none⟩=some (.int .i64 (l.getD j default).Count):=λb off h j aM=>by
  obtain⟨⟨iT,bU,cG⟩,⟨jK,dP,gT⟩,⟨sJ,kk,FV⟩,_⟩:=h j aM;simp only[aO]at cG gT FV;subst cG gT FV;exact⟨World.block_lt_of_cell? w _ (aq.good _ _ _ bU),aq.good _ _ _ bU,aq.good _ _ _ dP,aq.good _ _ _ kk⟩
 have EY:∀b (xs:List ep) off,iG I b (aD gx xs) off→∀j,j<xs.length→jY I b (gx.enc (xs.getD j default)) (off+j*3):=λb xs=>by
  induction xs with
  |nil=>intro off _ j aM;cases aM
  |cons x r bD=>
   intro off h j aM;simp only[aD,List.map_cons,iG]at h;cases j with
   |zero=>simpa using h.1
   |succ j=>
    have:=bD _ h.2 j (by simpa using aM);simp only[List.getD_cons_succ];have e:off+(j+1)*3=off+(gx.enc x).length+j*3:=by
     have:(gx.enc x).length=3:=rfl;omega
    rw[e];exact this
 refine Calls.mono (callsIn_wide.1 (W5 Fence.wide 3 trivial trivial trivial rfl (Nat.le_refl _) a c l (by omega) w (λb off iN=>?_) (λhz=>?_))) ?_
 ·rcases ax with hz|⟨aN,g4,rfl,h⟩
  ·intro j aM;rw[←zu,hz]at aM;cases aM
  ·cases iN;exact kv _ _ (EY _ _ _ h)
 ·rcases ax with h|⟨b,o,rfl,_⟩
  ·exact(hz (by simpa [aD]using h)).elim
  ·exact⟨b,o,rfl⟩
 ·rintro e w' ⟨rfl,qO⟩;refine⟨_,rfl,.dm 0,[(0,.map 84 3 (dz (ei b1) (c5 .i64) (wu l)))],I,g9 (gF β [0]) 0 (.map (some w.heap.size)),⟨rfl,rfl⟩,?_,?_⟩
  ·simp[ar,g7,k3]
  ·obtain⟨es,clock,aA,e2,b6⟩:=qO.bx;have fA:∀o,I w.heap.size o=none:=aq.ic (Nat.le_refl _);have af:=aq.oS (dD:=[0]) (σ2:=[]) (env:=[]) ⟨λ_ _=>rfl,by simp[Y.ids],rfl,rfl,λx u cT n h=>by simp[Y.get]at h⟩
   refine af.turn (d:=0) (b:=w.heap.size) ⟨λk hk bQ=>qO.below.block k bQ,qO.below.size,qO.below.tape,qO.below.os,qO.below.output,qO.drawn⟩ (.inl aq.size) (λx u=>by rw[Y.c4,if_neg (Ne.symm u)]) (λx u W e=>by simp[Y.get]at W) (b7.refl I) (λ_ _ _=>rfl)
    (λo v af=>by rw[fA]at af;cases af) (fA none) (λx u=>gU _ _ u) (.inl (by simp[Y.ids])) (g0.w6 (by simp[gF])) (.inl (by rw[g7];rfl)) λaI b3=>?_
   ·rw[Y.c4,if_pos rfl]at b3;cases b3;simp only[aU,g7];exact .inr ⟨_,es,clock,rfl,aA,b6 I,fA,.inl aq.size,e2⟩
end Go.Proofs.YtmnbolcmepihlaaGreat
