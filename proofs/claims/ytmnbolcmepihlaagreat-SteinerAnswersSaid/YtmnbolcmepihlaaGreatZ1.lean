/- A part of the proof; the last text says of what. No condition but those that stand in each. -/
import Derived.Test.YtmnbolcmepihlaaGreatAA
import Derived.Sort.Grow
import Derived.Laws.StructEq
import Derived.Test.YtmnbolcmepihlaaGreatRows
import Derived.OwnWalk
namespace Go.Proofs.YtmnbolcmepihlaaGreat
set_option linter.all false
open Go
def ah.find:ah->Nat->Option U
 |[],_=>none
 |(k,v)::r,n=>bif Nat.beq k n then some v else ah.find r n
def avd:∀{env:ah} {t:Nat} {a:U},env.find t=some a->env.get t=a
 |[],_,_,h=>by simp[ah.find]at h
 |(k,v)::r,t,a,h=>by
  simp only[ah.find]at h;simp only[ah.get];cases b:Nat.beq k t<;>rw[b]at h
  .exact avd (env:=r) h
  .simpa using h
def ah.bS(env:ah):Operand->Option U
 |.tmp t=>env.find t
 |.const (.int k n)=>some (.int k n)
 |.const (.bool b)=>some (.bool b)
 |.const (.string s)=>some (.str s)
 |.const (.slice none 0 0)=>some .bC
 |.const v=>some (gN v)
 |.func f=>some (.fn f [])
 |.global _=>none
def auS{env:ah}{x:Operand}{a:U}(b:env.bS x=some a):env.ev x=a:=by
 unfold ah.bS at b;split at b<;>first|exact avd b|(simp only[ah.ev,gN];simpa using b)|(simp only[ah.ev];simpa using b)|cases b
def ah.iS(env:ah):List Operand->Option (List U)
 |[]=>some []
 |x::r=>match env.bS x with
  |none=>none
  |some a=>match ah.iS env r with
   |none=>none
   |some l=>some (a::l)
def avn{env:ah}:∀{xs:List Operand} {l:List U},env.iS xs=some l->xs.map env.ev=l
 |[],l,h=>by simpa [ah.iS]using h
 |x::r,l,h=>by
  simp only[ah.iS]at h;cases c:env.bS x with
  |none=>rw[c]at h;cases h
  |some a=>
   rw[c]at h;simp only at h;cases b:ah.iS env r with
   |none=>rw[b]at h;cases h
   |some d=>
    rw[b]at h;simp only[Option.some.injEq]at h;subst h;simp[auS c,avn b]
def ah.k9(env:ah):List (Nat×Operand)->Option (List (Nat×U))
 |[]=>some []
 |(i,x)::r=>match env.bS x with
  |none=>none
  |some a=>match ah.k9 env r with
   |none=>none
   |some l=>some ((i,a)::l)
def avx{env:ah}:∀{xs:List (Nat×Operand)} {l:List (Nat×U)},env.k9 xs=some l->xs.map (λp=>(p.1,env.ev p.2))=l
 |[],l,h=>by simpa [ah.k9]using h
 |(i,x)::r,l,h=>by
  simp only[ah.k9]at h;cases c:env.bS x with
  |none=>rw[c]at h;cases h
  |some a=>
   rw[c]at h;simp only at h;cases b:ah.k9 env r with
   |none=>rw[b]at h;cases h
   |some d=>
    rw[b]at h;simp only[Option.some.injEq]at h;subst h;simp[auS c,avx b]
def el{α:Type}[Inhabited α](l:List α)(i:Int):α:=l.getD i.toNat default
def spine{α:Type}:List α->Option (List α)
 |[]=>some []
 |x::r=>match spine r with
  |none=>none
  |some l=>some (x::l)
def ml{α:Type}:∀{xs l:List α},spine xs=some l->xs=l
 |[],l,h=>by simpa [spine]using h
 |x::r,l,h=>by
  simp only[spine]at h;cases a:spine r with
  |none=>rw[a]at h;cases h
  |some b=>
   rw[a]at h;simp only[Option.some.injEq]at h;rw[<-h,ml a]
def kF:U->Option (List U)
 |.agg cs=>spine cs
 |a=>some [a]
def qy{a:U}{cs:List U}(b:kF a=some cs):g3 a=cs:=by
 unfold kF at b;split at b
 .exact ml b
 .rename_i c;simp only[Option.some.injEq]at b;rw[<-b];cases a<;>first|rfl|exact absurd rfl (c _)
def iE(b9:Bool)(n:Nat)(cs:List U):Option U:=
 match b9 with
 |true=>match spine (cs.take n)with
  |none=>none
  |some l=>some (.agg l)
 |false=>match cs with
  |[]=>none
  |x::_=>some x
def ua{b9:Bool}{n:Nat}{cs:List U}{a:U}(b:iE b9 n cs=some a):ht b9 n cs=a:=by
 cases b9 with
 |true=>
  simp only[iE]at b;cases c:spine (cs.take n)with
  |none=>rw[c]at b;cases b
  |some l=>
   rw[c]at b;simp only[Option.some.injEq]at b;rw[<-b,<-ml c];rfl
 |false=>
  cases cs with
  |nil=>simp[iE]at b
  |cons x r=>simp only[iE,Option.some.injEq]at b;rw[<-b];rfl
def o5(d:List (Nat×Nat))(c:List U):List (Nat×U)->Option (List U)
 |[]=>spine c
 |(i,a)::e=>match d[i]? with
  |none=>none
  |some (off,size)=>match kF a with
   |none=>none
   |some b=>bif Nat.beq b.length size&&Nat.ble (off+b.length) c.length&&a.flat then
     (match spine (ei c off b)with
     |none=>none
     |some l=>o5 d l e)else none
def DL(d:List (Nat×Nat)):∀{parts:List (Nat×U)} {b c:List U},o5 d b parts=some c->nU d b parts=some c
 |[],b,c,h=>by simp only[o5]at h;simp only[nU];rw[ml h]
 |(i,a)::o,b,c,h=>by
  simp only[o5]at h;simp only[nU];cases k:d[i]? with
  |none=>rw[k]at h;cases h
  |some os=>
   obtain⟨m,n⟩:=os;rw[k]at h;simp only at h ⊢;cases f:kF a with
   |none=>rw[f]at h;cases h
   |some g=>
    rw[f]at h;simp only at h;rw[qy f];cases j:(Nat.beq g.length n&&Nat.ble (m+g.length) b.length&&a.flat)with
    |false=>rw[j]at h;simp at h
    |true=>
     rw[j]at h;simp only[cond_true]at h ⊢;cases e:spine (ei b m g)with
     |none=>rw[e]at h;cases h
     |some l=>
      rw[e]at h;simp only at h;rw[ml e];exact DL d h
def nx(sz:Nat):Nat->List (Nat×U)->Option (List (List U))
 |_,[]=>some []
 |k,(i,a)::r=>match kF a with
  |none=>none
  |some b=>bif Nat.beq i k&&Nat.beq b.length sz&&a.flat then
    (match nx sz (k+1) r with
    |none=>none
    |some l=>some (b::l))else none
def w5(sz:Nat):∀{parts:List (Nat×U)} {k:Nat} {b:List (List U)},nx sz k parts=some b->lM sz k parts=some b
 |[],k,b,h=>by simpa [nx,lM]using h
 |(i,a)::r,k,b,h=>by
  simp only[nx]at h;simp only[lM];cases d:kF a with
  |none=>rw[d]at h;cases h
  |some f=>
   rw[d]at h;simp only at h;rw[qy d];cases e:(Nat.beq i k&&Nat.beq f.length sz&&a.flat)with
   |false=>rw[e]at h;simp at h
   |true=>
    rw[e]at h;simp only[cond_true]at h ⊢;cases c:nx sz (k+1) r with
    |none=>rw[c]at h;cases h
    |some l=>
     rw[c]at h;simp only[Option.some.injEq]at h;rw[w5 sz c,<-h];rfl
def lf(σ:W):W->Prop
 |[]=>True
 |(d,o)::r=>σ.get d=some o/\lf σ r
def lf.mem{σ:W}:∀{σ2:W},lf σ σ2->∀p∈σ2,σ.get p.1=some p.2
 |[],_,p,h=>by simp at h
 |(d,o)::r,h,p,u=>by
  rcases List.mem_cons.1 u with rfl|u
  .exact h.1
  .exact lf.mem h.2 p u
def qO(σ:W)(env:ah):ah->Prop
 |[]=>True
 |(k,v)::r=>fq σ (env.get k) v/\qO σ env r
def qO.mem{σ:W}{env:ah}:∀{cu:ah},qO σ env cu->∀p∈cu,fq σ (env.get p.1) p.2
 |[],_,p,h=>by simp at h
 |(d,o)::r,h,p,u=>by
  rcases List.mem_cons.1 u with rfl|u
  .exact h.1
  .exact qO.mem h.2 p u
section rules
variable {G:bQ}{env:ah}{σ:W}{SN:Exit->ah->W->Prop}{x y c:Code}
def avN{cu:ah}{σ2:W}(b:qO σ env cu)(a:lf σ σ2):bJ G env σ cu σ2:=bJ.drop b.mem a.mem
end rules
section steps
variable {G:bQ}{ops:hU}{s:hj}{log:List (Nat×cg)}{i:Nat}{l:cg}{env:ah}{σ:W}{K:ah->W->Prop}{o:Oper}{bt:U}
end steps
section ops
variable {G:bQ}{o:Oper}{env:ah}{σ:W}{a:U}
def bf.alloc{T d:Nat}{zs:c4}{cs:List U}(h:o.op=.alloc T)(hz:∀w,∃z,(zeroValue T).run G.P w=.ok z w/\z.cells=zs.toArray)(u:iO zs=cs)(hi:G.ids.contains d=false):
  Yields G o env.ev ((d,.cells T cs)::σ) [d] [d] (.ptr d 0):=by subst u;exact br.alloc h hz hi
def bf.box{T d:Nat}{x:Operand}{cs:List U}(h:o.op=.box T x)(u:env.bS x=some a)(D:a.flat=true)(F:kF a=some cs)(O:a.refs (Nat.beq d)=false)(hi:G.ids.contains d=false):
  Yields G o env.ev ((d,.cells T cs)::σ) [d] [d] (.ptr d 0):=br.box h (auS u) D (qy F) O hi
variable {T:TypeId}{b9:Bool}
def awp{aM:TypeId}{x:Operand}{n d p:Nat}{cs:List U}(i:o.op=.load T x)(b:env.ev x=.ptr d p)(e:dN G.P T n b9)(c:σ.get d=some (.cells aM cs))(g:(b9||Nat.blt 0 n)=true)(f:Nat.ble (p+n) cs.length=true)(h:iE b9 n (cs.drop p)=some a):
  Yields G o env.ev σ [] [d] a:=by rw[<-ua h];exact avQ i b c e g f
def awr{x:Operand}{n:Nat}{cs:List U}(g:o.op=.load T x)(b:env.ev x=.dF cs)(c:dN G.P T n b9)(e:(b9||Nat.blt 0 n)=true)(d:Nat.ble n cs.length=true)(f:iE b9 n cs=some a):
  Yields G o env.ev σ [] [] a:=by rw[<-ua f];exact axd g b c e d
def bf.build{T:TypeId}{parts:Array (Nat×Operand)}{zs:c4}{c1:List (Nat×Nat)}{ps:List (Nat×U)}{cs:List U}(h:o.op=.build T parts)(F:n2 G.P T zs c1)(D:env.k9 parts.toList=some ps)
  (u:o5 c1 (iO zs) ps=some cs):Yields G o env.ev σ [] [] (.agg cs):=br.build h F (by rw[avx D];exact DL c1 u)
def bf.makeFunc{f:FuncId}{aR:Array Operand}{l:List U}(h:o.op=.makeFunc (.func f) #[] aR)(u:env.iS aR.toList=some l):Yields G o env.ev σ [] [] (.fn f l):=by
 rw[<-avn u];exact br.makeFunc h
def bf.field{T f off n:Nat}{b9:Bool}{x:Operand}{cs:List U}(h:o.op=.field T x f)(u:env.ev x=.agg cs)(D:pt G.P T f off n b9)(F:Nat.ble (off+n) cs.length=true)(O:iE b9 n (cs.drop off)=some a):Yields G o env.ev σ [] [] a:=by
 rw[<-ua O];exact br.field h u D F
def bf.call{u:Operand}{args:Array Operand}{k:Array TypeId}{f:FuncId}{aR cr ps:List U}{σs cb:W}{r:U}(h:o.op=.call ⟨.value u,args,k⟩)(D:env.ev u=.fn f aR)
  (O:∀(args:eN) (w:World),(callFunc f args).run G.P w=.ok (.enter f args) w) (a1:bY G.P f cb cr r) (F:env.iS args.toList=some ps) (ab:gL σs (ps++aR) cr) (Y:lf σ σs) (Q:lf σs cb)
  (aa:r.closed=true) (X:cb.clean (λd=>!(cb.ids++[]).contains d)=true):Yields G o env.ev σ [] σs.ids r:=
 br.call h D O Y.mem (by rw[avn F];exact ab) Q.mem a1 aa X
def avP{b:Operand}{args:Array Operand}{k:Array TypeId}{f:FuncId}{aR c ps:List U}{cb:W}{a:U->W->Prop}(news:cg)(q:o.op=.call ⟨.value b,args,k⟩)(e:env.ev b=.fn f aR)
  (m:∀(args:eN) (w:World),(callFunc f args).run G.P w=.ok (.enter f args) w) (a1:cI G.P f cb c a) (h:env.iS args.toList=some ps) (p:gL σ (ps++aR) c) (l:lf σ cb)
  (n:news.all (λd=>!G.ids.contains d&&(σ.get d).isNone)=true) (i:(σ.minus cb.ids).clean news.contains=true)
  (j:∀r σ2,a r σ2->r.refs (λd=>!(cb.ids++news).contains d)=false/\σ2.clean (λd=>!(cb.ids++news).contains d)=true) :
  eL G o env.ev σ (cb.ids++news) news (λr g=>∃σ2,a r σ2/\g=σ2++σ.minus cb.ids):=
 cB.call news q e m l.mem (by rw[avn h];exact p) a1 n i j
def awq{T aM d p n:Nat}{x y:Operand}{cs ca c:List U}(q:o.op=.store T x y)(e:env.ev x=.ptr d p)(l:dN G.P T n b9)(g:env.bS y=some a)(j:σ.get d=some (.cells aM cs))
  (f:a.flat=true) (b:kF a=some ca) (m:Nat.beq ca.length n=true) (k:Nat.ble (p+n) cs.length=true) (i:spine (ei cs p ca)=some c) :
  eL G o env.ev σ [d] [] (λr h=>r=.undef/\h=σ.set d (.cells aM c)):=by
 rw[<-ml i,<-qy b];exact avS q e (auS g) j l.size f (by rw[qy b];simpa using m) (by simpa using k)
def y0{n:Int}(b : -9223372036854775808<=n)(a:n<=9223372036854775807):vN .i64 n:=by
 unfold vN;rw[IntKind.wrap_i64];omega
def yl.tmp{t:Nat}{a:U}(h:env.find t=some a):i4 G env σ (.tmp t) a:=by rw[<-avd h];exact .tmp t
def yl.cell{a T d aM n:Nat}{b9:Bool}{cs:List U}{r:U}(u:dN G.P T n b9)(Q:env.get a=.ptr d 0)(Z:σ.get d=some (.cells aM cs))(D:Nat.beq cs.length n=true)(F:(b9||Nat.blt 0 n)=true)(O:iE b9 n cs=some r):i4 G env σ (.cell a T) r:=by
 rw[<-ua O];exact .cell a T d aM n b9 cs Q Z u (by simpa using D) (λe=>by subst e;simpa using F)
end ops
end Go.Proofs.YtmnbolcmepihlaaGreat
namespace Go.Proofs.YtmnbolcmepihlaaGreat
set_option linter.all false
open Go
def avu:∀σ:W,σ.freeze []=σ
 |[]=>rfl
 |(d,o)::r=>by simp[W.freeze,avu r]
section
variable {G:bQ}{env:ah}{σ eS:W}{o:Oper}{ev:Operand->U}
def Lw{n:Int}(b:0<=n)(a:n<=18446744073709551615):vN .u64 n:=by
 unfold vN;simp only[IntKind.wrap,IntKind.bits,IntKind.signed];simp;omega
end
end Go.Proofs.YtmnbolcmepihlaaGreat
namespace Go.Proofs.YtmnbolcmepihlaaGreat
set_option linter.all false
open Go
def ay{α:Type}(l:List (Int×α))(n:Int):Option α:=(l.find? λa=>decide (a.1=n)).map (·.2)
def bc{α:Type}:List (Int×α)->Int->α->List (Int×α)
 |[],n,v=>[(n,v)]
 |p::r,n,v=>if p.1=n then(n,v)::r else p::bc r n v
def bg{α:Type}(k:IntKind)(enc:α->U)(l:List (Int×α)):List (U×U):=l.map λa=>(.int k a.1,enc a.2)
theorem sO{I:a2}{α:Type}{k:IntKind}{enc:α->U}(n:Int):∀(l:List (Int×α)) (es:iw) (i:Nat) (a:α),c3 I (bg k enc l) es->ay l n=some a->
  ∃j v,Instr.findNow (.int k) (.int k n) es i=some (some (i+j,v))/\aN I (enc a) v/\∃e,es[j]?=some e/\e.key=.int k n/\
   ∀(b:α) (f:Value) (c:MapEntry->MapEntry),aN I (enc b) f->(∀e,(c e).key=.int k n/\(c e).val=f)->c3 I (bg k enc (bc l n b)) (es.modify j c)
 |[],es,i,a,h,d=>by simp[ay]at d
 |(m,b)::r,es,i,a,h,d=>by
  simp only[bg,List.map_cons,c3]at h;obtain⟨e,t,rfl,g,s,u⟩:=h;simp only[aN]at g;by_cases p:m=n
  .subst p;simp only[ay,List.find?,decide_true,Option.map_some,Option.some.injEq]at d;subst d;refine⟨0,e.val,?_,s,e,rfl,g,?_⟩
   .simp[Instr.findNow,Instr.sameNow,g]
   .intro w f c q o;simp only[bc,if_pos,bg,List.map_cons,c3,List.modify_zero_cons];exact⟨c e,t,rfl,by simp only[aN];exact(o e).1,by rw[(o e).2];exact q,u⟩
  .have C:ay r n=some a:=by simpa [ay,List.find?,p]using d
   obtain⟨j,v,D,z,A,x,y,B⟩:=sO n r t (i+1) a u C;refine⟨j+1,v,?_,z,A,by simpa using x,y,?_⟩
   .simp only[Instr.findNow,Instr.sameNow,g,if_pos]
    grind
   .intro w f c q o;simp only[bc,if_neg p,bg,List.map_cons,c3,List.modify_succ_cons];exact⟨e,_,rfl,by simp only[aN];exact g,s,B w f c q o⟩
theorem sP{I:a2}{α:Type}{k:IntKind}{enc:α->U}(n:Int):∀(l:List (Int×α)) (es:iw) (i:Nat),c3 I (bg k enc l) es->ay l n=none->
  Instr.findNow (.int k) (.int k n) es i=some none/\∀(b:α) (e:MapEntry),aN I (enc b) e.val->e.key=.int k n->c3 I (bg k enc (bc l n b)) (es++[e])
 |[],es,i,h,d=>by
  simp only[bg,List.map_nil,c3]at h;subst h;refine⟨rfl,λb e f j=>?_⟩;simp only[bc,bg,List.map_cons,List.map_nil,c3,List.nil_append];exact⟨e,[],rfl,by simp only[aN];exact j,f,rfl⟩
 |(m,c)::r,es,i,h,d=>by
  simp only[bg,List.map_cons,c3]at h;obtain⟨e,p,rfl,g,o,q⟩:=h;simp only[aN]at g;have a:m≠n:=λa=>by subst a;simp[ay,List.find?]at d
  have u:ay r n=none:=by simpa [ay,List.find?,a]using d
  obtain⟨v,s⟩:=sP n r p (i+1) q u;refine⟨?_,λb t f j=>?_⟩
  .simp only[Instr.findNow,Instr.sameNow,g,if_pos]
   grind
  .simp only[bc,if_neg a,bg,List.map_cons,c3,List.cons_append];exact⟨e,_,rfl,by simp only[aN];exact g,o,s b t f j⟩
def BE{I:a2}:∀(l:List (U×U)) (es:iw),c3 I l es->es.length=l.length
 |[],es,h=>by simp only[c3]at h;subst h;rfl
 |(k,v)::r,es,h=>by
  simp only[c3]at h;obtain⟨c,a,rfl,_,_,b⟩:=h;simp[BE r a b]
structure gi(P:Program)(T K E:TypeId)(k:IntKind):Prop where
 ee:P.underlying T=some (.map K E)
 key:P.underlying K=some (.int k)
section
variable {G:bQ}{σ:W}{o:Oper}{ev:Operand->U}
def br.makeMap{T d:Nat}{K E:TypeId}(h:o.op=.makeMap T none)(hi:G.ids.contains d=false):Yields G o ev ((d,.map K E [])::σ) [d] [d] (.cc d):=by
 intro af cx I β w O Q D ab hop;have X:(execOp O o).run G.P w=.ok (.value (.map (some w.heap.size))) (w.alloc (.map #[] 0)):=by
  simp[execOp,h,Instr.makeMap]
 rw[X];have aa:=ab d (by simp);refine⟨I,et β d (.map (some w.heap.size)),by simp only[az];exact⟨by rw[eB],rfl⟩,?_,bM.refl I,λx F=>ff β _ (λe=>F (by simp[e]))⟩;refine D.real (by simpa using hi) aa rfl λae u=>?_;rw[Q d (by simp),auU,if_pos rfl]at u;injection u with u
 subst u;simp only[bb,eB];exact .inr ⟨w.heap.size,#[],0,rfl,heap_alloc_new w _,rfl,λo=>D.fJ (Nat.le_refl _) o,.inl D.size,by simp[fM]⟩
variable {I:a2}{K:TypeId}{cx:c2}{w:World}{β:Nat->Value}
theorem xy{G:bQ}{σ:W}(b:bG G cx I β σ w){d:Nat}{E:TypeId}{bs:List (U×U)}(c:σ.get d=some (.map K E bs)){v:Value}(a:az I β (.cc d) v):
  ∃r es clock,v=.map (some r)/\β d=.map (some r)/\w.heap[r]?=some (.map es clock)/\c3 I bs es.toList/\(∀o,I r o=none)/\Place cx r/\fM es clock:=by
 simp only[az]at a;obtain⟨rfl,a⟩:=a;have:=b.b5 d _ c;simp only[bb]at this;rcases this with e|⟨r,es,clock,h,i,f,g,j⟩
 .rw[e]at a;simp[hd]at a
 .grind
variable {P:Program}{es:dK}
def l7{r:Nat}{c:Nat}(a:w.heap[r]?=some (.map es c)):(getObj r).run P w=.ok (.map es c) w:=by simp[getObj,Sem.run,a]
variable {k:IntKind}
def qi(a:P.underlying K=some (.int k))(e:Bool)(n:Int)(w:World):(Instr.checkKey e 10000 K (.int k n)).run P w=.ok () w:=by
 have b:∀w,(underlying K).run P w=.ok (.int k) w:=λw=>by simp[underlying,program,Sem.run,a]
 rw[Instr.checkKey];simp[b]
def uc(I:a2)(w:World)(v:Value)(bs:List (U×U)):Prop:=∃a es b,v=.map (some a)/\w.heap[a]?=some (.map es b)/\c3 I bs es.toList
def Cv{G:bQ}{σ:W}(c:bG G cx I β σ w){d:Nat}{E:TypeId}{bs:List (U×U)}(g:σ.get d=some (.map K E bs)){v:Value}(b:az I β (.cc d) v):uc I w v bs:=by
 obtain⟨i,es,h,f,_,e,a,_⟩:=xy c g b;exact⟨i,es,h,f,e,a⟩
def JG{G:bQ}{σ:W}(c:bG G cx I β σ w){d:Nat}{clock:Nat}{E:TypeId}{bs:List (U×U)}(g:σ.get d=some (.er es clock K E bs)){v:Value}(a:az I β (.cc d) v):uc I w v bs:=by
 simp only[az]at a;obtain⟨rfl,a⟩:=a;have:=c.b5 d _ g;simp only[bb]at this;rcases this with h|⟨i,e,f,b,_⟩
 .rw[h]at a;simp[hd]at a
 .exact⟨i,es,clock,e,f,b⟩
def DM{G:bQ}{σ:W}(g:bG G cx I β σ w){bs:List (U×U)}{v:Value}(a:az I β (.b8 bs) v):uc I w v bs:=by
 simp only[az,aN]at a;obtain⟨b,es,h,rfl,c,f,_⟩:=a;obtain⟨i,j,d,e⟩:=g.eD b _ c;obtain⟨rfl,rfl⟩:=qD e;exact⟨b,es,h,rfl,d,f⟩
variable {E T:Nat}{ok:Bool}{α:Type}
def BL{i:Operand->Value}{K:Nat}{x y:Operand}{n:Int}(l:List (Int×α))(enc:α->U)(z:α)(h:o.op=.lookup T x y ok)(B:uc I w (i x) (bg k enc l))(c:i y=.int k n)
  (m:gi G.P T K E k) (C:∀w,∃v,(zeroValue E).run G.P w=.ok v w/\∀I,aN I (enc z) v) :
  ∃v,(execOp i o).run G.P w=.ok (.value v) w/\az I β (bif ok then .bO [enc ((ay l n).getD z),.bool (ay l n).isSome]else enc ((ay l n).getD z)) v:=by
 obtain⟨H,es,F,f,A,q⟩:=B;have g:∀w,(underlying T).run G.P w=.ok (.map K E) w:=λw=>by simp[underlying,program,Sem.run,m.ee]
 have u:∀w,(underlying K).run G.P w=.ok (.int k) w:=λw=>by simp[underlying,program,Sem.run,m.key]
 have d:=l7 (P:=G.P) A;have e:=qi (P:=G.P) m.key (es.isEmpty) n w;cases p:ay l n with
 |none=>
  obtain⟨j,_⟩:=sP n l es.toList 0 q p;obtain⟨v,s,t⟩:=C w;have b:(Instr.findKey K (.int k n) es.toList).run G.P w=.ok none w:=by simp[Instr.findKey,u,j]
  cases ok with
  |true=>
   refine⟨.tuple #[v,.bool false],by simp[execOp,h,Instr.lookup,f,c,g,d,e,b,s],?_⟩;simp only[cond_true,az,bx];exact⟨_,rfl,v,[.bool false],rfl,aN.rep β _ _ (t I),.bool false,[],rfl,by simp[aN],rfl⟩
  |false=>
   refine⟨v,by simp[execOp,h,Instr.lookup,f,c,g,d,e,b,s],?_⟩;simp only[cond_false];exact aN.rep β _ _ (t I)
 |some a=>
  obtain⟨D,v,j,r,_⟩:=sO n l es.toList 0 a q p;have b:(Instr.findKey K (.int k n) es.toList).run G.P w=.ok (some (0+D,v)) w:=by simp[Instr.findKey,u,j]
  cases ok with
  |true=>
   refine⟨.tuple #[v,.bool true],by simp[execOp,h,Instr.lookup,f,c,g,d,e,b],?_⟩;simp only[cond_true,az,bx];exact⟨_,rfl,v,[.bool true],rfl,aN.rep β _ _ r,.bool true,[],rfl,by simp[aN],rfl⟩
  |false=>
   refine⟨v,by simp[execOp,h,Instr.lookup,f,c,g,d,e,b],?_⟩;simp only[cond_false];exact aN.rep β _ _ r
def br.lookup{α:Type}{T K E d:Nat}{k:IntKind}{x y:Operand}{ok:Bool}{n:Int}(l:List (Int×α))(enc:α->U)(z:α)(h:o.op=.lookup T x y ok)(F:ev x=.cc d)(O:ev y=.int k n)(Z:σ.get d=some (.map K E (bg k enc l)))
  (aa:gi G.P T K E k) (hz:∀w,∃v,(zeroValue E).run G.P w=.ok v w/\∀I,aN I (enc z) v) :
  Yields G o ev σ [] [d] (bif ok then .bO [enc ((ay l n).getD z),.bool (ay l n).isSome]else enc ((ay l n).getD z)):=
 .pure λae cx I β w ab X Q hop=>by
  have D:=hop x (by simp[h,Op.operands]);rw[F]at D
  have u:=hop y (by simp[h,Op.operands]);rw[O]at u;have u:=fW u
  exact BL l enc z h (Cv Q (by rw[X d (by simp)];exact Z) D) u aa hz
def awF{K:Nat}{x y:Operand}{n:Int}(l:List (Int×α))(enc:α->U)(z:α)(b:o.op=.lookup T x y ok)(e:ev x=.b8 (bg k enc l))(f:ev y=.int k n)
  (h:gi G.P T K E k) (i:∀w,∃v,(zeroValue E).run G.P w=.ok v w/\∀I,aN I (enc z) v) :
  Yields G o ev σ [] [] (bif ok then .bO [enc ((ay l n).getD z),.bool (ay l n).isSome]else enc ((ay l n).getD z)):=
 .pure λm cx I β w j p g d=>by
  have c:=d x (by simp[b,Op.operands]);rw[e]at c
  have a:=d y (by simp[b,Op.operands]);rw[f]at a;have a:=fW a
  exact BL l enc z b (DM g c) a h i
def DN{a:Operand->Value}{K:Nat}{x:Operand}{VO}(l:List (Int×α))(enc:α->U)(i:o.op=.call ⟨.builtin .len,#[x],VO⟩)(m:VO=#[T])(j:uc I w (a x) (bg k enc l))(g:G.P.underlying T=some (.map K E)):
  ∃v,(execOp a o).run G.P w=.ok (.value v) w/\az I β (.int .i64 (l.length:Int)) v:=by
 subst m;obtain⟨p,es,n,f,d,c⟩:=j;have h:∀w,(underlying T).run G.P w=.ok (.map K E) w:=λw=>by simp[underlying,program,Sem.run,g]
 have e:=l7 (P:=G.P) d;have b:=BE _ _ c;simp only[Array.length_toList,bg,List.length_map]at b;exact⟨.int .i64 l.length,by simp[execOp,i,resolve,invoke,builtin,Builtin.len_,f,h,e,goInt,b],by simp[az,aN]⟩
def aw4{K d:Nat}{x:Operand}{VO}(l:List (Int×α))(enc:α->U)(a:o.op=.call ⟨.builtin .len,#[x],VO⟩)(i:VO=#[T])(c:ev x=.cc d)(g:σ.get d=some (.map K E (bg k enc l)))(h:G.P.underlying T=some (.map K E)):
  Yields G o ev σ [] [d] (.int .i64 (l.length:Int)):=
 .pure λn cx I β w m f e j=>by
  have b:=j x (by simp[a,Op.operands,Call.operands]);rw[c]at b
  exact DN l enc a i (Cv e (by rw[f d (by simp)];exact g) b) h
def awV{K:Nat}{x:Operand}{VO}(l:List (Int×α))(enc:α->U)(a:o.op=.call ⟨.builtin .len,#[x],VO⟩)(f:VO=#[T])(c:ev x=.b8 (bg k enc l))(e:G.P.underlying T=some (.map K E)):
  Yields G o ev σ [] [] (.int .i64 (l.length:Int)):=
 .pure λi cx I β w h j d g=>by
  have b:=g x (by simp[a,Op.operands,Call.operands]);rw[c]at b
  exact DN l enc a f (DM d b) e
theorem fM.push{es:dK}{clock:Nat}(h:fM es clock)(k v:Value):fM (es.push ⟨k,v,clock⟩) (clock+1):=by
 obtain⟨F,D⟩:=h;refine⟨?_,λx u=>?_⟩
 all_goals grind
theorem fM.modify{es:dK}{clock:Nat}(h:fM es clock)(j:Nat)(f:MapEntry->MapEntry)(O:∀e,(f e).born=e.born):fM (es.modify j f) clock:=by
 obtain⟨D,F⟩:=h;have e:(es.modify j f).toList.map (·.born)=es.toList.map (·.born):=by
  apply List.ext_getElem?
  grind
 refine⟨by rw[e];exact D,λx u=>?_⟩;have:x.born∈(es.modify j f).toList.map (·.born):=List.mem_map.2 ⟨x,u,rfl⟩
 grind
def au9(w:World)(r:Nat)(o:Obj):dW w {w with heap:=w.heap.setIfInBounds r o} r:=
 ⟨λk a _=>by simp[Array.getElem?_setIfInBounds_ne (Ne.symm a)],by simp,rfl,rfl,rfl,Nat.le_refl _⟩
theorem cB.mapUpdate{α:Type}{T K E d:Nat}{k:IntKind}{x y z:Operand}{n:Int}(l:List (Int×α))(enc:α->U)(v:α)(h:o.op=.mapUpdate T x y z\/o.op=.insert T x y z)(u:ev x=.cc d)(aS:ev y=.int k n)(hz:ev z=enc v)(a3:(enc v).closed=true)
  (Z:σ.get d=some (.map K E (bg k enc l))) (am:gi G.P T K E k) :
  eL G o ev σ [d] [] (λr aT=>r=.undef/\aT=σ.set d (.map K E (bg k enc (bc l n v)))):=by
 intro cx I β w an af hop;have ak:x∈o.op.operands/\y∈o.op.operands/\z∈o.op.operands:=by rcases h with h|h<;>simp[h,Op.operands]
 have aR:=hop x ak.1;rw[u]at aR
 have D:=hop y ak.2.1;rw[aS]at D;have D:=fW D
 have Q:=hop z ak.2.2;rw[hz]at Q
 have Q:=az.closed _ _ a3 Q;obtain⟨r,es,clock,aG,aw,X,aq,ae,aB,ax⟩:=xy af Z aR;have aI:∀w,(underlying T).run G.P w=.ok (.map K E) w:=λw=>by simp[underlying,program,Sem.run,am.ee]
 have aM:∀w,(underlying K).run G.P w=.ok (.int k) w:=λw=>by simp[underlying,program,Sem.run,am.key]
 have aA:=l7 (P:=G.P) X;have aE:=qi (P:=G.P) am.key false n w
 have aF:∀O:Obj,(setObj r O).run G.P w=.ok () {w with heap:=w.heap.setIfInBounds r O}:=λO=>by
  have:=fo X;simp[setObj,Sem.run,X]
 have a4:∃F ab,(execOp an o).run G.P w=.ok .skip {w with heap:=w.heap.setIfInBounds r (.map F ab)}/\c3 I (bg k enc (bc l n v)) F.toList/\fM F ab:=by
  cases ao:ay l n with
  |none=>
   obtain⟨ag,aD⟩:=sP n l es.toList 0 aq ao;have ai:(Instr.findKey K (.int k n) es.toList).run G.P w=.ok none w:=by simp[Instr.findKey,aM,ag]
   refine⟨_,_,by rcases h with h|h<;>simp[execOp,h,Instr.mapUpdate,aG,D,aI,aA,aE,ai,aF]<;>rfl,?_,?_⟩
   rotate_left
   .exact ax.push _ _
   simpa using aD v ⟨.int k n,an z,clock⟩ Q rfl
  |some a=>
   obtain⟨j,au,ag,aD,aU,aX,a0,a5⟩:=sO n l es.toList 0 a aq ao;have ai:(Instr.findKey K (.int k n) es.toList).run G.P w=.ok (some (0+j,au)) w:=by simp[Instr.findKey,aM,ag]
   have aY:es[j]?=some aU:=by simpa using aX
   have a1:(Instr.keyThatStays (.int k n) (.int k n)).run G.P w=.ok (.int k n) w:=by simp[Instr.keyThatStays,Instr.sameBits]
   refine⟨_,_,by rcases h with h|h<;>simp[execOp,h,Instr.mapUpdate,aG,D,aI,aA,aE,ai,aF,aY,a0,a1]<;>rfl,?_,?_⟩
   .grind
   .exact ax.modify _ _ λ_=>rfl
 obtain⟨F,ab,aW,aZ,aV⟩:=a4;rw[aW];refine⟨.undef,_,I,β,⟨rfl,rfl⟩,by simp[az,aN],?_,bM.refl I,λ_ _=>rfl,λx u=>by rw[au5,if_neg (by simpa using u)]⟩;have aC:bE (β d)=some r:=by rw[aw];rfl
 refine af.turn (d:=d) (au9 w r _) aB (λx u=>by rw[au5,if_neg u]) (λx u Y e=>af.cA x d Y (by rw[Z];rfl) u r e (gv aC)) (bM.refl I) (λ_ _ _=>rfl)
  (λo v ar=>by rw[ae o]at ar;cases ar) (ae none) (λ_ _=>rfl) (.inr rfl) (en.refl β) (.inl aC) λO aa=>?_
 rw[au5,if_pos rfl,Z]at aa;injection aa with aa
 subst aa;simp only[bb];exact .inr ⟨r,F,ab,aw,by have:=fo X;simp[Array.getElem?_setIfInBounds,this],aZ,ae,aB,aV⟩
def awK{T:TypeId}{x y:Operand}{n:Int}{s:ByteArray}{b:UInt8}(c:o.op=.index T x y)(f:ev x=.str s)(h:ev y=.int k n)(i:G.P.underlying T=some .string)(j:0<=n)(g:s[n.toNat]?=some b):
  Yields G o ev σ [] [] (.int .u8 (b.toNat:Int)):=
 .pure λq cx I β w m r p e=>by
  have d:=e x (by simp[c,Op.operands]);rw[f]at d;simp only[az,aN]at d
  have a:=e y (by simp[c,Op.operands]);rw[h]at a;have a:=fW a
  have l:∀w,(underlying T).run G.P w=.ok .string w:=λw=>by simp[underlying,program,Sem.run,i]
  exact⟨.int .u8 b.toNat,by simp[execOp,c,Instr.index,d,a,asIntOf,l,j,g],by simp[az,aN]⟩
end
end Go.Proofs.YtmnbolcmepihlaaGreat
namespace Go.Proofs.YtmnbolcmepihlaaGreat
set_option linter.all false
open Go Go.Sort
abbrev DO(P:Program)(f:FuncId):Prop:=∀(bE c aR:Nat) (b:bH) (a:World),Holds (Value.int .i64) a bE c b.toArray->bE<a.heap.size->b.length<4611686018427387904->
  Calls P f #[.slice (some ⟨bE,c,none⟩) b.length aR] a λd h=>
   d=.returned (.tuple #[])/\∃e g,h=grow (putRow (Value.int .i64) (Go.Sort.ahead a e) bE c (b.mergeSort λi j=>decide (i<=j)).toArray) g
def encI(n:Int):List U:=[.int .i64 n]
def oe(x:Int):bH->bH
 |[]=>[x]
 |y::r=>if x<=y then x::y::r else y::oe x r
def dh:bH->bH
 |[]=>[]
 |x::r=>oe x (dh r)
theorem B4(x:Int):∀l:bH,(oe x l).Perm (x::l)
 |[]=>List.Perm.refl _
 |y::r=>by
  simp only[oe];split
  .grind
  .exact((B4 x r).cons y).trans (List.Perm.swap x y r)
def mb:∀l:bH,(dh l).Perm l
 |[]=>List.Perm.refl _
 |x::r=>(B4 x (dh r)).trans ((mb r).cons x)
theorem Co(x:Int):∀l:bH,l.Pairwise (·<=·)->(oe x l).Pairwise (·<=·)
 |[],_=>by simp[oe]
 |y::r,h=>by
  simp only[oe];rw[List.pairwise_cons]at h;split
  .rename_i b;rw[List.pairwise_cons];refine⟨λc a=>?_,List.pairwise_cons.2 h⟩
   grind
  .rename_i b;rw[List.pairwise_cons];refine⟨λc a=>?_,Co x r h.2⟩;rcases List.mem_cons.1 ((B4 x r).mem_iff.1 a)with rfl|a
   all_goals grind
def oF:∀l:bH,(dh l).Pairwise (·<=·)
 |[]=>List.Pairwise.nil
 |x::r=>Co x _ (oF r)
theorem Bn:∀{l a:bH},l.Perm a->l.Pairwise (·<=·)->a.Pairwise (·<=·)->l=a
 |[],a,h,_,_=>by simpa using h.symm
 |x::r,[],h,_,_=>by simpa using h
 |x::r,y::s,h,h1,b=>by
  rw[List.pairwise_cons]at h1 b;have c:x=y:=by
   have d:x∈y::s:=h.mem_iff.1 (by simp);have e:y∈x::r:=h.mem_iff.2 (by simp)
   grind
  subst c;rw[Bn (List.Perm.cons_inv h) h1.2 b.2]
theorem Il(a:bH):(a.mergeSort λx y=>decide (x<=y))=dh a:=by
 refine Bn ((List.mergeSort_perm a _).trans (mb a).symm) ?_ (oF a);have:=List.pairwise_mergeSort (le:=λx y:Int=>decide (x<=y)) (λc d f e b=>by simp at e b ⊢;omega) (λc d=>by simp;omega) a
 grind
def Bz(a:bH):(dh a).length=a.length:=(mb a).length_eq
def oL{I:a2}:∀(a:bH) (vs:c4),bX I (a.map encI).flatten vs↔vs=a.map (Value.int .i64)
 |[],vs=>by simp[bX]
 |z::r,vs=>by
  simp only[List.map_cons,List.flatten_cons,encI,List.singleton_append,bX,aN];constructor
  .rintro⟨d,b,rfl,rfl,c⟩;rw[(oL r b).1 c]
  .rintro rfl;exact⟨_,_,rfl,rfl,(oL r _).2 rfl⟩
theorem Io{P:Program}{f:FuncId}(M:DO P f)(O:cI P f [] [.bC] (λr s=>r=.bO []/\s=[])){d T:Nat}(a:bH)(Y:a.length<4611686018427387904):
    cI P f [(d,.slice T 1 (a.map encI) 0 false)] [.own d] (λr s=>r=.bO []/\s=[(d,.slice T 1 ((dh a).map encI) 0 false)]):=by
  intro D p q l aE n h;simp only[bx]at h;obtain⟨aB,af,rfl,h,rfl⟩:=h;have N:W.get [(d,b1.slice T 1 (a.map encI) 0 false)] d=some (.slice T 1 (a.map encI) 0 false):=by rw[auU,if_pos rfl]
  have y:=n.b5 d _ N;simp only[az]at h;obtain⟨rfl,h⟩:=h;simp only[bb,List.length_map]at y;rcases y with x|⟨x,z,_⟩|⟨b,aR,o,v,z,J,m,B,A,aq,ar,ao,an,C⟩
  · rw[x]at h;simp[fA]at h
  · have R:a=[]:=by simpa using z
    subst R;have V:bG ⟨P,0,W.ids []⟩ D q l [] p:={n with b5:=λi F c=>by simp[W.get]at c,cA:=λi ae c=>by simp[W.get]at c,keep:=λi c=>by simp[W.ids]at c};refine Calls.mono (O D p q l [l d] V (by simp only[bx,az,aN];exact⟨_,_,rfl,x,rfl⟩)) ?_;rintro k ab ⟨G,rfl,r,s,I,aF,⟨rfl,rfl⟩,E,H⟩;refine⟨G,rfl,.bO [],[(d,.slice T 1 [] 0 false)],I,l,⟨rfl,by simp[dh]⟩,?_,?_⟩
    · simp only[az,bx]at E ⊢;exact E
    · exact{H with
        b5:=λi F c=>by
          rw[auU]at c;split at c
          · rename_i k;subst k;injection c with c;subst c
            simp only[bb]
            grind
          · simp[W.get]at c
        cA:=λi ae g u am b ai ax=>by
          rw[auU]at g u;split at g
          · rename_i k;subst k
            split at u
            · omega
            · simp[W.get]at u
          · simp[W.get]at g
        keep:=n.keep}
  · simp only[Nat.mul_one]at B A
    have L:o.toList.take a.length=a.map (Value.int .i64):=(oL a _).1 A
    have aA:∀e,e<a.length->o[e]?=some (Value.int .i64 (a[e]?.getD default)):=λe j=>by
      have:=congrArg (·[e]?) L;simp only[List.getElem?_take,if_pos j,Array.getElem?_toList,List.getElem?_map]at this;rw[this,List.getElem?_eq_getElem j];rfl
    have K:Holds (Value.int .i64) p b 0 a.toArray:=λe j=>by
      have j:e<a.length:=by simpa using j
      constructor
      · simp only[World.cell?,m,Nat.zero_add]
        grind
      · simp[World.frozen?,m]
    have w:=fo m;have Q:=M b 0 aR a p K w Y;rw[v];refine Calls.mono Q ?_;rintro k ab ⟨rfl,Z,aa,rfl⟩;rw[Il];have eZ:(dh a).length=a.length:=Bz a;have S:(grow (putRow (Value.int .i64) (Go.Sort.ahead p Z) b 0 (dh a).toArray) aa).heap[b]?=some (.cells (putCells (Value.int .i64) 0 (dh a).toArray o) T (0,0)):=by
      simp only[grow,putRow,mapBlock,Go.Sort.ahead];rw[Array.getElem?_append_left (by simpa using w),Array.getElem?_modify,if_pos rfl,m];rfl
    have U:(putCells (Value.int .i64) 0 (dh a).toArray o).toList.take (dh a).length=(dh a).map (Value.int .i64):=by
      apply List.ext_getElem?;intro e;rw[List.getElem?_take,List.getElem?_map];split
      · rename_i j
        have aw:e<o.size:=by omega
        rw[Array.getElem?_toList];simp only[putCells,Array.getElem?_mapIdx]
        grind
      · grind
    refine⟨.tuple #[],rfl,.bO [],_,q,l,⟨rfl,rfl⟩,by simp only[az,bx];exact⟨_,rfl,rfl⟩,?_⟩;refine bG.turn (b:=b) (d:=d) n ⟨λaD aC w=>?_,by simp[grow,putRow,mapBlock,Go.Sort.ahead],rfl,rfl,rfl,by simp[grow,putRow,mapBlock,Go.Sort.ahead]⟩ C (λi g=>?_) (λi g c _=>?_) (bM.refl q) (λ_ _ _=>rfl) (λF G ak=>?_) (n.kW m) (λ_ _=>rfl) (.inr rfl) (en.refl l) (.inl (by rw[v];rfl)) (λag t=>?_)
    · simp only[grow,putRow,mapBlock,Go.Sort.ahead]
      grind
    · rw[auU,auU,if_neg (Ne.symm g),if_neg (Ne.symm g)]
    · rw[auU,if_neg (Ne.symm g)]at c;simp[W.get]at c
    · grind
    · rw[auU,if_pos rfl]at t
      injection t with t
      subst t;simp only[bb,List.length_map];refine .inr (.inr ⟨b,aR,_,by rw[v,eZ],by omega,J,S,by simpa [putCells]using B,?_,?_,by omega,?_,?_,C⟩)
      · rw[Nat.mul_one];exact(oL _ _).2 U
      · intro k X;obtain⟨i,_,rfl⟩:=List.mem_map.1 X;rfl
      all_goals grind
end Go.Proofs.YtmnbolcmepihlaaGreat
namespace Go.Proofs.YtmnbolcmepihlaaGreat
set_option linter.all false
open Go
mutual
def U.y3{r s:Nat->Nat}(h:∀x,s (r x)=x):∀a:U,(a.ct r).ct s=a
 |.dg|.undef|.int _ _|.bool _|.str _|.aL _ _|.dF _|.bC|.ia|.cW _ _|.gq|.b8 _|.arr _=>rfl
 |.agg cs=>by simp only[U.ct,qJ h cs]
 |.bO cs=>by simp only[U.ct,qJ h cs]
 |.fn _ cs=>by simp only[U.ct,qJ h cs]
 |.own d=>by simp only[U.ct,h d]
 |.ptr d _=>by simp only[U.ct,h d]
 |.dr _ d=>by simp only[U.ct,h d]
 |.cc d=>by simp only[U.ct,h d]
def qJ{r s:Nat->Nat}(a:∀x,s (r x)=x):∀l:List U,iI s (iI r l)=l
 |[]=>rfl
 |x::t=>by simp only[iI,U.y3 a x,qJ a t]
end
theorem avE{r s:Nat->Nat}(a:∀x,s (r x)=x):∀(σ:W) (d:Nat),(σ.ct r).get (r d)=(σ.get d).map (·.ct r)
 |[],d=>rfl
 |(k,v)::t,d=>by
  have:=avE a t d;simp only[W.ct]at this ⊢;simp only[List.map_cons,auU];by_cases b:k=d
  .subst b;simp
  .grind
def awg(r:Nat->Nat)(σ:W):(σ.ct r).ids=σ.ids.map r:=by simp[W.ids,W.ct]
def bb.ct{cx:c2}{I:a2}{β β':Nat->Value}{w:World}{r:Nat->Nat}(u:∀d,β' (r d)=β d){d:Nat}{o:b1}{hn:c2}(D:∀b,Place cx b->Place hn b)(h:bb cx I β w d o):bb hn I β' w (r d) (o.ct r):=
 h.go (p:=λ_=>false) (bM.refl I) (u d) (λx _=>.inr (u x)) (λb _=>⟨λ_=>rfl,λ_=>rfl,D b⟩) (wP (λ_=>rfl) o)
def awj{r s:Nat->Nat}(a:∀x,s (r x)=x):∀o:b1,(o.ct r).ct s=o
 |.cells b cs=>by simp only[b1.ct,qJ a cs]
 |.slice ..=>rfl
 |.map ..=>rfl
 |.gM ..=>rfl
 |.er ..=>rfl
 |.iter c _ _ _=>by simp only[b1.ct,a c]
 |.hdr c _=>by simp only[b1.ct,a c]
 |.bp ..=>rfl
 |.eR b xs t=>by simp only[b1.ct,a t]
 |.gD ..=>rfl
 |.vec ..=>rfl
 |.cF b e n none=>by simp only[b1.ct,lU,a e]
 |.fk b g xs f e none=>by simp only[b1.ct,lU,a e]
 |.fk b g xs f e (some (i,t))=>by simp only[b1.ct,lU,a e,a t]
 |.cF b e n (some (i,t))=>by simp only[b1.ct,lU,a e,a t]
 |.dB K E e keys none d=>by simp only[b1.ct,lU,a e]
 |.dB K E e keys (some (i,t)) d=>by simp only[b1.ct,lU,a e,a t]
theorem cI.ct{P:Program}{f:FuncId}{eS:W}{args:List U}{ab:U->W->Prop}(h:cI P f eS args ab)(r s:Nat->Nat)(F:∀x,s (r x)=x)(hK:∀x,r (s x)=x):
    cI P f (eS.ct r) (iI r args) (λa Q=>∃a0 af,ab a0 af/\a=a0.ct r/\Q=af.ct r):=by
  intro cx w I β vs u aw;have am:∀x y,r x=r y->x=y:=λx y e=>by rw[<-F x,<-F y,e]
  have ar:bG ⟨P,0,eS.ids⟩ {cx with mO:=λx=>cx.mO (r x)} I (λx=>β (r x)) eS w:=
    {good:=u.good,eD:=u.eD,fK:=u.fK,fB:=u.fB,frame:=u.frame,size:=u.size,tape:=u.tape,os:=u.os,output:=u.output,drawn:=u.drawn
     b5:=λd o Z=>by
        have ax:=u.b5 (r d) (o.ct r) (by rw[avE F,Z];rfl);have ag:=bb.ct (cx:=cx) (r:=s) (β:=β) (β':=λx=>β (r x)) (λx=>by show β (r (s x))=β x;rw[hK]) (hn:={cx with mO:=λx=>cx.mO (r x)}) (λb O=>O) ax
        rwa [F,awj F]at ag
     cA:=λd cm Z X aa b O=>u.cA (r d) (r cm) (by rw[avE F];simpa using Z) (by rw[avE F];simpa using X) (λe=>aa (am _ _ e)) b O
     keep:=λd Z=>u.keep (r d) (by show r d∈(eS.ct r).ids;rw[awg];exact List.mem_map_of_mem Z)}
  have ao:bx I (λx=>β (r x)) args vs:=by
    have:=JF (r:=s) (β':=λx=>β (r x)) (p:=λ_=>false) (λx _=>by show β (r (s x))=β x;rw[hK]) (iI r args) vs (oN (λ_=>rfl) _) aw
    rwa [qJ F]at this
  refine Calls.mono (h _ w I _ vs ar ao) ?_;rintro e w' ⟨v,rfl,a,Q,ai,β',ak,an,D⟩;refine⟨v,rfl,a.ct r,Q.ct r,ai,λx=>β' (s x),⟨a,Q,ak,rfl,rfl⟩,EV (r:=r) (p:=λ_=>false) (λx _=>by show β' (s (r x))=β' x;rw[F]) a v (xD (λ_=>rfl) a) an,?_⟩
  have ae:∀d,(Q.ct r).get d=(Q.get (s d)).map (·.ct r):=λd=>by
    have:=avE F Q (s d)
    rwa [hK]at this
  exact{good:=D.good,eD:=D.eD,fK:=D.fK,fB:=D.fB,frame:=D.frame,size:=D.size,tape:=D.tape,os:=D.os,output:=D.output,drawn:=D.drawn
        b5:=λd o Z=>by
            rw[ae]at Z;obtain⟨az,aq,rfl⟩:=Option.map_eq_some_iff.1 Z;have:=bb.ct (cx:={cx with mO:=λx=>cx.mO (r x)}) (r:=r) (β:=β') (β':=λx=>β' (s x)) (λx=>by show β' (s (r x))=β' x;rw[F]) (hn:=cx) (λb O=>O) (D.b5 (s d) az aq)
            rwa [hK]at this
        cA:=λd cm Z X aa b O=>by
            rw[ae]at Z X;exact D.cA (s d) (s cm) (by simpa using Z) (by simpa using X) (λe=>aa (by rw[<-hK d,<-hK cm,e])) b O
        keep:=λd Z=>by
            have:s d∈eS.ids:=by
              have Z:d∈(eS.ct r).ids:=Z;rw[awg]at Z
              grind
            have:=D.keep (s d) this;show β' (s d)=_;rw[this];show cx.mO (r (s d))=_;rw[hK]}
def swp(a b x:Nat):Nat:=bif Nat.beq x a then b else bif Nat.beq x b then a else x
theorem E0(a b x:Nat):swp a b (swp a b x)=x:=by
 have e:∀c d:Nat,Nat.beq c d=decide (c=d):=λc d=>by rw[Bool.eq_iff_iff];simp
 simp only[swp,e]
 grind
def jy:List (Nat×Nat)->Nat->Nat
 |[],x=>x
 |(a,b)::r,x=>swp a b (jy r x)
def py:List (Nat×Nat)->Nat->Nat
 |[],x=>x
 |(a,b)::r,x=>py r (swp a b x)
def DP:∀(l:List (Nat×Nat)) (x:Nat),py l (jy l x)=x
 |[],x=>rfl
 |(a,b)::r,x=>by simp only[jy,py,E0,DP r]
def CR:∀(l:List (Nat×Nat)) (x:Nat),jy l (py l x)=x
 |[],x=>rfl
 |(a,b)::r,x=>by simp only[jy,py,CR r,E0]
def cI.at{P:Program}{f:FuncId}{eS:W}{args:List U}{u:U->W->Prop}(h:cI P f eS args u)(l:List (Nat×Nat)):
  cI P f (eS.ct (jy l)) (iI (jy l) args) (λa F=>∃a0 D,u a0 D/\a=a0.ct (jy l)/\F=D.ct (jy l)):=
 h.ct (jy l) (py l) (DP l) (CR l)
def CS{I:a2}{β β':Nat->Value}{b:U}{post:List U}:∀(pre:List U) (vs:c4) {a:U},bx I β (pre++a::post) vs->(∀x v,x∈pre\/x∈post->az I β x v->az I β' x v)->(∀v,az I β a v->az I β' b v)->bx I β' (pre++b::post) vs
 |[],vs,a,c,h1,g=>by
  simp only[List.nil_append,bx]at c ⊢;obtain⟨e,d,rfl,i,j⟩:=c;have q:∀(f:List U) (vs:c4),(∀x∈f,x∈post)->bx I β f vs->bx I β' f vs:=by
   intro f;induction f with
   |nil=>intro _ _ c;exact c
   |cons x r n=>
    intro vs l c;simp only[bx]at c ⊢;obtain⟨e,d,rfl,o,p⟩:=c;exact⟨e,d,rfl,h1 x e (.inr (l x (by simp))) o,n d (λk h=>l k (by simp[h])) p⟩
  exact⟨e,d,rfl,g e i,q post d (λx m=>m) j⟩
 |x::r,vs,a,c,h1,g=>by
  simp only[List.cons_append,bx]at c ⊢;obtain⟨e,d,rfl,i,j⟩:=c;exact⟨e,d,rfl,h1 x e (.inl (by simp)) i,CS r d j (λk v h=>h1 k v (h.imp (λc=>by simp[c]) id)) g⟩
def CT{p:Nat->Bool}:∀{l:List U},iN p l=false->∀x∈l,x.refs p=false
 |[],_,x,h=>by simp at h
 |y::r,h,x,a=>by
  simp only[iN,Bool.or_eq_false_iff]at h;rcases List.mem_cons.1 a with rfl|a
  .exact h.1
  .exact CT h.2 x a
theorem awl{G:bQ}{env:ah}{σ:W}(d0 d:Nat)(T:TypeId)(sz:Nat)(i:TypeId)(pre post:List U)(n:σ.get d0=some (.cells i (pre++.bC::post)))(t:Nat.beq d0 d=false)(hi:G.ids.contains d=false)(F:env.clean (Nat.beq d)=true)(h:σ.clean (Nat.beq d)=true):
  bJ G env σ env ((d,.slice T sz [] 0 false)::σ.set d0 (.cells i (pre++.own d::post))):=λP z p O Q j A=>by
 let q:Nat->Value:=λa=>if a=d then .slice none 0 0 else p a
 have t:d0≠d:=λc=>by subst c;simp at t
 have f:∀a,Nat.beq d a=false->q a=p a:=λa b=>by
  have:a≠d:=λc=>by subst c;simp at b
  show(if a=d then _ else p a)=_;rw[if_neg this]
 have l:q d=.slice none 0 0:=by show(if d=d then _ else _)=_;rw[if_pos rfl]
 have u:∀a,a≠d->W.get ((d,.slice T sz [] 0 false)::σ.set d0 (.cells i (pre++.own d::post))) a=if a=d0 then some (.cells i (pre++.own d::post))else σ.get a:=λa b=>by
  rw[auU,if_neg (Ne.symm b),au5,n];rfl
 have v:∀a,a≠d->(W.get ((d,.slice T sz [] 0 false)::σ.set d0 (.cells i (pre++.own d::post))) a).isSome->(σ.get a).isSome:=λa b h=>by
  rw[u a b]at h;split at h
  .grind
  .exact h
 refine⟨z,q,{j with b5:=λa x c=>?_,cA:=λa g L M E o=>?_,keep:=λa b=>?_},λw=>?_⟩
 .by_cases b:a=d
  .subst b;rw[auU,if_pos rfl]at c;cases c;simp only[bb,l]
   grind
  .rw[u a b]at c;split at c
   .rename_i B;subst B;cases c
    have s:=j.b5 a _ n;obtain⟨m,k⟩:=au8 h a _ n;simp only[ho]at k;simp only[bb,f a m]at s ⊢;rcases s with N|⟨o,I,J,K,C,D⟩
    .exact .inl N
    .refine .inr ⟨o,I,J,K,CS pre _ C (λg y e H=>nC f g y ?_ H) (λy r=>?_),D⟩
     .exact CT k g (by rcases e with e|e<;>simp[e])
     .simp only[az,aN]at r;simp only[az,r,l,fA,and_self]
   .obtain⟨m,k⟩:=au8 h a x c;exact(j.b5 a x c).beta f m k
 .by_cases b:a=d
  .subst b;rw[l];simp[xV]
  .by_cases e:g=d
   .subst e;rw[l];simp[xV]
   .rw[f a (by rw[<-Bool.not_eq_true,Nat.beq_eq];exact Ne.symm b),f g (by rw[<-Bool.not_eq_true,Nat.beq_eq];exact Ne.symm e)];exact j.cA a g (v a b L) (v g e M) E o
 .have:d≠a:=λc=>by subst c;simp at hi;exact hi b
  rw[f a (by rw[<-Bool.not_eq_true,Nat.beq_eq];exact this)];exact j.keep a b
 .exact nC f _ _ (avk F w) (A w)
end Go.Proofs.YtmnbolcmepihlaaGreat
namespace Go.Proofs.YtmnbolcmepihlaaGreat
set_option linter.all false
open Go
def bG.stay{G:bQ}{cx:c2}{I:a2}{β:Nat->Value}{σ:W}{w w':World}(h:bG G cx I β σ w)(u:∀b,b<w.heap.size->w'.heap[b]?=w.heap[b]?)(Y:w.heap.size<=w'.heap.size)(O:w'.tape=w.tape)(X:w'.os=w.os)(aa:w'.output=w.output)(hdr:w.drawn<=w'.drawn):bG G cx I β σ w':=by
  have ae:dW w w' w.heap.size:=⟨λk _ F=>u k F,Y,O,X,aa,hdr⟩
  exact{good:=λb o v D=>by
            have h1:=h.good b o v D;have F:b<w.heap.size:=World.block_lt_of_cell? w _ h1;rw[World.cell?_of_block (w:=w) (u b F)];exact h1
        eD:=λb v D=>by
            obtain⟨es,clock,h1,ab⟩:=h.eD b v D;exact⟨es,clock,by rw[u b (fo h1)];exact h1,ab⟩
        fK:=h.fK,fB:=h.fB
        frame:=λb Q af=>by rw[u b (Nat.lt_of_lt_of_le Q h.size)];exact h.frame b Q af
        size:=Nat.le_trans h.size Y,tape:=O.trans h.tape,os:=X.trans h.os,output:=aa.trans h.output,drawn:=Nat.le_trans h.drawn hdr
        b5:=λd o Z=>(h.b5 d o Z).keep ae rfl (λe=>by have:=h.k3 Z e;omega) (bM.refl I) (λ_ _ _=>rfl) (en.refl β)
        cA:=h.cA,keep:=h.keep}
mutual
def U.fu:U->Bool
 |.int _ _=>true
 |.bool _=>true
 |.str _=>true
 |.undef=>true
 |.bO cs=>jt cs
 |.agg cs=>jt cs
 |_=>false
def jt:List U->Bool
 |[]=>true
 |x::r=>x.fu&&jt r
end
mutual
def az.fu{I F:a2}{β β':Nat->Value}:∀(a:U) (v:Value),a.fu=true->az I β a v->az F β' a v
 |.int _ _,v,_,h=>by simpa only[az,aN]using h
 |.bool _,v,_,h=>by simpa only[az,aN]using h
 |.str _,v,_,h=>by simpa only[az,aN]using h
 |.undef,v,_,h=>by simpa only[az,aN]using h
 |.bO cs,v,Y,h=>by
  simp only[az,U.fu]at h Y ⊢;obtain⟨vs,D,u⟩:=h;exact⟨vs,D,bx.fu cs _ Y u⟩
 |.agg cs,v,Y,h=>by
  simp only[az,U.fu]at h Y ⊢;obtain⟨vs,D,u⟩:=h;exact⟨vs,D,bx.fu cs _ Y u⟩
 |.dg,_,Y,_|.aL _ _,_,Y,_|.dF _,_,Y,_|.fn _ _,_,Y,_|.bC,_,Y,_|.ia,_,Y,_|.own _,_,Y,_|.ptr _ _,_,Y,_|.cc _,_,Y,_|.cW _ _,_,Y,_|.gq,_,Y,_|.dr _ _,_,Y,_=>by simp[U.fu]at Y
def bx.fu{I F:a2}{β β':Nat->Value}:∀(a:List U) (v:c4),jt a=true->bx I β a v->bx F β' a v
 |[],v,_,h=>h
 |x::r,v,Y,h=>by
  simp only[bx,jt,Bool.and_eq_true]at h Y ⊢;obtain⟨au,u,Q,D,O⟩:=h;exact⟨au,u,Q,az.fu x au Y.1 D,bx.fu r u Y.2 O⟩
end
def Bk{I:a2}{sz:Nat}:∀(xs:List (List U)) (i:Nat),(∀e∈xs,e.length=sz)->i<xs.length->∃A B,xs.flatten=A++xs.getD i []++B/\A.length=i*sz/\(∀b,(xs.set i b).flatten=A++b++B)
 |[],_,_,h=>by simp at h
 |e::r,0,a,_=>⟨[],r.flatten,by simp,by simp,by simp⟩
 |e::r,i+1,a,h=>by
  obtain⟨A,B,g,d,f⟩:=Bk (I:=I) r i (λx c=>a x (by simp[c])) (by simpa using h);refine⟨e++A,B,by simp[g],?_,by simp[f]⟩;rw[List.length_append,d,a e (by simp),Nat.add_mul];omega
section ops
variable {G:bQ}{o:Oper}{env:ah}{σ:W}{x y:Operand}
variable {T aM sz:Nat}{bK:Bool}{i:Int}{α:Type}
theorem awL[Inhabited α]{E d n:Nat}{k:IntKind}(rs:List α)(enc:α->List U)(e:o.op=.indexAddr T x y)(q:env.ev x=.own d)(r:env.ev y=.int k i)(u:σ.get d=some (.slice aM sz (rs.map enc) n bK))(l:g8 G.P T E sz)
  (hi:0<=i/\i<rs.length):Yields G o env.ev σ [] [d] (.ptr d (i.toNat*sz)):=
 .pure λz D I β c w t s p=>by
  have a:=p x (by simp[e,Op.operands]);rw[q]at a
  have b:=p y (by simp[e,Op.operands]);rw[r]at b;have b:=fW b
  simp only[az]at a;obtain⟨a,j⟩:=a;have h:=s.b5 d _ (by rw[t d (by simp)];exact u);simp only[bb,List.length_map]at h;have B:i.toNat<rs.length:=by omega
  rcases h with f|⟨_,f,_⟩|⟨m,aR,C,g,A,_⟩
  .rw[a,f]at j;simp[fA]at j
  .have:rs=[]:=by simpa using f
   grind
  .refine⟨.pointer (some ⟨m,i.toNat*sz,none⟩),?_,by simp only[az];exact⟨m,by rw[g];rfl,rfl⟩⟩;have v:∀c,(underlying T).run G.P c=.ok (.slice E) c:=λc=>by simp[underlying,program,Sem.run,l.ee]
   rw[g]at a;simp[execOp,e,a,b,Instr.indexAt,asIntOf,v,hi,l.size,g2]
variable {I:a2}{k:Nat}{β:Nat->Value}
def CU{G:bQ}{cx:c2}{σ:W}{w:World}(s:bG G cx I β σ w){d b:Nat}{xs:List (List U)}(C:σ.get d=some (.slice T sz xs k bK))(c:bE (β d)=some b):
  ∃aR a,β d=.slice (some ⟨b,0,none⟩) xs.length aR/\xs.length<=aR/\aR<=maxLen/\w.heap[b]?=some (.cells a T (0,0))/\a.size=aR*sz/\bX I xs.flatten (a.toList.take (xs.length*sz))/\(∀e∈xs,e.length=sz)/\k<=xs.length/\
   (bK=true->∀o,o<xs.length*sz->I b o=a[o]?)/\(∀o,k*sz<=o->I b o=none)/\Place cx b/\bx I β (xs.flatten++List.replicate (a.size-xs.length*sz) .dg) a.toList:=by
 have h:=s.b5 d _ C;simp only[bb]at h;rcases h with g|⟨g,_⟩|⟨p,aR,a,i,t,m,n,u,j,A,B,y,x,z⟩
 .rw[g]at c;simp[bE]at c
 .rw[g]at c;simp[bE]at c
 .have:p=b:=by rw[i]at c;simpa [bE]using c
  subst this;refine⟨aR,a,i,t,m,n,u,j,A,B,y,x,z,?_⟩;have e:a.toList=a.toList.take (xs.length*sz)++a.toList.drop (xs.length*sz):=(List.take_append_drop _ _).symm;rw[e];refine kr _ _ _ _ (bX.rep β _ _ j) ?_;have l:∀(f:c4),bx I β (List.replicate f.length .dg) f:=by
   intro f;induction f with
   |nil=>simp[bx]
   |cons v r q=>simp only[List.length_cons,List.replicate_succ,bx];exact⟨v,r,rfl,by simp[az],q⟩
  have:=l (a.toList.drop (xs.length*sz));simpa using this
variable {a:U}{b9:Bool}{p:Nat}
def awM[Inhabited α]{T aM:TypeId}{n d off:Nat}(rs:List α)(enc:α->List U)(v:o.op=.load T x)(w:env.ev x=.ptr d p)(J:σ.get d=some (.slice aM sz (rs.map enc) k bK))(D:p=i.toNat*sz+off)
  (hi:0<=i/\i<rs.length) (K:dN G.P T n b9) (s:(b9||Nat.blt 0 n)=true) (r:Nat.ble (off+n) sz=true)  (M:iE b9 n ((enc (el rs i)).drop off)=some a):Yields G o env.ev σ [] [d] a:=
 .pure λV ak I β am R E C O=>by
  have r:off+n<=sz:=by simpa using r
  have b:=O x (by simp[v,Op.operands]);rw[w]at b
  simp only[az]at b;obtain⟨ai,b,y⟩:=b;obtain⟨aR,g,W,X,S,B,Z,Y,m,af,ab,aa,ae,H⟩:=CU C (by rw[E d (by simp)];exact J) b;have c:i.toNat<rs.length:=by omega
  obtain⟨A,l,j,u,_⟩:=Bk (I:=I) (rs.map enc) i.toNat m (by simpa using c);have q:(rs.map enc).getD i.toNat []=enc (el rs i):=by
   simp[List.getD_eq_getElem?_getD,c,el]
  rw[q]at j;have P:(enc (el rs i)).length=sz:=m _ (by rw[<-q,List.getD_eq_getElem?_getD,List.getElem?_eq_getElem (by simpa using c)];exact List.getElem_mem _)
  obtain⟨Q,F,e⟩:=wS K (λh=>by subst h;simpa using s) (off:=p) B H (by
   rw[j];simp only[List.length_append,u,P];omega)
  refine⟨Q,by simp[execOp,v,y,Instr.loadAt,Instr.sureAddr,F],?_⟩;have h:((List.map enc rs).flatten++List.replicate (g.size-(List.map enc rs).length*sz) U.dg).drop p=(enc (el rs i)).drop off++(l++List.replicate (g.size-(List.map enc rs).length*sz) U.dg):=by
   rw[j,D,List.append_assoc,List.append_assoc,<-List.drop_drop,<-u,List.drop_left,List.drop_append_of_le_length (by omega)]
  rw[h]at e;have N:ht b9 n ((enc (el rs i)).drop off++(l++List.replicate (g.size-(List.map enc rs).length*sz) U.dg))=ht b9 n ((enc (el rs i)).drop off):=by
   have f:n<=((enc (el rs i)).drop off).length:=by simp;omega
   cases b9 with
   |true=>simp only[ht,cond_true];rw[List.take_append_of_le_length f]
   |false=>
    simp only[ht,cond_false];have ag:0<n:=by simpa using s
    cases L:(enc (el rs i)).drop off with
    |nil=>rw[L]at f;simp at f;omega
    |cons z t=>rfl
  rw[N,ua M]at e;exact e
def BM{a:List U}{v:c4}(b:ha a=true)(c:bx I β a v):bX I a v:=bx.closed a v b c
theorem axo[Inhabited α]{d off n:Nat}{ca:List U}{ev:Operand->U}(rs:List α)(enc:α->List U)(r':α)(t:o.op=.store T x y)(j:ev x=.ptr d p)(aB:ev y=a)(J:σ.get d=some (.slice aM sz (rs.map enc) k bK))(aE:p=i.toNat*sz+off)
  (hi:0<=i/\i<rs.length) (bT:(k:Int)<=i) (a3:dN G.P T n b9) (aw:a.flat=true) (a4:kF a=some ca) (aV:ha ca=true) (z:Nat.beq ca.length n=true) (ae:Nat.ble (off+n) sz=true) (ak:ei (enc (el rs i)) off ca=enc r') :
  eL G o ev σ [d] [] (λr aD=>r=.undef/\aD=σ.set d (.slice aM sz ((rs.set i.toNat r').map enc) k false)):=by
 intro bP I β u c s ao;have z:ca.length=n:=by simpa using z
 have ae:off+n<=sz:=by simpa using ae
 have m:=ao x (by simp[t,Op.operands]);rw[j]at m
 have M:=ao y (by simp[t,Op.operands]);rw[aB]at M
 simp only[az]at m;obtain⟨l,m,aC⟩:=m;obtain⟨aR,b,N,D,ax,q,O,E,F,W,bs,aF,S,bA⟩:=CU s J m;obtain⟨f1,f2⟩:=avC aw M;rw[qy a4]at f1;have Y:=ko _ _ f1;have v:i.toNat<rs.length:=by omega
 obtain⟨A,ar,aq,bf,bk⟩:=Bk (I:=I) (rs.map enc) i.toNat F (by simpa using v);have ab:(rs.map enc).getD i.toNat []=enc (el rs i):=by simp[List.getD_eq_getElem?_getD,v,el]
 rw[ab]at aq;have bh:(enc (el rs i)).length=sz:=F _ (by rw[<-ab,List.getD_eq_getElem?_getD,List.getElem?_eq_getElem (by simpa using v)];exact List.getElem_mem _);have a9:(enc r').length=sz:=by rw[<-ak];simp only[ei,List.length_append,List.length_take,List.length_drop,bh];omega
 simp only[List.length_map]at N D O E W;have bx:i.toNat*sz+sz<=rs.length*sz:=by
  have:=Nat.mul_le_mul_right sz (show i.toNat+1<=rs.length from v)
  rwa [Nat.add_mul,Nat.one_mul]at this
 have bE:rs.length*sz<=b.size:=by rw[O];exact Nat.mul_le_mul_right sz D
 have aZ:=p2 (P:=G.P) q (c y).cells.toList (off:=p) (by omega) f2;have bD:(c y).cells.size=ca.length:=by simpa using Y
 have aS:(execOp c o).run G.P u=.ok .skip (u.setRow l (ei b.toList p (c y).cells.toList).toArray):=by
  have B:¬((c y).cells.size≠n):=by omega
  simp[execOp,t,aC,Instr.storeAt,Instr.sureAddr,storeVar,a3.size,B,aZ]
 rw[aS];refine⟨.undef,_,I,β,⟨rfl,rfl⟩,by simp[az,aN],?_,bM.refl I,λ_ _=>rfl,λx j=>by rw[au5,if_neg (by simpa using j)]⟩;have bF:k*sz<=p:=by
  have:k<=i.toNat:=by omega
  have:=Nat.mul_le_mul_right sz this;omega
 refine s.turn (d:=d) (dW.setRow u l _) S (λx j=>by rw[au5,if_neg j]) (λx j aY am=>s.cA x d aY (by rw[J];rfl) j l am (gv m)) (bM.refl I) (λ_ _ _=>rfl)
  (λo bl aA=>?_) (s.kW q) (λ_ _=>rfl) (.inr rfl) (en.refl β) (.inl m) λbn w=>?_
 ·
  have br:o<k*sz:=by grind
  have C:=s.good l o bl aA;simp only[World.cell?,q]at C;simp only[World.cell?,setRow_heap u l b _ aM _ q];simp only[Option.isSome_none,Bool.false_eq_true,if_false]at C ⊢;rw[<-C];have:o<p:=by omega
  simp only[ei,List.getElem?_toArray]
  grind
 .rw[au5,if_pos rfl,J]at w;injection w with w
  subst w;simp only[bb,List.length_map,List.length_set];refine .inr (.inr ⟨l,aR,_,N,D,ax,setRow_heap u l b _ aM _ q,?_,?_,?_,W,(λt=>by cases t),aF,S⟩)
  .simp only[ei,List.size_toArray,List.length_append,List.length_take,List.length_drop,Array.length_toList];omega
  .have a0:=BM (I:=I) aV f1;have bi:((rs.set i.toNat r').map enc).flatten=A++(ei (enc (el rs i)) off ca)++ar:=by
    rw[List.map_set,bk,ak]
   rw[bi];rw[aq]at E;obtain⟨bu,g,B,aG,R⟩:=(hC _ _ _).1 E;obtain⟨f,bJ,an,aa,K⟩:=(hC _ _ _).1 aG;have bj:=i6 _ _ aa;have bV:=i6 _ _ K;have bv:=i6 _ _ R;have aT:enc (el rs i)=(enc (el rs i)).take off++((enc (el rs i)).drop off):=(List.take_append_drop _ _).symm;rw[aT]at K;obtain⟨e,bL,Q,ag,af⟩:=(hC _ _ _).1 K;have a5:=i6 _ _ ag;have aU:(enc (el rs i)).drop off=((enc (el rs i)).drop off).take n++(enc (el rs i)).drop (off+n):=by
    rw[<-List.drop_drop];exact(List.take_append_drop _ _).symm
   rw[aU]at af;obtain⟨L,h,Z,a7,a8⟩:=(hC _ _ _).1 af;have a6:=i6 _ _ a7;have ba:e.length=off:=by rw[a5,List.length_take];omega
   have bc:L.length=n:=by rw[a6,List.length_take,List.length_drop];omega
   have aX:(ei b.toList p (c y).cells.toList).take (rs.length*sz)=f++(e++(c y).cells.toList++h)++g:=by
    have be:b.toList=(f++(e++(L++h))++g)++b.toList.drop (rs.length*sz):=by
     conv=>lhs;rw[<-List.take_append_drop (rs.length*sz) b.toList]
     rw[B,an,Q,Z]
    have V:(f++e).length=p:=by rw[List.length_append,bj,ba,bf,aE]
    have X:(c y).cells.toList.length=n:=by rw[Y,z]
    have a1:ei b.toList p (c y).cells.toList=(f++e)++(c y).cells.toList++(h++(g++b.toList.drop (rs.length*sz))):=by
     unfold ei;rw[X];have ai:b.toList=(f++e)++(L++(h++(g++b.toList.drop (rs.length*sz)))):=by
      conv=>lhs;rw[be]
      simp only[List.append_assoc]
     have t1:b.toList.take p=f++e:=by rw[ai,<-V,List.take_left]
     have t2:b.toList.drop (p+n)=h++(g++b.toList.drop (rs.length*sz)):=by
      rw[<-List.drop_drop]
      conv=>lhs;rw[ai]
      rw[<-V,List.drop_left,<-bc,List.drop_left]
     rw[t1,t2]
    rw[a1];have aI:((f++e)++(c y).cells.toList++(h++g)).length=rs.length*sz:=by
     have aW:=congrArg List.length (B.trans (by rw[an,Q,Z]));simp only[List.length_take,List.length_append,Array.length_toList]at aW;simp only[List.length_append,X];omega
    have:(f++e)++(c y).cells.toList++(h++(g++b.toList.drop (rs.length*sz)))=((f++e)++(c y).cells.toList++(h++g))++b.toList.drop (rs.length*sz):=by simp
    rw[this,<-aI,List.take_left];simp
   rw[aX];refine(hC _ _ _).2 ⟨_,_,rfl,(hC _ _ _).2 ⟨_,_,rfl,aa,?_⟩,R⟩;unfold ei;rw[z];exact(hC _ _ _).2 ⟨_,_,rfl,(hC _ _ _).2 ⟨_,_,rfl,ag,a0⟩,a8⟩
  .intro am bg;obtain⟨bW,H,rfl⟩:=List.mem_map.1 bg;rcases List.mem_or_eq_of_mem_set H with H|rfl
   .exact F _ (List.mem_map_of_mem H)
   .exact a9
end ops
end Go.Proofs.YtmnbolcmepihlaaGreat
namespace Go.Proofs.YtmnbolcmepihlaaGreat
set_option linter.all false
open Go
section
variable {P:Program}{w:World}{d:Nat}{xs S6:eN}{f:Field}{fs:List Field}{T off:Nat}{r:Bool}
def LA:(Op.eqFields d xs S6 []).run P w=.ok true w:=rfl
def E1{k g:IntKind}{a b:Int}(e:(f.name== "_",f.type,f.offset)=(false,T,off))(i:∀w,(isAgg T).run P w=.ok false w)(o:P.underlying T=some (.int g))(j:xs[off]?=some (.int k a))(m:S6[off]?=some (.int k b))
  (s:(Op.eqFields (d+1) xs S6 fs).run P w=.ok r w):(Op.eqFields (d+1) xs S6 (f::fs)).run P w=.ok (decide (a=b)&&r) w:=by
 simp only[Prod.mk.injEq]at e;obtain⟨c,l,n⟩:=e;have c:f.name≠ "_":=by simpa using c
 simp only[Op.eqFields,l,n,if_pos c];have q:(part T xs off).run P w=.ok (.int k a) w:=by simp[part,i,Array.getElem!_eq_getD,Array.getD_eq_getD_getElem?,j]
 have p:(part T S6 off).run P w=.ok (.int k b) w:=by simp[part,i,Array.getElem!_eq_getD,Array.getD_eq_getD_getElem?,m]
 simp only[Sem.run_bind,q,p,Result.andThen_ok,run_equalIn_int w d T k g a b o];by_cases h:a=b
 .simp[h,s]
 .simp[h]
def Cp{l:List Field}{x:Bool×Nat×Nat}{r:List (Bool×Nat×Nat)}(a:l.map (λf=>(f.name== "_",f.type,f.offset))=x::r):∃f t,l=f::t/\(f.name== "_",f.type,f.offset)=x/\t.map (λf=>(f.name== "_",f.type,f.offset))=r:=by
 cases l with
 |nil=>simp at a
 |cons f t=>simp only[List.map_cons,List.cons.injEq]at a;exact⟨f,t,rfl,a.1,a.2⟩
def IF{l:List Field}(a:l.map (λf=>(f.name== "_",f.type,f.offset))=[]):l=[]:=by simpa using a
def LB(xs S6:eN)(r:Bool)(x y:Operand)(a:P.eqGuardType P.depth T=false)(d:P.underlying T=some (.struct (P.fieldsOf T)))(b:P.stoodInHeld T=false)(c:(Op.eqFields 9999 xs S6 (P.fieldsOf T).toList).run P w=.ok r w):
  (do eqGuard .eql T x y (.agg xs) (.agg S6);binOp .eql T (.agg xs) (.agg S6):Sem Value).run P w=.ok (.bool r) w:=by
 rw[Sem.run_bind,run_eqGuard_agg w .eql T x y _ _ a];simp only[Result.andThen_ok,run_eql_struct];rw[run_equalIn_agg w 9999 T _ _ d b,c];rfl
def LC(xs S6:eN)(r:Bool)(x y:Operand)(a:P.eqGuardType P.depth T=false)(d:P.underlying T=some (.struct (P.fieldsOf T)))(b:P.stoodInHeld T=false)(c:(Op.eqFields 9999 xs S6 (P.fieldsOf T).toList).run P w=.ok r w):
  (do eqGuard .neq T x y (.agg xs) (.agg S6);binOp .neq T (.agg xs) (.agg S6):Sem Value).run P w=.ok (.bool (!r)) w:=by
 rw[Sem.run_bind,run_eqGuard_agg w .neq T x y _ _ a];simp only[Result.andThen_ok,run_neq_struct];rw[run_equalIn_agg w 9999 T _ _ d b,c];rfl
end
def avw{G:bQ}{c:Code}{a:Exit->ah->W->Prop}{env:ah}{σ:W}(j:ar G c (λe env σ=>∃cu σ2,bJ G env σ cu σ2/\a e cu σ2) env σ):ar G c a env σ:=by
 refine avl λi g w h=>wp_mono (ar.use j i g w h) ?_;rintro e m n ⟨l,k,f,cu,σ2,d,b⟩;exact⟨cu,σ2,d.rel f,b⟩
theorem LD{α:Type}(enc:α->List U)(a:∀r,(enc r).all U.one=true)(l:List α):(l.map enc).flatten.all U.one=true:=by grind
def N3{P:Program}{T f off n e:Nat}{b9:Bool}{fs:Array Field}(i:P.underlying T=some (.struct fs))(a:(fs[f]?).map (λg=>(g.type,g.offset))=some (e,off))(b:dN P e n b9)(d:b9=false->n=1):pt P T f off n b9 where
 pos:=d
 run:=λh w j=>by
  cases c:fs[f]? with
  |none=>rw[c]at a;cases a
  |some g=>
   rw[c]at a;simp only[Option.map_some,Option.some.injEq,Prod.mk.injEq]at a;simp only[Instr.field,Sem.run_bind,run_underlying i,Result.andThen_ok,c,a.1,a.2,asAgg,Sem.run_pure];cases b9 with
   |true=>simp[part,b.agg,b.size]
   |false=>
    have:=d rfl;subst this;simp[part,b.agg,Array.getD_eq_getD_getElem?,Array.getElem?_eq_getElem (show off<h.size by omega)]
end Go.Proofs.YtmnbolcmepihlaaGreat
namespace Go.Proofs.YtmnbolcmepihlaaGreat
set_option linter.all false
open Go
def eu(w:World):a2:=λb a=>match a with
 |some a=>w.cell? ⟨b,a,none⟩
 |none=>match w.heap[b]? with
  |some (.map c clock)=>some (i1 c clock)
  |_=>none
variable {w:World}
def qz(b:Nat)(o:Nat)(v:Value)(a:eu w b o=some v):w.cell? ⟨b,o,none⟩=some v:=a
def qn(b:Nat)(v:Value)(a:eu w b none=some v):∃es clock,w.heap[b]?=some (.map es clock)/\v=i1 es clock:=by
 simp only[eu]at a;split at a
 .rename_i es clock c;cases a;exact⟨es,clock,c,rfl⟩
 .cases a
variable {G:bQ}{I:a2}{cx:c2}{β:Nat->Value}{σ:W}
def bG.zH(D:bG G cx I β σ w):bM I (eu w):=λb o v u=>by
 cases o with
 |some o=>exact D.good b o v u
 |none=>
  obtain⟨es,clock,F,rfl⟩:=D.eD b v u;simp only[eu,F]
def bG.LV(D:bG G cx I β σ w){b:Nat}{o:fV}{v:Value}(u:I b o=some v):b<w.heap.size:=by
 rcases Nat.lt_or_ge b w.heap.size with h|h
 .exact h
 .rw[D.fJ h o]at u;cases u
end Go.Proofs.YtmnbolcmepihlaaGreat
namespace Go.Proofs.YtmnbolcmepihlaaGreat
section
set_option linter.all false
abbrev zI0:Value:=.int .i64 0
abbrev zS0:Value:=.slice none 0 0
open Go Go.Proofs.Tryz
set_option maxRecDepth 100000
abbrev Ca(i:Nat)(c:List Value):Prop:=∀a,∃b,(zeroValue i).run prog a=.ok b a/\b.cells=c.toArray
def QJ:prog.follows .mixedOrders=true:=by kernel_rfl
def z1(a0 d:Int)(c b:Int)(w:World):(Op.eqFields 9999 #[.int .i64 a0,.int .i64 c] #[.int .i64 d,.int .i64 b] (prog.fieldsOf 84).toList).run prog w=.ok (decide (a0=d)&&(decide (c=b)&&true)) w:=by
 have a:(prog.fieldsOf 84).toList.map (λe=>(e.name== "_",e.type,e.offset))=[(false,3,0),(false,3,1)]:=by kernel_rfl
 have j:(Op.eqFields 9999 #[.int .i64 a0,.int .i64 c] #[.int .i64 d,.int .i64 b] (prog.fieldsOf 84).toList).run prog w=.ok (decide (a0=d)&&(decide (c=b)&&true)) w:=by
  obtain⟨f0,t0,f,g,a⟩:=Cp a;obtain⟨f1,t1,h,i,a⟩:=Cp a;rw[f,h,IF a];exact E1 g isAgg3 underlying3 rfl rfl (E1 i isAgg3 underlying3 rfl rfl (LA))
 exact j
def JH(x y:Operand)(a0 c:Int)(b a:Int)(w:World):(do eqGuard .eql 84 x y (.agg #[.int .i64 a0,.int .i64 b]) (.agg #[.int .i64 c,.int .i64 a]);binOp .eql 84 (.agg #[.int .i64 a0,.int .i64 b]) (.agg #[.int .i64 c,.int .i64 a]):Sem Value).run prog w=.ok (.bool (decide (a0=c)&&(decide (b=a)&&true))) w:=LB _ _ _ x y (by kernel_rfl) (by kernel_rfl) (by kernel_rfl) (z1 a0 c b a w)
def JI(x y:Operand)(a0 c:Int)(b a:Int)(w:World):(do eqGuard .neq 84 x y (.agg #[.int .i64 a0,.int .i64 b]) (.agg #[.int .i64 c,.int .i64 a]);binOp .neq 84 (.agg #[.int .i64 a0,.int .i64 b]) (.agg #[.int .i64 c,.int .i64 a]):Sem Value).run prog w=.ok (.bool (!(decide (a0=c)&&(decide (b=a)&&true)))) w:=LC _ _ _ x y (by kernel_rfl) (by kernel_rfl) (by kernel_rfl) (z1 a0 c b a w)
end
end Go.Proofs.YtmnbolcmepihlaaGreat
