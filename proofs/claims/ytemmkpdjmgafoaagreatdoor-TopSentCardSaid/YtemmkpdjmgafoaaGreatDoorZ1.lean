/- A part of the proof; the last text says of what. No condition but those that stand in each. -/
import Derived.Test.YtemmkpdjmgafoaaGreatDoorAA
import Derived.Sort.Grow
import Derived.Laws.StructEq
import Derived.Test.YtemmkpdjmgafoaaGreatDoorRows
import Derived.OwnWalk
namespace Go.Proofs.YtemmkpdjmgafoaaGreatDoor
set_option linter.all false
set_option maxRecDepth 100000
section
open Go
variable {au:Bool}
def av.find:av->Nat->Option U
 |[],_=>none
 |(k,v)::r,n=>bif Nat.beq k n then some v else av.find r n
def aFp:∀{env:av} {t:Nat} {a:U},env.find t=some a->env.get t=a
 |[],_,_,h=>by simp[av.find]at h
 |(k,v)::r,t,a,h=>by
  simp only[av.find]at h;simp only[av.get];cases b:Nat.beq k t<;>rw[b]at h
  .exact aFp (env:=r) h
  .simpa using h
def av.cn(env:av):Operand->Option U
 |.tmp t=>env.find t
 |.const (.int k n)=>some (.int k n)
 |.const (.bool b)=>some (.bool b)
 |.const (.string s)=>some (.str s)
 |.const (.slice none 0 0)=>some .aF
 |.const v=>some (iQ v)
 |.func f=>some (.fn f [])
 |.global g=>some (.iY g)
def aFb{env:av}{x:Operand}{a:U}(h:env.cn x=some a):env.ev x=a:=by
 unfold av.cn at h;split at h<;>first|exact aFp h|(simp only[av.ev,iQ];simpa using h)|(simp only[av.ev];simpa using h)|cases h
def av.lE(env:av):List Operand->Option (List U)
 |[]=>some []
 |x::r=>match env.cn x with
  |none=>none
  |some a=>match av.lE env r with
   |none=>none
   |some l=>some (a::l)
def aFD{env:av}:∀{xs:List Operand} {l:List U},env.lE xs=some l->xs.map env.ev=l
 |[],l,h=>by simpa [av.lE]using h
 |x::r,l,h=>by
  simp only[av.lE]at h;cases c:env.cn x with
  |none=>rw[c]at h;cases h
  |some a=>
   rw[c]at h;simp only at h;cases b:av.lE env r with
   |none=>rw[b]at h;cases h
   |some d=>
    rw[b]at h;simp only[ee]at h;subst h;simp[aFb c,aFD b]
def av.ou(env:av):List (Nat×Operand)->Option (List (Nat×U))
 |[]=>some []
 |(i,x)::r=>match env.cn x with
  |none=>none
  |some a=>match av.ou env r with
   |none=>none
   |some l=>some ((i,a)::l)
def aFF{env:av}:∀{xs:List (Nat×Operand)} {l:List (Nat×U)},env.ou xs=some l->xs.map (λp=>(p.1,env.ev p.2))=l
 |[],l,h=>by simpa [av.ou]using h
 |(i,x)::r,l,h=>by
  simp only[av.ou]at h;cases c:env.cn x with
  |none=>rw[c]at h;cases h
  |some a=>
   rw[c]at h;simp only at h;cases b:av.ou env r with
   |none=>rw[b]at h;cases h
   |some d=>
    rw[b]at h;simp only[ee]at h;subst h;simp[aFb c,aFF b]
def el{α:Type}[Inhabited α](l:List α)(i:Int):α:=l.getD i.toNat default
def spine{α:Type}:List α->Option (List α)
 |[]=>some []
 |x::r=>match spine r with
  |none=>none
  |some l=>some (x::l)
def qd{α:Type}:∀{xs l:List α},spine xs=some l->xs=l
 |[],l,h=>by simpa [spine]using h
 |x::r,l,h=>by
  simp only[spine]at h;cases a:spine r with
  |none=>rw[a]at h;cases h
  |some b=>
   rw[a]at h;simp only[ee]at h;rw[<-h,qd a]
def n1:U->Option (List U)
 |.agg cs=>spine cs
 |a=>some [a]
def yf{a:U}{cs:List U}(h:n1 a=some cs):i2 a=cs:=by
 unfold n1 at h;split at h
 .exact qd h
 .rename_i b;simp only[ee]at h;rw[<-h];cases a<;>first|rfl|exact absurd rfl (b _)
def kS(b5:Bool)(n:Nat)(cs:List U):Option U:=
 match b5 with
 |true=>match spine (cs.take n)with
  |none=>none
  |some l=>some (.agg l)
 |false=>match cs with
  |[]=>none
  |x::_=>some x
def zh{b5:Bool}{n:Nat}{cs:List U}{a:U}(h:kS b5 n cs=some a):jZ b5 n cs=a:=by
 cases b5 with
 |true=>
  simp only[kS]at h;cases b:spine (cs.take n)with
  |none=>rw[b]at h;cases h
  |some l=>
   rw[b]at h;simp only[ee]at h;rw[<-h,<-qd b];rfl
 |false=>
  cases cs with
  |nil=>simp[kS]at h
  |cons x r=>simp only[kS,ee]at h;rw[<-h];rfl
def v9(d:List (Nat×Nat))(c:List U):List (Nat×U)->Option (List U)
 |[]=>spine c
 |(i,a)::rest=>match d[i]? with
  |none=>none
  |some (off,size)=>match n1 a with
   |none=>none
   |some b=>bif Nat.beq b.length size&&Nat.ble (off+b.length) c.length&&a.flat then
     (match spine (gy c off b)with
     |none=>none
     |some l=>v9 d l rest)else none
def Mt(c:List (Nat×Nat)):∀{parts:List (Nat×U)} {b out:List U},v9 c b parts=some out->rM c b parts=some out
 |[],b,out,h=>by simp only[v9]at h;simp only[rM];rw[qd h]
 |(i,a)::rest,b,out,h=>by
  simp only[v9]at h;simp only[rM];cases j:c[i]? with
  |none=>rw[j]at h;cases h
  |some os=>
   obtain⟨k,m⟩:=os;rw[j]at h;simp only at h ⊢;cases e:n1 a with
   |none=>rw[e]at h;cases h
   |some f=>
    rw[e]at h;simp only at h;rw[yf e];cases g:(Nat.beq f.length m&&Nat.ble (k+f.length) b.length&&a.flat)with
    |false=>rw[g]at h;simp at h
    |true=>
     rw[g]at h;simp only[cm]at h ⊢;cases d:spine (gy b k f)with
     |none=>rw[d]at h;cases h
     |some l=>
      rw[d]at h;simp only at h;rw[qd d];exact Mt c h
def rt(sz:Nat):Nat->List (Nat×U)->Option (List (List U))
 |_,[]=>some []
 |k,(i,a)::r=>match n1 a with
  |none=>none
  |some b=>bif Nat.beq i k&&Nat.beq b.length sz&&a.flat then
    (match rt sz (k+1) r with
    |none=>none
    |some l=>some (b::l))else none
def BU(sz:Nat):∀{parts:List (Nat×U)} {k:Nat} {out:List (List U)},rt sz k parts=some out->qe sz k parts=some out
 |[],k,out,h=>by simpa [rt,qe]using h
 |(i,a)::r,k,out,h=>by
  simp only[rt]at h;simp only[qe];cases c:n1 a with
  |none=>rw[c]at h;cases h
  |some e=>
   rw[c]at h;simp only at h;rw[yf c];cases d:(Nat.beq i k&&Nat.beq e.length sz&&a.flat)with
   |false=>rw[d]at h;simp at h
   |true=>
    rw[d]at h;simp only[cm]at h ⊢;cases b:rt sz (k+1) r with
    |none=>rw[b]at h;cases h
    |some l=>
     rw[b]at h;simp only[ee]at h;rw[BU sz b,<-h];rfl
def ov(σ:ah):ah->Prop
 |[]=>True
 |(d,o)::r=>σ.get d=some o/\ov σ r
def ov.mem{σ:ah}:∀{σ2:ah},ov σ σ2->∀p∈σ2,σ.get p.1=some p.2
 |[],_,p,h=>by simp at h
 |(d,o)::r,h,p,H=>by
  rcases c5.1 H with rfl|H
  .exact h.1
  .exact ov.mem h.2 p H
def vt(σ:ah)(env:av):av->Prop
 |[]=>True
 |(k,v)::r=>gp σ (env.get k) v/\vt σ env r
def vt.mem{σ:ah}{env:av}:∀{dc:av},vt σ env dc->∀p∈dc,gp σ (env.get p.1) p.2
 |[],_,p,h=>by simp at h
 |(d,o)::r,h,p,H=>by
  rcases c5.1 H with rfl|H
  .exact h.1
  .exact vt.mem h.2 p H
section rules
variable {G:bI}{env:av}{σ:ah}{Q:Exit->av->ah->Prop}{x y c:Code}
def aGf{dc:av}{σ2:ah}(b:vt σ env dc)(a:ov σ σ2):cZ G env σ dc σ2:=cZ.drop b.mem a.mem
end rules
section steps
variable {G:bI}{ops:jB}{s:jA}{log:List (Nat×cR)}{i:Nat}{l:cR}{env:av}{σ:ah}{K:av->ah->Prop}{o:Oper}{bN:U}
end steps
section ops
variable {G:bI}{o:Oper}{env:av}{σ:ah}{a:U}
def a4.alloc{T d:Nat}{zs:hD}{cs:List U}(h:o.op=.alloc T)(hz:∀w,∃z,(zeroValue T).run G.P w=.ok z w/\z.cells=zs.toArray)(H:l0 zs=cs)(hi:G.ids.contains d=false):
  Yields G o env.ev ((d,.cells T cs)::σ) [d] [d] (.ptr d 0):=by subst H;exact bB.alloc h hz hi
def a4.box{T d:Nat}{x:Operand}{cs:List U}(h:o.op=.box T x)(O:env.cn x=some a)(Q:a.flat=true)(S:n1 a=some cs)(H:a.refs (Nat.beq d)=false)(hi:G.ids.contains d=false):
  Yields G o env.ev ((d,.cells T cs)::σ) [d] [d] (.ptr d 0):=bB.box h (aFb O) Q (yf S) H hi
def aG1{T aZ:TypeId}{x:Operand}{n d p:Nat}{b5:Bool}{cs:List U}(h:o.op=.load T x)(e:env.ev x=.ptr d p)(c:hl G.P T n b5)(i:σ.get d=some (.cells aZ cs))(g:(b5||Nat.blt 0 n)=true)(f:Nat.ble (p+n) cs.length=true)(b:kS b5 n (cs.drop p)=some a):
  Yields G o env.ev σ [] [d] a:=by rw[<-zh b];exact aFX h e i c g f
def aGY{T:TypeId}{x:Operand}{n:Nat}{b5:Bool}{cs:List U}(h:o.op=.load T x)(d:env.ev x=.dI cs)(c:hl G.P T n b5)(f:(b5||Nat.blt 0 n)=true)(e:Nat.ble n cs.length=true)(b:kS b5 n cs=some a):
  Yields G o env.ev σ [] [] a:=by rw[<-zh b];exact aG4 h d c f e
def a4.build{T:TypeId}{parts:Array (Nat×Operand)}{zs:hD}{b7:List (Nat×Nat)}{ps:List (Nat×U)}{cs:List U}(h:o.op=.build T parts)(H:zY G.P T zs b7)(O:env.ou parts.toList=some ps)
  (Q:v9 b7 (l0 zs) ps=some cs):Yields G o env.ev σ [] [] (.agg cs):=bB.build h H (by rw[aFF O];exact Mt b7 Q)
def a4.makeFunc{f:FuncId}{aY:Array Operand}{l:List U}(h:o.op=.makeFunc (.func f) #[] aY)(H:env.lE aY.toList=some l):Yields G o env.ev σ [] [] (.fn f l):=by
 rw[<-aFD H];exact bB.makeFunc h
def a4.field{T f off n:Nat}{b5:Bool}{x:Operand}{cs:List U}(h:o.op=.field T x f)(Q:env.ev x=.agg cs)(O:v8 G.P T f off n b5)(S:Nat.ble (off+n) cs.length=true)(H:kS b5 n (cs.drop off)=some a):Yields G o env.ev σ [] [] a:=by
 rw[<-zh H];exact bB.field h Q O S
def a4.call{H:Operand}{args:Array Operand}{k:Array TypeId}{f:FuncId}{aY cM ps:List U}{σs ch:ah}{r:U}(h:o.op=.call ⟨.value H,args,k⟩)(Y:env.ev H=.fn f aY)
  (aa:∀(args:ig) (w:World),(callFunc f args).run G.P w=.ok (.enter f args) w) (aB:bb G.au G.P f ch cM r) (S:env.lE args.toList=some ps) (O:jR σs (ps++aY) cM) (X:ov σ σs) (Z:ov σs ch)
  (Q:r.closed=true) (ab:ch.clean (λd=>!(ch.ids++[]).contains d)=true):Yields G o env.ev σ [] σs.ids r:=
 bB.call h Y aa X.mem (by rw[aFD S];exact O) Z.mem aB Q ab
def aGZ{a:Operand}{args:Array Operand}{k:Array TypeId}{f:FuncId}{aY b ps:List U}{ch:ah}{Post:U->ah->Prop}(news:cR)(h:o.op=.call ⟨.value a,args,k⟩)(j:env.ev a=.fn f aY)
  (n:∀(args:ig) (w:World),(callFunc f args).run G.P w=.ok (.enter f args) w) (aB:cz G.au G.P f ch b Post) (e:env.lE args.toList=some ps) (c:jR σ (ps++aY) b) (i:ov σ ch)
  (p:news.all (λd=>!G.ids.contains d&&(σ.get d).isNone)=true) (l:(σ.minus ch.ids).clean news.contains=true)
  (m:∀r σ2,Post r σ2->r.refs (λd=>!(ch.ids++news).contains d)=false/\σ2.clean (λd=>!(ch.ids++news).contains d)=true) :
  fO G o env.ev σ (ch.ids++news) news (λr g=>∃σ2,Post r σ2/\g=σ2++σ.minus ch.ids):=
 D.call news h j n i.mem (by rw[aFD e];exact c) aB p l m
def aG0{T aZ d p n:Nat}{b5:Bool}{x y:Operand}{cs ca c:List U}(h:o.op=.store T x y)(i:env.ev x=.ptr d p)(f:hl G.P T n b5)(k:env.cn y=some a)(q:σ.get d=some (.cells aZ cs))
  (l:a.flat=true) (b:n1 a=some ca) (m:Nat.beq ca.length n=true) (e:Nat.ble (p+n) cs.length=true) (j:spine (gy cs p ca)=some c) :
  fO G o env.ev σ [d] [] (λr g=>r=.undef/\g=σ.set d (.cells aZ c)):=by
 rw[<-qd j,<-yf b];exact aF3 h i (aFb k) q f.size l (by rw[yf b];simpa using m) (by simpa using e)
def GK{n:Int}(b : -9223372036854775808<=n)(a:n<=9223372036854775807):DZ .i64 n:=by
 unfold DZ;rw[wm];omega
def Fl.tmp{t:Nat}{a:U}(h:env.find t=some a):l4 G env σ (.tmp t) a:=by rw[<-aFp h];exact .tmp t
def Fl.cell{a T d aZ n:Nat}{b5:Bool}{cs:List U}{r:U}(O:hl G.P T n b5)(H:env.get a=.ptr d 0)(hd:σ.get d=some (.cells aZ cs))(S:Nat.beq cs.length n=true)(X:(b5||Nat.blt 0 n)=true)(Q:kS b5 n cs=some r):l4 G env σ (.cell a T) r:=by
 rw[<-zh Q];exact .cell a T d aZ n b5 cs H hd O (by simpa using S) (λe=>by subst e;simpa using X)
end ops
end
section
open Go
def aFC:∀σ:ah,σ.freeze []=σ
 |[]=>rfl
 |(d,o)::r=>by simp[ah.freeze,aFC r]
section
variable {G:bI}{env:av}{σ agF:ah}{o:Oper}{ev:Operand->U}
def ZH{n:Int}(b:0<=n)(a:n<=18446744073709551615):DZ .u64 n:=by
 unfold DZ;simp only[IntKind.wrap,IntKind.bits,IntKind.signed];simp;omega
end
end
section
open Go
def aO{α:Type}(l:List (Int×α))(n:Int):Option α:=(l.find? λa=>decide (a.1=n)).map (·.2)
def bW{α:Type}:List (Int×α)->Int->α->List (Int×α)
 |[],n,v=>[(n,v)]
 |p::r,n,v=>if p.1=n then(n,v)::r else p::bW r n v
def bo{α:Type}(k:IntKind)(enc:α->U)(l:List (Int×α)):List (U×U):=l.map λa=>(.int k a.1,enc a.2)
theorem Fz{I:a8}{α:Type}{k:IntKind}{enc:α->U}(n:Int):∀(l:List (Int×α)) (es:jN) (i:Nat) (a:α),ey I (bo k enc l) es->aO l n=some a->
  ∃j v,Instr.findNow (.int k) (.int k n) es i=some (some (i+j,v))/\a1 I (enc a) v/\∃e,es[j]?=some e/\e.key=.int k n/\
   ∀(b:α) (g:Value) (c:MapEntry->MapEntry),a1 I (enc b) g->(∀e,(c e).key=.int k n/\(c e).val=g)->ey I (bo k enc (bW l n b)) (es.modify j c)
 |[],es,i,a,h,d=>by simp[aO]at d
 |(m,b)::r,es,i,a,h,d=>by
  simp only[bo,dr,ey]at h;obtain⟨e,u,rfl,f,s,t⟩:=h;simp only[a1]at f;by_cases p:m=n
  .subst p;simp only[aO,List.find?,ef,iS,ee]at d;subst d;refine⟨0,e.val,?_,s,e,rfl,f,?_⟩
   .simp[Instr.findNow,Instr.sameNow,f]
   .intro w g c q o;simp only[bW,bx,bo,dr,ey,List.modify_zero_cons];exact⟨c e,u,rfl,by simp only[a1];exact(o e).1,by rw[(o e).2];exact q,t⟩
  .have C:aO r n=some a:=by simpa [aO,List.find?,p]using d
   obtain⟨j,v,D,A,B,x,y,z⟩:=Fz n r u (i+1) a t C;refine⟨j+1,v,?_,A,B,by simpa using x,y,?_⟩
   .simp only[Instr.findNow,Instr.sameNow,f,bx]
    grind
   .intro w g c q o;simp only[bW,bw p,bo,dr,ey,List.modify_succ_cons];exact⟨e,_,rfl,by simp only[a1];exact f,s,z w g c q o⟩
theorem Fj{I:a8}{α:Type}{k:IntKind}{enc:α->U}(n:Int):∀(l:List (Int×α)) (es:jN) (i:Nat),ey I (bo k enc l) es->aO l n=none->
  Instr.findNow (.int k) (.int k n) es i=some none/\∀(b:α) (e:MapEntry),a1 I (enc b) e.val->e.key=.int k n->ey I (bo k enc (bW l n b)) (es++[e])
 |[],es,i,h,f=>by
  simp only[bo,mO,ey]at h;subst h;refine⟨rfl,λb e d j=>?_⟩;simp only[bW,bo,dr,mO,ey,lC];exact⟨e,[],rfl,by simp only[a1];exact j,d,rfl⟩
 |(m,c)::r,es,i,h,f=>by
  simp only[bo,dr,ey]at h;obtain⟨e,q,rfl,g,o,p⟩:=h;simp only[a1]at g;have a:m≠n:=λa=>by subst a;simp[aO,List.find?]at f
  have u:aO r n=none:=by simpa [aO,List.find?,a]using f
  obtain⟨v,s⟩:=Fj n r q (i+1) p u;refine⟨?_,λb t d j=>?_⟩
  .simp only[Instr.findNow,Instr.sameNow,g,bx]
   grind
  .simp only[bW,bw a,bo,dr,ey,l6];exact⟨e,_,rfl,by simp only[a1];exact g,o,s b t d j⟩
def FN{I:a8}:∀(l:List (U×U)) (es:jN),ey I l es->es.length=l.length
 |[],es,h=>by simp only[ey]at h;subst h;rfl
 |(k,v)::r,es,h=>by
  simp only[ey]at h;obtain⟨c,b,rfl,_,_,a⟩:=h;simp[FN r b a]
structure hs(P:Program)(T K E:TypeId)(k:IntKind):Prop where
 fz:P.underlying T=some (.map K E)
 key:P.underlying K=some (.int k)
section
variable {G:bI}{σ:ah}{o:Oper}{ev:Operand->U}
def bB.makeMap{T d:Nat}{K E:TypeId}(h:o.op=.makeMap T none)(hi:G.ids.contains d=false):Yields G o ev ((d,.map K E [])::σ) [d] [d] (.cc d):=by
 intro ab cx I β w S X O aa hop;have Y:(execOp S o).run G.P w=.ok (.value (.map (some w.heap.size))) (w.alloc (.map #[] 0)):=by
  simp[execOp,h,Instr.makeMap]
 rw[Y];have Z:=aa d (by simp);refine⟨I,gA β d (.map (some w.heap.size)),by simp only[aD];exact⟨by rw[gb],rfl⟩,?_,b1.refl I,λx Q=>gx β _ (λe=>Q (by simp[e]))⟩;refine O.real (by simpa using hi) Z rfl λae H=>?_;rw[X d (by simp),aFc,bx rfl]at H;injection H with H
 subst H;simp only[bl,gb];exact .inr ⟨w.heap.size,#[],0,rfl,pf w _,rfl,λo=>O.ij (eb _) o,.inl O.size,by simp[iP]⟩
variable {I:a8}{K:TypeId}{cx:dz}{w:World}{β:Nat->Value}
theorem FR{G:bI}{σ:ah}(c:bE G cx I β σ w){d:Nat}{E:TypeId}{b:List (U×U)}(e:σ.get d=some (.map K E b)){v:Value}(a:aD I β (.cc d) v):
  ∃r es clock,v=.map (some r)/\β d=.map (some r)/\w.heap[r]?=some (.map es clock)/\ey I b es.toList/\(∀o,I r o=none)/\Place cx r/\iP es clock:=by
 simp only[aD]at a;obtain⟨rfl,a⟩:=a;have:=c.bY d _ e;simp only[bl]at this;rcases this with f|⟨r,es,clock,g,k,h,i,j⟩
 .rw[f]at a;simp[l3]at a
 .grind
variable {P:Program}{es:iu}
def x0{r:Nat}{c:Nat}(h:w.heap[r]?=some (.map es c)):(getObj r).run P w=.ok (.map es c) w:=by simp[getObj,Sem.run,h]
variable {k:IntKind}
def Bt(a:P.underlying K=some (.int k))(e:Bool)(n:Int)(w:World):(Instr.checkKey e 10000 K (.int k n)).run P w=.ok () w:=by
 have b:∀w,(underlying K).run P w=.ok (.int k) w:=λw=>by simp[underlying,program,Sem.run,a]
 rw[Instr.checkKey];simp[b]
def vG(I:a8)(w:World)(v:Value)(b:List (U×U)):Prop:=∃a es c,v=.map (some a)/\w.heap[a]?=some (.map es c)/\ey I b es.toList
def KV{G:bI}{σ:ah}(c:bE G cx I β σ w){d:Nat}{E:TypeId}{a:List (U×U)}(i:σ.get d=some (.map K E a)){v:Value}(b:aD I β (.cc d) v):vG I w v a:=by
 obtain⟨j,es,h,g,_,f,e,_⟩:=FR c i b;exact⟨j,es,h,g,f,e⟩
def XX{G:bI}{σ:ah}(c:bE G cx I β σ w){d:Nat}{clock:Nat}{E:TypeId}{b:List (U×U)}(h:σ.get d=some (.gl es clock K E b)){v:Value}(a:aD I β (.cc d) v):vG I w v b:=by
 simp only[aD]at a;obtain⟨rfl,a⟩:=a;have:=c.bY d _ h;simp only[bl]at this;rcases this with i|⟨j,e,g,f,_⟩
 .rw[i]at a;simp[l3]at a
 .exact⟨j,es,clock,e,g,f⟩
def Mu{G:bI}{σ:ah}(d:bE G cx I β σ w){b:List (U×U)}{v:Value}(a:aD I β (.dK b) v):vG I w v b:=by
 simp only[aD,a1]at a;obtain⟨c,es,i,rfl,e,f,_⟩:=a;obtain⟨j,k,g,h⟩:=d.fA c _ e;obtain⟨rfl,rfl⟩:=F8 h;exact⟨c,es,i,rfl,g,f⟩
variable {E T:Nat}{ok:Bool}{α:Type}
def B9{j:Operand->Value}{K:Nat}{x y:Operand}{n:Int}(l:List (Int×α))(enc:α->U)(p:α)(h:o.op=.lookup T x y ok)(B:vG I w (j x) (bo k enc l))(c:j y=.int k n)
  (i:hs G.P T K E k) (C:∀w,∃v,(zeroValue E).run G.P w=.ok v w/\∀I,a1 I (enc p) v) :
  ∃v,(execOp j o).run G.P w=.ok (.value v) w/\aD I β (bif ok then .bO [enc ((aO l n).getD p),.bool (aO l n).isSome]else enc ((aO l n).getD p)) v:=by
 obtain⟨H,es,F,f,A,q⟩:=B;have g:∀w,(underlying T).run G.P w=.ok (.map K E) w:=λw=>by simp[underlying,program,Sem.run,i.fz]
 have z:∀w,(underlying K).run G.P w=.ok (.int k) w:=λw=>by simp[underlying,program,Sem.run,i.key]
 have d:=x0 (P:=G.P) A;have e:=Bt (P:=G.P) i.key (es.isEmpty) n w;cases r:aO l n with
 |none=>
  obtain⟨m,_⟩:=Fj n l es.toList 0 q r;obtain⟨v,t,u⟩:=C w;have b:(Instr.findKey K (.int k n) es.toList).run G.P w=.ok none w:=by simp[Instr.findKey,z,m]
  cases ok with
  |true=>
   refine⟨.tuple #[v,.bool false],by simp[execOp,h,Instr.lookup,f,c,g,d,e,b,t],?_⟩;simp only[cm,aD,bD];exact⟨_,rfl,v,[.bool false],rfl,a1.rep β _ _ (u I),.bool false,[],rfl,by simp[a1],rfl⟩
  |false=>
   refine⟨v,by simp[execOp,h,Instr.lookup,f,c,g,d,e,b,t],?_⟩;simp only[bH];exact a1.rep β _ _ (u I)
 |some a=>
  obtain⟨D,v,m,s,_⟩:=Fz n l es.toList 0 a q r;have b:(Instr.findKey K (.int k n) es.toList).run G.P w=.ok (some (0+D,v)) w:=by simp[Instr.findKey,z,m]
  cases ok with
  |true=>
   refine⟨.tuple #[v,.bool true],by simp[execOp,h,Instr.lookup,f,c,g,d,e,b],?_⟩;simp only[cm,aD,bD];exact⟨_,rfl,v,[.bool true],rfl,a1.rep β _ _ s,.bool true,[],rfl,by simp[a1],rfl⟩
  |false=>
   refine⟨v,by simp[execOp,h,Instr.lookup,f,c,g,d,e,b],?_⟩;simp only[bH];exact a1.rep β _ _ s
def bB.lookup{α:Type}{T K E d:Nat}{k:IntKind}{x y:Operand}{ok:Bool}{n:Int}(l:List (Int×α))(enc:α->U)(z:α)(h:o.op=.lookup T x y ok)(X:ev x=.cc d)(Y:ev y=.int k n)(hd:σ.get d=some (.map K E (bo k enc l)))
  (Q:hs G.P T K E k) (hz:∀w,∃v,(zeroValue E).run G.P w=.ok v w/\∀I,a1 I (enc z) v) :
  Yields G o ev σ [] [d] (bif ok then .bO [enc ((aO l n).getD z),.bool (aO l n).isSome]else enc ((aO l n).getD z)):=
 .pure λaa cx I β w ab Z S hop=>by
  have O:=hop x (by simp[h,Op.operands]);rw[X]at O
  have H:=hop y (by simp[h,Op.operands]);rw[Y]at H;have H:=g1 H
  exact B9 l enc z h (KV S (by rw[Z d (by simp)];exact hd) O) H Q hz
def aHl{K:Nat}{x y:Operand}{n:Int}(l:List (Int×α))(enc:α->U)(b:α)(h:o.op=.lookup T x y ok)(g:ev x=.dK (bo k enc l))(i:ev y=.int k n)
  (e:hs G.P T K E k) (j:∀w,∃v,(zeroValue E).run G.P w=.ok v w/\∀I,a1 I (enc b) v) :
  Yields G o ev σ [] [] (bif ok then .bO [enc ((aO l n).getD b),.bool (aO l n).isSome]else enc ((aO l n).getD b)):=
 .pure λm cx I β w p q f d=>by
  have c:=d x (by simp[h,Op.operands]);rw[g]at c
  have a:=d y (by simp[h,Op.operands]);rw[i]at a;have a:=g1 a
  exact B9 l enc b h (Mu f c) a e j
def Mv{b:Operand->Value}{K:Nat}{x:Operand}{aii}(l:List (Int×α))(enc:α->U)(h:o.op=.call ⟨.builtin .len,#[x],aii⟩)(m:aii=#[T])(j:vG I w (b x) (bo k enc l))(c:G.P.underlying T=some (.map K E)):
  ∃v,(execOp b o).run G.P w=.ok (.value v) w/\aD I β (.int .i64 (l.length:Int)) v:=by
 subst m;obtain⟨p,es,n,g,e,d⟩:=j;have i:∀w,(underlying T).run G.P w=.ok (.map K E) w:=λw=>by simp[underlying,program,Sem.run,c]
 have f:=x0 (P:=G.P) e;have a:=FN _ _ d;simp only[kr,bo,iO]at a;exact⟨.int .i64 l.length,by simp[execOp,h,resolve,invoke,builtin,Builtin.len_,g,i,f,goInt,a],by simp[aD,a1]⟩
def aGG{K d:Nat}{x:Operand}{aii}(l:List (Int×α))(enc:α->U)(h:o.op=.call ⟨.builtin .len,#[x],aii⟩)(i:aii=#[T])(e:ev x=.cc d)(g:σ.get d=some (.map K E (bo k enc l)))(b:G.P.underlying T=some (.map K E)):
  Yields G o ev σ [] [d] (.int .i64 (l.length:Int)):=
 .pure λm cx I β w n f c j=>by
  have a:=j x (by simp[h,Op.operands,Call.operands]);rw[e]at a
  exact Mv l enc h i (KV c (by rw[f d (by simp)];exact g) a) b
def aHb{K:Nat}{x:Operand}{aii}(l:List (Int×α))(enc:α->U)(h:o.op=.call ⟨.builtin .len,#[x],aii⟩)(e:aii=#[T])(d:ev x=.dK (bo k enc l))(b:G.P.underlying T=some (.map K E)):
  Yields G o ev σ [] [] (.int .i64 (l.length:Int)):=
 .pure λg cx I β w i j c f=>by
  have a:=f x (by simp[h,Op.operands,Call.operands]);rw[d]at a
  exact Mv l enc h e (Mu c a) b
theorem iP.push{es:iu}{clock:Nat}(h:iP es clock)(k v:Value):iP (es.push ⟨k,v,clock⟩) (clock+1):=by
 obtain⟨Q,O⟩:=h;refine⟨?_,λx H=>?_⟩
 all_goals grind
theorem iP.modify{es:iu}{clock:Nat}(h:iP es clock)(j:Nat)(f:MapEntry->MapEntry)(S:∀e,(f e).born=e.born):iP (es.modify j f) clock:=by
 obtain⟨O,Q⟩:=h;have e:(es.modify j f).toList.map (·.born)=es.toList.map (·.born):=by
  apply mF
  grind
 refine⟨by rw[e];exact O,λx H=>?_⟩;have:x.born∈(es.modify j f).toList.map (·.born):=dg.2 ⟨x,H,rfl⟩
 grind
def aFz(w:World)(r:Nat)(o:Obj):fR w {w with heap:=w.heap.setIfInBounds r o} r:=
 ⟨λk a _=>by simp[Array.getElem?_setIfInBounds_ne (et a)],by simp,rfl,rfl,rfl,eb _⟩
theorem D.mapUpdate{α:Type}{T K E d:Nat}{k:IntKind}{x y z:Operand}{n:Int}(l:List (Int×α))(enc:α->U)(v:α)(h:o.op=.mapUpdate T x y z\/o.op=.insert T x y z)(H:ev x=.cc d)(aN:ev y=.int k n)(hz:ev z=enc v)(aV:(enc v).closed=true)
  (hd:σ.get d=some (.map K E (bo k enc l))) (ab:hs G.P T K E k) :
  fO G o ev σ [d] [] (λr aK=>r=.undef/\aK=σ.set d (.map K E (bo k enc (bW l n v)))):=by
 intro cx I β w aw ae hop;have am:x∈o.op.operands/\y∈o.op.operands/\z∈o.op.operands:=by rcases h with h|h<;>simp[h,Op.operands]
 have aJ:=hop x am.1;rw[H]at aJ
 have O:=hop y am.2.1;rw[aN]at O;have O:=g1 O
 have S:=hop z am.2.2;rw[hz]at S
 have S:=aD.closed _ _ aV S;obtain⟨r,es,clock,aG,ao,X,aq,ag,ar,az⟩:=FR ae hd aJ;have aH:∀w,(underlying T).run G.P w=.ok (.map K E) w:=λw=>by simp[underlying,program,Sem.run,ab.fz]
 have aI:∀w,(underlying K).run G.P w=.ok (.int k) w:=λw=>by simp[underlying,program,Sem.run,ab.key]
 have ay:=x0 (P:=G.P) X;have aC:=Bt (P:=G.P) ab.key false n w
 have aE:∀Y:Obj,(setObj r Y).run G.P w=.ok () {w with heap:=w.heap.setIfInBounds r Y}:=λY=>by
  have:=gZ X;simp[setObj,Sem.run,X]
 have a4:∃Q aa,(execOp aw o).run G.P w=.ok .skip {w with heap:=w.heap.setIfInBounds r (.map Q aa)}/\ey I (bo k enc (bW l n v)) Q.toList/\iP Q aa:=by
  cases ax:aO l n with
  |none=>
   obtain⟨aj,aA⟩:=Fj n l es.toList 0 aq ax;have ak:(Instr.findKey K (.int k n) es.toList).run G.P w=.ok none w:=by simp[Instr.findKey,aI,aj]
   refine⟨_,_,by rcases h with h|h<;>simp[execOp,h,Instr.mapUpdate,aG,O,aH,ay,aC,ak,aE]<;>rfl,?_,?_⟩
   rotate_left
   .exact az.push _ _
   simpa using aA v ⟨.int k n,aw z,clock⟩ S rfl
  |some a=>
   obtain⟨j,u,aj,aA,aT,aR,aY,a5⟩:=Fz n l es.toList 0 a aq ax;have ak:(Instr.findKey K (.int k n) es.toList).run G.P w=.ok (some (0+j,u)) w:=by simp[Instr.findKey,aI,aj]
   have aW:es[j]?=some aT:=by simpa using aR
   have a2:(Instr.keyThatStays (.int k n) (.int k n)).run G.P w=.ok (.int k n) w:=by simp[Instr.keyThatStays,Instr.sameBits]
   refine⟨_,_,by rcases h with h|h<;>simp[execOp,h,Instr.mapUpdate,aG,O,aH,ay,aC,ak,aE,aW,aY,a2]<;>rfl,?_,?_⟩
   .grind
   .exact az.modify _ _ λ_=>rfl
 obtain⟨Q,aa,aX,aZ,aU⟩:=a4;rw[aX];refine⟨.undef,_,I,β,⟨rfl,rfl⟩,by simp[aD,a1],?_,b1.refl I,λ_ _=>rfl,λx H=>by rw[aFf,bw (by simpa using H)]⟩;have aB:bR (β d)=some r:=by rw[ao];rfl
 refine ae.turn (d:=d) (aFz w r _) ar (λx H=>by rw[aFf,bw H]) (λx H aL e=>ae.cQ x d aL (by rw[hd];rfl) H r e (i4 aB)) (b1.refl I) (λ_ _ _=>rfl)
  (λo v an=>by rw[ag o]at an;cases an) (ag none) (λ_ _=>rfl) (.inr rfl) (fQ.refl β) (.inl aB) λY Z=>?_
 rw[aFf,bx rfl,hd]at Z;injection Z with Z
 subst Z;simp only[bl];exact .inr ⟨r,Q,aa,ao,by have:=gZ X;simp[BX,this],aZ,ag,ar,aU⟩
def aGA{T:TypeId}{x y:Operand}{n:Int}{s:ByteArray}{b:UInt8}(h:o.op=.index T x y)(g:ev x=.str s)(i:ev y=.int k n)(f:G.P.underlying T=some .string)(j:0<=n)(e:s[n.toNat]?=some b):
  Yields G o ev σ [] [] (.int .u8 (b.toNat:Int)):=
 .pure λp cx I β w q r m d=>by
  have c:=d x (by simp[h,Op.operands]);rw[g]at c;simp only[aD,a1]at c
  have a:=d y (by simp[h,Op.operands]);rw[i]at a;have a:=g1 a
  have l:∀w,(underlying T).run G.P w=.ok .string w:=λw=>by simp[underlying,program,Sem.run,f]
  exact⟨.int .u8 b.toNat,by simp[execOp,h,Instr.index,c,a,asIntOf,l,j,e],by simp[aD,a1]⟩
end
end
section
open Go Go.Sort
variable {au:Bool}
abbrev Mw(P:Program)(f:FuncId):Prop:=∀(bR c aY:Nat) (b:bX) (a:World),Holds (Value.int .i64) a bR c b.toArray->bR<a.heap.size->b.length<4611686018427387904->
  Calls P f #[.slice (some ⟨bR,c,none⟩) b.length aY] a λd h=>
   d=.returned (.tuple #[])/\∃e g,h=grow (putRow (Value.int .i64) (Go.Sort.ahead a e) bR c (b.mergeSort λi j=>decide (i<=j)).toArray) g
def encI(n:Int):List U:=[.int .i64 n]
def uk(x:Int):bX->bX
 |[]=>[x]
 |y::r=>if x<=y then x::y::r else y::uk x r
def hS:bX->bX
 |[]=>[]
 |x::r=>uk x (hS r)
theorem F9(x:Int):∀l:bX,(uk x l).Perm (x::l)
 |[]=>List.Perm.refl _
 |y::r=>by
  simp only[uk];split
  .grind
  .exact((F9 x r).cons y).trans (List.Perm.swap x y r)
def BW:∀l:bX,(hS l).Perm l
 |[]=>List.Perm.refl _
 |x::r=>(F9 x (hS r)).trans ((BW r).cons x)
theorem KF(x:Int):∀l:bX,l.Pairwise (·<=·)->(uk x l).Pairwise (·<=·)
 |[],_=>by simp[uk]
 |y::r,h=>by
  simp only[uk];rw[fI]at h;split
  .rename_i b;rw[fI];refine⟨λc a=>?_,fI.2 h⟩
   grind
  .rename_i b;rw[fI];refine⟨λc a=>?_,KF x r h.2⟩;rcases c5.1 ((F9 x r).mem_iff.1 a)with rfl|a
   all_goals grind
def FC:∀l:bX,(hS l).Pairwise (·<=·)
 |[]=>List.Pairwise.nil
 |x::r=>KF x _ (FC r)
theorem Ks:∀{l a:bX},l.Perm a->l.Pairwise (·<=·)->a.Pairwise (·<=·)->l=a
 |[],a,h,_,_=>by simpa using h.symm
 |x::r,[],h,_,_=>by simpa using h
 |x::r,y::s,h,h1,b=>by
  rw[fI]at h1 b;have c:x=y:=by
   have d:x∈y::s:=h.mem_iff.1 (by simp);have e:y∈x::r:=h.mem_iff.2 (by simp)
   grind
  subst c;rw[Ks (List.Perm.cons_inv h) h1.2 b.2]
theorem We(zs:bX):(zs.mergeSort λx y=>decide (x<=y))=hS zs:=by
 refine Ks ((List.mergeSort_perm zs _).trans (BW zs).symm) ?_ (FC zs);have:=List.pairwise_mergeSort (le:=λx y:Int=>decide (x<=y)) (λa c e d b=>by simp at d b ⊢;omega) (λa c=>by simp;omega) zs
 grind
def Wf(zs:bX):(hS zs).length=zs.length:=(BW zs).length_eq
def Ca{I:a8}:∀(zs:bX) (vs:hD),bP I (zs.map encI).flatten vs↔vs=zs.map (Value.int .i64)
 |[],vs=>by simp[bP]
 |z::r,vs=>by
  simp only[dr,kk,encI,List.singleton_append,bP,a1];constructor
  .rintro⟨c,a,rfl,rfl,b⟩;rw[(Ca r a).1 b]
  .rintro rfl;exact⟨_,_,rfl,rfl,(Ca r _).2 rfl⟩
theorem Wm{P:Program}{f:FuncId}(H:Mw P f)(S:cz au P f [] [.aF] (λr q=>r=.bO []/\q=[])){d T:Nat}(zs:bX)(W:zs.length<4611686018427387904):
    cz au P f [(d,.slice T 1 (zs.map encI) 0 false)] [.own d] (λr q=>r=.bO []/\q=[(d,.slice T 1 ((hS zs).map encI) 0 false)]):=by
  intro C o p l aB i e;simp only[bD]at e;obtain⟨aA,aj,rfl,e,rfl⟩:=e;have U:ah.get [(d,b4.slice T 1 (zs.map encI) 0 false)] d=some (.slice T 1 (zs.map encI) 0 false):=by rw[aFc,bx rfl]
  have x:=i.bY d _ U;simp only[aD]at e;obtain⟨rfl,e⟩:=e;simp only[bl,iO]at x;rcases x with w|⟨w,z,_⟩|⟨b,aY,n,t,z,I,m,y,A,am,an,aw,ao,B⟩
  · rw[w]at e;simp[gU]at e
  · have N:zs=[]:=by simpa using z
    subst N;have R:bE ⟨P,0,ah.ids [],au⟩ C p l [] o:={i with bY:=λh E a=>by simp[ah.get]at a,cQ:=λh aa a=>by simp[ah.get]at a,keep:=λh a=>by simp[ah.ids]at a};refine hV (S C o p l [l d] R (by simp only[bD,aD,a1];exact⟨_,_,rfl,w,rfl⟩)) ?_;rintro k Z ⟨F,rfl,r,q,J,aC,⟨rfl,rfl⟩,D,G⟩;refine⟨F,rfl,.bO [],[(d,.slice T 1 [] 0 false)],J,l,⟨rfl,by simp[hS]⟩,?_,?_⟩
    · simp only[aD,bD]at D ⊢;exact D
    · exact{G with
        bY:=λh E a=>by
          rw[aFc]at a;split at a
          · rename_i k;subst k;injection a with a;subst a
            simp only[bl]
            grind
          · simp[ah.get]at a
        cQ:=λh aa g u ag b ab aq=>by
          rw[aFc]at g u;split at g
          · rename_i k;subst k
            split at u
            · omega
            · simp[ah.get]at u
          · simp[ah.get]at g
        tab:=i.tab,keep:=i.keep}
  · simp only[Nat.mul_one]at y A
    have L:n.toList.take zs.length=zs.map (Value.int .i64):=(Ca zs _).1 A
    have ax:∀c,c<zs.length->n[c]?=some (Value.int .i64 (zs[c]?.getD default)):=λc j=>by
      have:=fq (·[c]?) L;simp only[l8,bx j,lH,l7]at this;rw[this,jW j];rfl
    have M:Holds (Value.int .i64) o b 0 zs.toArray:=λc j=>by
      have j:c<zs.length:=by simpa using j
      constructor
      · simp only[World.cell?,m,hR]
        grind
      · simp[World.frozen?,m]
    have v:=gZ m;have K:=H b 0 aY zs o M v W;rw[t];refine hV K ?_;rintro k Z ⟨rfl,X,Y,rfl⟩;rw[We];have fB:(hS zs).length=zs.length:=Wf zs;have O:(grow (putRow (Value.int .i64) (Go.Sort.ahead o X) b 0 (hS zs).toArray) Y).heap[b]?=some (.cells (putCells (Value.int .i64) 0 (hS zs).toArray n) T (0,0)):=by
      simp only[grow,putRow,mapBlock,Go.Sort.ahead];rw[Array.getElem?_append_left (by simpa using v),Array.getElem?_modify,bx rfl,m];rfl
    have Q:(putCells (Value.int .i64) 0 (hS zs).toArray n).toList.take (hS zs).length=(hS zs).map (Value.int .i64):=by
      apply mF;intro c;rw[l8,l7];split
      · rename_i j
        have ar:c<n.size:=by omega
        rw[lH];simp only[putCells,Array.getElem?_mapIdx]
        grind
      · grind
    refine⟨.tuple #[],rfl,.bO [],_,p,l,⟨rfl,rfl⟩,by simp only[aD,bD];exact⟨_,rfl,rfl⟩,?_⟩;refine bE.turn (b:=b) (d:=d) i ⟨λaz ay v=>?_,by simp[grow,putRow,mapBlock,Go.Sort.ahead],rfl,rfl,rfl,by simp[grow,putRow,mapBlock,Go.Sort.ahead]⟩ B (λh g=>?_) (λh g a _=>?_) (b1.refl p) (λ_ _ _=>rfl) (λE F ae=>?_) (i.oQ m) (λ_ _=>rfl) (.inr rfl) (fQ.refl l) (.inl (by rw[t];rfl)) (λak s=>?_)
    · simp only[grow,putRow,mapBlock,Go.Sort.ahead]
      grind
    · rw[aFc,aFc,bw (et g),bw (et g)]
    · rw[aFc,bw (et g)]at a;simp[ah.get]at a
    · grind
    · rw[aFc,bx rfl]at s
      injection s with s
      subst s;simp only[bl,iO];refine .inr (.inr ⟨b,aY,_,by rw[t,fB],by omega,I,O,by simpa [putCells]using y,?_,?_,by omega,?_,?_,B⟩)
      · rw[Nat.mul_one];exact(Ca _ _).2 Q
      · intro k V;obtain⟨h,_,rfl⟩:=dg.1 V;rfl
      all_goals grind
end
section
open Go
variable {au:Bool}
mutual
def U.GL{r s:Nat->Nat}(h:∀x,s (r x)=x):∀a:U,(a.cC r).cC s=a
 |.dH|.undef|.int _ _|.bool _|.str _|.bn _ _|.dI _|.aF|.gT|.cD _ _|.gj|.iY _|.dK _|.gr _|.arr _=>rfl
 |.agg cs=>by simp only[U.cC,vj h cs]
 |.bO cs=>by simp only[U.cC,vj h cs]
 |.fn _ cs=>by simp only[U.cC,vj h cs]
 |.own d=>by simp only[U.cC,h d]
 |.ptr d _=>by simp only[U.cC,h d]
 |.cU _ d=>by simp only[U.cC,h d]
 |.cc d=>by simp only[U.cC,h d]
def vj{r s:Nat->Nat}(h:∀x,s (r x)=x):∀l:List U,k1 s (k1 r l)=l
 |[]=>rfl
 |x::t=>by simp only[k1,U.GL h x,vj h t]
end
theorem aFI{r s:Nat->Nat}(h:∀x,s (r x)=x):∀(σ:ah) (d:Nat),(σ.cC r).get (r d)=(σ.get d).map (·.cC r)
 |[],d=>rfl
 |(k,v)::t,d=>by
  have:=aFI h t d;simp only[ah.cC]at this ⊢;simp only[dr,aFc];by_cases a:k=d
  .subst a;simp
  .grind
def aF7(r:Nat->Nat)(σ:ah):(σ.cC r).ids=σ.ids.map r:=by simp[ah.ids,ah.cC]
def bl.cC{cx:dz}{I:a8}{β β':Nat->Value}{w:World}{r:Nat->Nat}(H:∀d,β' (r d)=β d){d:Nat}{o:b4}{jD:dz}(O:∀b,Place cx b->Place jD b)(h:bl cx I β w d o):bl jD I β' w (r d) (o.cC r):=
 h.go (p:=λ_=>false) (b1.refl I) (H d) (λx _=>.inr (H x)) (λb _=>⟨λ_=>rfl,λ_=>rfl,O b⟩) (Fw (λ_=>rfl) o)
def aG2{r s:Nat->Nat}(h:∀x,s (r x)=x):∀o:b4,(o.cC r).cC s=o
 |.cells a cs=>by simp only[b4.cC,vj h cs]
 |.slice ..=>rfl
 |.map ..=>rfl
 |.win ..=>rfl
 |.jY ..=>rfl
 |.gl ..=>rfl
 |.iter c _ _ _=>by simp only[b4.cC,h c]
 |.hdr c _=>by simp only[b4.cC,h c]
 |.de ..=>rfl
 |.qc a xs t=>by simp only[b4.cC,h t]
 |.tC ..=>rfl
 |.vec ..=>rfl
 |.hM a e n none=>by simp only[b4.cC,mP,h e]
 |.fL a d xs b e none=>by simp only[b4.cC,mP,h e]
 |.fL a d xs b e (some (i,t))=>by simp only[b4.cC,mP,h e,h t]
 |.oA a d xs b e none=>by simp only[b4.cC,mP,h e]
 |.oA a d xs b e (some (i,t))=>by simp only[b4.cC,mP,h e,h t]
 |.hM a e n (some (i,t))=>by simp only[b4.cC,mP,h e,h t]
 |.eo K E e keys none f=>by simp only[b4.cC,mP,h e]
 |.eo K E e keys (some (i,t)) f=>by simp only[b4.cC,mP,h e,h t]
theorem cz.cC{P:Program}{f:FuncId}{Y:ah}{args:List U}{Post:U->ah->Prop}(h:cz au P f Y args Post)(r s:Nat->Nat)(Q:∀x,s (r x)=x)(Z:∀x,r (s x)=x):
    cz au P f (Y.cC r) (k1 r args) (λa X=>∃ae ag,Post ae ag/\a=ae.cC r/\X=ag.cC r):=by
  intro cx w I β vs H ak;have aq:∀x y,r x=r y->x=y:=λx y e=>by rw[<-Q x,<-Q y,e]
  have aw:bE ⟨P,0,Y.ids,au⟩ {cx with rC:=λx=>cx.rC (r x)} I (λx=>β (r x)) Y w:=
    {good:=H.good,fA:=H.fA,fV:=H.fV,gm:=H.gm,frame:=H.frame,size:=H.size,tape:=H.tape,os:=H.os,output:=H.output,drawn:=H.drawn
     bY:=λd o hd=>by
        have az:=H.bY (r d) (o.cC r) (by rw[aFI Q,hd];rfl);have an:=bl.cC (cx:=cx) (r:=s) (β:=β) (β':=λx=>β (r x)) (λx=>by show β (r (s x))=β x;rw[Z]) (jD:={cx with rC:=λx=>cx.rC (r x)}) (λb S=>S) az
        rwa [Q,aG2 Q]at an
     cQ:=λd cA hd aa ab b S=>H.cQ (r d) (r cA) (by rw[aFI Q];simpa using hd) (by rw[aFI Q];simpa using aa) (λe=>ab (aq _ _ e)) b S
     tab:=H.tab,keep:=λd hd=>H.keep (r d) (by show r d∈(Y.cC r).ids;rw[aF7];exact List.mem_map_of_mem hd)}
  have ax:bD I (λx=>β (r x)) args vs:=by
    have:=XW (r:=s) (β':=λx=>β (r x)) (p:=λ_=>false) (λx _=>by show β (r (s x))=β x;rw[Z]) (k1 r args) vs (uV (λ_=>rfl) _) ak
    rwa [vj Q]at this
  refine hV (h _ w I _ vs aw ax) ?_;rintro e w' ⟨v,rfl,a,X,ao,β',am,ar,O⟩;refine⟨v,rfl,a.cC r,X.cC r,ao,λx=>β' (s x),⟨a,X,am,rfl,rfl⟩,No (r:=r) (p:=λ_=>false) (λx _=>by show β' (s (r x))=β' x;rw[Q]) a v (Cj (λ_=>rfl) a) ar,?_⟩
  have aj:∀d,(X.cC r).get d=(X.get (s d)).map (·.cC r):=λd=>by
    have:=aFI Q X (s d)
    rwa [Z]at this
  exact{good:=O.good,fA:=O.fA,fV:=O.fV,gm:=O.gm,frame:=O.frame,size:=O.size,tape:=O.tape,os:=O.os,output:=O.output,drawn:=O.drawn
        bY:=λd o hd=>by
            rw[aj]at hd;obtain⟨aA,ay,rfl⟩:=Option.map_eq_some_iff.1 hd;have:=bl.cC (cx:={cx with rC:=λx=>cx.rC (r x)}) (r:=r) (β:=β') (β':=λx=>β' (s x)) (λx=>by show β' (s (r x))=β' x;rw[Q]) (jD:=cx) (λb S=>S) (O.bY (s d) aA ay)
            rwa [Z]at this
        cQ:=λd cA hd aa ab b S=>by
            rw[aj]at hd aa;exact O.cQ (s d) (s cA) (by simpa using hd) (by simpa using aa) (λe=>ab (by rw[<-Z d,<-Z cA,e])) b S
        tab:=O.tab,keep:=λd hd=>by
            have:s d∈Y.ids:=by
              have hd:d∈(Y.cC r).ids:=hd;rw[aF7]at hd
              grind
            have:=O.keep (s d) this;show β' (s d)=_;rw[this];show cx.rC (r (s d))=_;rw[Z]}
def swp(a b x:Nat):Nat:=bif Nat.beq x a then b else bif Nat.beq x b then a else x
theorem Nu(a b x:Nat):swp a b (swp a b x)=x:=by
 have e:∀c d:Nat,Nat.beq c d=decide (c=d):=λc d=>by rw[ns];simp
 simp only[swp,e]
 grind
def mH:List (Nat×Nat)->Nat->Nat
 |[],x=>x
 |(a,b)::r,x=>swp a b (mH r x)
def we:List (Nat×Nat)->Nat->Nat
 |[],x=>x
 |(a,b)::r,x=>we r (swp a b x)
def Mx:∀(l:List (Nat×Nat)) (x:Nat),we l (mH l x)=x
 |[],x=>rfl
 |(a,b)::r,x=>by simp only[mH,we,Nu,Mx r]
def Lg:∀(l:List (Nat×Nat)) (x:Nat),mH l (we l x)=x
 |[],x=>rfl
 |(a,b)::r,x=>by simp only[mH,we,Lg r,Nu]
def cz.at{P:Program}{f:FuncId}{H:ah}{args:List U}{Post:U->ah->Prop}(h:cz au P f H args Post)(l:List (Nat×Nat)):
  cz au P f (H.cC (mH l)) (k1 (mH l) args) (λa S=>∃O Q,Post O Q/\a=O.cC (mH l)/\S=Q.cC (mH l)):=
 h.cC (mH l) (we l) (Mx l) (Lg l)
def Lh{I:a8}{β β':Nat->Value}{b:U}{post:List U}:∀(pre:List U) (vs:hD) {a:U},bD I β (pre++a::post) vs->(∀x v,x∈pre\/x∈post->aD I β x v->aD I β' x v)->(∀v,aD I β a v->aD I β' b v)->bD I β' (pre++b::post) vs
 |[],vs,a,c,h1,h=>by
  simp only[lC,bD]at c ⊢;obtain⟨e,d,rfl,g,j⟩:=c;have q:∀(f:List U) (vs:hD),(∀x∈f,x∈post)->bD I β f vs->bD I β' f vs:=by
   intro f;induction f with
   |nil=>intro _ _ c;exact c
   |cons x r n=>
    intro vs l c;simp only[bD]at c ⊢;obtain⟨e,d,rfl,o,p⟩:=c;exact⟨e,d,rfl,h1 x e (.inr (l x (by simp))) o,n d (λk i=>l k (by simp[i])) p⟩
  exact⟨e,d,rfl,h e g,q post d (λx m=>m) j⟩
 |x::r,vs,a,c,h1,h=>by
  simp only[l6,bD]at c ⊢;obtain⟨e,d,rfl,g,j⟩:=c;exact⟨e,d,rfl,h1 x e (.inl (by simp)) g,Lh r d j (λk v i=>h1 k v (i.imp (λc=>by simp[c]) id)) h⟩
def Li{p:Nat->Bool}:∀{l:List U},lZ p l=false->∀x∈l,x.refs p=false
 |[],_,x,h=>by simp at h
 |y::r,h,x,a=>by
  simp only[lZ,kj]at h;rcases c5.1 a with rfl|a
  .exact h.1
  .exact Li h.2 x a
theorem aGO{G:bI}{env:av}{σ:ah}(d0 d:Nat)(T:TypeId)(sz:Nat)(i:TypeId)(pre post:List U)(o:σ.get d0=some (.cells i (pre++.aF::post)))(t:Nat.beq d0 d=false)(hi:G.ids.contains d=false)(E:env.clean (Nat.beq d)=true)(h:σ.clean (Nat.beq d)=true):
  cZ G env σ env ((d,.slice T sz [] 0 false)::σ.set d0 (.cells i (pre++.own d::post))):=λP z p O Q j B=>by
 let q:Nat->Value:=λa=>if a=d then .slice none 0 0 else p a
 have t:d0≠d:=λc=>by subst c;simp at t
 have f:∀a,Nat.beq d a=false->q a=p a:=λa b=>by
  have:a≠d:=λc=>by subst c;simp at b
  show(if a=d then _ else p a)=_;rw[bw this]
 have l:q d=.slice none 0 0:=by show(if d=d then _ else _)=_;rw[bx rfl]
 have u:∀a,a≠d->ah.get ((d,.slice T sz [] 0 false)::σ.set d0 (.cells i (pre++.own d::post))) a=if a=d0 then some (.cells i (pre++.own d::post))else σ.get a:=λa b=>by
  rw[aFc,bw (et b),aFf,o];rfl
 have v:∀a,a≠d->(ah.get ((d,.slice T sz [] 0 false)::σ.set d0 (.cells i (pre++.own d::post))) a).isSome->(σ.get a).isSome:=λa b h=>by
  rw[u a b]at h;split at h
  .grind
  .exact h
 refine⟨z,q,{j with bY:=λa w c=>?_,cQ:=λa g L M H n=>?_,keep:=λa b=>?_},λx=>?_⟩
 .by_cases b:a=d
  .subst b;rw[aFc,bx rfl]at c;cases c;simp only[bl,l]
   grind
  .rw[u a b]at c;split at c
   .rename_i C;subst C;cases c
    have s:=j.bY a _ o;obtain⟨m,k⟩:=aFi h a _ o;simp only[kR]at k;simp only[bl,f a m]at s ⊢;rcases s with N|⟨n,I,J,K,D,F⟩
    .exact .inl N
    .refine .inr ⟨n,I,J,K,Lh pre _ D (λg y e A=>sW f g y ?_ A) (λy r=>?_),F⟩
     .exact Li k g (by rcases e with e|e<;>simp[e])
     .simp only[aD,a1]at r;simp only[aD,r,l,gU,and_self]
   .obtain⟨m,k⟩:=aFi h a w c;exact(j.bY a w c).beta f m k
 .by_cases b:a=d
  .subst b;rw[l];simp[Cv]
  .by_cases e:g=d
   .subst e;rw[l];simp[Cv]
   .rw[f a (by rw[<-mM,n9];exact et b),f g (by rw[<-mM,n9];exact et e)];exact j.cQ a g (v a b L) (v g e M) H n
 .have:d≠a:=λc=>by subst c;simp at hi;exact hi b
  rw[f a (by rw[<-mM,n9];exact this)];exact j.keep a b
 .exact sW f _ _ (aFB E x) (B x)
end
section
open Go
variable {au:Bool}
def bE.stay{G:bI}{cx:dz}{I:a8}{β:Nat->Value}{σ:ah}{w w':World}(h:bE G cx I β σ w)(H:∀b,b<w.heap.size->w'.heap[b]?=w.heap[b]?)(Y:w.heap.size<=w'.heap.size)(Z:w'.tape=w.tape)(X:w'.os=w.os)(aa:w'.output=w.output)(hdr:w.drawn<=w'.drawn):bE G cx I β σ w':=by
  have ae:fR w w' w.heap.size:=⟨λk _ Q=>H k Q,Y,Z,X,aa,hdr⟩
  exact{good:=λb o v O=>by
            have h1:=h.good b o v O;have Q:b<w.heap.size:=zu w _ h1;rw[World.cell?_of_block (w:=w) (H b Q)];exact h1
        fA:=λb v O=>by
            obtain⟨es,clock,h1,ab⟩:=h.fA b v O;exact⟨es,clock,by rw[H b (gZ h1)];exact h1,ab⟩
        fV:=h.fV,gm:=h.gm
        frame:=λb S ag=>by rw[H b (vZ S h.size)];exact h.frame b S ag
        size:=gP h.size Y,tape:=Z.trans h.tape,os:=X.trans h.os,output:=aa.trans h.output,drawn:=gP h.drawn hdr
        bY:=λd o hd=>(h.bY d o hd).keep ae rfl (λe=>by have:=h.rB hd e;omega) (b1.refl I) (λ_ _ _=>rfl) (fQ.refl β)
        cQ:=h.cQ,tab:=h.tab,keep:=h.keep}
mutual
def U.gW:U->Bool
 |.int _ _=>true
 |.bool _=>true
 |.str _=>true
 |.undef=>true
 |.bO cs=>lu cs
 |.agg cs=>lu cs
 |_=>false
def lu:List U->Bool
 |[]=>true
 |x::r=>x.gW&&lu r
end
mutual
def aD.gW{I S:a8}{β β':Nat->Value}:∀(a:U) (v:Value),a.gW=true->aD I β a v->aD S β' a v
 |.int _ _,v,_,h=>by simpa only[aD,a1]using h
 |.bool _,v,_,h=>by simpa only[aD,a1]using h
 |.str _,v,_,h=>by simpa only[aD,a1]using h
 |.undef,v,_,h=>by simpa only[aD,a1]using h
 |.bO cs,v,H,h=>by
  simp only[aD,U.gW]at h H ⊢;obtain⟨vs,Q,O⟩:=h;exact⟨vs,Q,bD.gW cs _ H O⟩
 |.agg cs,v,H,h=>by
  simp only[aD,U.gW]at h H ⊢;obtain⟨vs,Q,O⟩:=h;exact⟨vs,Q,bD.gW cs _ H O⟩
 |.dH,_,H,_|.bn _ _,_,H,_|.dI _,_,H,_|.fn _ _,_,H,_|.aF,_,H,_|.gT,_,H,_|.own _,_,H,_|.ptr _ _,_,H,_|.cc _,_,H,_|.cD _ _,_,H,_|.gj,_,H,_|.iY _,_,H,_|.cU _ _,_,H,_=>by simp[U.gW]at H
def bD.gW{I X:a8}{β β':Nat->Value}:∀(a:List U) (v:hD),lu a=true->bD I β a v->bD X β' a v
 |[],v,_,h=>h
 |x::r,v,H,h=>by
  simp only[bD,lu,b9]at h H ⊢;obtain⟨u,O,Y,Q,S⟩:=h;exact⟨u,O,Y,aD.gW x u H.1 Q,bD.gW r O H.2 S⟩
end
def Fs{I:a8}{sz:Nat}:∀(xs:List (List U)) (i:Nat),(∀e∈xs,e.length=sz)->i<xs.length->∃A B,xs.flatten=A++xs.getD i []++B/\A.length=i*sz/\(∀b,(xs.set i b).flatten=A++b++B)
 |[],_,_,h=>by simp at h
 |e::r,0,a,_=>⟨[],r.flatten,by simp,by simp,by simp⟩
 |e::r,i+1,a,h=>by
  obtain⟨A,B,g,d,f⟩:=Fs (I:=I) r i (λx c=>a x (by simp[c])) (by simpa using h);refine⟨e++A,B,by simp[g],?_,by simp[f]⟩;rw[dF,d,a e (by simp),ha];omega
section ops
variable {G:bI}{o:Oper}{env:av}{σ:ah}{x y:Operand}
variable {T aZ sz:Nat}{i:Int}{α:Type}
theorem aGB[Inhabited α]{E d n:Nat}{k:IntKind}{bL:Bool}(rs:List α)(enc:α->List U)(h:o.op=.indexAddr T x y)(r:env.ev x=.own d)(s:env.ev y=.int k i)(v:σ.get d=some (.slice aZ sz (rs.map enc) n bL))(f:lJ G.P T E sz)
  (hi:0<=i/\i<rs.length):Yields G o env.ev σ [] [d] (.ptr d (i.toNat*sz)):=
 .pure λw D I β c B t q p=>by
  have a:=p x (by simp[h,Op.operands]);rw[r]at a
  have b:=p y (by simp[h,Op.operands]);rw[s]at b;have b:=g1 b
  simp only[aD]at a;obtain⟨a,j⟩:=a;have l:=q.bY d _ (by rw[t d (by simp)];exact v);simp only[bl,iO]at l;have z:i.toNat<rs.length:=by omega
  rcases l with e|⟨_,e,_⟩|⟨m,aY,C,g,A,_⟩
  .rw[a,e]at j;simp[gU]at j
  .have:rs=[]:=by simpa using e
   grind
  .refine⟨.pointer (some ⟨m,i.toNat*sz,none⟩),?_,by simp only[aD];exact⟨m,by rw[g];rfl,rfl⟩⟩;have u:∀c,(underlying T).run G.P c=.ok (.slice E) c:=λc=>by simp[underlying,program,Sem.run,f.fz]
   rw[g]at a;simp[execOp,h,a,b,Instr.indexAt,asIntOf,u,hi,f.size,i5]
variable {I:a8}{k:Nat}{β:Nat->Value}
def Lj{G:bI}{cx:dz}{σ:ah}{w:World}(j:bE G cx I β σ w){d b:Nat}{bL:Bool}{xs:List (List U)}(B:σ.get d=some (.slice T sz xs k bL))(a:bR (β d)=some b):
  ∃aY arr,β d=.slice (some ⟨b,0,none⟩) xs.length aY/\xs.length<=aY/\aY<=maxLen/\w.heap[b]?=some (.cells arr T (0,0))/\arr.size=aY*sz/\bP I xs.flatten (arr.toList.take (xs.length*sz))/\(∀e∈xs,e.length=sz)/\k<=xs.length/\
   (bL=true->∀o,o<xs.length*sz->I b o=arr[o]?)/\(∀o,k*sz<=o->I b o=none)/\Place cx b/\bD I β (xs.flatten++List.replicate (arr.size-xs.length*sz) .dH) arr.toList:=by
 have g:=j.bY d _ B;simp only[bl]at g;rcases g with f|⟨f,_⟩|⟨n,aY,arr,h,s,l,m,q,i,u,x,A,y,z⟩
 .rw[f]at a;simp[bR]at a
 .rw[f]at a;simp[bR]at a
 .have:n=b:=by rw[h]at a;simpa [bR]using a
  subst this;refine⟨aY,arr,h,s,l,m,q,i,u,x,A,y,z,?_⟩;have e:arr.toList=arr.toList.take (xs.length*sz)++arr.toList.drop (xs.length*sz):=(o6 _ _).symm;rw[e];refine nT _ _ _ _ (bP.rep β _ _ i) ?_;have t:∀(c:hD),bD I β (List.replicate c.length .dH) c:=by
   intro c;induction c with
   |nil=>simp[bD]
   |cons v r p=>simp only[fW,tH,bD];exact⟨v,r,rfl,by simp[aD],p⟩
  have:=t (arr.toList.drop (xs.length*sz));simpa using this
variable {a:U}{p:Nat}
def aHc[Inhabited α]{T aZ:TypeId}{n d off:Nat}{bL b5:Bool}(rs:List α)(enc:α->List U)(h:o.op=.load T x)(D:env.ev x=.ptr d p)(N:σ.get d=some (.slice aZ sz (rs.map enc) k bL))(C:p=i.toNat*sz+off)
  (hi:0<=i/\i<rs.length) (y:hl G.P T n b5) (v:(b5||Nat.blt 0 n)=true) (u:Nat.ble (off+n) sz=true)  (w:kS b5 n ((enc (el rs i)).drop off)=some a):Yields G o env.ev σ [] [d] a:=
 .pure λS am I β an Y H B O=>by
  have u:off+n<=sz:=by simpa using u
  have b:=O x (by simp[h,Op.operands]);rw[D]at b
  simp only[aD]at b;obtain⟨ak,b,E⟩:=b;obtain⟨aY,g,R,X,V,F,W,aa,q,Z,ag,ab,ae,L⟩:=Lj B (by rw[H d (by simp)];exact N) b;have e:i.toNat<rs.length:=by omega
  obtain⟨A,m,l,r,_⟩:=Fs (I:=I) (rs.map enc) i.toNat q (by simpa using e);have s:(rs.map enc).getD i.toNat []=enc (el rs i):=by
   simp[oy,e,el]
  rw[s]at l;have P:(enc (el rs i)).length=sz:=q _ (by rw[<-s,oy,jW (by simpa using e)];exact List.getElem_mem _)
  obtain⟨Q,K,f⟩:=Fh y (λj=>by subst j;simpa using v) (off:=p) F L (by
   rw[l];simp only[dF,r,P];omega)
  refine⟨Q,by simp[execOp,h,E,Instr.loadAt,Instr.sureAddr,K],?_⟩;have j:((List.map enc rs).flatten++List.replicate (g.size-(List.map enc rs).length*sz) U.dH).drop p=(enc (el rs i)).drop off++(m++List.replicate (g.size-(List.map enc rs).length*sz) U.dH):=by
   rw[l,C,jt,jt,<-List.drop_drop,<-r,List.drop_left,List.drop_append_of_le_length (by omega)]
  rw[j]at f;have M:jZ b5 n ((enc (el rs i)).drop off++(m++List.replicate (g.size-(List.map enc rs).length*sz) U.dH))=jZ b5 n ((enc (el rs i)).drop off):=by
   have c:n<=((enc (el rs i)).drop off).length:=by simp;omega
   cases b5 with
   |true=>simp only[jZ,cm];rw[zq c]
   |false=>
    simp only[jZ,bH];have aj:0<n:=by simpa using v
    cases J:(enc (el rs i)).drop off with
    |nil=>rw[J]at c;simp at c;omega
    |cons z t=>rfl
  rw[M,zh w]at f;exact f
def FT{a:List U}{v:hD}(b:i1 a=true)(h:bD I β a v):bP I a v:=bD.closed a v b h
theorem aGV[Inhabited α]{d off n:Nat}{bL b5:Bool}{ca:List U}{ev:Operand->U}(rs:List α)(enc:α->List U)(r':α)(h:o.op=.store T x y)(l:ev x=.ptr d p)(aG:ev y=a)(L:σ.get d=some (.slice aZ sz (rs.map enc) k bL))(aB:p=i.toNat*sz+off)
  (hi:0<=i/\i<rs.length) (b2:(k:Int)<=i) (az:hl G.P T n b5) (aJ:a.flat=true) (a9:n1 a=some ca) (aK:i1 ca=true) (z:Nat.beq ca.length n=true) (M:Nat.ble (off+n) sz=true) (N:gy (enc (el rs i)) off ca=enc r') :
  fO G o ev σ [d] [] (λr aC=>r=.undef/\aC=σ.set d (.slice aZ sz ((rs.set i.toNat r').map enc) k false)):=by
 intro b0 I β u c s aq;have z:ca.length=n:=by simpa using z
 have M:off+n<=sz:=by simpa using M
 have q:=aq x (by simp[h,Op.operands]);rw[l]at q
 have Q:=aq y (by simp[h,Op.operands]);rw[aG]at Q
 simp only[aD]at q;obtain⟨m,q,aH⟩:=q;obtain⟨aY,b,O,C,aI,t,R,F,E,V,bH,aT,X,bU⟩:=Lj s L q;obtain⟨f1,f2⟩:=aFQ aJ Q;rw[yf a9]at f1;have Z:=nS _ _ f1;have v:i.toNat<rs.length:=by omega
 obtain⟨A,aw,ar,aL,bt⟩:=Fs (I:=I) (rs.map enc) i.toNat E (by simpa using v);have ag:(rs.map enc).getD i.toNat []=enc (el rs i):=by simp[oy,v,el]
 rw[ag]at ar;have bo:(enc (el rs i)).length=sz:=E _ (by rw[<-ag,oy,jW (by simpa using v)];exact List.getElem_mem _);have bi:(enc r').length=sz:=by rw[<-N];simp only[gy,dF,hg,l2,bo];omega
 simp only[iO]at O C R F V;have bT:i.toNat*sz+sz<=rs.length*sz:=by
  have:=hp sz (show i.toNat+1<=rs.length from v)
  rwa [ha,qv]at this
 have bz:rs.length*sz<=b.size:=by rw[R];exact hp sz C
 have a4:=Jb (P:=G.P) t (c y).cells.toList (off:=p) (by omega) f2;have bZ:(c y).cells.size=ca.length:=by simpa using Z
 have aW:(execOp c o).run G.P u=.ok .skip (u.setRow m (gy b.toList p (c y).cells.toList).toArray):=by
  have B:¬((c y).cells.size≠n):=by omega
  simp[execOp,h,aH,Instr.storeAt,Instr.sureAddr,storeVar,az.size,B,a4]
 rw[aW];refine⟨.undef,_,I,β,⟨rfl,rfl⟩,by simp[aD,a1],?_,b1.refl I,λ_ _=>rfl,λx l=>by rw[aFf,bw (by simpa using l)]⟩;have bW:k*sz<=p:=by
  have:k<=i.toNat:=by omega
  have:=hp sz this;omega
 refine s.turn (d:=d) (fR.setRow u m _) X (λx l=>by rw[aFf,bw l]) (λx l aE an=>s.cQ x d aE (by rw[L];rfl) l m an (i4 q)) (b1.refl I) (λ_ _ _=>rfl)
  (λo bv aA=>?_) (s.oQ t) (λ_ _=>rfl) (.inr rfl) (fQ.refl β) (.inl q) λbG w=>?_
 ·
  have bF:o<k*sz:=by grind
  have D:=s.good m o bv aA;simp only[World.cell?,t]at D;simp only[World.cell?,kf u m b _ aZ _ t];simp only[Option.isSome_none,pL,h0]at D ⊢;rw[<-D];have:o<p:=by omega
  simp only[gy,List.getElem?_toArray]
  grind
 .rw[aFf,bx rfl,L]at w;injection w with w
  subst w;simp only[bl,iO,List.length_set];refine .inr (.inr ⟨m,aY,_,O,C,aI,kf u m b _ aZ _ t,?_,?_,?_,V,(λh=>by cases h),aT,X⟩)
  .simp only[gy,pe,dF,hg,l2,kr];omega
  .have bj:=FT (I:=I) aK f1;have bs:((rs.set i.toNat r').map enc).flatten=A++(gy (enc (el rs i)) off ca)++aw:=by
    rw[List.map_set,bt,N]
   rw[bs];rw[ar]at F;obtain⟨bR,g,B,aV,S⟩:=(h8 _ _ _).1 F;obtain⟨f,bB,ao,aa,J⟩:=(h8 _ _ _).1 aV;have a5:=jG _ _ aa;have bJ:=jG _ _ J;have bQ:=jG _ _ S;have aU:enc (el rs i)=(enc (el rs i)).take off++((enc (el rs i)).drop off):=(o6 _ _).symm;rw[aU]at J;obtain⟨e,bD,Y,am,ak⟩:=(h8 _ _ _).1 J;have a2:=jG _ _ am;have aR:(enc (el rs i)).drop off=((enc (el rs i)).drop off).take n++(enc (el rs i)).drop (off+n):=by
    rw[<-List.drop_drop];exact(o6 _ _).symm
   rw[aR]at ak;obtain⟨K,j,ab,bc,ax⟩:=(h8 _ _ _).1 ak;have bb:=jG _ _ bc;have be:e.length=off:=by rw[a2,hg];omega
   have bh:K.length=n:=by rw[bb,hg,l2];omega
   have a7:(gy b.toList p (c y).cells.toList).take (rs.length*sz)=f++(e++(c y).cells.toList++j)++g:=by
    have ay:b.toList=(f++(e++(K++j))++g)++b.toList.drop (rs.length*sz):=by
     conv=>lhs;rw[<-o6 (rs.length*sz) b.toList]
     rw[B,ao,Y,ab]
    have W:(f++e).length=p:=by rw[dF,a5,be,aL,aB]
    have aj:(c y).cells.toList.length=n:=by rw[Z,z]
    have ba:gy b.toList p (c y).cells.toList=(f++e)++(c y).cells.toList++(j++(g++b.toList.drop (rs.length*sz))):=by
     unfold gy;rw[aj];have ae:b.toList=(f++e)++(K++(j++(g++b.toList.drop (rs.length*sz)))):=by
      conv=>lhs;rw[ay]
      simp only[jt]
     have t1:b.toList.take p=f++e:=by rw[ae,<-W,List.take_left]
     have t2:b.toList.drop (p+n)=j++(g++b.toList.drop (rs.length*sz)):=by
      rw[<-List.drop_drop]
      conv=>lhs;rw[ae]
      rw[<-W,List.drop_left,<-bh,List.drop_left]
     rw[t1,t2]
    rw[ba];have aN:((f++e)++(c y).cells.toList++(j++g)).length=rs.length*sz:=by
     have aX:=fq List.length (B.trans (by rw[ao,Y,ab]));simp only[hg,dF,kr]at aX;simp only[dF,aj];omega
    have:(f++e)++(c y).cells.toList++(j++(g++b.toList.drop (rs.length*sz)))=((f++e)++(c y).cells.toList++(j++g))++b.toList.drop (rs.length*sz):=by simp
    rw[this,<-aN,List.take_left];simp
   rw[a7];refine(h8 _ _ _).2 ⟨_,_,rfl,(h8 _ _ _).2 ⟨_,_,rfl,aa,?_⟩,S⟩;unfold gy;rw[z];exact(h8 _ _ _).2 ⟨_,_,rfl,(h8 _ _ _).2 ⟨_,_,rfl,am,bj⟩,ax⟩
  .intro an bk;obtain⟨b3,H,rfl⟩:=dg.1 bk;rcases List.mem_or_eq_of_mem_set H with H|rfl
   .exact E _ (List.mem_map_of_mem H)
   .exact bi
end ops
end
section
open Go
section
variable {P:Program}{w:World}{d:Nat}{xs ys:ig}{f:Field}{fs:List Field}{T off:Nat}{r:Bool}
def GM:(Op.eqFields d xs ys []).run P w=.ok true w:=rfl
def s7{k g:IntKind}{a b:Int}(e:(f.name== "_",f.type,f.offset)=(false,T,off))(j:∀w,(isAgg T).run P w=.ok false w)(n:P.underlying T=some (.int g))(o:xs[off]?=some (.int k a))(q:ys[off]?=some (.int k b))
  (h:(Op.eqFields (d+1) xs ys fs).run P w=.ok r w):(Op.eqFields (d+1) xs ys (f::fs)).run P w=.ok (decide (a=b)&&r) w:=by
 simp only[kJ]at e;obtain⟨c,p,s⟩:=e;have c:f.name≠ "_":=by simpa using c
 simp only[Op.eqFields,p,s,bx c];have l:(part T xs off).run P w=.ok (.int k a) w:=by simp[part,j,Array.getElem!_eq_getD,vb,o]
 have m:(part T ys off).run P w=.ok (.int k b) w:=by simp[part,j,Array.getElem!_eq_getD,vb,q]
 simp only[fD,l,m,gQ,run_equalIn_int w d T k g a b n];by_cases i:a=b
 .simp[i,h]
 .simp[i]
def sN{l:List Field}{x:Bool×Nat×Nat}{r:List (Bool×Nat×Nat)}(h:l.map (λf=>(f.name== "_",f.type,f.offset))=x::r):∃f t,l=f::t/\(f.name== "_",f.type,f.offset)=x/\t.map (λf=>(f.name== "_",f.type,f.offset))=r:=by
 cases l with
 |nil=>simp at h
 |cons f t=>simp only[dr,iV]at h;exact⟨f,t,rfl,h.1,h.2⟩
def FU{l:List Field}(h:l.map (λf=>(f.name== "_",f.type,f.offset))=[]):l=[]:=by simpa using h
def ZJ(xs ys:ig)(r:Bool)(x y:Operand)(b:P.eqGuardType P.depth T=false)(c:P.underlying T=some (.struct (P.fieldsOf T)))(a:P.stoodInHeld T=false)(h:(Op.eqFields 9999 xs ys (P.fieldsOf T).toList).run P w=.ok r w):
  (do eqGuard .eql T x y (.agg xs) (.agg ys);binOp .eql T (.agg xs) (.agg ys):Sem Value).run P w=.ok (.bool r) w:=by
 rw[fD,run_eqGuard_agg w .eql T x y _ _ b];simp only[gQ,run_eql_struct];rw[run_equalIn_agg w 9999 T _ _ c a,h];rfl
def Nv(xs ys:ig)(r:Bool)(x y:Operand)(b:P.eqGuardType P.depth T=false)(c:P.underlying T=some (.struct (P.fieldsOf T)))(a:P.stoodInHeld T=false)(h:(Op.eqFields 9999 xs ys (P.fieldsOf T).toList).run P w=.ok r w):
  (do eqGuard .neq T x y (.agg xs) (.agg ys);binOp .neq T (.agg xs) (.agg ys):Sem Value).run P w=.ok (.bool (!r)) w:=by
 rw[fD,run_eqGuard_agg w .neq T x y _ _ b];simp only[gQ,run_neq_struct];rw[run_equalIn_agg w 9999 T _ _ c a,h];rfl
end
def aFY{G:bI}{c:Code}{Q:Exit->av->ah->Prop}{env:av}{σ:ah}(h:ar G c (λe env σ=>∃dc σ2,cZ G env σ dc σ2/\Q e dc σ2) env σ):ar G c Q env σ:=by
 refine aFw λi a w b=>wp_mono (ar.use h i a w b) ?_;rintro e k m ⟨l,j,g,dc,σ2,d,f⟩;exact⟨dc,σ2,d.rel g,f⟩
theorem ZK{α:Type}(enc:α->List U)(h:∀r,(enc r).all U.one=true)(l:List α):(l.map enc).flatten.all U.one=true:=by grind
def RD{P:Program}{T f off n e:Nat}{b5:Bool}{fs:Array Field}(i:P.underlying T=some (.struct fs))(a:(fs[f]?).map (λg=>(g.type,g.offset))=some (e,off))(b:hl P e n b5)(d:b5=false->n=1):v8 P T f off n b5 where
 pos:=d
 run:=λh w j=>by
  cases c:fs[f]? with
  |none=>rw[c]at a;cases a
  |some g=>
   rw[c]at a;simp only[iS,ee,kJ]at a;simp only[Instr.field,fD,ja i,gQ,c,a.1,a.2,asAgg,jq];cases b5 with
   |true=>simp[part,b.agg,b.size]
   |false=>
    have:=d rfl;subst this;simp[part,b.agg,vb,qj (show off<h.size by omega)]
end
section
open Go
section win
variable {G:bI}{o:Oper}{ev:Operand->U}{σ:ah}
def bl.RE{cx:dz}{I:a8}{β:Nat->Value}{w:World}{d T sz k:Nat}{xs:List (List U)}(h:bl cx I β w d (.slice T sz xs k true))(aj:k=xs.length):bl cx I β w d (.win T sz xs):=by
 simp only[bl]at h ⊢;rcases h with q|⟨q,O,_⟩|⟨b,aY,arr,Q,O,X,Y,am,aa,Z,an,ag,ab,ae⟩
 .exact .inl q
 .exact .inr (.inl ⟨q,O⟩)
 .refine .inr (.inr ⟨b,0,aY,arr,Q,O,X,Y,λ_=>by omega,?_,Z,λ_ o ak=>ab o (by rw[aj];omega),ae⟩);refine uW xs 0 _ aa λj v H=>?_;rw[hR];rw[l8]at H;split at H
  .rename_i S;rw[ag trivial j S];simpa using H
  .cases H
def cZ.win{env:av}{d T sz k:Nat}{xs:List (List U)}(hd:σ.get d=some (.slice T sz xs k true))(X:k=xs.length):cZ G env σ env (σ.set d (.win T sz xs)):=λcx I β a w h Q=>by
 refine⟨I,β,{h with bY:=λx S H=>?_,cQ:=λx y H O=>?_},Q⟩
 .rw[aFf]at H;split at H
  .rename_i e;subst e;rw[hd]at H;cases H;exact(h.bY _ _ hd).RE X
  .exact h.bY x S H
 .have:∀x,(ah.get (σ.set d (.win T sz xs)) x).isSome->(σ.get x).isSome:=λx H=>by
   rw[aFf]at H;split at H
   .rename_i e;subst e;rw[hd];rfl
   .exact H
  exact h.cQ x y (this x H) (this y O)
def aGW{T E sz aZ d d2:Nat}{x:Operand}{j:Option Operand}{xs:List (List U)}(h:o.op=.slice T x j none none)(a:ev x=.own d)(W:σ.get d=some (.win aZ sz xs))(Z:lJ G.P T E sz)(aH:rG ev j)
  (fK:0<=jc ev j/\jc ev j<=xs.length) (hi:G.ids.contains d2=false) (R:(σ.minus [d]).clean [d2].contains=true) :
  fO G o ev σ [d,d2] [d2] (λr t=>r=.own d2/\t=(d2,.win aZ sz (xs.drop (jc ev j).toNat))::σ.minus [d]):=by
 intro cx I β w v n aw;have i:=aw x (by simp[h,Op.operands]);rw[a]at i;simp only[aD]at i;obtain⟨i,aj⟩:=i;generalize B:jc ev j=b at fK ⊢;have S:bE G cx I β (σ.minus [d]) w:=n.sub λx g a=>by rw[aFh]at a;split at a<;>first|cases a|exact a
 have aX:=S.pR (c7:=[d2]) (σ2:=(d2,.win aZ sz (xs.drop b.toNat))::σ.minus [d]) (env:=[]) ⟨λx a=>by rw[aFc,bw (λe=>a (by simp[e]))],λx a=>by simp at a;subst a;simpa using hi,rfl,R,λx a o h=>by simp at a;subst a;rw[aFc,bx rfl]at h;cases h;rfl⟩;have aW:∀x,x≠d2->gV β [d2] x=β x:=λx a=>by simp[gV,a]
 have C:=n.bY d _ W;simp only[bl]at C;have ax:∀(A:Option Addr) (m:Nat),v x=.slice A xs.length m->xs.length<=m->(execOp v o).run G.P w=.ok (.value (.slice (if m=b.toNat then A else A.map (·.add (b.toNat*sz))) (xs.length-b.toNat) (m-b.toNat))) w:=by
  intro A m aJ aT;have y:(Instr.sliceBounds true xs.length m (j.map v) none none).run G.P w=.ok (b.toNat,xs.length,m) w:=by
   cases j with
   |none=>
    simp only[jc]at B;subst B;simp[Instr.sliceBounds]
   |some l=>
    obtain⟨k,a4,D,L⟩:=tD aH (aw l (by simp[h,Op.operands]));simp only[jc,D]at B;subst B;have:=run_sliceBound (P:=G.P) (k:=k) (code:=.sliceB) (w:=w) fK;simp[Instr.sliceBounds,L,this]
  have z:∀w,(underlying T).run G.P w=.ok (.slice E) w:=λw=>ja Z.fz w;simp only[execOp,h,Instr.sliceAt,Instr.slice,aJ,fD,z,gQ,y,Z.size,jq,Option.map_none]
 have ar:∀(c:Value),(execOp v o).run G.P w=.ok (.value c) w->gU c=true->(∀f∈ct c,f∈ct (β d))->bl cx I (gA β d2 c) w d2 (.win aZ sz (xs.drop b.toNat))->
   jb G.P (λaN aR=>∃(aq:U) (t:ah) (M:a8) (Y:Nat->Value),(aq=.own d2/\t=(d2,b4.win aZ sz (xs.drop b.toNat))::σ.minus [d])/\aD M Y aq aN/\bE G cx M Y t aR/\b1 I M/\(∀x,x∉[d2]->Y x=β x)/\(∀x,x∉[d,d2]->t.get x=σ.get x)) ((execOp v o).run G.P w):=by
  intro c aC fB ak az;rw[aC];refine⟨.own d2,_,I,gA β d2 c,⟨rfl,rfl⟩,by simp only[aD,gb,fB,and_self],?_,b1.refl I,λx a=>gx β c (by simpa using a),λx a=>?_⟩
  .have N:∀x g,(σ.minus [d]).get x=some g->x≠d2/\kR [d2].contains g=false:=λx g a=>by
    obtain⟨K,J⟩:=aFi R x g a;exact⟨by simpa using K,J⟩
   have aG:∀x,[d2].contains x=false->gA β d2 c x=β x:=λx a=>gx β c (by simpa using a);refine{S with bY:=λx g a=>?_,cQ:=λx l a aa ab f=>?_,keep:=λx a=>?_}
   .rw[aFc]at a;split at a
    .rename_i e;subst e;cases a;exact az
    .obtain⟨K,J⟩:=aFi R x g a;exact(S.bY x g a).beta aG K J
   .have V:∀x,(ah.get ((d2,b4.win aZ sz (xs.drop b.toNat))::σ.minus [d]) x).isSome->x≠d2->(σ.get x).isSome/\x≠d:=λx a aI=>by
     rw[aFc,bw (et aI),aFh]at a;split at a
     .cases a
     .rename_i aL;exact⟨a,by simpa using aL⟩
    by_cases Q:x=d2
    .subst Q;have q:l≠x:=λe=>ab e.symm;obtain⟨H,O⟩:=V l aa q;rw[gb,gx β c q];intro y z;exact n.cQ l d H (by rw[W];rfl) O f z (ak f y)
    .obtain⟨H,O⟩:=V x a Q;rw[gx β c Q];by_cases q:l=d2
     .subst q;rw[gb];intro y z;exact n.cQ x d H (by rw[W];rfl) O f y (ak f z)
     .obtain⟨t1,t2⟩:=V l aa q;rw[gx β c q];exact n.cQ x l H t1 ab f
   .have:x≠d2:=λe=>by subst e;rw[<-mM]at hi;exact hi (by simpa using a)
    rw[gx β c this];exact n.keep x a
  .have a:x≠d/\x≠d2:=by simpa using a
   rw[aFc,bw (et a.2),aFh,bw (by simpa using a.1)]
 rcases C with X|⟨X,rfl⟩|⟨f,s,aY,ao,D,L,aU,ae,ay,aB,ag,aA,am⟩
 .rw[X]at i;rw[i]at aj;simp[gU]at aj
 .have aE:b=0:=by simp at fK;omega
  subst aE;refine ar _ (ax none 0 (by rw[i,X];rfl) (by simp)) rfl (by simp[ct,bR]) ?_;simp only[bl,gb];exact .inr (.inl ⟨by simp,by simp⟩)
 .have a2:b.toNat<=xs.length:=by omega
  refine ar _ (ax _ aY (by rw[i,D]) L) rfl ?_ ?_
  .intro aV F;rw[D];split at F
   .exact F
   .simp only[iS,i5]at F;exact F
  .simp only[bl,gb];have p:(xs.drop b.toNat).length=xs.length-b.toNat:=by simp
   refine .inr (.inr ?_);by_cases N:aY=b.toNat
   .have an:xs.drop b.toNat=[]:=zT (by omega);refine⟨f,s,aY-b.toNat,ao,by rw[bx N,p],by rw[p];omega,by omega,ae,λu=>by omega,by rw[an];trivial,by rw[an];simp,λu=>by omega,am⟩
   .refine⟨f,s+b.toNat*sz,aY-b.toNat,ao,?_,by rw[p];omega,by omega,ae,λu=>?_,Fi _ _ _ ag aB,λe aK=>ag e (wA aK),λu o C=>?_,am⟩
    .rw[bw N,p];simp[i5]
    .rw[p]at u;have:=ay (by omega);have e:s+b.toNat*sz+(aY-b.toNat)*sz=s+aY*sz:=by
      rw[mD,<-ha];congr 2;omega
     omega
    .rw[p]at u C;refine aA (by omega) o ?_;have e:s+b.toNat*sz+(xs.length-b.toNat)*sz=s+xs.length*sz:=by
      rw[mD,<-ha];congr 2;omega
     omega
def Km{I:a8}{b sz:Nat}:∀{xs ys:List (List U)} {o:Nat},(∀e∈xs,e.length=sz)->(fT I b (xs++ys) o↔fT I b xs o/\fT I b ys (o+xs.length*sz))
 |[],ys,o,_=>by simp[fT]
 |x::r,ys,o,h=>by
  simp only[l6,fT,fW];rw[Km (λe a=>h e (by simp[a])),h x (by simp),ha,qv,and_assoc,mD,Nat.add_comm sz]
def Ja{P:Program}(w:World)(t v e:TypeId)(i:TypeInfo)(n:P.underlying t=some (.slice e))(hi:P.info? e=some i)
  (g off b h:Nat) (d:ig) (p:w.heap[g]?=some (.cells d e (0,0)))
  (a:Addr) (m c:Nat) (news:hD) (l:news.length=m*i.size) (r:∀j f,news[j]?=some f->w.cell? (a.add j)=some f) (u:∀f∈news,f.oneCell'=true)
  (q:b+m<=h) (s:off+b*i.size+news.length<=d.size) :
  (Builtin.append_ #[t,t] v #[.slice (some ⟨g,off,none⟩) b h,.slice (some a) m c]).run P w =
   .ok (.slice (some ⟨g,off,none⟩) (b+m) h) (w.setRow g (d.toList.take (off+b*i.size)++news++d.toList.drop (off+b*i.size+news.length)).toArray):=by
 have o:=run_firstCells_some (P:=P) w i.size m a m c news l r;have k:=run_storeCells_at P g (off+b*i.size) e news 0 d w p (by simpa using s) u;simp only[Nat.add_zero]at k;simp[Builtin.append_,ja n,Go.sizeOf,typeInfo,hi,Builtin.lenOf,q,o,i5,k]
def D.ZL{s x:Operand}{T E sz bytes d d2 aZ:Nat}{f:Bool}{xs ys:List (List U)}(h:o.op=.call ⟨.builtin .append,#[s,x],#[T,T]⟩)(ca:ev s=.own d)(hd:σ.get d=some (.win aZ sz xs))(H:gp σ (ev x) (.bn f ys))(aw:DC G.P T E sz bytes)(cm:aZ=E)
  (bj:∀e∈ys,e.length=sz) (cW:ys.flatten.all U.one=true) (bs:(xs.length+ys.length)*bytes<=140737488355328) (b2:xs.length+ys.length<=maxLen) (hi:G.ids.contains d2=false)
  (cf:(σ.minus [d]).clean [d2].contains=true) :
  fO G o ev σ [d,d2] [d2] (λr aj=>r=.own d2/\aj=(d2,.win aZ sz (xs++ys))::σ.minus [d]):=by
 subst cm;intro cx I β w aC Y hop;have ae:=hop s (by simp[h,Op.operands,Call.operands]);rw[ca]at ae;simp only[aD]at ae;obtain⟨ae,bB⟩:=ae;have am:=H.rep Y _ (hop x (by simp[h,Op.operands,Call.operands]));simp only[aD,a1]at am;obtain⟨a,c,am,c2,c3,_,cy⟩:=am;obtain⟨i,z,aH,bG,aA,b0,cL⟩:=aw.info;have cv:∃O:hD,bP I ys.flatten O/\(ys.length=0\/∃ad:Addr,a=some ad/\∀j u,O[j]?=some u->w.cell? (ad.add j)=some u):=by
  rcases cy with rfl|⟨b,o,rfl,ak⟩
  .exact⟨[],rfl,.inl rfl⟩
  .obtain⟨vs,ax,aN⟩:=xZ Y.good ys o ak;exact⟨vs,ax,.inr ⟨_,rfl,λj u cY=>by rw[i5];exact aN j u cY⟩⟩
 obtain⟨O,aW,bh⟩:=cv;have aq:O.length=ys.length*sz:=by rw[jG _ _ aW];exact p4 ys bj
 have cG:=yA _ _ cW aW;have aV:xs.length+ys.length<=9223372036854775807:=by simp only[maxLen]at b2;omega
 have bT:bE G cx I β (σ.minus [d]) w:=Y.sub λx ay H=>by rw[aFh]at H;split at H<;>first|cases H|exact H
 have cp:=bT.pR (c7:=[d2]) (σ2:=(d2,.win aZ sz (xs++ys))::σ.minus [d]) (env:=[]) ⟨λx H=>by rw[aFc,bw (λe=>H (by simp[e]))],λx H=>by simp at H;subst H;simpa using hi,rfl,cf,λx H o h=>by simp at H;subst H;rw[aFc,bx rfl]at h;cases h;rfl⟩;have bc:∀x,x≠d2->gV β [d2] x=β x:=λx H=>by simp[gV,H]
 have a5:∀(ag:Value) (w':World) (b:Nat) (X:a8),(execOp aC o).run G.P w=.ok (.value ag) w'->gU ag=true->fR w w' b->Place cx b->(∀x,((σ.minus [d]).get x).isSome->b∉ct (β x))->
   b1 I X->(∀ab,ab≠b->∀o,X ab o=I ab o)->
   (∀(o:Nat) v,X b o=some v->w'.cell? ⟨b,o,none⟩=some v)->X b none=none->(bR ag=some b\/ct ag=[])->bl cx X (gA β d2 ag) w' d2 (.win aZ sz (xs++ys))->
   jb G.P (λv w'=>∃(bN:U) (aj:ah) (X:a8) (ar:Nat->Value),(bN=.own d2/\aj=(d2,b4.win aZ sz (xs++ys))::σ.minus [d])/\aD X ar bN v/\bE G cx X ar aj w'/\b1 I X/\(∀x,x∉[d2]->ar x=β x)/\(∀x,x∉[d,d2]->aj.get x=σ.get x)) ((execOp aC o).run G.P w):=by
  intro ag w' b X bb fB cX b9 aX bt ch cK cJ az cb;rw[bb];refine⟨.own d2,_,X,gA β d2 ag,⟨rfl,rfl⟩,by simp only[aD,gb,fB,and_self],?_,bt,λx H=>gx β ag (by simpa using H),λx H=>?_⟩
  .refine cp.turn (d:=d2) cX b9 (λ_ _=>rfl) (λx H aV e=>?_) bt ch cK cJ (λx H=>by rw[gx β ag H,bc x H]) (.inl (by simpa using hi)) (λx=>?_) (by rw[gb];exact az) (λay a2=>?_)
   .rw[aFc,bw (et H)]at aV;rw[bc x H]at e;exact aX x aV e
   .by_cases H:x=d2
    .left;simp[gV,H]
    .right;rw[gx β ag H,bc x H]
   .rw[aFc,bx rfl]at a2;injection a2 with a2
    subst a2;exact cb
  .have H:x≠d/\x≠d2:=by simpa using H
   rw[aFc,bw (et H.2),aFh,bw (by simpa using H.1)]
 have bJ:∀b,bR (β d)=some b->∀x,((σ.minus [d]).get x).isSome->b∉ct (β x):=λb az x H e=>by
  rw[aFh]at H;split at H
  .cases H
  .rename_i cj;exact Y.cQ x d H (by rw[hd];rfl) (by simpa using cj) b e (i4 az)
 have bZ:∀x,((σ.minus [d]).get x).isSome->w.heap.size∉ct (β x):=λx H e=>by
  obtain⟨ay,H⟩:=hZ.1 H;exact absurd (bT.rB H e) (by omega)
 have b3:∀old,old<xs.length+ys.length->xs.length+ys.length<=grownCap w (xs.length+ys.length) old aZ/\grownCap w (xs.length+ys.length) old aZ<=maxLen:=λold _=>⟨grownCap_ge _ _ _ _,v5 _ _ _ _ b2⟩;have cB:∀ay,fR w (w.drew.alloc ay) w.heap.size:=λay=>(fR.alloc w.drew ay).drew
 have b6:∀(Z:hD) (aY:Nat),bP I xs.flatten Z->Z.length=xs.length*sz->(∀e∈xs,e.length=sz)->xs.length+ys.length<=aY->aY<=maxLen->
   (execOp aC o).run G.P w=.ok (.value (.slice (some ⟨w.heap.size,0,none⟩) (xs.length+ys.length) aY)) (w.drew.alloc (.cells (Z.toArray++O.toArray++Builtin.zeroCells z.cells (aY-(xs.length+ys.length))) aZ))->
   jb G.P (λv w'=>∃(bN:U) (aj:ah) (X:a8) (ar:Nat->Value),(bN=.own d2/\aj=(d2,b4.win aZ sz (xs++ys))::σ.minus [d])/\aD X ar bN v/\bE G cx X ar aj w'/\b1 I X/\(∀x,x∉[d2]->ar x=β x)/\(∀x,x∉[d,d2]->aj.get x=σ.get x)) ((execOp aC o).run G.P w):=by
  intro Z aY ci bQ cN cI cw bb;have ce:(Z++O).length=(xs++ys).length*sz:=by rw[dF,dF,bQ,aq,ha]
  let X:a8:=I.on λb o=>if b=w.heap.size then(Z++O)[o]? else I b o
  have bt:b1 I X:=λb o v Q=>by
   cases o with
   |none=>exact Q
   |some o=>
   show(if b=w.heap.size then _ else I b o)=some v;split
   .rename_i e;subst e;rw[Y.ij (eb _)]at Q;cases Q
   .exact Q
  have bo:∀o:Nat,X w.heap.size o=(Z++O)[o]?:=λo=>by show(if _ then _ else _)=_;rw[bx rfl]
  have cO:(Z.toArray++O.toArray++Builtin.zeroCells z.cells (aY-(xs.length+ys.length))).toList=(Z++O)++(Builtin.zeroCells z.cells (aY-(xs.length+ys.length))).toList:=by simp
  refine a5 _ _ w.heap.size X bb rfl (cB _) (.inl Y.size) bZ bt (λab ba o=>by cases o with|none=>rfl|some o=>show(if _ then _ else _)=_;rw[bw ba]) (λo v Q=>?_) (Y.ij (eb _) none) (.inl rfl) ?_
  .rw[bo]at Q;have bi:=pf w.drew (.cells (Z.toArray++O.toArray++Builtin.zeroCells z.cells (aY-(xs.length+ys.length))) aZ);have bi:(w.drew.alloc (.cells (Z.toArray++O.toArray++Builtin.zeroCells z.cells (aY-(xs.length+ys.length))) aZ)).heap[w.heap.size]?=some (.cells (Z.toArray++O.toArray++Builtin.zeroCells z.cells (aY-(xs.length+ys.length))) aZ (0,0)):=bi;simp only[World.cell?,bi];have aL:=(k0.1 Q).1;have:((Z.toArray++O.toArray++Builtin.zeroCells z.cells (aY-(xs.length+ys.length))).toList)[o]?=some v:=by rw[cO,nu aL];exact Q
   rw[lH]at this;exact this
  .simp only[bl,gb];refine .inr (.inr ⟨w.heap.size,0,aY,_,by rw[dF],by rw[dF];exact cI,cw,pf w.drew _,λ_=>?_,?_,?_,λ_ o aB=>?_,.inl Y.size⟩)
   .simp only[ye,pe,size_zeroCells,cL,bQ,aq,<-ha];rw[hR];refine hp _ ?_;omega
   .refine uW _ 0 (Z++O) ?_ λj v Q=>by rw[hR,bo];exact Q
    rw[qC];exact k9 bt _ _ ((h8 _ _ _).2 ⟨_,_,rfl,ci,aW⟩)
   .intro e aa;rcases dG.1 aa with aa|aa
    .exact cN e aa
    .exact bj e aa
   .rw[bo,List.getElem?_eq_none];rw[ce];omega
 have aB:=Y.bY d _ hd;simp only[bl]at aB;rcases aB with q|⟨q,rfl⟩|⟨b,S,aY,arr,ax,aN,bv,ao,bz,a9,aG,bD,aU⟩
 .rw[q]at ae;rw[ae]at bB;simp[gU]at bB
 ·
  rcases vY ys.length with an|an
  .have a7:ys=[]:=mN an;subst a7;refine a5 (.slice none 0 0) w w.heap.size I (lQ h ?_) rfl ⟨λ_ _ _=>rfl,eb _,rfl,rfl,rfl,eb _⟩ (.inl Y.size) bZ (b1.refl I) (λ_ _ _=>rfl) (λo v Q=>by rw[Y.ij (eb _)]at Q;cases Q) (Y.ij (eb _) none) (.inr rfl) ?_
   .rw[ae,am,q];cases a<;>simp[Builtin.append_,ja aw.fz,Go.sizeOf,typeInfo,aH,Builtin.lenOf,Builtin.firstCells,loadCells,loadCellsFrom]
   .simp only[bl,gb];exact .inr (.inl ⟨trivial,rfl⟩)
  .obtain⟨ad,rfl,aI⟩:=bh.resolve_left (by omega);have ak:=run_append_nil (P:=G.P) w T o.type aZ i z aw.fz aH bG ad ys.length c O (by rw[aA];exact aq) aI an (by simp at aV;omega) (by simp at bs;rw[b0];omega);obtain⟨aT,aR⟩:=b3 0 (by simp;exact an);simp only[hP,hR]at aT aR;have:=b6 [] (grownCap w ys.length 0 aZ) rfl (by simp) (by simp) (by simpa using aT) aR;refine this ?_;have bH:=ak;rw[<-am,show(Value.slice none 0 0)=aC s by rw[ae,q]]at bH;have:=lQ h bH;simpa using this
 .have az:bR (β d)=some b:=by rw[ax];rfl
  by_cases be:xs.length+ys.length<=aY
  .rcases vY ys.length with an|an
   .have a7:ys=[]:=mN an;subst a7;refine a5 (.slice (some ⟨b,S,none⟩) xs.length aY) w b I (lQ h ?_) rfl ⟨λ_ _ _=>rfl,eb _,rfl,rfl,rfl,eb _⟩ aU (bJ b az) (b1.refl I) (λ_ _ _=>rfl) (λo v Q=>Y.good b o v Q) (Y.oQ ao) (.inl rfl) ?_
    .rw[ae,am,ax];cases a<;>simp[Builtin.append_,ja aw.fz,Go.sizeOf,typeInfo,aH,Builtin.lenOf,Builtin.firstCells,loadCells,loadCellsFrom,aN,storeCells]
    .simp only[bl,gb,l5];exact .inr (.inr ⟨b,S,aY,arr,rfl,aN,bv,ao,bz,a9,aG,bD,aU⟩)
   .obtain⟨ad,rfl,aI⟩:=bh.resolve_left (by omega);have aL:xs.length<aY:=by omega
    have cz:=bz aL;have bW:S+xs.length*i.size+O.length<=arr.size:=by
     rw[aA,aq,mD,<-ha];have:=hp sz be;omega
    have ak:=Ja (P:=G.P) w T o.type aZ i aw.fz aH b S xs.length aY arr ao ad ys.length c O (by rw[aA];exact aq) aI cG be bW;rw[aA]at ak bW;have bk:S+xs.length*sz<=arr.toList.length:=by simp only[kr];omega
    let X:a8:=I.on λab o=>if ab=b/\S+xs.length*sz<=o/\o<S+xs.length*sz+O.length then O[o-(S+xs.length*sz)]? else I ab o
    have aX:=bD aL
    have bt:b1 I X:=λab o v Q=>by
     cases o with
     |none=>exact Q
     |some o=>
     show(if ab=b/\_/\_ then _ else I ab o)=some v;split
     .rename_i e;obtain⟨cP,cV,_⟩:=e;subst cP;rw[aX o cV]at Q;cases Q
     .exact Q
    have cr:∀o,((arr.toList.take (S+xs.length*sz)++O++arr.toList.drop (S+xs.length*sz+O.length)).toArray)[o]?=if o<S+xs.length*sz then arr[o]? else if o<S+xs.length*sz+O.length then O[o-(S+xs.length*sz)]? else arr[o]?:=by
     intro o;have a4:(arr.toList.take (S+xs.length*sz)).length=S+xs.length*sz:=by rw[hg,o7 bk]
     rw[List.getElem?_toArray];by_cases aK:o<S+xs.length*sz
     .rw[bx aK,jt,nu (by omega),l8,bx aK,lH]
     .rw[bw aK];by_cases aJ:o<S+xs.length*sz+O.length
      .rw[bx aJ,nu (by rw[dF,a4];omega),pO (by omega),a4]
      .rw[bw aJ,pO (by rw[dF,a4];omega),dF,a4,wu,lH];congr 1;omega
    refine a5 _ _ b X (lQ h (by rw[ae,am,ax];exact ak)) rfl (fR.setRow w b _) aU (bJ b az) bt (λab ba o=>by cases o with|none=>rfl|some o=>show(if _ then _ else _)=_;rw[bw (λe=>ba e.1)]) (λo v Q=>?_) (Y.oQ ao) (.inl rfl) ?_
    .simp only[World.cell?,kf w b arr _ aZ _ ao];have:((arr.toList.take (S+xs.length*sz)++O++arr.toList.drop (S+xs.length*sz+O.length)).toArray)[o]?=some v:=by
      rw[cr]
      change (if b=b/\S+xs.length*sz<=o/\o<S+xs.length*sz+O.length then O[o-(S+xs.length*sz)]? else I b o)=some v at Q
      split at Q
      .rename_i e;rw[bw (by omega),bx e.2.2];exact Q
      .rename_i e;have aE:=Y.good b o v Q;simp only[World.cell?,ao]at aE;have aE:arr[o]?=some v:=by simpa using aE
       split
       .exact aE
       .split
        .rename_i aK aJ;exact absurd ⟨rfl,by omega,aJ⟩ e
        .exact aE
     simpa using this
    .simp only[bl,gb];refine .inr (.inr ⟨b,S,aY,_,by rw[dF],by rw[dF];exact be,bv,kf w b arr _ aZ _ ao,λ_=>?_,?_,?_,λcZ o aB=>?_,aU⟩)
     .have:(arr.toList.take (S+xs.length*sz)++O++arr.toList.drop (S+xs.length*sz+O.length)).length=arr.toList.length:=by
       simp only[dF,hg,l2];rw[o7 bk];simp only[kr]at bk ⊢;omega
      simp only[pe,this,kr];exact cz
     .rw[Km (λe aa=>aG e aa)];refine⟨Ff bt _ _ _ a9,?_⟩;refine uW ys _ O (k9 bt _ _ aW) λj v Q=>?_;have c0:=(k0.1 Q).1;show(if b=b/\_/\_ then _ else _)=_;rw[bx ⟨rfl,by omega,by omega⟩,show S+xs.length*sz+j-(S+xs.length*sz)=j by omega];exact Q
     .intro e aa;rcases dG.1 aa with aa|aa
      .exact aG e aa
      .exact bj e aa
     .rw[dF,ha]at aB;show(if b=b/\_/\_ then _ else _)=_;rw[bw (by rw[aq];omega)];exact aX o (by omega)
  ·
   have an:0<ys.length:=by omega
   obtain⟨ad,rfl,aI⟩:=bh.resolve_left (by omega);obtain⟨Z,bF,cd⟩:=xZ Y.good xs S a9;have bU:Z.length=xs.length*sz:=by rw[jG _ _ bF];exact p4 xs aG
   have ak:=run_append_grow (P:=G.P) w T o.type aZ i z aw.fz aH bG ⟨b,S,none⟩ xs.length aY Z (by rw[aA];exact bU) (λj v Q=>by rw[i5];exact cd j v Q) ad ys.length c O (by rw[aA];exact aq) aI (by omega) (by omega) (growslice_fits (by omega) (by rw[b0];exact bs));obtain⟨aT,aR⟩:=b3 aY (by omega);exact b6 _ _ bF bU aG aT aR (lQ h (by rw[ae,am,ax];exact ak))
def wg(d:Nat)(xs:List (List U))(ev:Operand->U)(x:Operand):U:=match ev x with
 |.own b=>bif Nat.beq b d then .bn false xs else .own b
 |a=>a
def Lk{d:Nat}{xs:List (List U)}{ev:Operand->U}{x:Operand}(h:ev x=.own d):wg d xs ev x=.bn false xs:=by simp[wg,h]
def W9{d:Nat}{xs:List (List U)}{ev:Operand->U}{x:Operand}{k:IntKind}{n:Int}(h:ev x=.int k n):wg d xs ev x=.int k n:=by simp[wg,h]
def Yields.win{G:bI}{o:Oper}{ev:Operand->U}{σ:ah}{bN:U}{d T sz:Nat}{xs:List (List U)}(hd:σ.get d=some (.win T sz xs))(h:Yields G o (wg d xs ev) σ [] [] bN):Yields G o ev σ [] [d] bN:=
 λX cx I β w Y Z Q ab hop=>h X cx I β w Y (λx O=>by cases O) Q ab λx O=>by
  have H:=hop x O;unfold wg;split
  .rename_i cA aa;rw[aa]at H;cases S:Nat.beq cA d with
   |false=>exact H
   |true=>
    have:=ek S;subst this;exact Q.win (by rw[Z _ (by simp)];exact hd) H
  .exact H
end win
def fu(w:World):a8:=λa o=>match o with
 |some o=>w.cell? ⟨a,o,none⟩
 |none=>match w.heap[a]? with
  |some (.map b clock)=>some (lY b clock)
  |_=>none
variable {w:World}
def yg(b:Nat)(o:Nat)(v:Value)(h:fu w b o=some v):w.cell? ⟨b,o,none⟩=some v:=h
def x9(b:Nat)(v:Value)(h:fu w b none=some v):∃es clock,w.heap[b]?=some (.map es clock)/\v=lY es clock:=by
 simp only[fu]at h;split at h
 .rename_i es clock a;cases h;exact⟨es,clock,a,rfl⟩
 .cases h
variable {I:a8}{cx:dz}{β:Nat->Value}
def bE.zi{G:bI}{σ:ah}(O:bE G cx I β σ w):b1 I (fu w):=λb o v H=>by
 cases o with
 |some o=>exact O.good b o v H
 |none=>
  obtain⟨es,clock,Q,rfl⟩:=O.fA b v H;simp only[fu,Q]
def bE.abn{G:bI}{σ:ah}(O:bE G cx I β σ w){b:Nat}{o:iG}{v:Value}(H:I b o=some v):b<w.heap.size:=by
 rcases Nat.lt_or_ge b w.heap.size with h|h
 .exact h
 .rw[O.ij h o]at H;cases H
end
section
section
abbrev zI0:Value:=.int .i64 0
abbrev zS0:Value:=.slice none 0 0
open Go Go.Proofs.Tryz
abbrev Qd(i:Nat)(c:List Value):Prop:=∀a,∃b,(zeroValue i).run prog a=.ok b a/\b.cells=c.toArray
def ul:prog.follows .mixedOrders=true:=by kernel_rfl
def RF(d e:Int)(b c:Int)(w:World):(Op.eqFields 9999 #[.int .i64 d,.int .i64 b] #[.int .i64 e,.int .i64 c] (prog.fieldsOf 49).toList).run prog w=.ok (decide (d=e)&&(decide (b=c)&&true)) w:=by
 have a:(prog.fieldsOf 49).toList.map (λf=>(f.name== "_",f.type,f.offset))=[(false,3,0),(false,3,1)]:=by kernel_rfl
 have k:(Op.eqFields 9999 #[.int .i64 d,.int .i64 b] #[.int .i64 e,.int .i64 c] (prog.fieldsOf 49).toList).run prog w=.ok (decide (d=e)&&(decide (b=c)&&true)) w:=by
  obtain⟨f0,t0,g,h,a⟩:=sN a;obtain⟨f1,t1,i,j,a⟩:=sN a;rw[g,i,FU a];exact s7 h isAgg3 underlying3 rfl rfl (s7 j isAgg3 underlying3 rfl rfl (GM))
 exact k
def XY(x y:Operand)(c d:Int)(a b:Int)(w:World):(do eqGuard .eql 49 x y (.agg #[.int .i64 c,.int .i64 a]) (.agg #[.int .i64 d,.int .i64 b]);binOp .eql 49 (.agg #[.int .i64 c,.int .i64 a]) (.agg #[.int .i64 d,.int .i64 b]):Sem Value).run prog w=.ok (.bool (decide (c=d)&&(decide (a=b)&&true))) w:=ZJ _ _ _ x y (by kernel_rfl) (by kernel_rfl) (by kernel_rfl) (RF c d a b w)
def abo(e g:Int)(b d:Int)(f c:Int)(w:World):(Op.eqFields 9999 #[.int .i64 e,.int .i64 b,.int .i64 f] #[.int .i64 g,.int .i64 d,.int .i64 c] (prog.fieldsOf 141).toList).run prog w=.ok (decide (e=g)&&(decide (b=d)&&(decide (f=c)&&true))) w:=by
 have a:(prog.fieldsOf 141).toList.map (λh=>(h.name== "_",h.type,h.offset))=[(false,3,0),(false,3,1),(false,3,2)]:=by kernel_rfl
 have o:(Op.eqFields 9999 #[.int .i64 e,.int .i64 b,.int .i64 f] #[.int .i64 g,.int .i64 d,.int .i64 c] (prog.fieldsOf 141).toList).run prog w=.ok (decide (e=g)&&(decide (b=d)&&(decide (f=c)&&true))) w:=by
  obtain⟨f0,t0,j,k,a⟩:=sN a;obtain⟨f1,t1,l,n,a⟩:=sN a;obtain⟨f2,t2,m,i,a⟩:=sN a;rw[j,l,m,FU a];exact s7 k isAgg3 underlying3 rfl rfl (s7 n isAgg3 underlying3 rfl rfl (s7 i isAgg3 underlying3 rfl rfl (GM)))
 exact o
def Xa(x y:Operand)(d f:Int)(a c:Int)(e b:Int)(w:World):(do eqGuard .neq 141 x y (.agg #[.int .i64 d,.int .i64 a,.int .i64 e]) (.agg #[.int .i64 f,.int .i64 c,.int .i64 b]);binOp .neq 141 (.agg #[.int .i64 d,.int .i64 a,.int .i64 e]) (.agg #[.int .i64 f,.int .i64 c,.int .i64 b]):Sem Value).run prog w=.ok (.bool (!(decide (d=f)&&(decide (a=c)&&(decide (e=b)&&true))))) w:=Nv _ _ _ x y (by kernel_rfl) (by kernel_rfl) (by kernel_rfl) (abo d f a c e b w)
def abp(e g:Int)(b d:Int)(f c:Int)(w:World):(Op.eqFields 9999 #[.int .i64 e,.int .i64 b,.int .i64 f] #[.int .i64 g,.int .i64 d,.int .i64 c] (prog.fieldsOf 185).toList).run prog w=.ok (decide (e=g)&&(decide (b=d)&&(decide (f=c)&&true))) w:=by
 have a:(prog.fieldsOf 185).toList.map (λh=>(h.name== "_",h.type,h.offset))=[(false,3,0),(false,3,1),(false,3,2)]:=by kernel_rfl
 have o:(Op.eqFields 9999 #[.int .i64 e,.int .i64 b,.int .i64 f] #[.int .i64 g,.int .i64 d,.int .i64 c] (prog.fieldsOf 185).toList).run prog w=.ok (decide (e=g)&&(decide (b=d)&&(decide (f=c)&&true))) w:=by
  obtain⟨f0,t0,j,k,a⟩:=sN a;obtain⟨f1,t1,l,n,a⟩:=sN a;obtain⟨f2,t2,m,i,a⟩:=sN a;rw[j,l,m,FU a];exact s7 k isAgg3 underlying3 rfl rfl (s7 n isAgg3 underlying3 rfl rfl (s7 i isAgg3 underlying3 rfl rfl (GM)))
 exact o
def Xb(x y:Operand)(d f:Int)(a c:Int)(e b:Int)(w:World):(do eqGuard .neq 185 x y (.agg #[.int .i64 d,.int .i64 a,.int .i64 e]) (.agg #[.int .i64 f,.int .i64 c,.int .i64 b]);binOp .neq 185 (.agg #[.int .i64 d,.int .i64 a,.int .i64 e]) (.agg #[.int .i64 f,.int .i64 c,.int .i64 b]):Sem Value).run prog w=.ok (.bool (!(decide (d=f)&&(decide (a=c)&&(decide (e=b)&&true))))) w:=Nv _ _ _ x y (by kernel_rfl) (by kernel_rfl) (by kernel_rfl) (abp d f a c e b w)
end
end
end Go.Proofs.YtemmkpdjmgafoaaGreatDoor
