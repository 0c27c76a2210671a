/- Several texts in one. No condition but those that stand in each. -/
import Derived.Test.YtmnbolcmepihlaaGreatAA
import Derived.Sort.Grow
import Derived.Laws.StructEq
import Derived.Test.YtmnbolcmepihlaaGreatRows
import Derived.OwnWalk
namespace Go.Proofs.YtmnbolcmepihlaaGreat
set_option linter.all false
open Go List
def ah.find:ah→Nat→Option Q
 |[],_=>none
 |(k,v)::r,n=>bif Nat.beq k n then some v else ah.find r n
def asM:∀{env:ah} {t:Nat} {a:Q},env.find t=some a→env.get t=a
 |[],_,_,h=>by simp[ah.find]at h
 |(k,v)::r,t,a,h=>by
  simp only[ah.find]at h;simp only[ah.get];cases hk:Nat.beq k t<;>rw[hk]at h
  ·exact asM (env:=r) h
  ·simpa using h
def ah.cW(env:ah):Operand→Option Q
 |.tmp t=>env.find t
 |.const (.int k n)=>some (.int k n)
 |.const (.bool b)=>some (.bool b)
 |.const (.string s)=>some (.str s)
 |.const (.slice none 0 0)=>some .c4
 |.const v=>some (l1 v)
 |.func f=>some (.fn f [])
 |.global _=>none
def asv{env:ah}{x:Operand}{a:Q}(h:env.cW x=some a):env.ev x=a:=by
 unfold ah.cW at h;split at h<;>first|exact asM h|(simp only[ah.ev,l1];simpa using h)|(simp only[ah.ev];simpa using h)|cases h
def ah.pn(env:ah):List Operand→Option (List Q)
 |[]=>some []
 |x::r=>match env.cW x with
  |none=>none
  |some a=>match ah.pn env r with
   |none=>none
   |some l=>some (a::l)
def asX{env:ah}:∀{xs:List Operand} {l:List Q},env.pn xs=some l→xs.map env.ev=l
 |[],l,h=>by simpa [ah.pn]using h
 |x::r,l,h=>by
  simp only[ah.pn]at h;cases h1:env.cW x with
  |none=>rw[h1]at h;cases h
  |some a=>
   rw[h1]at h;simp only at h;cases D:ah.pn env r with
   |none=>rw[D]at h;cases h
   |some gV=>
    rw[D]at h;simp only[Option.some.injEq]at h;subst h;simp[asv h1,asX D]
def ah.sZ(env:ah):List (Nat×Operand)→Option (List (Nat×Q))
 |[]=>some []
 |(i,x)::r=>match env.cW x with
  |none=>none
  |some a=>match ah.sZ env r with
   |none=>none
   |some l=>some ((i,a)::l)
def as1{env:ah}:∀{xs:List (Nat×Operand)} {l:List (Nat×Q)},env.sZ xs=some l→xs.map (λp=>(p.1,env.ev p.2))=l
 |[],l,h=>by simpa [ah.sZ]using h
 |(i,x)::r,l,h=>by
  simp only[ah.sZ]at h;cases h1:env.cW x with
  |none=>rw[h1]at h;cases h
  |some a=>
   rw[h1]at h;simp only at h;cases D:ah.sZ env r with
   |none=>rw[D]at h;cases h
   |some gV=>
    rw[D]at h;simp only[Option.some.injEq]at h;subst h;simp[asv h1,as1 D]
def el{α:Type}[Inhabited α](l:List α)(i:Int):α:=l.getD i.toNat default
def spine{α:Type}:List α→Option (List α)
 |[]=>some []
 |x::r=>match spine r with
  |none=>none
  |some l=>some (x::l)
def u3{α:Type}:∀{xs l:List α},spine xs=some l→xs=l
 |[],l,h=>by simpa [spine]using h
 |x::r,l,h=>by
  simp only[spine]at h;cases D:spine r with
  |none=>rw[D]at h;cases h
  |some gV=>
   rw[D]at h;simp only[Option.some.injEq]at h;rw[←h,u3 D]
def sO:Q→Option (List Q)
 |.agg cs=>spine cs
 |a=>some [a]
def BC{a:Q}{cs:List Q}(h:sO a=some cs):pI a=cs:=by
 unfold sO at h;split at h
 ·exact u3 h
 ·rename_i cb;simp only[Option.some.injEq]at h;rw[←h];cases a<;>first|rfl|exact absurd rfl (cb _)
def pe(dG:Bool)(n:Nat)(cs:List Q):Option Q:=
 match dG with
 |true=>match spine (cs.take n)with
  |none=>none
  |some l=>some (.agg l)
 |false=>match cs with
  |[]=>none
  |x::_=>some x
def Fk{dG:Bool}{n:Nat}{cs:List Q}{a:Q}(h:pe dG n cs=some a):pg dG n cs=a:=by
 cases dG with
 |true=>
  simp only[pe]at h;cases D:spine (cs.take n)with
  |none=>rw[D]at h;cases h
  |some l=>
   rw[D]at h;simp only[Option.some.injEq]at h;rw[←h,←u3 D];rfl
 |false=>
  cases cs with
  |nil=>simp[pe]at h
  |cons x r=>simp only[pe,Option.some.injEq]at h;rw[←h];rfl
def zZ(fG:List (Nat×Nat))(cells:List Q):List (Nat×Q)→Option (List Q)
 |[]=>spine cells
 |(i,a)::ij=>match fG[i]? with
  |none=>none
  |some (off,size)=>match sO a with
   |none=>none
   |some ca=>bif Nat.beq ca.length size&&Nat.ble (off+ca.length) cells.length&&a.flat then
     (match spine (iZ cells off ca)with
     |none=>none
     |some l=>zZ fG l ij)else none
def Qg(fG:List (Nat×Nat)):∀{parts:List (Nat×Q)} {cells cL:List Q},zZ fG cells parts=some cL→x5 fG cells parts=some cL
 |[],cells,cL,h=>by simp only[zZ]at h;simp only[x5];rw[u3 h]
 |(i,a)::ij,cells,cL,h=>by
  simp only[zZ]at h;simp only[x5];cases aC:fG[i]? with
  |none=>rw[aC]at h;cases h
  |some os=>
   obtain⟨off,size⟩:=os;rw[aC]at h;simp only at h ⊢;cases af:sO a with
   |none=>rw[af]at h;cases h
   |some ca=>
    rw[af]at h;simp only at h;rw[BC af];cases U:(Nat.beq ca.length size&&Nat.ble (off+ca.length) cells.length&&a.flat)with
    |false=>rw[U]at h;simp at h
    |true=>
     rw[U]at h;simp only[cond_true]at h ⊢;cases X:spine (iZ cells off ca)with
     |none=>rw[X]at h;cases h
     |some l=>
      rw[X]at h;simp only at h;rw[u3 X];exact Qg fG h
def v2(sz:Nat):Nat→List (Nat×Q)→Option (List (List Q))
 |_,[]=>some []
 |k,(i,a)::r=>match sO a with
  |none=>none
  |some ca=>bif Nat.beq i k&&Nat.beq ca.length sz&&a.flat then
    (match v2 sz (k+1) r with
    |none=>none
    |some l=>some (ca::l))else none
def EG(sz:Nat):∀{parts:List (Nat×Q)} {k:Nat} {cL:List (List Q)},v2 sz k parts=some cL→u6 sz k parts=some cL
 |[],k,cL,h=>by simpa [v2,u6]using h
 |(i,a)::r,k,cL,h=>by
  simp only[v2]at h;simp only[u6];cases af:sO a with
  |none=>rw[af]at h;cases h
  |some ca=>
   rw[af]at h;simp only at h;rw[BC af];cases U:(Nat.beq i k&&Nat.beq ca.length sz&&a.flat)with
   |false=>rw[U]at h;simp at h
   |true=>
    rw[U]at h;simp only[cond_true]at h ⊢;cases bm:v2 sz (k+1) r with
    |none=>rw[bm]at h;cases h
    |some l=>
     rw[bm]at h;simp only[Option.some.injEq]at h;rw[EG sz bm,←h];rfl
def r5(σ:Y):Y→Prop
 |[]=>True
 |(d,o)::r=>σ.get d=some o∧r5 σ r
def r5.mem{σ:Y}:∀{σ2:Y},r5 σ σ2→∀p∈σ2,σ.get p.1=some p.2
 |[],_,p,h=>by simp at h
 |(d,o)::r,h,p,aC=>by
  rcases mem_cons.1 aC with rfl|aC
  ·exact h.1
  ·exact r5.mem h.2 p aC
def xR(σ:Y)(env:ah):ah→Prop
 |[]=>True
 |(k,v)::r=>iw σ (env.get k) v∧xR σ env r
def xR.mem{σ:Y}{env:ah}:∀{dB:ah},xR σ env dB→∀p∈dB,iw σ (env.get p.1) p.2
 |[],_,p,h=>by simp at h
 |(d,o)::r,h,p,aC=>by
  rcases mem_cons.1 aC with rfl|aC
  ·exact h.1
  ·exact xR.mem h.2 p aC
def Ja(env:ah):ah→Prop
 |[]=>True
 |(k,v)::r=>env.find k=some v∧Ja env r
def auP{σ:Y}{env:ah}:∀{dB:ah},Ja env dB→xR σ env dB
 |[],_=>trivial
 |(k,v)::r,h=>⟨by rw[asM h.1];exact .refl _,auP h.2⟩
def iw.of_eq{σ:Y}{a b:Q}(h:a=b):iw σ a b:=by subst h;exact .refl _
def cr.back{G:ch}{env dB:ah}{σ σ2:Y}(r s:Nat→Nat)(he:xR σ env (dB.cN s))(X:r5 σ (σ2.cN s))(jv:zV r s G.ids (dB.cN s) (σ2.cN s)=true)(h1:(dB.cN s).cN r=dB)(D:(σ2.cN s).cN r=σ2):cr G env σ dB σ2:=by
 have:=(cr.drop (G:=G) he.mem X.mem).trans (cr.cN r s jv)
 rwa [h1,D]at this
section rules
variable {G:ch}{env:ah}{σ:Y}{bq:Exit→ah→Y→Prop}{x y c:Code}
def atq{dB:ah}{σ2:Y}(he:xR σ env dB)(X:r5 σ σ2):cr G env σ dB σ2:=cr.drop he.mem X.mem
end rules
section steps
variable {G:ch}{ops:l7}{s:mx}{log:List (Nat×dg)}{i:Nat}{l:dg}{env:ah}{σ:Y}{K:ah→Y→Prop}{o:Oper}{bN:Q}
end steps
section ops
variable {G:ch}{o:Oper}{env:ah}{σ:Y}{a:Q}
def b7.move{x:Operand}(h:o.op=.move x)(u:env.cW x=some a):Yields G o env.ev σ [] [] a:=by rw[←asv u];exact bK.move h
def b7.assign{x:Operand}(h:o.op=.assign x)(u:env.cW x=some a):Yields G o env.ev σ [] [] a:=by rw[←asv u];exact bK.assign h
def b7.J6{c x y:Operand}{p:Bool}(h:o.op=.pick c x y)(af:env.ev c=.bool p)(aC:p=true)(u:env.cW x=some a):Yields G o env.ev σ [] [] a:=by rw[←asv u];exact atF h af aC
def b7.J7{c x y:Operand}{p:Bool}(h:o.op=.pick c x y)(af:env.ev c=.bool p)(aC:p=false)(u:env.cW y=some a):Yields G o env.ev σ [] [] a:=by rw[←asv u];exact atG h af aC
def b7.alloc{T d:Nat}{zs:dZ}{cs:List Q}(h:o.op=.alloc T)(hz:∀w,∃z,(zeroValue T).run G.P w=.ok z w∧z.cells=zs.toArray)(af:rU zs=cs)(hi:G.ids.contains d=false):
  Yields G o env.ev ((d,.cells T cs)::σ) [d] [d] (.ptr d 0):=by subst af;exact bK.alloc h hz hi
def b7.box{T d:Nat}{x:Operand}{cs:List Q}(h:o.op=.box T x)(u:env.cW x=some a)(bm:a.flat=true)(af:sO a=some cs)(aB:a.refs (Nat.beq d)=false)(hi:G.ids.contains d=false):
  Yields G o env.ev ((d,.cells T cs)::σ) [d] [d] (.ptr d 0):=bK.box h (asv u) bm (BC af) aB hi
def auQ{T aV:TypeId}{x:Operand}{n d p:Nat}{dG:Bool}{cs:List Q}(h:o.op=.load T x)(u:env.ev x=.ptr d p)(aQ:dL G.P T n dG)(Z:σ.get d=some (.cells aV cs))(bM:(dG||Nat.blt 0 n)=true)(aR:Nat.ble (p+n) cs.length=true)(ay:pe dG n (cs.drop p)=some a):
  Yields G o env.ev σ [] [d] a:=by rw[←Fk ay];exact auT h u Z aQ bM aR
def auR{T:TypeId}{x:Operand}{n:Nat}{dG:Bool}{cs:List Q}(h:o.op=.load T x)(u:env.ev x=.fO cs)(aQ:dL G.P T n dG)(bM:(dG||Nat.blt 0 n)=true)(aR:Nat.ble n cs.length=true)(ay:pe dG n cs=some a):
  Yields G o env.ev σ [] [] a:=by rw[←Fk ay];exact auU h u aQ bM aR
def b7.build{T:TypeId}{parts:Array (Nat×Operand)}{zs:dZ}{fG:List (Nat×Nat)}{ps:List (Nat×Q)}{cs:List Q}(h:o.op=.build T parts)(aQ:kE G.P T zs fG)(aC:env.sZ parts.toList=some ps)
  (bm:zZ fG (rU zs) ps=some cs):Yields G o env.ev σ [] [] (.agg cs):=bK.build h aQ (by rw[as1 aC];exact Qg fG bm)
def b7.buildSlice{T E sz len:Nat}{parts:Array (Nat×Operand)}{zs:dZ}{ps:List (Nat×Q)}{xs:List (List Q)}(h:o.op=.buildSlice T len parts)(aQ:ml G.P T E sz zs)(aH:parts.size=len)(X:(Nat.ble (len*sz) 65536&&Nat.ble len 65536)=true)
  (aC:env.sZ parts.toList=some ps) (bm:v2 sz 0 ps=some xs) (af:lT xs.flatten=true):Yields G o env.ev σ [] [] (.bf true xs):=
 bK.buildSlice h aQ aH (by simpa using X) (by rw[as1 aC];exact EG sz bm) af
def b7.makeFunc{f:FuncId}{aO:Array Operand}{l:List Q}(h:o.op=.makeFunc (.func f) #[] aO)(aH:env.pn aO.toList=some l):Yields G o env.ev σ [] [] (.fn f l):=by
 rw[←asX aH];exact bK.makeFunc h
def b7.field{T f off n:Nat}{dG:Bool}{x:Operand}{cs:List Q}(h:o.op=.field T x f)(u:env.ev x=.agg cs)(aQ:gH G.P T f off n dG)(aR:Nat.ble (off+n) cs.length=true)(ay:pe dG n (cs.drop off)=some a):Yields G o env.ev σ [] [] a:=by
 rw[←Fk ay];exact bK.field h u aQ aR
def b7.call{gO:Operand}{args:Array Operand}{k:Array TypeId}{f:FuncId}{aO dx ps:List Q}{σs dk:Y}{r:Q}(h:o.op=.call ⟨.value gO,args,k⟩)(bm:env.ev gO=.fn f aO)
  (o7:∀(args:iY) (w:World),(callFunc f args).run G.P w=.ok (.enter f args) w) (cM:dT G.P f dk dx r) (aC:env.pn args.toList=some ps) (ay:jE σs (ps++aO) dx) (X:r5 σ σs) (af:r5 σs dk)
  (aB:r.closed=true) (tJ:dk.clean (λd=>!(dk.ids++[]).contains d)=true):Yields G o env.ev σ [] σs.ids r:=
 bK.call h bm o7 X.mem (by rw[asX aC];exact ay) af.mem cM aB tJ
def atn{gO:Operand}{args:Array Operand}{k:Array TypeId}{f:FuncId}{aO dx ps:List Q}{dk:Y}{hL:Q→Y→Prop}(news:dg)(h:o.op=.call ⟨.value gO,args,k⟩)(bm:env.ev gO=.fn f aO)
  (o7:∀(args:iY) (w:World),(callFunc f args).run G.P w=.ok (.enter f args) w) (cM:eP G.P f dk dx hL) (aC:env.pn args.toList=some ps) (ay:jE σ (ps++aO) dx) (X:r5 σ dk)
  (aR:news.all (λd=>!G.ids.contains d&&(σ.get d).isNone)=true) (hX:(σ.minus dk.ids).clean news.contains=true)
  (jv:∀r σ2,hL r σ2→r.refs (λd=>!(dk.ids++news).contains d)=false∧σ2.clean (λd=>!(dk.ids++news).contains d)=true) :
  h5 G o env.ev σ (dk.ids++news) news (λr az=>∃σ2,hL r σ2∧az=σ2++σ.minus dk.ids):=
 ej.call news h bm o7 X.mem (by rw[asX aC];exact ay) cM aR hX jv
def auS{T aV d p n:Nat}{dG:Bool}{x y:Operand}{cs ca ow:List Q}(h:o.op=.store T x y)(u:env.ev x=.ptr d p)(aQ:dL G.P T n dG)(ag:env.cW y=some a)(Z:σ.get d=some (.cells aV cs))
  (bm:a.flat=true) (xo:sO a=some ca) (aR:Nat.beq ca.length n=true) (aH:Nat.ble (p+n) cs.length=true) (X:spine (iZ cs p ca)=some ow) :
  h5 G o env.ev σ [d] [] (λr az=>r=.undef∧az=σ.set d (.cells aV ow)):=by
 rw[←u3 X,←BC xo];exact au5 h u (asv ag) Z aQ.size bm (by rw[BC xo];simpa using aR) (by simpa using aH)
def OO{n:Int}(h1 : -9223372036854775808≤n)(D:n≤9223372036854775807):u1 .i64 n:=by
 unfold u1;rw[IntKind.wrap_i64];omega
def JF.tmp{t:Nat}{a:Q}(h:env.find t=some a):qv G env σ (.tmp t) a:=by rw[←asM h];exact .tmp t
def JF.cell{a T d aV n:Nat}{dG:Bool}{cs:List Q}{r:Q}(aQ:dL G.P T n dG)(ay:env.get a=.ptr d 0)(Z:σ.get d=some (.cells aV cs))(aR:Nat.beq cs.length n=true)(bM:(dG||Nat.blt 0 n)=true)(aB:pe dG n cs=some r):qv G env σ (.cell a T) r:=by
 rw[←Fk aB];exact .cell a T d aV n dG cs ay Z aQ (by simpa using aR) (λe=>by subst e;simpa using bM)
end ops
end Go.Proofs.YtmnbolcmepihlaaGreat
namespace Go.Proofs.YtmnbolcmepihlaaGreat
set_option linter.all false
open Go List
def jE.refl(σ:Y):∀l:List Q,jE σ l l
 |[]=>.nil
 |x::r=>.cons (.refl x) (jE.refl σ r)
def atl:∀σ:Y,σ.freeze []=σ
 |[]=>rfl
 |(d,o)::r=>by simp[Y.freeze,atl r]
section
variable {G:ch}{env:ah}{σ iq:Y}{o:Oper}{ev:Operand→Q}
def b7.convert{T aV:TypeId}{x:Operand}{k dS:IntKind}{n:Int}(h:o.op=.convert T aV x)(u:ev x=.int k n)(aQ:∃d,G.P.underlying T=some d)(DM:G.P.underlying aV=some (.int dS))(aR:u1 dS n):Yields G o ev σ [] [] (.int dS n):=by
 have:=bK.convert (G:=G) (σ:=σ) (ev:=ev) h u aQ DM
 rwa [show dS.wrap n=n from aR]at this
def b7.shr{T aV:TypeId}{x y:Operand}{k dS:IntKind}{m n:Int}(h:o.op=.binOp .shr T x y aV)(u:ev x=.int k m)(ag:ev y=.int dS n)(aR:0≤n∧n<k.bits):Yields G o ev σ [] [] (.int k (m / 2 ^ n.toNat)):=by
 have:=bK.shift (G:=G) (σ:=σ) (ev:=ev) (.inr rfl) h u ag aR.1;simp only at this;rw[Nat.min_eq_left (by omega),Int.fdiv_eq_ediv_of_nonneg _ (Int.le_of_lt (Int.pow_pos (by decide)))]at this;exact this
def aaT{n:Int}(h1:0≤n)(D:n≤18446744073709551615):u1 .u64 n:=by
 unfold u1;simp only[IntKind.wrap,IntKind.bits,IntKind.signed];simp;omega
end
end Go.Proofs.YtmnbolcmepihlaaGreat
namespace Go.Proofs.YtmnbolcmepihlaaGreat
set_option linter.all false
open Go List
def aD{α:Type}(l:List (Int×α))(n:Int):Option α:=(l.find? λp=>decide (p.1=n)).map (·.2)
def bG{α:Type}:List (Int×α)→Int→α→List (Int×α)
 |[],n,v=>[(n,v)]
 |p::r,n,v=>if p.1=n then(n,v)::r else p::bG r n v
def bQ{α:Type}(k:IntKind)(enc:α→Q)(l:List (Int×α)):List (Q×Q):=l.map λp=>(.int k p.1,enc p.2)
def EC{I:bs}{α:Type}{k:IntKind}{enc:α→Q}(n:Int):∀(l:List (Int×α)) (es:nM) (i:Nat) (a:α),gq I (bQ k enc l) es→aD l n=some a→
  ∃j v,Instr.findNow (.int k) (.int k n) es i=some (some (i+j,v))∧bc I (enc a) v∧∃e,es[j]?=some e∧e.key=.int k n∧
   ∀(b:α) (aA:Value) (jx:MapEntry→MapEntry),bc I (enc b) aA→(∀e,(jx e).key=.int k n∧(jx e).val=aA)→gq I (bQ k enc (bG l n b)) (es.modify j jx)
 |[],es,i,a,h,bu=>by simp[aD]at bu
 |(m,b)::r,es,i,a,h,bu=>by
  simp only[bQ,map_cons,gq]at h;obtain⟨e,bI,rfl,h1,D,aj⟩:=h;simp only[bc]at h1;by_cases hm:m=n
  ·subst hm;simp only[aD,List.find?,decide_true,Option.map_some,Option.some.injEq]at bu;subst bu;refine⟨0,e.val,?_,D,e,rfl,h1,?_⟩
   ·simp[Instr.findNow,Instr.sameNow,h1]
   ·intro c aA jx hu hk;simp only[bG,if_pos,bQ,map_cons,gq,modify_zero_cons];exact⟨jx e,bI,rfl,by simp only[bc];exact(hk e).1,by rw[(hk e).2];exact hu,aj⟩
  ·have yV:aD r n=some a:=by simpa [aD,List.find?,hm]using bu
   obtain⟨j,v,ak,ar,cB,aM,aK,be⟩:=EC n r bI (i+1) a aj yV;refine⟨j+1,v,?_,ar,cB,by simpa using aM,aK,?_⟩
   ·simp only[Instr.findNow,Instr.sameNow,h1,if_pos];have:(n==m)=false:=by simpa using λe=>hm e.symm
    rw[this];simp only;rw[ak];simp[Nat.add_assoc,Nat.add_comm 1 j]
   ·intro c aA jx hu hk;simp only[bG,if_neg hm,bQ,map_cons,gq,modify_succ_cons];exact⟨e,_,rfl,by simp only[bc];exact h1,D,be c aA jx hu hk⟩
def ED{I:bs}{α:Type}{k:IntKind}{enc:α→Q}(n:Int):∀(l:List (Int×α)) (es:nM) (i:Nat),gq I (bQ k enc l) es→aD l n=none→
  Instr.findNow (.int k) (.int k n) es i=some none∧∀(b:α) (e:MapEntry),bc I (enc b) e.val→e.key=.int k n→gq I (bQ k enc (bG l n b)) (es++[e])
 |[],es,i,h,bu=>by
  simp only[bQ,map_nil,gq]at h;subst h;refine⟨rfl,λb e U hk=>?_⟩;simp only[bG,bQ,map_cons,map_nil,gq,nil_append];exact⟨e,[],rfl,by simp only[bc];exact hk,U,rfl⟩
 |(m,c)::r,es,i,h,bu=>by
  simp only[bQ,map_cons,gq]at h;obtain⟨e,bI,rfl,h1,D,aj⟩:=h;simp only[bc]at h1;have hm:m≠n:=λhm=>by subst hm;simp[aD,List.find?]at bu
  have yV:aD r n=none:=by simpa [aD,List.find?,hm]using bu
  obtain⟨ak,ar⟩:=ED n r bI (i+1) aj yV;refine⟨?_,λb cB U hk=>?_⟩
  ·simp only[Instr.findNow,Instr.sameNow,h1,if_pos];have:(n==m)=false:=by simpa using λe=>hm e.symm
   rw[this];exact ak
  ·simp only[bG,if_neg hm,bQ,map_cons,gq,cons_append];exact⟨e,_,rfl,by simp only[bc];exact h1,D,ar b cB U hk⟩
def Nb{I:bs}:∀(l:List (Q×Q)) (es:nM),gq I l es→es.length=l.length
 |[],es,h=>by simp only[gq]at h;subst h;rfl
 |(k,v)::r,es,h=>by
  simp only[gq]at h;obtain⟨e,bI,rfl,_,_,aj⟩:=h;simp[Nb r bI aj]
structure kF(P:Program)(T K E:TypeId)(k:IntKind):Prop where
 gY:P.underlying T=some (.map K E)
 key:P.underlying K=some (.int k)
section
variable {G:ch}{σ:Y}{o:Oper}{ev:Operand→Q}
def bK.makeMap{T d:Nat}{K E:TypeId}(h:o.op=.makeMap T none)(hi:G.ids.contains d=false):Yields G o ev ((d,.map K E [])::σ) [d] [d] (.dr d):=by
 intro az cx I β w aZ cf an hm hop;have eY:(execOp aZ o).run G.P w=.ok (.value (.map (some w.heap.size))) (w.alloc (.map #[] 0)):=by
  simp[execOp,h,Instr.makeMap]
 rw[eY];have lF:=hm d (by simp);refine⟨I,g7 β d (.map (some w.heap.size)),by simp only[au];exact⟨by rw[gL],rfl⟩,?_,cn.refl I,λx u=>g5 β _ (λe=>u (by simp[e]))⟩;refine an.real (by simpa using hi) lF rfl λaX cC=>?_;rw[cf d (by simp),asw,if_pos rfl]at cC;injection cC with cC
 subst cC;simp only[aY,gL];exact .inr ⟨w.heap.size,#[],0,rfl,heap_alloc_new w _,rfl,λo=>an.iF (Nat.le_refl _) o,.inl an.size,by simp[jZ]⟩
def No{G:ch}{cx:eW}{I:bs}{β:Nat→Value}{σ:Y}{w:World}(an:bY G cx I β σ w){d:Nat}{K E:TypeId}{bH:List (Q×Q)}(Z:σ.get d=some (.map K E bH)){v:Value}(aa:au I β (.dr d) v):
  ∃r es clock,v=.map (some r)∧β d=.map (some r)∧w.heap[r]?=some (.map es clock)∧gq I bH es.toList∧(∀o,I r o=none)∧Place cx r∧jZ es clock:=by
 simp only[au]at aa;obtain⟨rfl,aa⟩:=aa;have:=an.cw d _ Z;simp only[aY]at this;rcases this with q|⟨r,es,clock,ak,ar,aM,aK,be⟩
 ·rw[q]at aa;simp[mJ]at aa
 ·exact⟨r,es,clock,ak,ak,ar,aM,aK,be⟩
def xD{P:Program}{w:World}{r:Nat}{es:iT}{c:Nat}(h:w.heap[r]?=some (.map es c)):(getObj r).run P w=.ok (.map es c) w:=by simp[getObj,Sem.run,h]
def Bk{P:Program}{K:TypeId}{k:IntKind}(h8:P.underlying K=some (.int k))(e:Bool)(n:Int)(w:World):(Instr.checkKey e 10000 K (.int k n)).run P w=.ok () w:=by
 have aJ:∀w,(underlying K).run P w=.ok (.int k) w:=λw=>by simp[underlying,program,Sem.run,h8]
 rw[Instr.checkKey];simp[aJ]
def Fl(I:bs)(w:World)(v:Value)(bH:List (Q×Q)):Prop:=∃r es clock,v=.map (some r)∧w.heap[r]?=some (.map es clock)∧gq I bH es.toList
def WZ{G:ch}{cx:eW}{I:bs}{β:Nat→Value}{σ:Y}{w:World}(an:bY G cx I β σ w){d:Nat}{K E:TypeId}{bH:List (Q×Q)}(Z:σ.get d=some (.map K E bH)){v:Value}(aa:au I β (.dr d) v):Fl I w v bH:=by
 obtain⟨r,es,clock,nk,_,ar,aM,_⟩:=No an Z aa;exact⟨r,es,clock,nk,ar,aM⟩
def ZL{G:ch}{cx:eW}{I:bs}{β:Nat→Value}{σ:Y}{w:World}(an:bY G cx I β σ w){d:Nat}{es:iT}{clock:Nat}{K E:TypeId}{bH:List (Q×Q)}(Z:σ.get d=some (.gz es clock K E bH)){v:Value}(aa:au I β (.dr d) v):Fl I w v bH:=by
 simp only[au]at aa;obtain⟨rfl,aa⟩:=aa;have:=an.cw d _ Z;simp only[aY]at this;rcases this with q|⟨r,ak,ar,aM,_⟩
 ·rw[q]at aa;simp[mJ]at aa
 ·exact⟨r,es,clock,ak,ar,aM⟩
def Qh{G:ch}{cx:eW}{I:bs}{β:Nat→Value}{σ:Y}{w:World}(an:bY G cx I β σ w){bH:List (Q×Q)}{v:Value}(aa:au I β (.dw bH) v):Fl I w v bH:=by
 simp only[au,bc]at aa;obtain⟨r,es,clock,rfl,D,aj,_⟩:=aa;obtain⟨hO,mR,a1,bU⟩:=an.hM r _ D;obtain⟨rfl,rfl⟩:=EL bU;exact⟨r,es,clock,rfl,a1,aj⟩
def Np{α:Type}{I:bs}{β:Nat→Value}{w:World}{aZ:Operand→Value}{T K E:Nat}{k:IntKind}{x y:Operand}{ok:Bool}{n:Int}(l:List (Int×α))(enc:α→Q)(z:α)(h:o.op=.lookup T x y ok)(h1:Fl I w (aZ x) (bQ k enc l))(D:aZ y=.int k n)
  (aQ:kF G.P T K E k) (hz:∀w,∃v,(zeroValue E).run G.P w=.ok v w∧∀I,bc I (enc z) v) :
  ∃v,(execOp aZ o).run G.P w=.ok (.value v) w∧au I β (bif ok then .cI [enc ((aD l n).getD z),.bool (aD l n).isSome]else enc ((aD l n).getD z)) v:=by
 obtain⟨r,es,clock,nk,ar,aM⟩:=h1;have aJ:∀w,(underlying T).run G.P w=.ok (.map K E) w:=λw=>by simp[underlying,program,Sem.run,aQ.gY]
 have e2:∀w,(underlying K).run G.P w=.ok (.int k) w:=λw=>by simp[underlying,program,Sem.run,aQ.key]
 have dm:=xD (P:=G.P) ar;have gb:=Bk (P:=G.P) aQ.key (es.isEmpty) n w;cases bu:aD l n with
 |none=>
  obtain⟨cQ,_⟩:=ED n l es.toList 0 aM bu;obtain⟨v,np,qD⟩:=hz w;have gU:(Instr.findKey K (.int k n) es.toList).run G.P w=.ok none w:=by simp[Instr.findKey,e2,cQ]
  cases ok with
  |true=>
   refine⟨.tuple #[v,.bool false],by simp[execOp,h,Instr.lookup,nk,D,aJ,dm,gb,gU,np],?_⟩;simp only[cond_true,au,bW];exact⟨_,rfl,v,[.bool false],rfl,bc.rep β _ _ (qD I),.bool false,[],rfl,by simp[bc],rfl⟩
  |false=>
   refine⟨v,by simp[execOp,h,Instr.lookup,nk,D,aJ,dm,gb,gU,np],?_⟩;simp only[cond_false];exact bc.rep β _ _ (qD I)
 |some a=>
  obtain⟨j,v,cQ,dM,_⟩:=EC n l es.toList 0 a aM bu;have gU:(Instr.findKey K (.int k n) es.toList).run G.P w=.ok (some (0+j,v)) w:=by simp[Instr.findKey,e2,cQ]
  cases ok with
  |true=>
   refine⟨.tuple #[v,.bool true],by simp[execOp,h,Instr.lookup,nk,D,aJ,dm,gb,gU],?_⟩;simp only[cond_true,au,bW];exact⟨_,rfl,v,[.bool true],rfl,bc.rep β _ _ dM,.bool true,[],rfl,by simp[bc],rfl⟩
  |false=>
   refine⟨v,by simp[execOp,h,Instr.lookup,nk,D,aJ,dm,gb,gU],?_⟩;simp only[cond_false];exact bc.rep β _ _ dM
def bK.lookup{α:Type}{T K E d:Nat}{k:IntKind}{x y:Operand}{ok:Bool}{n:Int}(l:List (Int×α))(enc:α→Q)(z:α)(h:o.op=.lookup T x y ok)(u:ev x=.dr d)(ag:ev y=.int k n)(Z:σ.get d=some (.map K E (bQ k enc l)))
  (aQ:kF G.P T K E k) (hz:∀w,∃v,(zeroValue E).run G.P w=.ok v w∧∀I,bc I (enc z) v) :
  Yields G o ev σ [] [d] (bif ok then .cI [enc ((aD l n).getD z),.bool (aD l n).isSome]else enc ((aD l n).getD z)):=
 .pure λaz cx I β w aZ cf an hop=>by
  have h1:=hop x (by simp[h,Op.operands]);rw[u]at h1
  have D:=hop y (by simp[h,Op.operands]);rw[ag]at D;have D:=jW D
  exact Np l enc z h (WZ an (by rw[cf d (by simp)];exact Z) h1) D aQ hz
def atU{α:Type}{T K E:Nat}{k:IntKind}{x y:Operand}{ok:Bool}{n:Int}(l:List (Int×α))(enc:α→Q)(z:α)(h:o.op=.lookup T x y ok)(u:ev x=.dw (bQ k enc l))(ag:ev y=.int k n)
  (aQ:kF G.P T K E k) (hz:∀w,∃v,(zeroValue E).run G.P w=.ok v w∧∀I,bc I (enc z) v) :
  Yields G o ev σ [] [] (bif ok then .cI [enc ((aD l n).getD z),.bool (aD l n).isSome]else enc ((aD l n).getD z)):=
 .pure λaz cx I β w aZ cf an hop=>by
  have h1:=hop x (by simp[h,Op.operands]);rw[u]at h1
  have D:=hop y (by simp[h,Op.operands]);rw[ag]at D;have D:=jW D
  exact Np l enc z h (Qh an h1) D aQ hz
def Qi{α:Type}{I:bs}{β:Nat→Value}{w:World}{aZ:Operand→Value}{T K E:Nat}{k:IntKind}{x:Operand}{jx}(l:List (Int×α))(enc:α→Q)(h:o.op=.call ⟨.builtin .len,#[x],jx⟩)(hk:jx=#[T])(h1:Fl I w (aZ x) (bQ k enc l))(aQ:G.P.underlying T=some (.map K E)):
  ∃v,(execOp aZ o).run G.P w=.ok (.value v) w∧au I β (.int .i64 (l.length:Int)) v:=by
 subst hk;obtain⟨r,es,clock,nk,ar,aM⟩:=h1;have aJ:∀w,(underlying T).run G.P w=.ok (.map K E) w:=λw=>by simp[underlying,program,Sem.run,aQ]
 have dm:=xD (P:=G.P) ar;have aH:=Nb _ _ aM;simp only[Array.length_toList,bQ,length_map]at aH;exact⟨.int .i64 l.length,by simp[execOp,h,resolve,invoke,builtin,Builtin.len_,nk,aJ,dm,goInt,aH],by simp[au,bc]⟩
def auh{α:Type}{T K E d:Nat}{k:IntKind}{x:Operand}{jx}(l:List (Int×α))(enc:α→Q)(h:o.op=.call ⟨.builtin .len,#[x],jx⟩)(hk:jx=#[T])(u:ev x=.dr d)(Z:σ.get d=some (.map K E (bQ k enc l)))(aQ:G.P.underlying T=some (.map K E)):
  Yields G o ev σ [] [d] (.int .i64 (l.length:Int)):=
 .pure λaz cx I β w aZ cf an hop=>by
  have h1:=hop x (by simp[h,Op.operands,Call.operands]);rw[u]at h1
  exact Qi l enc h hk (WZ an (by rw[cf d (by simp)];exact Z) h1) aQ
def at7{α:Type}{T K E:Nat}{k:IntKind}{x:Operand}{jx}(l:List (Int×α))(enc:α→Q)(h:o.op=.call ⟨.builtin .len,#[x],jx⟩)(hk:jx=#[T])(u:ev x=.dw (bQ k enc l))(aQ:G.P.underlying T=some (.map K E)):
  Yields G o ev σ [] [] (.int .i64 (l.length:Int)):=
 .pure λaz cx I β w aZ cf an hop=>by
  have h1:=hop x (by simp[h,Op.operands,Call.operands]);rw[u]at h1
  exact Qi l enc h hk (Qh an h1) aQ
def jZ.push{es:iT}{clock:Nat}(h:jZ es clock)(k v:Value):jZ (es.push ⟨k,v,clock⟩) (clock+1):=by
 obtain⟨h1,D⟩:=h;refine⟨?_,λx u=>?_⟩
 ·simp only[Array.toList_push,List.map_append,map_cons,map_nil];rw[nodup_append];refine⟨h1,by simp,λa ay b U=>?_⟩;simp only[List.mem_singleton]at U;obtain⟨x,u,rfl⟩:=List.mem_map.1 ay;have:=D x u;omega
 ·simp only[Array.toList_push,List.mem_append,List.mem_singleton]at u;rcases u with u|rfl
  ·have:=D x u;omega
  ·simp
def jZ.modify{es:iT}{clock:Nat}(h:jZ es clock)(j:Nat)(f:MapEntry→MapEntry)(bm:∀e,(f e).born=e.born):jZ (es.modify j f) clock:=by
 obtain⟨h1,D⟩:=h;have e:(es.modify j f).toList.map (·.born)=es.toList.map (·.born):=by
  apply List.ext_getElem?;intro i;simp only[Array.toList_modify,List.getElem?_map,List.getElem?_modify];cases es.toList[i]? with
  |none=>simp
  |some x=>by_cases hi:j=i<;>simp[hi,bm]
 refine⟨by rw[e];exact h1,λx u=>?_⟩;have:x.born∈(es.modify j f).toList.map (·.born):=List.mem_map.2 ⟨x,u,rfl⟩;rw[e]at this;obtain⟨y,ag,m0⟩:=List.mem_map.1 this;rw[←m0];exact D y ag
def asJ(w:World)(r:Nat)(o:Obj):gK w {w with heap:=w.heap.setIfInBounds r o} r:=
 ⟨λk hk _=>by simp[Array.getElem?_setIfInBounds_ne (Ne.symm hk)],by simp,rfl,rfl,rfl,Nat.le_refl _⟩
def ej.mapUpdate{α:Type}{T K E d:Nat}{k:IntKind}{x y z:Operand}{n:Int}(l:List (Int×α))(enc:α→Q)(v:α)(h:o.op=.mapUpdate T x y z∨o.op=.insert T x y z)(u:ev x=.dr d)(ag:ev y=.int k n)(hz:ev z=enc v)(af:(enc v).closed=true)
  (Z:σ.get d=some (.map K E (bQ k enc l))) (aQ:kF G.P T K E k) :
  h5 G o ev σ [d] [] (λr az=>r=.undef∧az=σ.set d (.map K E (bQ k enc (bG l n v)))):=by
 intro cx I β w aZ an hop;have jQ:x∈o.op.operands∧y∈o.op.operands∧z∈o.op.operands:=by rcases h with h|h<;>simp[h,Op.operands]
 have h1:=hop x jQ.1;rw[u]at h1
 have D:=hop y jQ.2.1;rw[ag]at D;have D:=jW D
 have aj:=hop z jQ.2.2;rw[hz]at aj
 have aj:=au.closed _ _ af aj;obtain⟨r,es,clock,nk,ak,ar,aM,aK,be,bJ⟩:=No an Z h1;have aJ:∀w,(underlying T).run G.P w=.ok (.map K E) w:=λw=>by simp[underlying,program,Sem.run,aQ.gY]
 have e2:∀w,(underlying K).run G.P w=.ok (.int k) w:=λw=>by simp[underlying,program,Sem.run,aQ.key]
 have dm:=xD (P:=G.P) ar;have gb:=Bk (P:=G.P) aQ.key false n w
 have ig:∀aX:Obj,(setObj r aX).run G.P w=.ok () {w with heap:=w.heap.setIfInBounds r aX}:=λaX=>by
  have:=hC ar;simp[setObj,Sem.run,ar]
 have zD:∃hO mR,(execOp aZ o).run G.P w=.ok .skip {w with heap:=w.heap.setIfInBounds r (.map hO mR)}∧gq I (bQ k enc (bG l n v)) hO.toList∧jZ hO mR:=by
  cases bu:aD l n with
  |none=>
   obtain⟨cQ,dM⟩:=ED n l es.toList 0 aM bu;have gU:(Instr.findKey K (.int k n) es.toList).run G.P w=.ok none w:=by simp[Instr.findKey,e2,cQ]
   refine⟨_,_,by rcases h with h|h<;>simp[execOp,h,Instr.mapUpdate,nk,D,aJ,dm,gb,gU,ig]<;>rfl,?_,?_⟩
   rotate_left
   ·exact bJ.push _ _
   simpa using dM v ⟨.int k n,aZ z,clock⟩ aj rfl
  |some a=>
   obtain⟨j,aA,cQ,dM,cB,eH,i6,pl⟩:=EC n l es.toList 0 a aM bu;have gU:(Instr.findKey K (.int k n) es.toList).run G.P w=.ok (some (0+j,aA)) w:=by simp[Instr.findKey,e2,cQ]
   have i1:es[j]?=some cB:=by simpa using eH
   have oy:(Instr.keyThatStays (.int k n) (.int k n)).run G.P w=.ok (.int k n) w:=by simp[Instr.keyThatStays,Instr.sameBits]
   refine⟨_,_,by rcases h with h|h<;>simp[execOp,h,Instr.mapUpdate,nk,D,aJ,dm,gb,gU,ig,i1,i6,oy]<;>rfl,?_,?_⟩
   ·simpa using pl v (aZ z) (λe=>{e with key:=.int k n,val:=aZ z}) aj (λe=>⟨rfl,rfl⟩)
   ·exact bJ.modify _ _ λ_=>rfl
 obtain⟨hO,mR,eY,iP,dc⟩:=zD;rw[eY];refine⟨.undef,_,I,β,⟨rfl,rfl⟩,by simp[au,bc],?_,cn.refl I,λ_ _=>rfl,λx u=>by rw[asB,if_neg (by simpa using u)]⟩;have fL:b1 (β d)=some r:=by rw[ak];rfl
 refine an.turn (d:=d) (asJ w r _) be (λx u=>by rw[asB,if_neg u]) (λx u X e=>an.dA x d X (by rw[Z];rfl) u r e (j8 fL)) (cn.refl I) (λ_ _ _=>rfl)
  (λo v aa=>by rw[aK o]at aa;cases aa) (aK none) (λ_ _=>rfl) (.inr rfl) (hp.refl β) (.inl fL) λaX cC=>?_
 rw[asB,if_pos rfl,Z]at cC;injection cC with cC
 subst cC;simp only[aY];exact .inr ⟨r,hO,mR,ak,by have:=hC ar;simp[Array.getElem?_setIfInBounds,this],iP,aK,be,dc⟩
def atY{T:TypeId}{x y:Operand}{k:IntKind}{n:Int}{s:ByteArray}{b:UInt8}(h:o.op=.index T x y)(u:ev x=.str s)(ag:ev y=.int k n)(aQ:G.P.underlying T=some .string)(aR:0≤n)(U:s[n.toNat]?=some b):
  Yields G o ev σ [] [] (.int .u8 (b.toNat:Int)):=
 .pure λaz cx I β w aZ cf an hop=>by
  have h1:=hop x (by simp[h,Op.operands]);rw[u]at h1;simp only[au,bc]at h1
  have D:=hop y (by simp[h,Op.operands]);rw[ag]at D;have D:=jW D
  have aJ:∀w,(underlying T).run G.P w=.ok .string w:=λw=>by simp[underlying,program,Sem.run,aQ]
  exact⟨.int .u8 b.toNat,by simp[execOp,h,Instr.index,h1,D,asIntOf,aJ,aR,U],by simp[au,bc]⟩
end
end Go.Proofs.YtmnbolcmepihlaaGreat
namespace Go.Proofs.YtmnbolcmepihlaaGreat
set_option linter.all false
open Go Go.Sort List
abbrev Qj(P:Program)(f:FuncId):Prop:=∀(b1 off aO:Nat) (zs:cq) (w:World),Holds (Value.int .i64) w b1 off zs.toArray→b1<w.heap.size→zs.length<4611686018427387904→
  Calls P f #[.slice (some ⟨b1,off,none⟩) zs.length aO] w λe w'=>
   e=.returned (.tuple #[])∧∃n os,w'=grow (putRow (Value.int .i64) (Go.Sort.ahead w n) b1 off (zs.mergeSort λx y=>decide (x≤y)).toArray) os
def encI(n:Int):List Q:=[.int .i64 n]
def Ag(x:Int):cq→cq
 |[]=>[x]
 |y::r=>if x≤y then x::y::r else y::Ag x r
def fN:cq→cq
 |[]=>[]
 |x::r=>Ag x (fN r)
def NM(x:Int):∀l:cq,(Ag x l).Perm (x::l)
 |[]=>List.Perm.refl _
 |y::r=>by
  simp only[Ag];split
  ·exact List.Perm.refl _
  ·exact((NM x r).cons y).trans (List.Perm.swap x y r)
def zz:∀l:cq,(fN l).Perm l
 |[]=>List.Perm.refl _
 |x::r=>(NM x (fN r)).trans ((zz r).cons x)
def WC(x:Int):∀l:cq,l.Pairwise (·≤·)→(Ag x l).Pairwise (·≤·)
 |[],_=>by simp[Ag]
 |y::r,h=>by
  simp only[Ag];rw[pairwise_cons]at h;split
  ·rename_i u;rw[pairwise_cons];refine⟨λz hz=>?_,pairwise_cons.2 h⟩;rcases mem_cons.1 hz with rfl|hz
   ·exact u
   ·exact Int.le_trans u (h.1 z hz)
  ·rename_i u;rw[pairwise_cons];refine⟨λz hz=>?_,WC x r h.2⟩;rcases mem_cons.1 ((NM x r).mem_iff.1 hz)with rfl|hz
   ·omega
   ·exact h.1 z hz
def Bp:∀l:cq,(fN l).Pairwise (·≤·)
 |[]=>Pairwise.nil
 |x::r=>WC x _ (Bp r)
def MR:∀{l gV:cq},l.Perm gV→l.Pairwise (·≤·)→gV.Pairwise (·≤·)→l=gV
 |[],gV,h,_,_=>by simpa using h.symm
 |x::r,[],h,_,_=>by simpa using h
 |x::r,y::s,h,h1,D=>by
  rw[pairwise_cons]at h1 D;have m0:x=y:=by
   have jU:x∈y::s:=h.mem_iff.1 (by simp);have a2:y∈x::r:=h.mem_iff.2 (by simp);have dO:y≤x:=by
    rcases mem_cons.1 jU with rfl|jU
    ·exact Int.le_refl _
    ·exact D.1 x jU
   have ep:x≤y:=by
    rcases mem_cons.1 a2 with rfl|a2
    ·exact Int.le_refl _
    ·exact h1.1 y a2
   omega
  subst m0;rw[MR (List.Perm.cons_inv h) h1.2 D.2]
def XK(zs:cq):(zs.mergeSort λx y=>decide (x≤y))=fN zs:=by
 refine MR ((List.mergeSort_perm zs _).trans (zz zs).symm) ?_ (Bp zs);have:=List.pairwise_mergeSort (le:=λx y:Int=>decide (x≤y)) (λa b c h1 D=>by simp at h1 D ⊢;omega) (λa b=>by simp;omega) zs;exact this.imp (λh=>by simpa using h)
def M0(zs:cq):(fN zs).length=zs.length:=(zz zs).length_eq
def zA{I:bs}:∀(zs:cq) (vs:dZ),cV I (zs.map encI).flatten vs↔vs=zs.map (Value.int .i64)
 |[],vs=>by simp[cV]
 |z::r,vs=>by
  simp only[map_cons,flatten_cons,encI,singleton_append,cV,bc];constructor
  ·rintro⟨aA,bI,rfl,rfl,h⟩;rw[(zA r bI).1 h]
  ·rintro rfl;exact⟨_,_,rfl,rfl,(zA r _).2 rfl⟩
def XU{P:Program}{f:FuncId}(X:Qj P f)(aR:eP P f [] [.c4] (λr az=>r=.cI []∧az=[])){d T:Nat}(zs:cq)(hz:zs.length<4611686018427387904):
    eP P f [(d,.slice T 1 (zs.map encI) 0 false)] [.own d] (λr az=>r=.cI []∧az=[(d,.slice T 1 ((fN zs).map encI) 0 false)]):=by
  intro cx w I β vs an aB;simp only[bW]at aB;obtain⟨aA,bI,rfl,aB,rfl⟩:=aB;have Z:Y.get [(d,cc.slice T 1 (zs.map encI) 0 false)] d=some (.slice T 1 (zs.map encI) 0 false):=by rw[asw,if_pos rfl]
  have ai:=an.cw d _ Z;simp only[au]at aB;obtain⟨rfl,aB⟩:=aB;simp only[aY,length_map]at ai;rcases ai with q|⟨q,ar,_⟩|⟨b,aO,arr,ak,ar,aM,aK,be,bJ,b8,cT,dD,eB,fm⟩
  · rw[q]at aB;simp[iD]at aB
  · have D6:zs=[]:=by simpa using ar
    subst D6;have akP:bY ⟨P,0,Y.ids []⟩ cx I β [] w:={an with cw:=λx o h=>by simp[Y.get]at h,dA:=λx y h=>by simp[Y.get]at h,keep:=λx h=>by simp[Y.ids]at h};refine Calls.mono (aR cx w I β [β d] akP (by simp only[bW,au,bc];exact⟨_,_,rfl,q,rfl⟩)) ?_;rintro e w' ⟨v,rfl,r,az,aU,β',⟨rfl,rfl⟩,h1,D⟩;refine⟨v,rfl,.cI [],[(d,.slice T 1 [] 0 false)],aU,β,⟨rfl,by simp[fN]⟩,?_,?_⟩
    · simp only[au,bW]at h1 ⊢;exact h1
    · exact{D with
        cw:=λx o h=>by
          rw[asw]at h;split at h
          · rename_i e;subst e;injection h with h;subst h
            simp only[aY];exact .inr (.inl ⟨q,trivial,trivial⟩)
          · simp[Y.get]at h
        dA:=λx y u ag cb b U ha=>by
          rw[asw]at u ag;split at u
          · rename_i e;subst e
            split at ag
            · rename_i cB;exact cb cB
            · simp[Y.get]at ag
          · simp[Y.get]at u
        keep:=an.keep}
  · simp only[Nat.mul_one]at be bJ
    have mK:arr.toList.take zs.length=zs.map (Value.int .i64):=(zA zs _).1 bJ
    have nc:∀j,j<zs.length→arr[j]?=some (Value.int .i64 (zs[j]?.getD default)):=λj aT=>by
      have:=congrArg (·[j]?) mK;simp only[getElem?_take,if_pos aT,Array.getElem?_toList,List.getElem?_map]at this;rw[this,List.getElem?_eq_getElem aT];rfl
    have n2:Holds (Value.int .i64) w b 0 zs.toArray:=λj aT=>by
      have aT:j<zs.length:=by simpa using aT
      constructor
      · simp only[World.cell?,aK,Nat.zero_add]
        rw[nc j aT];simp[aT]
      · simp[World.frozen?,aK]
    have bL:=hC aK;have af:=X b 0 aO zs w n2 bL hz;rw[ak];refine Calls.mono af ?_;rintro e w' ⟨rfl,n,os,rfl⟩;rw[XK];have iA:(fN zs).length=zs.length:=M0 zs;have yX:(grow (putRow (Value.int .i64) (Go.Sort.ahead w n) b 0 (fN zs).toArray) os).heap[b]?=some (.cells (putCells (Value.int .i64) 0 (fN zs).toArray arr) T (0,0)):=by
      simp only[grow,putRow,mapBlock,Go.Sort.ahead];rw[Array.getElem?_append_left (by simpa using bL),Array.getElem?_modify,if_pos rfl,aK];rfl
    have Fw:(putCells (Value.int .i64) 0 (fN zs).toArray arr).toList.take (fN zs).length=(fN zs).map (Value.int .i64):=by
      apply List.ext_getElem?;intro j;rw[getElem?_take,List.getElem?_map];split
      · rename_i aT
        have j2:j<arr.size:=by omega
        rw[Array.getElem?_toList];simp only[putCells,Array.getElem?_mapIdx];rw[Array.getElem?_eq_getElem j2];simp[aT]
      · rename_i aT
        rw[List.getElem?_eq_none (by omega)];rfl
    refine⟨.tuple #[],rfl,.cI [],_,I,β,⟨rfl,rfl⟩,by simp only[au,bW];exact⟨_,rfl,rfl⟩,?_⟩;refine bY.turn (b:=b) (d:=d) an ⟨λk hk bL=>?_,by simp[grow,putRow,mapBlock,Go.Sort.ahead],rfl,rfl,rfl,by simp[grow,putRow,mapBlock,Go.Sort.ahead]⟩ fm (λx u=>?_) (λx u h _=>?_) (cn.refl I) (λ_ _ _=>rfl) (λo v aa=>?_) (an.tu aK) (λ_ _=>rfl) (.inr rfl) (hp.refl β) (.inl (by rw[ak];rfl)) (λaX cC=>?_)
    · simp only[grow,putRow,mapBlock,Go.Sort.ahead]
      rw[Array.getElem?_append_left (by simpa using bL),Array.getElem?_modify,if_neg (λe=>hk e.symm)]
    · rw[asw,asw,if_neg (Ne.symm u),if_neg (Ne.symm u)]
    · rw[asw,if_neg (Ne.symm u)]at h;simp[Y.get]at h
    · rw[eB o (by omega)]at aa;cases aa
    · rw[asw,if_pos rfl]at cC
      injection cC with cC
      subst cC;simp only[aY,length_map];refine .inr (.inr ⟨b,aO,_,by rw[ak,iA],by omega,aM,yX,by simpa [putCells]using be,?_,?_,by omega,?_,?_,fm⟩)
      · rw[Nat.mul_one];exact(zA _ _).2 Fw
      · intro e he;obtain⟨x,_,rfl⟩:=List.mem_map.1 he;rfl
      · intro h;cases h
      · intro o _;exact eB o (by omega)
end Go.Proofs.YtmnbolcmepihlaaGreat
namespace Go.Proofs.YtmnbolcmepihlaaGreat
set_option linter.all false
open Go List
mutual
def Q.OP{r s:Nat→Nat}(h:∀x,s (r x)=x):∀a:Q,(a.cN r).cN s=a
 |.e9|.undef|.int _ _|.bool _|.str _|.bf _ _|.fO _|.c4|.nI|.eU _ _|.ko|.dw _|.arr _=>rfl
 |.agg cs=>by simp only[Q.cN,BN h cs]
 |.cI cs=>by simp only[Q.cN,BN h cs]
 |.fn _ cs=>by simp only[Q.cN,BN h cs]
 |.own d=>by simp only[Q.cN,h d]
 |.ptr d _=>by simp only[Q.cN,h d]
 |.fR _ d=>by simp only[Q.cN,h d]
 |.dr d=>by simp only[Q.cN,h d]
def BN{r s:Nat→Nat}(h:∀x,s (r x)=x):∀l:List Q,q1 s (q1 r l)=l
 |[]=>rfl
 |x::t=>by simp only[q1,Q.OP h x,BN h t]
end
def atf{r s:Nat→Nat}(h:∀x,s (r x)=x):∀(σ:Y) (d:Nat),(σ.cN r).get (r d)=(σ.get d).map (·.cN r)
 |[],d=>rfl
 |(k,v)::t,d=>by
  have:=atf h t d;simp only[Y.cN]at this ⊢;simp only[map_cons,asw];by_cases hk:k=d
  ·subst hk;simp
  ·have:r k≠r d:=λe=>hk (by rw[←h k,←h d,e]);simp only[hk,this,if_false];assumption
def atS(r:Nat→Nat)(σ:Y):(σ.cN r).ids=σ.ids.map r:=by simp[Y.ids,Y.cN]
def aY.cN{cx:eW}{I:bs}{β β':Nat→Value}{w:World}{r:Nat→Nat}(U:∀d,β' (r d)=β d){d:Nat}{o:cc}{oQ:eW}(af:∀b,Place cx b→Place oQ b)(h:aY cx I β w d o):aY oQ I β' w (r d) (o.cN r):=by
 cases o with
 |cells T cs=>
  simp only[aY,cc.cN,U]at h ⊢;rcases h with q|⟨b,arr,aJ,e2,dm,gb,gU⟩
  ·exact .inl q
  ·exact .inr ⟨b,arr,aJ,e2,zI (p:=λ_=>false) (λd _=>U d) cs _ (xG (λ_=>rfl) cs) dm,gb,af _ gU⟩
 |slice T sz xs k c5=>
  simp only[aY,cc.cN,U]at h ⊢;rcases h with q|q|⟨b,aO,arr,ak,ar,aM,aK,be,bJ,b8,cT,dD,eB,fm⟩
  ·exact .inl q
  ·exact .inr (.inl q)
  ·exact .inr (.inr ⟨b,aO,arr,ak,ar,aM,aK,be,bJ,b8,cT,dD,eB,af _ fm⟩)
 |win T sz xs=>
  simp only[aY,cc.cN,U]at h ⊢;rcases h with q|q|⟨b,hx,aO,arr,ak,ar,aM,aK,be,bJ,b8,cT,dD⟩
  ·exact .inl q
  ·exact .inr (.inl q)
  ·exact .inr (.inr ⟨b,hx,aO,arr,ak,ar,aM,aK,be,bJ,b8,cT,af _ dD⟩)
 |map K E bH=>
  simp only[aY,cc.cN,U]at h ⊢;rcases h with q|⟨b,es,c,ak,ar,aM,aK,be,bJ⟩
  ·exact .inl q
  ·exact .inr ⟨b,es,c,ak,ar,aM,aK,af _ be,bJ⟩
 |kf K E bH=>
  simp only[aY,cc.cN,U]at h ⊢;rcases h with q|⟨b,es,c,ak,ar,aM,be,bJ⟩
  ·exact .inl q
  ·exact .inr ⟨b,es,c,ak,ar,aM,af _ be,bJ⟩
 |gz es clock K E bH=>
  simp only[aY,cc.cN,U]at h ⊢;rcases h with q|⟨b,ak,ar,aM,aK,be,bJ⟩
  ·exact .inl q
  ·exact .inr ⟨b,ak,ar,aM,aK,af _ be,bJ⟩
 |iter cz q9 kW seen=>
  simp only[aY,cc.cN,U]at h ⊢;rcases h with q|⟨b,fx,ak,ar,aM,aK,be⟩
  ·exact .inl q
  ·exact .inr ⟨b,fx,ak,ar,aM,aK,af _ be⟩
 |hdr cz n=>simpa only[aY,cc.cN,U]using h
 |b9 cU=>
  simp only[aY,cc.cN,U]at h ⊢;rcases h with q|⟨X,ak,ar⟩
  ·exact .inl q
  ·exact .inr ⟨X,ak,ar.go (cn.refl I) λb _=>⟨λ_=>rfl,λ_=>rfl,af b⟩⟩
 |gP T xs t=>
  simp only[aY,cc.cN,U]at h ⊢;rcases h with q|⟨aP,aO,arr,ak,ar,aM,aK,be,bJ,b8,cT,dD,eB,fm⟩
  ·exact .inl q
  ·exact .inr ⟨aP,aO,arr,ak,ar,aM,aK,be,bJ,b8,cT,dD,eB,af _ fm⟩
 |vec T xs=>
  simp only[aY,cc.cN,U]at h ⊢;rcases h with q|⟨aP,arr,ak,ar,aM,aK,be⟩
  ·exact .inl q
  ·exact .inr ⟨aP,arr,ak,ar,aM,aK,af _ be⟩
 |jP es clock bH seen=>
  simp only[aY,cc.cN,U]at h ⊢;rcases h with q|⟨r',fx,ak,ar,aM,aK,be,bJ,b8⟩
  ·exact .inl q
  ·exact .inr ⟨r',fx,ak,ar,aM,aK,be,bJ,af _ b8⟩
 |eO T e n du=>
  have cA:∀X cv,jD β' X cv (q2 r du)↔jD β X cv du:=λX cv=>by
   cases du with
   |none=>exact Iff.rfl
   |some q=>obtain⟨i,t⟩:=q;cases i<;>simp only[jD,q2,U]
  simp only[aY,cc.cN,U,cA]at h ⊢;rcases h with q|⟨aP,aO,arr,X,ak,ar,aM,aK,be,bJ,b8,cT,dD,eB⟩
  ·exact .inl q
  ·exact .inr ⟨aP,aO,arr,X,ak,ar,aM,aK,be,bJ,b8,cT,dD,af _ eB⟩
 |fc K E e keys du iK=>
  have cA:∀X cv,jD β' X cv (q2 r du)↔jD β X cv du:=λX cv=>by
   cases du with
   |none=>exact Iff.rfl
   |some q=>obtain⟨i,t⟩:=q;cases i<;>simp only[jD,q2,U]
  simp only[aY,cc.cN,U,cA]at h ⊢;rcases h with q|⟨r,es,clock,X,cv,ak,ar,aM,aK,be,bJ,b8,cT⟩
  ·exact .inl q
  ·exact .inr ⟨r,es,clock,X,cv,ak,ar,aM,aK,be,bJ,af _ b8,cT⟩
def au4{r s:Nat→Nat}(h:∀x,s (r x)=x):∀o:cc,(o.cN r).cN s=o
 |.cells T cs=>by simp only[cc.cN,BN h cs]
 |.slice ..=>rfl
 |.map ..=>rfl
 |.win ..=>rfl
 |.kf ..=>rfl
 |.gz ..=>rfl
 |.iter cz _ _ _=>by simp only[cc.cN,h cz]
 |.hdr cz _=>by simp only[cc.cN,h cz]
 |.b9 ..=>rfl
 |.gP T xs t=>by simp only[cc.cN,h t]
 |.jP ..=>rfl
 |.vec ..=>rfl
 |.eO T e n none=>by simp only[cc.cN,q2,h e]
 |.eO T e n (some (i,t))=>by simp only[cc.cN,q2,h e,h t]
 |.fc K E e keys none iK=>by simp only[cc.cN,q2,h e]
 |.fc K E e keys (some (i,t)) iK=>by simp only[cc.cN,q2,h e,h t]
def eP.cN{P:Program}{f:FuncId}{iq:Y}{args:List Q}{hL:Q→Y→Prop}(h:eP P f iq args hL)(r s:Nat→Nat)(sG:∀x,s (r x)=x)(sF:∀x,r (s x)=x):
    eP P f (iq.cN r) (q1 r args) (λa az=>∃a0 sp,hL a0 sp∧a=a0.cN r∧az=sp.cN r):=by
  intro cx w I β vs an aB;have fB:∀x y,r x=r y→x=y:=λx y e=>by rw[←sG x,←sG y,e]
  have oc:bY ⟨P,0,iq.ids⟩ {cx with wY:=λx=>cx.wY (r x)} I (λx=>β (r x)) iq w:=
    {good:=an.good,hM:=an.hM,jg:=an.jg,iV:=an.iV,frame:=an.frame,size:=an.size,tape:=an.tape,os:=an.os,output:=an.output,drawn:=an.drawn
     cw:=λd o Z=>by
        have h1:=an.cw (r d) (o.cN r) (by rw[atf sG,Z];rfl);have D:=aY.cN (cx:=cx) (r:=s) (β:=β) (β':=λx=>β (r x)) (λx=>by show β (r (s x))=β x;rw[sF]) (oQ:={cx with wY:=λx=>cx.wY (r x)}) (λb U=>U) h1
        rwa [sG,au4 sG]at D
     dA:=λd dh Z dH cb b U=>an.dA (r d) (r dh) (by rw[atf sG];simpa using Z) (by rw[atf sG];simpa using dH) (λe=>cb (fB _ _ e)) b U
     keep:=λd Z=>an.keep (r d) (by show r d∈(iq.cN r).ids;rw[atS];exact List.mem_map_of_mem Z)}
  have qj:bW I (λx=>β (r x)) args vs:=by
    have:=zI (r:=s) (β':=λx=>β (r x)) (p:=λ_=>false) (λx _=>by show β (r (s x))=β x;rw[sF]) (q1 r args) vs (xG (λ_=>rfl) _) aB
    rwa [BN sG]at this
  refine Calls.mono (h _ w I _ vs oc qj) ?_;rintro e w' ⟨v,rfl,a,az,aU,β',aC,kD,e1⟩;refine⟨v,rfl,a.cN r,az.cN r,aU,λx=>β' (s x),⟨a,az,aC,rfl,rfl⟩,Oh (r:=r) (p:=λ_=>false) (λx _=>by show β' (s (r x))=β' x;rw[sG]) a v (Ny (λ_=>rfl) a) kD,?_⟩
  have nc:∀d,(az.cN r).get d=(az.get (s d)).map (·.cN r):=λd=>by
    have:=atf sG az (s d)
    rwa [sF]at this
  exact{good:=e1.good,hM:=e1.hM,jg:=e1.jg,iV:=e1.iV,frame:=e1.frame,size:=e1.size,tape:=e1.tape,os:=e1.os,output:=e1.output,drawn:=e1.drawn
        cw:=λd o Z=>by
            rw[nc]at Z;obtain⟨gl,bM,rfl⟩:=Option.map_eq_some_iff.1 Z;have:=aY.cN (cx:={cx with wY:=λx=>cx.wY (r x)}) (r:=r) (β:=β') (β':=λx=>β' (s x)) (λx=>by show β' (s (r x))=β' x;rw[sG]) (oQ:=cx) (λb U=>U) (e1.cw (s d) gl bM)
            rwa [sF]at this
        dA:=λd dh Z dH cb b U=>by
            rw[nc]at Z dH;exact e1.dA (s d) (s dh) (by simpa using Z) (by simpa using dH) (λe=>cb (by rw[←sF d,←sF dh,e])) b U
        keep:=λd Z=>by
            have:s d∈iq.ids:=by
              have Z:d∈(iq.cN r).ids:=Z;rw[atS]at Z;obtain⟨x,u,rfl⟩:=List.mem_map.1 Z;rw[sG];exact u
            have:=e1.keep (s d) this;show β' (s d)=_;rw[this];show cx.wY (r (s d))=_;rw[sF]}
def swp(a b x:Nat):Nat:=bif Nat.beq x a then b else bif Nat.beq x b then a else x
def Q6(a b x:Nat):swp a b (swp a b x)=x:=by
 have e:∀aA v:Nat,Nat.beq aA v=decide (aA=v):=λaA v=>by rw[Bool.eq_iff_iff];simp
 simp only[swp,e];by_cases h1:x=a
 ·subst h1;by_cases D:b=x
  ·subst D;simp
  ·simp[D]
 ·by_cases D:x=b
  ·subst D;simp[h1]
  ·simp[h1,D]
def q6:List (Nat×Nat)→Nat→Nat
 |[],x=>x
 |(a,b)::r,x=>swp a b (q6 r x)
def Cs:List (Nat×Nat)→Nat→Nat
 |[],x=>x
 |(a,b)::r,x=>Cs r (swp a b x)
def Qk:∀(l:List (Nat×Nat)) (x:Nat),Cs l (q6 l x)=x
 |[],x=>rfl
 |(a,b)::r,x=>by simp only[q6,Cs,Q6,Qk r]
def PD:∀(l:List (Nat×Nat)) (x:Nat),q6 l (Cs l x)=x
 |[],x=>rfl
 |(a,b)::r,x=>by simp only[q6,Cs,PD r,Q6]
def eP.at{P:Program}{f:FuncId}{iq:Y}{args:List Q}{hL:Q→Y→Prop}(h:eP P f iq args hL)(l:List (Nat×Nat)):
  eP P f (iq.cN (q6 l)) (q1 (q6 l) args) (λa az=>∃a0 sp,hL a0 sp∧a=a0.cN (q6 l)∧az=sp.cN (q6 l)):=
 h.cN (q6 l) (Cs l) (Qk l) (PD l)
def PE{I:bs}{β β':Nat→Value}{b:Q}{post:List Q}:∀(pre:List Q) (vs:dZ) {a:Q},bW I β (pre++a::post) vs→(∀x v,x∈pre∨x∈post→au I β x v→au I β' x v)→(∀v,au I β a v→au I β' b v)→bW I β' (pre++b::post) vs
 |[],vs,a,h,h1,D=>by
  simp only[nil_append,bW]at h ⊢;obtain⟨aA,bI,rfl,ak,ar⟩:=h;have key:∀(l:List Q) (vs:dZ),(∀x∈l,x∈post)→bW I β l vs→bW I β' l vs:=by
   intro l;induction l with
   |nil=>intro _ _ h;exact h
   |cons x r bg=>
    intro vs hm h;simp only[bW]at h ⊢;obtain⟨aA,bI,rfl,cQ,dM⟩:=h;exact⟨aA,bI,rfl,h1 x aA (.inr (hm x (by simp))) cQ,bg bI (λy ag=>hm y (by simp[ag])) dM⟩
  exact⟨aA,bI,rfl,D aA ak,key post bI (λx u=>u) ar⟩
 |x::r,vs,a,h,h1,D=>by
  simp only[cons_append,bW]at h ⊢;obtain⟨aA,bI,rfl,ak,ar⟩:=h;exact⟨aA,bI,rfl,h1 x aA (.inl (by simp)) ak,PE r bI ar (λy v ag=>h1 y v (ag.imp (λh=>by simp[h]) id)) D⟩
def PF{p:Nat→Bool}:∀{l:List Q},o6 p l=false→∀x∈l,x.refs p=false
 |[],_,x,h=>by simp at h
 |y::r,h,x,u=>by
  simp only[o6,Bool.or_eq_false_iff]at h;rcases mem_cons.1 u with rfl|u
  ·exact h.1
  ·exact PF h.2 x u
def aur{G:ch}{env:ah}{σ:Y}(d0 d:Nat)(T:TypeId)(sz:Nat)(bn:TypeId)(pre post:List Q)(bM:σ.get d0=some (.cells bn (pre++.c4::post)))(cb:Nat.beq d0 d=false)(hi:G.ids.contains d=false)(af:env.clean (Nat.beq d)=true)(X:σ.clean (Nat.beq d)=true):
  cr G env σ env ((d,.slice T sz [] 0 false)::σ.set d0 (.cells bn (pre++.own d::post))):=λcx I β a w h b3=>by
 let β':Nat→Value:=λx=>if x=d then .slice none 0 0 else β x
 have cb:d0≠d:=λe=>by subst e;simp at cb
 have U:∀x,Nat.beq d x=false→β' x=β x:=λx u=>by
  have:x≠d:=λe=>by subst e;simp at u
  show(if x=d then _ else β x)=_;rw[if_neg this]
 have fL:β' d=.slice none 0 0:=by show(if d=d then _ else _)=_;rw[if_pos rfl]
 have ig:∀x,x≠d→Y.get ((d,.slice T sz [] 0 false)::σ.set d0 (.cells bn (pre++.own d::post))) x=if x=d0 then some (.cells bn (pre++.own d::post))else σ.get x:=λx u=>by
  rw[asw,if_neg (Ne.symm u),asB,bM];rfl
 have Vx:∀x,x≠d→(Y.get ((d,.slice T sz [] 0 false)::σ.set d0 (.cells bn (pre++.own d::post))) x).isSome→(σ.get x).isSome:=λx u X=>by
  rw[ig x u]at X;split at X
  ·rename_i e;subst e;rw[bM];rfl
  ·exact X
 refine⟨I,β',{h with cw:=λx o e=>?_,dA:=λx y ex vM m0 b=>?_,keep:=λx u=>?_},λaA=>?_⟩
 ·by_cases u:x=d
  ·subst u;rw[asw,if_pos rfl]at e;cases e;simp only[aY,fL];exact .inr (.inl ⟨trivial,trivial,trivial⟩)
  ·rw[ig x u]at e;split at e
   ·rename_i cB;subst cB;cases e
    have ai:=h.cw x _ bM;obtain⟨bl,b2⟩:=asF X x _ bM;simp only[nV]at b2;simp only[aY,U x bl]at ai ⊢;rcases ai with q|⟨b,arr,aJ,e2,dm,gb⟩
    ·exact .inl q
    ·refine .inr ⟨b,arr,aJ,e2,PE pre _ dm (λy v ag aB=>u4 U y v ?_ aB) (λv aa=>?_),gb⟩
     ·exact PF b2 y (by rcases ag with ag|ag<;>simp[ag])
     ·simp only[au,bc]at aa;simp only[au,aa,fL,iD,and_self]
   ·obtain⟨bl,b2⟩:=asF X x o e;exact(h.cw x o e).beta U bl b2
 ·by_cases u:x=d
  ·subst u;rw[fL];simp[IK]
  ·by_cases ag:y=d
   ·subst ag;rw[fL];simp[IK]
   ·rw[U x (by rw[←Bool.not_eq_true,Nat.beq_eq];exact Ne.symm u),U y (by rw[←Bool.not_eq_true,Nat.beq_eq];exact Ne.symm ag)];exact h.dA x y (Vx x u ex) (Vx y ag vM) m0 b
 ·have:d≠x:=λe=>by subst e;simp at hi;exact hi u
  rw[U x (by rw[←Bool.not_eq_true,Nat.beq_eq];exact this)];exact h.keep x u
 ·exact u4 U _ _ (asU af aA) (b3 aA)
end Go.Proofs.YtmnbolcmepihlaaGreat
namespace Go.Proofs.YtmnbolcmepihlaaGreat
set_option linter.all false
open Go List
def bY.stay{G:ch}{cx:eW}{I:bs}{β:Nat→Value}{σ:Y}{w w':World}(h:bY G cx I β σ w)(hk:∀b,b<w.heap.size→w'.heap[b]?=w.heap[b]?)(X:w.heap.size≤w'.heap.size)(bE:w'.tape=w.tape)(ai:w'.os=w.os)(hu:w'.output=w.output)(hdr:w.drawn≤w'.drawn):bY G cx I β σ w':=by
  have h8:gK w w' w.heap.size:=⟨λk _ bL=>hk k bL,X,bE,ai,hu,hdr⟩
  exact{good:=λb o v aa=>by
            have h1:=h.good b o v aa;have bL:b<w.heap.size:=World.block_lt_of_cell? w _ h1;rw[World.cell?_of_block (w:=w) (hk b bL)];exact h1
        hM:=λb v aa=>by
            obtain⟨es,clock,h1,D⟩:=h.hM b v aa;exact⟨es,clock,by rw[hk b (hC h1)];exact h1,D⟩
        jg:=h.jg,iV:=h.iV
        frame:=λb U hm=>by rw[hk b (Nat.lt_of_lt_of_le U h.size)];exact h.frame b U hm
        size:=Nat.le_trans h.size X,tape:=bE.trans h.tape,os:=ai.trans h.os,output:=hu.trans h.output,drawn:=Nat.le_trans h.drawn hdr
        cw:=λd o Z=>(h.cw d o Z).keep h8 rfl (λe=>by have:=h.sL Z e;omega) (cn.refl I) (λ_ _ _=>rfl) (hp.refl β)
        dA:=h.dA,keep:=h.keep}
mutual
def Q.iI:Q→Bool
 |.int _ _=>true
 |.bool _=>true
 |.str _=>true
 |.undef=>true
 |.cI cs=>qY cs
 |.agg cs=>qY cs
 |_=>false
def qY:List Q→Bool
 |[]=>true
 |x::r=>x.iI&&qY r
end
mutual
def au.iI{I aU:bs}{β β':Nat→Value}:∀(a:Q) (v:Value),a.iI=true→au I β a v→au aU β' a v
 |.int _ _,v,_,h=>by simpa only[au,bc]using h
 |.bool _,v,_,h=>by simpa only[au,bc]using h
 |.str _,v,_,h=>by simpa only[au,bc]using h
 |.undef,v,_,h=>by simpa only[au,bc]using h
 |.cI cs,v,X,h=>by
  simp only[au,Q.iI]at h X ⊢;obtain⟨vs,h1,D⟩:=h;exact⟨vs,h1,bW.iI cs _ X D⟩
 |.agg cs,v,X,h=>by
  simp only[au,Q.iI]at h X ⊢;obtain⟨vs,h1,D⟩:=h;exact⟨vs,h1,bW.iI cs _ X D⟩
 |.e9,_,X,_|.bf _ _,_,X,_|.fO _,_,X,_|.fn _ _,_,X,_|.c4,_,X,_|.nI,_,X,_|.own _,_,X,_|.ptr _ _,_,X,_|.dr _,_,X,_|.eU _ _,_,X,_|.ko,_,X,_|.fR _ _,_,X,_=>by simp[Q.iI]at X
def bW.iI{I aU:bs}{β β':Nat→Value}:∀(a:List Q) (v:dZ),qY a=true→bW I β a v→bW aU β' a v
 |[],v,_,h=>h
 |x::r,v,X,h=>by
  simp only[bW,qY,Bool.and_eq_true]at h X ⊢;obtain⟨aA,bI,h1,D,aj⟩:=h;exact⟨aA,bI,h1,au.iI x aA X.1 D,bW.iI r bI X.2 aj⟩
end
def ML{I:bs}{sz:Nat}:∀(xs:List (List Q)) (i:Nat),(∀e∈xs,e.length=sz)→i<xs.length→∃A B,xs.flatten=A++xs.getD i []++B∧A.length=i*sz∧(∀cB,(xs.set i cB).flatten=A++cB++B)
 |[],_,_,h=>by simp at h
 |e::r,0,aH,_=>⟨[],r.flatten,by simp,by simp,by simp⟩
 |e::r,i+1,aH,h=>by
  obtain⟨A,B,h1,D,aj⟩:=ML (I:=I) r i (λx u=>aH x (by simp[u])) (by simpa using h);refine⟨e++A,B,by simp[h1],?_,by simp[aj]⟩;rw[length_append,D,aH e (by simp),Nat.add_mul];omega
section ops
variable {G:ch}{o:Oper}{env:ah}{σ:Y}{x y:Operand}
def bK.Tp{gO:Operand}{args:Array Operand}{k:Array TypeId}{f:FuncId}{aO dx ps:List Q}{σs:Y}{r:Q}(h:o.op=.call ⟨.value gO,args,k⟩)(bm:env.ev gO=.fn f aO)
  (o7:∀(args:iY) (w:World),(callFunc f args).run G.P w=.ok (.enter f args) w) (cM:dT G.P f [] dx r) (aC:env.pn args.toList=some ps) (ay:jE (σs.freeze σs.ids) (ps++aO) dx) (X:r5 σ σs)
  (aB:r.iI=true):Yields G o env.ev σ [] σs.ids r:=by
 intro az cx I β w aZ cf an _ hop;have jh:=hop gO (by simp[h,Op.operands,Call.operands]);rw[bm]at jh;simp only[au]at jh;obtain⟨vs,jh,n4⟩:=jh;rw[BM h jh o7]
 have ki:∀d o,σs.get d=some o→az.get d=some o:=λd o Z=>by
  obtain⟨p,cQ,dM,eH⟩:=sI σs d o Z;rw[cf d (by rw[←dM];exact List.mem_map.2 ⟨p,cQ,rfl⟩),←dM,←eH];exact X.mem p cQ
 obtain⟨O1,hle,oc⟩:=(an.sub ki).Ie σs.ids;have lX:=rF _ _ _ _ (xO env.ev aZ args.toList λx u=>hop x (by simp only[h,Op.operands,Call.operands];simp;right;simpa using u)) n4;rw[asX aC]at lX;have ud:=ay.rep oc _ (tW hle (hp.refl β) _ _ lX);have fB:=oc.yd (P:=G.P) (dk:=[]) (by simp);refine Calls.mono (cM _ w O1 β _ fB ud) ?_;rintro e w' ⟨v,he,r',σ2,aU,β',⟨qj,jI⟩,kD,e1⟩;subst qj jI;have mZ:bY G cx I β az w':=an.stay (λb U=>e1.frame b U (by simp[nY,u2,Y.ids])) e1.size e1.tape e1.os e1.output e1.drawn;exact⟨v,he,I,β,au.iI r' v aB kD,mZ,cn.refl I,λ_ _=>rfl⟩
def atZ{α:Type}[Inhabited α]{T E sz d aV n:Nat}{k:IntKind}{i:Int}{c5:Bool}(rs:List α)(enc:α→List Q)(h:o.op=.indexAddr T x y)(u:env.ev x=.own d)(ag:env.ev y=.int k i)(Z:σ.get d=some (.slice aV sz (rs.map enc) n c5))(aQ:kV G.P T E sz)
  (hi:0≤i∧i<rs.length):Yields G o env.ev σ [] [d] (.ptr d (i.toNat*sz)):=
 .pure λaz cx I β w aZ cf an hop=>by
  have h1:=hop x (by simp[h,Op.operands]);rw[u]at h1
  have D:=hop y (by simp[h,Op.operands]);rw[ag]at D;have D:=jW D
  simp only[au]at h1;obtain⟨h1,X⟩:=h1;have cC:=an.cw d _ (by rw[cf d (by simp)];exact Z);simp only[aY,length_map]at cC;have bL:i.toNat<rs.length:=by omega
  rcases cC with q|⟨_,q,_⟩|⟨b,aO,arr,ak,ar,_⟩
  ·rw[h1,q]at X;simp[iD]at X
  ·have:rs=[]:=by simpa using q
   subst this;simp at bL
  ·refine⟨.pointer (some ⟨b,i.toNat*sz,none⟩),?_,by simp only[au];exact⟨b,by rw[ak];rfl,rfl⟩⟩;have aJ:∀w,(underlying T).run G.P w=.ok (.slice E) w:=λw=>by simp[underlying,program,Sem.run,aQ.gY]
   rw[ak]at h1;simp[execOp,h,h1,D,Instr.indexAt,asIntOf,aJ,hi,aQ.size,mc]
def PG{G:ch}{cx:eW}{I:bs}{β:Nat→Value}{σ:Y}{w:World}(an:bY G cx I β σ w){d T sz k b:Nat}{c5:Bool}{xs:List (List Q)}(Z:σ.get d=some (.slice T sz xs k c5))(U:b1 (β d)=some b):
  ∃aO arr,β d=.slice (some ⟨b,0,none⟩) xs.length aO∧xs.length≤aO∧aO≤maxLen∧w.heap[b]?=some (.cells arr T (0,0))∧arr.size=aO*sz∧cV I xs.flatten (arr.toList.take (xs.length*sz))∧(∀e∈xs,e.length=sz)∧k≤xs.length∧
   (c5=true→∀o,o<xs.length*sz→I b o=arr[o]?)∧(∀o,k*sz≤o→I b o=none)∧Place cx b∧bW I β (xs.flatten++List.replicate (arr.size-xs.length*sz) .e9) arr.toList:=by
 have ai:=an.cw d _ Z;simp only[aY]at ai;rcases ai with q|⟨q,_⟩|⟨aP,aO,arr,ak,ar,aM,aK,be,bJ,b8,cT,dD,eB,fm⟩
 ·rw[q]at U;simp[b1]at U
 ·rw[q]at U;simp[b1]at U
 ·have:aP=b:=by rw[ak]at U;simpa [b1]using U
  subst this;refine⟨aO,arr,ak,ar,aM,aK,be,bJ,b8,cT,dD,eB,fm,?_⟩;have e:arr.toList=arr.toList.take (xs.length*sz)++arr.toList.drop (xs.length*sz):=(take_append_drop _ _).symm;rw[e];refine rF _ _ _ _ (cV.rep β _ _ bJ) ?_;have aT:∀(l:dZ),bW I β (List.replicate l.length .e9) l:=by
   intro l;induction l with
   |nil=>simp[bW]
   |cons v r bg=>simp only[length_cons,List.replicate_succ,bW];exact⟨v,r,rfl,by simp[au],bg⟩
  have:=aT (arr.toList.drop (xs.length*sz));simpa using this
def at8{α:Type}[Inhabited α]{T aV:TypeId}{n d p sz k off:Nat}{c5 dG:Bool}{i:Int}(rs:List α)(enc:α→List Q)(h:o.op=.load T x)(u:env.ev x=.ptr d p)(Z:σ.get d=some (.slice aV sz (rs.map enc) k c5))(aC:p=i.toNat*sz+off)
  (hi:0≤i∧i<rs.length) (aQ:dL G.P T n dG) (bM:(dG||Nat.blt 0 n)=true) (aR:Nat.ble (off+n) sz=true) {a:Q} (ay:pe dG n ((enc (el rs i)).drop off)=some a):Yields G o env.ev σ [] [d] a:=
 .pure λaz cx I β w aZ cf an hop=>by
  have aR:off+n≤sz:=by simpa using aR
  have h1:=hop x (by simp[h,Op.operands]);rw[u]at h1
  simp only[au]at h1;obtain⟨b,h1,D⟩:=h1;obtain⟨aO,arr,ak,ar,aM,aK,be,bJ,b8,cT,dD,eB,fm,qC⟩:=PG an (by rw[cf d (by simp)];exact Z) h1;have bL:i.toNat<rs.length:=by omega
  obtain⟨A,B,dW,eg,_⟩:=ML (I:=I) (rs.map enc) i.toNat b8 (by simpa using bL);have nc:(rs.map enc).getD i.toNat []=enc (el rs i):=by
   simp[getD_eq_getElem?_getD,bL,el]
  rw[nc]at dW;have hz:(enc (el rs i)).length=sz:=b8 _ (by rw[←nc,getD_eq_getElem?_getD,List.getElem?_eq_getElem (by simpa using bL)];exact List.getElem_mem _)
  obtain⟨v,gJ,gA⟩:=HN aQ (λe=>by subst e;simpa using bM) (off:=p) aK qC (by
   rw[dW];simp only[length_append,eg,hz];omega)
  refine⟨v,by simp[execOp,h,D,Instr.loadAt,Instr.sureAddr,gJ],?_⟩;have e:((List.map enc rs).flatten++List.replicate (arr.size-(List.map enc rs).length*sz) Q.e9).drop p=(enc (el rs i)).drop off++(B++List.replicate (arr.size-(List.map enc rs).length*sz) Q.e9):=by
   rw[dW,aC,List.append_assoc,List.append_assoc,←drop_drop,←eg,drop_left,drop_append_of_le_length (by omega)]
  rw[e]at gA;have e2:pg dG n ((enc (el rs i)).drop off++(B++List.replicate (arr.size-(List.map enc rs).length*sz) Q.e9))=pg dG n ((enc (el rs i)).drop off):=by
   have aH:n≤((enc (el rs i)).drop off).length:=by simp;omega
   cases dG with
   |true=>simp only[pg,cond_true];rw[take_append_of_le_length aH]
   |false=>
    simp only[pg,cond_false];have GV:0<n:=by simpa using bM
    cases af:(enc (el rs i)).drop off with
    |nil=>rw[af]at aH;simp at aH;omega
    |cons z t=>rfl
  rw[e2,Fk ay]at gA;exact gA
def Nq{I:bs}{β:Nat→Value}{a:List Q}{v:dZ}(af:lT a=true)(h:bW I β a v):cV I a v:=bW.closed a v af h
def auC{α:Type}[Inhabited α]{T aV d p sz k off n:Nat}{c5 dG:Bool}{a:Q}{ca:List Q}{i:Int}{ev:Operand→Q}(rs:List α)(enc:α→List Q)(r':α)(h:o.op=.store T x y)(u:ev x=.ptr d p)(ag:ev y=a)(Z:σ.get d=some (.slice aV sz (rs.map enc) k c5))(aC:p=i.toNat*sz+off)
  (hi:0≤i∧i<rs.length) (hk:(k:Int)≤i) (aQ:dL G.P T n dG) (bm:a.flat=true) (xo:sO a=some ca) (hX:lT ca=true) (aR:Nat.beq ca.length n=true) (aH:Nat.ble (off+n) sz=true) (aB:iZ (enc (el rs i)) off ca=enc r') :
  h5 G o ev σ [d] [] (λr az=>r=.undef∧az=σ.set d (.slice aV sz ((rs.set i.toNat r').map enc) k false)):=by
 intro cx I β w aZ an hop;have aR:ca.length=n:=by simpa using aR
 have aH:off+n≤sz:=by simpa using aH
 have h1:=hop x (by simp[h,Op.operands]);rw[u]at h1
 have D:=hop y (by simp[h,Op.operands]);rw[ag]at D
 simp only[au]at h1;obtain⟨b,h1,aj⟩:=h1;obtain⟨aO,arr,ak,ar,aM,aK,be,bJ,b8,cT,dD,eB,fm,qC⟩:=PG an Z h1;obtain⟨f1,f2⟩:=ate bm D;rw[BC xo]at f1;have ji:=sx _ _ f1;have bL:i.toNat<rs.length:=by omega
 obtain⟨A,B,dW,eg,s3⟩:=ML (I:=I) (rs.map enc) i.toNat b8 (by simpa using bL);have nc:(rs.map enc).getD i.toNat []=enc (el rs i):=by simp[getD_eq_getElem?_getD,bL,el]
 rw[nc]at dW;have hz:(enc (el rs i)).length=sz:=b8 _ (by rw[←nc,getD_eq_getElem?_getD,List.getElem?_eq_getElem (by simpa using bL)];exact List.getElem_mem _);have akV:(enc r').length=sz:=by rw[←aB];simp only[iZ,length_append,length_take,length_drop,hz];omega
 simp only[length_map]at ak ar be bJ cT;have lE:i.toNat*sz+sz≤rs.length*sz:=by
  have:=Nat.mul_le_mul_right sz (show i.toNat+1≤rs.length from bL)
  rwa [Nat.add_mul,Nat.one_mul]at this
 have aqN:rs.length*sz≤arr.size:=by rw[be];exact Nat.mul_le_mul_right sz ar
 have mZ:=Hl (P:=G.P) aK (aZ y).cells.toList (off:=p) (by omega) f2;have My:(aZ y).cells.size=ca.length:=by simpa using ji
 have eY:(execOp aZ o).run G.P w=.ok .skip (w.setRow b (iZ arr.toList p (aZ y).cells.toList).toArray):=by
  have aJ:¬((aZ y).cells.size≠n):=by omega
  simp[execOp,h,aj,Instr.storeAt,Instr.sureAddr,storeVar,aQ.size,aJ,mZ]
 rw[eY];refine⟨.undef,_,I,β,⟨rfl,rfl⟩,by simp[au,bc],?_,cn.refl I,λ_ _=>rfl,λx u=>by rw[asB,if_neg (by simpa using u)]⟩;have aqC:k*sz≤p:=by
  have:k≤i.toNat:=by omega
  have:=Nat.mul_le_mul_right sz this;omega
 refine an.turn (d:=d) (gK.setRow w b _) fm (λx u=>by rw[asB,if_neg u]) (λx u X e=>an.dA x d X (by rw[Z];rfl) u b e (j8 h1)) (cn.refl I) (λ_ _ _=>rfl)
  (λo v aa=>?_) (an.tu aK) (λ_ _=>rfl) (.inr rfl) (hp.refl β) (.inl h1) λaX cC=>?_
 ·
  have ai:o<k*sz:=by
   by_cases ai:o<k*sz
   ·exact ai
   ·rw[eB o (by omega)]at aa;cases aa
  have bu:=an.good b o v aa;simp only[World.cell?,aK]at bu;simp only[World.cell?,setRow_heap w b arr _ aV _ aK];simp only[Option.isSome_none,Bool.false_eq_true,if_false]at bu ⊢;rw[←bu];have:o<p:=by omega
  simp only[iZ,getElem?_toArray];rw[List.append_assoc,List.getElem?_append_left (by simp;omega),getElem?_take,if_pos this,Array.getElem?_toList]
 ·rw[asB,if_pos rfl,Z]at cC;injection cC with cC
  subst cC;simp only[aY,length_map,length_set];refine .inr (.inr ⟨b,aO,_,ak,ar,aM,setRow_heap w b arr _ aV _ aK,?_,?_,?_,cT,(λh=>by cases h),eB,fm⟩)
  ·simp only[iZ,size_toArray,length_append,length_take,length_drop,Array.length_toList];omega
  ·have yS:=Nq (I:=I) hX f1;have key:((rs.set i.toNat r').map enc).flatten=A++(iZ (enc (el rs i)) off ca)++B:=by
    rw[List.map_set,s3,aB]
   rw[key];rw[dW]at bJ;obtain⟨hy,jA,aJ,gJ,gA⟩:=(ox _ _ _).1 bJ;obtain⟨wQ,ar9,e2,mM,pr⟩:=(ox _ _ _).1 gJ;have m1:=qa _ _ mM;have m2:=qa _ _ pr;have sR:=qa _ _ gA;have gb:enc (el rs i)=(enc (el rs i)).take off++((enc (el rs i)).drop off):=(take_append_drop _ _).symm;rw[gb]at pr;obtain⟨vv,asa,gU,wE,vp⟩:=(ox _ _ _).1 pr;have alh:=qa _ _ wE;have i1:(enc (el rs i)).drop off=((enc (el rs i)).drop off).take n++(enc (el rs i)).drop (off+n):=by
    rw[←drop_drop];exact(take_append_drop _ _).symm
   rw[i1]at vp;obtain⟨Nv,u8,oy,alS,alT⟩:=(ox _ _ _).1 vp;have ali:=qa _ _ alS;have alp:vv.length=off:=by rw[alh,length_take];omega
   have alq:Nv.length=n:=by rw[ali,length_take,length_drop];omega
   have mK:(iZ arr.toList p (aZ y).cells.toList).take (rs.length*sz)=wQ++(vv++(aZ y).cells.toList++u8)++jA:=by
    have ay:arr.toList=(wQ++(vv++(Nv++u8))++jA)++arr.toList.drop (rs.length*sz):=by
     conv=>lhs;rw[←take_append_drop (rs.length*sz) arr.toList]
     rw[aJ,e2,gU,oy]
    have eo:(wQ++vv).length=p:=by rw[length_append,m1,alp,eg,aC]
    have mY:(aZ y).cells.toList.length=n:=by rw[ji,aR]
    have tQ:iZ arr.toList p (aZ y).cells.toList=(wQ++vv)++(aZ y).cells.toList++(u8++(jA++arr.toList.drop (rs.length*sz))):=by
     unfold iZ;rw[mY];have GJ:arr.toList=(wQ++vv)++(Nv++(u8++(jA++arr.toList.drop (rs.length*sz)))):=by
      conv=>lhs;rw[ay]
      simp only[List.append_assoc]
     have t1:arr.toList.take p=wQ++vv:=by rw[GJ,←eo,take_left]
     have t2:arr.toList.drop (p+n)=u8++(jA++arr.toList.drop (rs.length*sz)):=by
      rw[←drop_drop]
      conv=>lhs;rw[GJ]
      rw[←eo,drop_left,←alq,drop_left]
     rw[t1,t2]
    rw[tQ];have eA:((wQ++vv)++(aZ y).cells.toList++(u8++jA)).length=rs.length*sz:=by
     have iy:=congrArg List.length (aJ.trans (by rw[e2,gU,oy]));simp only[length_take,length_append,Array.length_toList]at iy;simp only[length_append,mY];omega
    have:(wQ++vv)++(aZ y).cells.toList++(u8++(jA++arr.toList.drop (rs.length*sz)))=((wQ++vv)++(aZ y).cells.toList++(u8++jA))++arr.toList.drop (rs.length*sz):=by simp
    rw[this,←eA,take_left];simp
   rw[mK];refine(ox _ _ _).2 ⟨_,_,rfl,(ox _ _ _).2 ⟨_,_,rfl,mM,?_⟩,gA⟩;unfold iZ;rw[aR];exact(ox _ _ _).2 ⟨_,_,rfl,(ox _ _ _).2 ⟨_,_,rfl,wE,yS⟩,alT⟩
  ·intro e he;obtain⟨z,i4,rfl⟩:=List.mem_map.1 he;rcases List.mem_or_eq_of_mem_set i4 with i4|rfl
   ·exact b8 _ (List.mem_map_of_mem i4)
   ·exact akV
end ops
end Go.Proofs.YtmnbolcmepihlaaGreat
namespace Go.Proofs.YtmnbolcmepihlaaGreat
set_option linter.all false
open Go List
section
variable {P:Program}{w:World}{d:Nat}{xs bx:iY}{f:Field}{mB:List Field}{T off:Nat}{r:Bool}
end
def as6{G:ch}{c:Code}{bq:Exit→ah→Y→Prop}{env:ah}{σ:Y}(h:aS G c (λe env σ=>∃dB σ2,cr G env σ dB σ2∧bq e dB σ2) env σ):aS G c bq env σ:=by
 refine asT λcx a w aB=>wp_mono (aS.use h cx a w aB) ?_;rintro e gE w' ⟨gy,az,nE,dB,σ2,an,bV⟩;exact⟨dB,σ2,an.rel nE,bV⟩
def aaV{α:Type}(enc:α→List Q)(h:∀r,(enc r).all Q.one=true)(l:List α):(l.map enc).flatten.all Q.one=true:=by
 induction l with
 |nil=>rfl
 |cons x r bg=>rw[map_cons,flatten_cons,List.all_append,h x,bg];rfl
def b7.slice{α:Type}{G:ch}{o:Oper}{env:ah}{σ:Y}{T E sz:Nat}{x:Operand}{f:Bool}{lo hi:Option Operand}(rs:List α)(enc:α→List Q)(a b:Nat)(h:o.op=.slice T x lo hi none)(u:iw σ (env.ev x) (.bf f (rs.map enc)))(aQ:kV G.P T E sz)(eA:∀r,(enc r).length=sz)
  (hb:mm env.ev lo=(a:Int)) (GO:q5 env.ev rs.length hi=(b:Int)) (xF:vf env.ev lo) (Ee:vf env.ev hi) (hW:a≤b∧b≤rs.length) (R:dg) (cf:∀az:Y,(∀d∈R,az.get d=σ.get d)→iw az (env.ev x) (.bf f (rs.map enc))) :
  Yields G o env.ev σ [] R (.bf false (((rs.take b).drop a).map enc)):=by
 have GO:q5 env.ev (rs.map enc).length hi=(b:Int):=by rw[length_map];exact GO
 have:=bK.slice (G:=G) h u aQ (λe he=>by obtain⟨r,_,rfl⟩:=List.mem_map.1 he;exact eA r) xF Ee (by rw[hb,GO,length_map];omega) R cf;rw[hb,GO,Int.toNat_natCast,Int.toNat_natCast]at this
 rwa [map_drop,map_take]
def hl{P:Program}{T f off n O0:Nat}{dG:Bool}{mB:Array Field}(hu:P.underlying T=some (.struct mB))(bm:(mB[f]?).map (λg=>(g.type,g.offset))=some (O0,off))(bE:dL P O0 n dG)(aC:dG=false→n=1):gH P T f off n dG where
 pos:=aC
 run:=λcs w h=>by
  cases bu:mB[f]? with
  |none=>rw[bu]at bm;cases bm
  |some g=>
   rw[bu]at bm;simp only[Option.map_some,Option.some.injEq,Prod.mk.injEq]at bm;simp only[Instr.field,Sem.run_bind,run_underlying hu,Result.andThen_ok,bu,bm.1,bm.2,asAgg,Sem.run_pure];cases dG with
   |true=>simp[part,bE.agg,bE.size]
   |false=>
    have:=aC rfl;subst this;simp[part,bE.agg,Array.getD_eq_getD_getElem?,Array.getElem?_eq_getElem (show off<cs.size by omega)]
end Go.Proofs.YtmnbolcmepihlaaGreat
namespace Go.Proofs.YtmnbolcmepihlaaGreat
set_option linter.all false
open Go List
section win
variable {G:ch}{o:Oper}{ev:Operand→Q}{σ:Y}
def aY.aeR{cx:eW}{I:bs}{β:Nat→Value}{w:World}{d T sz k:Nat}{xs:List (List Q)}(h:aY cx I β w d (.slice T sz xs k true))(hk:k=xs.length):aY cx I β w d (.win T sz xs):=by
 simp only[aY]at h ⊢;rcases h with q|⟨q,ar,_⟩|⟨b,aO,arr,ak,ar,aM,aK,be,bJ,b8,cT,dD,eB,fm⟩
 ·exact .inl q
 ·exact .inr (.inl ⟨q,ar⟩)
 ·refine .inr (.inr ⟨b,0,aO,arr,ak,ar,aM,aK,λ_=>by omega,?_,b8,λ_ o ai=>eB o (by rw[hk];omega),fm⟩);refine zr xs 0 _ bJ λj v aa=>?_;rw[Nat.zero_add];rw[getElem?_take]at aa;split at aa
  ·rename_i bL;rw[dD trivial j bL];simpa using aa
  ·cases aa
def cr.win{env:ah}{d T sz k:Nat}{xs:List (List Q)}(Z:σ.get d=some (.slice T sz xs k true))(hk:k=xs.length):cr G env σ env (σ.set d (.win T sz xs)):=λcx I β a w h b3=>by
 refine⟨I,β,{h with cw:=λx aX u=>?_,dA:=λx y u ag=>?_},b3⟩
 ·rw[asB]at u;split at u
  ·rename_i e;subst e;rw[Z]at u;cases u;exact(h.cw _ _ Z).aeR hk
  ·exact h.cw x aX u
 ·have:∀x,(Y.get (σ.set d (.win T sz xs)) x).isSome→(σ.get x).isSome:=λx u=>by
   rw[asB]at u;split at u
   ·rename_i e;subst e;rw[Z];rfl
   ·exact u
  exact h.dA x y (this x u) (this y ag)
def auD{T E sz aV d d2:Nat}{x:Operand}{lo:Option Operand}{xs:List (List Q)}(h:o.op=.slice T x lo none none)(u:ev x=.own d)(Z:σ.get d=some (.win aV sz xs))(aQ:kV G.P T E sz)(xF:vf ev lo)
  (hb:0≤mm ev lo∧mm ev lo≤xs.length) (hi:G.ids.contains d2=false) (af:(σ.minus [d]).clean [d2].contains=true) :
  h5 G o ev σ [d,d2] [d2] (λr az=>r=.own d2∧az=(d2,.win aV sz (xs.drop (mm ev lo).toNat))::σ.minus [d]):=by
 intro cx I β w aZ an hop;have eV:=hop x (by simp[h,Op.operands]);rw[u]at eV;simp only[au]at eV;obtain⟨eV,ef⟩:=eV;generalize aH:mm ev lo=l at hb ⊢;have oc:bY G cx I β (σ.minus [d]) w:=an.sub λx aX u=>by rw[asG]at u;split at u<;>first|cases u|exact u
 have oG:=oc.qy (dI:=[d2]) (σ2:=(d2,.win aV sz (xs.drop l.toNat))::σ.minus [d]) (env:=[]) ⟨λx u=>by rw[asw,if_neg (λe=>u (by simp[e]))],λx u=>by simp at u;subst u;simpa using hi,rfl,af,λx u cz n h=>by simp at u;subst u;rw[asw,if_pos rfl]at h;cases h⟩;have ig:∀x,x≠d2→gI β [d2] x=β x:=λx u=>by simp[gI,u]
 have ai:=an.cw d _ Z;simp only[aY]at ai;have run:∀(a:Option Addr) (c:Nat),aZ x=.slice a xs.length c→xs.length≤c→(execOp aZ o).run G.P w=.ok (.value (.slice (if c=l.toNat then a else a.map (·.add (l.toNat*sz))) (xs.length-l.toNat) (c-l.toNat))) w:=by
  intro a c h1 D;have aJ:(Instr.sliceBounds true xs.length c (lo.map aZ) none none).run G.P w=.ok (l.toNat,xs.length,c) w:=by
   cases lo with
   |none=>
    simp only[mm]at aH;subst aH;simp[Instr.sliceBounds]
   |some y=>
    obtain⟨k,n,ak,ar⟩:=zY xF (hop y (by simp[h,Op.operands]));simp only[mm,ak]at aH;subst aH;have:=run_sliceBound (P:=G.P) (k:=k) (code:=.sliceB) (w:=w) hb;simp[Instr.sliceBounds,ar,this]
  have e2:∀w,(underlying T).run G.P w=.ok (.slice E) w:=λw=>run_underlying aQ.gY w;simp only[execOp,h,Instr.sliceAt,Instr.slice,h1,Sem.run_bind,e2,Result.andThen_ok,aJ,aQ.size,Sem.run_pure,Option.map_none]
 have fin:∀(dF:Value),(execOp aZ o).run G.P w=.ok (.value dF) w→iD dF=true→(∀b∈c2 dF,b∈c2 (β d))→aY cx I (g7 β d2 dF) w d2 (.win aV sz (xs.drop l.toNat))→
   m3 G.P (λv w'=>∃(bN:Q) (az:Y) (aU:bs) (β':Nat→Value),(bN=.own d2∧az=(d2,cc.win aV sz (xs.drop l.toNat))::σ.minus [d])∧au aU β' bN v∧bY G cx aU β' az w'∧cn I aU∧(∀x,x∉[d2]→β' x=β x)∧(∀x,x∉[d,d2]→az.get x=σ.get x)) ((execOp aZ o).run G.P w):=by
  intro dF eY iA fL cC;rw[eY];refine⟨.own d2,_,I,g7 β d2 dF,⟨rfl,rfl⟩,by simp only[au,gL,iA,and_self],?_,cn.refl I,λx u=>g5 β dF (by simpa using u),λx u=>?_⟩
  ·have hX:∀x aX,(σ.minus [d]).get x=some aX→x≠d2∧nV [d2].contains aX=false:=λx aX u=>by
    obtain⟨bl,b2⟩:=asF af x aX u;exact⟨by simpa using bl,b2⟩
   have uO:∀x,[d2].contains x=false→g7 β d2 dF x=β x:=λx u=>g5 β dF (by simpa using u);refine{oc with cw:=λx aX u=>?_,dA:=λx y u ag cb b=>?_,keep:=λx u=>?_}
   ·rw[asw]at u;split at u
    ·rename_i e;subst e;cases u;exact cC
    ·obtain⟨bl,b2⟩:=asF af x aX u;exact(oc.cw x aX u).beta uO bl b2
   ·have zU:∀x,(Y.get ((d2,cc.win aV sz (xs.drop l.toNat))::σ.minus [d]) x).isSome→x≠d2→(σ.get x).isSome∧x≠d:=λx u aR=>by
     rw[asw,if_neg (Ne.symm aR),asG]at u;split at u
     ·cases u
     ·rename_i hm;exact⟨u,by simpa using hm⟩
    by_cases gi:x=d2
    ·subst gi;have zj:y≠x:=λe=>cb e.symm;obtain⟨dW,eg⟩:=zU y ag zj;rw[gL,g5 β dF zj];intro aJ e2;exact an.dA y d dW (by rw[Z];rfl) eg b e2 (fL b aJ)
    ·obtain⟨dW,eg⟩:=zU x u gi;rw[g5 β dF gi];by_cases zj:y=d2
     ·subst zj;rw[gL];intro aJ e2;exact an.dA x d dW (by rw[Z];rfl) eg b aJ (fL b e2)
     ·obtain⟨t1,t2⟩:=zU y ag zj;rw[g5 β dF zj];exact an.dA x y dW t1 cb b
   ·have:x≠d2:=λe=>by subst e;rw[←Bool.not_eq_true]at hi;exact hi (by simpa using u)
    rw[g5 β dF this];exact an.keep x u
  ·have u:x≠d∧x≠d2:=by simpa using u
   rw[asw,if_neg (Ne.symm u.2),asG,if_neg (by simpa using u.1)]
 rcases ai with q|⟨q,rfl⟩|⟨b,gl,aO,arr,ak,ar,aM,aK,be,bJ,b8,cT,dD⟩
 ·rw[q]at eV;rw[eV]at ef;simp[iD]at ef
 ·have akj:l=0:=by simp at hb;omega
  subst akj;refine fin _ (run none 0 (by rw[eV,q];rfl) (by simp)) rfl (by simp[c2,b1]) ?_;simp only[aY,gL];exact .inr (.inl ⟨by simp,by simp⟩)
 ·have A7:l.toNat≤xs.length:=by omega
  refine fin _ (run _ aO (by rw[eV,ak]) ar) rfl ?_ ?_
  ·intro aP ha;rw[ak];split at ha
   ·exact ha
   ·simp only[Option.map_some,mc]at ha;exact ha
  ·simp only[aY,gL];have eA:(xs.drop l.toNat).length=xs.length-l.toNat:=by simp
   refine .inr (.inr ?_);by_cases hX:aO=l.toNat
   ·have A9:xs.drop l.toNat=[]:=drop_eq_nil_of_le (by omega);refine⟨b,gl,aO-l.toNat,arr,by rw[if_pos hX,eA],by rw[eA];omega,by omega,aK,λcA=>by omega,by rw[A9];trivial,by rw[A9];simp,λcA=>by omega,dD⟩
   ·refine⟨b,gl+l.toNat*sz,aO-l.toNat,arr,?_,by rw[eA];omega,by omega,aK,λcA=>?_,HV _ _ _ b8 bJ,λe he=>b8 e (mem_of_mem_drop he),λcA o ai=>?_,dD⟩
    ·rw[if_neg hX,eA];simp[mc]
    ·rw[eA]at cA;have:=be (by omega);have e:gl+l.toNat*sz+(aO-l.toNat)*sz=gl+aO*sz:=by
      rw[Nat.add_assoc,←Nat.add_mul];congr 2;omega
     omega
    ·rw[eA]at cA ai;refine cT (by omega) o ?_;have e:gl+l.toNat*sz+(xs.length-l.toNat)*sz=gl+xs.length*sz:=by
      rw[Nat.add_assoc,←Nat.add_mul];congr 2;omega
     omega
def Wg{I:bs}{b sz:Nat}:∀{xs bx:List (List Q)} {o:Nat},(∀e∈xs,e.length=sz)→(jC I b (xs++bx) o↔jC I b xs o∧jC I b bx (o+xs.length*sz))
 |[],bx,o,_=>by simp[jC]
 |x::r,bx,o,h=>by
  simp only[cons_append,jC,length_cons];rw[Wg (λe he=>h e (by simp[he])),h x (by simp),Nat.add_mul,Nat.one_mul,and_assoc,Nat.add_assoc,Nat.add_comm sz]
def anz{P:Program}(w:World)(t ty e:TypeId)(i:TypeInfo)(bE:P.underlying t=some (.slice e))(hi:P.info? e=some i)
  (g off zT M7:Nat) (qJ:iY) (bu:w.heap[g]?=some (.cells qJ e (0,0)))
  (a:Addr) (m c:Nat) (news:dZ) (aH:news.length=m*i.size) (rM:∀j aA,news[j]?=some aA→w.cell? (a.add j)=some aA) (h1:∀aA∈news,aA.oneCell'=true)
  (oZ:zT+m≤M7) (yT:off+zT*i.size+news.length≤qJ.size) :
  (Builtin.append_ #[t,t] ty #[.slice (some ⟨g,off,none⟩) zT M7,.slice (some a) m c]).run P w =
   .ok (.slice (some ⟨g,off,none⟩) (zT+m) M7) (w.setRow g (qJ.toList.take (off+zT*i.size)++news++qJ.toList.drop (off+zT*i.size+news.length)).toArray):=by
 have bm:=run_firstCells_some (P:=P) w i.size m a m c news aH rM;have mZ:=run_storeCells_at P g (off+zT*i.size) e news 0 qJ w bu (by simpa using yT) h1;simp only[Nat.add_zero]at mZ;simp[Builtin.append_,run_underlying bE,Go.sizeOf,typeInfo,hi,Builtin.lenOf,oZ,bm,mc,mZ]
def auz{s x:Operand}{T E sz bytes d d2 aV:Nat}{f:Bool}{xs bx:List (List Q)}(h:o.op=.call ⟨.builtin .append,#[s,x],#[T,T]⟩)(X:ev s=.own d)(Z:σ.get d=some (.win aV sz xs))(u:iw σ (ev x) (.bf f bx))(aQ:kR G.P T E sz bytes)(iP:aV=E)
  (uZ:∀e∈bx,e.length=sz) (h1:bx.flatten.all Q.one=true) (U:(xs.length+bx.length)*bytes≤140737488355328) (qg:xs.length+bx.length≤maxLen) (hi:G.ids.contains d2=false)
  (af:(σ.minus [d]).clean [d2].contains=true) :
  h5 G o ev σ [d,d2] [d2] (λr az=>r=.own d2∧az=(d2,.win aV sz (xs++bx))::σ.minus [d]):=by
 subst iP;intro cx I β w aZ an hop;have eV:=hop s (by simp[h,Op.operands,Call.operands]);rw[X]at eV;simp only[au]at eV;obtain⟨eV,ef⟩:=eV;have cH:=u.rep an _ (hop x (by simp[h,Op.operands,Call.operands]));simp only[au,bc]at cH;obtain⟨a,c,cH,gi,k9,_,ql⟩:=cH;obtain⟨i,z,hE,i4,h9,od,u0⟩:=aQ.info;have rM:∃news:dZ,cV I bx.flatten news∧(bx.length=0∨∃ad:Addr,a=some ad∧∀j aA,news[j]?=some aA→w.cell? (ad.add j)=some aA):=by
  rcases ql with rfl|⟨b,o,rfl,aB⟩
  ·exact⟨[],rfl,.inl rfl⟩
  ·obtain⟨vs,ak,ar⟩:=Bo an.good bx o aB;exact⟨vs,ak,.inr ⟨_,rfl,λj aA hu=>by rw[mc];exact ar j aA hu⟩⟩
 obtain⟨news,rL,nC⟩:=rM;have lD:news.length=bx.length*sz:=by rw[qa _ _ rL];exact zo bx uZ
 have oU:=PC _ _ h1 rL;have mD:xs.length+bx.length≤9223372036854775807:=by simp only[maxLen]at qg;omega
 have oc:bY G cx I β (σ.minus [d]) w:=an.sub λx aX u=>by rw[asG]at u;split at u<;>first|cases u|exact u
 have oG:=oc.qy (dI:=[d2]) (σ2:=(d2,.win aV sz (xs++bx))::σ.minus [d]) (env:=[]) ⟨λx u=>by rw[asw,if_neg (λe=>u (by simp[e]))],λx u=>by simp at u;subst u;simpa using hi,rfl,af,λx u cz n h=>by simp at u;subst u;rw[asw,if_pos rfl]at h;cases h⟩;have ig:∀x,x≠d2→gI β [d2] x=β x:=λx u=>by simp[gI,u]
 have fin:∀(dF:Value) (w':World) (b:Nat) (aU:bs),(execOp aZ o).run G.P w=.ok (.value dF) w'→iD dF=true→gK w w' b→Place cx b→(∀x,((σ.minus [d]).get x).isSome→b∉c2 (β x))→
   cn I aU→(∀aP,aP≠b→∀o,aU aP o=I aP o)→
   (∀(o:Nat) v,aU b o=some v→w'.cell? ⟨b,o,none⟩=some v)→aU b none=none→(b1 dF=some b∨c2 dF=[])→aY cx aU (g7 β d2 dF) w' d2 (.win aV sz (xs++bx))→
   m3 G.P (λv w'=>∃(bN:Q) (az:Y) (aU:bs) (β':Nat→Value),(bN=.own d2∧az=(d2,cc.win aV sz (xs++bx))::σ.minus [d])∧au aU β' bN v∧bY G cx aU β' az w'∧cn I aU∧(∀x,x∉[d2]→β' x=β x)∧(∀x,x∉[d,d2]→az.get x=σ.get x)) ((execOp aZ o).run G.P w):=by
  intro dF w' b aU eY iA hk aC qQ hle g9 zX y9 fL cC;rw[eY];refine⟨.own d2,_,aU,g7 β d2 dF,⟨rfl,rfl⟩,by simp only[au,gL,iA,and_self],?_,hle,λx u=>g5 β dF (by simpa using u),λx u=>?_⟩
  ·refine oG.turn (d:=d2) hk aC (λ_ _=>rfl) (λx u mD e=>?_) hle g9 zX y9 (λx u=>by rw[g5 β dF u,ig x u]) (.inl (by simpa using hi)) (λx=>?_) (by rw[gL];exact fL) (λaX mL=>?_)
   ·rw[asw,if_neg (Ne.symm u)]at mD;rw[ig x u]at e;exact qQ x mD e
   ·by_cases u:x=d2
    ·left;simp[gI,u]
    ·right;rw[g5 β dF u,ig x u]
   ·rw[asw,if_pos rfl]at mL;injection mL with mL
    subst mL;exact cC
  ·have u:x≠d∧x≠d2:=by simpa using u
   rw[asw,if_neg (Ne.symm u.2),asG,if_neg (by simpa using u.1)]
 have other:∀b,b1 (β d)=some b→∀x,((σ.minus [d]).get x).isSome→b∉c2 (β x):=λb fL x u e=>by
  rw[asG]at u;split at u
  ·cases u
  ·rename_i oH;exact an.dA x d u (by rw[Z];rfl) (by simpa using oH) b e (j8 fL)
 have tq:∀x,((σ.minus [d]).get x).isSome→w.heap.size∉c2 (β x):=λx u e=>by
  obtain⟨aX,u⟩:=Option.isSome_iff_exists.1 u;exact absurd (oc.sL u e) (by omega)
 have sM:∀ms,ms<xs.length+bx.length→xs.length+bx.length≤grownCap w (xs.length+bx.length) ms aV∧grownCap w (xs.length+bx.length) ms aV≤maxLen:=λms _=>⟨grownCap_ge _ _ _ _,grownCap_le_maxLen _ _ _ _ qg⟩;have sN:∀aX,gK w (w.drew.alloc aX) w.heap.size:=λaX=>(gK.alloc w.drew aX).drew
 have RA:∀(h0:dZ) (aO:Nat),cV I xs.flatten h0→h0.length=xs.length*sz→(∀e∈xs,e.length=sz)→xs.length+bx.length≤aO→aO≤maxLen→
   (execOp aZ o).run G.P w=.ok (.value (.slice (some ⟨w.heap.size,0,none⟩) (xs.length+bx.length) aO)) (w.drew.alloc (.cells (h0.toArray++news.toArray++Builtin.zeroCells z.cells (aO-(xs.length+bx.length))) aV))→
   m3 G.P (λv w'=>∃(bN:Q) (az:Y) (aU:bs) (β':Nat→Value),(bN=.own d2∧az=(d2,cc.win aV sz (xs++bx))::σ.minus [d])∧au aU β' bN v∧bY G cx aU β' az w'∧cn I aU∧(∀x,x∉[d2]→β' x=β x)∧(∀x,x∉[d,d2]→az.get x=σ.get x)) ((execOp aZ o).run G.P w):=by
  intro h0 aO oa k1 DX qh qO eY;have eA:(h0++news).length=(xs++bx).length*sz:=by rw[length_append,length_append,k1,lD,Nat.add_mul]
  let aU:bs:=I.on λb o=>if b=w.heap.size then(h0++news)[o]? else I b o
  have hle:cn I aU:=λb o v aa=>by
   cases o with
   |none=>exact aa
   |some o=>
   show(if b=w.heap.size then _ else I b o)=some v;split
   ·rename_i e;subst e;rw[an.iF (Nat.le_refl _)]at aa;cases aa
   ·exact aa
  have Kd:∀o:Nat,aU w.heap.size o=(h0++news)[o]?:=λo=>by show(if _ then _ else _)=_;rw[if_pos rfl]
  have aaX:(h0.toArray++news.toArray++Builtin.zeroCells z.cells (aO-(xs.length+bx.length))).toList=(h0++news)++(Builtin.zeroCells z.cells (aO-(xs.length+bx.length))).toList:=by simp
  refine fin _ _ w.heap.size aU eY rfl (sN _) (.inl an.size) tq hle (λaP ha o=>by cases o with|none=>rfl|some o=>show(if _ then _ else _)=_;rw[if_neg ha]) (λo v aa=>?_) (an.iF (Nat.le_refl _) none) (.inl rfl) ?_
  ·rw[Kd]at aa;have sD:=heap_alloc_new w.drew (.cells (h0.toArray++news.toArray++Builtin.zeroCells z.cells (aO-(xs.length+bx.length))) aV);have sD:(w.drew.alloc (.cells (h0.toArray++news.toArray++Builtin.zeroCells z.cells (aO-(xs.length+bx.length))) aV)).heap[w.heap.size]?=some (.cells (h0.toArray++news.toArray++Builtin.zeroCells z.cells (aO-(xs.length+bx.length))) aV (0,0)):=sD;simp only[World.cell?,sD];have bL:=(List.getElem?_eq_some_iff.1 aa).1;have:((h0.toArray++news.toArray++Builtin.zeroCells z.cells (aO-(xs.length+bx.length))).toList)[o]?=some v:=by rw[aaX,List.getElem?_append_left bL];exact aa
   rw[Array.getElem?_toList]at this;exact this
  ·simp only[aY,gL];refine .inr (.inr ⟨w.heap.size,0,aO,_,by rw[length_append],by rw[length_append];exact qh,qO,heap_alloc_new w.drew _,λ_=>?_,?_,?_,λ_ o ai=>?_,.inl an.size⟩)
   ·simp only[Array.size_append,size_toArray,size_zeroCells,u0,k1,lD,←Nat.add_mul];rw[Nat.zero_add];refine Nat.mul_le_mul_right _ ?_;omega
   ·refine zr _ 0 (h0++news) ?_ λj v aa=>by rw[Nat.zero_add,Kd];exact aa
    rw[List.flatten_append];exact nT hle _ _ ((ox _ _ _).2 ⟨_,_,rfl,oa,rL⟩)
   ·intro e he;rcases List.mem_append.1 he with he|he
    ·exact DX e he
    ·exact uZ e he
   ·rw[Kd,List.getElem?_eq_none];rw[eA];omega
 have ai:=an.cw d _ Z;simp only[aY]at ai;rcases ai with q|⟨q,rfl⟩|⟨b,gl,aO,arr,ak,ar,aM,aK,be,bJ,b8,cT,dD⟩
 ·rw[q]at eV;rw[eV]at ef;simp[iD]at ef
 ·
  rcases Nat.eq_zero_or_pos bx.length with hm|hm
  ·have ag:bx=[]:=eq_nil_of_length_eq_zero hm;subst ag;refine fin (.slice none 0 0) w w.heap.size I (ov h ?_) rfl ⟨λ_ _ _=>rfl,Nat.le_refl _,rfl,rfl,rfl,Nat.le_refl _⟩ (.inl an.size) tq (cn.refl I) (λ_ _ _=>rfl) (λo v aa=>by rw[an.iF (Nat.le_refl _)]at aa;cases aa) (an.iF (Nat.le_refl _) none) (.inr rfl) ?_
   ·rw[eV,cH,q];cases a<;>simp[Builtin.append_,run_underlying aQ.gY,Go.sizeOf,typeInfo,hE,Builtin.lenOf,Builtin.firstCells,loadCells,loadCellsFrom]
   ·simp only[aY,gL];exact .inr (.inl ⟨trivial,rfl⟩)
  ·obtain⟨ad,rfl,kT⟩:=nC.resolve_left (by omega);have aB:=run_append_nil (P:=G.P) w T o.type aV i z aQ.gY hE i4 ad bx.length c news (by rw[h9];exact lD) kT hm (by simp at mD;omega) (by simp at U;rw[od];omega);obtain⟨cp,cG⟩:=sM 0 (by simp;exact hm);simp only[length_nil,Nat.zero_add]at cp cG;have:=RA [] (grownCap w bx.length 0 aV) rfl (by simp) (by simp) (by simpa using cp) cG;refine this ?_;have jI:=aB;rw[←cH,show(Value.slice none 0 0)=aZ s by rw[eV,q]]at jI;have:=ov h jI;simpa using this
 ·have fL:b1 (β d)=some b:=by rw[ak];rfl
  by_cases oZ:xs.length+bx.length≤aO
  ·rcases Nat.eq_zero_or_pos bx.length with hm|hm
   ·have ag:bx=[]:=eq_nil_of_length_eq_zero hm;subst ag;refine fin (.slice (some ⟨b,gl,none⟩) xs.length aO) w b I (ov h ?_) rfl ⟨λ_ _ _=>rfl,Nat.le_refl _,rfl,rfl,rfl,Nat.le_refl _⟩ dD (other b fL) (cn.refl I) (λ_ _ _=>rfl) (λo v aa=>an.good b o v aa) (an.tu aK) (.inl rfl) ?_
    ·rw[eV,cH,ak];cases a<;>simp[Builtin.append_,run_underlying aQ.gY,Go.sizeOf,typeInfo,hE,Builtin.lenOf,Builtin.firstCells,loadCells,loadCellsFrom,ar,storeCells]
    ·simp only[aY,gL,append_nil];exact .inr (.inr ⟨b,gl,aO,arr,rfl,ar,aM,aK,be,bJ,b8,cT,dD⟩)
   ·obtain⟨ad,rfl,kT⟩:=nC.resolve_left (by omega);have bL:xs.length<aO:=by omega
    have lE:=be bL;have yT:gl+xs.length*i.size+news.length≤arr.size:=by
     rw[h9,lD,Nat.add_assoc,←Nat.add_mul];have:=Nat.mul_le_mul_right sz oZ;omega
    have aB:=anz (P:=G.P) w T o.type aV i aQ.gY hE b gl xs.length aO arr aK ad bx.length c news (by rw[h9];exact lD) kT oU oZ yT;rw[h9]at aB yT;have tG:gl+xs.length*sz≤arr.toList.length:=by simp only[Array.length_toList];omega
    let aU:bs:=I.on λaP o=>if aP=b∧gl+xs.length*sz≤o∧o<gl+xs.length*sz+news.length then news[o-(gl+xs.length*sz)]? else I aP o
    have qQ:=cT bL
    have hle:cn I aU:=λaP o v aa=>by
     cases o with
     |none=>exact aa
     |some o=>
     show(if aP=b∧_∧_ then _ else I aP o)=some v;split
     ·rename_i e;obtain⟨aJ,e2,_⟩:=e;subst aJ;rw[qQ o e2]at aa;cases aa
     ·exact aa
    have mK:∀o,((arr.toList.take (gl+xs.length*sz)++news++arr.toList.drop (gl+xs.length*sz+news.length)).toArray)[o]?=if o<gl+xs.length*sz then arr[o]? else if o<gl+xs.length*sz+news.length then news[o-(gl+xs.length*sz)]? else arr[o]?:=by
     intro o;have G0:(arr.toList.take (gl+xs.length*sz)).length=gl+xs.length*sz:=by rw[length_take,Nat.min_eq_left tG]
     rw[getElem?_toArray];by_cases bl:o<gl+xs.length*sz
     ·rw[if_pos bl,List.append_assoc,List.getElem?_append_left (by omega),getElem?_take,if_pos bl,Array.getElem?_toList]
     ·rw[if_neg bl];by_cases b2:o<gl+xs.length*sz+news.length
      ·rw[if_pos b2,List.getElem?_append_left (by rw[length_append,G0];omega),List.getElem?_append_right (by omega),G0]
      ·rw[if_neg b2,List.getElem?_append_right (by rw[length_append,G0];omega),length_append,G0,getElem?_drop,Array.getElem?_toList];congr 1;omega
    refine fin _ _ b aU (ov h (by rw[eV,cH,ak];exact aB)) rfl (gK.setRow w b _) dD (other b fL) hle (λaP ha o=>by cases o with|none=>rfl|some o=>show(if _ then _ else _)=_;rw[if_neg (λe=>ha e.1)]) (λo v aa=>?_) (an.tu aK) (.inl rfl) ?_
    ·simp only[World.cell?,setRow_heap w b arr _ aV _ aK];have:((arr.toList.take (gl+xs.length*sz)++news++arr.toList.drop (gl+xs.length*sz+news.length)).toArray)[o]?=some v:=by
      rw[mK]
      change (if b=b∧gl+xs.length*sz≤o∧o<gl+xs.length*sz+news.length then news[o-(gl+xs.length*sz)]? else I b o)=some v at aa
      split at aa
      ·rename_i e;rw[if_neg (by omega),if_pos e.2.2];exact aa
      ·rename_i e;have bu:=an.good b o v aa;simp only[World.cell?,aK]at bu;have bu:arr[o]?=some v:=by simpa using bu
       split
       ·exact bu
       ·split
        ·rename_i bl b2;exact absurd ⟨rfl,by omega,b2⟩ e
        ·exact bu
     simpa using this
    ·simp only[aY,gL];refine .inr (.inr ⟨b,gl,aO,_,by rw[length_append],by rw[length_append];exact oZ,aM,setRow_heap w b arr _ aV _ aK,λ_=>?_,?_,?_,λcA o ai=>?_,dD⟩)
     ·have:(arr.toList.take (gl+xs.length*sz)++news++arr.toList.drop (gl+xs.length*sz+news.length)).length=arr.toList.length:=by
       simp only[length_append,length_take,length_drop];rw[Nat.min_eq_left tG];simp only[Array.length_toList]at tG ⊢;omega
      simp only[size_toArray,this,Array.length_toList];exact lE
     ·rw[Wg (λe he=>b8 e he)];refine⟨zq hle _ _ _ bJ,?_⟩;refine zr bx _ news (nT hle _ _ rL) λj v aa=>?_;have aT:=(List.getElem?_eq_some_iff.1 aa).1;show(if b=b∧_∧_ then _ else _)=_;rw[if_pos ⟨rfl,by omega,by omega⟩,show gl+xs.length*sz+j-(gl+xs.length*sz)=j by omega];exact aa
     ·intro e he;rcases List.mem_append.1 he with he|he
      ·exact b8 e he
      ·exact uZ e he
     ·rw[length_append,Nat.add_mul]at ai;show(if b=b∧_∧_ then _ else _)=_;rw[if_neg (by rw[lD];omega)];exact qQ o (by omega)
  ·
   have hm:0<bx.length:=by omega
   obtain⟨ad,rfl,kT⟩:=nC.resolve_left (by omega);obtain⟨h0,hI,fW⟩:=Bo an.good xs gl bJ;have qR:h0.length=xs.length*sz:=by rw[qa _ _ hI];exact zo xs b8
   have aB:=run_append_grow (P:=G.P) w T o.type aV i z aQ.gY hE i4 ⟨b,gl,none⟩ xs.length aO h0 (by rw[h9];exact qR) (λj v aa=>by rw[mc];exact fW j v aa) ad bx.length c news (by rw[h9];exact lD) kT (by omega) (by omega) (growslice_fits (by omega) (by rw[od];exact U));obtain⟨cp,cG⟩:=sM aO (by omega);exact RA _ _ hI qR b8 cp cG (ov h (by rw[eV,cH,ak];exact aB))
def Ct(d:Nat)(xs:List (List Q))(ev:Operand→Q)(x:Operand):Q:=match ev x with
 |.own dh=>bif Nat.beq dh d then .bf false xs else .own dh
 |a=>a
def PI{d:Nat}{xs:List (List Q)}{ev:Operand→Q}{x:Operand}(h:ev x=.own d):Ct d xs ev x=.bf false xs:=by simp[Ct,h]
def Ys{d:Nat}{xs:List (List Q)}{ev:Operand→Q}{x:Operand}{k:IntKind}{n:Int}(h:ev x=.int k n):Ct d xs ev x=.int k n:=by simp[Ct,h]
def Yields.win{G:ch}{o:Oper}{ev:Operand→Q}{σ:Y}{bN:Q}{d T sz:Nat}{xs:List (List Q)}(Z:σ.get d=some (.win T sz xs))(h:Yields G o (Ct d xs ev) σ [] [] bN):Yields G o ev σ [] [d] bN:=
 λaz cx I β w aZ cf an hm hop=>h az cx I β w aZ (λx u=>by cases u) an hm λx u=>by
  have bM:=hop x u;unfold Ct;split
  ·rename_i dh he;rw[he]at bM;cases U:Nat.beq dh d with
   |false=>exact bM
   |true=>
    have:=Nat.eq_of_beq_eq_true U;subst this;exact an.win (by rw[cf _ (by simp)];exact Z) bM
  ·exact bM
end win
def h2(w:World):bs:=λb o=>match o with
 |some o=>w.cell? ⟨b,o,none⟩
 |none=>match w.heap[b]? with
  |some (.map es clock)=>some (pU es clock)
  |_=>none
variable {w:World}
def BE(b:Nat)(o:Nat)(v:Value)(h:h2 w b o=some v):w.cell? ⟨b,o,none⟩=some v:=h
def Bs(b:Nat)(v:Value)(h:h2 w b none=some v):∃es clock,w.heap[b]?=some (.map es clock)∧v=pU es clock:=by
 simp only[h2]at h;split at h
 ·rename_i es clock U;cases h;exact⟨es,clock,U,rfl⟩
 ·cases h
variable {I:bs}{cx:eW}{β:Nat→Value}
def bY.JT{G:ch}{σ:Y}(an:bY G cx I β σ w):cn I (h2 w):=λb o v aa=>by
 cases o with
 |some o=>exact an.good b o v aa
 |none=>
  obtain⟨es,clock,h1,rfl⟩:=an.hM b v aa;simp only[h2,h1]
def bY.acL{G:ch}{σ:Y}(an:bY G cx I β σ w){b:Nat}{o:ku}{v:Value}(aa:I b o=some v):b<w.heap.size:=by
 rcases Nat.lt_or_ge b w.heap.size with h|h
 ·exact h
 ·rw[an.iF h o]at aa;cases aa
end Go.Proofs.YtmnbolcmepihlaaGreat
namespace Go.Proofs.YtmnbolcmepihlaaGreat
section
set_option linter.all false
abbrev zI0:Value:=.int .i64 0
abbrev zS0:Value:=.slice none 0 0
open Go Go.Proofs.Tryz
set_option maxRecDepth 100000
abbrev fv(i:Nat)(c:List Value):Prop:=∀w,∃z,(zeroValue i).run prog w=.ok z w∧z.cells=c.toArray
def ako:prog.follows .mixedOrders=true:=by kernel_rfl
def aoq:fv 2 [zI0]:=λw=>⟨_,zeroValue2 w,rfl⟩
def Xi:fv 3 [zI0]:=λw=>⟨_,zeroValue3 w,rfl⟩
def Xj:fv 4 [.bool false]:=λw=>⟨_,zeroValue4 w,rfl⟩
def aoD:fv 5 [.int .u8 0]:=λw=>⟨_,zeroValue5 w,rfl⟩
def aoE:fv 6 [.int .u8 0]:=λw=>⟨_,zeroValue6 w,rfl⟩
def aoG:fv 7 [zI0,zI0,.bool false,.int .u8 0]:=λw=>⟨_,zeroValue7 w,rfl⟩
def aoH:fv 8 [zI0,zI0,.bool false,.int .u8 0]:=λw=>⟨_,zeroValue8 w,rfl⟩
def aoJ:fv 9 [.string ⟨#[]⟩]:=λw=>⟨_,zeroValue9 w,rfl⟩
def aog:fv 10 [.string ⟨#[]⟩]:=λw=>⟨_,zeroValue10 w,rfl⟩
def aoh:fv 11 [.string ⟨#[]⟩]:=λw=>⟨_,zeroValue11 w,rfl⟩
def aoi:fv 12 [.int .u64 0]:=λw=>⟨_,zeroValue12 w,rfl⟩
def aoj:fv 13 [.string ⟨#[]⟩,.int .u64 0]:=λw=>⟨_,zeroValue13 w,rfl⟩
def aok:fv 14 [.string ⟨#[]⟩,.int .u64 0]:=λw=>⟨_,zeroValue14 w,rfl⟩
def aol:fv 15 [.pointer none]:=λw=>⟨_,zeroValue15 w,rfl⟩
def aom:fv 16 [.pointer none]:=λw=>⟨_,zeroValue16 w,rfl⟩
def aon:fv 17 [.pointer none]:=λw=>⟨_,zeroValue17 w,rfl⟩
def aoo:fv 18 [.pointer none]:=λw=>⟨_,zeroValue18 w,rfl⟩
def aop:fv 19 [.pointer none]:=λw=>⟨_,zeroValue19 w,rfl⟩
def aor:fv 21 [.int .i32 0]:=λw=>⟨_,zeroValue21 w,rfl⟩
def aos:fv 22 [zS0]:=λw=>⟨_,zeroValue22 w,rfl⟩
def aot:fv 23 [.pointer none]:=λw=>⟨_,zeroValue23 w,rfl⟩
def aou:fv 25 [zS0]:=λw=>⟨_,zeroValue25 w,rfl⟩
def aov:fv 26 [zS0]:=λw=>⟨_,zeroValue26 w,rfl⟩
def aow:fv 27 [zS0,zS0]:=λw=>⟨_,zeroValue27 w,rfl⟩
def aox:fv 28 [zS0,zS0]:=λw=>⟨_,zeroValue28 w,rfl⟩
def aoy:fv 30 [zI0,.bool false]:=λw=>⟨_,zeroValue30 w,rfl⟩
def Tq:fv 31 [zI0,.bool false]:=λw=>⟨_,zeroValue31 w,rfl⟩
def aoz:fv 34 [zS0]:=λw=>⟨_,zeroValue34 w,rfl⟩
def aoA:fv 35 [zI0,zS0]:=λw=>⟨_,zeroValue35 w,rfl⟩
def aoB:fv 36 [zI0,zS0]:=λw=>⟨_,zeroValue36 w,rfl⟩
def aoC:fv 37 [zI0]:=λw=>⟨_,zeroValue37 w,rfl⟩
def Tr:fv 62 [zI0,zI0,zI0,zI0,zI0]:=λw=>⟨_,zeroValue62 w,rfl⟩
def aoF:fv 63 [.nilFunc]:=λw=>⟨_,zeroValue63 w,rfl⟩
def Ts:fv 84 [zI0,zI0]:=λw=>⟨_,zeroValue84 w,rfl⟩
def aoI:fv 85 [zS0]:=λw=>⟨_,zeroValue85 w,rfl⟩
def aeS:fv 103 [zS0,zI0]:=λw=>⟨_,zeroValue103 w,rfl⟩
def afP:fv 105 [zS0]:=λw=>⟨_,zeroValue105 w,rfl⟩
def SN:fv 106 [zS0]:=λw=>⟨_,zeroValue106 w,rfl⟩
def afQ:fv 111 [zS0]:=λw=>⟨_,zeroValue111 w,rfl⟩
def SO:fv 120 [zS0,zI0]:=λw=>⟨_,zeroValue120 w,rfl⟩
def SP:fv 144 [.map none]:=λw=>⟨_,zeroValue144 w,rfl⟩
def afR:fv 158 [.nilFunc]:=λw=>⟨_,zeroValue158 w,rfl⟩
def afS:fv 161 [.pointer none]:=λw=>⟨_,zeroValue161 w,rfl⟩
def afT:fv 162 [zS0]:=λw=>⟨_,zeroValue162 w,rfl⟩
def afU:fv 163 [zS0]:=λw=>⟨_,zeroValue163 w,rfl⟩
def afV:fv 165 [zS0,zS0,zS0]:=λw=>⟨_,zeroValue165 w,rfl⟩
def SQ:fv 166 [.map none]:=λw=>⟨_,zeroValue166 w,rfl⟩
def afW:fv 169 [zI0,zI0]:=λw=>⟨_,zeroValue169 w,rfl⟩
def afX:fv 172 [.nilFunc]:=λw=>⟨_,zeroValue172 w,rfl⟩
def SR:fv 175 [zI0,zI0,zI0]:=λw=>⟨_,zeroValue175 w,rfl⟩
def afY:fv 177 [.nilFunc]:=λw=>⟨_,zeroValue177 w,rfl⟩
def afZ:fv 178 [.int .u64 0]:=λw=>⟨_,zeroValue178 w,rfl⟩
def z1:fv 179 [zI0,zI0,zI0]:=λw=>⟨_,zeroValue179 w,rfl⟩
def af0:fv 180 [zS0]:=λw=>⟨_,zeroValue180 w,rfl⟩
def af1:fv 185 [.nilFunc]:=λw=>⟨_,zeroValue185 w,rfl⟩
def af2:fv 187 [.nilFunc]:=λw=>⟨_,zeroValue187 w,rfl⟩
def af3:fv 188 [.nilFunc]:=λw=>⟨_,zeroValue188 w,rfl⟩
def af4:fv 190 [.nilFunc]:=λw=>⟨_,zeroValue190 w,rfl⟩
def af5:fv 208 [.map none]:=λw=>⟨_,zeroValue208 w,rfl⟩
def af6:fv 210 [.map none,.map none]:=λw=>⟨_,zeroValue210 w,rfl⟩
def af7:fv 216 [.nilFunc]:=λw=>⟨_,zeroValue216 w,rfl⟩
def af8:fv 234 [zS0]:=λw=>⟨_,zeroValue234 w,rfl⟩
def SS:fv 237 [zI0,zI0]:=λw=>⟨_,zeroValue237 w,rfl⟩
def af9:fv 239 [.nilFunc]:=λw=>⟨_,zeroValue239 w,rfl⟩
def aga:fv 245 [zI0]:=λw=>⟨_,zeroValue245 w,rfl⟩
def agb:fv 252 [.int .u32 0]:=λw=>⟨_,zeroValue252 w,rfl⟩
def agc:fv 254 [.int .u64 0]:=λw=>⟨_,zeroValue254 w,rfl⟩
def Ns:dL prog 2 1 false:=⟨sizeOf2,isAgg2⟩
def nn:dL prog 3 1 false:=⟨sizeOf3,isAgg3⟩
def Fc:dL prog 4 1 false:=⟨sizeOf4,isAgg4⟩
def anq:dL prog 5 1 false:=⟨sizeOf5,isAgg5⟩
def Nt:dL prog 6 1 false:=⟨sizeOf6,isAgg6⟩
def ant:dL prog 7 4 true:=⟨sizeOf7,isAgg7⟩
def amm:kE prog 7 [zI0,zI0,.bool false,.int .u8 0] [(0,1),(1,1),(2,1),(3,1)]:=m5 zeroValue7 underlying7 (λw=>by kernel_rfl)
def acM:gM prog 7 0 0:=⟨λa w=>by kernel_rfl⟩
def acN:gM prog 7 1 1:=⟨λa w=>by kernel_rfl⟩
def acO:gM prog 7 2 2:=⟨λa w=>by kernel_rfl⟩
def acP:gM prog 7 3 3:=⟨λa w=>by kernel_rfl⟩
def acQ:gH prog 7 0 0 1 false:=hl underlying7 (by kernel_rfl) Ns (by decide)
def acR:gH prog 7 1 1 1 false:=hl underlying7 (by kernel_rfl) nn (by decide)
def acS:gH prog 7 2 2 1 false:=hl underlying7 (by kernel_rfl) Fc (by decide)
def acT:gH prog 7 3 3 1 false:=hl underlying7 (by kernel_rfl) Nt (by decide)
def anu:dL prog 8 4 true:=⟨sizeOf8,isAgg8⟩
def amn:kE prog 8 [zI0,zI0,.bool false,.int .u8 0] [(0,1),(1,1),(2,1),(3,1)]:=m5 zeroValue8 underlying8 (λw=>by kernel_rfl)
def acU:gM prog 8 0 0:=⟨λa w=>by kernel_rfl⟩
def acs:gM prog 8 1 1:=⟨λa w=>by kernel_rfl⟩
def acu:gM prog 8 2 2:=⟨λa w=>by kernel_rfl⟩
def acv:gM prog 8 3 3:=⟨λa w=>by kernel_rfl⟩
def acw:gH prog 8 0 0 1 false:=hl underlying8 (by kernel_rfl) Ns (by decide)
def acy:gH prog 8 1 1 1 false:=hl underlying8 (by kernel_rfl) nn (by decide)
def acz:gH prog 8 2 2 1 false:=hl underlying8 (by kernel_rfl) Fc (by decide)
def acA:gH prog 8 3 3 1 false:=hl underlying8 (by kernel_rfl) Nt (by decide)
def Nu:dL prog 9 1 false:=⟨sizeOf9,isAgg9⟩
def am8:dL prog 10 1 false:=⟨sizeOf10,isAgg10⟩
def am9:dL prog 11 1 false:=⟨sizeOf11,isAgg11⟩
def KD:dL prog 12 1 false:=⟨sizeOf12,isAgg12⟩
def ana:dL prog 13 2 true:=⟨sizeOf13,isAgg13⟩
def afp:kE prog 13 [.string ⟨#[]⟩,.int .u64 0] [(0,1),(1,1)]:=m5 zeroValue13 underlying13 (λw=>by kernel_rfl)
def aaY:gM prog 13 0 0:=⟨λa w=>by kernel_rfl⟩
def aaZ:gM prog 13 1 1:=⟨λa w=>by kernel_rfl⟩
def aa0:gH prog 13 0 0 1 false:=hl underlying13 (by kernel_rfl) Nu (by decide)
def aa1:gH prog 13 1 1 1 false:=hl underlying13 (by kernel_rfl) KD (by decide)
def anb:dL prog 14 2 true:=⟨sizeOf14,isAgg14⟩
def afq:kE prog 14 [.string ⟨#[]⟩,.int .u64 0] [(0,1),(1,1)]:=m5 zeroValue14 underlying14 (λw=>by kernel_rfl)
def aa2:gM prog 14 0 0:=⟨λa w=>by kernel_rfl⟩
def aa3:gM prog 14 1 1:=⟨λa w=>by kernel_rfl⟩
def aa4:gH prog 14 0 0 1 false:=hl underlying14 (by kernel_rfl) Nu (by decide)
def aa5:gH prog 14 1 1 1 false:=hl underlying14 (by kernel_rfl) KD (by decide)
def anc:dL prog 15 1 false:=⟨sizeOf15,isAgg15⟩
def ane:dL prog 16 1 false:=⟨sizeOf16,isAgg16⟩
def KE:dL prog 17 1 false:=⟨sizeOf17,isAgg17⟩
def anf:dL prog 18 1 true:=⟨sizeOf18,isAgg18⟩
def afr:kE prog 18 [.pointer none] [(0,1)]:=m5 zeroValue18 underlying18 (λw=>by kernel_rfl)
def aa6:gM prog 18 0 0:=⟨λa w=>by kernel_rfl⟩
def aa7:gH prog 18 0 0 1 false:=hl underlying18 (by kernel_rfl) KE (by decide)
def ang:dL prog 19 1 true:=⟨sizeOf19,isAgg19⟩
def afs:kE prog 19 [.pointer none] [(0,1)]:=m5 zeroValue19 underlying19 (λw=>by kernel_rfl)
def aa8:gM prog 19 0 0:=⟨λa w=>by kernel_rfl⟩
def aa9:gH prog 19 0 0 1 false:=hl underlying19 (by kernel_rfl) KE (by decide)
def anh:dL prog 21 1 false:=⟨sizeOf21,isAgg21⟩
def KF:dL prog 22 1 false:=⟨sizeOf22,isAgg22⟩
def amd:kV prog 22 3 1:=⟨underlying22,sizeOf3⟩
def FP:kR prog 22 3 1 8:=⟨underlying22,(by obtain⟨i,h1,D,aj,a1⟩:=info_parts (by kernel_rfl:(prog.info? 3).map (λi=>(i.zero,i.size,i.bytes))=some (some (zI0),1,8));exact⟨i,_,h1,D,aj,a1,rfl⟩),by decide⟩
def SU:ml prog 22 3 1 [zI0]:=⟨underlying22,sizeOf3,Xi,rfl⟩
def ani:dL prog 23 1 false:=⟨sizeOf23,isAgg23⟩
def KG:dL prog 25 1 false:=⟨sizeOf25,isAgg25⟩
def ame:kV prog 25 31 2:=⟨underlying25,sizeOf31⟩
def aft:kR prog 25 31 2 16:=⟨underlying25,(by obtain⟨i,h1,D,aj,a1⟩:=info_parts (by kernel_rfl:(prog.info? 31).map (λi=>(i.zero,i.size,i.bytes))=some (some (.agg #[zI0,.bool false]),2,16));exact⟨i,_,h1,D,aj,a1,rfl⟩),by decide⟩
def afu:ml prog 25 31 2 [zI0,.bool false]:=⟨underlying25,sizeOf31,Tq,rfl⟩
def KH:dL prog 26 1 false:=⟨sizeOf26,isAgg26⟩
def amf:kV prog 26 62 5:=⟨underlying26,sizeOf62⟩
def afv:kR prog 26 62 5 40:=⟨underlying26,(by obtain⟨i,h1,D,aj,a1⟩:=info_parts (by kernel_rfl:(prog.info? 62).map (λi=>(i.zero,i.size,i.bytes))=some (some (.agg #[zI0,zI0,zI0,zI0,zI0]),5,40));exact⟨i,_,h1,D,aj,a1,rfl⟩),by decide⟩
def afw:ml prog 26 62 5 [zI0,zI0,zI0,zI0,zI0]:=⟨underlying26,sizeOf62,Tr,rfl⟩
def anj:dL prog 27 2 true:=⟨sizeOf27,isAgg27⟩
def afx:kE prog 27 [zS0,zS0] [(0,1),(1,1)]:=m5 zeroValue27 underlying27 (λw=>by kernel_rfl)
def aba:gM prog 27 0 0:=⟨λa w=>by kernel_rfl⟩
def abb:gM prog 27 1 1:=⟨λa w=>by kernel_rfl⟩
def abc:gH prog 27 0 0 1 false:=hl underlying27 (by kernel_rfl) KG (by decide)
def abd:gH prog 27 1 1 1 false:=hl underlying27 (by kernel_rfl) KH (by decide)
def ank:dL prog 28 2 true:=⟨sizeOf28,isAgg28⟩
def afy:kE prog 28 [zS0,zS0] [(0,1),(1,1)]:=m5 zeroValue28 underlying28 (λw=>by kernel_rfl)
def abe:gM prog 28 0 0:=⟨λa w=>by kernel_rfl⟩
def abf:gM prog 28 1 1:=⟨λa w=>by kernel_rfl⟩
def abg:gH prog 28 0 0 1 false:=hl underlying28 (by kernel_rfl) KG (by decide)
def abh:gH prog 28 1 1 1 false:=hl underlying28 (by kernel_rfl) KH (by decide)
def anl:dL prog 30 2 true:=⟨sizeOf30,isAgg30⟩
def afz:kE prog 30 [zI0,.bool false] [(0,1),(1,1)]:=m5 zeroValue30 underlying30 (λw=>by kernel_rfl)
def aaI:gM prog 30 0 0:=⟨λa w=>by kernel_rfl⟩
def aaJ:gM prog 30 1 1:=⟨λa w=>by kernel_rfl⟩
def aaK:gH prog 30 0 0 1 false:=hl underlying30 (by kernel_rfl) nn (by decide)
def aaL:gH prog 30 1 1 1 false:=hl underlying30 (by kernel_rfl) Fc (by decide)
def anm:dL prog 31 2 true:=⟨sizeOf31,isAgg31⟩
def afA:kE prog 31 [zI0,.bool false] [(0,1),(1,1)]:=m5 zeroValue31 underlying31 (λw=>by kernel_rfl)
def aaM:gM prog 31 0 0:=⟨λa w=>by kernel_rfl⟩
def aaN:gM prog 31 1 1:=⟨λa w=>by kernel_rfl⟩
def aaO:gH prog 31 0 0 1 false:=hl underlying31 (by kernel_rfl) nn (by decide)
def aaP:gH prog 31 1 1 1 false:=hl underlying31 (by kernel_rfl) Fc (by decide)
def KI:dL prog 34 1 false:=⟨sizeOf34,isAgg34⟩
def amg:kV prog 34 84 2:=⟨underlying34,sizeOf84⟩
def afB:kR prog 34 84 2 16:=⟨underlying34,(by obtain⟨i,h1,D,aj,a1⟩:=info_parts (by kernel_rfl:(prog.info? 84).map (λi=>(i.zero,i.size,i.bytes))=some (some (.agg #[zI0,zI0]),2,16));exact⟨i,_,h1,D,aj,a1,rfl⟩),by decide⟩
def afD:ml prog 34 84 2 [zI0,zI0]:=⟨underlying34,sizeOf84,Ts,rfl⟩
def ann:dL prog 35 2 true:=⟨sizeOf35,isAgg35⟩
def afE:kE prog 35 [zI0,zS0] [(0,1),(1,1)]:=m5 zeroValue35 underlying35 (λw=>by kernel_rfl)
def aaQ:gM prog 35 0 0:=⟨λa w=>by kernel_rfl⟩
def aaR:gM prog 35 1 1:=⟨λa w=>by kernel_rfl⟩
def abZ:gH prog 35 0 0 1 false:=hl underlying35 (by kernel_rfl) nn (by decide)
def ab0:gH prog 35 1 1 1 false:=hl underlying35 (by kernel_rfl) KI (by decide)
def ano:dL prog 36 2 true:=⟨sizeOf36,isAgg36⟩
def afF:kE prog 36 [zI0,zS0] [(0,1),(1,1)]:=m5 zeroValue36 underlying36 (λw=>by kernel_rfl)
def ab1:gM prog 36 0 0:=⟨λa w=>by kernel_rfl⟩
def ab2:gM prog 36 1 1:=⟨λa w=>by kernel_rfl⟩
def ab3:gH prog 36 0 0 1 false:=hl underlying36 (by kernel_rfl) nn (by decide)
def ab4:gH prog 36 1 1 1 false:=hl underlying36 (by kernel_rfl) KI (by decide)
def anp:dL prog 37 1 false:=⟨sizeOf37,isAgg37⟩
def anr:dL prog 62 5 true:=⟨sizeOf62,isAgg62⟩
def afG:kE prog 62 [zI0,zI0,zI0,zI0,zI0] [(0,1),(1,1),(2,1),(3,1),(4,1)]:=m5 zeroValue62 underlying62 (λw=>by kernel_rfl)
def ab5:gM prog 62 0 0:=⟨λa w=>by kernel_rfl⟩
def ab6:gM prog 62 1 1:=⟨λa w=>by kernel_rfl⟩
def ab7:gM prog 62 2 2:=⟨λa w=>by kernel_rfl⟩
def ab8:gM prog 62 3 3:=⟨λa w=>by kernel_rfl⟩
def ab9:gM prog 62 4 4:=⟨λa w=>by kernel_rfl⟩
def acc:gH prog 62 0 0 1 false:=hl underlying62 (by kernel_rfl) nn (by decide)
def acd:gH prog 62 1 1 1 false:=hl underlying62 (by kernel_rfl) nn (by decide)
def ace:gH prog 62 2 2 1 false:=hl underlying62 (by kernel_rfl) nn (by decide)
def acf:gH prog 62 3 3 1 false:=hl underlying62 (by kernel_rfl) nn (by decide)
def acg:gH prog 62 4 4 1 false:=hl underlying62 (by kernel_rfl) nn (by decide)
def ans:dL prog 63 1 false:=⟨sizeOf63,isAgg63⟩
def Tl:dL prog 84 2 true:=⟨sizeOf84,isAgg84⟩
def afH:kE prog 84 [zI0,zI0] [(0,1),(1,1)]:=m5 zeroValue84 underlying84 (λw=>by kernel_rfl)
def ach:gM prog 84 0 0:=⟨λa w=>by kernel_rfl⟩
def aci:gM prog 84 1 1:=⟨λa w=>by kernel_rfl⟩
def acj:gH prog 84 0 0 1 false:=hl underlying84 (by kernel_rfl) nn (by decide)
def ack:gH prog 84 1 1 1 false:=hl underlying84 (by kernel_rfl) nn (by decide)
def anv:dL prog 85 1 false:=⟨sizeOf85,isAgg85⟩
def amh:kV prog 85 120 2:=⟨underlying85,sizeOf120⟩
def afI:kR prog 85 120 2 32:=⟨underlying85,(by obtain⟨i,h1,D,aj,a1⟩:=info_parts (by kernel_rfl:(prog.info? 120).map (λi=>(i.zero,i.size,i.bytes))=some (some (.agg #[zS0,zI0]),2,32));exact⟨i,_,h1,D,aj,a1,rfl⟩),by decide⟩
def afJ:ml prog 85 120 2 [zS0,zI0]:=⟨underlying85,sizeOf120,SO,rfl⟩
def afK:dL prog 103 2 true:=⟨sizeOf103,isAgg103⟩
def acB:kE prog 103 [zS0,zI0] [(0,1),(1,1)]:=m5 zeroValue103 underlying103 (λw=>by kernel_rfl)
def ZM:gM prog 103 0 0:=⟨λa w=>by kernel_rfl⟩
def ZN:gM prog 103 1 1:=⟨λa w=>by kernel_rfl⟩
def ZO:gH prog 103 0 0 1 false:=hl underlying103 (by kernel_rfl) KF (by decide)
def ZP:gH prog 103 1 1 1 false:=hl underlying103 (by kernel_rfl) nn (by decide)
def afL:dL prog 105 1 false:=⟨sizeOf105,isAgg105⟩
def x7:kV prog 105 106 1:=⟨underlying105,sizeOf106⟩
def RB:kR prog 105 106 1 24:=⟨underlying105,(by obtain⟨i,h1,D,aj,a1⟩:=info_parts (by kernel_rfl:(prog.info? 106).map (λi=>(i.zero,i.size,i.bytes))=some (some (zS0),1,24));exact⟨i,_,h1,D,aj,a1,rfl⟩),by decide⟩
def Rq:ml prog 105 106 1 [zS0]:=⟨underlying105,sizeOf106,SN,rfl⟩
def Fx:dL prog 106 1 false:=⟨sizeOf106,isAgg106⟩
def afM:kV prog 106 4 1:=⟨underlying106,sizeOf4⟩
def Rr:kR prog 106 4 1 1:=⟨underlying106,(by obtain⟨i,h1,D,aj,a1⟩:=info_parts (by kernel_rfl:(prog.info? 4).map (λi=>(i.zero,i.size,i.bytes))=some (some (.bool false),1,1));exact⟨i,_,h1,D,aj,a1,rfl⟩),by decide⟩
def Rs:ml prog 106 4 1 [.bool false]:=⟨underlying106,sizeOf4,Xj,rfl⟩
def SV:dL prog 111 1 false:=⟨sizeOf111,isAgg111⟩
def afN:kV prog 111 175 3:=⟨underlying111,sizeOf175⟩
def acC:kR prog 111 175 3 24:=⟨underlying111,(by obtain⟨i,h1,D,aj,a1⟩:=info_parts (by kernel_rfl:(prog.info? 175).map (λi=>(i.zero,i.size,i.bytes))=some (some (.agg #[zI0,zI0,zI0]),3,24));exact⟨i,_,h1,D,aj,a1,rfl⟩),by decide⟩
def adH:ml prog 111 175 3 [zI0,zI0,zI0]:=⟨underlying111,sizeOf175,SR,rfl⟩
def afO:dL prog 120 2 true:=⟨sizeOf120,isAgg120⟩
def adI:kE prog 120 [zS0,zI0] [(0,1),(1,1)]:=m5 zeroValue120 underlying120 (λw=>by kernel_rfl)
def Zd:gM prog 120 0 0:=⟨λa w=>by kernel_rfl⟩
def Ze:gM prog 120 1 1:=⟨λa w=>by kernel_rfl⟩
def Zf:gH prog 120 0 0 1 false:=hl underlying120 (by kernel_rfl) KF (by decide)
def Zg:gH prog 120 1 1 1 false:=hl underlying120 (by kernel_rfl) nn (by decide)
def Cv:dL prog 144 1 false:=⟨sizeOf144,isAgg144⟩
def o5:kF prog 144 3 3 .i64:=⟨underlying144,underlying3⟩
def aff:dL prog 158 1 false:=⟨sizeOf158,isAgg158⟩
def afg:dL prog 161 1 false:=⟨sizeOf161,isAgg161⟩
def SX:dL prog 162 1 false:=⟨sizeOf162,isAgg162⟩
def Cx:kV prog 162 144 1:=⟨underlying162,sizeOf144⟩
def Rt:kR prog 162 144 1 8:=⟨underlying162,(by obtain⟨i,h1,D,aj,a1⟩:=info_parts (by kernel_rfl:(prog.info? 144).map (λi=>(i.zero,i.size,i.bytes))=some (some (.map none),1,8));exact⟨i,_,h1,D,aj,a1,rfl⟩),by decide⟩
def adJ:ml prog 162 144 1 [.map none]:=⟨underlying162,sizeOf144,SP,rfl⟩
def SY:dL prog 163 1 false:=⟨sizeOf163,isAgg163⟩
def SZ:kV prog 163 166 1:=⟨underlying163,sizeOf166⟩
def Ru:kR prog 163 166 1 8:=⟨underlying163,(by obtain⟨i,h1,D,aj,a1⟩:=info_parts (by kernel_rfl:(prog.info? 166).map (λi=>(i.zero,i.size,i.bytes))=some (some (.map none),1,8));exact⟨i,_,h1,D,aj,a1,rfl⟩),by decide⟩
def adK:ml prog 163 166 1 [.map none]:=⟨underlying163,sizeOf166,SQ,rfl⟩
def afh:dL prog 165 3 true:=⟨sizeOf165,isAgg165⟩
def adL:kE prog 165 [zS0,zS0,zS0] [(0,1),(1,1),(2,1)]:=m5 zeroValue165 underlying165 (λw=>by kernel_rfl)
def Zh:gM prog 165 0 0:=⟨λa w=>by kernel_rfl⟩
def Zi:gM prog 165 1 1:=⟨λa w=>by kernel_rfl⟩
def Zj:gM prog 165 2 2:=⟨λa w=>by kernel_rfl⟩
def Zk:gH prog 165 0 0 1 false:=hl underlying165 (by kernel_rfl) SV (by decide)
def Zl:gH prog 165 1 1 1 false:=hl underlying165 (by kernel_rfl) SX (by decide)
def Zm:gH prog 165 2 2 1 false:=hl underlying165 (by kernel_rfl) SY (by decide)
def S0:dL prog 166 1 false:=⟨sizeOf166,isAgg166⟩
def Fo:kF prog 166 3 169 .i64:=⟨underlying166,underlying3⟩
def afi:dL prog 169 2 true:=⟨sizeOf169,isAgg169⟩
def adM:kE prog 169 [zI0,zI0] [(0,1),(1,1)]:=m5 zeroValue169 underlying169 (λw=>by kernel_rfl)
def Zn:gM prog 169 0 0:=⟨λa w=>by kernel_rfl⟩
def Zo:gM prog 169 1 1:=⟨λa w=>by kernel_rfl⟩
def Zp:gH prog 169 0 0 1 false:=hl underlying169 (by kernel_rfl) nn (by decide)
def Zq:gH prog 169 1 1 1 false:=hl underlying169 (by kernel_rfl) nn (by decide)
def afj:dL prog 172 1 false:=⟨sizeOf172,isAgg172⟩
def afk:dL prog 175 3 true:=⟨sizeOf175,isAgg175⟩
def adN:kE prog 175 [zI0,zI0,zI0] [(0,2),(2,1)]:=m5 zeroValue175 underlying175 (λw=>by kernel_rfl)
def Zr:gM prog 175 0 0:=⟨λa w=>by kernel_rfl⟩
def Zs:gM prog 175 1 2:=⟨λa w=>by kernel_rfl⟩
def Zt:gH prog 175 0 0 2 true:=hl underlying175 (by kernel_rfl) Tl (by decide)
def Zu:gH prog 175 1 2 1 false:=hl underlying175 (by kernel_rfl) nn (by decide)
def afl:dL prog 177 1 false:=⟨sizeOf177,isAgg177⟩
def afm:dL prog 178 1 false:=⟨sizeOf178,isAgg178⟩
def afn:dL prog 179 3 true:=⟨sizeOf179,isAgg179⟩
def afo:dL prog 180 1 false:=⟨sizeOf180,isAgg180⟩
def agO:kV prog 180 179 3:=⟨underlying180,sizeOf179⟩
def adO:kR prog 180 179 3 24:=⟨underlying180,(by obtain⟨i,h1,D,aj,a1⟩:=info_parts (by kernel_rfl:(prog.info? 179).map (λi=>(i.zero,i.size,i.bytes))=some (some (.agg #[zI0,zI0,zI0]),3,24));exact⟨i,_,h1,D,aj,a1,rfl⟩),by decide⟩
def adP:ml prog 180 179 3 [zI0,zI0,zI0]:=⟨underlying180,sizeOf179,z1,rfl⟩
def agP:dL prog 185 1 false:=⟨sizeOf185,isAgg185⟩
def agQ:dL prog 187 1 false:=⟨sizeOf187,isAgg187⟩
def agR:dL prog 188 1 false:=⟨sizeOf188,isAgg188⟩
def agS:dL prog 190 1 false:=⟨sizeOf190,isAgg190⟩
def Ke:dL prog 208 1 false:=⟨sizeOf208,isAgg208⟩
def pQ:kF prog 208 3 234 .i64:=⟨underlying208,underlying3⟩
def agT:dL prog 210 2 true:=⟨sizeOf210,isAgg210⟩
def adQ:kE prog 210 [.map none,.map none] [(0,1),(1,1)]:=m5 zeroValue210 underlying210 (λw=>by kernel_rfl)
def Zv:gM prog 210 0 0:=⟨λa w=>by kernel_rfl⟩
def Zw:gM prog 210 1 1:=⟨λa w=>by kernel_rfl⟩
def Zx:gH prog 210 0 0 1 false:=hl underlying210 (by kernel_rfl) Ke (by decide)
def Zy:gH prog 210 1 1 1 false:=hl underlying210 (by kernel_rfl) Ke (by decide)
def agU:dL prog 216 1 false:=⟨sizeOf216,isAgg216⟩
def agV:dL prog 234 1 false:=⟨sizeOf234,isAgg234⟩
def agW:kV prog 234 237 2:=⟨underlying234,sizeOf237⟩
def adR:kR prog 234 237 2 16:=⟨underlying234,(by obtain⟨i,h1,D,aj,a1⟩:=info_parts (by kernel_rfl:(prog.info? 237).map (λi=>(i.zero,i.size,i.bytes))=some (some (.agg #[zI0,zI0]),2,16));exact⟨i,_,h1,D,aj,a1,rfl⟩),by decide⟩
def adS:ml prog 234 237 2 [zI0,zI0]:=⟨underlying234,sizeOf237,SS,rfl⟩
def agX:dL prog 237 2 true:=⟨sizeOf237,isAgg237⟩
def adT:kE prog 237 [zI0,zI0] [(0,1),(1,1)]:=m5 zeroValue237 underlying237 (λw=>by kernel_rfl)
def Zz:gM prog 237 0 0:=⟨λa w=>by kernel_rfl⟩
def ZA:gM prog 237 1 1:=⟨λa w=>by kernel_rfl⟩
def ZB:gH prog 237 0 0 1 false:=hl underlying237 (by kernel_rfl) nn (by decide)
def ZC:gH prog 237 1 1 1 false:=hl underlying237 (by kernel_rfl) nn (by decide)
def agY:dL prog 239 1 false:=⟨sizeOf239,isAgg239⟩
def agZ:dL prog 245 1 false:=⟨sizeOf245,isAgg245⟩
def ag0:dL prog 252 1 false:=⟨sizeOf252,isAgg252⟩
def ag1:dL prog 254 1 false:=⟨sizeOf254,isAgg254⟩
end
end Go.Proofs.YtmnbolcmepihlaaGreat
