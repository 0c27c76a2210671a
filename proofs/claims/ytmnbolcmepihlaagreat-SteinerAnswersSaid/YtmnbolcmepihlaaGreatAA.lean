/- A part of the proof; the last text says of what. No condition but those that stand in each. -/
import Derived.Orders
import Derived.Tactics
import Derived.Laws.World
import Derived.Below
import Derived.KernelRfl
import Derived.Laws.Small
import Derived.Laws.StructEq
import Derived.Laws.OwnMore
import Derived.Maps.AppendAt
namespace Go.Proofs.YtmnbolcmepihlaaGreat
set_option linter.all false
open Go
section
abbrev bH:=List Int
abbrev cg:=List Nat
abbrev cn:=List (List Int)
abbrev c4:=List Value
abbrev dK:=Array MapEntry
abbrev eN:=Array Value
abbrev fe:=Option Int
abbrev fz:=Option Bool
abbrev fE:=List (List Bool)
abbrev fV:=Option Nat
abbrev hU:=Array Oper
abbrev h9:=Option (List Int)
abbrev iw:=List MapEntry
abbrev iz:=Array Nat
abbrev ja:=List Bool
abbrev jh:=List (List Nat)
abbrev kC:=Array Bool
abbrev a2:=Nat->fV->Option Value
def bM(I SG:a2):Prop:=∀a o b,I a o=some b->SG a o=some b
def bM.refl(I:a2):bM I I:=λ_ _ _ h=>h
def bM.trans{I J K:a2}(h:bM I J)(u:bM J K):bM I K:=λ_ _ _ x=>u _ _ _ (h _ _ _ x)
inductive iU where
 |Gd (f:Nat)
 |pU (n:Nat)
 |row (i:Nat)
 |jb (i off:Nat)
 deriving DecidableEq
inductive U where
 |dg
 |undef
 |int (k:IntKind) (n:Int)
 |bool (b:Bool)
 |str (s:ByteArray)
 |aL (full:Bool) (xs:List (List U))
 |dF (cs:List U)
 |agg (cs:List U)
 |bO (vs:List U)
 |fn (f:Nat) (aR:List U)
 |bC
 |ia
 |own (d:Nat)
 |ptr (d off:Nat)
 |cc (d:Nat)
 |cW (f:Nat) (aR:List U)
 |gq
 |dr (k:iU) (d:Nat)
 |b8 (bs:List (U×U))
 |arr (xs:bH)
 deriving Inhabited
def i1(es:dK)(clock:Nat):Value:=.tuple #[.int .i64 (clock:Int),.tuple (es.map λa=>.tuple #[a.key,a.val,.int .i64 (a.born:Int)])]
theorem qD{es b:dK}{c d:Nat}(a:i1 es c=i1 b d):es=b/\c=d:=by
 simp only[i1,Value.tuple.injEq,Array.mk.injEq,List.cons.injEq,Value.int.injEq,true_and,and_true,Int.ofNat_inj]at a;refine⟨?_,a.1⟩;refine Array.map_inj_right (λf g e=>?_)|>.1 a.2;simp only[Value.tuple.injEq,Array.mk.injEq,List.cons.injEq,Value.int.injEq,true_and,and_true,Int.ofNat_inj]at e;obtain⟨l,m,k⟩:=f;obtain⟨j,i,h⟩:=g
 grind
def fM(es:dK)(clock:Nat):Prop:=(es.toList.map (·.born)).Nodup/\∀a∈es.toList,a.born<clock
mutual
def aN(I:a2):U->Value->Prop
 |.dg,_=>True
 |.undef,v=>v=Go.undef
 |.int k n,v=>v=.int k n
 |.bool b,v=>v=.bool b
 |.str s,v=>v=.string s
 |.aL full xs,v=>∃d c,v=.slice d xs.length c/\xs.length<=c/\c<=maxLen/\(full=true->c=xs.length)/\
   (xs=[]\/∃b o,d=some ⟨b,o,none⟩/\gw I b xs o)
 |.dF cs,v=>∃b o,v=.pointer (some ⟨b,o,none⟩)/\gy I b cs o
 |.agg cs,v=>∃a,v=.agg a/\bX I cs a.toList
 |.bO cs,v=>∃a,v=.tuple a/\bX I cs a.toList
 |.fn f aR,v=>∃a,v=.func (.func f) #[] a/\bX I aR a.toList
 |.bC,v=>v=.slice none 0 0
 |.ia,v=>v=.pointer none
 |.own _,_=>False
 |.ptr _ _,_=>False
 |.cc _,_=>False
 |.cW f aR,v=>∃a,v=.func (.func f) #[] a/\bX I aR a.toList
 |.gq,v=>∃d c,v=.slice (some d) 0 c/\c<=maxLen
 |.dr _ _,_=>False
 |.arr xs,v=>v=.agg (xs.map (Value.int .i64)).toArray
 |.b8 i,v=>∃h e g,v=.map (some h)/\I h none=some (i1 e g)/\c3 I i e.toList/\fM e g
def c3(I:a2):List (U×U)->iw->Prop
 |[],b=>b=[]
 |(k,v)::r,b=>∃a c,b=a::c/\aN I k a.key/\aN I v a.val/\c3 I r c
def bX(I:a2):List U->c4->Prop
 |[],a=>a=[]
 |x::r,a=>∃c b,a=c::b/\aN I x c/\bX I r b
def gy(I:a2)(b:Nat):List U->Nat->Prop
 |[],_=>True
 |x::r,o=>(∃a,I b o=some a/\aN I x a)/\gy I b r (o+1)
def gw(I:a2)(b:Nat):List (List U)->Nat->Prop
 |[],_=>True
 |e::r,o=>gy I b e o/\gw I b r (o+e.length)
end
def fA:Value->Bool|.slice ..=>true|_=>false
def hd:Value->Bool|.map ..=>true|_=>false
def bE:Value->fV
 |.pointer (some a)=>some a.block
 |.slice (some a) _ _=>some a.block
 |.map (some r)=>some r
 |_=>none
def b3:Value->cg
 |.tuple a=>a.toList.filterMap bE
 |v=>(bE v).toList
def gv{v:Value}{b:Nat}(a:bE v=some b):b∈b3 v:=by
 cases v<;>first|(simp[bE]at a;done)|(simp only[b3,a];simp)
def tH{v:Value}{b c:Nat}(d:bE v=some b)(a:c∈b3 v):c=b:=by
 cases v<;>first|(simp[bE]at d;done)|(simp only[b3,d]at a;simpa using a)
def Bv:b3 .nilFunc=[]:=rfl
def xV:b3 (.slice none 0 0)=[]:=rfl
def iU.rep:iU->Value->Value->Prop
 |.Gd f,h,v=>∃b,bE h=some b/\v=.func (.func f) #[.pointer (some ⟨b,0,none⟩)] #[]
 |.pU n,h,v=>∃b,bE h=some b/\v=.slice (some ⟨b,0,none⟩) n n
 |.row i,h,v=>∃Y:eN,h=.tuple Y/\Y.toList[i]?=some v
 |.jb i off,h,v=>∃(Y:eN) (au:Value) (b:Nat),h=.tuple Y/\Y.toList[i]?=some au/\bE au=some b/\v=.pointer (some ⟨b,off,none⟩)
def axx{k:iU}{v:Value}(a:k.rep .nilFunc v):False:=by
 cases k with
 |Gd f=>obtain⟨b,a,_⟩:=a;cases a
 |pU n=>obtain⟨b,a,_⟩:=a;cases a
 |row i=>obtain⟨c,a,_⟩:=a;cases a
 |jb i off=>obtain⟨c,d,b,a,_⟩:=a;cases a
mutual
def az(I:a2)(β:Nat->Value):U->Value->Prop
 |.agg cs,v=>∃a,v=.agg a/\bx I β cs a.toList
 |.bO cs,v=>∃a,v=.tuple a/\bx I β cs a.toList
 |.fn f aR,v=>∃a,v=.func (.func f) #[] a/\bx I β aR a.toList
 |.own d,v=>v=β d/\fA v=true
 |.ptr d off,v=>∃b,bE (β d)=some b/\v=.pointer (some ⟨b,off,none⟩)
 |.cc d,v=>v=β d/\hd v=true
 |.dg,_=>True
 |.undef,v=>aN I .undef v
 |.int k n,v=>aN I (.int k n) v
 |.bool b,v=>aN I (.bool b) v
 |.str s,v=>aN I (.str s) v
 |.aL f xs,v=>aN I (.aL f xs) v
 |.dF cs,v=>aN I (.dF cs) v
 |.bC,v=>aN I .bC v
 |.ia,v=>aN I .ia v
 |.cW f aR,v=>aN I (.cW f aR) v
 |.gq,v=>aN I .gq v
 |.dr k d,v=>k.rep (β d) v
 |.b8 c,v=>aN I (.b8 c) v
 |.arr xs,v=>aN I (.arr xs) v
def bx(I:a2)(β:Nat->Value):List U->c4->Prop
 |[],a=>a=[]
 |x::r,a=>∃c b,a=c::b/\az I β x c/\bx I β r b
end
mutual
def hD{I SG:a2}(c:bM I SG):∀(x:U) (v:Value),aN I x v->aN SG x v
 |.dg,_,_=>trivial
 |.undef,_,r=>r
 |.int _ _,_,r=>r
 |.bool _,_,r=>r
 |.str _,_,r=>r
 |.aL full xs,v,r=>by
   simp only[aN]at r ⊢;obtain⟨k,m,b,a,i,h,g⟩:=r;refine⟨k,m,b,a,i,h,?_⟩;rcases g with g|⟨d,o,g,j⟩
   .exact .inl g
   .exact .inr ⟨d,o,g,HA c xs d o j⟩
 |.dF cs,v,r=>by
   simp only[aN]at r ⊢;obtain⟨d,o,b,a⟩:=r;exact⟨d,o,b,BC c cs d o a⟩
 |.agg cs,v,r=>by
   simp only[aN]at r ⊢;obtain⟨e,b,a⟩:=r;exact⟨e,b,kA c cs _ a⟩
 |.bO cs,v,r=>by
   simp only[aN]at r ⊢;obtain⟨e,b,a⟩:=r;exact⟨e,b,kA c cs _ a⟩
 |.fn f aR,v,r=>by
   simp only[aN]at r ⊢;obtain⟨e,b,a⟩:=r;exact⟨e,b,kA c aR _ a⟩
 |.bC,_,r=>r
 |.ia,_,r=>r
 |.own _,_,r=>r
 |.ptr _ _,_,r=>r
 |.cc _,_,r=>r
 |.cW f aR,v,r=>by
   simp only[aN]at r ⊢;obtain⟨e,b,a⟩:=r;exact⟨e,b,kA c aR _ a⟩
 |.gq,_,r=>by simp only[aN]at r ⊢;exact r
 |.dr _ _,_,r=>r
 |.arr _,v,r=>by simpa only[aN]using r
 |.b8 l,v,r=>by
   simp only[aN]at r ⊢;obtain⟨d,p,n,b,a,i,h⟩:=r;exact⟨d,p,n,b,c _ _ _ a,mg c l _ i,h⟩
def mg{I SG:a2}(a:bM I SG):∀(x:List (U×U)) (es:iw),c3 I x es->c3 SG x es
 |[],_,r=>r
 |(k,f)::x,es,r=>by
   simp only[c3]at r ⊢;obtain⟨g,b,h,c,e,d⟩:=r;exact⟨g,b,h,hD a k _ c,hD a f _ e,mg a x b d⟩
def kA{I SG:a2}(c:bM I SG):∀(x:List U) (v:c4),bX I x v->bX SG x v
 |[],_,r=>r
 |x::xs,v,r=>by
   simp only[bX]at r ⊢;obtain⟨b,a,f,d,e⟩:=r;exact⟨b,a,f,hD c x b d,kA c xs a e⟩
def BC{I SG:a2}(a:bM I SG):∀(x:List U) (b o:Nat),gy I b x o->gy SG b x o
 |[],_,_,r=>r
 |x::xs,b,o,r=>by
   simp only[gy]at r ⊢;obtain⟨⟨c,f,d⟩,e⟩:=r;exact⟨⟨c,a _ _ _ f,hD a x c d⟩,BC a xs b (o+1) e⟩
def HA{I SG:a2}(a:bM I SG):∀(x:List (List U)) (b o:Nat),gw I b x o->gw SG b x o
 |[],_,_,r=>r
 |x::xs,b,o,r=>by
   simp only[gw]at r ⊢;exact⟨BC a x b o r.1,HA a xs b (o+x.length) r.2⟩
end
def en(β β':Nat->Value):Prop:=∀a,β a=.nilFunc\/β' a=β a
def en.refl(β:Nat->Value):en β β:=λ_=>.inr rfl
mutual
def U.refs(p:Nat->Bool):U->Bool
 |.agg cs=>iN p cs
 |.bO cs=>iN p cs
 |.fn _ cs=>iN p cs
 |.own d=>p d
 |.ptr d _=>p d
 |.dr _ d=>p d
 |.cc d=>p d
 |_=>false
def iN(p:Nat->Bool):List U->Bool
 |[]=>false
 |x::r=>x.refs p||iN p r
end
mutual
def xD{p:Nat->Bool}(a:∀d,p d=false):∀x:U,x.refs p=false
 |.dg|.undef|.int _ _|.bool _|.str _|.aL _ _|.dF _|.bC|.ia|.cW _ _|.gq|.b8 _|.arr _=>rfl
 |.agg cs=>by simp only[U.refs];exact oN a cs
 |.bO cs=>by simp only[U.refs];exact oN a cs
 |.fn _ cs=>by simp only[U.refs];exact oN a cs
 |.own d=>a d
 |.ptr d _=>a d
 |.dr _ d=>a d
 |.cc d=>a d
def oN{p:Nat->Bool}(a:∀d,p d=false):∀x:List U,iN p x=false
 |[]=>rfl
 |x::r=>by simp only[iN,xD a x,oN a r,Bool.or_self]
end
mutual
def U.ct(r:Nat->Nat):U->U
 |.agg cs=>.agg (iI r cs)
 |.bO cs=>.bO (iI r cs)
 |.fn f cs=>.fn f (iI r cs)
 |.own d=>.own (r d)
 |.ptr d o=>.ptr (r d) o
 |.dr k d=>.dr k (r d)
 |.cc d=>.cc (r d)
 |x=>x
def iI(r:Nat->Nat):List U->List U
 |[]=>[]
 |x::t=>x.ct r::iI r t
end
mutual
def U.o3:∀x:U,x.ct id=x
 |.dg|.undef|.int _ _|.bool _|.str _|.aL _ _|.dF _|.bC|.ia|.cW _ _|.gq|.b8 _|.arr _|.own _|.ptr _ _|.dr _ _|.cc _=>rfl
 |.agg cs=>by simp only[U.ct,qM cs]
 |.bO cs=>by simp only[U.ct,qM cs]
 |.fn _ cs=>by simp only[U.ct,qM cs]
def qM:∀l:List U,iI id l=l
 |[]=>rfl
 |x::t=>by simp only[iI,U.o3 x,qM t]
end
mutual
theorem uF{I SG:a2}{β β':Nat->Value}{r:Nat->Nat}{p:Nat->Bool}(f:bM I SG)(c:∀d,p d=false->β d=.nilFunc\/β' (r d)=β d):∀(x:U) (v:Value),x.refs p=false->az I β x v->az SG β' (x.ct r) v
 |.dg,_,_,_=>trivial
 |.undef,v,_,a|.int _ _,v,_,a|.bool _,v,_,a|.str _,v,_,a|.aL _ _,v,_,a|.dF _,v,_,a|.bC,v,_,a|.ia,v,_,a|.cW _ _,v,_,a|.gq,v,_,a|.b8 _,v,_,a|.arr _,v,_,a=>by simp only[az,U.ct]at a ⊢;exact hD f _ v a
 |.agg cs,v,e,a|.bO cs,v,e,a|.fn _ cs,v,e,a=>by
   simp only[az,U.ct,U.refs]at a e ⊢;obtain⟨i,h,g⟩:=a;exact⟨i,h,tQ f c cs _ e g⟩
 |.own d,v,e,a|.cc d,v,e,a=>by
   simp only[az,U.ct,U.refs]at a e ⊢;obtain⟨rfl,a⟩:=a;rcases c d e with b|b
   .rw[b]at a;cases a
   .grind
 |.ptr d o,v,e,a=>by
   simp only[az,U.ct,U.refs]at a e ⊢;rcases c d e with b|b
   .rw[b]at a;obtain⟨_,a,_⟩:=a;cases a
   .rw[b];exact a
 |.dr _ d,v,e,a=>by
   simp only[az,U.ct,U.refs]at a e ⊢;rcases c d e with b|b
   .rw[b]at a;exact(axx a).elim
   .rw[b];exact a
theorem tQ{I SG:a2}{β β':Nat->Value}{r:Nat->Nat}{p:Nat->Bool}(f:bM I SG)(b:∀d,p d=false->β d=.nilFunc\/β' (r d)=β d):∀(x:List U) (v:c4),iN p x=false->bx I β x v->bx SG β' (iI r x) v
 |[],_,_,q=>q
 |x::xs,v,e,q=>by
   simp only[bx,iI,iN,Bool.or_eq_false_iff]at q e ⊢;obtain⟨c,a,i,g,h⟩:=q;exact⟨c,a,i,uF f b x c e.1 g,tQ f b xs a e.2 h⟩
end
section
variable {I SG:a2}{β β':Nat->Value}{p:Nat->Bool}
def xW(c:bM I SG)(a:en β β')(x:U)(v:Value)(q:az I β x v):az SG β' x v:=x.o3▸uF (p:=λ_=>false) c (λb _=>a b) x v (xD (λ_=>rfl) x) q
def CN(c:bM I SG)(a:en β β')(x:List U)(v:c4)(q:bx I β x v):bx SG β' x v:=qM x▸tQ (p:=λ_=>false) c (λb _=>a b) x v (oN (λ_=>rfl) x) q
def nC(a:∀d,p d=false->β' d=β d)(x:U)(v:Value)(e:x.refs p=false)(q:az I β x v):az I β' x v:=x.o3▸uF (bM.refl I) (λd e=>.inr (a d e)) x v e q
end
inductive dS where
 |sl (T:TypeId) (sz:Nat) (xs:List (List U))
 |mp (K E:TypeId) (bs:List (U×U))
inductive b1 where
 |cells (T:TypeId) (cs:List U)
 |slice (T:TypeId) (sz:Nat) (xs:List (List U)) (k:Nat) (bK:Bool)
 |map (K E:TypeId) (bs:List (U×U))
 |gM (K E:TypeId) (bs:List (U×U))
 |er (es:dK) (clock:Nat) (K E:TypeId) (bs:List (U×U))
 |iter (b4 ad2 Xy:Nat) (seen:iz)
 |hdr (b4 n:Nat)
 |bp (Tv:List dS)
 |cF (T:TypeId) (e n:Nat) (UF:Option (fV×Nat))
 |fk (T:TypeId) (sz:Nat) (xs:List (List U)) (Yj e:Nat) (UF:Option (fV×Nat))
 |dB (K E:TypeId) (e:Nat) (keys:List U) (UF:Option (fV×Nat)) (Wx:Option (dK×Nat))
 |eR (T:TypeId) (xs:List (List U)) (t:Nat)
 |vec (T:TypeId) (xs:bH)
 |gD (es:dK) (clock:Nat) (bs:List (U×U)) (seen:iz)
abbrev W:=List (Nat×b1)
def W.get:W->Nat->Option b1
 |[],_=>none
 |(k,v)::r,n=>bif Nat.beq k n then some v else W.get r n
abbrev ah:=List (Nat×U)
def ah.get:ah->Nat->U
 |[],_=>.dg
 |(k,v)::r,n=>bif Nat.beq k n then v else ah.get r n
def ah.put(env:ah)(d:fV)(v:U):ah:=match d with|some t=>(t,v)::env|none=>env
theorem avb(k:Nat)(v:U)(r:ah)(n:Nat):ah.get ((k,v)::r) n=if k=n then v else ah.get r n:=by
 simp only[ah.get]
 simp_all
theorem auU(k:Nat)(v:b1)(r:W)(n:Nat):W.get ((k,v)::r) n=if k=n then some v else W.get r n:=by
 simp only[W.get]
 simp_all
mutual
def gN:Value->U
 |.int k n=>.int k n
 |.bool b=>.bool b
 |.string s=>.str s
 |.slice none 0 0=>.bC
 |.pointer none=>.ia
 |.agg ⟨cs⟩=>.agg (iO cs)
 |_=>.dg
def iO:c4->List U
 |[]=>[]
 |x::r=>gN x::iO r
end
mutual
def yK(I:a2)(β:Nat->Value):∀v,az I β (gN v) v
 |.int k n=>by simp[gN,az,aN]
 |.bool b=>by simp[gN,az,aN]
 |.string s=>by simp[gN,az,aN]
 |.slice none 0 0=>by simp[gN,az,aN]
 |.slice none 0 (n+1)=>by simp[gN,az]
 |.slice none (m+1) n=>by simp[gN,az]
 |.slice (some a) m n=>by simp[gN,az]
 |.pointer none=>by simp[gN,az,aN]
 |.pointer (some a)=>by simp[gN,az]
 |.agg ⟨cs⟩=>by simp only[gN,az];exact⟨_,rfl,xE I β cs⟩
 |.float _ _=>by simp[gN,az]
 |.complex _ _ _=>by simp[gN,az]
 |.map _=>by simp[gN,az]
 |.chan _=>by simp[gN,az]
 |.func _ _ _=>by simp[gN,az]
 |.nilFunc=>by simp[gN,az]
 |.iface _ _=>by simp[gN,az]
 |.nilIface=>by simp[gN,az]
 |.tuple _=>by simp[gN,az]
def xE(I:a2)(β:Nat->Value):∀vs,bx I β (iO vs) vs
 |[]=>by simp[iO,bx]
 |x::r=>by simp only[iO,bx];exact⟨x,r,rfl,yK I β x,xE I β r⟩
end
def ah.ev(env:ah):Operand->U
 |.tmp t=>env.get t
 |.const v=>gN v
 |.func f=>.fn f []
 |.global _=>.dg
structure bQ where
 P:Program
 N:Nat
 ids:cg
structure c2 where
 B:Nat
 w0:World
 I0:a2
 og:cg
 mO:Nat->Value
def Place(cx:c2)(b:Nat):Prop:=cx.B<=b\/b∈cx.og
def gp(cx:c2)(I:a2)(w:World):dS->Value->Prop
 |.sl g e xs,v=>(v=.slice none 0 0/\xs=[])\/
   ∃a aR c,v=.slice (some ⟨a,0,none⟩) xs.length aR/\xs.length<=aR/\aR<=maxLen/\w.heap[a]?=some (.cells c g (0,0))/\c.size=aR*e/\
    bX I xs.flatten (c.toList.take (xs.length*e))/\(∀i∈xs,i.length=e)/\(∀o:Nat,I a o=none)/\Place cx a
 |.mp _ _ h,v=>∃b d f,v=.map (some b)/\w.heap[b]?=some (.map d f)/\c3 I h d.toList/\(∀o,I b o=none)/\Place cx b/\fM d f
def eH(cx:c2)(I:a2)(w:World):List dS->c4->Prop
 |[],c=>c=[]
 |x::r,c=>∃b a,c=b::a/\gp cx I w x b/\(∀d,bE b=some d->d∉a.filterMap bE)/\eH cx I w r a
def kH(β:Nat->Value)(a b:c4):Option (fV×Nat)->Prop
 |none=>b=a
 |some (none,_)=>b=a
 |some (some i,t)=>i<a.length/\β t≠.nilFunc/\b=a.set i (β t)
def gE(I:a2):List U->c4->iw->Prop
 |[],c,b=>c=[]/\b=[]
 |k::g,c,b=>∃f d a e,c=f::d/\b=a::e/\aN I k a.key/\a.val=f/\gE I g d e
def A9(sz d:Nat)(c vs:c4):c4:=vs.mapIdx λa b=>if a%sz=d then c.getD (a / sz) b else b
def bb(cx:c2)(I:a2)(β:Nat->Value)(w:World)(d:Nat):b1->Prop
  |.cells T cs=>β d=.nilFunc\/∃b f,β d=.pointer (some ⟨b,0,none⟩)/\w.heap[b]?=some (.cells f T (0,0))/\bx I β cs f.toList/\(∀o,I b o=none)/\Place cx b
  |.slice T sz xs k bK=>β d=.nilFunc\/(β d=.slice none 0 0/\xs=[]/\k=0)\/
      ∃b aR f,β d=.slice (some ⟨b,0,none⟩) xs.length aR/\xs.length<=aR/\aR<=maxLen/\w.heap[b]?=some (.cells f T (0,0))/\f.size=aR*sz/\
        bX I xs.flatten (f.toList.take (xs.length*sz))/\(∀e∈xs,e.length=sz)/\k<=xs.length/\
        (bK=true->∀o,o<xs.length*sz->I b o=f[o]?)/\(∀o,k*sz<=o->I b o=none)/\Place cx b
  |.map _ _ bs=>β d=.nilFunc\/∃r es clock,β d=.map (some r)/\w.heap[r]?=some (.map es clock)/\c3 I bs es.toList/\(∀o,I r o=none)/\Place cx r/\fM es clock
  |.gM _ _ bs=>β d=.nilFunc\/∃r es clock,β d=.map (some r)/\I r none=some (i1 es clock)/\c3 I bs es.toList/\Place cx r/\fM es clock
  |.er es clock _ _ bs=>β d=.nilFunc\/∃r,β d=.map (some r)/\w.heap[r]?=some (.map es clock)/\c3 I bs es.toList/\(∀o,I r o=none)/\Place cx r/\fM es clock
  |.iter b4 u s seen=>β d=.nilFunc\/∃r i,β d=.pointer (some ⟨r,0,none⟩)/\bE (β b4)=some i/\w.heap[r]?=some (.mapIter (some i) u seen s)/\(∀o,I r o=none)/\Place cx r
  |.hdr b4 n=>β d=.pointer none/\∃a c,β b4=.slice a n c
  |.bp m=>β d=.nilFunc\/∃g:eN,β d=.tuple g/\eH cx I w m g.toList
  |.cF T e n h=>β d=.nilFunc\/∃b aR f g,β d=.slice (some ⟨b,0,none⟩) n aR/\n<=aR/\aR<=maxLen/\w.heap[b]?=some (.cells f T (0,0))/\f.size=aR/\
        β e=.tuple g/\g.size=n/\kH β g.toList (f.toList.take n) h/\(∀o:Nat,I b o=none)/\Place cx b
  |.fk T sz xs l e h=>β d=.nilFunc\/∃b aR f g vs,β d=.slice (some ⟨b,0,none⟩) xs.length aR/\xs.length<=aR/\aR<=maxLen/\w.heap[b]?=some (.cells f T (0,0))/\f.size=aR*sz/\
        β e=.tuple g/\(l<sz->g.size=xs.length)/\(bX I xs.flatten vs/\(∀e∈xs,e.length=sz)/\kH β (A9 sz l g.toList vs) (f.toList.take (xs.length*sz)) h)/\(∀o:Nat,I b o=none)/\Place cx b
  |.dB _ _ e keys h p=>β d=.nilFunc\/∃r es clock g j,β d=.map (some r)/\w.heap[r]?=some (.map es clock)/\β e=.tuple g/\kH β g.toList j h/\gE I keys j es.toList/\
        (∀o,I r o=none)/\Place cx r/\fM es clock/\(∀q,p=some q->q=(es,clock))
  |.eR T xs t=>β d=.nilFunc\/∃b aR f,β d=.slice (some ⟨b,0,none⟩) (xs.length+1) aR/\xs.length+1<=aR/\aR<=maxLen/\w.heap[b]?=some (.cells f T (0,0))/\f.size=aR/\
        bX I xs.flatten (f.toList.take xs.length)/\(∀e∈xs,e.length=1)/\f[xs.length]?=some (β t)/\β t≠.nilFunc/\(∀o:Nat,I b o=none)/\Place cx b
  |.vec T xs=>β d=.nilFunc\/∃b f,β d=.pointer (some ⟨b,0,none⟩)/\w.heap[b]?=some (.cells f T (0,0))/\f.toList=xs.map (Value.int .i64)/\(∀o,I b o=none)/\Place cx b
  |.gD es clock bs seen=>β d=.nilFunc\/∃r i,β d=.pointer (some ⟨r,0,none⟩)/\w.heap[r]?=some (.mapIter (some i) clock seen clock)/\I i none=some (i1 es clock)/\c3 I bs es.toList/\fM es clock/\(∀o,I r o=none)/\Place cx r
variable {cx hn:c2}{w w':World}
def gp.go{I SG:a2}{x:dS}{v:Value}(bA:bM I SG)(af:∀b,bE v=some b->(b<w.heap.size->w'.heap[b]?=w.heap[b]?)/\(∀o,SG b o=I b o)/\(Place cx b->Place hn b))(h:gp cx I w x v):gp hn SG w' x v:=by
 cases x with
 |sl T sz xs=>
  rcases h with h|⟨b,aR,arr,u,D,Q,F,O,ab,ag,ai,ak⟩
  .exact .inl h
  .obtain⟨aa,X,ae⟩:=af b (by rw[u];rfl);exact .inr ⟨b,aR,arr,u,D,Q,(aa (Array.getElem?_eq_some_iff.1 F).1).trans F,O,kA bA _ _ ab,ag,λo=>(X o).trans (ai o),ae ak⟩
 |mp K E am=>
  obtain⟨r,es,clock,u,D,Q,F,O,ab⟩:=h;obtain⟨aa,X,ae⟩:=af r (by rw[u];rfl);exact⟨r,es,clock,u,(aa (Array.getElem?_eq_some_iff.1 D).1).trans D,mg bA _ _ Q,λo=>(X o).trans (F o),ae O,ab⟩
theorem eH.go{cx hn:c2}{I SG:a2}{w w':World}(bA:bM I SG):∀{D:List dS} {vs:c4},(∀b∈vs.filterMap bE,(b<w.heap.size->w'.heap[b]?=w.heap[b]?)/\(∀o,SG b o=I b o)/\(Place cx b->Place hn b))->eH cx I w D vs->eH hn SG w' D vs
 |[],_,_,h=>h
 |x::r,vs,u,h=>by
  obtain⟨au,O,rfl,aa,F,Q⟩:=h;refine⟨au,O,rfl,aa.go bA λb X=>u b ?_,F,eH.go bA (λb ab=>u b ?_) Q⟩
  .simp[X]
  .grind
def gE.mono{I SG:a2}(bA:bM I SG):∀{ks:List U} {vs:c4} {es:iw},gE I ks vs es->gE SG ks vs es
 |[],_,_,h=>h
 |k::ks,vs,es,h=>by
  obtain⟨v,D,e,fs,X,u,Q,F,O⟩:=h;exact⟨v,D,e,fs,X,u,hD bA k _ Q,F,gE.mono bA O⟩
def ho(p:Nat->Bool):b1->Bool
 |.cells _ cs=>iN p cs
 |.iter a _ _ _=>p a
 |.hdr a _=>p a
 |.fk _ _ _ _ e h=>p e||(match h with|some (_,t)=>p t|none=>false)
 |.cF _ e _ h=>p e||(match h with|some (_,t)=>p t|none=>false)
 |.dB _ _ e _ h _=>p e||(match h with|some (_,t)=>p t|none=>false)
 |.eR _ _ t=>p t
 |_=>false
def fo{b:Nat}{x:Obj}(a:w.heap[b]?=some x):b<w.heap.size:=(Array.getElem?_eq_some_iff.1 a).1
def lU(r:Nat->Nat):Option (fV×Nat)->Option (fV×Nat)
 |none=>none
 |some (i,t)=>some (i,r t)
def b1.ct(r:Nat->Nat):b1->b1
 |.cells T cs=>.cells T (iI r cs)
 |.iter u Q F seen=>.iter (r u) Q F seen
 |.hdr u n=>.hdr (r u) n
 |.cF T e n h=>.cF T (r e) n (lU r h)
 |.fk T sz xs O e h=>.fk T sz xs O (r e) (lU r h)
 |.dB K E e keys h D=>.dB K E (r e) keys (lU r h) D
 |.eR T xs t=>.eR T xs (r t)
 |o=>o
def b1.o3:∀o:b1,o.ct id=o
 |.cells T cs=>by simp only[b1.ct,qM cs]
 |.slice ..|.map ..|.gM ..|.er ..|.bp ..|.vec ..|.gD ..|.iter ..|.hdr ..|.eR ..=>rfl
 |.cF _ _ _ h|.fk _ _ _ _ _ h|.dB _ _ _ _ h _=>by cases h<;>rfl
theorem bb.go{cx hn:c2}{I SG:a2}{β β':Nat->Value}{w w':World}{r:Nat->Nat}{p:Nat->Bool}{d cm:Nat}{o:b1}(bA:bM I SG)(Z:β' cm=β d)(aC:∀x,p x=false->β x=.nilFunc\/β' (r x)=β x)
  (az:∀b∈b3 (β d),(b<w.heap.size->w'.heap[b]?=w.heap[b]?)/\(∀o,SG b o=I b o)/\(Place cx b->Place hn b)) (af:ho p o=false) (h:bb cx I β w d o):bb hn SG β' w' cm (o.ct r):=by
 have an:∀x,p x=false->β x≠.nilFunc->β' (r x)=β x:=λx aI aF=>(aC x aI).resolve_left aF
 have aE:∀{h:Option (fV×Nat)} {Y aq:c4},(match h with|some (_,t)=>p t|none=>false)=false->kH β Y aq h->kH β' Y aq (lU r h):=λ{h Y aq} e q=>by
  match h,e,q with
  |none,_,q=>exact q
  |some (none,_),_,q=>exact q
  |some (some i,t),e,⟨u,D,F⟩=>have k:=an t e D;exact⟨u,by rw[k];exact D,by rw[k];exact F⟩
 have ag:∀{b},bE (β d)=some b->∀{x},w.heap[b]?=some x->w'.heap[b]?=some x/\(∀{au o},I b o=au->SG b o=au)/\(Place cx b->Place hn b):=λe _ q=>by
  obtain⟨aa,Q,ab⟩:=az _ (gv e);exact⟨(aa (fo q)).trans q,λe=>(Q _).trans e,ab⟩
 cases o with
 |hdr aA n=>
  simp only[bb,b1.ct,Z]at h ⊢;obtain⟨u,a,c,D⟩:=h;exact⟨u,a,c,by rw[an aA af (by rw[D];nofun)];exact D⟩
 |bp aM=>
  simp only[bb,b1.ct,Z]at h ⊢;rcases h with q|⟨Y,u,D⟩
  .exact .inl q
  .exact .inr ⟨Y,u,D.go bA λb aG=>az b (by rw[u];exact aG)⟩
 |cells T cs=>
  simp only[bb,b1.ct,Z]at h ⊢;rcases h with q|⟨b,arr,u,D,F,O,X⟩
  .exact .inl q
  .obtain⟨aa,Q,ab⟩:=ag (by rw[u];rfl) D;exact .inr ⟨b,arr,u,aa,tQ bA aC cs _ af F,λo=>Q (O o),ab X⟩
 |slice T sz xs k bK=>
  simp only[bb,b1.ct,Z]at h ⊢;rcases h with q|q|⟨b,aR,arr,u,D,F,O,X,ae,ai,ak,am,ao,aw⟩
  .exact .inl q
  .grind
  .obtain⟨aa,Q,ab⟩:=ag (by rw[u];rfl) O;exact .inr (.inr ⟨b,aR,arr,u,D,F,aa,X,kA bA _ _ ae,ai,ak,λhz o ar=>Q (am hz o ar),λo ar=>Q (ao o ar),ab aw⟩)
 |map K E aB=>
  simp only[bb,b1.ct,Z]at h ⊢;rcases h with q|⟨b,es,clock,u,D,F,O,X,ae⟩
  .exact .inl q
  .obtain⟨aa,Q,ab⟩:=ag (by rw[u];rfl) D;exact .inr ⟨b,es,clock,u,aa,mg bA _ _ F,λo=>Q (O o),ab X,ae⟩
 |gM K E aB=>
  simp only[bb,b1.ct,Z]at h ⊢;rcases h with q|⟨b,es,clock,u,D,F,O,X⟩
  .exact .inl q
  .exact .inr ⟨b,es,clock,u,bA _ _ _ D,mg bA _ _ F,(az b (gv (by rw[u];rfl))).2.2 O,X⟩
 |er es clock K E aB=>
  simp only[bb,b1.ct,Z]at h ⊢;rcases h with q|⟨b,u,D,F,O,X,ae⟩
  .exact .inl q
  .obtain⟨aa,Q,ab⟩:=ag (by rw[u];rfl) D;exact .inr ⟨b,u,aa,mg bA _ _ F,λo=>Q (O o),ab X,ae⟩
 |iter aA aV aT seen=>
  simp only[bb,b1.ct,Z]at h ⊢;rcases h with q|⟨b,ax,u,D,F,O,X⟩
  .exact .inl q
  .obtain⟨aa,Q,ab⟩:=ag (by rw[u];rfl) F;exact .inr ⟨b,ax,u,by rw[an aA af λe=>by rw[e]at D;cases D];exact D,aa,λo=>Q (O o),ab X⟩
 |cF T e n aD=>
  simp only[bb,b1.ct,Z]at h ⊢;simp only[ho,Bool.or_eq_false_iff]at af;rcases h with q|⟨b,aR,arr,Y,u,D,F,O,X,ae,ai,ak,am,ao⟩
  .exact .inl q
  .obtain⟨aa,Q,ab⟩:=ag (by rw[u];rfl) O
   grind
 |fk T sz xs aU e aD=>
  simp only[bb,b1.ct,Z]at h ⊢;simp only[ho,Bool.or_eq_false_iff]at af;rcases h with q|⟨b,aR,arr,Y,vs,u,D,F,O,X,ae,ai,ak,am,ao⟩
  .exact .inl q
  .obtain⟨aa,Q,ab⟩:=ag (by rw[u];rfl) O;exact .inr ⟨b,aR,arr,Y,vs,u,D,F,aa,X,(an e af.1 (by rw[ae];nofun)).trans ae,ai,⟨kA bA _ _ ak.1,ak.2.1,aE af.2 ak.2.2⟩,λo=>Q (am o),ab ao⟩
 |dB K E e keys aD aS=>
  simp only[bb,b1.ct,Z]at h ⊢;simp only[ho,Bool.or_eq_false_iff]at af;rcases h with q|⟨b,es,clock,Y,aq,u,D,F,O,X,ae,ai,ak⟩
  .exact .inl q
  .obtain⟨aa,Q,ab⟩:=ag (by rw[u];rfl) D;exact .inr ⟨b,es,clock,Y,aq,u,aa,(an e af.1 (by rw[F];nofun)).trans F,aE af.2 O,X.mono bA,λo=>Q (ae o),ab ai,ak⟩
 |eR T xs t=>
  simp only[bb,b1.ct,Z]at h ⊢;rcases h with q|⟨b,aR,arr,u,D,F,O,X,ae,ai,ak,am,ao,aw⟩
  .exact .inl q
  .obtain⟨aa,Q,ab⟩:=ag (by rw[u];rfl) O;exact .inr ⟨b,aR,arr,u,D,F,aa,X,kA bA _ _ ae,ai,by rw[an t af am];exact ak,by rw[an t af am];exact am,λo=>Q (ao o),ab aw⟩
 |vec T xs=>
  simp only[bb,b1.ct,Z]at h ⊢;rcases h with q|⟨b,arr,u,D,F,O,X⟩
  .exact .inl q
  .obtain⟨aa,Q,ab⟩:=ag (by rw[u];rfl) D
   grind
 |gD es clock aB seen=>
  simp only[bb,b1.ct,Z]at h ⊢;rcases h with q|⟨b,ax,u,D,F,O,X,ae,ai⟩
  .exact .inl q
  .obtain⟨aa,Q,ab⟩:=ag (by rw[u];rfl) D;exact .inr ⟨b,ax,u,aa,bA _ _ _ F,mg bA _ _ O,X,λo=>Q (ae o),ab ai⟩
def wP{p:Nat->Bool}(a:∀d,p d=false)(o:b1):ho p o=false:=by
 cases o<;>simp only[ho,a,oN a,Bool.false_or]<;>split<;>rfl
variable {o:b1}
def bb.rZ{I SG:a2}{β β':Nat->Value}{d cm:Nat}(bA:bM I SG)(Z:β' cm=β d)(u:en β β')
  (D:∀b∈b3 (β d),(b<w.heap.size->w'.heap[b]?=w.heap[b]?)/\(∀o,SG b o=I b o)/\(Place cx b->Place hn b)) (h:bb cx I β w d o):bb hn SG β' w' cm o:=
 o.o3▸h.go (r:=id) (p:=λ_=>false) bA Z (λx _=>u x) D (wP (λ_=>rfl) o)
def bb.heap{cx:c2}{I:a2}{β:Nat->Value}{w w':World}{d:Nat}{o:b1}(e:w'.heap=w.heap)(h:bb cx I β w d o):bb cx I β w' d o:=h.rZ (bM.refl I) rfl (en.refl β) λ_ _=>⟨λ_=>by rw[e],λ_=>rfl,id⟩
def bb.beta{I:a2}{β β':Nat->Value}{d:Nat}{p:Nat->Bool}(u:∀d,p d=false->β' d=β d)(Z:p d=false)(D:ho p o=false)
  (h:bb cx I β w d o):bb cx I β' w d o:=o.o3▸h.go (r:=id) (bM.refl I) (u d Z) (λx e=>.inr (u x e)) (λ_ _=>⟨λ_=>rfl,λ_=>rfl,id⟩) D
def a2.on(I:a2)(f:Nat->Nat->Option Value):a2:=λb o=>match o with
 |none=>I b none
 |some o=>f b o
structure bG(G:bQ)(cx:c2)(I:a2)(β:Nat->Value)(σ:W)(w:World):Prop where
 good:∀b (o:Nat) v,I b o=some v->w.cell? ⟨b,o,none⟩=some v
 eD:∀b v,I b none=some v->∃es clock,w.heap[b]?=some (.map es clock)/\v=i1 es clock
 fK:bM cx.I0 I
 fB:∀b,b<cx.B->b∉cx.og->∀o,I b o=cx.I0 b o
 frame:∀b,b<cx.B->b∉cx.og->w.heap[b]?=cx.w0.heap[b]?
 size:cx.B<=w.heap.size
 tape:w.tape=cx.w0.tape
 os:w.os=cx.w0.os
 output:w.output=cx.w0.output
 drawn:cx.w0.drawn<=w.drawn
 b5:∀d o,σ.get d=some o->bb cx I β w d o
 cA:∀d cm,(σ.get d).isSome->(σ.get cm).isSome->d≠cm->∀b∈b3 (β d),b∉b3 (β cm)
 keep:∀d∈G.ids,β d=cx.mO d
def jX(P:Program)(Φ:Value->World->Prop):Result Next->Prop
 |.ok (.value a) w'=>Φ a w'
 |.ok .skip w'=>Φ undef w'
 |.ok (.enter f args) w'=>Calls P f args w' (λc b=>∃a,c=.returned a/\Φ a b)
 |_=>False
def jX.wp{P:Program}{o:Oper}{a:Act}{w:World}{Φ:Value->World->Prop}{K:Act->World->Prop}{D:Exit->Act->World->Prop}
  (h:jX P Φ ((execOp a.eval o).run P w)) (u:∀v w',Φ v w'->K (a.put o.dst v) w'):o.wp P a w K D:=by
 unfold Oper.wp;generalize (execOp a.eval o).run P w=r at h;cases r with
 |halt x w'=>exact h.elim
 |ok n w'=>
  cases n<;>simp only[jX]at h<;>simp only[Oper.upon]
  case value v=>exact u _ _ h
  case skip=>exact u _ _ h
  case enter f args=>
   exact Calls.mono h λe Q ⟨v,O,F⟩=>by subst O;exact u _ _ F
def Yields(G:bQ)(o:Oper)(ev:Operand->U)(σ:W)(cw R:cg)(bt:U):Prop:=
 ∀(b:W) (cx:c2) (I:a2) (β:Nat->Value) (w:World) (c:Operand->Value),(∀a∈R,b.get a=σ.get a)->bG G cx I β b w->(∀a∈cw,β a=.nilFunc)->
  (∀d∈o.op.operands,az I β (ev d) (c d))->
  jX G.P (λe w'=>∃SG β',az SG β' bt e/\bG G cx SG β' b w'/\bM I SG/\(∀a,a∉cw->β' a=β a)) ((execOp c o).run G.P w)
def eL(G:bQ)(o:Oper)(ev:Operand->U)(σ:W)(M news:cg)(Φ:U->W->Prop):Prop:=
 ∀(cx:c2) (I:a2) (β:Nat->Value) (w:World) (c:Operand->Value),bG G cx I β σ w->(∀e∈o.op.operands,az I β (ev e) (c e))->
  jX G.P (λf w'=>∃d b SG β',Φ d b/\az SG β' d f/\bG G cx SG β' b w'/\bM I SG/\(∀a,a∉news->β' a=β a)/\(∀a,a∉M->b.get a=σ.get a)) ((execOp c o).run G.P w)
def ah.clean(p:Nat->Bool):ah->Bool
 |[]=>true
 |(_,v)::r=>!v.refs p&&ah.clean p r
def W.clean(p:Nat->Bool):W->Bool
 |[]=>true
 |(d,v)::r=>!p d&&!ho p v&&W.clean p r
def avk{p:Nat->Bool}:∀{env:ah},env.clean p=true->∀t,(env.get t).refs p=false
 |[],_,t=>by simp[ah.get,U.refs]
 |(k,v)::r,h,t=>by
   simp only[ah.clean,Bool.and_eq_true,Bool.not_eq_true']at h;rw[avb];split
   .exact h.1
   .exact avk h.2 t
theorem au8{p:Nat->Bool}:∀{σ:W},σ.clean p=true->∀d o,σ.get d=some o->p d=false/\ho p o=false
 |[],_,d,o,e=>by simp[W.get]at e
 |(k,v)::r,h,d,o,e=>by
   simp only[W.clean,Bool.and_eq_true,Bool.not_eq_true']at h;rw[auU]at e;split at e
   .grind
   .exact au8 h.2 d o e
def avs(e:ah):e.clean ([]:cg).contains=true:=by
 induction e with
 |nil=>rfl
 |cons x r a=>simp only[ah.clean,a,xD (p:=([]:cg).contains) (λ_=>rfl) x.2,Bool.not_false,Bool.and_self]
def avD(e:W):e.clean ([]:cg).contains=true:=by
 induction e with
 |nil=>rfl
 |cons x r a=>
  have:ho ([]:cg).contains x.2=false:=wP (λ_=>rfl) _;simp only[W.clean,a,this];rfl
def Ge:b1->Bool
 |.hdr _ _=>false
 |_=>true
def mJ(G:bQ)(σ:W)(cw:cg)(σ2:W)(env:ah):Prop:=
 (∀a,a∉cw->σ2.get a=σ.get a)/\(∀a∈cw,a∉G.ids)/\env.clean cw.contains=true/\σ.clean cw.contains=true/\∀a∈cw,∀b c,σ2.get a≠some (.hdr b c)
def avt(G:bQ)(σ:W)(env:ah):mJ G σ [] σ env:=⟨λ_ _=>rfl,λ_ a=>by simp at a,avs env,avD σ,λ_ a=>by simp at a⟩
def eg(β:Nat->Value)(cw:cg):Nat->Value:=λa=>if a∈cw then .nilFunc else β a
def bG.jE{G:bQ}{I:a2}{β:Nat->Value}{σ σ2:W}{cw:cg}{env:ah}(h:bG G cx I β σ w)(v:mJ G σ cw σ2 env):
  bG G cx I (eg β cw) σ2 w:=by
 obtain⟨F,af,am,ai,ak⟩:=v
 have D:∀d,cw.contains d=false->eg β cw d=β d:=λd Z=>by
  have:d∉cw:=by simpa using Z
  simp[eg,this]
 have Q:∀d,d∈cw->eg β cw d=.nilFunc:=λd Z=>by simp[eg,Z]
 refine{h with b5:=λd o e=>?_,cA:=λd cm e X ae b=>?_,keep:=λd Z=>?_}
 .by_cases u:d∈cw
  .cases o with
   |hdr ag n=>exact absurd e (ak d u ag n)
   |_=>simp only[bb];exact .inl (Q d u)
  .rw[F d u]at e;obtain⟨ab,aa⟩:=au8 ai d o e;exact(h.b5 d o e).beta D ab aa
 .by_cases u:d∈cw
  .simp[Q d u,Bv]
  .by_cases O:cm∈cw
   .simp[Q cm O,Bv]
   .rw[F d u]at e;rw[F cm O]at X;rw[D d (by simpa using u),D cm (by simpa using O)];exact h.cA d cm e X ae b
 .have:d∉cw:=λu=>af d u Z;rw[D d (by simpa using this)];exact h.keep d Z
def fD(d:hU)(o:Oper)(env:ah):Prop:=
 match o.guard with
 |none=>True
 |some (c,want)=>∃b a,d[c]?=some b/\b.dst=some a/\env.get a=.bool want
def gY(d:hU)(o:Oper)(env:ah):Prop:=
 match o.guard with
 |none=>False
 |some (c,want)=>∃b a,d[c]?=some b/\b.dst=some a/\(env.get a=.bool (!want)\/env.get a=.undef)
structure hj where
 di:Bool
 T:jh
 es:cg
def k5(s:hj)(e:Nat)(M:cg):List (Nat×cg)->Bool
 |[]=>true
 |(i,a)::r=>((s.T.getD e []).contains i||a.all (λb=>!M.contains b))&&k5 s e M r
def ep(G:bQ)(a:hU)(s:hj):List (Nat×cg)->cg->ah->W->(ah->W->Prop)->Prop
 |_,[],env,b,K=>K env b
 |log,i::l,env,b,K=>∃o,a[i]?=some o/\
   ((gY a o env/\(s.di=true->i∉s.es)/\ep G a s ((i,[])::log) l (env.put o.dst .undef) b K)\/
    (fD a o env/\(s.di=true->i∉s.es)/\∃g e d f,mJ G b g f env/\(∀c∈e,(f.get c).isSome)/\(∀c∈g,c∈e)/\Yields G o env.ev f g e d/\
     ep G a s ((i,e)::log) l (env.put o.dst d) f K)\/
    (fD a o env/\(s.di=true->i∈s.es)/\∃j h m,eL G o env.ev b j h m/\(s.di=true->k5 s i j log=true)/\env.clean h.contains=true/\(∀c∈h,c∉G.ids/\b.get c=none)/\
     ∀d k,m d k->ep G a s log l (env.put o.dst d) k K)\/
    (gY a o env/\(s.di=true->i∈s.es)/\ep G a s log l (env.put o.dst .undef) b K))
def gJ(I:a2)(β:Nat->Value)(env:ah)(a:Act):Prop:=∀b,az I β (env.get b) (a.tmps.getD b undef)
def gJ.ev{I:a2}{β:Nat->Value}{env:ah}{a:Act}(h:gJ I β env a)(x:Operand):az I β (env.ev x) (a.eval x):=by
 cases x with
 |tmp t=>exact h t
 |const v=>exact yK I β v
 |global g=>simp[ah.ev,az]
 |func f=>simp[ah.ev,Act.eval,az,bx]
theorem tI(a:Act)(d:Nat)(v:Value)(t:Nat)(b:d<a.tmps.size):(a.put (some d) v).tmps.getD t undef=if d=t then v else a.tmps.getD t undef:=by
 simp only[Act.put];by_cases c:d=t
 all_goals simp_all
end
section
def j4(G:bQ)(cx:c2)(env:ah)(σ:W)(a:Act)(w:World):Prop:=
 ∃I β,bG G cx I β σ w/\gJ I β env a/\a.tmps.size=G.N/\a.defers=[]
theorem CO{G:bQ}{ops:hU}{o:Oper}{env:ah}{a:Act}(u:a.tmps.size=G.N)(m:∀(j:Nat) (e:Oper) (d:Nat),ops[j]?=some e->e.dst=some d->d<G.N)
  (p:∀(j:Nat) (k:Bool),o.guard=some (j,k)->∀(e:Oper) (c:Nat),ops[j]?=some e->e.dst=some c->∀b,(env.get c=.bool b->a.tmps.getD c undef=.bool b)/\(env.get c=.undef->a.tmps.getD c undef=undef)) :
  (fD ops o env->Region.wanted o (yielded ops a.tmps)=true)/\(gY ops o env->Region.wanted o (yielded ops a.tmps)=false):=by
 unfold fD gY Region.wanted;cases l:o.guard with
 |none=>exact⟨λ_=>rfl,λq=>q.elim⟩
 |some n=>
  obtain⟨j,k⟩:=n
  have r:∀(e:Oper) (c:Nat),ops[j]?=some e->e.dst=some c->∀i,a.tmps.getD c undef=i->yielded ops a.tmps j=(match i with|.bool b=>some b|_=>none):=by
   intro e c h f i s;have t:=m j e c h f;have:a.tmps[c]?=some i:=by simp_all
   unfold yielded
   grind
  constructor
  .grind
  .rintro⟨e,c,h,f,g⟩;rcases g with g|g
   .grind
   .have:=(p j k l e c h f k).2 g;simp only[r e c h f _ this];rfl
def gJ.guard{I:a2}{β:Nat->Value}{env:ah}{a:Act}(h:gJ I β env a)(d:Nat)(b:Bool):
  (env.get d=.bool b->a.tmps.getD d undef=.bool b)/\(env.get d=.undef->a.tmps.getD d undef=undef):=by
 have:=h d;constructor<;>intro e<;>rw[e]at this<;>simpa [az,aN]using this
def gJ.put{I:a2}{β:Nat->Value}{env:ah}{a:Act}{bt:U}{v:Value}(h:gJ I β env a)(dst:fV)(Z:∀d,dst=some d->d<a.tmps.size)(u:az I β bt v):
  gJ I β (env.put dst bt) (a.put dst v):=by
 cases dst with
 |none=>exact h
 |some d=>
  intro t;rw[tI a d v t (Z d rfl)];simp only[ah.put,avb];split
  .exact u
  .exact h t
def ta(a:Act)(dst:fV)(v:Value):(a.put dst v).tmps.size=a.tmps.size:=by
 cases dst<;>simp[Act.put]
def s4(a:Act)(dst:fV)(v:Value):(a.put dst v).defers=a.defers:=by
 cases dst<;>simp[Act.put]
def gJ.mono{I u:a2}{β β':Nat->Value}{env:ah}{a:Act}(h:gJ I β env a)(hi:bM I u)(D:en β β'):gJ u β' env a:=
 λt=>xW hi D _ _ (h t)
def gJ.beta{I:a2}{β β':Nat->Value}{env:ah}{a:Act}{p:Nat->Bool}(h:gJ I β env a)(u:∀d,p d=false->β' d=β d)(D:env.clean p=true):gJ I β' env a:=
 λt=>nC u _ _ (avk D t) (h t)
theorem xX(G:bQ)(ops:hU)(s:hj)(c:Exit->Act->World->Prop)(n:∀(j:Nat) (E:Oper) (d:Nat),ops[j]?=some E->E.dst=some d->d<G.N)(K:ah->W->Prop)(cx:c2)
  (r:∀env σ a w,K env σ->j4 G cx env σ a w->c .normal a w) :
  ∀(l:cg) (log:List (Nat×cg)) (env:ah) (σ:W) (a:Act) (w:World),ep G ops s log l env σ K->j4 G cx env σ a w->wpOps G.P ops c l a w
 |[],log,env,σ,a,w,h,u=>r _ _ _ _ h u
 |i::l,log,env,σ,a,w,h,u=>by
  obtain⟨o,L,h⟩:=h;have B:∀d,o.dst=some d->d<a.tmps.size:=λd e=>by obtain⟨_,_,_,_,O,_⟩:=u;rw[O];exact n i o d L e
  simp only[wpOps,L];obtain⟨I,β,y,k,t,D⟩:=u;have C:=CO (o:=o) (env:=env) t n (λj an _ E S _ _ aa=>k.guard S aa)
  have skip:∀log,gY ops o env->ep G ops s log l (env.put o.dst .undef) σ K->
    if Region.wanted o (yielded ops a.tmps)=true then o.wp G.P a w (wpOps G.P ops c l) c\/o.asks G.P a w/\LetsOut c else wpOps G.P ops c l (a.put o.dst undef) w:=by
   intro log Y h;rw[C.2 Y];simp only[Bool.false_eq_true,if_false];exact xX G ops s c n K cx r l _ _ _ _ _ h ⟨I,β,y,k.put _ B (by simp[az,aN]),by rw[ta];exact t,by rw[s4];exact D⟩
  rcases h with⟨q,_,m⟩|⟨q,_,b,ag,bt,N,x,ai,ak,T,m⟩|⟨q,_,af,ae,Φ,R,_,V,am,m⟩|⟨q,_,m⟩
  .grind
  .rw[C.1 q];simp only[if_true];refine .inl (jX.wp (Φ:=λF H=>∃g f,az g f bt F/\bG G cx g f N H/\bM I g/\(∀d,d∉b->f d=eg β b d)) ?_ ?_)
   .have U:=y.jE x
    have v:∀d,b.contains d=false->eg β b d=β d:=λd e=>by
     have:d∉b:=by simpa using e
     simp[eg,this]
    exact T N cx I (eg β b) w a.eval (λ_ _=>rfl) U (λd e=>by simp[eg,e]) (λJ _=>(k.beta v x.2.2.1).ev J)
   .rintro F H ⟨g,f,A,z,bA,M⟩
    have v:∀d,b.contains d=false->eg β b d=β d:=λd e=>by
     have:d∉b:=by simpa using e
     simp[eg,this]
    have Q:en (eg β b) f:=λd=>by
     by_cases ab:d∈b
     .left;simp[eg,ab]
     .grind
    exact xX G ops s c n K cx r l _ _ _ _ _ m ⟨g,f,z,((k.beta v x.2.2.1).mono bA Q).put _ B A,by rw[ta];exact t,by rw[s4];exact D⟩
  .rw[C.1 q];simp only[if_true];refine .inl (jX.wp (R cx I β w a.eval y (λJ _=>k.ev J)) ?_);rintro F H ⟨bt,P,g,f,X,A,z,bA,M,_⟩;have Z:gJ g f env a:=(k.beta (p:=ae.contains) (λd e=>M d (by simpa using e)) V).mono bA (en.refl _);exact xX G ops s c n K cx r l _ _ _ _ _ (m bt P X) ⟨g,f,z,Z.put _ B A,by rw[ta];exact t,by rw[s4];exact D⟩
  .grind
def mE(N:Nat)(ops:hU):Bool:=ops.toList.all λo=>match o.dst with|some d=>Nat.blt d N|none=>true
theorem Cw{N:Nat}{ops:hU}(c:mE N ops=true):∀(j:Nat) (a:Oper) (d:Nat),ops[j]?=some a->a.dst=some d->d<N:=by
 intro j a d b f;have e:a∈ops.toList:=by simpa using Array.mem_of_getElem? b
 have:=List.all_eq_true.1 c a e
 simp_all
def hs(ops:hU)(o:Oper)(t:Nat):Bool:=(o.looksAt ops).contains t
def uT(s:hj)(i j:Nat)(b a:Oper)(ops:hU):Bool:=
 match b.dst with
 |none=>true
 |some t=>
  (i==j&&(s.es.contains i||!hs ops a t)) ||
  (!(i==j)&&(!(hs ops a t)||(s.T.getD j []).contains i||(s.es.contains i&&(s.T.getD i []).contains j)) &&
   (!(a.dst==some t)||(s.es.contains i&&s.es.contains j&&((s.T.getD j []).contains i||(s.T.getD i []).contains j))))
def mm(s:hj):cg->Bool
 |[]=>true
 |i::l=>l.all (λa=>!(s.T.getD i []).contains a&&!(i==a)&&(!s.es.contains i||(s.T.getD a []).contains i))&&mm s l
def zM(ops:hU)(T:jh):Bool:=
 (List.range ops.size).all λb=>match ops[b]? with
  |none=>false
  |some c=>c.after.toList.all (λa=>!Region.binds .any a||Nat.blt a.on b) &&
    (T.getD b []).all λd=>c.after.toList.any λa=>Region.binds .any a&&(a.on==d||(T.getD a.on []).contains d)
def uU(N:Nat)(ops:hU)(s:hj)(l:cg):Bool:=
 mE N ops&&zM ops s.T&&mm s l&&(List.range ops.size).all (λa=>l.contains a)&&l.all (λa=>Nat.blt a ops.size)&&(s.T.length==ops.size) &&
 (List.range ops.size).all λa=>(List.range ops.size).all λb=>match ops[a]?,ops[b]? with
  |some d,some c=>uT s a b d c ops
  |_,_=>true
section any
variable {G:bQ}{ops:hU}{s:hj}
structure Stat(G:bQ)(ops:Array Oper)(s:hj):Prop where
 dst:∀(j:Nat) (cO:Oper) (d:Nat),ops[j]?=some cO->cO.dst=some d->d<G.N
 down:∀(j:Nat) (cO:Oper),ops[j]?=some cO->∀e∈cO.after,Region.binds .any e=true->e.on<j
 tab:∀(j:Nat) (cO:Oper),ops[j]?=some cO->∀i∈s.T.getD j [],∃e∈cO.after,Region.binds .any e=true/\(e.on=i\/i∈s.T.getD e.on [])
 size:s.T.length=ops.size
 read:∀(i j:Nat) (gm cO:Oper) (t:Nat),ops[i]?=some gm->ops[j]?=some cO->gm.dst=some t->i≠j->hs ops cO t=true->i∈s.T.getD j []\/(i∈s.es/\j∈s.T.getD i [])
 self:∀(j:Nat) (cO:Oper) (t:Nat),ops[j]?=some cO->cO.dst=some t->j∉s.es->hs ops cO t=false
 one:∀(i j:Nat) (gm cO:Oper) (t:Nat),ops[i]?=some gm->ops[j]?=some cO->gm.dst=some t->cO.dst=some t->i≠j->i∈s.es/\j∈s.es
theorem av7{l:cg}(m:uU G.N ops s l=true):Stat G ops s/\mm s l=true/\(∀i,i<ops.size↔i∈l):=by
 simp only[uU,Bool.and_eq_true,List.all_eq_true,List.mem_range,beq_iff_eq]at m;obtain⟨⟨⟨⟨⟨⟨x,g⟩,q⟩,o⟩,p⟩,t⟩,h⟩:=m;refine⟨{dst:=Cw x,down:=?_,tab:=?_,size:=t,read:=?_,self:=?_,one:=?_},q,λi=>⟨λc=>by simpa using o i c,λc=>(Iff.of_eq Nat.blt_eq).1 (p i c)⟩⟩
 .intro b f a v y e;have k:b<ops.size:=(Array.getElem?_eq_some_iff.1 a).1;simp only[zM,List.all_eq_true,List.mem_range]at g;have:=g b k;simp only[a,Bool.and_eq_true,List.all_eq_true]at this;have:=this.1 v (by simpa using y)
  simp_all
 .intro b f a i c;have k:b<ops.size:=(Array.getElem?_eq_some_iff.1 a).1;simp only[zM,List.all_eq_true,List.mem_range]at g
  grind
 .intro i b w f n c a d j u;have:=h i (Array.getElem?_eq_some_iff.1 c).1 b (Array.getElem?_eq_some_iff.1 a).1;have e:(i==b)=false:=by simpa using j
  simp only[c,a,uT,d,e,u,Bool.not_true,Bool.not_false,Bool.true_and,Bool.false_and,Bool.false_or,Bool.or_eq_true,Bool.and_eq_true,false_or]at this
  grind
 .intro b f n a d fU;have:=h b (Array.getElem?_eq_some_iff.1 a).1 b (Array.getElem?_eq_some_iff.1 a).1;simp only[a,uT,d,BEq.rfl,Bool.true_and,Bool.not_true,Bool.false_and,Bool.or_false,Bool.or_eq_true,List.contains_iff_mem,fU,false_or,Bool.not_eq_true']at this;exact this
 .intro i b w f n c a d r j;have:=h i (Array.getElem?_eq_some_iff.1 c).1 b (Array.getElem?_eq_some_iff.1 a).1;have e:(i==b)=false:=by simpa using j
  simp only[c,a,uT,d,r,e,Bool.not_false,Bool.true_and,Bool.false_and,Bool.false_or,Bool.or_eq_true,Bool.and_eq_true,false_or,BEq.rfl,Bool.not_true,Bool.false_eq_true]at this
  grind
def u4(G:bQ)(ops:hU)(s:hj)(env:ah)(σ:W)(β:Nat->Value)(log:List (Nat×cg))(i:Nat)(cw:cg):Prop:=
 ∃o bt,ops[i]?=some o/\i∉s.es/\(∀c,o.dst=some c->env.get c=bt)/\
  ((gY ops o env/\bt=.undef/\cw=[])\/
   (fD ops o env/\∃b,Yields G o env.ev σ cw b bt/\(i,b)∈log/\(∀a∈b,(σ.get a).isSome)/\(∀a∈cw,a∈b/\β a=.nilFunc/\a∉G.ids)))
def rG(I:a2)(β:Nat->Value)(ops:hU)(dT:cg)(env:ah)(a:Act):Prop:=
 ∀b,(∀c∈dT,∀o,ops[c]?=some o->o.dst≠some b)->az I β (env.get b) (a.tmps.getD b undef)
def oQ{du:kC}{j:Nat}:j∈Region.ready .any ops du↔
  du.getD j true=false/\∃o,ops[j]?=some o/\∀e∈o.after,Region.binds .any e=true->du.getD e.on false=true:=mem_ready
theorem EU{du:kC}{i:Nat}(hi:i<du.size)(b c:Bool):du.getD i b=du.getD i c:=by grind
theorem wR(st:Stat G ops s){du:kC}(g:du.size=ops.size)
  (f:∀j,du.getD j false=true->∀i∈s.T.getD j [],du.getD i false=true) {j:Nat} (b:j∈Region.ready .any ops du) :
  ∀i∈s.T.getD j [],du.getD i false=true:=by
 obtain⟨_,o,c,h⟩:=oQ.1 b;intro i d;obtain⟨k,l,e,a⟩:=st.tab j o c i d;rcases a with a|a
 .grind
 .grind
theorem Ic(st:Stat G ops s){du:kC}(l:du.size=ops.size):∀(n j:Nat),j<=n->j<ops.size->du.getD j true=false->Region.ready .any ops du≠[]:=by
 intro n;induction n with
 |zero=>
  intro j g a d
  have:j∈Region.ready .any ops du:=oQ.2 ⟨d,ops[j],Array.getElem?_eq_getElem a,λb e c=>by
   have:=st.down j _ (Array.getElem?_eq_getElem a) b e c;omega⟩
  exact List.ne_nil_of_mem this
 |succ n k=>
  intro j g a d;by_cases vI:∃f,f<j/\du.getD f true=false
  .grind
  .have:j∈Region.ready .any ops du:=oQ.2 ⟨d,ops[j],Array.getElem?_eq_getElem a,λb e c=>by
    have i:=st.down j _ (Array.getElem?_eq_getElem a) b e c;have:¬du.getD b.on true=false:=λh=>vI ⟨b.on,i,h⟩;rw[EU (by omega) false true];simpa using this⟩
   grind
variable {bt:U}
def avY{env:ah}{dst:fV}{x:Operand}(b:∀t,dst=some t->x≠.tmp t):(env.put dst bt).ev x=env.ev x:=by
 cases dst with
 |none=>rfl
 |some d=>
  cases x with
  |tmp t=>simp only[ah.put,ah.ev,avb];rw[if_neg (λa=>b d rfl (by rw[a]))]
  |_=>rfl
def avz{env:ah}{dst:fV}{t:Nat}(b:dst≠some t):(env.put dst bt).get t=env.get t:=by
 cases dst with
 |none=>rfl
 |some d=>simp only[ah.put,avb];rw[if_neg (λa=>b (by rw[a]))]
variable {o:Oper}
def yL{t:Nat}(a:(Operand.tmp t)∈o.op.operands):hs ops o t=true:=by
 simp only[hs,List.contains_iff_mem,Oper.looksAt];exact List.mem_append_left _ (List.mem_filterMap.2 ⟨.tmp t,by simpa using a,rfl⟩)
def Cl{a:Oper}{j:Nat}{e:Bool}{t:Nat}(d:o.guard=some (j,e))(c:ops[j]?=some a)(b:a.dst=some t):hs ops o t=true:=by
 simp[hs,Oper.looksAt,d,c,b]
def Yields.ev{o:Oper}{ev D:Operand->U}{σ:W}{cw R:cg}{bt:U}(h:∀x∈o.op.operands,D x=ev x)(X:Yields G o ev σ cw R bt):Yields G o D σ cw R bt:=
 λab cx I β w Q ae F aa O=>X ab cx I β w Q ae F aa (λx u=>by rw[<-h x u];exact O x u)
def Yields.G6{ev:Operand->U}{σ σ2:W}{cw R:cg}(h:∀d∈R,σ2.get d=σ.get d)(O:Yields G o ev σ cw R bt):Yields G o ev σ2 cw R bt:=
 λX cx I β w F aa u Q D=>O X cx I β w F (λd Z=>(aa d Z).trans (h d Z)) u Q D
def fD.put{o:Oper}{env:ah}{dst:fV}{bt:U}(h:∀t,dst=some t->hs ops o t=false):(fD ops o env->fD ops o (env.put dst bt))/\(gY ops o env->gY ops o (env.put dst bt)):=by
 unfold fD gY;cases O:o.guard with
 |none=>exact⟨id,id⟩
 |some X=>
  obtain⟨j,want⟩:=X;constructor<;>(rintro⟨cO,D,F,u,Q⟩;refine⟨cO,D,F,u,?_⟩;rw[avz (λe=>by have:=h D e;rw[Cl O F u]at this;cases this)];exact Q)
theorem u4.put{env:ah}{σ σ2:W}{β cV:Nat->Value}{log aa:List (Nat×cg)}{i:Nat}{cw:cg}{dst:fV}{bt:U}(h:u4 G ops s env σ β log i cw)
  (Z:∀o,ops[i]?=some o->∀t,dst=some t->hs ops o t=false/\o.dst≠some t)
  (am:∀x∈log,x∈aa) (af:∀R,(i,R)∈log->∀d∈R,(σ.get d).isSome->σ2.get d=σ.get d) (aq:∀d∈cw,(σ.get d).isSome->β d=.nilFunc->cV d=.nilFunc) :
  u4 G ops s (env.put dst bt) σ2 cV aa i cw:=by
 obtain⟨o,ao,D,fU,ai,h⟩:=h;refine⟨o,ao,D,fU,λt Q=>?_,?_⟩
 .rw[avz (λe=>(Z o D t e).2 Q)];exact ai t Q
 .have F:∀t,dst=some t->hs ops o t=false:=λt e=>(Z o D t e).1;rcases h with⟨O,ae⟩|⟨O,R,ag,X,an,ou⟩
  .exact .inl ⟨(fD.put F).2 O,ae⟩
  .refine .inr ⟨(fD.put F).1 O,R,?_,am _ X,λd u=>?_,λd u=>?_⟩
   .refine(ag.ev λx ab=>?_).G6 (λd u=>af R X d u (an d u));exact avY λt e ak=>by have:=F t e;rw[yL (ak▸ab)]at this;cases this
   all_goals grind
def rG.ev{I:a2}{β:Nat->Value}{dT:cg}{env:ah}{a:Act}(h:rG I β ops dT env a){o:Oper}
  (D:∀i∈dT,∀gm,ops[i]?=some gm->∀t,gm.dst=some t->hs ops o t=false):∀x∈o.op.operands,az I β (env.ev x) (a.eval x):=by
 intro x u;cases x with
 |tmp t=>
  refine h t λi O gm F Z=>?_;have:=D i O gm F t Z;rw[yL u]at this;cases this
 |const v=>exact yK I β v
 |global g=>simp[ah.ev,az]
 |func f=>simp[ah.ev,Act.eval,az,bx]
def rG.want{I:a2}{β:Nat->Value}{dT:cg}{env:ah}{a:Act}(st:Stat G ops s)(Y:a.tmps.size=G.N)(h:rG I β ops dT env a){o:Oper}
  (O:∀i∈dT,∀gm,ops[i]?=some gm->∀t,gm.dst=some t->hs ops o t=false) :
  (fD ops o env->Region.wanted o (yielded ops a.tmps)=true)/\(gY ops o env->Region.wanted o (yielded ops a.tmps)=false):=by
 refine CO Y st.dst λj want F cO u X D b=>?_
 have:=h u λi aa gm Q Z=>by
  have:=O i aa gm Q u Z;rw[Cl F X D]at this;cases this
 constructor<;>intro e<;>rw[e]at this<;>simpa [az,aN]using this
theorem Cx{e:Nat}{M:cg}:∀{log:List (Nat×cg)},k5 s e M log=true->∀i R,(i,R)∈log->i∈s.T.getD e []\/∀d∈R,d∉M
 |[],_,_,_,a=>by simp at a
 |(k,S)::r,h,i,R,a=>by
  simp only[k5,Bool.and_eq_true,Bool.or_eq_true,List.contains_iff_mem,List.all_eq_true]at h;rcases List.mem_cons.1 a with e|a
  .grind
  .exact Cx h.2 i R a
structure Inv(G:bQ)(ops:Array Oper)(s:hj)(cx:c2)(m:Nat->List Nat)(l dT:List Nat)(du:Array Bool)(log:List (Nat×List Nat))(env:ah)(σ:W)(a:Act)(w:World)(I:a2)(β:Nat->Value):Prop where
 iM:du.size=ops.size
 ord:mm s l=true
 kL:∀i,i<ops.size->(du.getD i true=false↔i∈dT\/i∈l)
 lB:∀i∈dT,i∉l
 nd:dT.Nodup
 pw:∀i∈dT,∀j∈l,j∉s.T.getD i []
 ps:∀i∈dT,i<ops.size
 ls:∀i∈l,i<ops.size
 cl:∀j,du.getD j false=true->∀i∈s.T.getD j [],du.getD i false=true
 j0:∀i∈dT,u4 G ops s env σ β log i (m i)
 md:∀i∈dT,∀j∈dT,i≠j->∀d∈m i,d∉m j
 rw:bG G cx I β σ w
 rp:rG I β ops dT env a
 sz:a.tmps.size=G.N
 df:a.defers=[]
theorem yM(du:kC)(i j:Nat)(b:Bool)(hi:i<du.size):(du.setIfInBounds i true).getD j b=if i=j then true else du.getD j b:=by
 by_cases a:i=j
 all_goals simp_all
section inv
variable {cx:c2}{m:Nat->cg}{l dT:cg}{du:kC}{log:List (Nat×cg)}{env:ah}{σ:W}{a:Act}{w:World}{I:a2}{β:Nat->Value}
def Inv.yN(u:Inv G ops s cx m l dT du log env σ a w I β){i:Nat}(h:i∈dT\/i∈l):du.getD i false=false:=by
 have D:i<ops.size:=by rcases h with h|h<;>first|exact u.ps i h|exact u.ls i h
 rw[EU (by rw[u.iM];exact D) false true];exact(u.kL i D).2 h
def Inv.Fk(st:Stat G ops s)(u:Inv G ops s cx m l dT du log env σ a w I β){j:Nat}(F:j∈Region.ready .any ops du):
  ∀k,(du.setIfInBounds j true).getD k false=true->∀i∈s.T.getD k [],(du.setIfInBounds j true).getD i false=true:=by
 obtain⟨_,o,Q,_⟩:=oQ.1 F;have X:j<du.size:=by rw[u.iM];exact(Array.getElem?_eq_some_iff.1 Q).1
 intro k D i O;rw[yM _ _ _ _ X]at D ⊢;split
 .rfl
 .split at D
  .rename_i h;subst h;exact wR st u.iM u.cl F i O
  .exact u.cl k D i O
theorem Inv.BK(st:Stat G ops s)(u:Inv G ops s cx m l dT du log env σ a w I β){j:Nat}{o:Oper}(ab:j∈Region.ready .any ops du)(X:ops[j]?=some o)(af:j∈dT->j∉s.es):
  ∀i∈dT,∀gm,ops[i]?=some gm->∀t,gm.dst=some t->hs ops o t=false:=by
 intro i O gm F t Q;rcases Bool.eq_false_or_eq_true (hs ops o t)with D|D
 .exfalso;by_cases aa:i=j
  .subst aa;have ae:some gm=some o:=F.symm.trans X;cases ae;have:=st.self i o t F Q (af O)
   grind
  .rcases st.read i j gm o t F X Q aa D with h|⟨h,_⟩
   .have:=wR st u.iM u.cl ab i h;rw[u.yN (.inl O)]at this;cases this
   .obtain⟨_,_,_,fU,_⟩:=u.j0 i O;exact fU h
 .exact D
theorem Inv.DI(st:Stat G ops s)(u:Inv G ops s cx m l dT du log env σ a w I β){aq:Exit->Act->World->Prop}{K:Act->World->Prop}{j:Nat}(ae:j∈Region.ready .any ops du)(aa:j∈dT)
    (k:∀ag w' F β',Inv G ops s cx m l (dT.erase j) (du.setIfInBounds j true) log env σ ag w' F β'->K ag w'):wpOp G.P ops aq j K a w:=by
  obtain⟨o,bt,Q,fU,aR,h⟩:=u.j0 j aa;have aS:j<du.size:=by rw[u.iM];exact u.ps j aa
  have an:=u.BK st ae Q (λ_=>fU);have af:=u.rp.want st u.sz an;have aT:∀d,o.dst=some d->d<a.tmps.size:=λd Z=>by rw[u.sz];exact st.dst j o d Q Z
  have next:∀v w' F β',az F β' bt v->bG G cx F β' σ w'->bM I F->(∀d,d∉m j->β' d=β d)->(∀d∈m j,β d=.nilFunc\/β' d=β d)->Inv G ops s cx m l (dT.erase j) (du.setIfInBounds j true) log env σ (a.put o.dst v) w' F β':=by
    intro v w' F β' aM aF bA aw aD
    have aC:en β β':=λd=>by
      by_cases Z:d∈m j
      · exact aD d Z
      · grind
    refine{iM:=by simp[u.iM],ord:=u.ord,kL:=λi D=>?_,lB:=λi D=>u.lB i (List.mem_of_mem_erase D),nd:=u.nd.erase j,
           pw:=λi D=>u.pw i (List.mem_of_mem_erase D),ps:=λi D=>u.ps i (List.mem_of_mem_erase D),ls:=u.ls,cl:=u.Fk st ae,j0:=λi D=>?_,
           md:=λi D k aV=>u.md i (List.mem_of_mem_erase D) k (List.mem_of_mem_erase aV),rw:=aF,rp:=λt aW=>?_,sz:=by rw[ta];exact u.sz,df:=by rw[s4];exact u.df}
    · rw[yM _ _ _ _ aS]
      by_cases X:j=i
      · subst X
        simp only[if_true,Bool.true_eq_false,false_iff,not_or];exact⟨λh=>(List.Nodup.mem_erase_iff u.nd).1 h|>.1 rfl,u.lB j aa⟩
      · rw[if_neg X,u.kL i D,List.Nodup.mem_erase_iff u.nd]
        grind
    · have am:=List.mem_of_mem_erase D
      have X:i≠j:=λe=>((List.Nodup.mem_erase_iff u.nd).1 D).1 e;obtain⟨gm,aU,ax,aA,ar,O⟩:=u.j0 i am;refine⟨gm,aU,ax,aA,ar,?_⟩;rcases O with O|⟨O,R,aE,aB,aG,ak⟩
      · exact .inl O
      · refine .inr ⟨O,R,aE,aB,aG,λd Z=>⟨(ak d Z).1,?_,(ak d Z).2.2⟩⟩
        rw[aw d (u.md i am j aa X d Z)]
        grind
    · by_cases ai:o.dst=some t
      · rw[ai,tI a t v t (by rw[u.sz];exact st.dst j o t Q ai),if_pos rfl,aR t ai]
        exact aM
      · have:(a.put o.dst v).tmps.getD t undef=a.tmps.getD t undef:=by
          cases Z:o.dst with
          |none=>rfl
          |some d=>rw[tI a d v t (aT d Z),if_neg (λe=>ai (by rw[Z,e]))]
        rw[this];refine xW bA aC _ _ (u.rp t λi D gm aX=>?_)
        grind
  unfold wpOp;simp only[Q];rcases h with⟨ab,ao⟩|⟨ab,R,aI,aY,aZ,ou⟩
  · rw[af.2 ab]
    simp only[Bool.false_eq_true,if_false];exact k _ _ _ _ (next undef w I β (by rw[ao.1];simp[az,aN]) u.rw (bM.refl I) (λ_ _=>rfl) (λ_ _=>.inr rfl))
  · rw[af.1 ab]
    simp only[if_true];refine .inl (jX.wp (aI σ cx I β w a.eval (λ_ _=>rfl) u.rw (λd Z=>(ou d Z).2.1) (u.rp.ev an)) ?_)
    grind
theorem Inv.jE(st:Stat G ops s){i:Nat}(D:Inv G ops s cx m (i::l) dT du log env σ a w I β){o:Oper}(X:ops[i]?=some o)(fU:i∉s.es){cw R:cg}{bt:U}{σ2:W}
    (Q:mJ G σ cw σ2 env) (aa:(gY ops o env/\bt=.undef/\cw=[])\/(fD ops o env/\Yields G o env.ev σ2 cw R bt/\(∀d∈R,(σ2.get d).isSome)/\(∀d∈cw,d∈R))) :
    Inv G ops s cx (λk=>if k=i then cw else m k) l (i::dT) du ((i,R)::log) (env.put o.dst bt) σ2 a w I (eg β cw):=by
  have ag:i∉dT:=λh=>D.lB i h (by simp);have ar:=D.ord;simp only[mm,Bool.and_eq_true,List.all_eq_true,Bool.not_eq_true',List.contains_eq_mem,decide_eq_false_iff_not,beq_eq_false_iff_ne]at ar
  have an:∀d,cw.contains d=false->eg β cw d=β d:=λd Z=>by
    have:d∉cw:=by simpa using Z
    simp[eg,this]
  have az:∀d,(σ.get d).isSome->d∉cw:=λd Z aI=>by
    obtain⟨x,O⟩:=Option.isSome_iff_exists.1 Z;have:=(au8 Q.2.2.2.1 d x O).1;simp[aI]at this
  have af:∀p∈dT,(if p=i then cw else m p)=m p:=λp aa=>by
    have:p≠i:=λe=>by subst e;exact ag aa
    rw[if_neg this]
  refine{iM:=D.iM,ord:=ar.2,kL:=λk u=>?_,lB:=λk u ab=>?_,nd:=List.nodup_cons.2 ⟨ag,D.nd⟩,pw:=λk u j ae=>?_,ps:=λk u=>?_,ls:=λk u=>D.ls k (by simp[u]),
         cl:=D.cl,j0:=λk u=>?_,md:=λk u j ae aC d Z=>?_,rw:=D.rw.jE Q,rp:=λt F=>?_,sz:=D.sz,df:=D.df}
  · rw[D.kL k u];simp only[List.mem_cons]
    grind
  · rcases List.mem_cons.1 u with rfl|u
    · grind
    · exact D.lB k u (by simp[ab])
  · rcases List.mem_cons.1 u with rfl|u
    · grind
    · exact D.pw k u j (by simp[ae])
  · rcases List.mem_cons.1 u with rfl|u
    · grind
    · exact D.ps k u
  · rcases List.mem_cons.1 u with rfl|u
    · have ak:∀t,o.dst=some t->hs ops o t=false:=λt F=>st.self k o t X F fU
      refine⟨o,bt,X,fU,λt F=>by simp[F,ah.put,avb],?_⟩;simp only[if_true];rcases aa with⟨am,aA⟩|⟨am,aD,aB,aE⟩
      · exact .inl ⟨(fD.put ak).2 am,aA⟩
      · refine .inr ⟨(fD.put ak).1 am,R,aD.ev (λx O=>avY λt e aG=>?_),by simp,aB,λd Z=>⟨aE d Z,by simp[eg,Z],Q.2.1 d Z⟩⟩
        have:=ak t e;rw[yL (aG▸O)]at this;cases this
    · rw[af k u]
      refine(D.j0 k u).put (λok aq t F=>?_) (λx O=>by simp[O]) (λaS aM d Z Y=>Q.1 d (az d Y)) (λd Z Y aF=>by rw[an d (by simpa using az d Y)];exact aF);have ax:i≠k:=λe=>ag (e▸u);constructor
      · rcases Bool.eq_false_or_eq_true (hs ops ok t)with ab|ab
        · rcases st.read i k o ok t X aq F ax ab with h|⟨h,_⟩
          · exact absurd h (D.pw k u i (by simp))
          · grind
        · exact ab
      · exact λe=>fU (st.one i k o ok t X aq F e ax).1
  · have key:∀p∈dT,∀d∈m p,d∉cw:=λp aa d Z=>by
      obtain⟨_,_,_,_,_,q⟩:=D.j0 p aa;rcases q with q|⟨_,_,_,_,aR,q⟩
      · grind
      · grind
    rcases List.mem_cons.1 u with dz|aw
    · grind
    · rw[af k aw]at Z
      rcases List.mem_cons.1 ae with aT|ao
      · grind
      · rw[af j ao]
        exact D.md k aw j ao aC d Z
  · have ai:o.dst≠some t:=F i (by simp) o X
    rw[avz ai];exact nC an _ _ (avk Q.2.2.1 t) (D.rp t λk u=>F k (by simp[u]))
theorem Inv.pX(st:Stat G ops s){i:Nat}(u:Inv G ops s cx m (i::l) dT du log env σ a w I β){o:Oper}(X:ops[i]?=some o)(fU:i∈s.es)(ak:i∈Region.ready .any ops du){M news:cg}{bt:U}{aa:W}
    (aE:k5 s i M log=true) (aC:env.clean news.contains=true) (aR:∀d∈news,d∉G.ids/\σ.get d=none) {v:Value} {w':World} {Q:a2} {β':Nat->Value}
    (aA:az Q β' bt v) (ax:bG G cx Q β' aa w') (bA:bM I Q) (ao:∀d,d∉news->β' d=β d) (aM:∀d,d∉M->aa.get d=σ.get d) :
    Inv G ops s cx m l dT (du.setIfInBounds i true) log (env.put o.dst bt) aa (a.put o.dst v) w' Q β':=by
  have aB:i∉dT:=λh=>u.lB i h (by simp);have aF:i<du.size:=by rw[u.iM];exact u.ls i (by simp)
  have ae:=u.ord;simp only[mm,Bool.and_eq_true,List.all_eq_true,Bool.not_eq_true',List.contains_eq_mem,decide_eq_false_iff_not,beq_eq_false_iff_ne]at ae;have aI:=wR st u.iM u.cl ak
  have aT:∀p∈dT,p∉s.T.getD i []:=λp aq ar=>by
    have:=aI p ar;rw[u.yN (.inl aq)]at this;cases this
  have ag:∀d,o.dst=some d->d<a.tmps.size:=λd Z=>by rw[u.sz];exact st.dst i o d X Z
  refine{iM:=by simp[u.iM],ord:=ae.2,kL:=λk D=>?_,lB:=λk D F=>u.lB k D (by simp[F]),nd:=u.nd,pw:=λk D j an=>u.pw k D j (by simp[an]),ps:=u.ps,ls:=λk D=>u.ls k (by simp[D]),
         cl:=u.Fk st ak,j0:=λk D=>?_,md:=u.md,rw:=ax,rp:=λt O=>?_,sz:=by rw[ta];exact u.sz,df:=by rw[s4];exact u.df}
  · rw[yM _ _ _ _ aF]
    by_cases aD:i=k
    · grind
    · rw[if_neg aD,u.kL k D]
      grind
  · have af:i≠k:=λe=>aB (e▸D)
    have aG:k∉s.es:=by obtain⟨_,_,_,q,_⟩:=u.j0 k D;exact q
    refine(u.j0 k D).put (λok ab t O=>?_) (λx am=>am) (λR aw d Z Y=>?_) (λd Z Y aS=>?_)
    · constructor
      · rcases Bool.eq_false_or_eq_true (hs ops ok t)with F|F
        · rcases st.read i k o ok t X ab O af F with h|⟨_,h⟩
          · exact absurd h (u.pw k D i (by simp))
          · grind
        · exact F
      · exact λe=>aG (st.one i k o ok t X ab O e af).2
    · rcases Cx aE k R aw with h|h
      all_goals grind
    · grind
  · by_cases ai:o.dst=some t
    · rw[ai,tI a t v t (ag t ai),if_pos rfl]
      simp only[ah.put,avb,if_true];exact aA
    · rw[avz ai]
      have:(a.put o.dst v).tmps.getD t undef=a.tmps.getD t undef:=by
        cases Z:o.dst with
        |none=>rfl
        |some d=>rw[tI a d v t (ag d Z),if_neg (λe=>ai (by rw[Z,e]))]
      rw[this];exact xW bA (en.refl _) _ _ (nC (p:=news.contains) (λd Z=>ao d (by simpa using Z)) _ _ (avk aC t) (u.rp t O))
end inv
theorem JE(st:Stat G ops s)(j:s.di=true)(u:Exit->Act->World->Prop)(K:ah->W->Prop)(cx:c2)
  (ab:∀env σ a w,K env σ->j4 G cx env σ a w->u .normal a w) :
  ∀(fuel:Nat) (l dT:cg) (m:Nat->cg) (du:kC) (log:List (Nat×cg)) (env:ah) (σ:W) (a:Act) (w:World) (I:a2) (β:Nat->Value),
   dT.length+l.length=fuel->Inv G ops s cx m l dT du log env σ a w I β->ep G ops s log l env σ K->wpAny G.P .any ops u fuel du a w:=by
 intro fuel;induction fuel with
 |zero=>
  intro l dT m du log env σ a w I β n b q;have z:dT=[]:=List.eq_nil_of_length_eq_zero (by omega);have ao:l=[]:=List.eq_nil_of_length_eq_zero (by omega);subst z ao;refine⟨?_,ab env σ a w q ⟨I,β,b.rw,λaD=>b.rp aD (by simp),b.sz,b.df⟩⟩;apply List.eq_nil_iff_forall_not_mem.2;intro t k;obtain⟨i,o,d,_⟩:=oQ.1 k;have:=(b.kL t (Array.getElem?_eq_some_iff.1 d).1).1 i;simp at this
 |succ fuel y=>
  intro l
  have S:∀{l dT:cg} {m:Nat->cg} {du:kC} {log:List (Nat×cg)} {env:ah} {σ:W} {a:Act} {w:World} {I:a2} {β:Nat->Value},dT.length+l.length=fuel+1->
    Inv G ops s cx m l dT du log env σ a w I β->Region.ready .any ops du≠[]:=by
   intro l dT m du log env σ a w I β n b;have:∃e,e∈dT\/e∈l:=by
    cases dT with
    |nil=>cases l with
     |nil=>simp at n
     |cons e _=>exact⟨e,.inr (by simp)⟩
    |cons e _=>exact⟨e,.inl (by simp)⟩
   obtain⟨e,z⟩:=this;have N:e<ops.size:=by rcases z with h|h<;>first|exact b.ps e h|exact b.ls e h
   exact Ic st b.iM _ e (Nat.le_refl _) N ((b.kL e N).2 z)
  induction l with
  |nil=>
   intro dT m du log env σ a w I β n b q;refine⟨λg=>absurd g (S n b),λt k=>?_⟩;obtain⟨D,o,d,_⟩:=oQ.1 k;have v:t∈dT:=by simpa using (b.kL t (Array.getElem?_eq_some_iff.1 d).1).1 D
   refine b.DI st k v λaf U H V E=>y _ _ _ _ _ _ _ _ _ _ _ ?_ E q;rw[List.length_erase_of_mem v];have:=List.length_pos_of_mem v;omega
  |cons c l T=>
   intro dT m du log env σ a w I β n b q;obtain⟨o,d,L⟩:=q;have q:ep G ops s log (c::l) env σ K:=⟨o,d,L⟩;have Q:(c::dT).length+l.length=fuel+1:=by simp at n ⊢;omega
   have aw:∀log:List (Nat×cg),k5 s c [] log=true:=by
    intro log;induction log with
    |nil=>rfl
    |cons x r aA=>obtain⟨aF,R⟩:=x;simp[k5,aA]
   have O:c∈s.es->(∀(_:c∈Region.ready .any ops du),wpOp G.P ops u c (wpAny G.P .any ops u fuel (du.setIfInBounds c true)) a w)->wpAny G.P .any ops u (fuel+1) du a w:=by
    intro fU vI;refine⟨λg=>absurd g (S n b),λt k=>?_⟩;obtain⟨D,aE,aC,_⟩:=oQ.1 k;rcases(b.kL t (Array.getElem?_eq_some_iff.1 aC).1).1 D with v|C
    .refine b.DI st k v λaf U H V E=>y _ _ _ _ _ _ _ _ _ _ _ ?_ E q
     grind
    .rcases List.mem_cons.1 C with rfl|C
     .grind
     .exfalso;have J:=b.ord;simp only[mm,Bool.and_eq_true,List.all_eq_true,Bool.or_eq_true,Bool.not_eq_true',List.contains_eq_mem,decide_eq_false_iff_not,decide_eq_true_eq]at J;have:=(J.1 t C).2.resolve_left (λh=>h fU);have:=wR st b.iM b.cl k c this;rw[b.yN (.inr (by simp))]at this;cases this
   have P:dT.length+l.length=fuel:=by simp at n;omega
   rcases L with⟨i,f,p⟩|⟨i,f,cw,R,bt,aM,Y,aa,am,ak,p⟩|⟨i,f,M,news,aI,ag,ar,ai,aq,p⟩|⟨i,f,p⟩
   .exact T (c::dT) _ du ((c,[])::log) _ _ a w I _ Q (b.jE st d (f j) (cw:=[]) (R:=[]) (avt G σ env) (.inl ⟨i,rfl,rfl⟩)) p
   .exact T (c::dT) _ du ((c,R)::log) _ _ a w I _ Q (b.jE st d (f j) Y (.inr ⟨i,ak,aa,am⟩)) p
   .refine O (f j) λg=>?_;have A:=b.BK st g d (λh=>absurd (f j) (by obtain⟨_,_,_,F,_⟩:=b.j0 c h;exact F));have B:=b.rp.want st b.sz A;unfold wpOp;simp only[d];rw[B.1 i];simp only[if_true];refine .inl (jX.wp (ag cx I β w a.eval b.rw (b.rp.ev A)) ?_);rintro aG U ⟨bt,Z,H,V,ax,an,ae,bA,X,aB⟩;exact y _ _ _ _ _ _ _ _ _ _ _ P (b.pX st d (f j) g (ar j) ai aq an ae bA X aB) (p bt Z ax)
   .refine O (f j) λg=>?_;have A:=b.BK st g d (λh=>absurd (f j) (by obtain⟨_,_,_,F,_⟩:=b.j0 c h;exact F));have B:=b.rp.want st b.sz A;unfold wpOp;simp only[d];rw[B.2 i];simp only[Bool.false_eq_true,if_false];exact y _ _ _ _ _ _ _ _ _ _ _ P (b.pX st d (f j) g (M:=[]) (news:=[]) (bt:=.undef) (aw log) (avs env) (by simp) (by simp[az,aN]) b.rw (bM.refl I) (λ_ _=>rfl) (λ_ _=>rfl)) p
end any
end
section
def ar(G:bQ)(c:Code)(SN:Exit->ah->W->Prop)(env:ah)(σ:W):Prop:=
 ∀cx d w,j4 G cx env σ d w->c.wp G.P (λf e g=>∃b a,j4 G cx b a e g/\SN f b a) d w
def ar.mono{G:bQ}{c:Code}{SN u:Exit->ah->W->Prop}{env:ah}{σ:W}(h:ar G c SN env σ)(F:∀e env σ,SN e env σ->u e env σ):ar G c u env σ:=
 λcx a w X=>wp_mono (h cx a w X) λ_ _ _ ⟨Q,O,aa,D⟩=>⟨Q,O,aa,F _ _ _ D⟩
section code
variable {G:bQ}{SN:Exit->ah->W->Prop}{env:ah}{σ:W}
def A.skip(h:SN .normal env σ):ar G .skip SN env σ:=λ_ _ _ u=>wp_skip ⟨env,σ,u,h⟩
def A.exit{id:Nat}(h:SN (.exit id) env σ):ar G (.exit id) SN env σ:=λ_ _ _ u=>wp_exit ⟨env,σ,u,h⟩
def A.ret(h:SN .ret env σ):ar G .ret SN env σ:=λ_ _ _ u=>wp_ret ⟨env,σ,u,h⟩
def kI(next:ah->W->Prop)(SN:Exit->ah->W->Prop):Exit->ah->W->Prop
 |.normal,env,σ=>next env σ
 |e,env,σ=>SN e env σ
def A.seq{x y:Code}(h:ar G x (kI (ar G y SN) SN) env σ):ar G (.seq x y) SN env σ:=by
 intro cx a w X;refine wp_seq (wp_mono (h cx a w X) ?_);rintro e Q w' ⟨O,F,D,u⟩;cases e with
 |normal=>exact u cx Q w' D
 |_=>exact⟨O,F,D,u⟩
def Fl(id:Nat)(SN:Exit->ah->W->Prop):Exit->ah->W->Prop
 |.exit a,env,σ=>bif Nat.beq a id then SN .normal env σ else SN (.exit a) env σ
 |e,env,σ=>SN e env σ
theorem A.block{id:Nat}{x:Code}(h:ar G x (Fl id SN) env σ):ar G (.block id x) SN env σ:=by
 intro cx a w X;refine wp_block (wp_mono (h cx a w X) ?_);rintro e aa w' ⟨F,D,O,u⟩;cases e with
 |exit Q=>
  simp only[Fl,Exit.inBlock]at u ⊢;by_cases h:Q=id
  .subst h;simp at u ⊢;exact⟨F,D,O,u⟩
  .have:Nat.beq Q id=false:=by rw[<-Bool.not_eq_true,Nat.beq_eq];exact h
   grind
 |_=>exact⟨F,D,O,u⟩
def A.cond{c:Operand}{x y:Code}{b:Bool}(ab:env.ev c=.bool b)(X:b=true->ar G x SN env σ)(aa:b=false->ar G y SN env σ):ar G (.cond c x y) SN env σ:=by
 intro cx a w ae;obtain⟨I,β,Q,u,O,F⟩:=ae;have D:=u.ev c;rw[ab]at D;simp only[az,aN]at D;exact wp_cond_split D (λe=>X e cx a w ⟨I,β,Q,u,O,F⟩) (λe=>aa e cx a w ⟨I,β,Q,u,O,F⟩)
def A.region{id:Nat}{ops:hU}(Z:mE G.N ops=true)(h:ep G ops ⟨false,[],[]⟩ [] (List.range ops.size) env σ (λenv σ=>SN .normal env σ)):ar G (.region id ops false) SN env σ:=by
 intro cx a w u;exact wp_region (xX G ops _ _ (Cw Z) _ cx (λenv σ a w D u=>⟨env,σ,u,D⟩) _ _ _ _ _ _ h u)
variable {cx:c2}{w:World}
def bG.drew{G:bQ}{I:a2}{β:Nat->Value}(h:bG G cx I β σ w):bG G cx I β σ {w with drawn:=w.drawn+1}:=
 {good:=h.good,eD:=h.eD,fK:=h.fK,fB:=h.fB,frame:=h.frame,size:=h.size,tape:=h.tape,os:=h.os,output:=h.output,drawn:=Nat.le_trans h.drawn (Nat.le_succ _),b5:=λd o Z=>bb.heap (w:=w) (w':={w with drawn:=w.drawn+1}) rfl (h.b5 d o Z),cA:=h.cA,keep:=h.keep}
theorem A.any{id:Nat}{ops:hU}(T:jh)(es l:cg)(ak:G.P.follows .mixedOrders=true)(Y:uU G.N ops ⟨true,T,es⟩ l=true)
    (h:ep G ops ⟨true,T,es⟩ [] l env σ (λenv σ=>SN .normal env σ)):ar G (.region id ops true) SN env σ:=by
  intro cx a w D;obtain⟨st,O,F⟩:=av7 Y;obtain⟨I,β,ag,Q,ae,X⟩:=D
  refine wp_region_any ak (JE st rfl _ _ cx (λenv σ a w ai D=>⟨env,σ,D,ai⟩) ops.size l [] (λ_=>[]) _ [] env σ a _ I β ?_
    {iM:=by simp,ord:=O,kL:=λi u=>?_,lB:=λi u=>by simp at u,nd:=List.nodup_nil,pw:=λi u=>by simp at u,ps:=λi u=>by simp at u,ls:=λi u=>(F i).2 u,
     cl:=λj aa=>?_,j0:=λi u=>by simp at u,md:=λi u=>by simp at u,rw:=ag.drew,rp:=λt _=>Q t,sz:=ae,df:=X} h)
  ·
    have nd:∀l:cg,mm ⟨true,T,es⟩ l=true->l.Nodup:=by
      intro l;induction l with
      |nil=>intro _;exact List.nodup_nil
      |cons i l ab=>
        intro h;simp only[mm,Bool.and_eq_true,List.all_eq_true,Bool.not_eq_true',beq_eq_false_iff_ne]at h;exact List.nodup_cons.2 ⟨λu=>(h.1 i u).1.2 rfl,ab h.2⟩
    have af:l.Perm (List.range ops.size):=(List.perm_ext_iff_of_nodup (nd l O) List.nodup_range).2 λi=>by rw[List.mem_range];exact(F i).symm
    simpa using af.length_eq
  · simp_all
  · simp only[Array.getD_eq_getD_getElem?,Array.getElem?_replicate]at aa
    grind
def bJ(G:bQ)(env:ah)(σ:W)(cu:ah)(σ2:W):Prop:=
 ∀cx I β b w,bG G cx I β σ w->gJ I β env b->∃a c,bG G cx a c σ2 w/\gJ a c cu b
def bJ.refl(G:bQ)(env:ah)(σ:W):bJ G env σ env σ:=λ_ I β _ _ h u=>⟨I,β,h,u⟩
def bJ.trans{D cu:ah}{u σ2:W}(h:bJ G env σ D u)(O:bJ G D u cu σ2):bJ G env σ cu σ2:=λcx I β a w ab F=>by
 obtain⟨X,ae,aa,Q⟩:=h cx I β a w ab F;exact O cx X ae a w aa Q
def bJ.rel{cu:ah}{σ2:W}(h:bJ G env σ cu σ2){a:Act}(aa:j4 G cx env σ a w):j4 G cx cu σ2 a w:=by
 obtain⟨I,β,ab,u,Q,D⟩:=aa;obtain⟨F,ae,O,X⟩:=h cx I β a w ab u;exact⟨F,ae,O,X,Q,D⟩
def auZ{c:Code}{cu:ah}{σ2:W}(d:bJ G env σ cu σ2)(k:ar G c SN cu σ2):ar G c SN env σ:=λcx a w b=>k cx a w (d.rel b)
def A.loop{c:Code}{α:Type}(ae:α->ah)(af:α->W)(ak:α->Prop)(μ:α->Nat)(ai:α)(az:ak ai)(aq:bJ G env σ (ae ai) (af ai))
  (step:∀g,ak g->ar G c (kI (λF D=>∃Q,ak Q/\μ Q<μ g/\bJ G F D (ae Q) (af Q)) SN) (ae g) (af g)):ar G (.loop c) SN env σ:=by
 intro cx a w am b k cs
 have key:∀n g a w,μ g=n->ak g->j4 G cx (ae g) (af g) a w->∃e ag w',(∃F D,j4 G cx F D ag w'/\SN e F D)/\
   Arrives G.P (lone (b.at a (.code c::.inLoop c::k)) cs w) b k cs e ag w':=by
  intro n;induction n using Nat.strongRecOn with
  |_ n ao=>
   intro g a w ax an am;obtain⟨e,ab,aa,u,O⟩:=step g an cx a w am b (.inLoop c::k) cs;obtain⟨F,D,X,u⟩:=u;cases e with
   |normal=>
    obtain⟨Q,aA,aw,aB⟩:=u;obtain⟨aF,aC,aG,aD,aE⟩:=ao (μ Q) (ax▸aw) Q ab aa rfl aA (aB.rel X);exact⟨aF,aC,aG,aD,.of_steps (Steps.trans O (.one step_inLoop)) aE⟩
   |exit id=>exact⟨_,ab,aa,⟨F,D,X,u⟩,.pass (x:=.inLoop c) rfl (λ_ _=>.inl (by simp)) O⟩
   |goto l=>exact⟨_,ab,aa,⟨F,D,X,u⟩,.pass (x:=.inLoop c) rfl (λ_ _=>.inl (by simp)) O⟩
   |ret=>exact⟨_,ab,aa,⟨F,D,X,u⟩,.pass (x:=.inLoop c) rfl (λ_ _=>.inl (by simp)) O⟩
   |panic fm=>exact⟨_,ab,aa,⟨F,D,X,u⟩,.pass (x:=.inLoop c) rfl (λ_ _=>.inl (by simp)) O⟩
   |outgrown=>exact⟨_,ab,aa,⟨F,D,X,u⟩,.pass (x:=.inLoop c) rfl (λ_ _=>.inl (by simp)) O⟩
 obtain⟨e,ag,w',u,O⟩:=key _ ai a w rfl az (aq.rel am);exact⟨e,ag,w',u,.of_steps (.one step_loop) O⟩
end code
mutual
def U.closed:U->Bool
 |.agg cs=>ha cs
 |.bO cs=>ha cs
 |.fn _ cs=>ha cs
 |.own _=>false
 |.ptr _ _=>false
 |.dr _ _=>false
 |.cc _=>false
 |_=>true
def ha:List U->Bool
 |[]=>true
 |x::r=>x.closed&&ha r
end
mutual
def az.closed{I:a2}{β:Nat->Value}:∀(a:U) (v:Value),a.closed=true->az I β a v->aN I a v
 |.dg,_,_,_=>trivial
 |.undef,_,_,h=>by simpa only[az]using h
 |.int _ _,_,_,h=>by simpa only[az]using h
 |.bool _,_,_,h=>by simpa only[az]using h
 |.str _,_,_,h=>by simpa only[az]using h
 |.aL _ _,_,_,h=>by simpa only[az]using h
 |.dF _,_,_,h=>by simpa only[az]using h
 |.bC,_,_,h=>by simpa only[az]using h
 |.ia,_,_,h=>by simpa only[az]using h
 |.cW _ _,_,_,h=>by simpa only[az]using h
 |.gq,_,_,h=>by simpa only[az]using h
 |.b8 _,_,_,h=>by simpa only[az]using h
 |.arr _,_,_,h=>by simpa only[az]using h
 |.agg cs,v,u,h=>by
  simp only[aN,az,U.closed]at h u ⊢;obtain⟨vs,F,D⟩:=h;exact⟨vs,F,bx.closed cs _ u D⟩
 |.bO cs,v,u,h=>by
  simp only[aN,az,U.closed]at h u ⊢;obtain⟨vs,F,D⟩:=h;exact⟨vs,F,bx.closed cs _ u D⟩
 |.fn f cs,v,u,h=>by
  simp only[aN,az,U.closed]at h u ⊢;obtain⟨vs,F,D⟩:=h;exact⟨vs,F,bx.closed cs _ u D⟩
 |.own _,_,u,_=>by simp[U.closed]at u
 |.ptr _ _,_,u,_=>by simp[U.closed]at u
 |.dr _ _,_,u,_=>by simp[U.closed]at u
 |.cc _,_,u,_=>by simp[U.closed]at u
def bx.closed{I:a2}{β:Nat->Value}:∀(a:List U) (v:c4),ha a=true->bx I β a v->bX I a v
 |[],_,_,h=>h
 |x::r,v,u,h=>by
  simp only[bx,bX,ha,Bool.and_eq_true]at h u ⊢;obtain⟨au,D,Q,F,O⟩:=h;exact⟨au,D,Q,az.closed x au u.1 F,bx.closed r D u.2 O⟩
end
mutual
inductive fq(σ:W):U->U->Prop
 |refl (a:U):fq σ a a
 |nil (f:Bool):fq σ .bC (.aL f [])
 |gq:fq σ .gq (.aL false [])
 |full (xs:List (List U)):fq σ (.aL true xs) (.aL false xs)
 |own {d:Nat} {T:TypeId} {sz k:Nat} {xs:List (List U)} (h:σ.get d=some (.slice T sz xs k true)):fq σ (.own d) (.aL false xs)
 |gM {d:Nat} {K E:TypeId} {bs:List (U×U)} (h:σ.get d=some (.gM K E bs)):fq σ (.cc d) (.b8 bs)
 |agg {cs hV:List U} (h:gL σ cs hV):fq σ (.agg cs) (.agg hV)
 |bO {cs hV:List U} (h:gL σ cs hV):fq σ (.bO cs) (.bO hV)
 |fn {f:Nat} {cs hV:List U} (h:gL σ cs hV):fq σ (.fn f cs) (.fn f hV)
 |dg (a:U):fq σ a .dg
 |cW {f:Nat} {a:U} {cs:List U} (h:fq σ a (.fn f cs)) (aa:ha cs=true):fq σ a (.cW f cs)
inductive gL(σ:W):List U->List U->Prop
 |nil:gL σ [] []
 |cons {a b:U} {r s:List U} (h:fq σ a b) (t:gL σ r s):gL σ (a::r) (b::s)
end
def tr{I:a2}{b:Nat}:∀(cs:List U) (o:Nat) (vs:c4),bX I cs vs->(∀(j:Nat) v,vs[j]?=some v->I b ((o+j:Nat))=some v)->gy I b cs o
 |[],_,_,_,_=>trivial
 |x::r,o,vs,h,a=>by
  simp only[bX]at h;obtain⟨c,e,rfl,g,d⟩:=h;refine⟨⟨c,by simpa using a 0 c rfl,g⟩,tr r (o+1) e d λj v f=>?_⟩;have:=a (j+1) v (by simpa using f)
  rwa [show o+(j+1)=o+1+j from by omega]at this
theorem hC{I:a2}:∀(xs c:List U) (vs:c4),bX I (xs++c) vs↔∃b a,vs=b++a/\bX I xs b/\bX I c a
 |[],c,vs=>by
  simp only[List.nil_append,bX];exact⟨λj=>⟨[],vs,rfl,rfl,j⟩,λ⟨b,a,d,f,e⟩=>by subst f;simp at d;subst d;exact e⟩
 |x::r,c,vs=>by
  simp only[List.cons_append,bX];constructor
  .rintro⟨i,b,rfl,d,f⟩;obtain⟨g,a,rfl,e,h⟩:=(hC r c b).1 f
   grind
  .rintro⟨b,a,rfl,⟨i,g,rfl,d,e⟩,h⟩;exact⟨i,g++a,rfl,d,(hC r c _).2 ⟨g,a,rfl,e,h⟩⟩
def i6{I:a2}:∀(xs:List U) (vs:c4),bX I xs vs->vs.length=xs.length
 |[],vs,h=>by simp only[bX]at h;subst h;rfl
 |x::r,vs,h=>by
  simp only[bX]at h;obtain⟨c,b,rfl,_,a⟩:=h;simp[i6 r b a]
def ko{I:a2}{β:Nat->Value}:∀(xs:List U) (vs:c4),bx I β xs vs->vs.length=xs.length
 |[],vs,h=>by simp only[bx]at h;subst h;rfl
 |x::r,vs,h=>by
  simp only[bx]at h;obtain⟨c,b,rfl,_,a⟩:=h;simp[ko r b a]
def xx{I:a2}{b:Nat}:∀(xs:List (List U)) (o:Nat) (vs:c4),bX I xs.flatten vs->(∀(j:Nat) v,vs[j]?=some v->I b ((o+j:Nat))=some v)->gw I b xs o
 |[],_,_,_,_=>trivial
 |e::r,o,vs,h,f=>by
  simp only[List.flatten_cons]at h;obtain⟨c,l,rfl,g,i⟩:=(hC _ _ _).1 h;have k:=i6 _ _ g
  refine⟨tr e o c g λj v a=>f j v (by
    rw[List.getElem?_append_left (by rcases Nat.lt_or_ge j c.length with d|d;exact d;rw[List.getElem?_eq_none d]at a;cases a)];exact a),
   xx r (o+e.length) l i λj v a=>?_⟩
  have:=f (c.length+j) v (by rw[List.getElem?_append_right (by omega)];simpa using a)
  rwa [k,<-Nat.add_assoc]at this
section sealing
variable {G:bQ}{cx:c2}{I:a2}{β:Nat->Value}{σ:W}{w:World}
theorem bG.slice(h:bG G cx I β σ w){d:Nat}{T:TypeId}{sz k:Nat}{xs:List (List U)}(Z:σ.get d=some (.slice T sz xs k true)){v:Value}(D:az I β (.own d) v):
  az I β (.aL false xs) v:=by
 simp only[az]at D;obtain⟨rfl,Y⟩:=D;have:=h.b5 d _ Z;simp only[bb]at this;rcases this with u|⟨u,rfl,_⟩|⟨b,aR,arr,u,F,O,X,aa,Q,ab,ae,af,ag,ai⟩
 .rw[u]at Y;simp[fA]at Y
 .rw[u];simp only[az,aN];exact⟨none,0,rfl,by simp,by simp[maxLen],by simp,by simp⟩
 .rw[u];simp only[az,aN];refine⟨_,aR,rfl,F,O,by simp,.inr ⟨b,0,rfl,?_⟩⟩;refine xx xs 0 _ Q λj v D=>?_
  grind
mutual
def fq.rep(F:bG G cx I β σ w):∀{a r:U},fq σ a r->∀v,az I β a v->az I β r v
 |_,_,.gq,v,h=>by
  simp only[az,aN]at h ⊢;obtain⟨a,c,ai,Q⟩:=h;exact⟨some a,c,ai,by simp,Q,by simp,by simp⟩
 |_,_,.refl _,_,h=>h
 |_,_,.cW Y Q,v,h=>by
  have u:=fq.rep F Y v h;simp only[az,aN]at u ⊢;obtain⟨vs,D,O⟩:=u;exact⟨vs,D,bx.closed _ _ Q O⟩
 |_,_,.nil f,v,h=>by
  simp only[az,aN]at h ⊢;exact⟨none,0,h,by simp,by simp[maxLen],by simp,by simp⟩
 |_,_,.full xs,v,h=>by
  simp only[az,aN]at h ⊢;obtain⟨a,c,u,D,O,_,aa⟩:=h;exact⟨a,c,u,D,O,by simp,aa⟩
 |_,_,.own Z,v,h=>F.slice Z h
 |_,_,.gM Z,v,h=>by
  simp only[az]at h;obtain⟨rfl,X⟩:=h;have:=F.b5 _ _ Z;simp only[bb]at this;rcases this with q|⟨r,es,clock,af,ag,ab,_,ae⟩
  .rw[q]at X;simp[hd]at X
  .rw[af];simp only[az,aN];exact⟨r,es,clock,rfl,ag,ab,ae⟩
 |_,_,.agg Y,v,h=>by
  simp only[az]at h ⊢;obtain⟨vs,u,D⟩:=h;exact⟨vs,u,gL.rep F Y _ D⟩
 |_,_,.bO Y,v,h=>by
  simp only[az]at h ⊢;obtain⟨vs,u,D⟩:=h;exact⟨vs,u,gL.rep F Y _ D⟩
 |_,_,.fn Y,v,h=>by
  simp only[az]at h ⊢;obtain⟨vs,u,D⟩:=h;exact⟨vs,u,gL.rep F Y _ D⟩
 |_,_,.dg _,v,h=>by simp[az]
def gL.rep(D:bG G cx I β σ w):∀{a r:List U},gL σ a r->∀vs,bx I β a vs->bx I β r vs
 |_,_,.nil,_,h=>h
 |_,_,.cons Y O,vs,h=>by
  simp only[bx]at h ⊢;obtain⟨au,u,X,F,Q⟩:=h;exact⟨au,u,X,fq.rep D Y au F,gL.rep D O u Q⟩
end
def bG.sub{σ2:W}(h:bG G cx I β σ w)(Y:∀d o,σ2.get d=some o->σ.get d=some o):bG G cx I β σ2 w:=
  {h with b5:=λd o e=>h.b5 d o (Y d o e),
          cA:=λd cm e u=>by
            obtain⟨o,e⟩:=Option.isSome_iff_exists.1 e;obtain⟨D,u⟩:=Option.isSome_iff_exists.1 u;exact h.cA d cm (by rw[Y d o e];rfl) (by rw[Y cm D u];rfl)}
def b1.nc:b1->b1
 |.slice T sz xs _ _=>.slice T sz xs xs.length true
 |.map K E u=>.gM K E u
 |o=>o
def W.freeze(bK:cg):W->W
 |[]=>[]
 |(d,o)::r=>(d,bif bK.contains d then o.nc else o)::W.freeze bK r
theorem avf(bK:cg):∀(σ:W) (d:Nat),(W.freeze bK σ).get d=(σ.get d).map λo=>if d∈bK then o.nc else o
 |[],d=>rfl
 |(k,o)::r,d=>by
  simp only[W.freeze,auU,avf bK r d];split
  .grind
  .rfl
def bb.AV{D:a2}{d b:Nat}{o:b1}(bA:bM I D)(F:∀u o,u≠b->D u o=I u o)(Q:∀u∈b3 (β d),u≠b)(O:bb cx I β w d o):bb cx D β w d o:=O.rZ bA rfl (en.refl _) λu e=>⟨λ_=>rfl,λo=>F u o (Q u e),id⟩
theorem bG.Lv(h:bG G cx I β σ w)(e:Nat):∃Q,bM I Q/\bG G cx Q β (σ.freeze [e]) w:=by
 cases ae:σ.get e with
 |none=>
  refine⟨I,bM.refl I,h.sub λd o Z=>?_⟩;rw[avf]at Z;cases u:σ.get d with
  |none=>rw[u]at Z;cases Z
  |some ao=>
   rw[u]at Z;have:d∉[e]:=by intro O;simp at O;subst O;rw[ae]at u;cases u
   simp only[Option.map_some,this,if_false]at Z;exact Z
 |some o=>
  have X:(∀ao,o.nc=ao->ao=o)->∃Q,bM I Q/\bG G cx Q β (σ.freeze [e]) w:=by
   intro a3;refine⟨I,bM.refl I,h.sub λd ao Z=>?_⟩;rw[avf]at Z;cases u:σ.get d with
   |none=>rw[u]at Z;cases Z
   |some ab=>
    rw[u]at Z;simp only[Option.map_some,Option.some.injEq]at Z;split at Z
    .grind
    .rw[Z]
  cases o with
  |cells T cs=>exact X (λ_ e=>e.symm)
  |gM K E aC=>exact X (λ_ e=>e.symm)
  |er es clock K E aC=>exact X (λ_ e=>e.symm)
  |iter aV a1 aZ seen=>exact X (λ_ e=>e.symm)
  |hdr aV n=>exact X (λ_ e=>e.symm)
  |bp aW=>exact X (λ_ e=>e.symm)
  |cF T e n aE=>exact X (λ_ e=>e.symm)
  |fk T sz xs a0 e aE=>exact X (λ_ e=>e.symm)
  |eR T xs t=>exact X (λ_ e=>e.symm)
  |vec T xs=>exact X (λ_ e=>e.symm)
  |gD es clock aC seen=>exact X (λ_ e=>e.symm)
  |dB K E e keys aE aY=>exact X (λ_ e=>e.symm)
  |map K E aC=>
   have af:=h.b5 e _ ae;simp only[bb]at af;rcases af with aa|⟨r,es,clock,aa,aD,ar,am,an,ax⟩
   .refine⟨I,bM.refl I,{h with b5:=λd o Z=>?_,cA:=λd cm Z u=>?_}⟩
    .rw[avf]at Z;cases u:σ.get d with
     |none=>rw[u]at Z;cases Z
     |some ab=>
      rw[u]at Z;simp only[Option.map_some,Option.some.injEq]at Z;subst Z;split
      .rename_i O;simp at O;subst O;rw[ae]at u;cases u;exact .inl aa
      .exact h.b5 d ab u
    .rw[avf,Option.isSome_map]at Z u;exact h.cA d cm Z u
   .let Q:a2:=λb o=>if b=r/\o=none then some (i1 es clock)else I b o
    have bA:bM I Q:=λb o v F=>by
     show(if b=r/\o=none then some (i1 es clock)else I b o)=some v;split
     .grind
     .exact F
    have ak:∀b o,b≠r->Q b o=I b o:=λb o ai=>by
     show(if b=r/\o=none then some (i1 es clock)else I b o)=_;rw[if_neg (λag=>ai ag.1)]
    have aB:bE (β e)=some r:=by rw[aa];rfl
    refine⟨Q,bA,{good:=λD o v F=>?_,eD:=λD v F=>?_,fK:=λD o v F=>bA _ _ _ (h.fK _ _ _ F),fB:=λD aq aA o=>?_,frame:=h.frame,size:=h.size,tape:=h.tape,os:=h.os,output:=h.output,drawn:=h.drawn,b5:=λd o Z=>?_,cA:=λd cm Z u=>?_,keep:=h.keep}⟩
    .refine h.good D o v ?_
     grind
    .change (if D=r/\none=none then some (i1 es clock)else I D none)=some v at F
     split at F
     .grind
     .exact h.eD D v F
    .have ai:D≠r:=λe=>by
      subst e;rcases an with q|q
      .omega
      .grind
     rw[ak D o ai];exact h.fB D aq aA o
    .rw[avf]at Z;cases u:σ.get d with
     |none=>rw[u]at Z;cases Z
     |some ab=>
      rw[u]at Z;simp only[Option.map_some,Option.some.injEq]at Z;subst Z;by_cases gn:d=e
      .subst gn;rw[ae]at u;cases u;simp only[List.mem_singleton,if_true,b1.nc,bb];exact .inr ⟨r,es,clock,aa,by show(if r=r/\none=none then some (i1 es clock)else I r none)=_;rw[if_pos ⟨rfl,rfl⟩],mg bA _ _ ar,an,ax⟩
      .have O:d∉[e]:=by simpa using gn
       rw[if_neg O];refine(h.b5 d ab u).AV bA ak λD az aw=>?_;subst aw;exact h.cA d e (by rw[u];rfl) (by rw[ae];rfl) gn D az (gv aB)
    .rw[avf,Option.isSome_map]at Z u;exact h.cA d cm Z u
  |slice T sz xs k bK=>
   have af:=h.b5 e _ ae;simp only[bb]at af;rcases af with aa|⟨aa,rfl,rfl⟩|⟨b,aR,arr,aa,aD,ar,am,an,ax,aG,aM,aX,aS,aF⟩
   .refine⟨I,bM.refl I,{h with b5:=λd o Z=>?_,cA:=λd cm Z u=>?_}⟩
    .rw[avf]at Z;cases u:σ.get d with
     |none=>rw[u]at Z;cases Z
     |some ab=>
      rw[u]at Z;simp only[Option.map_some,Option.some.injEq]at Z;subst Z;split
      .rename_i O;simp at O;subst O;rw[ae]at u;cases u;exact .inl aa
      .exact h.b5 d ab u
    .rw[avf,Option.isSome_map]at Z u;exact h.cA d cm Z u
   .refine⟨I,bM.refl I,{h with b5:=λd o Z=>?_,cA:=λd cm Z u=>?_}⟩
    .rw[avf]at Z;cases u:σ.get d with
     |none=>rw[u]at Z;cases Z
     |some ab=>
      rw[u]at Z;simp only[Option.map_some,Option.some.injEq]at Z;subst Z;split
      .rename_i O;simp at O;subst O;rw[ae]at u;cases u;exact .inr (.inl ⟨aa,rfl,rfl⟩)
      .exact h.b5 d ab u
    .rw[avf,Option.isSome_map]at Z u;exact h.cA d cm Z u
   .let Q:a2:=I.on λD o=>if D=b/\o<xs.length*sz then arr[o]? else I D o
    have bA:bM I Q:=λD o v F=>by
     cases o with
     |none=>exact F
     |some o=>
     show(if D=b/\o<xs.length*sz then arr[o]? else I D o)=some v;split
     .rename_i ag;obtain⟨rfl,aI⟩:=ag;have aT:=h.good D o v F;simp only[World.cell?,am]at aT
      grind
     .exact F
    have ak:∀D o,D≠b->Q D o=I D o:=λD o ai=>by
     cases o with
     |none=>rfl
     |some o=>
     show(if D=b/\o<xs.length*sz then arr[o]? else I D o)=_;rw[if_neg (λag=>ai ag.1)]
    have aB:bE (β e)=some b:=by rw[aa];rfl
    refine⟨Q,bA,{good:=λD o v F=>?_,eD:=h.eD,fK:=λD o v F=>bA _ _ _ (h.fK _ _ _ F),fB:=λD aq aA o=>?_,frame:=h.frame,size:=h.size,tape:=h.tape,os:=h.os,output:=h.output,drawn:=h.drawn,b5:=λd o Z=>?_,cA:=λd cm Z u=>?_,keep:=h.keep}⟩
    .change (if D=b/\o<xs.length*sz then arr[o]? else I D o)=some v at F
     split at F
     .rename_i ag;obtain⟨rfl,aI⟩:=ag;simp only[World.cell?,am]
      grind
     .exact h.good D o v F
    .have ai:D≠b:=λe=>by
      subst e;rcases aF with q|q
      .omega
      .grind
     rw[ak D o ai];exact h.fB D aq aA o
    .rw[avf]at Z;cases u:σ.get d with
     |none=>rw[u]at Z;cases Z
     |some ab=>
      rw[u]at Z;simp only[Option.map_some,Option.some.injEq]at Z;subst Z;by_cases gn:d=e
      .subst gn;rw[ae]at u;cases u;simp only[List.mem_singleton,if_true,b1.nc,bb];refine .inr (.inr ⟨b,aR,arr,aa,aD,ar,am,an,kA bA _ _ ax,aG,Nat.le_refl _,λ_ o af=>?_,λo af=>?_,aF⟩)
       .show(if b=b/\o<xs.length*sz then arr[o]? else I b o)=_
        grind
       .show(if b=b/\o<xs.length*sz then arr[o]? else I b o)=_;rw[if_neg (λag=>by omega)];exact aS o (Nat.le_trans (Nat.mul_le_mul_right _ aM) af)
      .have O:d∉[e]:=by simpa using gn
       rw[if_neg O]
       have aU:∀D∈b3 (β d),D≠b:=λD az aw=>by
        subst aw;exact h.cA d e (by rw[u];rfl) (by rw[ae];rfl) gn D az (gv aB)
       exact(h.b5 d ab u).AV bA ak aU
    .rw[avf,Option.isSome_map]at Z u;exact h.cA d cm Z u
theorem bG.BN(h:bG G cx I β σ w):∀bK:cg,∃D,bM I D/\bG G cx D β (σ.freeze bK) w:=by
 intro bK;induction bK generalizing σ I with
 |nil=>
  refine⟨I,bM.refl I,h.sub λd o Z=>?_⟩;rw[avf]at Z;simpa using Z
 |cons e r Q=>
  obtain⟨af,ab,ae⟩:=h.Lv e;obtain⟨X,aa,O⟩:=Q ae;refine⟨X,ab.trans aa,O.sub λd o Z=>?_⟩;rw[avf]at Z;rw[avf,avf];cases F:σ.get d with
  |none=>rw[F]at Z;cases Z
  |some u=>
   rw[F]at Z;simp only[Option.map_some,Option.some.injEq]at Z ⊢;rw[<-Z];have ag:u.nc.nc=u.nc:=by cases u<;>rfl
   by_cases gn:d=e
   .grind
   .grind
end sealing
def bJ.freeze(G:bQ)(env:ah)(σ:W)(bK:cg):bJ G env σ env (σ.freeze bK):=λcx I β a w h D=>by
 obtain⟨F,bA,u⟩:=h.BN bK;exact⟨F,β,u,D.mono bA (en.refl β)⟩
theorem bJ.drop{G:bQ}{env cu:ah}{σ σ2:W}(aa:∀p∈cu,fq σ (env.get p.1) p.2)(Y:∀p∈σ2,σ.get p.1=some p.2):bJ G env σ cu σ2:=λcx I β a w h F=>by
 have X:∀(l:ah) t,l.get t=.dg\/∃p∈l,p.1=t/\l.get t=p.2:=by
  intro l;induction l with
  |nil=>exact λ_=>.inl rfl
  |cons x r O=>
   intro t;obtain⟨k,v⟩:=x;rw[avb];split
   .simp_all
   .grind
 have ab:∀(l:W) d o,l.get d=some o->∃p∈l,p.1=d/\p.2=o:=by
  intro l;induction l with
  |nil=>intro d o h;simp[W.get]at h
  |cons x r O=>
   intro d o h;obtain⟨k,v⟩:=x;rw[auU]at h;split at h
   .simp_all
   .grind
 refine⟨I,β,h.sub λd o Z=>?_,λt=>?_⟩
 .grind
 .rcases X cu t with u|⟨p,u,D,Q⟩
  .rw[u];simp[az]
  .rw[Q];subst D;exact(aa p u).rep h _ (F p.1)
def avl{G:bQ}{c:Code}{SN:Exit->ah->W->Prop}{env:ah}{σ:W}(g:∀cx a w,j4 G cx env σ a w->c.wp G.P (λe f w'=>∃d b,j4 G cx d b f w'/\SN e d b) a w):ar G c SN env σ:=g
def ar.use{G:bQ}{c:Code}{SN:Exit->ah->W->Prop}{env:ah}{σ:W}(h:ar G c SN env σ)(cx:c2)(a:Act)(w:World)(O:j4 G cx env σ a w):c.wp G.P (λe F w'=>∃D u,j4 G cx D u F w'/\SN e D u) a w:=h cx a w O
attribute [irreducible] ar
end
section
variable {I:a2}{p:Nat->Bool}{r:Nat->Nat}{β β':Nat->Value}
def EV(a:∀d,p d=false->β' (r d)=β d)(x:U)(v:Value)(e:x.refs p=false)(q:az I β x v):az I β' (x.ct r) v:=uF (bM.refl I) (λd e=>.inr (a d e)) x v e q
def JF(a:∀d,p d=false->β' (r d)=β d)(x:List U)(v:c4)(e:iN p x=false)(q:bx I β x v):bx I β' (iI r x) v:=tQ (bM.refl I) (λd e=>.inr (a d e)) x v e q
def ah.ct(r:Nat->Nat)(env:ah):ah:=env.map λp=>(p.1,p.2.ct r)
def W.ct(r:Nat->Nat)(σ:W):W:=σ.map λp=>(r p.1,p.2.ct r)
def avZ(r:Nat->Nat):∀(env:ah) t,(env.ct r).get t=(env.get t).ct r
 |[],t=>by simp[ah.ct,ah.get,U.ct]
 |(k,v)::l,t=>by
  have:=avZ r l t;simp only[ah.ct]at this ⊢;simp only[List.map_cons,avb];split
  .rfl
  .exact this
def pr(r s:Nat->Nat)(ids:cg)(env:ah)(σ:W):Bool:=
 env.clean (λa=>!Nat.beq (s (r a)) a)&&σ.clean (λa=>!Nat.beq (s (r a)) a)&&ids.all (λa=>Nat.beq (s a) a)
theorem bJ.ct{G:bQ}{env:ah}{σ:W}(r s:Nat->Nat)(ab:pr r s G.ids env σ=true):bJ G env σ (env.ct r) (σ.ct r):=λcx I β a w h ag=>by
 simp only[pr,Bool.and_eq_true,List.all_eq_true,Nat.beq_eq]at ab;obtain⟨⟨az,af⟩,am⟩:=ab
 have aa:∀d,(!Nat.beq (s (r d)) d)=false->(λx=>β (s x)) (r d)=β d:=λd Z=>by
  have:s (r d)=d:=by simpa using Z
  show β (s (r d))=β d;rw[this]
 have obj:∀d o,(σ.ct r).get d=some o->∃d0 u,σ.get d0=some u/\d=r d0/\o=u.ct r/\s (r d0)=d0/\ho (λd=>!Nat.beq (s (r d)) d) u=false:=by
  intro d o Z
  have key:∀(l:W),l.clean (λd=>!Nat.beq (s (r d)) d)=true->(W.ct r l).get d=some o->∃d0 u,l.get d0=some u/\d=r d0/\o=u.ct r/\s (r d0)=d0/\ho (λd=>!Nat.beq (s (r d)) d) u=false:=by
   intro l;induction l with
   |nil=>intro _ h;simp[W.ct,W.get]at h
   |cons x t ak=>
    obtain⟨k,v⟩:=x;intro O h;simp only[W.clean,Bool.and_eq_true,Bool.not_eq_true',Bool.not_eq_false']at O;simp only[W.ct,List.map_cons,auU]at h;have aA:s (r k)=k:=by simpa using O.1.1
    split at h
    .rename_i ae;cases h;exact⟨k,v,by simp[auU],ae.symm,rfl,aA,O.1.2⟩
    .rename_i ae;obtain⟨d0,u,F,ao,ai,D,X⟩:=ak O.2 h;refine⟨d0,u,?_,ao,ai,D,X⟩;rw[auU,if_neg]
     all_goals grind
  exact key σ af Z
 refine⟨I,λx=>β (s x),{h with b5:=λd o Z=>?_,cA:=λd cm Z Q ar b=>?_,keep:=λd Z=>?_},λt=>?_⟩
 .obtain⟨d0,u,F,rfl,rfl,D,X⟩:=obj d o Z;have an:=h.b5 d0 u F;exact an.go (bM.refl I) (by simp only[D]) (λx e=>.inr (aa x e)) (λb _=>⟨λ_=>rfl,λ_=>rfl,id⟩) X
 .obtain⟨o,Z⟩:=Option.isSome_iff_exists.1 Z;obtain⟨ax,Q⟩:=Option.isSome_iff_exists.1 Q;obtain⟨d0,u,F,rfl,_,D,_⟩:=obj d o Z;obtain⟨d1,aB,aq,rfl,_,aw,_⟩:=obj cm ax Q;simp only[D,aw];exact h.cA d0 d1 (by rw[F];rfl) (by rw[aq];rfl) (λe=>ar (by rw[e])) b
 .have:=am d Z;simp only[this];exact h.keep d Z
 .rw[avZ];exact EV (r:=r) aa _ _ (avk az t) (ag t)
variable {G:bQ}{σ:W}
theorem awn{env:ah}(t d:Nat)(T:TypeId)(sz:Nat)(v:env.get t=.bC)(y:σ.get d=none)(hi:G.ids.contains d=false)(x:env.clean (Nat.beq d)=true)(u:σ.clean (Nat.beq d)=true):
  bJ G env σ ((t,.own d)::env) ((d,.slice T sz [] 0 false)::σ):=λA I β z w h m=>by
 let β':Nat->Value:=λa=>if a=d then .slice none 0 0 else β a
 have f:∀a,Nat.beq d a=false->β' a=β a:=λa c=>by
  have:a≠d:=λe=>by subst e;simp at c
  show(if a=d then _ else β a)=_;rw[if_neg this]
 have g:β' d=.slice none 0 0:=by show(if d=d then _ else _)=_;rw[if_pos rfl]
 refine⟨I,β',{h with b5:=λa o e=>?_,cA:=λa l j k s b=>?_,keep:=λa c=>?_},λn=>?_⟩
 .rw[auU]at e;split at e
  .rename_i c;subst c;cases e
   simp only[bb,g]
   grind
  .obtain⟨r,q⟩:=au8 u a o e;exact(h.b5 a o e).beta f r q
 .rw[auU]at j k;by_cases c:d=a
  .subst c;rw[g];simp[xV]
  .by_cases i:d=l
   .subst i;rw[g];simp[xV]
   .rw[if_neg c]at j;rw[if_neg i]at k;rw[f a (by rw[<-Bool.not_eq_true,Nat.beq_eq];exact c),f l (by rw[<-Bool.not_eq_true,Nat.beq_eq];exact i)];exact h.cA a l j k s b
 .have:d≠a:=λe=>by subst e;simp at hi;exact hi c
  rw[f a (by rw[<-Bool.not_eq_true,Nat.beq_eq];exact this)];exact h.keep a c
 .rw[avb];split
  .rename_i p;subst p;have:=m t;rw[v]at this;simp only[az,aN]at this;simp only[az,this,g,fA,and_self]
  .exact nC f _ _ (avk x n) (m n)
def U.pN:U->Prop
 |.aL _ xs=>xs.length<=maxLen
 |_=>True
def Aj:List U->Prop
 |[]=>True
 |x::r=>x.pN/\Aj r
def U.aj:U->Prop
 |.aL _ xs=>xs.length<=maxLen
 |.agg cs=>Aj cs
 |_=>True
def pO:List U->Prop
 |[]=>True
 |x::r=>x.aj/\pO r
def az.pN{I:a2}{β:Nat->Value}{a:U}{v:Value}(h:az I β a v):a.pN:=by
 cases a<;>simp only[U.pN]
 simp only[az,aN]at h;omega
def bx.aj{I:a2}{β:Nat->Value}:∀{a:List U} {v:c4},bx I β a v->Aj a
 |[],_,_=>trivial
 |x::r,_,h=>by
  simp only[bx]at h;obtain⟨_,_,_,D,u⟩:=h;exact⟨D.pN,bx.aj u⟩
def az.aj{I:a2}{β:Nat->Value}{a:U}{v:Value}(h:az I β a v):a.aj:=by
 cases a<;>simp only[U.aj]
 .exact h.pN
 .simp only[az]at h;obtain⟨_,_,h⟩:=h;exact h.aj
def bx.pO{I:a2}{β:Nat->Value}:∀{a:List U} {v:c4},bx I β a v->pO a
 |[],_,_=>trivial
 |x::r,_,h=>by
  simp only[bx]at h;obtain⟨_,_,_,D,u⟩:=h;exact⟨D.aj,bx.pO u⟩
def W.ids(σ:W):cg:=σ.map (·.1)
def cI(P:Program)(f:FuncId)(eS:W)(args:List U)(g:U->W->Prop):Prop:=
 ∀(c:c2) (w:World) (I:a2) (β:Nat->Value) (e:c4),bG ⟨P,0,eS.ids⟩ c I β eS w->bx I β args e->
  Calls P f e.toArray w (λh i=>∃d,h=.returned d/\∃r b a β',g r b/\az a β' r d/\bG ⟨P,0,eS.ids⟩ c a β' b i)
def cI.mono{P:Program}{f:FuncId}{eS:W}{args:List U}{D F:U->W->Prop}(h:cI P f eS args D)(aa:∀r u,D r u->F r u):cI P f eS args F:=
 λcx w I β vs af O=>Calls.mono (h cx w I β vs af O) λ_ _ ⟨v,ag,r,u,Q,β',ab,ae,X⟩=>⟨v,ag,r,u,Q,β',aa _ _ ab,ae,X⟩
def bY(P:Program)(f:FuncId)(eS:W)(args:List U)(r:U):Prop:=cI P f eS args (λb a=>b=r/\a=eS)
structure dN(P:Program)(T:TypeId)(n:Nat)(b9:Bool):Prop where
 size:∀w,(sizeOf T).run P w=.ok n w
 agg:∀w,(isAgg T).run P w=.ok b9 w
def ht(b9:Bool)(n:Nat)(cs:List U):U:=bif b9 then .agg (cs.take n)else cs.headD .dg
def qw{I:a2}{β:Nat->Value}:∀(k:Nat) (cs:List U) (vs:c4),bx I β cs vs->bx I β (cs.drop k) (vs.drop k)
 |0,_,_,h=>by simpa using h
 |k+1,[],vs,h=>by simp only[bx]at h;subst h;simp[bx]
 |k+1,x::r,vs,h=>by
  simp only[bx]at h;obtain⟨c,b,rfl,_,a⟩:=h;simpa using qw k r b a
def qx{I:a2}{β:Nat->Value}:∀(k:Nat) (cs:List U) (vs:c4),bx I β cs vs->bx I β (cs.take k) (vs.take k)
 |0,_,_,_=>by simp[bx]
 |k+1,[],vs,h=>by simp only[bx]at h;subst h;simp[bx]
 |k+1,x::r,vs,h=>by
  simp only[bx]at h;obtain⟨c,b,rfl,d,a⟩:=h;simp only[List.take_succ_cons,bx];exact⟨c,_,rfl,d,qx k r b a⟩
theorem g2(b o n:Nat):Addr.add ⟨b,o,none⟩ n=⟨b,o+n,none⟩:=by
 unfold Addr.add;split<;>simp_all
variable {P:Program}{T:TypeId}{b:Nat}{b9:Bool}{w:World}
theorem m9{n:Nat}(e:dN P T n b9){off:Nat}{vs:c4}(f:∀j,j<n->∃v,vs[j]?=some v/\w.cell? ⟨b,off+j,none⟩=some v)(i:b9=false->0<n):
  (loadVar T ⟨b,off,none⟩).run P w=.ok (if b9 then .agg (vs.take n).toArray else vs.headD undef) w:=by
 unfold loadVar;simp only[Sem.run_bind,e.agg,Result.andThen_ok];cases b9 with
 |true=>
  simp only[if_true,Sem.run_bind,e.size,Result.andThen_ok];have:(loadCells ⟨b,off,none⟩ n).run P w=.ok (vs.take n).toArray w:=by
   have l:(vs.take n).length=n:=by
    rw[List.length_take];rcases Nat.lt_or_ge vs.length n with h|h
    all_goals grind
   have m:=run_loadCells_list (P:=P) w ⟨b,off,none⟩ (vs.take n) (λj v a=>by
    rw[List.getElem?_take]at a;split at a
    .rename_i g;obtain⟨k,c,d⟩:=f j g;rw[c]at a;cases a;rw[g2];exact d
    .cases a)
   grind
  rw[this];rfl
 |false=>
  obtain⟨v,c,d⟩:=f 0 (i rfl);simp only[load];simp only[Bool.false_eq_true,if_false,Sem.run];rw[show(⟨b,off,none⟩:Addr)=⟨b,off+0,none⟩from rfl,d];cases vs with
  |nil=>simp at c
  |cons x r=>simp at c;subst c;rfl
def yY{I:a2}{β:Nat->Value}:∀(xs:bH) (vs:c4),bx I β (xs.map (U.int .i64)) vs->vs=xs.map (Value.int .i64)
 |[],vs,h=>by simpa only[List.map_nil,bx]using h
 |x::r,vs,h=>by
  simp only[List.map_cons,bx]at h;obtain⟨c,b,rfl,d,a⟩:=h;rw[show c=Value.int .i64 x by simpa [az,aN]using d,yY r b a];rfl
def uC{I:a2}{β:Nat->Value}:∀(xs:bH),bx I β (xs.map (U.int .i64)) (xs.map (Value.int .i64))
 |[]=>by simp[bx]
 |x::r=>by simp only[List.map_cons,bx];exact⟨_,_,rfl,by simp[az,aN],uC r⟩
def yZ{xs:bH}{v:Value}:az I β (.agg (xs.map (U.int .i64))) v↔az I β (.arr xs) v:=by
 simp only[az,aN];constructor
 .rintro⟨b,rfl,a⟩;rw[<-yY xs _ a]
 .rintro rfl;exact⟨_,rfl,by simpa using uC xs⟩
inductive i4(G:bQ)(env:ah)(σ:W):ResultVar->U->Prop
 |tmp (t:Nat):i4 G env σ (.tmp t) (env.get t)
 |cell (a T d:Nat) (aM n:Nat) (b9:Bool) (cs:List U) (ax:env.get a=.ptr d 0) (Z:σ.get d=some (.cells aM cs)) (aC:dN G.P T n b9) (aI:cs.length=n) (aW:b9=false->0<n):i4 G env σ (.cell a T) (ht b9 n cs)
 |arr (a T d:Nat) (aM n:Nat) (xs:bH) (ax:env.get a=.ptr d 0) (Z:σ.get d=some (.vec aM xs)) (aC:dN G.P T n true) (aI:xs.length=n):i4 G env σ (.cell a T) (.arr xs)
def q5(tmps:eN):ResultVar->Sem Value
 |.tmp t=>pure (tmps.getD t undef)
 |.cell a t=>do loadVar t (<-asAddr (tmps.getD a undef))
variable {aM:TypeId}
theorem bG.box{cx:c2}(F:bG G cx I β σ w){d:Nat}{cs:List U}(Z:σ.get d=some (.cells aM cs))(u:bE (β d)=some b):
  ∃arr,β d=.pointer (some ⟨b,0,none⟩)/\w.heap[b]?=some (.cells arr aM (0,0))/\bx I β cs arr.toList/\(∀o,I b o=none)/\Place cx b:=by
 have D:=F.b5 d _ Z;simp only[bb]at D;rcases D with q|⟨Q,arr,O,ab,X,aa,ae⟩
 .rw[q]at u;simp[bE]at u
 .have:Q=b:=by rw[O]at u;simpa [bE]using u
  grind
def wS{n:Nat}(i:dN P T n b9)(j:b9=false->0<n){off:Nat}{d:eN}{cs:List U}(g:w.heap[b]?=some (.cells d aM (0,0)))
  (f:bx I β cs d.toList) (q:off+n<=cs.length):∃v,(loadVar T ⟨b,off,none⟩).run P w=.ok v w/\az I β (ht b9 n (cs.drop off)) v:=by
 have p:=ko _ _ f
 have h:∀c,c<n->∃v,(d.toList.drop off)[c]?=some v/\w.cell? ⟨b,off+c,none⟩=some v:=λc o=>by
  have e:off+c<d.toList.length:=by omega
  refine⟨d.toList[off+c],by rw[List.getElem?_drop];exact List.getElem?_eq_getElem e,?_⟩;simp only[World.cell?,g];simpa using List.getElem?_eq_getElem e
 refine⟨_,m9 i h j,?_⟩;have a:=qw off _ _ f;cases b9 with
 |true=>
  simp only[ht,cond_true,if_true,az];exact⟨_,rfl,by simpa using qx n _ _ a⟩
 |false=>
  simp only[ht,cond_false,Bool.false_eq_true,if_false];generalize cs.drop off=k at a;cases k with
  |nil=>simp[az]
  |cons x r=>
   simp only[bx]at a;obtain⟨s,m,l,a,_⟩:=a;rw[l];exact a
def i4.run{G:bQ}{env:ah}{σ:W}{r:ResultVar}{x:U}(h:i4 G env σ r x){cx:c2}{I:a2}{β:Nat->Value}{w:World}{a:Act}(af:bG G cx I β σ w)(O:gJ I β env a):
  ∃v,az I β x v/\(q5 a.tmps r).run G.P w=.ok v w:=by
 cases h with
 |tmp t=>exact⟨_,O t,rfl⟩
 |cell b T d aM n b9 cs ab Z aa aq ar=>
  have u:=O b;rw[ab]at u;simp only[az]at u;obtain⟨ae,D,Q⟩:=u;obtain⟨arr,aA,ak,ai,_⟩:=af.box Z D;obtain⟨v,X,F⟩:=wS aa ar (off:=0) ak ai (by omega);refine⟨v,by simpa using F,?_⟩;simp only[q5,Q,asAddr,Sem.run_bind,Sem.run_pure,Result.andThen_ok];exact X
 |arr b T d aM n xs ab Z aa aq=>
  have u:=O b;rw[ab]at u;simp only[az]at u;obtain⟨ae,D,Q⟩:=u;have ag:=af.b5 d _ Z;simp only[bb]at ag;rcases ag with q|⟨am,arr,aw,ax,an,_⟩
  .rw[q]at D;cases D
  have ao:am=ae:=by rw[aw]at D;simpa [bE]using D
  subst ao;obtain⟨v,X,F⟩:=wS (I:=I) (β:=β) (cs:=xs.map (U.int .i64)) aa (by simp) (off:=0) ax (by rw[an];exact uC xs) (by simp;omega);refine⟨v,yZ.1 ?_,?_⟩
  .simp only[ht,cond_true,List.drop_zero]at F;rw[List.take_of_length_le (by simp;omega)]at F;exact F
  .simp only[q5,Q,asAddr,Sem.run_bind,Sem.run_pure,Result.andThen_ok];exact X
inductive od(G:bQ)(env:ah)(σ:W):List ResultVar->List U->Prop
 |nil:od G env σ [] []
 |cons {r:ResultVar} {x:U} {rs:List ResultVar} {xs:List U} (h:i4 G env σ r x) (k:od G env σ rs xs):od G env σ (r::rs) (x::xs)
def od.run{G:bQ}{env:ah}{σ:W}{rs:List ResultVar}{xs:List U}(h:od G env σ rs xs){cx:c2}{I:a2}{β:Nat->Value}{w:World}{a:Act}(O:bG G cx I β σ w)(D:gJ I β env a):
  ∃vs:c4,bx I β xs vs/\(rs.mapM (q5 a.tmps)).run G.P w=.ok vs w/\vs.length=rs.length:=by
 induction h with
 |nil=>exact⟨[],rfl,rfl,rfl⟩
 |cons h _ F=>
  obtain⟨v,Q,u⟩:=h.run O D;obtain⟨vs,de,aZ,ec⟩:=F;refine⟨v::vs,⟨v,vs,rfl,Q,de⟩,?_,by simp[ec]⟩;simp[List.mapM_cons,Sem.run_bind,u,aZ]
inductive j5(G:bQ)(env:ah)(σ:W):List ResultVar->U->Prop
 |zero:j5 G env σ [] (.bO [])
 |one {r:ResultVar} {x:U} (h:i4 G env σ r x):j5 G env σ [r] x
 |two {r s:ResultVar} {x y:U} (h:i4 G env σ r x) (k:i4 G env σ s y):j5 G env σ [r,s] (.bO [x,y])
 |three {r s t:ResultVar} {x y z:U} (h:i4 G env σ r x) (k:i4 G env σ s y) (l:i4 G env σ t z):j5 G env σ [r,s,t] (.bO [x,y,z])
 |more {rs:List ResultVar} {xs:List U} (h:od G env σ rs xs) (aA:4<=rs.length):j5 G env σ rs (.bO xs)
theorem j5.run{G:bQ}{env:ah}{σ:W}{fn:Func}{x:U}(h:j5 G env σ fn.results.toList x){cx:c2}{I:a2}{β:Nat->Value}{w:World}{a:Act}(D:bG G cx I β σ w)(u:gJ I β env a):
  ∃v,az I β x v/\(results fn a.tmps).run G.P w=.ok v w:=by
 generalize aa:fn.results.toList=l at h;have ab:fn.results=l.toArray:=by rw[<-aa]
 have ae:results fn a.tmps=(do let vs <-l.toArray.mapM (q5 a.tmps);pure (if h:vs.size=1 then vs[0]else .tuple vs)):=by
  unfold results;rw[ab];rfl
 rw[ae];cases h with
 |zero=>exact⟨.tuple #[],by simp[az,bx],by simp⟩
 |one h=>
  obtain⟨v,F,O⟩:=h.run D u;refine⟨v,F,?_⟩;simp[List.mapM_cons,Sem.run_bind,O]
 |two h k=>
  obtain⟨v,F,O⟩:=h.run D u;obtain⟨au,de,aZ⟩:=k.run D u;refine⟨.tuple #[v,au],?_,?_⟩
  .simp only[az];exact⟨_,rfl,v,[au],rfl,F,au,[],rfl,de,rfl⟩
  .simp_all
 |three h k l=>
  obtain⟨v,F,O⟩:=h.run D u;obtain⟨au,de,aZ⟩:=k.run D u;obtain⟨t,X,af⟩:=l.run D u;refine⟨.tuple #[v,au,t],?_,?_⟩
  .simp only[az];exact⟨_,rfl,v,[au,t],rfl,F,au,[t],rfl,de,t,[],rfl,X,rfl⟩
  .simp_all
 |more h ag=>
  obtain⟨vs,de,aZ,ec⟩:=h.run D u;refine⟨.tuple vs.toArray,⟨vs.toArray,rfl,by simpa using de⟩,?_⟩;have Q:¬vs.length=1:=by omega
  simp[Sem.run_bind,aZ,Q]
def qN:Nat->List U->ah
 |_,[]=>[]
 |k,x::r=>(k,x)::qN (k+1) r
theorem Cm{I:a2}{β:Nat->Value}:∀(a:List U) (vs:c4) (k t:Nat),bx I β a vs->az I β ((qN k a).get t) (if k<=t then vs.getD (t-k) undef else undef)\/(qN k a).get t=.dg
 |[],_,_,_,_=>.inr rfl
 |x::r,vs,k,t,h=>by
  simp only[bx]at h;obtain⟨e,c,rfl,f,b⟩:=h;simp only[qN,avb];split
  .grind
  .rename_i g;rcases Cm r c (k+1) t b with d|d
   all_goals grind
def EX(G:bQ)(e:Func)(d:U->W->Prop):Exit->ah->W->Prop
 |.normal,env,σ|.ret,env,σ=>∃a c r b,j5 G env (σ.freeze a) e.results.toList c/\fq (σ.freeze a) c r/\(∀p∈b,(σ.freeze a).get p.1=some p.2)/\d r b
 |_,_,_=>False
theorem k0:∀(l:W) d o,l.get d=some o->∃p∈l,p.1=d/\p.2=o:=by
 intro l;induction l with
 |nil=>intro d o a;simp[W.get]at a
 |cons x r b=>
  intro d o a;obtain⟨c,e⟩:=x;rw[auU]at a;split at a
  .simp_all
  .grind
theorem cI.enter{f:FuncId}{fn:Func}{c:Code}{eS:W}{args:List U}{F:U->W->Prop}(ae:P.funcs[f]?=some fn)(ai:fn.body=some c)(aR:args.length<=fn.ntmps)
  (h:pO args->ar ⟨P,fn.ntmps,eS.ids⟩ c (EX ⟨P,fn.ntmps,eS.ids⟩ fn F) (qN 0 args) eS):cI P f eS args F:=by
 intro cx w I β vs ak X;have aI:=ko _ _ X;have aw:bG ⟨P,fn.ntmps,eS.ids⟩ cx I β eS w:={ak with};refine calls_of_wp ae ai ?_;refine wp_mono ((h X.pO).use cx _ w ⟨I,β,aw,λt=>?_,?_,rfl⟩) ?_
 .rcases Cm args vs 0 t X with q|q
  .have:((vs.toArray++Array.replicate (fn.ntmps-vs.toArray.size) undef).getD t undef)=vs.getD t undef:=by
    rw[Array.getD_eq_getD_getElem?,Array.getElem?_append,List.getD_eq_getElem?_getD]
    grind
   grind
  .rw[q];simp[az]
 .simp;omega
 .rintro e ab w' ⟨aq,D,⟨O,β',aA,ax,aM,aD⟩,u⟩
  have fin:(∃bK x r σ2,j5 ⟨P,fn.ntmps,eS.ids⟩ aq (D.freeze bK) fn.results.toList x/\fq (D.freeze bK) x r/\(∀p∈σ2,(D.freeze bK).get p.1=some p.2)/\F r σ2)->
    ab.defers=[]/\∃v,(results fn ab.tmps).run P w'=.ok v w'/\(∃aa,Ending.returned v=.returned aa/\∃r D O β',F r D/\az O β' r aa/\bG ⟨P,0,eS.ids⟩ cx O β' D w'):=by
   rintro⟨bK,x,r,σ2,am,an,af,ag⟩;obtain⟨aE,bA,Q⟩:=aA.BN bK;obtain⟨v,aG,aF⟩:=am.run Q (ax.mono bA (en.refl _));refine⟨aD,v,aF,v,rfl,r,σ2,aE,β',ag,an.rep Q _ aG,?_⟩
   have:=Q.sub (σ2:=σ2) λd o Z=>by
    obtain⟨p,ao,aB,aC⟩:=k0 σ2 d o Z;rw[<-aB,<-aC];exact af p ao
   exact{this with}
  cases e with
  |normal=>exact fin u
  |ret=>exact fin u
  |exit _=>exact u.elim
  |goto _=>exact u.elim
  |panic _=>exact u.elim
  |outgrown=>exact u.elim
end
section
def Yields.pure{G:bQ}{o:Oper}{ev:Operand->U}{σ:W}{R:cg}{bt:U}
  (h:∀(D:W) (cx:c2) (I:a2) (β:Nat->Value) (w:World) (u:Operand->Value),(∀d∈R,D.get d=σ.get d)->bG G cx I β D w->(∀x∈o.op.operands,az I β (ev x) (u x))->
   ∃v,(execOp u o).run G.P w=.ok (.value v) w/\az I β bt v):Yields G o ev σ [] R bt:=by
 intro D cx I β w u aa F _ O;obtain⟨v,X,Q⟩:=h D cx I β w u aa F O;rw[X];exact⟨I,β,Q,F,bM.refl I,λ_ _=>rfl⟩
theorem axw{G:bQ}{o:Oper}{ev:Operand->U}{σ:W}{R:cg}{bt:U}(h:Yields G o ev σ [] R bt):eL G o ev σ [] [] (λa e=>a=bt/\e=σ):=by
 intro g I j i c d b;have:=h σ g I j i c (λ_ _=>rfl) d (λk f=>by simp at f) b
 grind
section steps
variable {G:bQ}{ops:hU}{s:hj}{log:List (Nat×cg)}{i:Nat}{l:cg}{env:ah}{σ:W}{K:ah->W->Prop}{o:Oper}{bt:U}
def fD.n(u:o.guard=none):fD ops o env:=by unfold fD;rw[u];trivial
def awh{j:Nat}{c p:Bool}{b:Oper}{a:Nat}(e:o.guard=some (j,c))(d:ops[j]?=some b)(g:b.dst=some a)(h:env.get a=.bool p)(f:p=c):fD ops o env:=by
 unfold fD;rw[e];exact⟨b,a,d,g,by rw[h,f]⟩
def awi{j:Nat}{c p:Bool}{b:Oper}{a:Nat}(e:o.guard=some (j,c))(d:ops[j]?=some b)(g:b.dst=some a)(h:env.get a=.bool p)(f:p=!c):gY ops o env:=by
 unfold gY;rw[e];exact⟨b,a,d,g,.inl (by rw[h,f])⟩
def gY.undef{j:Nat}{want:Bool}{cO:Oper}{u:Nat}(F:o.guard=some (j,want))(D:ops[j]?=some cO)(Z:cO.dst=some u)(O:env.get u=.undef):gY ops o env:=by
 unfold gY;rw[F];exact⟨cO,u,D,Z,.inr O⟩
def iY(s:hj)(i:Nat):Bool:=!(s.di&&s.es.contains i)
def l6(s:hj)(i:Nat):Bool:=!s.di||s.es.contains i
def yO(b:iY s i=true):s.di=true->i∉s.es:=λa=>by simpa [iY,a]using b
def DJ(b:l6 s i=true):s.di=true->i∈s.es:=λa=>by simpa [l6,a]using b
def zN(σ:W)(R:cg):Bool:=R.all λa=>(σ.get a).isSome
def IE{R:cg}(b:zN σ R=true):∀d∈R,(σ.get d).isSome:=λd a=>List.all_eq_true.1 b d a
def C.y{R:cg}(D:ops[i]?=some o)(u:fD ops o env)(Y:iY s i=true)(F:zN σ R=true)(O:Yields G o env.ev σ [] R bt)
  (k:ep G ops s ((i,R)::log) l (env.put o.dst bt) σ K):ep G ops s log (i::l) env σ K:=
 ⟨o,D,.inr (.inl ⟨u,yO Y,[],R,bt,σ,avt G σ env,IE F,λd Z=>by simp at Z,O,k⟩)⟩
def C.skip(D:ops[i]?=some o)(u:gY ops o env)(Y:iY s i=true)(k:ep G ops s ((i,[])::log) l (env.put o.dst .undef) σ K):ep G ops s log (i::l) env σ K:=
 ⟨o,D,.inl ⟨u,yO Y,k⟩⟩
def C.Ol(D:ops[i]?=some o)(u:gY ops o env)(Y:l6 s i=true)(k:ep G ops s log l (env.put o.dst .undef) σ K):ep G ops s log (i::l) env σ K:=
 ⟨o,D,.inr (.inr (.inr ⟨u,DJ Y,k⟩))⟩
def C.v{d:Nat}{D:b1}(O:ops[i]?=some o)(F:fD ops o env)(Y:iY s i=true)(hi:G.ids.contains d=false)(ab:env.clean [d].contains=true)(aa:σ.clean [d].contains=true)(Q:Ge D=true)
  (X:Yields G o env.ev ((d,D)::σ) [d] [d] bt) (k:ep G ops s ((i,[d])::log) l (env.put o.dst bt) ((d,D)::σ) K):ep G ops s log (i::l) env σ K:=
 ⟨o,O,.inr (.inl ⟨F,yO Y,[d],[d],bt,(d,D)::σ,⟨λx u=>by rw[auU,if_neg (λe=>u (by simp[e]))],λx u=>by simp at u;subst u;simpa using hi,ab,aa,λx u ae n h=>by simp at u;subst u;rw[auU,if_pos rfl]at h;cases h;cases Q⟩,
  λx u=>by simp at u;subst u;simp[auU],λx u=>u,X,k⟩)⟩
def C.e{M news:cg}{Φ:U->W->Prop}(F:ops[i]?=some o)(D:fD ops o env)(Y:l6 s i=true)(O:eL G o env.ev σ M news Φ)(Q:(!s.di||k5 s i M log)=true)
  (aa:env.clean news.contains=true) (X:news.all (λd=>!G.ids.contains d&&(σ.get d).isNone)=true) (k:∀bt u,Φ bt u->ep G ops s log l (env.put o.dst bt) u K):ep G ops s log (i::l) env σ K:=
 ⟨o,F,.inr (.inr (.inl ⟨D,DJ Y,M,news,Φ,O,λZ=>by simpa [Z]using Q,aa,λd Z=>by
  have:=List.all_eq_true.1 X d Z;simpa using this,k⟩))⟩
def C.om{R:cg}(F:ops[i]?=some o)(D:fD ops o env)(Y:l6 s i=true)(O:Yields G o env.ev σ [] R bt)(k:ep G ops s log l (env.put o.dst bt) σ K):ep G ops s log (i::l) env σ K:=by
 have Q:∀log:List (Nat×cg),k5 s i [] log=true:=by
  intro log;induction log with
  |nil=>rfl
  |cons x r X=>obtain⟨k,R⟩:=x;simp[k5,X]
 exact C.e F D Y (axw O) (by simp[Q]) (avs env) rfl (λa ab ⟨aa,u⟩=>by subst aa u;exact k)
def C.nil(k:K env σ):ep G ops s log [] env σ K:=k
end steps
section ops
variable {G:bQ}{o:Oper}{ev:Operand->U}{σ:W}
def br.move{x:Operand}(h:o.op=.move x):Yields G o ev σ [] [] (ev x):=
 .pure λ_ _ _ _ w D _ _ u=>⟨D x,by simp[execOp,h],u x (by simp[h,Op.operands])⟩
def br.assign{x:Operand}(h:o.op=.assign x):Yields G o ev σ [] [] (ev x):=
 .pure λ_ _ _ _ w D _ _ u=>⟨D x,by simp[execOp,h],u x (by simp[h,Op.operands])⟩
variable {I:a2}{b:Bool}
def nD{β:Nat->Value}{v:Value}(a:az I β (.bool b) v):v=.bool b:=by simpa [az,aN]using a
def fW{β:Nat->Value}{k:IntKind}{n:Int}{v:Value}(a:az I β (.int k n) v):v=.int k n:=by simpa [az,aN]using a
def EY{β:Nat->Value}{s:ByteArray}{v:Value}(a:az I β (.str s) v):v=.string s:=by simpa [az,aN]using a
def br.pick{c a b:Operand}{p:Bool}(h:o.op=.pick c a b)(O:ev c=.bool p):Yields G o ev σ [] [] (bif p then ev a else ev b):=
 .pure λ_ _ I β w F _ _ D=>by
  have u:=D c (by simp[h,Op.operands]);rw[O]at u
  have u:=nD u;refine⟨if p then F a else F b,by simp[execOp,h,u,asBool],?_⟩;cases p
  .exact D b (by simp[h,Op.operands])
  .exact D a (by simp[h,Op.operands])
def awT{c a b:Operand}{p:Bool}(f:o.op=.pick c a b)(e:ev c=.bool p)(d:p=true):Yields G o ev σ [] [] (ev a):=by
 have:=br.pick (G:=G) (σ:=σ) f e;rw[d]at this;exact this
def awU{c a b:Operand}{p:Bool}(f:o.op=.pick c a b)(e:ev c=.bool p)(d:p=false):Yields G o ev σ [] [] (ev b):=by
 have:=br.pick (G:=G) (σ:=σ) f e;rw[d]at this;exact this
def vN(k:IntKind)(n:Int):Prop:=k.wrap n=n
section ints
variable {op:BinOp}{T aM:TypeId}{x y:Operand}{k:IntKind}{m n:Int}
def br.int(h:o.op=.binOp op T x y aM)(O:ev x=.int k m)(Q:ev y=.int k n){r:Value}{bt:U}(F:op≠.shl/\op≠.shr)
  (aa:∀w,(match op with|.add|.sub|.mul=>Op.intArith op k m n|.quo|.rem=>Op.intDiv op k m n|.and|.or|.xor|.andNot=>Op.intBits op k m n|_=>Op.intCmp op m n:Sem Value).run G.P w=.ok r w)
  (X:∀I β,az I β bt r):Yields G o ev σ [] [] bt:=
 .pure λ_ _ I β w af _ _ hop=>by
  have D:=hop x (by simp[h,Op.operands]);rw[O]at D;have D:=fW D
  have u:=hop y (by simp[h,Op.operands]);rw[Q]at u;have u:=fW u
  refine⟨r,?_,X I β⟩;have ab:(eqGuard op T x y (.int k m) (.int k n)).run G.P w=.ok () w:=by
   unfold eqGuard;cases op<;>rfl
  have ae:(binOp op T (.int k m) (.int k n)).run G.P w=.ok r w:=by
   rw[<-aa w];cases op<;>first|exact absurd rfl F.1|exact absurd rfl F.2|simp[binOp]
  simp[execOp,h,D,u,ab,ae]
def br.lss(h:o.op=.binOp .lss T x y aM)(u:ev x=.int k m)(D:ev y=.int k n):Yields G o ev σ [] [] (.bool (decide (m<n))):=
 br.int h u D (by decide) (λw=>rfl) (λ_ _=>by simp[az,aN])
def br.leq(h:o.op=.binOp .leq T x y aM)(u:ev x=.int k m)(D:ev y=.int k n):Yields G o ev σ [] [] (.bool (decide (m<=n))):=
 br.int h u D (by decide) (λw=>rfl) (λ_ _=>by simp[az,aN])
def br.gtr(h:o.op=.binOp .gtr T x y aM)(u:ev x=.int k m)(D:ev y=.int k n):Yields G o ev σ [] [] (.bool (decide (n<m))):=
 br.int h u D (by decide) (λw=>rfl) (λ_ _=>by simp[az,aN])
def br.geq(h:o.op=.binOp .geq T x y aM)(u:ev x=.int k m)(D:ev y=.int k n):Yields G o ev σ [] [] (.bool (decide (n<=m))):=
 br.int h u D (by decide) (λw=>rfl) (λ_ _=>by simp[az,aN])
def br.eql(h:o.op=.binOp .eql T x y aM)(u:ev x=.int k m)(D:ev y=.int k n):Yields G o ev σ [] [] (.bool (decide (m=n))):=
 br.int h u D (by decide) (λw=>rfl) (λ_ _=>by simp only[az,aN,Value.bool.injEq];rw[Bool.eq_iff_iff];simp)
def br.neq(h:o.op=.binOp .neq T x y aM)(u:ev x=.int k m)(D:ev y=.int k n):Yields G o ev σ [] [] (.bool (!decide (m=n))):=
 br.int h u D (by decide) (λw=>rfl) (λ_ _=>by simp only[az,aN,Value.bool.injEq];rw[Bool.eq_iff_iff];simp)
def awt(c:o.op=.binOp .add T x y aM)(a:ev x=.int k m)(b:ev y=.int k n):Yields G o ev σ [] [] (.int k (k.wrap (m+n))):=
 br.int c a b (by decide) (λd=>rfl) (λ_ _=>by simp only[az,aN])
def axc(c:o.op=.binOp .sub T x y aM)(a:ev x=.int k m)(b:ev y=.int k n):Yields G o ev σ [] [] (.int k (k.wrap (m-n))):=
 br.int c a b (by decide) (λd=>rfl) (λ_ _=>by simp only[az,aN])
def aw1(c:o.op=.binOp .mul T x y aM)(a:ev x=.int k m)(b:ev y=.int k n):Yields G o ev σ [] [] (.int k (k.wrap (m*n))):=
 br.int c a b (by decide) (λd=>rfl) (λ_ _=>by simp only[az,aN])
def br.rem(h:o.op=.binOp .rem T x y aM)(u:ev x=.int k m)(D:ev y=.int k n)(F:n≠0):Yields G o ev σ [] [] (.int k (m.tmod n)):=
 br.int h u D (by decide) (λw=>by simp[Op.intDiv,F];rfl) (λ_ _=>by simp only[az,aN])
def fR(op:BinOp)(k:IntKind)(m n:Int):Int:=
 let a:=BitVec.ofInt k.bits m
 let b:=BitVec.ofInt k.bits n
 match op with
 |.and=>k.wrap (a &&& b).toNat
 |.or=>k.wrap (a ||| b).toNat
 |.xor=>k.wrap (a ^^^ b).toNat
 |.andNot=>k.wrap (a &&& ~~~b).toNat
 |_=>0
def br.and(h:o.op=.binOp .and T x y aM)(u:ev x=.int k m)(D:ev y=.int k n):Yields G o ev σ [] [] (.int k (fR .and k m n)):=
 br.int h u D (by decide) (λw=>rfl) (λ_ _=>by simp[az,aN,fR])
def br.or(h:o.op=.binOp .or T x y aM)(u:ev x=.int k m)(D:ev y=.int k n):Yields G o ev σ [] [] (.int k (fR .or k m n)):=
 br.int h u D (by decide) (λw=>rfl) (λ_ _=>by simp[az,aN,fR])
def br.xor(h:o.op=.binOp .xor T x y aM)(u:ev x=.int k m)(D:ev y=.int k n):Yields G o ev σ [] [] (.int k (fR .xor k m n)):=
 br.int h u D (by decide) (λw=>rfl) (λ_ _=>by simp[az,aN,fR])
def br.andNot(h:o.op=.binOp .andNot T x y aM)(u:ev x=.int k m)(D:ev y=.int k n):Yields G o ev σ [] [] (.int k (fR .andNot k m n)):=
 br.int h u D (by decide) (λw=>rfl) (λ_ _=>by simp[az,aN,fR])
def br.shift{aa:IntKind}(hop:op=.shl\/op=.shr)(h:o.op=.binOp op T x y aM)(Q:ev x=.int k m)(X:ev y=.int aa n)(ae:0<=n):
  Yields G o ev σ [] [] (.int k (match op with|.shl=>k.wrap (m*2 ^ min n.toNat k.bits)|_=>m.fdiv (2 ^ min n.toNat k.bits))):=
 .pure λ_ _ I β w ab _ _ F=>by
  have D:=F x (by simp[h,Op.operands]);rw[Q]at D;have D:=fW D
  have u:=F y (by simp[h,Op.operands]);rw[X]at u;have u:=fW u
  have O:¬n<0:=by omega
  rcases hop with rfl|rfl
  .refine⟨_,by simp[execOp,h,D,u,eqGuard,binOp,Op.shift,O];rfl,by simp[az,aN]⟩
  .refine⟨_,by simp[execOp,h,D,u,eqGuard,binOp,Op.shift,O];rfl,by simp[az,aN]⟩
end ints
def br.not{T:TypeId}{x:Operand}{b:Bool}(h:o.op=.unOp .not T x)(D:ev x=.bool b):Yields G o ev σ [] [] (.bool (!b)):=
 .pure λ_ _ I β w F _ _ hop=>by
  have u:=hop x (by simp[h,Op.operands]);rw[D]at u;have u:=nD u
  exact⟨.bool (!b),by simp[execOp,h,u,Op.unary],by simp[az,aN]⟩
def br.convert{T aM:TypeId}{x:Operand}{k u:IntKind}{n:Int}(h:o.op=.convert T aM x)(F:ev x=.int k n)(O:∃d,G.P.underlying T=some d)(Q:G.P.underlying aM=some (.int u)):Yields G o ev σ [] [] (.int u (u.wrap n)):=
 .pure λ_ _ I β w ab _ _ hop=>by
  have D:=hop x (by simp[h,Op.operands]);rw[F]at D;have D:=fW D
  obtain⟨d,Z⟩:=O;have X:∀w,(underlying T).run G.P w=.ok d w:=λw=>by simp[underlying,program,Sem.run,Z]
  have aa:∀w,(underlying aM).run G.P w=.ok (.int u) w:=λw=>by simp[underlying,program,Sem.run,Q]
  refine⟨.int u (u.wrap n),?_,by simp[az,aN]⟩;simp only[execOp,h,D];unfold Go.convert;simp only[Sem.run_bind,X,aa,Result.andThen_ok];cases d<;>rfl
variable {P:Program}
def Hk(op:BinOp)(t:TypeId)(x y:Operand)(a b:Bool)(w:World):(eqGuard op t x y (.bool a) (.bool b)).run P w=.ok () w:=by
 unfold eqGuard;cases op<;>rfl
def RL(T:TypeId)(a b:Bool)(w:World)(c:P.underlying T=some .bool):(binOp .eql T (.bool a) (.bool b)).run P w=.ok (.bool (a==b)) w:=by
 show(do pure (.bool (<-Op.equal T (.bool a) (.bool b))):Sem Value).run P w=_;rw[Sem.run_bind,run_equal_bool w T a b c];rfl
def RM(T:TypeId)(a b:Bool)(w:World)(c:P.underlying T=some .bool):(binOp .neq T (.bool a) (.bool b)).run P w=.ok (.bool (!(a==b))) w:=by
 show(do pure (.bool (!(<-Op.equal T (.bool a) (.bool b)))):Sem Value).run P w=_;rw[Sem.run_bind,run_equal_bool w T a b c];rfl
def awW{T aM:TypeId}{x y:Operand}{a:Bool}(e:o.op=.binOp .eql T x y aM)(g:ev x=.bool a)(h:ev y=.bool b)(i:G.P.underlying T=some .bool):Yields G o ev σ [] [] (.bool (a==b)):=
 .pure λ_ _ I l j k _ _ f=>by
  have d:=f x (by simp[e,Op.operands]);rw[g]at d;have d:=nD d
  have c:=f y (by simp[e,Op.operands]);rw[h]at c;have c:=nD c
  exact⟨.bool (a==b),by simp only[execOp,e,d,c,Sem.run_bind,Hk,RL T a b j i,Result.andThen_ok,Sem.run_pure],by simp[az,aN]⟩
def aw7{T aM:TypeId}{x y:Operand}{a:Bool}(e:o.op=.binOp .neq T x y aM)(g:ev x=.bool a)(h:ev y=.bool b)(i:G.P.underlying T=some .bool):Yields G o ev σ [] [] (.bool (!(a==b))):=
 .pure λ_ _ I l j k _ _ f=>by
  have d:=f x (by simp[e,Op.operands]);rw[g]at d;have d:=nD d
  have c:=f y (by simp[e,Op.operands]);rw[h]at c;have c:=nD c
  exact⟨.bool (!(a==b)),by simp only[execOp,e,d,c,Sem.run_bind,Hk,RM T a b j i,Result.andThen_ok,Sem.run_pure],by simp[az,aN]⟩
mutual
def valOf:U->Value
 |.int k n=>.int k n
 |.bool b=>.bool b
 |.str s=>.string s
 |.agg cs=>.agg (tX cs).toArray
 |_=>undef
def tX:List U->c4
 |[]=>[]
 |x::r=>valOf x::tX r
end
mutual
def U.plain:U->Bool
 |.int _ _=>true
 |.bool _=>true
 |.str _=>true
 |.agg cs=>uE cs
 |_=>false
def uE:List U->Bool
 |[]=>true
 |x::r=>x.plain&&uE r
end
mutual
def oR{I:a2}{β:Nat->Value}:∀(a:U) (v:Value),a.plain=true->az I β a v->v=valOf a
 |.int k n,v,_,d=>fW d
 |.bool b,v,_,d=>nD d
 |.str s,v,_,d=>EY d
 |.agg cs,v,c,d=>by
  simp only[az]at d;obtain⟨e,rfl,d⟩:=d;simp only[valOf,<-Cr cs e.toList (by simpa [U.plain]using c) d]
 |.dg,_,c,_|.undef,_,c,_|.aL _ _,_,c,_|.dF _,_,c,_|.bO _,_,c,_|.fn _ _,_,c,_|.bC,_,c,_|.ia,_,c,_|.own _,_,c,_|.ptr _ _,_,c,_|.cc _,_,c,_|.cW _ _,_,c,_|.gq,_,c,_|.dr _ _,_,c,_=>by simp[U.plain]at c
def Cr{I:a2}{β:Nat->Value}:∀(a:List U) (v:c4),uE a=true->bx I β a v->v=tX a
 |[],v,_,h=>h
 |x::r,v,b,h=>by
  simp only[bx]at h;simp only[uE,Bool.and_eq_true]at b;obtain⟨e,d,rfl,f,c⟩:=h;simp only[tX,<-oR x e b.1 f,<-Cr r d b.2 c]
end
variable {r:Bool}
def aw9{T aM:TypeId}{x y:Operand}{a b:U}(e:o.op=.binOp .eql T x y aM)(g:ev x=a)(h:ev y=b)(i:a.plain=true)(k:b.plain=true)(j:∀w,(do eqGuard .eql T x y (valOf a) (valOf b);binOp .eql T (valOf a) (valOf b):Sem Value).run G.P w=.ok (.bool r) w):
  Yields G o ev σ [] [] (.bool r):=
 .pure λ_ _ I m w l _ _ f=>by
  have d:=f x (by simp[e,Op.operands]);rw[g]at d;have d:=oR a _ i d
  have c:=f y (by simp[e,Op.operands]);rw[h]at c;have c:=oR b _ k c
  refine⟨.bool r,?_,by simp[az,aN]⟩;have:=j w;simp only[execOp,e,d,c];rw[Sem.run_bind,this];rfl
def axb{T aM:TypeId}{x y:Operand}{a b:U}(e:o.op=.binOp .neq T x y aM)(g:ev x=a)(h:ev y=b)(i:a.plain=true)(k:b.plain=true)(j:∀w,(do eqGuard .neq T x y (valOf a) (valOf b);binOp .neq T (valOf a) (valOf b):Sem Value).run G.P w=.ok (.bool r) w):
  Yields G o ev σ [] [] (.bool r):=
 .pure λ_ _ I m w l _ _ f=>by
  have d:=f x (by simp[e,Op.operands]);rw[g]at d;have d:=oR a _ i d
  have c:=f y (by simp[e,Op.operands]);rw[h]at c;have c:=oR b _ k c
  refine⟨.bool r,?_,by simp[az,aN]⟩;have:=j w;simp only[execOp,e,d,c];rw[Sem.run_bind,this];rfl
structure rO(P:Program)(T:TypeId)(f off:Nat):Prop where
 run:∀(a:Addr) w,(Instr.fieldAt T (.pointer (some a)) f).run P w=.ok (.pointer (some (a.add off))) w
def Cn{I:a2}{b:Nat}:∀(k:Nat) (cs:List U) (o:Nat),gy I b cs o->gy I b (cs.drop k) (o+k)
 |0,cs,o,h=>by simpa using h
 |k+1,[],o,h=>by simp[gy]
 |k+1,x::r,o,h=>by
  simp only[gy]at h;have:=Cn k r (o+1) h.2;simpa [show o+1+k=o+(k+1)from by omega]using this
def awI{T:TypeId}{x:Operand}{f off d p:Nat}(c:o.op=.fieldAddr T x f)(e:ev x=.ptr d p)(h:rO G.P T f off):Yields G o ev σ [] [] (.ptr d (p+off)):=
 .pure λ_ _ I l k j _ _ i=>by
  have a:=i x (by simp[c,Op.operands]);rw[e]at a
  simp only[az]at a;obtain⟨b,a,g⟩:=a;refine⟨.pointer (some ⟨b,p+off,none⟩),?_,by simp only[az];exact⟨b,a,rfl⟩⟩;simp[execOp,c,g,h.run,g2]
def awJ{T:TypeId}{x:Operand}{f off:Nat}{cs:List U}(d:o.op=.fieldAddr T x f)(e:ev x=.dF cs)(h:rO G.P T f off):Yields G o ev σ [] [] (.dF (cs.drop off)):=
 .pure λ_ _ I l k j _ _ i=>by
  have a:=i x (by simp[d,Op.operands]);rw[e]at a
  simp only[az,aN]at a;obtain⟨b,c,a,g⟩:=a;refine⟨.pointer (some ⟨b,c+off,none⟩),?_,by simp only[az,aN];exact⟨b,c+off,rfl,Cn off cs c g⟩⟩;simp[execOp,d,a,h.run,g2]
def BD{I:a2}{b:Nat}{w:World}(d:∀b (o:Nat) v,I b o=some v->w.cell? ⟨b,o,none⟩=some v):∀(cs:List U) (o:Nat),gy I b cs o->
  ∃vs:c4,bX I cs vs/\∀j v,vs[j]?=some v->w.cell? ⟨b,o+j,none⟩=some v
 |[],o,_=>⟨[],rfl,λj v a=>by simp at a⟩
 |x::r,o,a=>by
  simp only[gy]at a;obtain⟨⟨e,k,f⟩,i⟩:=a;obtain⟨vs,g,h⟩:=BD d r (o+1) i;refine⟨e::vs,⟨e,vs,rfl,f,g⟩,λj v c=>?_⟩;cases j with
  |zero=>simp at c;subst c;exact d _ _ _ k
  |succ j=>
   have:=h j v (by simpa using c)
   rwa [show o+(j+1)=o+1+j from by omega]
mutual
def aN.rep{I:a2}(β:Nat->Value):∀(a:U) (v:Value),aN I a v->az I β a v
 |.dg,_,_=>by simp[az]
 |.undef,_,h=>by simpa only[az]using h
 |.int _ _,_,h=>by simpa only[az]using h
 |.bool _,_,h=>by simpa only[az]using h
 |.str _,_,h=>by simpa only[az]using h
 |.aL _ _,_,h=>by simpa only[az]using h
 |.dF _,_,h=>by simpa only[az]using h
 |.bC,_,h=>by simpa only[az]using h
 |.ia,_,h=>by simpa only[az]using h
 |.cW _ _,_,h=>by simpa only[az]using h
 |.gq,_,h=>by simpa only[az]using h
 |.b8 _,_,h=>by simpa only[az]using h
 |.arr _,_,h=>by simpa only[az]using h
 |.agg cs,v,h=>by
  simp only[aN,az]at h ⊢;obtain⟨vs,D,u⟩:=h;exact⟨vs,D,bX.rep β cs _ u⟩
 |.bO cs,v,h=>by
  simp only[aN,az]at h ⊢;obtain⟨vs,D,u⟩:=h;exact⟨vs,D,bX.rep β cs _ u⟩
 |.fn f cs,v,h=>by
  simp only[aN,az]at h ⊢;obtain⟨vs,D,u⟩:=h;exact⟨vs,D,bX.rep β cs _ u⟩
 |.own _,_,h=>by simp[aN]at h
 |.ptr _ _,_,h=>by simp[aN]at h
 |.dr _ _,_,h=>by simp[aN]at h
 |.cc _,_,h=>by simp[aN]at h
def bX.rep{I:a2}(β:Nat->Value):∀(a:List U) (v:c4),bX I a v->bx I β a v
 |[],_,h=>h
 |x::r,v,h=>by
  simp only[bX,bx]at h ⊢;obtain⟨au,u,O,D,F⟩:=h;exact⟨au,u,O,aN.rep β x au D,bX.rep β r u F⟩
end
variable {b9:Bool}
def avQ{T aM:TypeId}{x:Operand}{n d p:Nat}{cs:List U}(c:o.op=.load T x)(e:ev x=.ptr d p)(m:σ.get d=some (.cells aM cs))(q:dN G.P T n b9)(s:(b9||Nat.blt 0 n)=true)(r:Nat.ble (p+n) cs.length=true):
  Yields G o ev σ [] [d] (ht b9 n (cs.drop p)):=
 .pure λy B I D C w j h u=>by
  have a:=u x (by simp[c,Op.operands]);rw[e]at a
  simp only[az]at a;obtain⟨b,a,f⟩:=a;obtain⟨A,z,i,g,_⟩:=h.box (by rw[j d (by simp)];exact m) a;obtain⟨v,l,k⟩:=wS q (λt=>by subst t;simpa using s) (off:=p) i g (by simpa using r);exact⟨v,by simp[execOp,c,f,Instr.loadAt,Instr.sureAddr,l],k⟩
def axd{T:TypeId}{x:Operand}{n:Nat}{cs:List U}(j:o.op=.load T x)(m:ev x=.dF cs)(u:dN G.P T n b9)(v:(b9||Nat.blt 0 n)=true)(i:Nat.ble n cs.length=true):
  Yields G o ev σ [] [] (ht b9 n cs):=
 .pure λD J I z y C E s w=>by
  have d:=w x (by simp[j,Op.operands]);rw[m]at d
  simp only[az,aN]at d;obtain⟨b,k,d,p⟩:=d;obtain⟨f,g,q⟩:=BD s.good cs k p;have F:=i6 _ _ g;have i:n<=cs.length:=by simpa using i
  have t:∀a,a<n->∃l,f[a]?=some l/\y.cell? ⟨b,k+a,none⟩=some l:=λa B=>by
   have h:a<f.length:=by omega
   exact⟨f[a],List.getElem?_eq_getElem h,q a _ (List.getElem?_eq_getElem h)⟩
  refine⟨_,by simp only[execOp,j,d,Instr.loadAt,Instr.sureAddr,Sem.run_bind,Sem.run_pure,Result.andThen_ok,m9 u t (λe=>by subst e;simpa using v)];rfl,?_⟩;have c:=bX.rep z _ _ g;cases b9 with
  |true=>
   simp only[ht,cond_true,if_true,az];exact⟨_,rfl,by simpa using qx n _ _ c⟩
  |false=>
   simp only[ht,cond_false,Bool.false_eq_true,if_false];cases cs with
   |nil=>simp[az]
   |cons x r=>
    simp only[bx]at c;obtain⟨H,A,e,c,_⟩:=c;rw[e];exact c
structure g8(P:Program)(T E n:Nat):Prop where
 ee:P.underlying T=some (.slice E)
 size:∀w,(sizeOf E).run P w=.ok n w
def Cs{I:a2}{b sz:Nat}:∀(xs:List (List U)) (o i:Nat),(∀e∈xs,e.length=sz)->gw I b xs o->i<xs.length->gy I b (xs.getD i []) (o+i*sz)
 |[],_,_,_,_,h=>by simp at h
 |e::r,o,0,_,h,_=>by simp only[gw]at h;simpa using h.1
 |e::r,o,i+1,a,h,g=>by
  simp only[gw]at h;have f:=a e (by simp);have:=Cs r (o+e.length) i (λx c=>a x (by simp[c])) h.2 (by simpa using g);rw[f]at this;have d:o+sz+i*sz=o+(i+1)*sz:=by rw[Nat.add_mul,Nat.one_mul];omega
  rw[d]at this;simpa using this
variable {α:Type}
def aw3{T E:Nat}{x:Operand}{f:Bool}{rs:List α}{enc:α->List U}{k}(c:o.op=.call ⟨.builtin .len,#[x],k⟩)(h:k=#[T])(d:ev x=.aL f (rs.map enc))(e:G.P.underlying T=some (.slice E)):Yields G o ev σ [] [] (.int .i64 (rs.length:Int)):=
 .pure λm r I s b j n l i=>by
  subst h;have a:=i x (by simp[c,Op.operands,Call.operands]);rw[d]at a
  simp only[az,aN,List.length_map]at a;obtain⟨p,q,a,_⟩:=a;have g:∀b,(underlying T).run G.P b=.ok (.slice E) b:=λb=>by simp[underlying,program,Sem.run,e]
  exact⟨.int .i64 rs.length,by simp[execOp,c,resolve,invoke,builtin,Builtin.len_,a,g,goInt],by simp[az,aN]⟩
def aw5{T E:Nat}{x:Operand}{k}(c:o.op=.call ⟨.builtin .len,#[x],k⟩)(g:k=#[T])(d:ev x=.bC)(e:G.P.underlying T=some (.slice E)):Yields G o ev σ [] [] (.int .i64 0):=
 .pure λl n I p a i m j h=>by
  subst g;have b:=h x (by simp[c,Op.operands,Call.operands]);rw[d]at b
  simp only[az,aN]at b;have f:∀a,(underlying T).run G.P a=.ok (.slice E) a:=λa=>by simp[underlying,program,Sem.run,e]
  exact⟨.int .i64 0,by simp[execOp,c,resolve,invoke,builtin,Builtin.len_,b,f,goInt],by simp[az,aN]⟩
def aw6{T:Nat}{x:Operand}{s:ByteArray}{k}(c:o.op=.call ⟨.builtin .len,#[x],k⟩)(g:k=#[T])(d:ev x=.str s)(e:G.P.underlying T=some .string):Yields G o ev σ [] [] (.int .i64 (s.size:Int)):=
 .pure λl n I p b i m j h=>by
  subst g;have a:=h x (by simp[c,Op.operands,Call.operands]);rw[d]at a;have a:=EY a
  have f:∀b,(underlying T).run G.P b=.ok .string b:=λb=>by simp[underlying,program,Sem.run,e]
  exact⟨.int .i64 s.size,by simp[execOp,c,resolve,invoke,builtin,Builtin.len_,a,f,goInt],by simp[az,aN]⟩
variable {bK:Bool}
theorem Ct{G:bQ}{cx:c2}{β:Nat->Value}{σ:W}{w:World}(h:bG G cx I β σ w){d:Nat}{T sz k:Nat}{xs:List (List U)}(i:σ.get d=some (.slice T sz xs k bK)){v:Value}(f:az I β (.own d) v):
  ∃a c,v=.slice a xs.length c/\xs.length<=c/\c<=maxLen:=by
 simp only[az]at f;obtain⟨rfl,g⟩:=f;have:=h.b5 d _ i;simp only[bb]at this;rcases this with e|⟨e,rfl,_⟩|⟨b,aR,m,e,j,l,_⟩
 .rw[e]at g;simp[fA]at g
 .grind
 .grind
def aws{T E:Nat}{x:Operand}{d aM sz n:Nat}{rs:List α}{enc:α->List U}{k}(c:o.op=.call ⟨.builtin .len,#[x],k⟩)(l:k=#[T])(e:ev x=.own d)(h:σ.get d=some (.slice aM sz (rs.map enc) n bK))(i:G.P.underlying T=some (.slice E)):Yields G o ev σ [] [d] (.int .i64 (rs.length:Int)):=
 .pure λq t I u b p g f m=>by
  subst l;have a:=m x (by simp[c,Op.operands,Call.operands]);rw[e]at a
  obtain⟨r,s,a,_⟩:=Ct f (by rw[g d (by simp)];exact h) a;have j:∀b,(underlying T).run G.P b=.ok (.slice E) b:=λb=>by simp[underlying,program,Sem.run,i]
  exact⟨.int .i64 rs.length,by simp[execOp,c,resolve,invoke,builtin,Builtin.len_,a,j,goInt],by simp[az,aN]⟩
def xY{I:a2}{β:Nat->Value}:∀{xs:List U} {vs:c4} {j:Nat} {a:U},bx I β xs vs->xs[j]?=some a->∃v,vs[j]?=some v/\az I β a v
 |[],_,_,_,_,h=>by simp at h
 |x::r,vs,0,a,h,b=>by
  simp only[bx]at h;obtain⟨c,e,rfl,i,_⟩:=h;simp at b;subst b
  exact⟨c,by simp,i⟩
 |x::r,vs,j+1,a,h,b=>by
  simp only[bx]at h;obtain⟨c,e,rfl,_,d⟩:=h;obtain⟨v,g,f⟩:=xY d (by simpa using b);exact⟨v,by simpa using g,f⟩
def br.extract{x:Operand}{j:Nat}{vs:List U}{a:U}(h:o.op=.extract x j)(F:ev x=.bO vs)(aa:vs[j]?=some a):Yields G o ev σ [] [] a:=
 .pure λaf cx I β w ab ag ae hop=>by
  have u:=hop x (by simp[h,Op.operands]);rw[F]at u
  simp only[az]at u;obtain⟨Q,u,O⟩:=u;obtain⟨v,D,X⟩:=xY O aa;have D:Q[j]?=some v:=by simpa using D
  exact⟨v,by simp[execOp,h,u,Instr.extract,D],X⟩
def awx{x:Operand}{d p:Nat}(c:o.op=.nilCheck x)(e:ev x=.ptr d p):Yields G o ev σ [] [] (.ptr d p):=
 .pure λj l I n m g k i h=>by
  have a:=h x (by simp[c,Op.operands]);rw[e]at a
  have f:=a;simp only[az]at a;obtain⟨b,_,a⟩:=a;exact⟨g x,by simp[execOp,c,a],f⟩
def awy{x:Operand}{cs:List U}(c:o.op=.nilCheck x)(d:ev x=.dF cs):Yields G o ev σ [] [] (.dF cs):=
 .pure λi k I n m f j h g=>by
  have a:=g x (by simp[c,Op.operands]);rw[d]at a
  have e:=a;simp only[az,aN]at a;obtain⟨b,l,a,_⟩:=a;exact⟨f x,by simp[execOp,c,a],e⟩
end ops
end
section
structure dW(w w':World)(b:Nat):Prop where
 block:∀k,k≠b->k<w.heap.size->w'.heap[k]?=w.heap[k]?
 size:w.heap.size<=w'.heap.size
 tape:w'.tape=w.tape
 os:w'.os=w.os
 output:w'.output=w.output
 drawn:w.drawn<=w'.drawn
def bb.keep{cx:c2}{I D:a2}{β β':Nat->Value}{w w':World}{x:Nat}{o:b1}{b:Nat}(h:bb cx I β w x o)(aa:dW w w' b)(F:β' x=β x)(X:b∉b3 (β x))(bA:bM I D)(Q:∀u,u≠b->∀o,D u o=I u o)(O:en β β'):
  bb cx D β' w' x o:=
 h.rZ bA F O λu e=>have n:u≠b:=λq=>X (q▸e);⟨aa.block u n,Q u n,id⟩
def gp.at{cx:c2}{I:a2}{w:World}{x:dS}{v:Value}(h:gp cx I w x v){b:Nat}(u:bE v=some b):b<w.heap.size/\Place cx b:=by
 cases x with
 |sl T sz xs=>
  rcases h with⟨h,_⟩|⟨aa,aR,arr,D,_,_,O,_,_,_,_,X⟩
  .rw[h]at u;simp[bE]at u
  .rw[D]at u;simp[bE]at u;subst u;exact⟨fo O,X⟩
 |mp K E ab=>
  obtain⟨r,es,clock,D,F,_,_,Q,_⟩:=h;rw[D]at u;simp[bE]at u;subst u;exact⟨fo F,Q⟩
def eH.at{cx:c2}{I:a2}{w:World}:∀{O:List dS} {vs:c4},eH cx I w O vs->∀{b:Nat},b∈vs.filterMap bE->b<w.heap.size/\Place cx b
 |[],_,h,b,u=>by rw[show _=[]from h]at u;cases u
 |x::r,_,h,b,u=>by
  obtain⟨au,X,rfl,Q,_,F⟩:=h;obtain⟨v,D,e⟩:=List.mem_filterMap.1 u;rcases List.mem_cons.1 D with rfl|D
  .exact Q.at e
  .exact F.at (List.mem_filterMap.2 ⟨v,D,e⟩)
section turn
variable {G:bQ}{cx:c2}{I:a2}{β:Nat->Value}{σ:W}{w:World}
theorem bG.turn(h:bG G cx I β σ w){σ2:W}{X:a2}{β':Nat->Value}{w':World}{b d:Nat}(Q:dW w w' b)(ao:Place cx b)(ai:∀x,x≠d->σ2.get x=σ.get x)
  (aA:∀x,x≠d->(σ.get x).isSome->b∉b3 (β x)) (bA:bM I X) (ag:∀u,u≠b->∀o,X u o=I u o) (aE:∀(o:Nat) v,X b o=some v->w'.cell? ⟨b,o,none⟩=some v)
  (aD:X b none=none) (ab:∀x,x≠d->β' x=β x) (aB:d∉G.ids\/β' d=β d) (ax:en β β') (ar:bE (β' d)=some b\/b3 (β' d)=[]) (aC:∀o,σ2.get d=some o->bb cx X β' w' d o):bG G cx X β' σ2 w' where
 good:=λu o v aa=>by
  by_cases O:u=b
  .grind
  .rw[ag u O]at aa;have af:=h.good u o v aa;have az:u<w.heap.size:=by
    have:=World.block_lt_of_cell? w _ af;exact this
   rw[World.cell?_of_block (w:=w) (Q.block u O az)];exact af
 eD:=λu v aa=>by
  by_cases O:u=b
  .grind
  .rw[ag u O]at aa;obtain⟨es,clock,af,aw⟩:=h.eD u v aa;exact⟨es,clock,by rw[Q.block u O (fo af)];exact af,aw⟩
 fK:=h.fK.trans bA
 fB:=λu O ae o=>by
  have:u≠b:=λe=>by
   subst e;rcases ao with q|q
   .omega
   .exact ae q
  rw[ag u this];exact h.fB u O ae o
 frame:=λu O ae=>by
  have:u≠b:=λe=>by
   subst e;rcases ao with q|q
   .omega
   .exact ae q
  rw[Q.block u this (by have:=h.size;omega)];exact h.frame u O ae
 size:=Nat.le_trans h.size Q.size
 tape:=Q.tape.trans h.tape
 os:=Q.os.trans h.os
 output:=Q.output.trans h.output
 drawn:=Nat.le_trans h.drawn Q.drawn
 b5:=λx o F=>by
  by_cases D:x=d
  .grind
  .rw[ai x D]at F;exact(h.b5 x o F).keep Q (ab x D) (aA x D (by rw[F];rfl)) bA ag ax
 cA:=λx y F ak am u=>by
  by_cases D:x=d
  .subst D;rw[ai y (Ne.symm am)]at ak;rw[ab y (Ne.symm am)];intro e aq;rcases ar with q|q
   .have:=tH q e
    grind
   .grind
  .rw[ai x D]at F;rw[ab x D];by_cases an:y=d
   .subst an;intro e aq;rcases ar with q|q
    .have:=tH q aq
     grind
    .grind
   .rw[ai y an]at ak;rw[ab y an];exact h.cA x y F ak am u
 keep:=λx F=>by
  by_cases D:x=d
  .subst D;rcases aB with q|q
   .grind
   .rw[q];exact h.keep x F
  .rw[ab x D];exact h.keep x F
theorem bG.tY(h:bG G cx I β σ w){x:Nat}{o:b1}(aq:σ.get x=some o){b:Nat}(aa:b∈b3 (β x)):b<w.heap.size/\Place cx b:=by
 have D:=h.b5 x o aq;by_cases ak:∃ae,o=.bp ae
 .obtain⟨ae,rfl⟩:=ak;simp only[bb]at D;rcases D with q|⟨Y,F,O⟩
  .rw[q]at aa;cases aa
  .rw[F]at aa;exact O.at aa
 have u:bE (β x)=some b:=by
  cases an:β x with
  |tuple vs=>
   exfalso;cases o<;>simp only[bb,an]at D<;>first|exact ak ⟨_,rfl⟩|(simp at D)
  |_=>rw[an]at aa;simpa [b3]using aa
 clear aa;cases o with
 |bp ae=>exact absurd ⟨ae,rfl⟩ ak
 |eR T xs t=>
  simp only[bb]at D;rcases D with q|⟨ab,aR,arr,F,_,_,X,_,_,_,_,_,_,ag⟩
  .rw[q]at u;simp[bE]at u
  .rw[F]at u;simp[bE]at u;subst u;exact⟨fo X,ag⟩
 |vec T xs=>
  simp only[bb]at D;rcases D with q|⟨ab,arr,F,O,_,_,Q⟩
  .rw[q]at u;simp[bE]at u
  .rw[F]at u;simp[bE]at u;subst u;exact⟨fo O,Q⟩
 |gD es clock am seen=>
  simp only[bb]at D;rcases D with q|⟨r,aw,F,O,_,_,_,_,ai⟩
  .rw[q]at u;simp[bE]at u
  .rw[F]at u;simp[bE]at u;subst u;exact⟨fo O,ai⟩
 |cF T e n ao=>
  simp only[bb]at D;rcases D with q|⟨ab,aR,arr,Y,F,_,_,X,_,_,_,_,_,af⟩
  .rw[q]at u;simp[bE]at u
  .rw[F]at u;simp[bE]at u;subst u;exact⟨fo X,af⟩
 |fk T sz xs aC e ao=>
  simp only[bb]at D;rcases D with q|⟨ab,aR,arr,Y,vs,F,_,_,X,_,_,_,_,_,af⟩
  .rw[q]at u;simp[bE]at u
  .rw[F]at u;simp[bE]at u;subst u;exact⟨fo X,af⟩
 |dB K E e keys ao aA=>
  simp only[bb]at D;rcases D with q|⟨r,es,clock,Y,az,F,O,_,_,_,_,ai,_⟩
  .rw[q]at u;simp[bE]at u
  .rw[F]at u;simp[bE]at u;subst u;exact⟨fo O,ai⟩
 |cells T cs=>
  simp only[bb]at D;rcases D with q|⟨ab,arr,F,O,_,_,Q⟩
  .rw[q]at u;simp[bE]at u
  .rw[F]at u;simp[bE]at u;subst u;exact⟨fo O,Q⟩
 |slice T sz xs k bK=>
  simp only[bb]at D;rcases D with q|⟨q,_⟩|⟨ab,aR,arr,F,_,_,X,_,_,_,_,_,_,ag⟩
  .rw[q]at u;simp[bE]at u
  .rw[q]at u;simp[bE]at u
  .rw[F]at u;simp[bE]at u;subst u;exact⟨fo X,ag⟩
 |map K E am=>
  simp only[bb]at D;rcases D with q|⟨r,es,clock,F,O,_,_,Q,_⟩
  .rw[q]at u;simp[bE]at u
  .rw[F]at u;simp[bE]at u;subst u;exact⟨fo O,Q⟩
 |gM K E am=>
  simp only[bb]at D;rcases D with q|⟨r,es,clock,F,O,_,Q,_⟩
  .rw[q]at u;simp[bE]at u
  .rw[F]at u;simp[bE]at u;subst u
   obtain⟨_,_,aE,_⟩:=h.eD _ _ O
   grind
 |er es clock K E am=>
  simp only[bb]at D;rcases D with q|⟨r,F,O,_,_,Q,_⟩
  .rw[q]at u;simp[bE]at u
  .rw[F]at u;simp[bE]at u;subst u;exact⟨fo O,Q⟩
 |iter ax aD aB seen=>
  simp only[bb]at D;rcases D with q|⟨r,aw,F,_,ar,_,Q⟩
  .rw[q]at u;simp[bE]at u
  .rw[F]at u;simp[bE]at u;subst u;exact⟨fo ar,Q⟩
 |hdr ax n=>
  simp only[bb]at D;rw[D.1]at u;simp[bE]at u
def bG.k3(h:bG G cx I β σ w){x:Nat}{o:b1}(u:σ.get x=some o){b:Nat}(D:b∈b3 (β x)):b<w.heap.size:=(h.tY u D).1
def bG.fJ(h:bG G cx I β σ w){b:Nat}(F:w.heap.size<=b)(o:fV):I b o=none:=by
 cases u:I b o with
 |none=>rfl
 |some v=>
  cases o with
  |none=>
   obtain⟨es,clock,D,_⟩:=h.eD b v u;have:=fo D;omega
  |some o=>
   have:=World.block_lt_of_cell? w _ (h.good b o v u);simp at this;omega
def bG.Jd(h:bG G cx I β σ w){b:Nat}{o:Obj}(D:w.heap[b]?=some o)(O:∀es c,o≠.map es c):I b none=none:=by
 cases F:I b none with
 |none=>rfl
 |some v=>
  obtain⟨es,clock,u,_⟩:=h.eD b v F;rw[D]at u;cases u
  exact absurd rfl (O es clock)
def bG.kW(h:bG G cx I β σ w){b:Nat}{arr:eN}{T:TypeId}{bK:Nat×Nat}(u:w.heap[b]?=some (.cells arr T bK)):I b none=none:=h.Jd u λ_ _=>by simp
def dW.alloc(w:World)(o:Obj):dW w (w.alloc o) w.heap.size:=
 ⟨λk _ u=>heap_alloc_old w o k u,by simp,rfl,rfl,rfl,Nat.le_refl _⟩
def dW.setRow(w:World)(g:Nat)(cs:eN):dW w (w.setRow g cs) g:=
 ⟨λk u _=>setRow_other w g k cs u,by simp,rfl,rfl,rfl,Nat.le_refl _⟩
def dW.drew{w w':World}{b:Nat}(h:dW w.drew w' b):dW w w' b:=⟨h.block,h.size,h.tape,h.os,h.output,Nat.le_trans (Nat.le_succ _) h.drawn⟩
def et(β:Nat->Value)(d:Nat)(v:Value):Nat->Value:=λa=>if a=d then v else β a
def eB(β:Nat->Value)(d:Nat)(v:Value):et β d v d=v:=by simp[et]
def ff(β:Nat->Value){d x:Nat}(v:Value)(a:x≠d):et β d v x=β x:=by simp[et,a]
theorem avi{β:Nat->Value}{d:Nat}{v:Value}(c:β d=.nilFunc):en β (et β d v):=λb=>by
 by_cases a:b=d
 .grind
 .exact .inr (ff β v a)
def bG.real(h:bG G cx I β σ w){d:Nat}(Z:d∉G.ids)(X:β d=.nilFunc){o:Obj}{v:Value}(O:bE v=some w.heap.size)(Q:∀u,σ.get d=some u->bb cx I (et β d v) (w.alloc o) d u):
  bG G cx I (et β d v) σ (w.alloc o):=
 h.turn (dW.alloc w o) (.inl h.size) (λ_ _=>rfl) (λx D Y e=>by
   obtain⟨u,Y⟩:=Option.isSome_iff_exists.1 Y;exact absurd (h.k3 Y e) (by omega)) (bM.refl I) (λ_ _ _=>rfl) (λab aa F=>by rw[h.fJ (Nat.le_refl _)]at F;cases F) (h.fJ (Nat.le_refl _) none)
  (λx D=>ff β v D) (.inl Z) (avi X) (.inl (by rw[eB];exact O)) Q
theorem bG.lay(h:bG G cx I β σ w)(vs:eN)(E:TypeId):∃O,bM I O/\(∀(o:Nat) v,vs[o]?=some v->O w.heap.size o=some v)/\bG G cx O β σ (w.alloc (.cells vs E)):=by
  let O:a2:=I.on λb o=>if b=w.heap.size then vs[o]? else I b o
  have bA:bM I O:=λb o v D=>by
    cases o with
    |none=>exact D
    |some o=>
    show(if b=w.heap.size then vs[o]? else I b o)=some v;split
    · rename_i e;subst e;rw[h.fJ (Nat.le_refl _)]at D;cases D
    · exact D
  refine⟨O,bA,λo v D=>by show(if _ then _ else _)=_;rw[if_pos rfl];exact D,?_⟩;have ag:∃d,σ.get d=none:=by
    have:∀(l:W),∃n,∀m,n<=m->l.get m=none:=by
      intro l;induction l with
      |nil=>exact⟨0,λ_ _=>rfl⟩
      |cons x r ae=>
        obtain⟨n,F⟩:=ae;obtain⟨k,v⟩:=x;exact⟨max n (k+1),λm ai=>by rw[auU,if_neg (by omega)];exact F m (by omega)⟩
    obtain⟨n,F⟩:=this σ;exact⟨n,F n (Nat.le_refl n)⟩
  obtain⟨d,Z⟩:=ag
  refine{good:=λu o v D=>?_,eD:=λu v D=>?_,fK:=h.fK.trans bA,fB:=λu Q F o=>?_,frame:=λu Q F=>?_,size:=Nat.le_trans h.size (by simp),tape:=h.tape,os:=h.os,output:=h.output,drawn:=h.drawn,
         b5:=λx o aa=>?_,cA:=h.cA,keep:=h.keep}
  · change (if u=w.heap.size then vs[o]? else I u o)=some v at D
    split at D
    · simp_all
    · have X:=h.good u o v D
      have af:=World.block_lt_of_cell? w _ X;rw[World.cell?_alloc_lt w _ _ af];exact X
  · obtain⟨es,clock,X,ab⟩:=h.eD u v D
    exact⟨es,clock,by rw[heap_alloc_old w _ u (fo X)];exact X,ab⟩
  · have:u≠w.heap.size:=by have:=h.size;omega
    cases o with
    |none=>exact h.fB u Q F none
    |some o=>
    show(if u=w.heap.size then vs[o]? else I u o)=_;rw[if_neg this];exact h.fB u Q F o
  · rw[heap_alloc_old w _ u (by have:=h.size;omega)]
    exact h.frame u Q F
  · refine(h.b5 x o aa).keep (b:=w.heap.size) (dW.alloc w _) rfl (λe=>absurd (h.k3 aa e) (by omega)) bA (λu Q o=>?_) (en.refl β)
    cases o with
    |none=>rfl
    |some o=>
    show(if u=w.heap.size then vs[o]? else I u o)=_;rw[if_neg Q]
end turn
def g3:U->List U
 |.agg cs=>cs
 |a=>[a]
def iU.one:iU->Bool
 |.row _=>false
 |_=>true
def U.one:U->Bool
 |.int _ _=>true|.bool _=>true|.str _=>true|.aL _ _=>true|.dF _=>true|.fn _ _=>true|.bC=>true|.ia=>true|.own _=>true|.ptr _ _=>true|.cc _=>true|.cW _ _=>true|.gq=>true|.dr k _=>k.one|.b8 _=>true
 |_=>false
def avX{I:a2}{β:Nat->Value}{a:U}{v:Value}(c:a.one=true)(b:az I β a v):v.oneCell'=true/\v.cells=#[v]:=by
 cases a<;>simp only[U.one]at c<;>first|cases c|skip
 all_goals simp only[az,aN]at b
 all_goals first
  |(subst b;exact⟨rfl,rfl⟩)
  |(obtain⟨_,_,rfl,_⟩:=b;exact⟨rfl,rfl⟩)
  |(obtain⟨_,_,_,rfl,_⟩:=b;exact⟨rfl,rfl⟩)
  |(obtain⟨_,rfl,_⟩:=b;exact⟨rfl,rfl⟩)
  |(rename_i g f;cases g<;>simp only[iU.one]at c<;>first|cases c|skip
    all_goals simp only[iU.rep]at b
    all_goals first|(obtain⟨h,e,rfl⟩:=b;exact⟨rfl,rfl⟩)|(obtain⟨_,_,_,_,_,_,rfl⟩:=b;exact⟨rfl,rfl⟩))
  |(obtain⟨_,_,rfl⟩:=b;exact⟨rfl,rfl⟩)
  |(obtain⟨rfl,d⟩:=b
    rename_i f;cases e:β f<;>rw[e]at d<;>first|(simp[fA]at d;done)|(simp[hd]at d;done)|exact⟨rfl,rfl⟩)
def U.flat:U->Bool
 |.agg cs=>cs.all U.one
 |a=>a.one
def yQ{I:a2}{β:Nat->Value}:∀(cs:List U) (vs:c4),cs.all U.one=true->bx I β cs vs->∀v∈vs,v.oneCell'=true
 |[],vs,_,h=>by simp only[bx]at h;subst h;simp
 |x::r,vs,b,h=>by
  simp only[bx]at h;simp only[List.all_cons,Bool.and_eq_true]at b;obtain⟨f,d,rfl,e,c⟩:=h;intro v a;rcases List.mem_cons.1 a with rfl|a
  .exact(avX b.1 e).1
  .exact yQ r d b.2 c v a
def avC{I:a2}{β:Nat->Value}{a:U}{v:Value}(e:a.flat=true)(b:az I β a v):bx I β (g3 a) v.cells.toList/\∀i∈v.cells.toList,i.oneCell'=true:=by
 by_cases c:∃d,a=.agg d
 .obtain⟨d,rfl⟩:=c;simp only[az]at b;obtain⟨k,rfl,b⟩:=b;simp only[U.flat]at e;exact⟨b,yQ d _ e b⟩
 .have j:a.one=true:=by cases a<;>first|exact e|exact absurd ⟨_,rfl⟩ c
  have f:g3 a=[a]:=by cases a<;>first|rfl|exact absurd ⟨_,rfl⟩ c
  obtain⟨h,g⟩:=avX j b;rw[f,g];exact⟨⟨v,[],rfl,b,rfl⟩,by simpa using h⟩
section ops
variable {G:bQ}{o:Oper}{ev:Operand->U}{σ:W}
def br.alloc{T d:Nat}{zs:c4}(h:o.op=.alloc T)(hz:∀w,∃z,(zeroValue T).run G.P w=.ok z w/\z.cells=zs.toArray)(hi:G.ids.contains d=false):
  Yields G o ev ((d,.cells T (iO zs))::σ) [d] [d] (.ptr d 0):=by
 intro ai cx I β w O Q D af hop;obtain⟨z,ab,aa⟩:=hz w;have X:(execOp O o).run G.P w=.ok (.value (.pointer (some ⟨w.heap.size,0,none⟩))) (w.alloc (.cells zs.toArray T)):=by
  simp[execOp,h,Instr.alloc,ab,newVar,newRow,aa]
 rw[X];have ae:=af d (by simp);refine⟨I,et β d (.pointer (some ⟨w.heap.size,0,none⟩)),by simp only[az];exact⟨w.heap.size,by rw[eB];rfl,rfl⟩,?_,bM.refl I,λx F=>ff β _ (λe=>F (by simp[e]))⟩;refine D.real (by simpa using hi) ae rfl λag u=>?_;rw[Q d (by simp),auU,if_pos rfl]at u;injection u with u
 subst u;simp only[bb,eB];exact .inr ⟨w.heap.size,zs.toArray,rfl,heap_alloc_new w _,by simpa using xE I _ zs,λo=>D.fJ (Nat.le_refl _) o,.inl D.size⟩
def br.box{T d:Nat}{x:Operand}{a:U}{cs:List U}(h:o.op=.box T x)(D:ev x=a)(aa:a.flat=true)(af:g3 a=cs)(am:a.refs (Nat.beq d)=false)(hi:G.ids.contains d=false):
  Yields G o ev ((d,.cells T cs)::σ) [d] [d] (.ptr d 0):=by
 intro ak cx I β w F ab O ag hop;have Q:=hop x (by simp[h,Op.operands]);rw[D]at Q;have ae:(execOp F o).run G.P w=.ok (.value (.pointer (some ⟨w.heap.size,0,none⟩))) (w.alloc (.cells (F x).cells T)):=by
  simp[execOp,h,Instr.box,newVar,newRow]
 rw[ae];have X:=ag d (by simp);refine⟨I,et β d (.pointer (some ⟨w.heap.size,0,none⟩)),by simp only[az];exact⟨w.heap.size,by rw[eB];rfl,rfl⟩,?_,bM.refl I,λx D=>ff β _ (λe=>D (by simp[e]))⟩;refine O.real (by simpa using hi) X rfl λai u=>?_;rw[ab d (by simp),auU,if_pos rfl]at u;injection u with u
 subst u;simp only[bb,eB];refine .inr ⟨w.heap.size,(F x).cells,rfl,heap_alloc_new w _,?_,λo=>O.fJ (Nat.le_refl _) o,.inl O.size⟩;have:=(avC aa Q).1;rw[af]at this;exact CN (bM.refl I) (avi X) _ _ this
structure n2(P:Program)(T:TypeId)(zs:List Value)(c1:List (Nat×Nat)):Prop where
 run:∀(parts:Array (Nat×Value)) (cells:eN) w,Instr.fill (λi=>c1[i]?) zs.toArray parts.toList=some cells->(Instr.build T parts).run P w=.ok (.agg cells) w
theorem Rq{P:Program}{T:TypeId}{fs:Array Field}{b:c4}{a:List (Nat×Nat)}(h:∀w,(zeroValue T).run P w=.ok (.agg b.toArray) w)(g:P.underlying T=some (.struct fs))
  (d:∀w,(fs.mapM λf=>do pure (f.offset,<-sizeOf f.type):Sem (Array (Nat×Nat))).run P w=.ok a.toArray w):n2 P T b a where
 run:=λparts e w i=>by
  have c:Instr.fill (a.toArray[·]?) b.toArray parts.toList=some e:=by grind
  unfold Instr.build;simp only[Sem.run_bind,h,Result.andThen_ok,run_underlying g,d,Value.cells];simp only[c];rfl
def ei{α:Type}(L:List α)(off:Nat)(cs:List α):List α:=L.take off++cs++L.drop (off+cs.length)
def nU(c:List (Nat×Nat))(b:List U):List (Nat×U)->Option (List U)
 |[]=>some b
 |(i,a)::d=>match c[i]? with
  |none=>none
  |some (off,size)=>bif Nat.beq (g3 a).length size&&Nat.ble (off+(g3 a).length) b.length&&a.flat then nU c (ei b off (g3 a)) d else none
def CQ(cs:c4):∀(k off:Nat) (L:eN),off+k+cs.length<=L.size->((cs.zipIdx k).foldl (λ(d:eN) (x:Value×Nat)=>d.setIfInBounds (off+x.2) x.1) L).toList=L.toList.take (off+k)++cs++L.toList.drop (off+k+cs.length):=by
 induction cs with
 |nil=>intro k off L a;simp
 |cons c r b=>
  intro k off L a;simp only[List.zipIdx_cons,List.foldl_cons];have:=b (k+1) off (L.setIfInBounds (off+k) c) (by simp at a ⊢;omega);rw[this];have e:=list_seg_step L.toList (off+k) c r (by simp at a ⊢;omega);simpa [Array.toList_setIfInBounds,Nat.add_assoc]using e
def kr{I:a2}{β:Nat->Value}:∀(xs a:List U) (b vs:c4),bx I β xs b->bx I β a vs->bx I β (xs++a) (b++vs)
 |[],a,b,vs,h,c=>by simp only[bx]at h;subst h;simpa using c
 |x::r,a,b,vs,h,c=>by
  simp only[bx]at h;obtain⟨f,d,rfl,g,e⟩:=h;simp only[List.cons_append,bx];exact⟨f,d++vs,rfl,g,kr r a d vs e c⟩
def DK{I:a2}{β:Nat->Value}(n:List (Nat×Nat)):∀(parts:List (Nat×U)) (c:List (Nat×Value)) (k:List U) (L:eN) (g:List U),bx I β k L.toList->
  (parts.length=c.length/\∀(j:Nat) (p:Nat×U) (q:Nat×Value),parts[j]?=some p->c[j]?=some q->p.1=q.1/\az I β p.2 q.2)->nU n k parts=some g->∃r,Instr.fill (λi=>n[i]?) L c=some r/\bx I β g r.toList
 |[],c,k,L,g,h,d,b=>by
  have:c=[]:=List.eq_nil_of_length_eq_zero d.1.symm;subst this;simp only[nU,Option.some.injEq]at b;subst b;exact⟨L,rfl,h⟩
 |(i,a)::y,c,k,L,g,h,d,b=>by
  cases c with
  |nil=>simp at d
  |cons q G=>
   obtain⟨K,f⟩:=q;have s:=d.2 0 _ _ rfl rfl;simp only at s;obtain⟨rfl,A⟩:=s;simp only[nU]at b;cases o:n[i]? with
   |none=>rw[o]at b;cases b
   |some os=>
    obtain⟨e,u⟩:=os;rw[o]at b;simp only at b;cases m:(Nat.beq (g3 a).length u&&Nat.ble (e+(g3 a).length) k.length&&a.flat)with
    |false=>rw[m]at b;simp at b
    |true=>
     rw[m]at b;simp only[cond_true]at b;simp only[Bool.and_eq_true,Nat.beq_eq,Nat.ble_eq]at m;obtain⟨⟨J,H⟩,v⟩:=m;obtain⟨d1,d2⟩:=avC v A;have t:=ko _ _ d1;have C:=ko _ _ h;simp only[Array.length_toList]at t C;simp only[Instr.fill,o];rw[if_neg (show ¬((decide (f.cells.size≠u)||decide (e+f.cells.size>L.size))=true)from by simp;omega)];refine DK n y G _ _ g ?_ ⟨by simpa using d.1,λj p q x w=>d.2 (j+1) p q (by simpa using x) (by simpa using w)⟩ b;have E:=CQ f.cells.toList 0 e L (by simp;omega)
     have F:(f.cells.zipIdx.foldl (λD (l:Value×Nat)=>D.setIfInBounds (e+l.2) l.1) L)=((f.cells.toList.zipIdx 0).foldl (λ(B:eN) (l:Value×Nat)=>B.setIfInBounds (e+l.2) l.1) L):=by
      rw[<-Array.foldl_toList,Array.toList_zipIdx]
     rw[F,E];simp only[Nat.add_zero,ei];refine kr _ _ _ _ (kr _ _ _ _ (qx _ _ _ h) d1) ?_;have:=qw (e+(g3 a).length) _ _ h;have z:f.cells.toList.length=(g3 a).length:=by simpa using t
     rw[z];exact this
def br.build{T:TypeId}{parts:Array (Nat×Operand)}{zs:c4}{c1:List (Nat×Nat)}{cs:List U}(h:o.op=.build T parts)(ae:n2 G.P T zs c1)
  (X:nU c1 (iO zs) (parts.toList.map λp=>(p.1,ev p.2))=some cs):Yields G o ev σ [] [] (.agg cs):=
 .pure λai cx I β w O ak ag hop=>by
  have af:∀p∈parts.toList,az I β (ev p.2) (O p.2):=λp ab=>hop p.2 (by simp only[h,Op.operands];simpa using ⟨p.1,by simpa using ab⟩)
  obtain⟨r,Q,aa⟩:=DK c1 (parts.toList.map λp=>(p.1,ev p.2)) (parts.toList.map λp=>(p.1,O p.2)) (iO zs) zs.toArray cs (by simpa using xE I β zs)
   ⟨by simp,λj p q u D=>by
    simp only[List.getElem?_map]at u D;cases F:parts.toList[j]? with
    |none=>rw[F]at u;cases u
    |some y=>
     rw[F]at u D;simp only[Option.map_some,Option.some.injEq]at u D;subst u D;exact⟨rfl,af y (List.mem_of_getElem? F)⟩⟩ X
  refine⟨.agg r,?_,by simp only[az];exact⟨r,rfl,aa⟩⟩;have:(Instr.build T (parts.map λ(i,x)=>(i,O x))).run G.P w=.ok (.agg r) w:=ae.run _ r w (by simpa using Q);simp[execOp,h,this]
structure jx(P:Program)(T E sz:Nat)(zs:List Value):Prop where
 ee:P.underlying T=some (.slice E)
 size:∀w,(sizeOf E).run P w=.ok sz w
 zero:∀w,∃z,(zeroValue E).run P w=.ok z w/\z.cells=zs.toArray
 Sj:zs.length=sz
def sZ{sz:Nat}:∀(xs:List (List U)),(∀e∈xs,e.length=sz)->xs.flatten.length=xs.length*sz
 |[],_=>by simp
 |e::r,h=>by
  simp only[List.flatten_cons,List.length_append,List.length_cons,h e (by simp),sZ r (λb a=>h b (by simp[a]))];rw[Nat.add_mul];omega
def lM(sz:Nat):Nat->List (Nat×U)->Option (List (List U))
 |_,[]=>some []
 |k,(i,a)::r=>bif Nat.beq i k&&Nat.beq (g3 a).length sz&&a.flat then(lM sz (k+1) r).map (g3 a::·)else none
theorem s0{I:a2}{β:Nat->Value}(sz:Nat):∀(parts:List (Nat×U)) (g:List (Nat×Value)) (k:Nat) (L:eN) (l:List (List U)),
  (parts.length=g.length/\∀(j:Nat) (p:Nat×U) (q:Nat×Value),parts[j]?=some p->g[j]?=some q->p.1=q.1/\az I β p.2 q.2)->lM sz k parts=some l->(k+parts.length)*sz<=L.size->
  ∃r m,Instr.fill (λi=>some (i*sz,sz)) L g=some r/\r.size=L.size/\r.toList=L.toList.take (k*sz)++m++L.toList.drop ((k+parts.length)*sz)/\bx I β l.flatten m/\(∀e∈l,e.length=sz)/\l.length=parts.length
 |[],g,k,L,l,h,b,_=>by
  have:g=[]:=List.eq_nil_of_length_eq_zero h.1.symm;subst this;simp only[lM,Option.some.injEq]at b;subst b;exact⟨L,[],rfl,rfl,by simp,by simp[bx],by simp,rfl⟩
 |(i,a)::d,g,k,L,l,h,b,u=>by
  cases g with
  |nil=>simp at h
  |cons q R=>
   obtain⟨S,c⟩:=q;have v:=h.2 0 _ _ rfl rfl;simp only at v;obtain⟨rfl,D⟩:=v;simp only[lM]at b;cases o:(Nat.beq i k&&Nat.beq (g3 a).length sz&&a.flat)with
   |false=>rw[o]at b;simp at b
   |true=>
    rw[o]at b;simp only[cond_true,Option.map_eq_some_iff]at b;obtain⟨N,b,rfl⟩:=b;simp only[Bool.and_eq_true,Nat.beq_eq]at o;obtain⟨⟨rfl,A⟩,x⟩:=o;obtain⟨d1,d2⟩:=avC x D;have P:=ko _ _ d1;simp only[Array.length_toList]at P;have T:i*sz+sz<=L.size:=by
     have:(i+1)*sz<=(i+((i,a)::d).length)*sz:=Nat.mul_le_mul_right _ (by simp)
     grind
    have e:=CQ c.cells.toList 0 (i*sz) L (by simp;omega)
    have Q:(c.cells.zipIdx.foldl (λO (f:Value×Nat)=>O.setIfInBounds (i*sz+f.2) f.1) L)=((c.cells.toList.zipIdx 0).foldl (λ(s:eN) (f:Value×Nat)=>s.setIfInBounds (i*sz+f.2) f.1) L):=by
     rw[<-Array.foldl_toList,Array.toList_zipIdx]
    simp only[Instr.fill];rw[if_neg (show ¬((decide (c.cells.size≠sz)||decide (i*sz+c.cells.size>L.size))=true)from by simp;omega)];rw[Q];generalize V:((c.cells.toList.zipIdx 0).foldl (λ(s:eN) (f:Value×Nat)=>s.setIfInBounds (i*sz+f.2) f.1) L)=L' at e;have w:L'.size=L.size:=by
     rw[<-Array.length_toList,e];simp;omega
    obtain⟨r,m,C,B,E,H,K,J⟩:=s0 sz d R (i+1) L' N ⟨by simpa using h.1,λj p q z y=>h.2 (j+1) p q (by simpa using z) (by simpa using y)⟩ b (by rw[w];simp at u;rw[show i+1+d.length=i+(d.length+1)from by omega];exact u);refine⟨r,c.cells.toList++m,C,B.trans w,?_,?_,?_,by simp[J]⟩
    .rw[E,e];have M:(i+1)*sz=i*sz+sz:=by rw[Nat.add_mul,Nat.one_mul]
     have F:(L.toList.take (i*sz+0)).length=i*sz:=by simp;omega
     have n:(L.toList.take (i*sz+0)++c.cells.toList).length=(i+1)*sz:=by rw[List.length_append,F,M];simp;omega
     rw[List.take_append_of_le_length (by rw[n];exact Nat.le_refl _),<-n,List.take_length];have G:List.drop ((i+1+d.length)*sz) (L.toList.take (i*sz+0)++c.cells.toList++L.toList.drop (i*sz+0+c.cells.toList.length))=L.toList.drop ((i+((i,a)::d).length)*sz):=by
      rw[List.drop_append,n,List.drop_drop];have:(i+1)*sz<=(i+1+d.length)*sz:=Nat.mul_le_mul_right _ (by omega);rw[List.drop_of_length_le (by rw[n];exact this),List.nil_append];congr 1;simp only[Array.length_toList,List.length_cons];rw[show i+(d.length+1)=i+1+d.length from by omega];omega
     rw[G];simp[List.append_assoc]
    .simp only[List.flatten_cons];exact kr _ _ _ _ d1 H
    .intro e t;rcases List.mem_cons.1 t with rfl|t
     .exact A
     .exact K e t
theorem br.buildSlice{T E sz len:Nat}{parts:Array (Nat×Operand)}{zs:c4}{xs:List (List U)}(h:o.op=.buildSlice T len parts)(ab:jx G.P T E sz zs)(ae:parts.size=len)(Y:len*sz<=65536/\len<=65536)
  (ai:lM sz 0 (parts.toList.map λp=>(p.1,ev p.2))=some xs) (aB:ha xs.flatten=true):Yields G o ev σ [] [] (.aL true xs):=by
 intro aI cx I β w O aM am aV hop;have aG:∀p∈parts.toList,az I β (ev p.2) (O p.2):=λp an=>hop p.2 (by simp only[h,Op.operands];simpa using ⟨p.1,by simpa using an⟩);obtain⟨z,aw,aS⟩:=ab.zero w
 let L:eN:=(Array.range (len*sz)).map ((if len*sz=0 then #[]else z.cells)[·%(if len*sz=0 then #[]else z.cells:eN).size]!)
 have aD:L.size=len*sz:=by simp[L]
 obtain⟨r,af,aq,aR,aT,aA,aU,aC⟩:=s0 (I:=I) (β:=β) sz (parts.toList.map λp=>(p.1,ev p.2)) (parts.toList.map λp=>(p.1,O p.2)) 0 L xs
  ⟨by simp,λj p q u F=>by
   simp only[List.getElem?_map]at u F;cases X:parts.toList[j]? with
   |none=>rw[X]at u;cases u
   |some y=>
    rw[X]at u F;simp only[Option.map_some,Option.some.injEq]at u F;subst u F;exact⟨rfl,aG y (List.mem_of_getElem? X)⟩⟩ ai (by simp[aD,ae])
 have aF:r.toList=af:=by simp_all
 have gK:xs.length=len:=by rw[aC];simp[ae]
 have ar:(execOp O o).run G.P w=.ok (.value (.slice (some ⟨w.heap.size,0,none⟩) len len)) (w.alloc (.cells r E)):=by
  have aE:¬(len*sz>2 ^ 24):=by have:(2:Nat) ^ 24=16777216:=by decide
                               omega
  have D:Instr.fill (λi=>some (i*sz,sz)) L (parts.map λ(i,x)=>(i,O x)).toList=some r:=by simpa using aq
  simp only[execOp,h,Instr.buildSlice,Sem.run_bind,run_underlying ab.ee,ab.size,Result.andThen_ok,aE,if_false];by_cases Q:len*sz=0
  .have aa:L=(Array.range (len*sz)).map ((#[]:eN)[·%(#[]:eN).size]!):=by simp only[L,Q,if_true]
   rw[aa]at D;simp only[Q,if_true,Sem.run_bind,Sem.run_pure,Result.andThen_ok]at D ⊢;simp only[D];simp[newRow]
  .have aa:L=(Array.range (len*sz)).map (z.cells[·%z.cells.size]!):=by simp only[L,Q,if_false]
   rw[aa]at D;simp only[Q,if_false,Sem.run_bind,aw,Sem.run_pure,Result.andThen_ok];simp only[D];simp[newRow]
 rw[ar];obtain⟨ag,bA,ax,ao⟩:=am.lay r E;refine⟨ag,β,?_,ao,bA,λ_ _=>rfl⟩;simp only[az,aN];refine⟨_,len,by rw[gK],by omega,?_,λ_=>gK.symm,.inr ⟨w.heap.size,0,rfl,?_⟩⟩
 .simp only[maxLen];omega
 .have:=bx.closed _ _ aB aA;rw[<-aF]at this;exact xx xs 0 _ (kA bA _ _ this) λj v ak=>by rw[Nat.zero_add];exact ax j v (by simpa using ak)
end ops
end
section
def W.minus(ids:cg):W->W
 |[]=>[]
 |(d,o)::r=>bif ids.contains d then W.minus ids r else(d,o)::W.minus ids r
theorem avc(ids:cg):∀(σ:W) (d:Nat),(W.minus ids σ).get d=if d∈ids then none else σ.get d
 |[],d=>by simp[W.minus,W.get]
 |(k,o)::r,d=>by
  simp only[W.minus];cases a:ids.contains k with
  |true=>
   simp only[cond_true,avc ids r d,auU];split
   .rfl
   .grind
  |false=>
   simp only[cond_false,auU,avc ids r d];split
   .grind
   .rfl
def avv:∀(a b:W) (d:Nat),W.get (a++b) d=match a.get d with|some o=>some o|none=>b.get d
 |[],b,d=>by simp[W.get]
 |(k,o)::r,b,d=>by
  simp only[List.cons_append,auU];split
  .rfl
  .exact avv r b d
def awf:∀{σ:W} {d:Nat},d∈σ.ids->(σ.get d).isSome
 |[],d,a=>by simp[W.ids]at a
 |(k,o)::r,d,a=>by
  rw[auU];split
  .rfl
  .rename_i b;simp only[W.ids,List.map_cons,List.mem_cons]at a;rcases a with a|a
   .omega
   .exact awf (σ:=r) a
def mj(β:Nat->Value)(σ:W):cg:=σ.flatMap λa=>b3 (β a.1)
def Bw{β:Nat->Value}{σ:W}{b:Nat}:b∈mj β σ↔∃p∈σ,b∈b3 (β p.1):=by simp[mj,List.mem_flatMap]
section after
variable {G:bQ}{cx:c2}{I:a2}{β:Nat->Value}{σ:W}{w:World}
def bG.placeOf(h:bG G cx I β σ w){x:Nat}{o:b1}(u:σ.get x=some o){b:Nat}(D:b∈b3 (β x)):Place cx b:=(h.tY u D).2
def h0(I:a2)(β:Nat->Value)(cb:W)(w:World):c2:={B:=w.heap.size,w0:=w,I0:=I,og:=mj β cb,mO:=β}
def bb.place{cx hn:c2}{I:a2}{β:Nat->Value}{w:World}{d:Nat}{o:b1}(u:∀b∈b3 (β d),Place cx b->Place hn b)(h:bb cx I β w d o):bb hn I β w d o:=
 h.rZ (bM.refl I) rfl (en.refl β) λb e=>⟨λ_=>rfl,λ_=>rfl,u b e⟩
def bG.oc(h:bG G cx I β σ w){P:Program}{cb:W}(Y:∀p∈cb,σ.get p.1=some p.2):bG ⟨P,0,cb.ids⟩ (h0 I β cb w) I β cb w:=by
  have O:∀d o,cb.get d=some o->σ.get d=some o:=λd o Z=>by
    obtain⟨p,TF,Ud,F⟩:=k0 cb d o Z;rw[<-Ud,<-F];exact Y p TF
  have u:=h.sub O
  exact{good:=u.good,eD:=u.eD,fK:=bM.refl I,fB:=λ_ _ _ _=>rfl,frame:=λ_ _ _=>rfl,size:=Nat.le_refl _,tape:=rfl,os:=rfl,output:=rfl,drawn:=Nat.le_refl _,
        b5:=λd o Z=>(u.b5 d o Z).place λb D _=>.inr (by
            obtain⟨p,TF,Ud,_⟩:=k0 cb d o Z;exact Bw.2 ⟨p,TF,by rw[Ud];exact D⟩),
        cA:=u.cA,keep:=λ_ _=>rfl}
theorem bG.after(h:bG G cx I β σ w){P:Program}{cb:W}(Y:∀p∈cb,σ.get p.1=some p.2){X:a2}{β':Nat->Value}{σ2:W}{w':World}
    (F:bG ⟨P,0,cb.ids⟩ (h0 I β cb w) X β' σ2 w') (news:cg) (aq:∀d∈news,d∉G.ids/\σ.get d=none) (aW:(σ.minus cb.ids).clean news.contains=true)
    (aB:σ2.clean (λd=>!(cb.ids++news).contains d)=true) :
    bG G cx X (λd=>if d∈news then β' d else β d) (σ2++σ.minus cb.ids) w'/\bM I X/\(∀(r:U) v,r.refs (λd=>!(cb.ids++news).contains d)=false->az X β' r v->az X (λd=>if d∈news then β' d else β d) r v):=by
  have a6:∀d o,cb.get d=some o->σ.get d=some o:=λd o Z=>by
    obtain⟨p,aa,ab,aV⟩:=k0 cb d o Z;rw[<-ab,<-aV];exact Y p aa
  have bA:bM I X:=F.fK
  have aw:∀d,(λd=>!(cb.ids++news).contains d) d=false->(λd=>if d∈news then β' d else β d) d=β' d:=λd Z=>by
    have Z:d∈cb.ids\/d∈news:=by grind
    show(if d∈news then β' d else β d)=β' d;split
    · rfl
    · rename_i aq
      rcases Z with Z|Z
      · exact(F.keep d Z).symm
      · grind
  have aE:∀b,b∈mj β cb->Place cx b:=λb Q=>by
    obtain⟨p,aa,ab⟩:=Bw.1 Q;exact h.placeOf (Y p aa) ab
  have aX:∀b,Place (h0 I β cb w) b->Place cx b:=λb Q=>by
    rcases Q with Q|Q
    · exact .inl (Nat.le_trans h.size Q)
    · exact aE b Q
  have aF:∀b,b<cx.B->b∉cx.og->b<(h0 I β cb w).B/\b∉(h0 I β cb w).og:=λb O D=>
    ⟨Nat.lt_of_lt_of_le O h.size,λQ=>by
      rcases aE b Q with q|q
      · omega
      · exact D q⟩
  have ae:∀x o,(σ.minus cb.ids).get x=some o->x∉cb.ids/\σ.get x=some o:=λx o u=>by
    rw[avc]at u;split at u
    · cases u
    · grind
  have aG:∀x o,(σ.minus cb.ids).get x=some o->∀b∈b3 (β x),b<(h0 I β cb w).B/\b∉(h0 I β cb w).og:=λx o u b Q=>by
    obtain⟨O,D⟩:=ae x o u;refine⟨h.k3 D Q,λaY=>?_⟩;obtain⟨p,aa,ab⟩:=Bw.1 aY;have aZ:p.1≠x:=λe=>O (by rw[<-e];exact List.mem_map.2 ⟨p,aa,rfl⟩);exact h.cA p.1 x (by rw[Y p aa];rfl) (by rw[D];rfl) aZ b ab Q
  have aI:∀x o,(σ.minus cb.ids).get x=some o->(if x∈news then β' x else β x)=β x:=λx o u=>by
    have:x∉news:=λar=>by
      have:=(aq x ar).2;rw[(ae x o u).2]at this;cases this
    rw[if_neg this]
  refine⟨{good:=F.good,eD:=F.eD,fK:=h.fK.trans bA,fB:=λb O D o=>?_,frame:=λb O D=>?_,size:=Nat.le_trans h.size F.size,tape:=F.tape.trans h.tape,os:=F.os.trans h.os,output:=F.output.trans h.output,drawn:=Nat.le_trans h.drawn F.drawn,
          b5:=λx o u=>?_,cA:=λx y u ak ax b=>?_,keep:=λx u=>?_},bA,λr v a0 aS=>nC aw r v a0 aS⟩
  · obtain⟨am,ag⟩:=aF b O D
    exact(F.fB b am ag o).trans (h.fB b O D o)
  · obtain⟨am,ag⟩:=aF b O D
    exact(F.frame b am ag).trans (h.frame b O D)
  · rw[avv]at u
    cases D:σ2.get x with
    |some a5=>
      rw[D]at u;cases u;obtain⟨an,ai⟩:=au8 aB x o D;exact((F.b5 x o D).place (λb _=>aX b)).beta aw an ai
    |none=>
      rw[D]at u;simp only at u;obtain⟨a4,aU⟩:=ae x o u;obtain⟨an,ai⟩:=au8 aW x o u;have aT:=h.b5 x o aU
      have aD:∀d,news.contains d=false->(λd=>if d∈news then β' d else β d) d=β d:=λd Z=>by
        have:d∉news:=by simpa using Z
        show(if d∈news then β' d else β d)=β d;rw[if_neg this]
      exact o.o3▸aT.go (r:=id) bA (aD x an) (λy e=>.inr (aD y e)) (λb Q=>by
        obtain⟨ao,af⟩:=aG x o u b Q;exact⟨λ_=>F.frame b ao af,λo=>F.fB b ao af o,id⟩) ai
  ·
    have aR:∀x,(σ2.get x).isSome->(if x∈news then β' x else β x)=β' x:=λx u=>by
      obtain⟨o,u⟩:=Option.isSome_iff_exists.1 u;exact aw x (au8 aB x o u).1
    have aM:∀x,(W.get (σ2++σ.minus cb.ids) x).isSome->(σ2.get x).isSome\/∃o,(σ.minus cb.ids).get x=some o:=λx u=>by
      rw[avv]at u;cases D:σ2.get x with
      |some o=>exact .inl rfl
      |none=>rw[D]at u;exact .inr (Option.isSome_iff_exists.1 u)
    have a8:∀x y,(σ2.get x).isSome->(∃o,(σ.minus cb.ids).get y=some o)->b∈b3 (β' x)->b∈b3 (β y)->False:=λx y u ⟨o,ak⟩ a1 a3=>by
      obtain⟨a7,u⟩:=Option.isSome_iff_exists.1 u;obtain⟨ao,af⟩:=aG y o ak b a3;rcases F.placeOf u a1 with q|q
      · omega
      · exact af q
    show b∈b3 (if x∈news then β' x else β x)->b∉b3 (if y∈news then β' y else β y);rcases aM x u with O|⟨aC,O⟩<;>rcases aM y ak with D|⟨aA,D⟩
    · rw[aR x O,aR y D]
      exact F.cA x y O D ax b
    · grind
    · grind
    · rw[aI x aC O,aI y aA D]
      exact h.cA x y (by rw[(ae x aC O).2];rfl) (by rw[(ae y aA D).2];rfl) ax b
  · have:x∉news:=λar=>(aq x ar).1 u
    simp only[this,if_false];exact h.keep x u
end after
section ops
variable {G:bQ}{o:Oper}{ev:Operand->U}{σ:W}
def oS{I:a2}{β:Nat->Value}(ev:Operand->U)(a:Operand->Value):∀(xs:List Operand),(∀x∈xs,az I β (ev x) (a x))->bx I β (xs.map ev) (xs.map a)
 |[],_=>by simp[bx]
 |x::r,h=>by
  simp only[List.map_cons,bx];exact⟨a x,r.map a,rfl,h x (by simp),oS ev a r λc b=>h c (by simp[b])⟩
variable {P:Program}
def tJ{o:Oper}{b:Operand}{args:Array Operand}{k:Array TypeId}{a:Operand->Value}{f:FuncId}{vs:eN}{w:World}(e:o.op=.call ⟨.value b,args,k⟩)(c:a b=.func (.func f) #[] vs)
  (d:∀(args:eN) (w:World),(callFunc f args).run P w=.ok (.enter f args) w):(execOp a o).run P w=.ok (.enter f ((args.toList.map a++vs.toList).toArray)) w:=by
 simp[execOp,e,resolve,c,Deferred.ofValue,invoke,d]
def br.call{ae:Operand}{args:Array Operand}{k:Array TypeId}{f:FuncId}{aR cr:List U}{σs cb:W}{r:U}(h:o.op=.call ⟨.value ae,args,k⟩)(an:ev ae=.fn f aR)
  (aF:∀(args:eN) (w:World),(callFunc f args).run G.P w=.ok (.enter f args) w) (Y:∀p∈σs,σ.get p.1=some p.2) (aU:gL σs (args.toList.map ev++aR) cr) (aG:∀p∈cb,σs.get p.1=some p.2)
  (a1:bY G.P f cb cr r) (aT:r.closed=true) (aI:cb.clean (λd=>!(cb.ids++[]).contains d)=true):Yields G o ev σ [] σs.ids r:=by
 intro aa cx I β w am aq X _ hop;have u:=hop ae (by simp[h,Op.operands,Call.operands]);rw[an]at u;simp only[az]at u;obtain⟨vs,u,aD⟩:=u;rw[tJ h u aF]
 have ai:∀d o,σs.get d=some o->aa.get d=some o:=λd o Z=>by
  obtain⟨p,O,Q,ab⟩:=k0 σs d o Z;rw[aq d (by rw[<-Q];exact List.mem_map.2 ⟨p,O,rfl⟩),<-Q,<-ab];exact Y p O
 have aS:=X.sub ai;have aC:=kr _ _ _ _ (oS ev am args.toList λx ak=>hop x (by simp only[h,Op.operands,Call.operands];simp;right;simpa using ak)) aD;have aM:=aU.rep aS _ aC;have af:∀p∈cb,aa.get p.1=some p.2:=λp ao=>ai _ _ (aG p ao);have aw:=X.oc (P:=G.P) af;refine Calls.mono (a1 _ w I β _ aw aM) ?_;rintro e w' ⟨v,aW,aY,D,ag,a0,⟨aE,ax⟩,aB,ar⟩;subst aE ax;obtain⟨aV,F,aZ⟩:=X.after af ar [] (by simp) (avD _) aI;refine⟨v,aW,ag,β,?_,?_,F,λ_ _=>rfl⟩
 .exact aN.rep β _ _ (az.closed aY v aT aB)
 .refine({aV with}:bG G cx ag β (D++aa.minus D.ids) w').sub λd o Z=>?_;rw[avv,avc];cases F:D.get d with
  |some aA=>
   obtain⟨p,O,Q,ab⟩:=k0 D d aA F;have:=af p O;rw[Q,ab,Z]at this;simpa using this.symm
  |none=>
   have:d∉D.ids:=λaX=>by have:=awf aX;rw[F]at this;cases this
   simp[this,Z]
def cB.call{Q:Operand}{args:Array Operand}{k:Array TypeId}{f:FuncId}{aR cr:List U}{cb:W}{O:U->W->Prop}(news:cg)(h:o.op=.call ⟨.value Q,args,k⟩)(af:ev Q=.fn f aR)
  (aA:∀(args:eN) (w:World),(callFunc f args).run G.P w=.ok (.enter f args) w) (Y:∀p∈cb,σ.get p.1=some p.2) (aE:gL σ (args.toList.map ev++aR) cr)
  (a1:cI G.P f cb cr O) (aB:news.all (λd=>!G.ids.contains d&&(σ.get d).isNone)=true) (an:(σ.minus cb.ids).clean news.contains=true)
  (ao:∀r σ2,O r σ2->r.refs (λd=>!(cb.ids++news).contains d)=false/\σ2.clean (λd=>!(cb.ids++news).contains d)=true) :
  eL G o ev σ (cb.ids++news) news (λr ai=>∃σ2,O r σ2/\ai=σ2++σ.minus cb.ids):=by
 intro cx I β w ab F hop;have u:=hop Q (by simp[h,Op.operands,Call.operands]);rw[af]at u;simp only[az]at u;obtain⟨vs,u,ax⟩:=u;rw[tJ h u aA];have aw:=kr _ _ _ _ (oS ev ab args.toList λx aa=>hop x (by simp only[h,Op.operands,Call.operands];simp;right;simpa using aa)) ax;have aC:=aE.rep F _ aw;have am:=F.oc (P:=G.P) Y
 have aD:∀d∈news,d∉G.ids/\σ.get d=none:=λd Z=>by
  have:=List.all_eq_true.1 aB d Z;simpa using this
 refine Calls.mono (a1 _ w I β _ am aC) ?_;rintro e w' ⟨v,aG,r,σ2,ae,aI,X,ar,ak⟩;obtain⟨de,aZ⟩:=ao r σ2 X;obtain⟨aF,D,ag⟩:=F.after Y ak news aD an aZ;refine⟨v,aG,r,_,ae,_,⟨σ2,X,rfl⟩,ag r v de ar,aF,D,λd Z=>by simp[Z],λd Z=>?_⟩;have Z:d∉cb.ids/\d∉news:=by simpa using Z
 rw[avv,avc,if_neg Z.1];cases D:σ2.get d with
 |some aq=>
  have:=(au8 aZ d aq D).1;have:(cb.ids++news).contains d=true:=by rw[<-Bool.not_eq_false'];exact this
  exact absurd (List.mem_append.1 (List.contains_iff_mem.1 this)) (by simp[Z.1,Z.2])
 |none=>rfl
def p2{w:World}{b off:Nat}{aM:TypeId}{a:eN}(c:w.heap[b]?=some (.cells a aM (0,0)))(vs:c4)(d:off+vs.length<=a.size)(e:∀v∈vs,v.oneCell'=true):
  (storeCells ⟨b,off,none⟩ vs).run P w=.ok () (w.setRow b (ei a.toList off vs).toArray):=by
 have:=run_storeCells_at P b off aM vs 0 a w c (by simpa using d) e;simpa [ei]using this
def IC{I:a2}{β:Nat->Value}{cs c:List U}{vs a:c4}(off:Nat)(d:bx I β cs vs)(b:bx I β c a):bx I β (ei cs off c) (ei vs off a):=by
 unfold ei;rw[ko _ _ b];exact kr _ _ _ _ (kr _ _ _ _ (qx _ _ _ d) b) (qw _ _ _ d)
def W.set(d:Nat)(o:b1):W->W
 |[]=>[]
 |(k,x)::r=>bif Nat.beq k d then(k,o)::r else(k,x)::W.set d o r
theorem au5(d:Nat)(o:b1):∀(σ:W) (x:Nat),(W.set d o σ).get x=if x=d then(σ.get d).map λ_=>o else σ.get x
 |[],x=>by simp[W.set,W.get]
 |(k,y)::r,x=>by
  simp only[W.set];by_cases a:k=d
  .subst a;simp only[Nat.beq_refl,cond_true,auU]
   grind
  .have:Nat.beq k d=false:=by rw[<-Bool.not_eq_true,Nat.beq_eq];exact a
   simp only[this,cond_false,auU,au5 d o r x]
   grind
def avS{T aM d p n:Nat}{x y:Operand}{a:U}{cs:List U}(k:o.op=.store T x y)(b:ev x=.ptr d p)(B:ev y=a)(j:σ.get d=some (.cells aM cs))(M:∀w,(sizeOf T).run G.P w=.ok n w)
  (A:a.flat=true) (S:(g3 a).length=n) (R:p+n<=cs.length) :
  eL G o ev σ [d] [] (λr D=>r=.undef/\D=σ.set d (.cells aM (ei cs p (g3 a)))):=by
 intro cx I β w f i z;have e:=z x (by simp[k,Op.operands]);rw[b]at e
 have l:=z y (by simp[k,Op.operands]);rw[B]at l
 simp only[az]at e;obtain⟨c,e,C⟩:=e;obtain⟨v,E,s,m,h,t⟩:=i.box j e;obtain⟨f1,f2⟩:=avC A l;have L:=ko _ _ m;have H:=ko _ _ f1;simp only[Array.length_toList]at L H;have K:=p2 (P:=G.P) s (f y).cells.toList (off:=p) (by simp;omega) f2;have F:(execOp f o).run G.P w=.ok .skip (w.setRow c (ei v.toList p (f y).cells.toList).toArray):=by
  have O:¬((f y).cells.size≠n):=by omega
  simp[execOp,k,C,Instr.storeAt,Instr.sureAddr,storeVar,M,O,K]
 rw[F];refine⟨.undef,_,I,β,⟨rfl,rfl⟩,by simp[az,aN],?_,bM.refl I,λ_ _=>rfl,λx b=>by rw[au5,if_neg (by simpa using b)]⟩;have u:bE (β d)=some c:=e
 refine i.turn (d:=d) (dW.setRow w c _) t (λx b=>by rw[au5,if_neg b]) (λx b J N=>i.cA x d J (by rw[j];rfl) b c N (gv u)) (bM.refl I) (λ_ _ _=>rfl)
  (λo V q=>by rw[h o]at q;cases q) (h none) (λ_ _=>rfl) (.inr rfl) (en.refl β) (.inl u) λQ g=>?_
 rw[au5,if_pos rfl,j]at g;injection g with g
 subst g;simp only[bb];exact .inr ⟨c,_,E,setRow_heap w c v _ aM _ s,by simpa using IC p m f1,h,t⟩
end ops
end
section
structure gO(P:Program)(T E sz bytes:Nat):Prop where
 ee:P.underlying T=some (.slice E)
 info:∃i z,P.info? E=some i/\i.zero=some z/\i.size=sz/\i.bytes=bytes/\z.cells.size=sz
 pos:0<sz
theorem wT{I:a2}{b:Nat}{w:World}(d:∀b (o:Nat) v,I b o=some v->w.cell? ⟨b,o,none⟩=some v):∀(xs:List (List U)) (o:Nat),gw I b xs o->
  ∃vs:c4,bX I xs.flatten vs/\∀j v,vs[j]?=some v->w.cell? ⟨b,o+j,none⟩=some v
 |[],o,_=>⟨[],rfl,λj v a=>by simp at a⟩
 |e::r,o,a=>by
  simp only[gw]at a;obtain⟨vs,f,i⟩:=BD d e o a.1;obtain⟨c,h,k⟩:=wT d r (o+e.length) a.2;have m:=i6 _ _ f;refine⟨vs++c,by simp only[List.flatten_cons];exact(hC _ _ _).2 ⟨vs,c,rfl,f,h⟩,λj v l=>?_⟩;rcases Nat.lt_or_ge j vs.length with g|g
  .grind
  .grind
def Je{I:a2}:∀(cs:List U) (vs:c4),cs.all U.one=true->bX I cs vs->∀v∈vs,v.oneCell'=true:=λcs vs a b=>
 yQ (β:=λ_=>undef) cs vs a (bX.rep _ cs vs b)
section ops
variable {G:bQ}{o:Oper}{ev:Operand->U}{σ:W}
variable {P:Program}{w:World}
def jQ{o:Oper}{s x:Operand}{t:Nat}{a:Operand->Value}{w':World}{b:Value}(d:o.op=.call ⟨.builtin .append,#[s,x],#[t,t]⟩)(c:(Builtin.append_ #[t,t] o.type #[a s,a x]).run P w=.ok b w'):
  (execOp a o).run P w=.ok (.value b) w':=by
 simp[execOp,d,resolve,invoke,builtin,c]
theorem Im{α:Type}(L news:List α)(n j:Nat)(a:j<n)(b:n<=L.length):(L.take n++news++L.drop (n+news.length))[j]?=L[j]?:=by grind
theorem cB.append{s x:Operand}{T E sz bytes d d2 aM k:Nat}{f bK:Bool}{xs D:List (List U)}(h:o.op=.call ⟨.builtin .append,#[s,x],#[T,T]⟩)(Y:ev s=.own d)(Z:σ.get d=some (.slice aM sz xs k bK))(u:fq σ (ev x) (.aL f D))(ar:gO G.P T E sz bytes)(bP:aM=E)
  (a3:∀e∈D,e.length=sz) (cz:D.flatten.all U.one=true) (a7:(xs.length+D.length)*bytes<=140737488355328) (bn:xs.length+D.length<=maxLen) (hi:G.ids.contains d2=false)
  (cd:(σ.minus [d]).clean [d2].contains=true) :
  eL G o ev σ [d,d2] [d2] (λr ax=>r=.own d2/\ax=(d2,.slice aM sz (xs++D) k false)::σ.minus [d]):=by
 subst bP;intro cx I β w a6 O hop;have dM:=hop s (by simp[h,Op.operands,Call.operands]);rw[Y]at dM;simp only[az]at dM;obtain⟨dM,c0⟩:=dM;have af:=u.rep O _ (hop x (by simp[h,Op.operands,Call.operands]));simp only[az,aN]at af;obtain⟨a,c,af,cD,cK,_,bT⟩:=af;obtain⟨i,z,aA,bi,aq,bk,ch⟩:=ar.info;have cf:∃F:c4,bX I D.flatten F/\(D.length=0\/∃ad:Addr,a=some ad/\∀j au,F[j]?=some au->w.cell? (ad.add j)=some au):=by
  rcases bT with rfl|⟨b,o,rfl,ag⟩
  .exact⟨[],rfl,.inl rfl⟩
  .obtain⟨vs,an,aE⟩:=wT O.good D o ag;exact⟨vs,an,.inr ⟨_,rfl,λj au cC=>by rw[g2];exact aE j au cC⟩⟩
 obtain⟨F,aT,aX⟩:=cf;have ae:F.length=D.length*sz:=by rw[i6 _ _ aT];exact sZ D a3
 have bV:=Je _ _ cz aT;have aY:xs.length+D.length<=9223372036854775807:=by simp only[maxLen]at bn;omega
 have bs:bG G cx I β (σ.minus [d]) w:=O.sub λx am u=>by rw[avc]at u;split at u<;>first|cases u|exact u
 have cb:=bs.jE (cw:=[d2]) (σ2:=(d2,.slice aM sz (xs++D) k false)::σ.minus [d]) (env:=[]) ⟨λx u=>by rw[auU,if_neg (λe=>u (by simp[e]))],λx u=>by simp at u;subst u;simpa using hi,rfl,cd,λx u cS n h=>by simp at u;subst u;rw[auU,if_pos rfl]at h;cases h⟩;have bh:∀x,x≠d2->eg β [d2] x=β x:=λx u=>by simp[eg,u]
 have fin:∀(aa:Value) (w':World) (b:Nat),(execOp a6 o).run G.P w=.ok (.value aa) w'->fA aa=true->dW w w' b->Place cx b->(∀x,((σ.minus [d]).get x).isSome->b∉b3 (β x))->
   (∀(o:Nat) v,I b o=some v->w'.cell? ⟨b,o,none⟩=some v)->I b none=none->(bE aa=some b\/b3 aa=[])->bb cx I (et β d2 aa) w' d2 (.slice aM sz (xs++D) k false)->
   jX G.P (λv w'=>∃(bt:U) (ax:W) (aU:a2) (a5:Nat->Value),(bt=.own d2/\ax=(d2,b1.slice aM sz (xs++D) k false)::σ.minus [d])/\az aU a5 bt v/\bG G cx aU a5 ax w'/\bM I aU/\(∀x,x∉[d2]->a5 x=β x)/\(∀x,x∉[d,d2]->ax.get x=σ.get x)) ((execOp a6 o).run G.P w):=by
  intro aa w' b bL eZ aC bF cM cj ci ao cI;rw[bL];refine⟨.own d2,_,I,et β d2 aa,⟨rfl,rfl⟩,by simp only[az,eB,eZ,and_self],?_,bM.refl I,λx u=>ff β aa (by simpa using u),λx u=>?_⟩
  .refine cb.turn (d:=d2) aC bF (λ_ _=>rfl) (λx u aY e=>?_) (bM.refl I) (λ_ _ _=>rfl) cj ci (λx u=>by rw[ff β aa u,bh x u]) (.inl (by simpa using hi)) (λx=>?_) (by rw[eB];exact ao) (λam ce=>?_)
   .rw[auU,if_neg (Ne.symm u)]at aY
    grind
   .by_cases u:x=d2
    .left;simp[eg,u]
    .right;rw[ff β aa u,bh x u]
   .rw[auU,if_pos rfl]at ce
    grind
  .have u:x≠d/\x≠d2:=by simpa using u
   rw[auU,if_neg (Ne.symm u.2),avc,if_neg (by simpa using u.1)]
 have br:∀b,bE (β d)=some b->∀x,((σ.minus [d]).get x).isSome->b∉b3 (β x):=λb ao x u e=>by
  rw[avc]at u;split at u
  .cases u
  .rename_i ca;exact O.cA x d u (by rw[Z];rfl) (by simpa using ca) b e (gv ao)
 have a4:∀x,((σ.minus [d]).get x).isSome->w.heap.size∉b3 (β x):=λx u e=>by
  obtain⟨am,u⟩:=Option.isSome_iff_exists.1 u;exact absurd (bs.k3 u e) (by omega)
 have aZ:I w.heap.size none=none:=O.fJ (Nat.le_refl _) none;have a1:∀(w':World) (o:Nat) v,I w.heap.size o=some v->w'.cell? ⟨w.heap.size,o,none⟩=some v:=λw' o v Q=>by rw[O.fJ (Nat.le_refl _)]at Q;cases Q
 have bx:∀aI,aI<xs.length+D.length->xs.length+D.length<=grownCap w (xs.length+D.length) aI aM/\grownCap w (xs.length+D.length) aI aM<=maxLen:=λaI _=>⟨grownCap_ge _ _ _ _,grownCap_le_maxLen _ _ _ _ bn⟩
 have bu:∀(ak:c4) (aR:Nat),bX I xs.flatten ak->ak.length=xs.length*sz->(∀e∈xs,e.length=sz)->k<=xs.length->xs.length+D.length<=aR->aR<=maxLen->
   bb cx I (et β d2 (.slice (some ⟨w.heap.size,0,none⟩) (xs.length+D.length) aR)) (w.drew.alloc (.cells (ak.toArray++F.toArray++Builtin.zeroCells z.cells (aR-(xs.length+D.length))) aM)) d2 (.slice aM sz (xs++D) k false):=by
  intro ak aR bW bj cp cP bY b4;simp only[bb,eB];have be:(ak++F).length=(xs++D).length*sz:=by rw[List.length_append,List.length_append,bj,ae,Nat.add_mul]
  refine .inr (.inr ⟨w.heap.size,aR,_,by rw[List.length_append],by rw[List.length_append];exact bY,b4,heap_alloc_new w.drew _,?_,?_,?_,by rw[List.length_append];omega,by simp,λo _=>O.fJ (Nat.le_refl _) o,.inl O.size⟩)
  .simp only[Array.size_append,List.size_toArray,size_zeroCells,ch,bj,ae,<-Nat.add_mul];congr 1;omega
  .have:(ak.toArray++F.toArray++Builtin.zeroCells z.cells (aR-(xs.length+D.length))).toList.take ((xs++D).length*sz)=ak++F:=by grind
   rw[this,List.flatten_append];exact(hC _ _ _).2 ⟨_,_,rfl,bW,aT⟩
  .intro e X;rcases List.mem_append.1 X with X|X
   .exact cp e X
   .exact a3 e X
 have bv:∀am,dW w (w.drew.alloc am) w.heap.size:=λam=>(dW.alloc w.drew am).drew;have a8:=O.b5 d _ Z;simp only[bb]at a8;rcases a8 with q|⟨q,rfl,rfl⟩|⟨b,aR,arr,an,aE,bD,ab,ba,a9,bf,bg,cJ,bc,aW⟩
 .rw[q]at dM;rw[dM]at c0;simp[fA]at c0
 ·
  rcases Nat.eq_zero_or_pos D.length with ai|ai
  .have aV:D=[]:=List.eq_nil_of_length_eq_zero ai;subst aV;refine fin (.slice none 0 0) w w.heap.size (jQ h ?_) rfl ⟨λ_ _ _=>rfl,Nat.le_refl _,rfl,rfl,rfl,Nat.le_refl _⟩ (.inl O.size) a4 (a1 w) aZ (.inr rfl) ?_
   .rw[dM,af,q];cases a<;>simp[Builtin.append_,run_underlying ar.ee,Go.sizeOf,typeInfo,aA,Builtin.lenOf,Builtin.firstCells,loadCells,loadCellsFrom]
   .simp only[bb,eB];exact .inr (.inl ⟨trivial,rfl,trivial⟩)
  .obtain⟨ad,rfl,aB⟩:=aX.resolve_left (by omega);have ag:=run_append_nil (P:=G.P) w T o.type aM i z ar.ee aA bi ad D.length c F (by rw[aq];exact ae) aB ai (by simp at aY;omega) (by simp at a7;rw[bk];omega);obtain⟨aG,aF⟩:=bx 0 (by simp;exact ai);simp only[List.length_nil,Nat.zero_add]at aG aF;refine fin _ _ w.heap.size (jQ h (by rw[dM,af,q];exact ag)) rfl (bv _) (.inl O.size) a4 (a1 _) aZ (.inl rfl) ?_;have:=bu [] (grownCap w D.length 0 aM) rfl (by simp) (by simp) (Nat.le_refl _) (by simpa using aG) aF;simpa using this
 .have ao:bE (β d)=some b:=by rw[an];rfl
  have cG:=fo ab;have a0:arr.toList.length=aR*sz:=by simpa using ba
  have gK:xs.length*sz<=arr.toList.length:=by rw[a0];exact Nat.mul_le_mul_right _ aE
  have cn:∀(o:Nat) v,I b o=some v->o<xs.length*sz:=λo v Q=>by
   rcases Nat.lt_or_ge o (k*sz)with aC|aC
   .exact Nat.lt_of_lt_of_le aC (Nat.mul_le_mul_right _ bg)
   .rw[bc o aC]at Q;cases Q
  by_cases aS:xs.length+D.length<=aR
  ·
   have be:(arr.toList.take (xs.length*sz)++F).length=(xs++D).length*sz:=by rw[List.length_append,List.length_take,Nat.min_eq_left gK,List.length_append,ae,Nat.add_mul]
   have bA:∀(w':World) (aw:eN),w'.heap[b]?=some (.cells aw aM (0,0))->aw.toList=arr.toList.take (xs.length*sz)++F++arr.toList.drop (xs.length*sz+F.length)->
     bb cx I (et β d2 (.slice (some ⟨b,0,none⟩) (xs.length+D.length) aR)) w' d2 (.slice aM sz (xs++D) k false):=by
    intro w' aw bJ X;simp only[bb,eB];refine .inr (.inr ⟨b,aR,aw,by rw[List.length_append],by rw[List.length_append];exact aS,bD,bJ,?_,?_,?_,by rw[List.length_append];omega,by simp,bc,aW⟩)
    .have cN:xs.length*sz+F.length<=arr.toList.length:=by rw[ae,<-Nat.add_mul,a0];exact Nat.mul_le_mul_right _ aS
     have cu:aw.size=aw.toList.length:=by simp
     rw[cu,X,<-a0];simp only[List.length_append,List.length_take,List.length_drop];omega
    .rw[X,<-be,List.take_left,List.flatten_append];exact(hC _ _ _).2 ⟨_,_,rfl,a9,aT⟩
    .intro e X;rcases List.mem_append.1 X with X|X
     .exact bf e X
     .exact a3 e X
   rcases Nat.eq_zero_or_pos D.length with ai|ai
   .have aV:D=[]:=List.eq_nil_of_length_eq_zero ai;subst aV;have cy:F=[]:=List.eq_nil_of_length_eq_zero (by simpa using ae);subst cy;refine fin (.slice (some ⟨b,0,none⟩) xs.length aR) w b (jQ h ?_) rfl ⟨λ_ _ _=>rfl,Nat.le_refl _,rfl,rfl,rfl,Nat.le_refl _⟩ aW (br b ao) (λo v Q=>O.good b o v Q) (O.kW ab) (.inl rfl) ?_
    .rw[dM,af,an];cases a<;>simp[Builtin.append_,run_underlying ar.ee,Go.sizeOf,typeInfo,aA,Builtin.lenOf,Builtin.firstCells,loadCells,loadCellsFrom,aE,storeCells]
    .have:=bA w arr ab (by simp);simpa using this
   .obtain⟨ad,rfl,aB⟩:=aX.resolve_left (by omega);have cq:xs.length*i.size+F.length<=arr.size:=by rw[aq,ae,ba,<-Nat.add_mul];exact Nat.mul_le_mul_right _ aS
    have ag:=run_append_room (P:=G.P) w T o.type aM i ar.ee aA b xs.length aR arr ab ad D.length c F (by rw[aq];exact ae) aB bV aS cq;rw[aq]at ag;refine fin _ _ b (jQ h (by rw[dM,af,an];exact ag)) rfl (dW.setRow w b _) aW (br b ao) (λo v Q=>?_) (O.kW ab) (.inl rfl) (bA _ _ (setRow_heap w b arr _ aM _ ab) rfl);have aD:=O.good b o v Q;simp only[World.cell?,ab]at aD;simp only[World.cell?,setRow_heap w b arr _ aM _ ab];have aD:arr.toList[o]?=some v:=by simpa using aD
    have:=Im arr.toList F (xs.length*sz) o (cn o v Q) gK;rw[aD]at this;simpa using this
  ·
   have ai:0<D.length:=by omega
   obtain⟨ad,rfl,aB⟩:=aX.resolve_left (by omega);have bl:(arr.toList.take (xs.length*sz)).length=xs.length*sz:=by rw[List.length_take,Nat.min_eq_left gK]
   have holds:∀j v,(arr.toList.take (xs.length*sz))[j]?=some v->w.cell? ((⟨b,0,none⟩:Addr).add j)=some v:=λj v Q=>by
    rw[g2];rw[List.getElem?_take]at Q;split at Q
    .simp only[World.cell?,ab,Nat.zero_add];simpa using Q
    .cases Q
   have ag:=run_append_grow (P:=G.P) w T o.type aM i z ar.ee aA bi ⟨b,0,none⟩ xs.length aR _ (by rw[aq];exact bl) holds ad D.length c F (by rw[aq];exact ae) aB (by omega) (by omega) (growslice_fits (by omega) (by rw[bk];exact a7));obtain⟨aG,aF⟩:=bx aR (by omega);exact fin _ _ w.heap.size (jQ h (by rw[dM,af,an];exact ag)) rfl (bv _) (.inl O.size) a4 (a1 _) aZ (.inl rfl) (bu _ _ a9 bl bf bg aG aF)
theorem avT{s x:Operand}{T E sz bytes d2:Nat}{f:Bool}{xs a:List (List U)}(l:o.op=.call ⟨.builtin .append,#[s,x],#[T,T]⟩)(K:(ev s=.bC/\xs=[])\/(ev s=.aL true xs/\0<a.length))(b:fq σ (ev x) (.aL f a))(A:gO G.P T E sz bytes)
  (aC:∀e∈xs,e.length=sz) (aD:∀e∈a,e.length=sz) (br:a.flatten.all U.one=true) (N:(xs.length+a.length)*bytes<=140737488355328) (aA:xs.length+a.length<=maxLen) (hi:G.ids.contains d2=false)
  (a5:σ.clean [d2].contains=true) :
  eL G o ev σ [d2] [d2] (λr F=>r=.own d2/\F=(d2,.slice E sz (xs++a) 0 false)::σ):=by
 intro ai g n w am h aG;have dM:=aG s (by simp[l,Op.operands,Call.operands]);have p:=b.rep h _ (aG x (by simp[l,Op.operands,Call.operands]));simp only[az,aN]at p;obtain⟨ax,Z,p,bg,bj,_,aY⟩:=p;obtain⟨aa,C,I,Q,H,S,a8⟩:=A.info;have a7:∃c:c4,bX g a.flatten c/\(a.length=0\/∃u:Addr,ax=some u/\∀B Y,c[B]?=some Y->w.cell? (u.add B)=some Y):=by
  rcases aY with rfl|⟨aE,o,rfl,k⟩
  .exact⟨[],rfl,.inl rfl⟩
  .obtain⟨bf,aS,aT⟩:=wT h.good a o k;exact⟨bf,aS,.inr ⟨_,rfl,λB Y be=>by rw[g2];exact aT B Y be⟩⟩
 obtain⟨c,aB,ar⟩:=a7;have z:c.length=a.length*sz:=by rw[i6 _ _ aB];exact sZ a aD
 have L:xs.length+a.length<=9223372036854775807:=by simp only[maxLen]at aA;omega
 have a3:=h.jE (cw:=[d2]) (σ2:=(d2,.slice E sz (xs++a) 0 false)::σ) (env:=[]) ⟨λx b=>by rw[auU,if_neg (λe=>b (by simp[e]))],λx b=>by simp at b;subst b;simpa using hi,rfl,a5,λx b bl bs l=>by simp at b;subst b;rw[auU,if_pos rfl]at l;cases l⟩;have an:∀x,x≠d2->eg n [d2] x=n x:=λx b=>by simp[eg,b]
 have bn:∀x,(σ.get x).isSome->w.heap.size∉b3 (n x):=λx b e=>by
  obtain⟨D,b⟩:=Option.isSome_iff_exists.1 b;exact absurd (h.k3 b e) (by omega)
 have a9:g w.heap.size none=none:=h.fJ (Nat.le_refl _) none;have ba:∀(m:World) (o:Nat) y,g w.heap.size o=some y->m.cell? ⟨w.heap.size,o,none⟩=some y:=λm o y O=>by rw[h.fJ (Nat.le_refl _)]at O;cases O
 have fin:∀(i:Value) (m:World),(execOp am o).run G.P w=.ok (.value i) m->fA i=true->dW w m w.heap.size->(bE i=some w.heap.size\/b3 i=[])->bb ai g (et n d2 i) m d2 (.slice E sz (xs++a) 0 false)->
   jX G.P (λy m=>∃(aF:U) (F:W) (ab:a2) (ak:Nat->Value),(aF=.own d2/\F=(d2,b1.slice E sz (xs++a) 0 false)::σ)/\az ab ak aF y/\bG G ai ab ak F m/\bM g ab/\(∀x,x∉[d2]->ak x=n x)/\(∀x,x∉[d2]->F.get x=σ.get x)) ((execOp am o).run G.P w):=by
  intro i m aW eZ bc aV bh;rw[aW];refine⟨.own d2,_,g,et n d2 i,⟨rfl,rfl⟩,by simp only[az,eB,eZ,and_self],?_,bM.refl g,λx b=>ff n i (by simpa using b),λx b=>?_⟩
  .refine a3.turn (d:=d2) bc (.inl h.size) (λ_ _=>rfl) (λx b L e=>?_) (bM.refl g) (λ_ _ _=>rfl) (ba m) a9 (λx b=>by rw[ff n i b,an x b]) (.inl (by simpa using hi)) (λx=>?_) (by rw[eB];exact aV) (λD a6=>?_)
   .rw[auU,if_neg (Ne.symm b)]at L
    grind
   .by_cases b:x=d2
    .left;simp[eg,b]
    .right;rw[ff n i b,an x b]
   .rw[auU,if_pos rfl]at a6
    grind
  .have b:x≠d2:=by simpa using b
   rw[auU,if_neg (Ne.symm b)]
 have ag:∀R,R<xs.length+a.length->xs.length+a.length<=grownCap w (xs.length+a.length) R E/\grownCap w (xs.length+a.length) R E<=maxLen:=λR _=>⟨grownCap_ge _ _ _ _,grownCap_le_maxLen _ _ _ _ aA⟩
 have V:∀(j:c4) (aR:Nat),bX g xs.flatten j->j.length=xs.length*sz->xs.length+a.length<=aR->aR<=maxLen->
   bb ai g (et n d2 (.slice (some ⟨w.heap.size,0,none⟩) (xs.length+a.length) aR)) (w.drew.alloc (.cells (j.toArray++c.toArray++Builtin.zeroCells C.cells (aR-(xs.length+a.length))) E)) d2 (.slice E sz (xs++a) 0 false):=by
  intro j aR aZ aq a0 a1;simp only[bb,eB];have bi:(j++c).length=(xs++a).length*sz:=by rw[List.length_append,List.length_append,aq,z,Nat.add_mul]
  refine .inr (.inr ⟨w.heap.size,aR,_,by rw[List.length_append],by rw[List.length_append];exact a0,a1,heap_alloc_new w.drew _,?_,?_,?_,by omega,by simp,λo _=>h.fJ (Nat.le_refl _) o,.inl h.size⟩)
  .simp only[Array.size_append,List.size_toArray,size_zeroCells,a8,aq,z,<-Nat.add_mul];congr 1;omega
  .have:(j.toArray++c.toArray++Builtin.zeroCells C.cells (aR-(xs.length+a.length))).toList.take ((xs++a).length*sz)=j++c:=by grind
   rw[this,List.flatten_append];exact(hC _ _ _).2 ⟨_,_,rfl,aZ,aB⟩
  .intro e M;rcases List.mem_append.1 M with M|M
   .exact aC e M
   .exact aD e M
 have X:∀D,dW w (w.drew.alloc D) w.heap.size:=λD=>(dW.alloc w.drew D).drew;rcases K with⟨K,rfl⟩|⟨K,v⟩
 .rw[K]at dM;simp only[az,aN]at dM;rcases Nat.eq_zero_or_pos a.length with v|v
  .have aM:a=[]:=List.eq_nil_of_length_eq_zero v;subst aM;refine fin (.slice none 0 0) w (jQ l ?_) rfl ⟨λ_ _ _=>rfl,Nat.le_refl _,rfl,rfl,rfl,Nat.le_refl _⟩ (.inr rfl) ?_
   .rw[dM,p];cases ax<;>simp[Builtin.append_,run_underlying A.ee,Go.sizeOf,typeInfo,I,Builtin.lenOf,Builtin.firstCells,loadCells,loadCellsFrom]
   .simp only[bb,eB];exact .inr (.inl ⟨trivial,rfl,trivial⟩)
  .obtain⟨u,rfl,J⟩:=ar.resolve_left (by omega);have k:=run_append_nil (P:=G.P) w T o.type E aa C A.ee I Q u a.length Z c (by rw[H];exact z) J v (by simp at L;omega) (by simp at N;rw[S];omega);obtain⟨t,q⟩:=ag 0 (by simp;exact v);simp only[List.length_nil,Nat.zero_add]at t q;refine fin _ _ (jQ l (by rw[dM,p];exact k)) rfl (X _) (.inl rfl) ?_;have:=V [] (grownCap w a.length 0 E) rfl (by simp) (by simpa using t) q;simpa using this
 .rw[K]at dM;simp only[az,aN]at dM;obtain⟨a4,bk,dM,_,_,af,ae⟩:=dM;have af:=af trivial;subst af;obtain⟨u,rfl,J⟩:=ar.resolve_left (by omega);rcases ae with rfl|⟨aE,aI,rfl,ae⟩
  ·
   obtain⟨t,q⟩:=ag 0 (by simp;exact v);simp only[List.length_nil,Nat.zero_add]at t q;cases a4 with
   |none=>
    have k:=run_append_nil (P:=G.P) w T o.type E aa C A.ee I Q u a.length Z c (by rw[H];exact z) J v (by simp at L;omega) (by simp at N;rw[S];omega);refine fin _ _ (jQ l (by rw[dM,p];exact k)) rfl (X _) (.inl rfl) ?_;have:=V [] (grownCap w a.length 0 E) rfl (by simp) (by simpa using t) q;simpa using this
   |some aX=>
    have k:=run_append_grow (P:=G.P) w T o.type E aa C A.ee I Q aX 0 0 [] (by simp) (by simp) u a.length Z c (by rw[H];exact z) J (by omega) (by simp at L;omega) (growslice_fits (by omega) (by rw[S];simpa using N));simp only[Nat.zero_add]at k;refine fin _ _ (jQ l (by rw[dM,p];exact k)) rfl (X _) (.inl rfl) ?_;have:=V [] (grownCap w a.length 0 E) rfl (by simp) (by simpa using t) q;simpa using this
  .obtain⟨j,ao,aU⟩:=wT h.good xs aI ae;have aw:j.length=xs.length*sz:=by rw[i6 _ _ ao];exact sZ xs aC
   have k:=run_append_grow (P:=G.P) w T o.type E aa C A.ee I Q ⟨aE,aI,none⟩ xs.length xs.length j (by rw[H];exact aw) (λB y O=>by rw[g2];exact aU B y O) u a.length Z c (by rw[H];exact z) J (by omega) (by omega) (growslice_fits (by omega) (by rw[S];exact N));obtain⟨t,q⟩:=ag xs.length (by omega);exact fin _ _ (jQ l (by rw[dM,p];exact k)) rfl (X _) (.inl rfl) (V _ _ ao aw t q)
def br.makeFunc{f:FuncId}{aR:Array Operand}(h:o.op=.makeFunc (.func f) #[] aR):Yields G o ev σ [] [] (.fn f (aR.toList.map ev)):=
 .pure λO cx I β w u Q F hop=>by
  refine⟨.func (.func f) #[] (aR.map u),by simp[execOp,h,Instr.makeFunc],?_⟩;simp only[az];exact⟨_,rfl,by simpa using oS ev u aR.toList λx D=>hop x (by simp only[h,Op.operands];simpa using D)⟩
structure pt(P:Program)(T f off n:Nat)(b9:Bool):Prop where
 run:∀(cs:eN) w,off+n<=cs.size->(Instr.field T (.agg cs) f).run P w=.ok (if b9 then .agg (cs.extract off (off+n))else cs.getD off undef) w
 pos:b9=false->n=1
def br.field{T f off n:Nat}{b9:Bool}{x:Operand}{cs:List U}(h:o.op=.field T x f)(X:ev x=.agg cs)(O:pt G.P T f off n b9)(Q:Nat.ble (off+n) cs.length=true):Yields G o ev σ [] [] (ht b9 n (cs.drop off)):=
 .pure λag cx I β w ae ak af hop=>by
  have u:=hop x (by simp[h,Op.operands]);rw[X]at u
  simp only[az]at u;obtain⟨vs,u,D⟩:=u;have aa:=ko _ _ D;simp only[Array.length_toList]at aa;have Q:off+n<=cs.length:=by simpa using Q
  have Z:=qw off _ _ D;refine⟨_,by simp only[execOp,h,u,Sem.run_bind,O.run vs w (by omega),Result.andThen_ok,Sem.run_pure];rfl,?_⟩;cases b9 with
  |true=>
   simp only[ht,cond_true,if_true,az];refine⟨_,rfl,?_⟩;have:=qx n _ _ Z;simpa [Array.toList_extract,List.extract_eq_take_drop]using this
  |false=>
   simp only[ht,cond_false,Bool.false_eq_true,if_false];have ai:=O.pos rfl;have F:off<vs.size:=by omega
   have e:vs.toList.drop off=vs[off]::vs.toList.drop (off+1):=by rw[List.drop_eq_getElem_cons (by simpa using F)];simp
   rw[e]at Z;rw[Array.getD_eq_getD_getElem?,Array.getElem?_eq_getElem F];generalize cs.drop off=b2 at Z;cases b2 with
   |nil=>simp[az]
   |cons y r=>
    simp only[bx]at Z;obtain⟨au,ab,e,Z,_⟩:=Z;cases e;exact Z
def Bx{I:a2}{b sz:Nat}:∀(l:Nat) (xs:List (List U)) (o:Nat),(∀e∈xs,e.length=sz)->gw I b xs o->gw I b (xs.drop l) (o+l*sz)
 |0,xs,o,_,h=>by simpa using h
 |l+1,[],o,_,_=>by simp[gw]
 |l+1,e::r,o,a,h=>by
  simp only[gw]at h;have d:=a e (by simp);have:=Bx l r (o+e.length) (λf c=>a f (by simp[c])) h.2;rw[d]at this;rw[Nat.add_mul,Nat.one_mul];simpa [Nat.add_assoc,Nat.add_comm sz]using this
def By{I:a2}{b:Nat}:∀(a:Nat) (xs:List (List U)) (o:Nat),gw I b xs o->gw I b (xs.take a) o
 |0,_,_,_=>by simp[gw]
 |a+1,[],_,_=>by simp[gw]
 |a+1,e::r,o,c=>by
  simp only[gw,List.take_succ_cons]at c ⊢;exact⟨c.1,By a r _ c.2⟩
def run_sliceBound{k:IntKind}{n:Int}{y:Nat}{code:BoundsCode}(a:0<=n/\n<=(y:Int)):(Instr.sliceBound (.int k n) y code).run P w=.ok n.toNat w:=by
 unfold Instr.sliceBound;simp only[asIntOf,Sem.run_bind,Sem.run_pure,Result.andThen_ok];rw[if_pos a];rfl
def iR(ev:Operand->U):Option Operand->Int|none=>0|some x=>match ev x with|.int _ n=>n|_=>-1
def kM(ev:Operand->U)(len:Nat):Option Operand->Int|none=>len|some x=>match ev x with|.int _ n=>n|_=>-1
def px{I:a2}{β:Nat->Value}{c:Operand->Value}{x:Operand}(a:∃k n,ev x=.int k n)(b:az I β (ev x) (c x)):∃k n,ev x=.int k n/\c x=.int k n:=by
 obtain⟨k,n,a⟩:=a;rw[a]at b;exact⟨k,n,a,fW b⟩
def o4(ev:Operand->U):Option Operand->Prop|none=>True|some x=>∃k n,ev x=.int k n
theorem br.slice{T E sz:Nat}{x:Operand}{f:Bool}{lo hi:Option Operand}{xs:List (List U)}(h:o.op=.slice T x lo hi none)(aG:fq σ (ev x) (.aL f xs))(ag:g8 G.P T E sz)(ar:∀e∈xs,e.length=sz)(am:o4 ev lo)(aB:o4 ev hi)
  (dX:0<=iR ev lo/\iR ev lo<=kM ev xs.length hi/\kM ev xs.length hi<=xs.length) (R:cg) (aq:∀F:W,(∀d∈R,F.get d=σ.get d)->fq F (ev x) (.aL f xs)) :
  Yields G o ev σ [] R (.aL false ((xs.take (kM ev xs.length hi).toNat).drop (iR ev lo).toNat)):=
 .pure λF cx I β w X aA ao hop=>by
  have O:=(aq F aA).rep ao _ (hop x (by simp[h,Op.operands]));simp only[az,aN]at O;obtain⟨a,c,O,aI,aM,_,Q⟩:=O;generalize u:iR ev lo=l at dX ⊢;generalize D:kM ev xs.length hi=au at dX ⊢;have aD:(Instr.sliceBounds true xs.length c (lo.map X) (hi.map X) none).run G.P w=.ok (l.toNat,au.toNat,c) w:=by
   have aF:0<=au/\au<=(c:Int):=by omega
   have ak:0<=l/\l<=(au.toNat:Int):=by omega
   cases hi with
   |none=>
    simp only[kM]at D;subst D;cases lo with
    |none=>
     simp only[iR]at u;subst u;simp[Instr.sliceBounds]
    |some y=>
     obtain⟨k,n,aa,ab⟩:=px am (hop y (by simp[h,Op.operands]));simp only[iR,aa]at u;subst u;have:=run_sliceBound (P:=G.P) (k:=k) (code:=.sliceB) (w:=w) ak;simp only[Int.toNat_natCast]at this;simp[Instr.sliceBounds,ab,this]
   |some z=>
    obtain⟨aC,nz,ax,af⟩:=px aB (hop z (by simp[h,Op.operands]));simp only[kM,ax]at D;subst D;have ae:=run_sliceBound (P:=G.P) (k:=aC) (code:=.sliceAcap) (w:=w) aF;cases lo with
    |none=>
     simp only[iR]at u;subst u;simp[Instr.sliceBounds,af,ae]
    |some y=>
     obtain⟨k,n,aa,ab⟩:=px am (hop y (by simp[h,Op.operands]));simp only[iR,aa]at u;subst u;have:=run_sliceBound (P:=G.P) (k:=k) (code:=.sliceB) (w:=w) ak;simp[Instr.sliceBounds,af,ae,ab,this]
  have aw:(execOp X o).run G.P w=.ok (.value (.slice (if c=l.toNat then a else a.map (·.add (l.toNat*sz))) (au.toNat-l.toNat) (c-l.toNat))) w:=by
   have aE:∀w,(underlying T).run G.P w=.ok (.slice E) w:=λw=>run_underlying ag.ee w;simp only[execOp,h,Instr.sliceAt,Instr.slice,O,Sem.run_bind,aE,Result.andThen_ok,aD,ag.size,Sem.run_pure,Option.map_none]
  refine⟨_,aw,?_⟩;simp only[az,aN];have ai:((xs.take au.toNat).drop l.toNat).length=au.toNat-l.toNat:=by rw[List.length_drop,List.length_take];omega
  refine⟨_,c-l.toNat,by rw[ai],by rw[ai];omega,by omega,by simp,?_⟩;by_cases an:(xs.take au.toNat).drop l.toNat=[]
  .exact .inl an
  .right;have aR:l.toNat<au.toNat:=by grind
   rcases Q with rfl|⟨b,p,rfl,Q⟩
   .simp at an
   .refine⟨b,p+l.toNat*sz,?_,Bx _ _ _ (λe D=>ar e (List.mem_of_mem_take D)) (By _ _ _ Q)⟩;rw[if_neg (by omega)];simp[g2]
end ops
end
end Go.Proofs.YtmnbolcmepihlaaGreat
