/- A part of the proof; the last text says of what. No condition but those that stand in each. -/
import Derived.Orders
import Derived.Tactics
import Derived.Laws.World
import Derived.Below
import Derived.KernelRfl
import Derived.Laws.Small
import Derived.Laws.StructEq
import Derived.Laws.OwnMore
import Derived.Maps.AppendAt
import Derived.Sort.Grow
import Derived.Test.YteghoodgfjhjkaaGreatRows
import Derived.OwnWalk
namespace Go.Proofs.YteghoodgfjhjkaaGreat
section
set_option linter.all false
open Go
section
abbrev bR:=List Int
abbrev cr:=List Nat
abbrev cR:=List Value
abbrev dK:=Option Bool
abbrev fz:=Array Value
abbrev gl:=Array MapEntry
abbrev gA:=Option Int
abbrev hD:=Option Nat
abbrev ia:=Array Oper
abbrev iq:=List MapEntry
abbrev iG:=Option (List Int)
abbrev iL:=Array Nat
abbrev ja:=List (List Nat)
abbrev jt:=Array Bool
abbrev aZ:=Nat->hD->Option Value
def bQ(I TG:aZ):Prop:=∀a o b,I a o=some b->TG a o=some b
def bQ.refl(I:aZ):bQ I I:=λ_ _ _ h=>h
def bQ.trans{I J K:aZ}(h:bQ I J)(q:bQ J K):bQ I K:=λ_ _ _ x=>q _ _ _ (h _ _ _ x)
inductive iD where
 |fW (f:Nat)
 |jD (n:Nat)
 |row (i:Nat)
 |Ge (i off:Nat)
 deriving DecidableEq
inductive H where
 |c7
 |undef
 |int (k:IntKind) (n:Int)
 |bool (b:Bool)
 |str (s:ByteArray)
 |bn (full:Bool) (xs:List (List H))
 |dR (cs:List H)
 |agg (cs:List H)
 |bP (vs:List H)
 |fn (f:Nat) (aM:List H)
 |az
 |fm
 |own (d:Nat)
 |ptr (d off:Nat)
 |b6 (d:Nat)
 |cL (f:Nat) (aM:List H)
 |fc
 |cz (k:iD) (d:Nat)
 |dc (bD:List (H×H))
 |fH (bD:List (H×H))
 |arr (xs:bR)
 deriving Inhabited
def i4(es:gl)(clock:Nat):Value:=.tuple #[.int .i64 (clock:Int),.tuple (es.map λa=>.tuple #[a.key,a.val,.int .i64 (a.born:Int)])]
theorem zn{es a:gl}{c b:Nat}(h:i4 es c=i4 a b):es=a/\c=b:=by
 simp only[i4,Value.tuple.injEq,Array.mk.injEq,List.cons.injEq,Value.int.injEq,true_and,and_true,Int.ofNat_inj]at h;refine⟨?_,h.1⟩;refine Array.map_inj_right (λe f d=>?_)|>.1 h.2;simp only[Value.tuple.injEq,Array.mk.injEq,List.cons.injEq,Value.int.injEq,true_and,and_true,Int.ofNat_inj]at d;obtain⟨l,m,k⟩:=e;obtain⟨j,i,g⟩:=f
 grind
def gQ(es:gl)(clock:Nat):Prop:=(es.toList.map (·.born)).Nodup/\∀a∈es.toList,a.born<clock
mutual
def aS(I:aZ):H->Value->Prop
 |.c7,_=>True
 |.undef,v=>v=Go.undef
 |.int k n,v=>v=.int k n
 |.bool b,v=>v=.bool b
 |.str s,v=>v=.string s
 |.bn full xs,v=>∃g c,v=.slice g xs.length c/\xs.length<=c/\c<=maxLen/\(full=true->c=xs.length)/\
   (xs=[]\/∃b o,g=some ⟨b,o,none⟩/\eZ I b xs o)
 |.dR cs,v=>∃b o,v=.pointer (some ⟨b,o,none⟩)/\gE I b cs o
 |.agg cs,v=>∃a,v=.agg a/\bJ I cs a.toList
 |.bP cs,v=>∃a,v=.tuple a/\bJ I cs a.toList
 |.fn f aM,v=>∃a,v=.func (.func f) #[] a/\bJ I aM a.toList
 |.az,v=>v=.slice none 0 0
 |.fm,v=>v=.pointer none
 |.own _,_=>False
 |.ptr _ _,_=>False
 |.b6 _,_=>False
 |.cL f aM,v=>∃a,v=.func (.func f) #[] a/\bJ I aM a.toList
 |.fc,v=>∃g c,v=.slice (some g) 0 c/\c<=maxLen
 |.cz _ _,_=>False
 |.arr xs,v=>v=.agg (xs.map (Value.int .i64)).toArray
 |.dc h,v=>∃e d i,v=.map (some e)/\I e none=some (i4 d i)/\dI I h d.toList/\gQ d i
 |.fH h,v=>∃e d i j,v=.map (some e)/\I e none=some (i4 d i)/\dI I h j/\j.Perm d.toList/\(h.map Prod.fst).Nodup
def dI(I:aZ):List (H×H)->iq->Prop
 |[],b=>b=[]
 |(k,v)::r,b=>∃a c,b=a::c/\aS I k a.key/\aS I v a.val/\dI I r c
def bJ(I:aZ):List H->cR->Prop
 |[],a=>a=[]
 |x::r,a=>∃c b,a=c::b/\aS I x c/\bJ I r b
def gE(I:aZ)(b:Nat):List H->Nat->Prop
 |[],_=>True
 |x::r,o=>(∃a,I b o=some a/\aS I x a)/\gE I b r (o+1)
def eZ(I:aZ)(b:Nat):List (List H)->Nat->Prop
 |[],_=>True
 |e::r,o=>gE I b e o/\eZ I b r (o+e.length)
end
def fl:Value->Bool|.slice ..=>true|_=>false
def jd:Value->Bool|.map ..=>true|_=>false
def bK:Value->hD
 |.pointer (some a)=>some a.block
 |.slice (some a) _ _=>some a.block
 |.map (some r)=>some r
 |_=>none
def cb:Value->cr
 |.tuple a=>a.toList.filterMap bK
 |v=>(bK v).toList
def g4{v:Value}{b:Nat}(h:bK v=some b):b∈cb v:=by
 cases v<;>first|(simp[bK]at h;done)|(simp only[cb,h];simp)
def ve{v:Value}{b a:Nat}(h:bK v=some b)(c:a∈cb v):a=b:=by
 cases v<;>first|(simp[bK]at h;done)|(simp only[cb,h]at c;simpa using c)
def Ce:cb .nilFunc=[]:=rfl
def vK:cb (.slice none 0 0)=[]:=rfl
def iD.rep:iD->Value->Value->Prop
 |.fW f,h,v=>∃b,bK h=some b/\v=.func (.func f) #[.pointer (some ⟨b,0,none⟩)] #[]
 |.jD n,h,v=>∃b,bK h=some b/\v=.slice (some ⟨b,0,none⟩) n n
 |.row i,h,v=>∃q:fz,h=.tuple q/\q.toList[i]?=some v
 |.Ge i off,h,v=>∃(q:fz) (u:Value) (b:Nat),h=.tuple q/\q.toList[i]?=some u/\bK u=some b/\v=.pointer (some ⟨b,off,none⟩)
def avG{k:iD}{v:Value}(h:k.rep .nilFunc v):False:=by
 cases k with
 |fW f=>obtain⟨a,h,_⟩:=h;cases h
 |jD n=>obtain⟨a,h,_⟩:=h;cases h
 |row i=>obtain⟨b,h,_⟩:=h;cases h
 |Ge i off=>obtain⟨b,c,a,h,_⟩:=h;cases h
mutual
def au(I:aZ)(β:Nat->Value):H->Value->Prop
 |.agg cs,v=>∃a,v=.agg a/\br I β cs a.toList
 |.bP cs,v=>∃a,v=.tuple a/\br I β cs a.toList
 |.fn f aM,v=>∃a,v=.func (.func f) #[] a/\br I β aM a.toList
 |.own d,v=>v=β d/\fl v=true
 |.ptr d off,v=>∃b,bK (β d)=some b/\v=.pointer (some ⟨b,off,none⟩)
 |.b6 d,v=>v=β d/\jd v=true
 |.c7,_=>True
 |.undef,v=>aS I .undef v
 |.int k n,v=>aS I (.int k n) v
 |.bool b,v=>aS I (.bool b) v
 |.str s,v=>aS I (.str s) v
 |.bn f xs,v=>aS I (.bn f xs) v
 |.dR cs,v=>aS I (.dR cs) v
 |.az,v=>aS I .az v
 |.fm,v=>aS I .fm v
 |.cL f aM,v=>aS I (.cL f aM) v
 |.fc,v=>aS I .fc v
 |.cz k d,v=>k.rep (β d) v
 |.dc c,v=>aS I (.dc c) v
 |.fH c,v=>aS I (.fH c) v
 |.arr xs,v=>aS I (.arr xs) v
def br(I:aZ)(β:Nat->Value):List H->cR->Prop
 |[],a=>a=[]
 |x::r,a=>∃c b,a=c::b/\au I β x c/\br I β r b
end
mutual
def hl{I TG:aZ}(h:bQ I TG):∀(x:H) (v:Value),aS I x v->aS TG x v
 |.c7,_,_=>trivial
 |.undef,_,r=>r
 |.int _ _,_,r=>r
 |.bool _,_,r=>r
 |.str _,_,r=>r
 |.bn full xs,v,r=>by
   simp only[aS]at r ⊢;obtain⟨n,p,b,a,i,g,e⟩:=r;refine⟨n,p,b,a,i,g,?_⟩;rcases e with e|⟨c,o,e,m⟩
   .exact .inl e
   .exact .inr ⟨c,o,e,yq h xs c o m⟩
 |.dR cs,v,r=>by
   simp only[aS]at r ⊢;obtain⟨c,o,b,a⟩:=r;exact⟨c,o,b,Ci h cs c o a⟩
 |.agg cs,v,r=>by
   simp only[aS]at r ⊢;obtain⟨d,b,a⟩:=r;exact⟨d,b,iI h cs _ a⟩
 |.bP cs,v,r=>by
   simp only[aS]at r ⊢;obtain⟨d,b,a⟩:=r;exact⟨d,b,iI h cs _ a⟩
 |.fn f aM,v,r=>by
   simp only[aS]at r ⊢;obtain⟨d,b,a⟩:=r;exact⟨d,b,iI h aM _ a⟩
 |.az,_,r=>r
 |.fm,_,r=>r
 |.own _,_,r=>r
 |.ptr _ _,_,r=>r
 |.b6 _,_,r=>r
 |.cL f aM,v,r=>by
   simp only[aS]at r ⊢;obtain⟨d,b,a⟩:=r;exact⟨d,b,iI h aM _ a⟩
 |.fc,_,r=>by simp only[aS]at r ⊢;exact r
 |.cz _ _,_,r=>r
 |.arr _,v,r=>by simpa only[aS]using r
 |.dc j,v,r=>by
   simp only[aS]at r ⊢;obtain⟨c,l,k,b,a,i,g⟩:=r;exact⟨c,l,k,b,h _ _ _ a,l3 h j _ i,g⟩
 |.fH j,v,r=>by
   simp only[aS]at r ⊢;obtain⟨c,l,k,q,b,a,i,g⟩:=r;exact⟨c,l,k,q,b,h _ _ _ a,l3 h j _ i,g⟩
def l3{I TG:aZ}(h:bQ I TG):∀(x:List (H×H)) (es:iq),dI I x es->dI TG x es
 |[],_,r=>r
 |(k,b)::x,es,r=>by
   simp only[dI]at r ⊢;obtain⟨f,a,g,d,e,c⟩:=r;exact⟨f,a,g,hl h k _ d,hl h b _ e,l3 h x a c⟩
def iI{I TG:aZ}(h:bQ I TG):∀(x:List H) (v:cR),bJ I x v->bJ TG x v
 |[],_,r=>r
 |x::xs,v,r=>by
   simp only[bJ]at r ⊢;obtain⟨b,a,e,c,d⟩:=r;exact⟨b,a,e,hl h x b c,iI h xs a d⟩
def Ci{I TG:aZ}(h:bQ I TG):∀(x:List H) (b o:Nat),gE I b x o->gE TG b x o
 |[],_,_,r=>r
 |x::xs,b,o,r=>by
   simp only[gE]at r ⊢;obtain⟨⟨a,e,c⟩,d⟩:=r;exact⟨⟨a,h _ _ _ e,hl h x a c⟩,Ci h xs b (o+1) d⟩
def yq{I TG:aZ}(h:bQ I TG):∀(x:List (List H)) (b o:Nat),eZ I b x o->eZ TG b x o
 |[],_,_,r=>r
 |x::xs,b,o,r=>by
   simp only[eZ]at r ⊢;exact⟨Ci h x b o r.1,yq h xs b (o+x.length) r.2⟩
end
def eC(β β':Nat->Value):Prop:=∀a,β a=.nilFunc\/β' a=β a
def eC.refl(β:Nat->Value):eC β β:=λ_=>.inr rfl
mutual
def H.refs(p:Nat->Bool):H->Bool
 |.agg cs=>i6 p cs
 |.bP cs=>i6 p cs
 |.fn _ cs=>i6 p cs
 |.own d=>p d
 |.ptr d _=>p d
 |.cz _ d=>p d
 |.b6 d=>p d
 |_=>false
def i6(p:Nat->Bool):List H->Bool
 |[]=>false
 |x::r=>x.refs p||i6 p r
end
mutual
def yR{p:Nat->Bool}(h:∀d,p d=false):∀x:H,x.refs p=false
 |.c7|.undef|.int _ _|.bool _|.str _|.bn _ _|.dR _|.az|.fm|.cL _ _|.fc|.dc _|.fH _|.arr _=>rfl
 |.agg cs=>by simp only[H.refs];exact pP h cs
 |.bP cs=>by simp only[H.refs];exact pP h cs
 |.fn _ cs=>by simp only[H.refs];exact pP h cs
 |.own d=>h d
 |.ptr d _=>h d
 |.cz _ d=>h d
 |.b6 d=>h d
def pP{p:Nat->Bool}(h:∀d,p d=false):∀x:List H,i6 p x=false
 |[]=>rfl
 |x::r=>by simp only[i6,yR h x,pP h r,Bool.or_self]
end
mutual
def H.ck(r:Nat->Nat):H->H
 |.agg cs=>.agg (iB r cs)
 |.bP cs=>.bP (iB r cs)
 |.fn f cs=>.fn f (iB r cs)
 |.own d=>.own (r d)
 |.ptr d o=>.ptr (r d) o
 |.cz k d=>.cz k (r d)
 |.b6 d=>.b6 (r d)
 |x=>x
def iB(r:Nat->Nat):List H->List H
 |[]=>[]
 |x::t=>x.ck r::iB r t
end
mutual
def H.p9:∀x:H,x.ck id=x
 |.c7|.undef|.int _ _|.bool _|.str _|.bn _ _|.dR _|.az|.fm|.cL _ _|.fc|.dc _|.fH _|.arr _|.own _|.ptr _ _|.cz _ _|.b6 _=>rfl
 |.agg cs=>by simp only[H.ck,r8 cs]
 |.bP cs=>by simp only[H.ck,r8 cs]
 |.fn _ cs=>by simp only[H.ck,r8 cs]
def r8:∀l:List H,iB id l=l
 |[]=>rfl
 |x::t=>by simp only[iB,H.p9 x,r8 t]
end
mutual
theorem wo{I TG:aZ}{β β':Nat->Value}{r:Nat->Nat}{p:Nat->Bool}(h:bQ I TG)(c:∀d,p d=false->β d=.nilFunc\/β' (r d)=β d):∀(x:H) (v:Value),x.refs p=false->au I β x v->au TG β' (x.ck r) v
 |.c7,_,_,_=>trivial
 |.undef,v,_,a|.int _ _,v,_,a|.bool _,v,_,a|.str _,v,_,a|.bn _ _,v,_,a|.dR _,v,_,a|.az,v,_,a|.fm,v,_,a|.cL _ _,v,_,a|.fc,v,_,a|.dc _,v,_,a|.fH _,v,_,a|.arr _,v,_,a=>by simp only[au,H.ck]at a ⊢;exact hl h _ v a
 |.agg cs,v,e,a|.bP cs,v,e,a|.fn _ cs,v,e,a=>by
   simp only[au,H.ck,H.refs]at a e ⊢;obtain⟨i,g,f⟩:=a;exact⟨i,g,vy h c cs _ e f⟩
 |.own d,v,e,a|.b6 d,v,e,a=>by
   simp only[au,H.ck,H.refs]at a e ⊢;obtain⟨rfl,a⟩:=a;rcases c d e with b|b
   .rw[b]at a;cases a
   .grind
 |.ptr d o,v,e,a=>by
   simp only[au,H.ck,H.refs]at a e ⊢;rcases c d e with b|b
   .rw[b]at a;obtain⟨_,a,_⟩:=a;cases a
   .rw[b];exact a
 |.cz _ d,v,e,a=>by
   simp only[au,H.ck,H.refs]at a e ⊢;rcases c d e with b|b
   .rw[b]at a;exact(avG a).elim
   .rw[b];exact a
theorem vy{I TG:aZ}{β β':Nat->Value}{r:Nat->Nat}{p:Nat->Bool}(h:bQ I TG)(c:∀d,p d=false->β d=.nilFunc\/β' (r d)=β d):∀(x:List H) (v:cR),i6 p x=false->br I β x v->br TG β' (iB r x) v
 |[],_,_,q=>q
 |x::xs,v,e,q=>by
   simp only[br,iB,i6,Bool.or_eq_false_iff]at q e ⊢;obtain⟨b,a,i,f,g⟩:=q;exact⟨b,a,i,wo h c x b e.1 f,vy h c xs a e.2 g⟩
end
section
variable {I TG:aZ}{β β':Nat->Value}{p:Nat->Bool}
def vf(h:bQ I TG)(a:eC β β')(x:H)(v:Value)(q:au I β x v):au TG β' x v:=x.p9▸wo (p:=λ_=>false) h (λb _=>a b) x v (yR (λ_=>rfl) x) q
def Dj(h:bQ I TG)(a:eC β β')(x:List H)(v:cR)(q:br I β x v):br TG β' x v:=r8 x▸vy (p:=λ_=>false) h (λb _=>a b) x v (pP (λ_=>rfl) x) q
def oh(a:∀d,p d=false->β' d=β d)(x:H)(v:Value)(e:x.refs p=false)(q:au I β x v):au I β' x v:=x.p9▸wo (bQ.refl I) (λd e=>.inr (a d e)) x v e q
end
inductive eL where
 |sl (T:TypeId) (sz:Nat) (xs:List (List H))
 |mp (K E:TypeId) (bD:List (H×H))
inductive bY where
 |cells (T:TypeId) (cs:List H)
 |slice (T:TypeId) (sz:Nat) (xs:List (List H)) (k:Nat) (bN:Bool)
 |map (K E:TypeId) (bD:List (H×H))
 |win (T:TypeId) (sz:Nat) (xs:List (List H))
 |ic (K E:TypeId) (bD:List (H×H))
 |eV (es:gl) (clock:Nat) (K E:TypeId) (bD:List (H×H))
 |iter (b1 ad1 acJ:Nat) (seen:iL)
 |hdr (b1 n:Nat)
 |cE (dj:List eL)
 |fA (T:TypeId) (e n:Nat) (Vp:Option (hD×Nat))
 |lu (T:TypeId) (sz:Nat) (xs:List (List H)) (UL e:Nat) (Vp:Option (hD×Nat))
 |ew (T:TypeId) (sz:Nat) (xs:List (List H)) (UL e:Nat) (Vp:Option (hD×Nat))
 |dD (K E:TypeId) (e:Nat) (keys:List H) (Vp:Option (hD×Nat)) (W4:Option (gl×Nat))
 |l9 (T:TypeId) (xs:List (List H)) (t:Nat)
 |vec (T:TypeId) (xs:bR)
 |oM (es:gl) (clock:Nat) (bD:List (H×H)) (seen:iL)
abbrev U:=List (Nat×bY)
def U.get:U->Nat->Option bY
 |[],_=>none
 |(k,v)::r,n=>bif Nat.beq k n then some v else U.get r n
abbrev ag:=List (Nat×H)
def ag.get:ag->Nat->H
 |[],_=>.c7
 |(k,v)::r,n=>bif Nat.beq k n then v else ag.get r n
def ag.put(env:ag)(d:hD)(v:H):ag:=match d with|some t=>(t,v)::env|none=>env
theorem atK(k:Nat)(v:H)(r:ag)(n:Nat):ag.get ((k,v)::r) n=if k=n then v else ag.get r n:=by
 simp only[ag.get]
 simp_all
theorem atw(k:Nat)(v:bY)(r:U)(n:Nat):U.get ((k,v)::r) n=if k=n then some v else U.get r n:=by
 simp only[U.get]
 simp_all
mutual
def gR:Value->H
 |.int k n=>.int k n
 |.bool b=>.bool b
 |.string s=>.str s
 |.slice none 0 0=>.az
 |.pointer none=>.fm
 |.agg ⟨cs⟩=>.agg (jb cs)
 |_=>.c7
def jb:cR->List H
 |[]=>[]
 |x::r=>gR x::jb r
end
mutual
def zN(I:aZ)(β:Nat->Value):∀v,au I β (gR v) v
 |.int k n=>by simp[gR,au,aS]
 |.bool b=>by simp[gR,au,aS]
 |.string s=>by simp[gR,au,aS]
 |.slice none 0 0=>by simp[gR,au,aS]
 |.slice none 0 (n+1)=>by simp[gR,au]
 |.slice none (m+1) n=>by simp[gR,au]
 |.slice (some a) m n=>by simp[gR,au]
 |.pointer none=>by simp[gR,au,aS]
 |.pointer (some a)=>by simp[gR,au]
 |.agg ⟨cs⟩=>by simp only[gR,au];exact⟨_,rfl,yS I β cs⟩
 |.float _ _=>by simp[gR,au]
 |.complex _ _ _=>by simp[gR,au]
 |.map _=>by simp[gR,au]
 |.chan _=>by simp[gR,au]
 |.func _ _ _=>by simp[gR,au]
 |.nilFunc=>by simp[gR,au]
 |.iface _ _=>by simp[gR,au]
 |.nilIface=>by simp[gR,au]
 |.tuple _=>by simp[gR,au]
def yS(I:aZ)(β:Nat->Value):∀vs,br I β (jb vs) vs
 |[]=>by simp[jb,br]
 |x::r=>by simp only[jb,br];exact⟨x,r,rfl,zN I β x,yS I β r⟩
end
def ag.ev(env:ag):Operand->H
 |.tmp t=>env.get t
 |.const v=>gR v
 |.func f=>.fn f []
 |.global _=>.c7
structure bG where
 P:Program
 N:Nat
 ids:cr
structure c0 where
 B:Nat
 w0:World
 I0:aZ
 nN:cr
 nx:Nat->Value
def Place(cx:c0)(b:Nat):Prop:=cx.B<=b\/b∈cx.nN
def gw(cx:c0)(I:aZ)(w:World):eL->Value->Prop
 |.sl g e xs,v=>(v=.slice none 0 0/\xs=[])\/
   ∃a aM c,v=.slice (some ⟨a,0,none⟩) xs.length aM/\xs.length<=aM/\aM<=maxLen/\w.heap[a]?=some (.cells c g (0,0))/\c.size=aM*e/\
    bJ I xs.flatten (c.toList.take (xs.length*e))/\(∀i∈xs,i.length=e)/\(∀o:Nat,I a o=none)/\Place cx a
 |.mp _ _ h,v=>∃b d f,v=.map (some b)/\w.heap[b]?=some (.map d f)/\dI I h d.toList/\(∀o,I b o=none)/\Place cx b/\gQ d f
def fE(cx:c0)(I:aZ)(w:World):List eL->cR->Prop
 |[],c=>c=[]
 |x::r,c=>∃b a,c=b::a/\gw cx I w x b/\(∀d,bK b=some d->d∉a.filterMap bK)/\fE cx I w r a
def mg(β:Nat->Value)(a b:cR):Option (hD×Nat)->Prop
 |none=>b=a
 |some (none,_)=>b=a
 |some (some i,t)=>i<a.length/\β t≠.nilFunc/\b=a.set i (β t)
def gv(I:aZ):List H->cR->iq->Prop
 |[],c,b=>c=[]/\b=[]
 |k::g,c,b=>∃f d a e,c=f::d/\b=a::e/\aS I k a.key/\a.val=f/\gv I g d e
def jw(sz d:Nat)(c vs:cR):cR:=vs.mapIdx λa b=>if a%sz=d then c.getD (a / sz) b else b
def bc(cx:c0)(I:aZ)(β:Nat->Value)(w:World)(d:Nat):bY->Prop
  |.cells T cs=>β d=.nilFunc\/∃b arr,β d=.pointer (some ⟨b,0,none⟩)/\w.heap[b]?=some (.cells arr T (0,0))/\br I β cs arr.toList/\(∀o,I b o=none)/\Place cx b
  |.slice T sz xs k bN=>β d=.nilFunc\/(β d=.slice none 0 0/\xs=[]/\k=0)\/
      ∃b aM arr,β d=.slice (some ⟨b,0,none⟩) xs.length aM/\xs.length<=aM/\aM<=maxLen/\w.heap[b]?=some (.cells arr T (0,0))/\arr.size=aM*sz/\
        bJ I xs.flatten (arr.toList.take (xs.length*sz))/\(∀e∈xs,e.length=sz)/\k<=xs.length/\
        (bN=true->∀o,o<xs.length*sz->I b o=arr[o]?)/\(∀o,k*sz<=o->I b o=none)/\Place cx b
  |.map _ _ h=>β d=.nilFunc\/∃r es clock,β d=.map (some r)/\w.heap[r]?=some (.map es clock)/\dI I h es.toList/\(∀o,I r o=none)/\Place cx r/\gQ es clock
  |.ic _ _ h=>β d=.nilFunc\/∃r es clock,β d=.map (some r)/\I r none=some (i4 es clock)/\dI I h es.toList/\Place cx r/\gQ es clock
  |.eV es clock _ _ h=>β d=.nilFunc\/∃r,β d=.map (some r)/\w.heap[r]?=some (.map es clock)/\dI I h es.toList/\(∀o,I r o=none)/\Place cx r/\gQ es clock
  |.iter b1 s p seen=>β d=.nilFunc\/∃r j,β d=.pointer (some ⟨r,0,none⟩)/\bK (β b1)=some j/\w.heap[r]?=some (.mapIter (some j) s seen p)/\(∀o,I r o=none)/\Place cx r
  |.hdr b1 n=>β d=.pointer none/\∃a c,β b1=.slice a n c
  |.cE dj=>β d=.nilFunc\/∃f:fz,β d=.tuple f/\fE cx I w dj f.toList
  |.fA T e n g=>β d=.nilFunc\/∃b aM arr f,β d=.slice (some ⟨b,0,none⟩) n aM/\n<=aM/\aM<=maxLen/\w.heap[b]?=some (.cells arr T (0,0))/\arr.size=aM/\
        β e=.tuple f/\f.size=n/\mg β f.toList (arr.toList.take n) g/\(∀o:Nat,I b o=none)/\Place cx b
  |.lu T sz xs l e g=>β d=.nilFunc\/∃b aM arr f vs,β d=.slice (some ⟨b,0,none⟩) xs.length aM/\xs.length<=aM/\aM<=maxLen/\w.heap[b]?=some (.cells arr T (0,0))/\arr.size=aM*sz/\
        β e=.tuple f/\(l<sz->f.size=xs.length)/\(bJ I xs.flatten vs/\(∀e∈xs,e.length=sz)/\mg β (jw sz l f.toList vs) (arr.toList.take (xs.length*sz)) g)/\(∀o:Nat,I b o=none)/\Place cx b
  |.ew T sz xs l e g=>β d=.nilFunc\/∃b aM arr f i vs,β d=.slice (some ⟨b,0,none⟩) xs.length aM/\xs.length<=aM/\aM<=maxLen/\w.heap[b]?=some (.cells arr T (0,0))/\arr.size=aM*sz/\
        β e=.tuple f/\f.size=xs.length/\mg β f.toList i g/\(bJ I xs.flatten vs/\(∀e∈xs,e.length=sz)/\arr.toList.take (xs.length*sz)=jw sz l i vs)/\(∀o:Nat,I b o=none)/\Place cx b
  |.dD _ _ e keys g m=>β d=.nilFunc\/∃r es clock f i,β d=.map (some r)/\w.heap[r]?=some (.map es clock)/\β e=.tuple f/\mg β f.toList i g/\gv I keys i es.toList/\
        (∀o,I r o=none)/\Place cx r/\gQ es clock/\(∀q,m=some q->q=(es,clock))
  |.l9 T xs t=>β d=.nilFunc\/∃b aM arr,β d=.slice (some ⟨b,0,none⟩) (xs.length+1) aM/\xs.length+1<=aM/\aM<=maxLen/\w.heap[b]?=some (.cells arr T (0,0))/\arr.size=aM/\
        bJ I xs.flatten (arr.toList.take xs.length)/\(∀e∈xs,e.length=1)/\arr[xs.length]?=some (β t)/\β t≠.nilFunc/\(∀o:Nat,I b o=none)/\Place cx b
  |.vec T xs=>β d=.nilFunc\/∃b arr,β d=.pointer (some ⟨b,0,none⟩)/\w.heap[b]?=some (.cells arr T (0,0))/\arr.toList=xs.map (Value.int .i64)/\(∀o,I b o=none)/\Place cx b
  |.oM es clock h seen=>β d=.nilFunc\/∃r j,β d=.pointer (some ⟨r,0,none⟩)/\w.heap[r]?=some (.mapIter (some j) clock seen clock)/\I j none=some (i4 es clock)/\dI I h es.toList/\gQ es clock/\(∀o,I r o=none)/\Place cx r
  |.win T sz xs=>β d=.nilFunc\/(β d=.slice none 0 0/\xs=[])\/
      ∃b o0 aM arr,β d=.slice (some ⟨b,o0,none⟩) xs.length aM/\xs.length<=aM/\aM<=maxLen/\w.heap[b]?=some (.cells arr T (0,0))/\(xs.length<aM->o0+aM*sz<=arr.size)/\
        eZ I b xs o0/\(∀e∈xs,e.length=sz)/\(xs.length<aM->∀o,o0+xs.length*sz<=o->I b o=none)/\Place cx b
variable {cx hx:c0}{w w':World}
def gw.go{I TG:aZ}{x:eL}{v:Value}(bp:bQ I TG)(ab:∀b,bK v=some b->(b<w.heap.size->w'.heap[b]?=w.heap[b]?)/\(∀o,TG b o=I b o)/\(Place cx b->Place hx b))(h:gw cx I w x v):gw hx TG w' x v:=by
 cases x with
 |sl T sz xs=>
  rcases h with h|⟨b,aM,arr,q,C,Q,u,O,X,ae,ah,af⟩
  .exact .inl h
  .obtain⟨Y,S,Z⟩:=ab b (by rw[q];rfl);exact .inr ⟨b,aM,arr,q,C,Q,(Y (Array.getElem?_eq_some_iff.1 u).1).trans u,O,iI bp _ _ X,ae,λo=>(S o).trans (ah o),Z af⟩
 |mp K E ai=>
  obtain⟨r,es,clock,q,C,Q,u,O,X⟩:=h;obtain⟨Y,S,Z⟩:=ab r (by rw[q];rfl);exact⟨r,es,clock,q,(Y (Array.getElem?_eq_some_iff.1 C).1).trans C,l3 bp _ _ Q,λo=>(S o).trans (u o),Z O,X⟩
theorem fE.go{cx hx:c0}{I TG:aZ}{w w':World}(bp:bQ I TG):∀{dj:List eL} {vs:cR},(∀b∈vs.filterMap bK,(b<w.heap.size->w'.heap[b]?=w.heap[b]?)/\(∀o,TG b o=I b o)/\(Place cx b->Place hx b))->fE cx I w dj vs->fE hx TG w' dj vs
 |[],_,_,h=>h
 |x::r,vs,q,h=>by
  obtain⟨C,u,rfl,X,O,Q⟩:=h;refine⟨C,u,rfl,X.go bp λb S=>q b ?_,O,fE.go bp (λb Y=>q b ?_) Q⟩
  .simp[S]
  .grind
def gv.mono{I TG:aZ}(bp:bQ I TG):∀{ks:List H} {vs:cR} {es:iq},gv I ks vs es->gv TG ks vs es
 |[],_,_,h=>h
 |k::ks,vs,es,h=>by
  obtain⟨v,u,e,S,X,O,Q,C,q⟩:=h;exact⟨v,u,e,S,X,O,hl bp k _ Q,C,gv.mono bp q⟩
def ih(p:Nat->Bool):bY->Bool
 |.cells _ cs=>i6 p cs
 |.iter a _ _ _=>p a
 |.hdr a _=>p a
 |.ew _ _ _ _ e h=>p e||(match h with|some (_,t)=>p t|none=>false)
 |.lu _ _ _ _ e h=>p e||(match h with|some (_,t)=>p t|none=>false)
 |.fA _ e _ h=>p e||(match h with|some (_,t)=>p t|none=>false)
 |.dD _ _ e _ h _=>p e||(match h with|some (_,t)=>p t|none=>false)
 |.l9 _ _ t=>p t
 |_=>false
def fv{b:Nat}{x:Obj}(h:w.heap[b]?=some x):b<w.heap.size:=(Array.getElem?_eq_some_iff.1 h).1
def j1(r:Nat->Nat):Option (hD×Nat)->Option (hD×Nat)
 |none=>none
 |some (i,t)=>some (i,r t)
def bY.ck(r:Nat->Nat):bY->bY
 |.cells T cs=>.cells T (iB r cs)
 |.iter u Q O seen=>.iter (r u) Q O seen
 |.hdr u n=>.hdr (r u) n
 |.fA T e n h=>.fA T (r e) n (j1 r h)
 |.lu T sz xs q e h=>.lu T sz xs q (r e) (j1 r h)
 |.ew T sz xs q e h=>.ew T sz xs q (r e) (j1 r h)
 |.dD K E e keys h C=>.dD K E (r e) keys (j1 r h) C
 |.l9 T xs t=>.l9 T xs (r t)
 |o=>o
def bY.p9:∀o:bY,o.ck id=o
 |.cells T cs=>by simp only[bY.ck,r8 cs]
 |.slice ..|.map ..|.ic ..|.eV ..|.cE ..|.vec ..|.oM ..|.iter ..|.hdr ..|.l9 ..=>rfl
 |.fA _ _ _ h|.lu _ _ _ _ _ h|.ew _ _ _ _ _ h|.dD _ _ _ _ h _=>by cases h<;>rfl
 |.win ..=>rfl
theorem bc.go{cx hx:c0}{I TG:aZ}{β β':Nat->Value}{w w':World}{r:Nat->Nat}{p:Nat->Bool}{d cf:Nat}{o:bY}(bp:bQ I TG)(hd:β' cf=β d)(aF:∀x,p x=false->β x=.nilFunc\/β' (r x)=β x)
  (aw:∀b∈cb (β d),(b<w.heap.size->w'.heap[b]?=w.heap[b]?)/\(∀o,TG b o=I b o)/\(Place cx b->Place hx b)) (ae:ih p o=false) (h:bc cx I β w d o):bc hx TG β' w' cf (o.ck r):=by
 have am:∀x,p x=false->β x≠.nilFunc->β' (r x)=β x:=λx aJ aG=>(aF x aJ).resolve_left aG
 have ax:∀{h:Option (hD×Nat)} {ak ao:cR},(match h with|some (_,t)=>p t|none=>false)=false->mg β ak ao h->mg β' ak ao (j1 r h):=λ{h ak ao} e u=>by
  match h,e,u with
  |none,_,u=>exact u
  |some (none,_),_,u=>exact u
  |some (some i,t),e,⟨q,C,O⟩=>have k:=am t e C;exact⟨q,by rw[k];exact C,by rw[k];exact O⟩
 have ai:∀{b},bK (β d)=some b->∀{x},w.heap[b]?=some x->w'.heap[b]?=some x/\(∀{aE o},I b o=aE->TG b o=aE)/\(Place cx b->Place hx b):=λe _ u=>by
  obtain⟨X,S,Z⟩:=aw _ (g4 e);exact⟨(X (fv u)).trans u,λe=>(S _).trans e,Z⟩
 cases o with
 |hdr aC n=>
  simp only[bc,bY.ck,hd]at h ⊢;obtain⟨q,a,c,C⟩:=h;exact⟨q,a,c,by rw[am aC ae (by rw[C];nofun)];exact C⟩
 |cE dj=>
  simp only[bc,bY.ck,hd]at h ⊢;rcases h with u|⟨ak,q,C⟩
  .exact .inl u
  .exact .inr ⟨ak,q,C.go bp λb aI=>aw b (by rw[q];exact aI)⟩
 |cells T cs=>
  simp only[bc,bY.ck,hd]at h ⊢;rcases h with u|⟨b,arr,q,C,O,Q,Y⟩
  .exact .inl u
  .obtain⟨X,S,Z⟩:=ai (by rw[q];rfl) C;exact .inr ⟨b,arr,q,X,vy bp aF cs _ ae O,λo=>S (Q o),Z Y⟩
 |slice T sz xs k bN=>
  simp only[bc,bY.ck,hd]at h ⊢;rcases h with u|u|⟨b,aM,arr,q,C,O,Q,Y,ab,af,ah,aj,an,ar⟩
  .exact .inl u
  .grind
  .obtain⟨X,S,Z⟩:=ai (by rw[q];rfl) Q;exact .inr (.inr ⟨b,aM,arr,q,C,O,X,Y,iI bp _ _ ab,af,ah,λhz o aq=>S (aj hz o aq),λo aq=>S (an o aq),Z ar⟩)
 |win T sz xs=>
  simp only[bc,bY.ck,hd]at h ⊢;rcases h with u|u|⟨b,aQ,aM,arr,q,C,O,Q,Y,ab,af,ah,aj⟩
  .exact .inl u
  .grind
  .obtain⟨X,S,Z⟩:=ai (by rw[q];rfl) Q;exact .inr (.inr ⟨b,aQ,aM,arr,q,C,O,X,Y,yq bp _ _ _ ab,af,λhz o aq=>S (ah hz o aq),Z aj⟩)
 |map K E aD=>
  simp only[bc,bY.ck,hd]at h ⊢;rcases h with u|⟨b,es,clock,q,C,O,Q,Y,ab⟩
  .exact .inl u
  .obtain⟨X,S,Z⟩:=ai (by rw[q];rfl) C;exact .inr ⟨b,es,clock,q,X,l3 bp _ _ O,λo=>S (Q o),Z Y,ab⟩
 |ic K E aD=>
  simp only[bc,bY.ck,hd]at h ⊢;rcases h with u|⟨b,es,clock,q,C,O,Q,Y⟩
  .exact .inl u
  .exact .inr ⟨b,es,clock,q,bp _ _ _ C,l3 bp _ _ O,(aw b (g4 (by rw[q];rfl))).2.2 Q,Y⟩
 |eV es clock K E aD=>
  simp only[bc,bY.ck,hd]at h ⊢;rcases h with u|⟨b,q,C,O,Q,Y,ab⟩
  .exact .inl u
  .obtain⟨X,S,Z⟩:=ai (by rw[q];rfl) C;exact .inr ⟨b,q,X,l3 bp _ _ O,λo=>S (Q o),Z Y,ab⟩
 |iter aC aV aU seen=>
  simp only[bc,bY.ck,hd]at h ⊢;rcases h with u|⟨b,av,q,C,O,Q,Y⟩
  .exact .inl u
  .obtain⟨X,S,Z⟩:=ai (by rw[q];rfl) O;exact .inr ⟨b,av,q,by rw[am aC ae λe=>by rw[e]at C;cases C];exact C,X,λo=>S (Q o),Z Y⟩
 |fA T e n au=>
  simp only[bc,bY.ck,hd]at h ⊢;simp only[ih,Bool.or_eq_false_iff]at ae;rcases h with u|⟨b,aM,arr,ak,q,C,O,Q,Y,ab,af,ah,aj,an⟩
  .exact .inl u
  .obtain⟨X,S,Z⟩:=ai (by rw[q];rfl) Q
   grind
 |lu T sz xs aH e au=>
  simp only[bc,bY.ck,hd]at h ⊢;simp only[ih,Bool.or_eq_false_iff]at ae;rcases h with u|⟨b,aM,arr,ak,vs,q,C,O,Q,Y,ab,af,ah,aj,an⟩
  .exact .inl u
  .obtain⟨X,S,Z⟩:=ai (by rw[q];rfl) Q;exact .inr ⟨b,aM,arr,ak,vs,q,C,O,X,Y,(am e ae.1 (by rw[ab];nofun)).trans ab,af,⟨iI bp _ _ ah.1,ah.2.1,ax ae.2 ah.2.2⟩,λo=>S (aj o),Z an⟩
 |ew T sz xs aH e au=>
  simp only[bc,bY.ck,hd]at h ⊢;simp only[ih,Bool.or_eq_false_iff]at ae;rcases h with u|⟨b,aM,arr,ak,ao,vs,q,C,O,Q,Y,ab,af,ah,aj,an,ar⟩
  .exact .inl u
  .obtain⟨X,S,Z⟩:=ai (by rw[q];rfl) Q;exact .inr ⟨b,aM,arr,ak,ao,vs,q,C,O,X,Y,(am e ae.1 (by rw[ab];nofun)).trans ab,af,ax ae.2 ah,⟨iI bp _ _ aj.1,aj.2⟩,λo=>S (an o),Z ar⟩
 |dD K E e keys au aT=>
  simp only[bc,bY.ck,hd]at h ⊢;simp only[ih,Bool.or_eq_false_iff]at ae;rcases h with u|⟨b,es,clock,ak,ao,q,C,O,Q,Y,ab,af,ah⟩
  .exact .inl u
  .obtain⟨X,S,Z⟩:=ai (by rw[q];rfl) C;exact .inr ⟨b,es,clock,ak,ao,q,X,(am e ae.1 (by rw[O];nofun)).trans O,ax ae.2 Q,Y.mono bp,λo=>S (ab o),Z af,ah⟩
 |l9 T xs t=>
  simp only[bc,bY.ck,hd]at h ⊢;rcases h with u|⟨b,aM,arr,q,C,O,Q,Y,ab,af,ah,aj,an,ar⟩
  .exact .inl u
  .obtain⟨X,S,Z⟩:=ai (by rw[q];rfl) Q;exact .inr ⟨b,aM,arr,q,C,O,X,Y,iI bp _ _ ab,af,by rw[am t ae aj];exact ah,by rw[am t ae aj];exact aj,λo=>S (an o),Z ar⟩
 |vec T xs=>
  simp only[bc,bY.ck,hd]at h ⊢;rcases h with u|⟨b,arr,q,C,O,Q,Y⟩
  .exact .inl u
  .obtain⟨X,S,Z⟩:=ai (by rw[q];rfl) C
   grind
 |oM es clock aD seen=>
  simp only[bc,bY.ck,hd]at h ⊢;rcases h with u|⟨b,av,q,C,O,Q,Y,ab,af⟩
  .exact .inl u
  .obtain⟨X,S,Z⟩:=ai (by rw[q];rfl) C;exact .inr ⟨b,av,q,X,bp _ _ _ O,l3 bp _ _ Q,Y,λo=>S (ab o),Z af⟩
def Ca{p:Nat->Bool}(h:∀d,p d=false)(o:bY):ih p o=false:=by
 cases o<;>simp only[ih,h,pP h,Bool.false_or]<;>split<;>rfl
variable {o:bY}
def bc.tu{I TG:aZ}{β β':Nat->Value}{d cf:Nat}(bp:bQ I TG)(hd:β' cf=β d)(q:eC β β')
  (u:∀b∈cb (β d),(b<w.heap.size->w'.heap[b]?=w.heap[b]?)/\(∀o,TG b o=I b o)/\(Place cx b->Place hx b)) (h:bc cx I β w d o):bc hx TG β' w' cf o:=
 o.p9▸h.go (r:=id) (p:=λ_=>false) bp hd (λx _=>q x) u (Ca (λ_=>rfl) o)
def bc.heap{cx:c0}{I:aZ}{β:Nat->Value}{w w':World}{d:Nat}{o:bY}(e:w'.heap=w.heap)(h:bc cx I β w d o):bc cx I β w' d o:=h.tu (bQ.refl I) rfl (eC.refl β) λ_ _=>⟨λ_=>by rw[e],λ_=>rfl,id⟩
def bc.beta{I:aZ}{β β':Nat->Value}{d:Nat}{p:Nat->Bool}(q:∀d,p d=false->β' d=β d)(hd:p d=false)(u:ih p o=false)
  (h:bc cx I β w d o):bc cx I β' w d o:=o.p9▸h.go (r:=id) (bQ.refl I) (q d hd) (λx e=>.inr (q x e)) (λ_ _=>⟨λ_=>rfl,λ_=>rfl,id⟩) u
def aZ.on(I:aZ)(f:Nat->Nat->Option Value):aZ:=λb o=>match o with
 |none=>I b none
 |some o=>f b o
structure bx(G:bG)(cx:c0)(I:aZ)(β:Nat->Value)(σ:U)(w:World):Prop where
 good:∀b (o:Nat) v,I b o=some v->w.cell? ⟨b,o,none⟩=some v
 er:∀b v,I b none=some v->∃es clock,w.heap[b]?=some (.map es clock)/\v=i4 es clock
 e8:bQ cx.I0 I
 eW:∀b,b<cx.B->b∉cx.nN->∀o,I b o=cx.I0 b o
 frame:∀b,b<cx.B->b∉cx.nN->w.heap[b]?=cx.w0.heap[b]?
 size:cx.B<=w.heap.size
 tape:w.tape=cx.w0.tape
 os:w.os=cx.w0.os
 output:w.output=cx.w0.output
 drawn:cx.w0.drawn<=w.drawn
 bO:∀d o,σ.get d=some o->bc cx I β w d o
 cq:∀d cf,(σ.get d).isSome->(σ.get cf).isSome->d≠cf->∀b∈cb (β d),b∉cb (β cf)
 keep:∀d∈G.ids,β d=cx.nx d
variable {G:bG}{σ:U}
def bx.sep{I:aZ}{β:Nat->Value}(h:bx G cx I β σ w):∀d cf,(σ.get d).isSome->(σ.get cf).isSome->d≠cf->∀b,bK (β d)=some b->bK (β cf)≠some b:=
 λd cf Q q C b u O=>h.cq d cf Q q C b (g4 u) (g4 O)
def hc(P:Program)(Φ:Value->World->Prop):Result Next->Prop
 |.ok (.value a) w'=>Φ a w'
 |.ok .skip w'=>Φ undef w'
 |.ok (.enter f args) w'=>Calls P f args w' (λc b=>∃a,c=.returned a/\Φ a b)
 |_=>False
def hc.wp{P:Program}{o:Oper}{a:Act}{w:World}{Φ:Value->World->Prop}{K:Act->World->Prop}{Q:Exit->Act->World->Prop}
  (h:hc P Φ ((execOp a.eval o).run P w)) (q:∀v w',Φ v w'->K (a.put o.dst v) w'):o.wp P a w K Q:=by
 unfold Oper.wp;generalize (execOp a.eval o).run P w=r at h;cases r with
 |halt x w'=>exact h.elim
 |ok n w'=>
  cases n<;>simp only[hc]at h<;>simp only[Oper.upon]
  case value v=>exact q _ _ h
  case skip=>exact q _ _ h
  case enter f args=>
   exact Calls.mono h λe O ⟨v,C,u⟩=>by subst C;exact q _ _ u
def Yields(G:bG)(o:Oper)(ev:Operand->H)(σ:U)(cA R:cr)(bI:H):Prop:=
 ∀(b:U) (cx:c0) (I:aZ) (β:Nat->Value) (w:World) (c:Operand->Value),(∀a∈R,b.get a=σ.get a)->bx G cx I β b w->(∀a∈cA,β a=.nilFunc)->
  (∀d∈o.op.operands,au I β (ev d) (c d))->
  hc G.P (λe w'=>∃TG β',au TG β' bI e/\bx G cx TG β' b w'/\bQ I TG/\(∀a,a∉cA->β' a=β a)) ((execOp c o).run G.P w)
def eB(G:bG)(o:Oper)(ev:Operand->H)(σ:U)(M news:cr)(Φ:H->U->Prop):Prop:=
 ∀(cx:c0) (I:aZ) (β:Nat->Value) (w:World) (c:Operand->Value),bx G cx I β σ w->(∀e∈o.op.operands,au I β (ev e) (c e))->
  hc G.P (λf w'=>∃d b TG β',Φ d b/\au TG β' d f/\bx G cx TG β' b w'/\bQ I TG/\(∀a,a∉news->β' a=β a)/\(∀a,a∉M->b.get a=σ.get a)) ((execOp c o).run G.P w)
def ag.clean(p:Nat->Bool):ag->Bool
 |[]=>true
 |(_,v)::r=>!v.refs p&&ag.clean p r
def U.clean(p:Nat->Bool):U->Bool
 |[]=>true
 |(d,v)::r=>!p d&&!ih p v&&U.clean p r
def atW{p:Nat->Bool}:∀{env:ag},env.clean p=true->∀t,(env.get t).refs p=false
 |[],_,t=>by simp[ag.get,H.refs]
 |(k,v)::r,h,t=>by
   simp only[ag.clean,Bool.and_eq_true,Bool.not_eq_true']at h;rw[atK];split
   .exact h.1
   .exact atW h.2 t
theorem atF{p:Nat->Bool}:∀{σ:U},σ.clean p=true->∀d o,σ.get d=some o->p d=false/\ih p o=false
 |[],_,d,o,e=>by simp[U.get]at e
 |(k,v)::r,h,d,o,e=>by
   simp only[U.clean,Bool.and_eq_true,Bool.not_eq_true']at h;rw[atw]at e;split at e
   .grind
   .exact atF h.2 d o e
def at5(e:ag):e.clean ([]:cr).contains=true:=by
 induction e with
 |nil=>rfl
 |cons x r a=>simp only[ag.clean,a,yR (p:=([]:cr).contains) (λ_=>rfl) x.2,Bool.not_false,Bool.and_self]
def auh(e:U):e.clean ([]:cr).contains=true:=by
 induction e with
 |nil=>rfl
 |cons x r a=>
  have:ih ([]:cr).contains x.2=false:=Ca (λ_=>rfl) _;simp only[U.clean,a,this];rfl
def Gy:bY->Bool
 |.hdr _ _=>false
 |_=>true
def nJ(G:bG)(σ:U)(cA:cr)(σ2:U)(env:ag):Prop:=
 (∀a,a∉cA->σ2.get a=σ.get a)/\(∀a∈cA,a∉G.ids)/\env.clean cA.contains=true/\σ.clean cA.contains=true/\∀a∈cA,∀b c,σ2.get a≠some (.hdr b c)
def at4(G:bG)(σ:U)(env:ag):nJ G σ [] σ env:=⟨λ_ _=>rfl,λ_ a=>by simp at a,at5 env,auh σ,λ_ a=>by simp at a⟩
def fo(β:Nat->Value)(cA:cr):Nat->Value:=λa=>if a∈cA then .nilFunc else β a
def bx.mq{I:aZ}{β:Nat->Value}{σ2:U}{cA:cr}{env:ag}(h:bx G cx I β σ w)(v:nJ G σ cA σ2 env):
  bx G cx I (fo β cA) σ2 w:=by
 obtain⟨O,ab,ai,af,ah⟩:=v
 have u:∀d,cA.contains d=false->fo β cA d=β d:=λd hd=>by
  have:d∉cA:=by simpa using hd
  simp[fo,this]
 have Q:∀d,d∈cA->fo β cA d=.nilFunc:=λd hd=>by simp[fo,hd]
 refine{h with bO:=λd o e=>?_,cq:=λd cf e S Z b=>?_,keep:=λd hd=>?_}
 .by_cases q:d∈cA
  .cases o with
   |hdr ae n=>exact absurd e (ah d q ae n)
   |_=>simp only[bc];exact .inl (Q d q)
  .rw[O d q]at e;obtain⟨X,Y⟩:=atF af d o e;exact(h.bO d o e).beta u X Y
 .by_cases q:d∈cA
  .simp[Q d q,Ce]
  .by_cases C:cf∈cA
   .simp[Q cf C,Ce]
   .rw[O d q]at e;rw[O cf C]at S;rw[u d (by simpa using q),u cf (by simpa using C)];exact h.cq d cf e S Z b
 .have:d∉cA:=λq=>ab d q hd;rw[u d (by simpa using this)];exact h.keep d hd
def fK(d:ia)(o:Oper)(env:ag):Prop:=
 match o.guard with
 |none=>True
 |some (c,want)=>∃b a,d[c]?=some b/\b.dst=some a/\env.get a=.bool want
def gX(d:ia)(o:Oper)(env:ag):Prop:=
 match o.guard with
 |none=>False
 |some (c,want)=>∃b a,d[c]?=some b/\b.dst=some a/\(env.get a=.bool (!want)\/env.get a=.undef)
structure hv where
 dw:Bool
 T:ja
 es:cr
def lg(s:hv)(e:Nat)(M:cr):List (Nat×cr)->Bool
 |[]=>true
 |(i,a)::r=>((s.T.getD e []).contains i||a.all (λb=>!M.contains b))&&lg s e M r
def gh(G:bG)(a:ia)(s:hv):List (Nat×cr)->cr->ag->U->(ag->U->Prop)->Prop
 |_,[],env,σ,K=>K env σ
 |log,i::l,env,σ,K=>∃o,a[i]?=some o/\
   ((gX a o env/\(s.dw=true->i∉s.es)/\gh G a s ((i,[])::log) l (env.put o.dst .undef) σ K)\/
    (fK a o env/\(s.dw=true->i∉s.es)/\∃f d c e,nJ G σ f e env/\(∀b∈d,(e.get b).isSome)/\(∀b∈f,b∈d)/\Yields G o env.ev e f d c/\
     gh G a s ((i,d)::log) l (env.put o.dst c) e K)\/
    (fK a o env/\(s.dw=true->i∈s.es)/\∃h g k,eB G o env.ev σ h g k/\(s.dw=true->lg s i h log=true)/\env.clean g.contains=true/\(∀b∈g,b∉G.ids/\σ.get b=none)/\
     ∀c j,k c j->gh G a s log l (env.put o.dst c) j K)\/
    (gX a o env/\(s.dw=true->i∈s.es)/\gh G a s log l (env.put o.dst .undef) σ K))
def gH(I:aZ)(β:Nat->Value)(env:ag)(a:Act):Prop:=∀b,au I β (env.get b) (a.tmps.getD b undef)
def gH.ev{I:aZ}{β:Nat->Value}{env:ag}{a:Act}(h:gH I β env a)(x:Operand):au I β (env.ev x) (a.eval x):=by
 cases x with
 |tmp t=>exact h t
 |const v=>exact zN I β v
 |global g=>simp[ag.ev,au]
 |func f=>simp[ag.ev,Act.eval,au,br]
theorem vg(a:Act)(d:Nat)(v:Value)(t:Nat)(c:d<a.tmps.size):(a.put (some d) v).tmps.getD t undef=if d=t then v else a.tmps.getD t undef:=by
 simp only[Act.put];by_cases b:d=t
 all_goals simp_all
end
section
def iS(G:bG)(cx:c0)(env:ag)(σ:U)(a:Act)(w:World):Prop:=
 ∃I β,bx G cx I β σ w/\gH I β env a/\a.tmps.size=G.N/\a.defers=[]
theorem Dk{G:bG}{ops:ia}{o:Oper}{env:ag}{a:Act}(t:a.tmps.size=G.N)(n:∀(j:Nat) (e:Oper) (d:Nat),ops[j]?=some e->e.dst=some d->d<G.N)
  (m:∀(j:Nat) (k:Bool),o.guard=some (j,k)->∀(e:Oper) (c:Nat),ops[j]?=some e->e.dst=some c->∀b,(env.get c=.bool b->a.tmps.getD c undef=.bool b)/\(env.get c=.undef->a.tmps.getD c undef=undef)) :
  (fK ops o env->Region.wanted o (yielded ops a.tmps)=true)/\(gX ops o env->Region.wanted o (yielded ops a.tmps)=false):=by
 unfold fK gX Region.wanted;cases l:o.guard with
 |none=>exact⟨λ_=>rfl,λq=>q.elim⟩
 |some p=>
  obtain⟨j,k⟩:=p
  have r:∀(e:Oper) (c:Nat),ops[j]?=some e->e.dst=some c->∀i,a.tmps.getD c undef=i->yielded ops a.tmps j=(match i with|.bool b=>some b|_=>none):=by
   intro e c h f i s;have u:=n j e c h f;have:a.tmps[c]?=some i:=by simp_all
   unfold yielded
   grind
  constructor
  .grind
  .rintro⟨e,c,h,f,g⟩;rcases g with g|g
   .grind
   .have:=(m j k l e c h f k).2 g;simp only[r e c h f _ this];rfl
def gH.guard{I:aZ}{β:Nat->Value}{env:ag}{a:Act}(h:gH I β env a)(d:Nat)(b:Bool):
  (env.get d=.bool b->a.tmps.getD d undef=.bool b)/\(env.get d=.undef->a.tmps.getD d undef=undef):=by
 have:=h d;constructor<;>intro e<;>rw[e]at this<;>simpa [au,aS]using this
def gH.put{I:aZ}{β:Nat->Value}{env:ag}{a:Act}{bI:H}{v:Value}(h:gH I β env a)(dst:hD)(hd:∀d,dst=some d->d<a.tmps.size)(q:au I β bI v):
  gH I β (env.put dst bI) (a.put dst v):=by
 cases dst with
 |none=>exact h
 |some d=>
  intro t;rw[vg a d v t (hd d rfl)];simp only[ag.put,atK];split
  .exact q
  .exact h t
def oi(a:Act)(dst:hD)(v:Value):(a.put dst v).tmps.size=a.tmps.size:=by
 cases dst<;>simp[Act.put]
def n9(a:Act)(dst:hD)(v:Value):(a.put dst v).defers=a.defers:=by
 cases dst<;>simp[Act.put]
def gH.mono{I q:aZ}{β β':Nat->Value}{env:ag}{a:Act}(h:gH I β env a)(hi:bQ I q)(u:eC β β'):gH q β' env a:=
 λt=>vf hi u _ _ (h t)
def gH.beta{I:aZ}{β β':Nat->Value}{env:ag}{a:Act}{p:Nat->Bool}(h:gH I β env a)(q:∀d,p d=false->β' d=β d)(u:env.clean p=true):gH I β' env a:=
 λt=>oh q _ _ (atW u t) (h t)
theorem vL(G:bG)(ops:ia)(s:hv)(Q:Exit->Act->World->Prop)(m:∀(j:Nat) (D:Oper) (d:Nat),ops[j]?=some D->D.dst=some d->d<G.N)(K:ag->U->Prop)(cx:c0)
  (t:∀env σ a w,K env σ->iS G cx env σ a w->Q .normal a w) :
  ∀(l:cr) (log:List (Nat×cr)) (env:ag) (σ:U) (a:Act) (w:World),gh G ops s log l env σ K->iS G cx env σ a w->wpOps G.P ops Q l a w
 |[],log,env,σ,a,w,g,r=>t _ _ _ _ g r
 |i::l,log,env,σ,a,w,g,r=>by
  obtain⟨o,J,g⟩:=g;have A:∀d,o.dst=some d->d<a.tmps.size:=λd c=>by obtain⟨_,_,_,_,N,_⟩:=r;rw[N];exact m i o d J c
  simp only[wpOps,J];obtain⟨I,β,x,h,q,B⟩:=r;have C:=Dk (o:=o) (env:=env) q m (λj an _ D R _ _ ab=>h.guard R ab)
  have skip:∀log,gX ops o env->gh G ops s log l (env.put o.dst .undef) σ K->
    if Region.wanted o (yielded ops a.tmps)=true then o.wp G.P a w (wpOps G.P ops Q l) Q\/o.asks G.P a w/\LetsOut Q else wpOps G.P ops Q l (a.put o.dst undef) w:=by
   intro log Y g;rw[C.2 Y];simp only[Bool.false_eq_true,if_false];exact vL G ops s Q m K cx t l _ _ _ _ _ g ⟨I,β,x,h.put _ A (by simp[au,aS]),by rw[oi];exact q,by rw[n9];exact B⟩
  rcases g with⟨n,_,k⟩|⟨n,_,b,ai,bI,M,v,aj,ak,V,k⟩|⟨n,_,ah,af,Φ,S,_,W,am,k⟩|⟨n,_,k⟩
  .grind
  .rw[C.1 n];simp only[if_true];refine .inl (hc.wp (Φ:=λE F=>∃f e,au f e bI E/\bx G cx f e M F/\bQ I f/\(∀d,d∉b->e d=fo β b d)) ?_ ?_)
   .have T:=x.mq v
    have u:∀d,b.contains d=false->fo β b d=β d:=λd c=>by
     have:d∉b:=by simpa using c
     simp[fo,this]
    exact V M cx I (fo β b) w a.eval (λ_ _=>rfl) T (λd c=>by simp[fo,c]) (λH _=>(h.beta u v.2.2.1).ev H)
   .rintro E F ⟨f,e,z,y,bp,L⟩
    have u:∀d,b.contains d=false->fo β b d=β d:=λd c=>by
     have:d∉b:=by simpa using c
     simp[fo,this]
    have P:eC (fo β b) e:=λd=>by
     by_cases ae:d∈b
     .left;simp[fo,ae]
     .grind
    exact vL G ops s Q m K cx t l _ _ _ _ _ k ⟨f,e,y,((h.beta u v.2.2.1).mono bp P).put _ A z,by rw[oi];exact q,by rw[n9];exact B⟩
  .rw[C.1 n];simp only[if_true];refine .inl (hc.wp (S cx I β w a.eval x (λH _=>h.ev H)) ?_);rintro E F ⟨bI,O,f,e,Z,z,y,bp,L,_⟩;have X:gH f e env a:=(h.beta (p:=af.contains) (λd c=>L d (by simpa using c)) W).mono bp (eC.refl _);exact vL G ops s Q m K cx t l _ _ _ _ _ (k bI O Z) ⟨f,e,y,X.put _ A z,by rw[oi];exact q,by rw[n9];exact B⟩
  .grind
def qw(N:Nat)(ops:ia):Bool:=ops.toList.all λo=>match o.dst with|some d=>Nat.blt d N|none=>true
theorem Dc{N:Nat}{ops:ia}(h:qw N ops=true):∀(j:Nat) (a:Oper) (d:Nat),ops[j]?=some a->a.dst=some d->d<N:=by
 intro j a d b e;have c:a∈ops.toList:=by simpa using Array.mem_of_getElem? b
 have:=List.all_eq_true.1 h a c
 simp_all
def hb(ops:ia)(o:Oper)(t:Nat):Bool:=(o.looksAt ops).contains t
def wG(s:hv)(i j:Nat)(b a:Oper)(ops:ia):Bool:=
 match b.dst with
 |none=>true
 |some t=>
  (i==j&&(s.es.contains i||!hb ops a t)) ||
  (!(i==j)&&(!(hb ops a t)||(s.T.getD j []).contains i||(s.es.contains i&&(s.T.getD i []).contains j)) &&
   (!(a.dst==some t)||(s.es.contains i&&s.es.contains j&&((s.T.getD j []).contains i||(s.T.getD i []).contains j))))
def m8(s:hv):cr->Bool
 |[]=>true
 |i::l=>l.all (λa=>!(s.T.getD i []).contains a&&!(i==a)&&(!s.es.contains i||(s.T.getD a []).contains i))&&m8 s l
def AP(ops:ia)(T:ja):Bool:=
 (List.range ops.size).all λb=>match ops[b]? with
  |none=>false
  |some c=>c.after.toList.all (λa=>!Region.binds .any a||Nat.blt a.on b) &&
    (T.getD b []).all λd=>c.after.toList.any λa=>Region.binds .any a&&(a.on==d||(T.getD a.on []).contains d)
def wH(N:Nat)(ops:ia)(s:hv)(l:cr):Bool:=
 qw N ops&&AP ops s.T&&m8 s l&&(List.range ops.size).all (λa=>l.contains a)&&l.all (λa=>Nat.blt a ops.size)&&(s.T.length==ops.size) &&
 (List.range ops.size).all λa=>(List.range ops.size).all λb=>match ops[a]?,ops[b]? with
  |some d,some c=>wG s a b d c ops
  |_,_=>true
section any
variable {G:bG}{ops:ia}{s:hv}
structure Stat(G:bG)(ops:Array Oper)(s:hv):Prop where
 dst:∀(j:Nat) (cH:Oper) (d:Nat),ops[j]?=some cH->cH.dst=some d->d<G.N
 down:∀(j:Nat) (cH:Oper),ops[j]?=some cH->∀e∈cH.after,Region.binds .any e=true->e.on<j
 tab:∀(j:Nat) (cH:Oper),ops[j]?=some cH->∀i∈s.T.getD j [],∃e∈cH.after,Region.binds .any e=true/\(e.on=i\/i∈s.T.getD e.on [])
 size:s.T.length=ops.size
 read:∀(i j:Nat) (fR cH:Oper) (t:Nat),ops[i]?=some fR->ops[j]?=some cH->fR.dst=some t->i≠j->hb ops cH t=true->i∈s.T.getD j []\/(i∈s.es/\j∈s.T.getD i [])
 self:∀(j:Nat) (cH:Oper) (t:Nat),ops[j]?=some cH->cH.dst=some t->j∉s.es->hb ops cH t=false
 one:∀(i j:Nat) (fR cH:Oper) (t:Nat),ops[i]?=some fR->ops[j]?=some cH->fR.dst=some t->cH.dst=some t->i≠j->i∈s.es/\j∈s.es
theorem auz{l:cr}(h:wH G.N ops s l=true):Stat G ops s/\m8 s l=true/\(∀i,i<ops.size↔i∈l):=by
 simp only[wH,Bool.and_eq_true,List.all_eq_true,List.mem_range,beq_iff_eq]at h;obtain⟨⟨⟨⟨⟨⟨y,g⟩,q⟩,p⟩,o⟩,r⟩,k⟩:=h;refine⟨{dst:=Dc y,down:=?_,tab:=?_,size:=r,read:=?_,self:=?_,one:=?_},q,λi=>⟨λc=>by simpa using p i c,λc=>(Iff.of_eq Nat.blt_eq).1 (o i c)⟩⟩
 .intro b f a w z e;have m:b<ops.size:=(Array.getElem?_eq_some_iff.1 a).1;simp only[AP,List.all_eq_true,List.mem_range]at g;have:=g b m;simp only[a,Bool.and_eq_true,List.all_eq_true]at this;have:=this.1 w (by simpa using z)
  simp_all
 .intro b f a i c;have m:b<ops.size:=(Array.getElem?_eq_some_iff.1 a).1;simp only[AP,List.all_eq_true,List.mem_range]at g
  grind
 .intro i b x f n c a d j v;have:=k i (Array.getElem?_eq_some_iff.1 c).1 b (Array.getElem?_eq_some_iff.1 a).1;have e:(i==b)=false:=by simpa using j
  simp only[c,a,wG,d,e,v,Bool.not_true,Bool.not_false,Bool.true_and,Bool.false_and,Bool.false_or,Bool.or_eq_true,Bool.and_eq_true,false_or]at this
  grind
 .intro b f n a d u;have:=k b (Array.getElem?_eq_some_iff.1 a).1 b (Array.getElem?_eq_some_iff.1 a).1;simp only[a,wG,d,BEq.rfl,Bool.true_and,Bool.not_true,Bool.false_and,Bool.or_false,Bool.or_eq_true,List.contains_iff_mem,u,false_or,Bool.not_eq_true']at this;exact this
 .intro i b x f n c a d t j;have:=k i (Array.getElem?_eq_some_iff.1 c).1 b (Array.getElem?_eq_some_iff.1 a).1;have e:(i==b)=false:=by simpa using j
  simp only[c,a,wG,d,t,e,Bool.not_false,Bool.true_and,Bool.false_and,Bool.false_or,Bool.or_eq_true,Bool.and_eq_true,false_or,BEq.rfl,Bool.not_true,Bool.false_eq_true]at this
  grind
def wQ(G:bG)(ops:ia)(s:hv)(env:ag)(σ:U)(β:Nat->Value)(log:List (Nat×cr))(i:Nat)(cA:cr):Prop:=
 ∃o bI,ops[i]?=some o/\i∉s.es/\(∀c,o.dst=some c->env.get c=bI)/\
  ((gX ops o env/\bI=.undef/\cA=[])\/
   (fK ops o env/\∃b,Yields G o env.ev σ cA b bI/\(i,b)∈log/\(∀a∈b,(σ.get a).isSome)/\(∀a∈cA,a∈b/\β a=.nilFunc/\a∉G.ids)))
def s7(I:aZ)(β:Nat->Value)(ops:ia)(dP:cr)(env:ag)(a:Act):Prop:=
 ∀b,(∀c∈dP,∀o,ops[c]?=some o->o.dst≠some b)->au I β (env.get b) (a.tmps.getD b undef)
def pX{dz:jt}{j:Nat}:j∈Region.ready .any ops dz↔
  dz.getD j true=false/\∃o,ops[j]?=some o/\∀e∈o.after,Region.binds .any e=true->dz.getD e.on false=true:=mem_ready
theorem Ev{dz:jt}{i:Nat}(hi:i<dz.size)(b c:Bool):dz.getD i b=dz.getD i c:=by grind
theorem yt(st:Stat G ops s){dz:jt}(g:dz.size=ops.size)
  (f:∀j,dz.getD j false=true->∀i∈s.T.getD j [],dz.getD i false=true) {j:Nat} (b:j∈Region.ready .any ops dz) :
  ∀i∈s.T.getD j [],dz.getD i false=true:=by
 obtain⟨_,o,c,h⟩:=pX.1 b;intro i d;obtain⟨k,l,e,a⟩:=st.tab j o c i d;rcases a with a|a
 .grind
 .grind
theorem Jv(st:Stat G ops s){dz:jt}(l:dz.size=ops.size):∀(n j:Nat),j<=n->j<ops.size->dz.getD j true=false->Region.ready .any ops dz≠[]:=by
 intro n;induction n with
 |zero=>
  intro j g a d
  have:j∈Region.ready .any ops dz:=pX.2 ⟨d,ops[j],Array.getElem?_eq_getElem a,λb e c=>by
   have:=st.down j _ (Array.getElem?_eq_getElem a) b e c;omega⟩
  exact List.ne_nil_of_mem this
 |succ n k=>
  intro j g a d;by_cases tv:∃f,f<j/\dz.getD f true=false
  .grind
  .have:j∈Region.ready .any ops dz:=pX.2 ⟨d,ops[j],Array.getElem?_eq_getElem a,λb e c=>by
    have i:=st.down j _ (Array.getElem?_eq_getElem a) b e c;have:¬dz.getD b.on true=false:=λh=>tv ⟨b.on,i,h⟩;rw[Ev (by omega) false true];simpa using this⟩
   grind
variable {bI:H}
def aup{env:ag}{dst:hD}{x:Operand}(h:∀t,dst=some t->x≠.tmp t):(env.put dst bI).ev x=env.ev x:=by
 cases dst with
 |none=>rfl
 |some d=>
  cases x with
  |tmp t=>simp only[ag.put,ag.ev,atK];rw[if_neg (λa=>h d rfl (by rw[a]))]
  |_=>rfl
def at6{env:ag}{dst:hD}{t:Nat}(h:dst≠some t):(env.put dst bI).get t=env.get t:=by
 cases dst with
 |none=>rfl
 |some d=>simp only[ag.put,atK];rw[if_neg (λa=>h (by rw[a]))]
variable {o:Oper}
def zO{t:Nat}(h:(Operand.tmp t)∈o.op.operands):hb ops o t=true:=by
 simp only[hb,List.contains_iff_mem,Oper.looksAt];exact List.mem_append_left _ (List.mem_filterMap.2 ⟨.tmp t,by simpa using h,rfl⟩)
def CE{a:Oper}{j:Nat}{e:Bool}{t:Nat}(d:o.guard=some (j,e))(c:ops[j]?=some a)(b:a.dst=some t):hb ops o t=true:=by
 simp[hb,Oper.looksAt,d,c,b]
def Yields.ev{o:Oper}{ev u:Operand->H}{σ:U}{cA R:cr}{bI:H}(h:∀x∈o.op.operands,u x=ev x)(S:Yields G o ev σ cA R bI):Yields G o u σ cA R bI:=
 λY cx I β w O Z Q X C=>S Y cx I β w O Z Q X (λx q=>by rw[<-h x q];exact C x q)
def Yields.HL{ev:Operand->H}{σ σ2:U}{cA R:cr}(h:∀d∈R,σ2.get d=σ.get d)(O:Yields G o ev σ cA R bI):Yields G o ev σ2 cA R bI:=
 λS cx I β w u X C Q q=>O S cx I β w u (λd hd=>(X d hd).trans (h d hd)) C Q q
def fK.put{o:Oper}{env:ag}{dst:hD}{bI:H}(h:∀t,dst=some t->hb ops o t=false):(fK ops o env->fK ops o (env.put dst bI))/\(gX ops o env->gX ops o (env.put dst bI)):=by
 unfold fK gX;cases O:o.guard with
 |none=>exact⟨id,id⟩
 |some S=>
  obtain⟨j,want⟩:=S;constructor<;>(rintro⟨cH,u,C,q,Q⟩;refine⟨cH,u,C,q,?_⟩;rw[at6 (λe=>by have:=h u e;rw[CE O C q]at this;cases this)];exact Q)
theorem wQ.put{env:ag}{σ σ2:U}{β c6:Nat->Value}{log X:List (Nat×cr)}{i:Nat}{cA:cr}{dst:hD}{bI:H}(h:wQ G ops s env σ β log i cA)
  (hd:∀o,ops[i]?=some o->∀t,dst=some t->hb ops o t=false/\o.dst≠some t)
  (aj:∀x∈log,x∈X) (ab:∀R,(i,R)∈log->∀d∈R,(σ.get d).isSome->σ2.get d=σ.get d) (ao:∀d∈cA,(σ.get d).isSome->β d=.nilFunc->c6 d=.nilFunc) :
  wQ G ops s (env.put dst bI) σ2 c6 X i cA:=by
 obtain⟨o,am,u,ae,ah,h⟩:=h;refine⟨o,am,u,ae,λt Q=>?_,?_⟩
 .rw[at6 (λe=>(hd o u t e).2 Q)];exact ah t Q
 .have C:∀t,dst=some t->hb ops o t=false:=λt e=>(hd o u t e).1;rcases h with⟨O,Z⟩|⟨O,R,af,S,ai,an⟩
  .exact .inl ⟨(fK.put C).2 O,Z⟩
  .refine .inr ⟨(fK.put C).1 O,R,?_,aj _ S,λd q=>?_,λd q=>?_⟩
   .refine(af.ev λx Y=>?_).HL (λd q=>ab R S d q (ai d q));exact aup λt e ak=>by have:=C t e;rw[zO (ak▸Y)]at this;cases this
   all_goals grind
def s7.ev{I:aZ}{β:Nat->Value}{dP:cr}{env:ag}{a:Act}(h:s7 I β ops dP env a){o:Oper}
  (u:∀i∈dP,∀fR,ops[i]?=some fR->∀t,fR.dst=some t->hb ops o t=false):∀x∈o.op.operands,au I β (env.ev x) (a.eval x):=by
 intro x q;cases x with
 |tmp t=>
  refine h t λi hi fR C hd=>?_;have:=u i hi fR C t hd;rw[zO q]at this;cases this
 |const v=>exact zN I β v
 |global g=>simp[ag.ev,au]
 |func f=>simp[ag.ev,Act.eval,au,br]
def s7.want{I:aZ}{β:Nat->Value}{dP:cr}{env:ag}{a:Act}(st:Stat G ops s)(O:a.tmps.size=G.N)(h:s7 I β ops dP env a){o:Oper}
  (Q:∀i∈dP,∀fR,ops[i]?=some fR->∀t,fR.dst=some t->hb ops o t=false) :
  (fK ops o env->Region.wanted o (yielded ops a.tmps)=true)/\(gX ops o env->Region.wanted o (yielded ops a.tmps)=false):=by
 refine Dk O st.dst λj want u cH q X C b=>?_
 have:=h q λi hi fR S hd=>by
  have:=Q i hi fR S q hd;rw[CE u X C]at this;cases this
 constructor<;>intro e<;>rw[e]at this<;>simpa [au,aS]using this
theorem Dd{e:Nat}{M:cr}:∀{log:List (Nat×cr)},lg s e M log=true->∀i R,(i,R)∈log->i∈s.T.getD e []\/∀d∈R,d∉M
 |[],_,_,_,a=>by simp at a
 |(k,S)::r,h,i,R,a=>by
  simp only[lg,Bool.and_eq_true,Bool.or_eq_true,List.contains_iff_mem,List.all_eq_true]at h;rcases List.mem_cons.1 a with e|a
  .grind
  .exact Dd h.2 i R a
structure Inv(G:bG)(ops:Array Oper)(s:hv)(cx:c0)(m:Nat->List Nat)(l dP:List Nat)(dz:Array Bool)(log:List (Nat×List Nat))(env:ag)(σ:U)(a:Act)(w:World)(I:aZ)(β:Nat->Value):Prop where
 iM:dz.size=ops.size
 ord:m8 s l=true
 kN:∀i,i<ops.size->(dz.getD i true=false↔i∈dP\/i∈l)
 lM:∀i∈dP,i∉l
 nd:dP.Nodup
 pw:∀i∈dP,∀j∈l,j∉s.T.getD i []
 ps:∀i∈dP,i<ops.size
 ls:∀i∈l,i<ops.size
 cl:∀j,dz.getD j false=true->∀i∈s.T.getD j [],dz.getD i false=true
 jO:∀i∈dP,wQ G ops s env σ β log i (m i)
 md:∀i∈dP,∀j∈dP,i≠j->∀d∈m i,d∉m j
 rw:bx G cx I β σ w
 rp:s7 I β ops dP env a
 sz:a.tmps.size=G.N
 df:a.defers=[]
theorem zP(dz:jt)(i j:Nat)(b:Bool)(hi:i<dz.size):(dz.setIfInBounds i true).getD j b=if i=j then true else dz.getD j b:=by
 by_cases a:i=j
 all_goals simp_all
section inv
variable {cx:c0}{m:Nat->cr}{l dP:cr}{dz:jt}{log:List (Nat×cr)}{env:ag}{σ:U}{a:Act}{w:World}{I:aZ}{β:Nat->Value}
def Inv.zQ(q:Inv G ops s cx m l dP dz log env σ a w I β){i:Nat}(h:i∈dP\/i∈l):dz.getD i false=false:=by
 have hi:i<ops.size:=by rcases h with h|h<;>first|exact q.ps i h|exact q.ls i h
 rw[Ev (by rw[q.iM];exact hi) false true];exact(q.kN i hi).2 h
def Inv.FB(st:Stat G ops s)(q:Inv G ops s cx m l dP dz log env σ a w I β){j:Nat}(C:j∈Region.ready .any ops dz):
  ∀k,(dz.setIfInBounds j true).getD k false=true->∀i∈s.T.getD k [],(dz.setIfInBounds j true).getD i false=true:=by
 obtain⟨_,o,O,_⟩:=pX.1 C;have Q:j<dz.size:=by rw[q.iM];exact(Array.getElem?_eq_some_iff.1 O).1
 intro k u i hi;rw[zP _ _ _ _ Q]at u ⊢;split
 .rfl
 .split at u
  .rename_i h;subst h;exact yt st q.iM q.cl C i hi
  .exact q.cl k u i hi
theorem Inv.zb(st:Stat G ops s)(q:Inv G ops s cx m l dP dz log env σ a w I β){j:Nat}{o:Oper}(X:j∈Region.ready .any ops dz)(Q:ops[j]?=some o)(ab:j∈dP->j∉s.es):
  ∀i∈dP,∀fR,ops[i]?=some fR->∀t,fR.dst=some t->hb ops o t=false:=by
 intro i hi fR u t O;rcases Bool.eq_false_or_eq_true (hb ops o t)with C|C
 .exfalso;by_cases S:i=j
  .subst S;have Z:some fR=some o:=u.symm.trans Q;cases Z;have:=st.self i o t u O (ab hi)
   grind
  .rcases st.read i j fR o t u Q O S C with h|⟨h,_⟩
   .have:=yt st q.iM q.cl X i h;rw[q.zQ (.inl hi)]at this;cases this
   .obtain⟨_,_,_,Y,_⟩:=q.jO i hi;exact Y h
 .exact C
theorem Inv.El(st:Stat G ops s)(q:Inv G ops s cx m l dP dz log env σ a w I β){Q:Exit->Act->World->Prop}{K:Act->World->Prop}{j:Nat}(ab:j∈Region.ready .any ops dz)(X:j∈dP)
    (k:∀af w' u β',Inv G ops s cx m l (dP.erase j) (dz.setIfInBounds j true) log env σ af w' u β'->K af w'):wpOp G.P ops Q j K a w:=by
  obtain⟨o,bI,O,aE,aH,h⟩:=q.jO j X;have aJ:j<dz.size:=by rw[q.iM];exact q.ps j X
  have ai:=q.zb st ab O (λ_=>aE);have ae:=q.rp.want st q.sz ai;have aI:∀d,o.dst=some d->d<a.tmps.size:=λd hd=>by rw[q.sz];exact st.dst j o d O hd
  have next:∀v w' u β',au u β' bI v->bx G cx u β' σ w'->bQ I u->(∀d,d∉m j->β' d=β d)->(∀d∈m j,β d=.nilFunc\/β' d=β d)->Inv G ops s cx m l (dP.erase j) (dz.setIfInBounds j true) log env σ (a.put o.dst v) w' u β':=by
    intro v w' u β' aG aD bp aq aC
    have ax:eC β β':=λd=>by
      by_cases hd:d∈m j
      · exact aC d hd
      · grind
    refine{iM:=by simp[q.iM],ord:=q.ord,kN:=λi hi=>?_,lM:=λi hi=>q.lM i (List.mem_of_mem_erase hi),nd:=q.nd.erase j,
           pw:=λi hi=>q.pw i (List.mem_of_mem_erase hi),ps:=λi hi=>q.ps i (List.mem_of_mem_erase hi),ls:=q.ls,cl:=q.FB st ab,jO:=λi hi=>?_,
           md:=λi hi k aT=>q.md i (List.mem_of_mem_erase hi) k (List.mem_of_mem_erase aT),rw:=aD,rp:=λt aU=>?_,sz:=by rw[oi];exact q.sz,df:=by rw[n9];exact q.df}
    · rw[zP _ _ _ _ aJ]
      by_cases S:j=i
      · subst S
        simp only[if_true,Bool.true_eq_false,false_iff,not_or];exact⟨λh=>(List.Nodup.mem_erase_iff q.nd).1 h|>.1 rfl,q.lM j X⟩
      · rw[if_neg S,q.kN i hi,List.Nodup.mem_erase_iff q.nd]
        grind
    · have aj:=List.mem_of_mem_erase hi
      have S:i≠j:=λe=>((List.Nodup.mem_erase_iff q.nd).1 hi).1 e;obtain⟨fR,aQ,ak,am,an,C⟩:=q.jO i aj;refine⟨fR,aQ,ak,am,an,?_⟩;rcases C with C|⟨C,R,aw,av,ar,ah⟩
      · exact .inl C
      · refine .inr ⟨C,R,aw,av,ar,λd hd=>⟨(ah d hd).1,?_,(ah d hd).2.2⟩⟩
        rw[aq d (q.md i aj j X S d hd)]
        grind
    · by_cases Z:o.dst=some t
      · rw[Z,vg a t v t (by rw[q.sz];exact st.dst j o t O Z),if_pos rfl,aH t Z]
        exact aG
      · have:(a.put o.dst v).tmps.getD t undef=a.tmps.getD t undef:=by
          cases hd:o.dst with
          |none=>rfl
          |some d=>rw[vg a d v t (aI d hd),if_neg (λe=>Z (by rw[hd,e]))]
        rw[this];refine vf bp ax _ _ (q.rp t λi hi fR aV=>?_)
        grind
  unfold wpOp;simp only[O];rcases h with⟨Y,ao⟩|⟨Y,R,aF,aX,aW,aM⟩
  · rw[ae.2 Y]
    simp only[Bool.false_eq_true,if_false];exact k _ _ _ _ (next undef w I β (by rw[ao.1];simp[au,aS]) q.rw (bQ.refl I) (λ_ _=>rfl) (λ_ _=>.inr rfl))
  · rw[ae.1 Y]
    simp only[if_true];refine .inl (hc.wp (aF σ cx I β w a.eval (λ_ _=>rfl) q.rw (λd hd=>(aM d hd).2.1) (q.rp.ev ai)) ?_)
    grind
theorem Inv.mq(st:Stat G ops s){i:Nat}(u:Inv G ops s cx m (i::l) dP dz log env σ a w I β){o:Oper}(S:ops[i]?=some o)(af:i∉s.es){cA R:cr}{bI:H}{σ2:U}
    (Q:nJ G σ cA σ2 env) (X:(gX ops o env/\bI=.undef/\cA=[])\/(fK ops o env/\Yields G o env.ev σ2 cA R bI/\(∀d∈R,(σ2.get d).isSome)/\(∀d∈cA,d∈R))) :
    Inv G ops s cx (λk=>if k=i then cA else m k) l (i::dP) dz ((i,R)::log) (env.put o.dst bI) σ2 a w I (fo β cA):=by
  have ai:i∉dP:=λh=>u.lM i h (by simp);have ar:=u.ord;simp only[m8,Bool.and_eq_true,List.all_eq_true,Bool.not_eq_true',List.contains_eq_mem,decide_eq_false_iff_not,beq_eq_false_iff_ne]at ar
  have an:∀d,cA.contains d=false->fo β cA d=β d:=λd hd=>by
    have:d∉cA:=by simpa using hd
    simp[fo,this]
  have av:∀d,(σ.get d).isSome->d∉cA:=λd hd aI=>by
    obtain⟨x,O⟩:=Option.isSome_iff_exists.1 hd;have:=(atF Q.2.2.2.1 d x O).1;simp[aI]at this
  have ah:∀p∈dP,(if p=i then cA else m p)=m p:=λp X=>by
    have:p≠i:=λe=>by subst e;exact ai X
    rw[if_neg this]
  refine{iM:=u.iM,ord:=ar.2,kN:=λk q=>?_,lM:=λk q Y=>?_,nd:=List.nodup_cons.2 ⟨ai,u.nd⟩,pw:=λk q j ab=>?_,ps:=λk q=>?_,ls:=λk q=>u.ls k (by simp[q]),
         cl:=u.cl,jO:=λk q=>?_,md:=λk q j ab aC d hd=>?_,rw:=u.rw.mq Q,rp:=λt C=>?_,sz:=u.sz,df:=u.df}
  · rw[u.kN k q];simp only[List.mem_cons]
    grind
  · rcases List.mem_cons.1 q with rfl|q
    · grind
    · exact u.lM k q (by simp[Y])
  · rcases List.mem_cons.1 q with rfl|q
    · grind
    · exact u.pw k q j (by simp[ab])
  · rcases List.mem_cons.1 q with rfl|q
    · grind
    · exact u.ps k q
  · rcases List.mem_cons.1 q with rfl|q
    · have aj:∀t,o.dst=some t->hb ops o t=false:=λt C=>st.self k o t S C af
      refine⟨o,bI,S,af,λt C=>by simp[C,ag.put,atK],?_⟩;simp only[if_true];rcases X with⟨ak,ax⟩|⟨ak,aF,aD,aE⟩
      · exact .inl ⟨(fK.put aj).2 ak,ax⟩
      · refine .inr ⟨(fK.put aj).1 ak,R,aF.ev (λx O=>aup λt e aG=>?_),by simp,aD,λd hd=>⟨aE d hd,by simp[fo,hd],Q.2.1 d hd⟩⟩
        have:=aj t e;rw[zO (aG▸O)]at this;cases this
    · rw[ah k q]
      refine(u.jO k q).put (λok aq t C=>?_) (λx O=>by simp[O]) (λaQ aT d hd ae=>Q.1 d (av d ae)) (λd hd ae aH=>by rw[an d (by simpa using av d ae)];exact aH);have au:i≠k:=λe=>ai (e▸q);constructor
      · rcases Bool.eq_false_or_eq_true (hb ops ok t)with Y|Y
        · rcases st.read i k o ok t S aq C au Y with h|⟨h,_⟩
          · exact absurd h (u.pw k q i (by simp))
          · grind
        · exact Y
      · exact λe=>af (st.one i k o ok t S aq C e au).1
  · have key:∀p∈dP,∀d∈m p,d∉cA:=λp X d hd=>by
      obtain⟨_,_,_,_,_,am⟩:=u.jO p X;rcases am with am|⟨_,_,_,_,aJ,am⟩
      · grind
      · grind
    rcases List.mem_cons.1 q with aM|aw
    · grind
    · rw[ah k aw]at hd
      rcases List.mem_cons.1 ab with aU|ao
      · grind
      · rw[ah j ao]
        exact u.md k aw j ao aC d hd
  · have Z:o.dst≠some t:=C i (by simp) o S
    rw[at6 Z];exact oh an _ _ (atW Q.2.2.1 t) (u.rp t λk q=>C k (by simp[q]))
theorem Inv.qV(st:Stat G ops s){i:Nat}(q:Inv G ops s cx m (i::l) dP dz log env σ a w I β){o:Oper}(S:ops[i]?=some o)(aJ:i∈s.es)(Y:i∈Region.ready .any ops dz){M news:cr}{bI:H}{X:U}
    (aC:lg s i M log=true) (aw:env.clean news.contains=true) (aM:∀d∈news,d∉G.ids/\σ.get d=none) {v:Value} {w':World} {Q:aZ} {β':Nat->Value}
    (av:au Q β' bI v) (ar:bx G cx Q β' X w') (bp:bQ I Q) (ak:∀d,d∉news->β' d=β d) (aI:∀d,d∉M->X.get d=σ.get d) :
    Inv G ops s cx m l dP (dz.setIfInBounds i true) log (env.put o.dst bI) X (a.put o.dst v) w' Q β':=by
  have ax:i∉dP:=λh=>q.lM i h (by simp);have aG:i<dz.size:=by rw[q.iM];exact q.ls i (by simp)
  have ae:=q.ord;simp only[m8,Bool.and_eq_true,List.all_eq_true,Bool.not_eq_true',List.contains_eq_mem,decide_eq_false_iff_not,beq_eq_false_iff_ne]at ae;have aE:=yt st q.iM q.cl Y
  have aT:∀p∈dP,p∉s.T.getD i []:=λp an aq=>by
    have:=aE p aq;rw[q.zQ (.inl an)]at this;cases this
  have af:∀d,o.dst=some d->d<a.tmps.size:=λd hd=>by rw[q.sz];exact st.dst i o d S hd
  refine{iM:=by simp[q.iM],ord:=ae.2,kN:=λk u=>?_,lM:=λk u C=>q.lM k u (by simp[C]),nd:=q.nd,pw:=λk u j ai=>q.pw k u j (by simp[ai]),ps:=q.ps,ls:=λk u=>q.ls k (by simp[u]),
         cl:=q.FB st Y,jO:=λk u=>?_,md:=q.md,rw:=ar,rp:=λt O=>?_,sz:=by rw[oi];exact q.sz,df:=by rw[n9];exact q.df}
  · rw[zP _ _ _ _ aG]
    by_cases aD:i=k
    · grind
    · rw[if_neg aD,q.kN k u]
      grind
  · have ah:i≠k:=λe=>ax (e▸u)
    have aF:k∉s.es:=by obtain⟨_,_,_,aH,_⟩:=q.jO k u;exact aH
    refine(q.jO k u).put (λok ab t O=>?_) (λx aj=>aj) (λR ao d hd am=>?_) (λd hd am aQ=>?_)
    · constructor
      · rcases Bool.eq_false_or_eq_true (hb ops ok t)with C|C
        · rcases st.read i k o ok t S ab O ah C with h|⟨_,h⟩
          · exact absurd h (q.pw k u i (by simp))
          · grind
        · exact C
      · exact λe=>aF (st.one i k o ok t S ab O e ah).2
    · rcases Dd aC k R ao with h|h
      all_goals grind
    · grind
  · by_cases Z:o.dst=some t
    · rw[Z,vg a t v t (af t Z),if_pos rfl]
      simp only[ag.put,atK,if_true];exact av
    · rw[at6 Z]
      have:(a.put o.dst v).tmps.getD t undef=a.tmps.getD t undef:=by
        cases hd:o.dst with
        |none=>rfl
        |some d=>rw[vg a d v t (af d hd),if_neg (λe=>Z (by rw[hd,e]))]
      rw[this];exact vf bp (eC.refl _) _ _ (oh (p:=news.contains) (λd hd=>ak d (by simpa using hd)) _ _ (atW aw t) (q.rp t O))
end inv
theorem Lm(st:Stat G ops s)(j:s.dw=true)(Q:Exit->Act->World->Prop)(K:ag->U->Prop)(cx:c0)
  (aj:∀env σ a w,K env σ->iS G cx env σ a w->Q .normal a w) :
  ∀(fuel:Nat) (l dP:cr) (m:Nat->cr) (dz:jt) (log:List (Nat×cr)) (env:ag) (σ:U) (a:Act) (w:World) (I:aZ) (β:Nat->Value),
   dP.length+l.length=fuel->Inv G ops s cx m l dP dz log env σ a w I β->gh G ops s log l env σ K->wpAny G.P .any ops Q fuel dz a w:=by
 intro fuel;induction fuel with
 |zero=>
  intro l dP m dz log env σ a w I β n b q;have v:dP=[]:=List.eq_nil_of_length_eq_zero (by omega);have aE:l=[]:=List.eq_nil_of_length_eq_zero (by omega);subst v aE;refine⟨?_,aj env σ a w q ⟨I,β,b.rw,λaF=>b.rp aF (by simp),b.sz,b.df⟩⟩;apply List.eq_nil_iff_forall_not_mem.2;intro t k;obtain⟨i,o,d,_⟩:=pX.1 k;have:=(b.kN t (Array.getElem?_eq_some_iff.1 d).1).1 i;simp at this
 |succ fuel y=>
  intro l
  have S:∀{l dP:cr} {m:Nat->cr} {dz:jt} {log:List (Nat×cr)} {env:ag} {σ:U} {a:Act} {w:World} {I:aZ} {β:Nat->Value},dP.length+l.length=fuel+1->
    Inv G ops s cx m l dP dz log env σ a w I β->Region.ready .any ops dz≠[]:=by
   intro l dP m dz log env σ a w I β n b;have:∃e,e∈dP\/e∈l:=by
    cases dP with
    |nil=>cases l with
     |nil=>simp at n
     |cons e _=>exact⟨e,.inr (by simp)⟩
    |cons e _=>exact⟨e,.inl (by simp)⟩
   obtain⟨e,v⟩:=this;have L:e<ops.size:=by rcases v with h|h<;>first|exact b.ps e h|exact b.ls e h
   exact Jv st b.iM _ e (Nat.le_refl _) L ((b.kN e L).2 v)
  induction l with
  |nil=>
   intro dP m dz log env σ a w I β n b q;refine⟨λg=>absurd g (S n b),λt k=>?_⟩;obtain⟨B,o,d,_⟩:=pX.1 k;have u:t∈dP:=by simpa using (b.kN t (Array.getElem?_eq_some_iff.1 d).1).1 B
   refine b.El st k u λae V F W D=>y _ _ _ _ _ _ _ _ _ _ _ ?_ D q;rw[List.length_erase_of_mem u];have:=List.length_pos_of_mem u;omega
  |cons c l P=>
   intro dP m dz log env σ a w I β n b q;obtain⟨o,d,J⟩:=q;have q:gh G ops s log (c::l) env σ K:=⟨o,d,J⟩;have T:(c::dP).length+l.length=fuel+1:=by simp at n ⊢;omega
   have av:∀log:List (Nat×cr),lg s c [] log=true:=by
    intro log;induction log with
    |nil=>rfl
    |cons x r ax=>obtain⟨aH,R⟩:=x;simp[lg,ax]
   have N:c∈s.es->(∀(_:c∈Region.ready .any ops dz),wpOp G.P ops Q c (wpAny G.P .any ops Q fuel (dz.setIfInBounds c true)) a w)->wpAny G.P .any ops Q (fuel+1) dz a w:=by
    intro am tv;refine⟨λg=>absurd g (S n b),λt k=>?_⟩;obtain⟨B,aG,aD,_⟩:=pX.1 k;rcases(b.kN t (Array.getElem?_eq_some_iff.1 aD).1).1 B with u|C
    .refine b.El st k u λae V F W D=>y _ _ _ _ _ _ _ _ _ _ _ ?_ D q
     grind
    .rcases List.mem_cons.1 C with rfl|C
     .grind
     .exfalso;have H:=b.ord;simp only[m8,Bool.and_eq_true,List.all_eq_true,Bool.or_eq_true,Bool.not_eq_true',List.contains_eq_mem,decide_eq_false_iff_not,decide_eq_true_eq]at H;have:=(H.1 t C).2.resolve_left (λh=>h am);have:=yt st b.iM b.cl k c this;rw[b.zQ (.inr (by simp))]at this;cases this
   have O:dP.length+l.length=fuel:=by simp at n;omega
   rcases J with⟨i,f,p⟩|⟨i,f,cA,R,bI,aM,Y,ab,ak,an,p⟩|⟨i,f,M,news,aJ,ah,ar,af,aq,p⟩|⟨i,f,p⟩
   .exact P (c::dP) _ dz ((c,[])::log) _ _ a w I _ T (b.mq st d (f j) (cA:=[]) (R:=[]) (at4 G σ env) (.inl ⟨i,rfl,rfl⟩)) p
   .exact P (c::dP) _ dz ((c,R)::log) _ _ a w I _ T (b.mq st d (f j) Y (.inr ⟨i,an,ab,ak⟩)) p
   .refine N (f j) λg=>?_;have z:=b.zb st g d (λh=>absurd (f j) (by obtain⟨_,_,_,E,_⟩:=b.jO c h;exact E));have A:=b.rp.want st b.sz z;unfold wpOp;simp only[d];rw[A.1 i];simp only[if_true];refine .inl (hc.wp (ah cx I β w a.eval b.rw (b.rp.ev z)) ?_);rintro aI V ⟨bI,Z,F,W,aw,ao,ai,bp,X,aC⟩;exact y _ _ _ _ _ _ _ _ _ _ _ O (b.qV st d (f j) g (ar j) af aq ao ai bp X aC) (p bI Z aw)
   .refine N (f j) λg=>?_;have z:=b.zb st g d (λh=>absurd (f j) (by obtain⟨_,_,_,E,_⟩:=b.jO c h;exact E));have A:=b.rp.want st b.sz z;unfold wpOp;simp only[d];rw[A.2 i];simp only[Bool.false_eq_true,if_false];exact y _ _ _ _ _ _ _ _ _ _ _ O (b.qV st d (f j) g (M:=[]) (news:=[]) (bI:=.undef) (av log) (at5 env) (by simp) (by simp[au,aS]) b.rw (bQ.refl I) (λ_ _=>rfl) (λ_ _=>rfl)) p
end any
end
section
def aq(G:bG)(c:Code)(Q:Exit->ag->U->Prop)(env:ag)(σ:U):Prop:=
 ∀cx d w,iS G cx env σ d w->c.wp G.P (λf e g=>∃b a,iS G cx b a e g/\Q f b a) d w
def aq.mono{G:bG}{c:Code}{Q q:Exit->ag->U->Prop}{env:ag}{σ:U}(h:aq G c Q env σ)(u:∀e env σ,Q e env σ->q e env σ):aq G c q env σ:=
 λcx a w O=>wp_mono (h cx a w O) λ_ _ _ ⟨X,S,Y,C⟩=>⟨X,S,Y,u _ _ _ C⟩
section code
variable {G:bG}{Q:Exit->ag->U->Prop}{env:ag}{σ:U}
def A.skip(h:Q .normal env σ):aq G .skip Q env σ:=λ_ _ _ q=>wp_skip ⟨env,σ,q,h⟩
def A.exit{id:Nat}(h:Q (.exit id) env σ):aq G (.exit id) Q env σ:=λ_ _ _ q=>wp_exit ⟨env,σ,q,h⟩
def A.ret(h:Q .ret env σ):aq G .ret Q env σ:=λ_ _ _ q=>wp_ret ⟨env,σ,q,h⟩
def kE(next:ag->U->Prop)(Q:Exit->ag->U->Prop):Exit->ag->U->Prop
 |.normal,env,σ=>next env σ
 |e,env,σ=>Q e env σ
def A.seq{x y:Code}(h:aq G x (kE (aq G y Q) Q) env σ):aq G (.seq x y) Q env σ:=by
 intro cx a w C;refine wp_seq (wp_mono (h cx a w C) ?_);rintro e X w' ⟨S,O,u,q⟩;cases e with
 |normal=>exact q cx X w' u
 |_=>exact⟨S,O,u,q⟩
def FC(id:Nat)(Q:Exit->ag->U->Prop):Exit->ag->U->Prop
 |.exit a,env,σ=>bif Nat.beq a id then Q .normal env σ else Q (.exit a) env σ
 |e,env,σ=>Q e env σ
theorem A.block{id:Nat}{x:Code}(h:aq G x (FC id Q) env σ):aq G (.block id x) Q env σ:=by
 intro cx a w X;refine wp_block (wp_mono (h cx a w X) ?_);rintro e Y w' ⟨C,u,O,q⟩;cases e with
 |exit S=>
  simp only[FC,Exit.inBlock]at q ⊢;by_cases h:S=id
  .subst h;simp at q ⊢;exact⟨C,u,O,q⟩
  .have:Nat.beq S id=false:=by rw[<-Bool.not_eq_true,Nat.beq_eq];exact h
   grind
 |_=>exact⟨C,u,O,q⟩
def A.cond{c:Operand}{x y:Code}{b:Bool}(ab:env.ev c=.bool b)(X:b=true->aq G x Q env σ)(Y:b=false->aq G y Q env σ):aq G (.cond c x y) Q env σ:=by
 intro cx a w Z;obtain⟨I,β,S,q,O,C⟩:=Z;have u:=q.ev c;rw[ab]at u;simp only[au,aS]at u;exact wp_cond_split u (λe=>X e cx a w ⟨I,β,S,q,O,C⟩) (λe=>Y e cx a w ⟨I,β,S,q,O,C⟩)
def A.region{id:Nat}{ops:ia}(hd:qw G.N ops=true)(h:gh G ops ⟨false,[],[]⟩ [] (List.range ops.size) env σ (λenv σ=>Q .normal env σ)):aq G (.region id ops false) Q env σ:=by
 intro cx a w q;exact wp_region (vL G ops _ _ (Dc hd) _ cx (λenv σ a w u q=>⟨env,σ,q,u⟩) _ _ _ _ _ _ h q)
variable {cx:c0}{w:World}
def bx.drew{G:bG}{I:aZ}{β:Nat->Value}(h:bx G cx I β σ w):bx G cx I β σ {w with drawn:=w.drawn+1}:=
 {good:=h.good,er:=h.er,e8:=h.e8,eW:=h.eW,frame:=h.frame,size:=h.size,tape:=h.tape,os:=h.os,output:=h.output,drawn:=Nat.le_trans h.drawn (Nat.le_succ _),bO:=λd o hd=>bc.heap (w:=w) (w':={w with drawn:=w.drawn+1}) rfl (h.bO d o hd),cq:=h.cq,keep:=h.keep}
theorem A.any{id:Nat}{ops:ia}(T:ja)(es l:cr)(ai:G.P.follows .mixedOrders=true)(Y:wH G.N ops ⟨true,T,es⟩ l=true)
    (h:gh G ops ⟨true,T,es⟩ [] l env σ (λenv σ=>Q .normal env σ)):aq G (.region id ops true) Q env σ:=by
  intro cx a w q;obtain⟨st,C,u⟩:=auz Y;obtain⟨I,β,af,X,Z,O⟩:=q
  refine wp_region_any ai (Lm st rfl _ _ cx (λenv σ a w ah q=>⟨env,σ,q,ah⟩) ops.size l [] (λ_=>[]) _ [] env σ a _ I β ?_
    {iM:=by simp,ord:=C,kN:=λi hi=>?_,lM:=λi hi=>by simp at hi,nd:=List.nodup_nil,pw:=λi hi=>by simp at hi,ps:=λi hi=>by simp at hi,ls:=λi hi=>(u i).2 hi,
     cl:=λj S=>?_,jO:=λi hi=>by simp at hi,md:=λi hi=>by simp at hi,rw:=af.drew,rp:=λt _=>X t,sz:=Z,df:=O} h)
  ·
    have nd:∀l:cr,m8 ⟨true,T,es⟩ l=true->l.Nodup:=by
      intro l;induction l with
      |nil=>intro _;exact List.nodup_nil
      |cons i l ae=>
        intro h;simp only[m8,Bool.and_eq_true,List.all_eq_true,Bool.not_eq_true',beq_eq_false_iff_ne]at h;exact List.nodup_cons.2 ⟨λhi=>(h.1 i hi).1.2 rfl,ae h.2⟩
    have ab:l.Perm (List.range ops.size):=(List.perm_ext_iff_of_nodup (nd l C) List.nodup_range).2 λi=>by rw[List.mem_range];exact(u i).symm
    simpa using ab.length_eq
  · simp_all
  · simp only[Array.getD_eq_getD_getElem?,Array.getElem?_replicate]at S
    grind
def cu(G:bG)(env:ag)(σ:U)(cC:ag)(σ2:U):Prop:=
 ∀cx I β b w,bx G cx I β σ w->gH I β env b->∃a c,bx G cx a c σ2 w/\gH a c cC b
def cu.refl(G:bG)(env:ag)(σ:U):cu G env σ env σ:=λ_ I β _ _ h q=>⟨I,β,h,q⟩
def cu.trans{u cC:ag}{q σ2:U}(h:cu G env σ u q)(X:cu G u q cC σ2):cu G env σ cC σ2:=λcx I β a w Y Q=>by
 obtain⟨C,Z,S,O⟩:=h cx I β a w Y Q;exact X cx C Z a w S O
def cu.rel{cC:ag}{σ2:U}(h:cu G env σ cC σ2){a:Act}(Q:iS G cx env σ a w):iS G cx cC σ2 a w:=by
 obtain⟨I,β,Y,O,S,C⟩:=Q;obtain⟨u,Z,q,X⟩:=h cx I β a w Y O;exact⟨u,Z,q,X,S,C⟩
def atL{c:Code}{cC:ag}{σ2:U}(h:cu G env σ cC σ2)(k:aq G c Q cC σ2):aq G c Q env σ:=λcx b w a=>k cx b w (h.rel a)
def A.loop{c:Code}{α:Type}(ab:α->ag)(af:α->U)(ai:α->Prop)(μ:α->Nat)(ah:α)(aF:ai ah)(am:cu G env σ (ab ah) (af ah))
  (step:∀g,ai g->aq G c (kE (λC u=>∃S,ai S/\μ S<μ g/\cu G C u (ab S) (af S)) Q) (ab g) (af g)):aq G (.loop c) Q env σ:=by
 intro cx a w aj b k cs
 have key:∀n g a w,μ g=n->ai g->iS G cx (ab g) (af g) a w->∃e ae w',(∃C u,iS G cx C u ae w'/\Q e C u)/\
   Arrives G.P (lone (b.at a (.code c::.inLoop c::k)) cs w) b k cs e ae w':=by
  intro n;induction n using Nat.strongRecOn with
  |_ n an=>
   intro g a w aC ak aj;obtain⟨e,Z,Y,q,O⟩:=step g ak cx a w aj b (.inLoop c::k) cs;obtain⟨C,u,X,q⟩:=q;cases e with
   |normal=>
    obtain⟨S,ar,ao,aD⟩:=q;obtain⟨ax,au,aE,av,aw⟩:=an (μ S) (aC▸ao) S Z Y rfl ar (aD.rel X);exact⟨ax,au,aE,av,.of_steps (Steps.trans O (.one step_inLoop)) aw⟩
   |exit id=>exact⟨_,Z,Y,⟨C,u,X,q⟩,.pass (x:=.inLoop c) rfl (λ_ _=>.inl (by simp)) O⟩
   |goto l=>exact⟨_,Z,Y,⟨C,u,X,q⟩,.pass (x:=.inLoop c) rfl (λ_ _=>.inl (by simp)) O⟩
   |ret=>exact⟨_,Z,Y,⟨C,u,X,q⟩,.pass (x:=.inLoop c) rfl (λ_ _=>.inl (by simp)) O⟩
   |panic aG=>exact⟨_,Z,Y,⟨C,u,X,q⟩,.pass (x:=.inLoop c) rfl (λ_ _=>.inl (by simp)) O⟩
   |outgrown=>exact⟨_,Z,Y,⟨C,u,X,q⟩,.pass (x:=.inLoop c) rfl (λ_ _=>.inl (by simp)) O⟩
 obtain⟨e,ae,w',q,O⟩:=key _ ah a w rfl aF (am.rel aj);exact⟨e,ae,w',q,.of_steps (.one step_loop) O⟩
end code
mutual
def H.closed:H->Bool
 |.agg cs=>g7 cs
 |.bP cs=>g7 cs
 |.fn _ cs=>g7 cs
 |.own _=>false
 |.ptr _ _=>false
 |.cz _ _=>false
 |.b6 _=>false
 |_=>true
def g7:List H->Bool
 |[]=>true
 |x::r=>x.closed&&g7 r
end
mutual
def au.closed{I:aZ}{β:Nat->Value}:∀(a:H) (v:Value),a.closed=true->au I β a v->aS I a v
 |.c7,_,_,_=>trivial
 |.undef,_,_,h|.int _ _,_,_,h|.bool _,_,_,h|.str _,_,_,h|.bn _ _,_,_,h|.dR _,_,_,h|.az,_,_,h|.fm,_,_,h|.cL _ _,_,_,h|.fc,_,_,h|.dc _,_,_,h|.fH _,_,_,h|.arr _,_,_,h=>by simpa only[au]using h
 |.agg cs,v,q,h=>by
  simp only[aS,au,H.closed]at h q ⊢;obtain⟨vs,C,u⟩:=h;exact⟨vs,C,br.closed cs _ q u⟩
 |.bP cs,v,q,h=>by
  simp only[aS,au,H.closed]at h q ⊢;obtain⟨vs,C,u⟩:=h;exact⟨vs,C,br.closed cs _ q u⟩
 |.fn f cs,v,q,h=>by
  simp only[aS,au,H.closed]at h q ⊢;obtain⟨vs,C,u⟩:=h;exact⟨vs,C,br.closed cs _ q u⟩
 |.own _,_,q,_=>by simp[H.closed]at q
 |.ptr _ _,_,q,_=>by simp[H.closed]at q
 |.cz _ _,_,q,_=>by simp[H.closed]at q
 |.b6 _,_,q,_=>by simp[H.closed]at q
def br.closed{I:aZ}{β:Nat->Value}:∀(a:List H) (v:cR),g7 a=true->br I β a v->bJ I a v
 |[],_,_,h=>h
 |x::r,v,q,h=>by
  simp only[br,bJ,g7,Bool.and_eq_true]at h q ⊢;obtain⟨C,u,S,O,Q⟩:=h;exact⟨C,u,S,au.closed x C q.1 O,br.closed r u q.2 Q⟩
end
mutual
inductive eX(σ:U):H->H->Prop
 |refl (a:H):eX σ a a
 |nil (f:Bool):eX σ .az (.bn f [])
 |fc:eX σ .fc (.bn false [])
 |full (xs:List (List H)):eX σ (.bn true xs) (.bn false xs)
 |own {d:Nat} {T:TypeId} {sz k:Nat} {xs:List (List H)} (h:σ.get d=some (.slice T sz xs k true)):eX σ (.own d) (.bn false xs)
 |win {d:Nat} {T:TypeId} {sz:Nat} {xs:List (List H)} (h:σ.get d=some (.win T sz xs)):eX σ (.own d) (.bn false xs)
 |ic {d:Nat} {K E:TypeId} {bD:List (H×H)} (h:σ.get d=some (.ic K E bD)):eX σ (.b6 d) (.dc bD)
 |agg {cs hR:List H} (h:hE σ cs hR):eX σ (.agg cs) (.agg hR)
 |bP {cs hR:List H} (h:hE σ cs hR):eX σ (.bP cs) (.bP hR)
 |fn {f:Nat} {cs hR:List H} (h:hE σ cs hR):eX σ (.fn f cs) (.fn f hR)
 |c7 (a:H):eX σ a .c7
 |cL {f:Nat} {a:H} {cs:List H} (h:eX σ a (.fn f cs)) (Y:g7 cs=true):eX σ a (.cL f cs)
inductive hE(σ:U):List H->List H->Prop
 |nil:hE σ [] []
 |cons {a b:H} {r s:List H} (h:eX σ a b) (t:hE σ r s):hE σ (a::r) (b::s)
end
def yT{I:aZ}{b:Nat}:∀(cs:List H) (o:Nat) (vs:cR),bJ I cs vs->(∀(j:Nat) v,vs[j]?=some v->I b ((o+j:Nat))=some v)->gE I b cs o
 |[],_,_,_,_=>trivial
 |x::r,o,vs,h,c=>by
  simp only[bJ]at h;obtain⟨a,d,rfl,g,e⟩:=h;refine⟨⟨a,by simpa using c 0 a rfl,g⟩,yT r (o+1) d e λj v f=>?_⟩;have:=c (j+1) v (by simpa using f)
  rwa [show o+(j+1)=o+1+j from by omega]at this
theorem gy{I:aZ}:∀(xs ys:List H) (vs:cR),bJ I (xs++ys) vs↔∃b a,vs=b++a/\bJ I xs b/\bJ I ys a
 |[],ys,vs=>by
  simp only[List.nil_append,bJ];exact⟨λi=>⟨[],vs,rfl,rfl,i⟩,λ⟨b,a,c,e,d⟩=>by subst e;simp at c;subst c;exact d⟩
 |x::r,ys,vs=>by
  simp only[List.cons_append,bJ];constructor
  .rintro⟨g,b,rfl,c,e⟩;obtain⟨f,a,rfl,d,h⟩:=(gy r ys b).1 e
   grind
  .rintro⟨b,a,rfl,⟨g,f,rfl,c,d⟩,h⟩;exact⟨g,f++a,rfl,c,(gy r ys _).2 ⟨f,a,rfl,d,h⟩⟩
def hy{I:aZ}:∀(xs:List H) (vs:cR),bJ I xs vs->vs.length=xs.length
 |[],vs,h=>by simp only[bJ]at h;subst h;rfl
 |x::r,vs,h=>by
  simp only[bJ]at h;obtain⟨c,a,rfl,_,b⟩:=h;simp[hy r a b]
def j9{I:aZ}{β:Nat->Value}:∀(xs:List H) (vs:cR),br I β xs vs->vs.length=xs.length
 |[],vs,h=>by simp only[br]at h;subst h;rfl
 |x::r,vs,h=>by
  simp only[br]at h;obtain⟨c,a,rfl,_,b⟩:=h;simp[j9 r a b]
def pQ{I:aZ}{b:Nat}:∀(xs:List (List H)) (o:Nat) (vs:cR),bJ I xs.flatten vs->(∀(j:Nat) v,vs[j]?=some v->I b ((o+j:Nat))=some v)->eZ I b xs o
 |[],_,_,_,_=>trivial
 |e::r,o,vs,h,f=>by
  simp only[List.flatten_cons]at h;obtain⟨c,l,rfl,g,i⟩:=(gy _ _ _).1 h;have k:=hy _ _ g
  refine⟨yT e o c g λj v a=>f j v (by
    rw[List.getElem?_append_left (by rcases Nat.lt_or_ge j c.length with d|d;exact d;rw[List.getElem?_eq_none d]at a;cases a)];exact a),
   pQ r (o+e.length) l i λj v a=>?_⟩
  have:=f (c.length+j) v (by rw[List.getElem?_append_right (by omega)];simpa using a)
  rwa [k,<-Nat.add_assoc]at this
section sealing
variable {G:bG}{cx:c0}{I:aZ}{β:Nat->Value}{σ:U}{w:World}
theorem bx.slice(h:bx G cx I β σ w){d:Nat}{T:TypeId}{sz k:Nat}{xs:List (List H)}(hd:σ.get d=some (.slice T sz xs k true)){v:Value}(u:au I β (.own d) v):
  au I β (.bn false xs) v:=by
 simp only[au]at u;obtain⟨rfl,C⟩:=u;have:=h.bO d _ hd;simp only[bc]at this;rcases this with q|⟨q,rfl,_⟩|⟨b,aM,arr,q,O,Q,Y,X,S,Z,ae,ab,af,ah⟩
 .rw[q]at C;simp[fl]at C
 .rw[q];simp only[au,aS];exact⟨none,0,rfl,by simp,by simp[maxLen],by simp,by simp⟩
 .rw[q];simp only[au,aS];refine⟨_,aM,rfl,O,Q,by simp,.inr ⟨b,0,rfl,?_⟩⟩;refine pQ xs 0 _ S λj v u=>?_
  grind
def bx.win(h:bx G cx I β σ w){d:Nat}{T:TypeId}{sz:Nat}{xs:List (List H)}(hd:σ.get d=some (.win T sz xs)){v:Value}(u:au I β (.own d) v):
  au I β (.bn false xs) v:=by
 simp only[au]at u;obtain⟨rfl,C⟩:=u;have:=h.bO d _ hd;simp only[bc]at this;rcases this with q|⟨q,rfl⟩|⟨b,X,aM,arr,q,O,Q,Z,Y,S,ab,af,ae⟩
 .rw[q]at C;simp[fl]at C
 .rw[q];simp only[au,aS];exact⟨none,0,rfl,by simp,by simp[maxLen],by simp,by simp⟩
 .rw[q];simp only[au,aS];exact⟨_,aM,rfl,O,Q,by simp,.inr ⟨b,X,rfl,S⟩⟩
mutual
def eX.rep(O:bx G cx I β σ w):∀{a r:H},eX σ a r->∀v,au I β a v->au I β r v
 |_,_,.fc,v,h=>by
  simp only[au,aS]at h ⊢;obtain⟨a,c,ah,S⟩:=h;exact⟨some a,c,ah,by simp,S,by simp,by simp⟩
 |_,_,.refl _,_,h=>h
 |_,_,.cL C S,v,h=>by
  have q:=eX.rep O C v h;simp only[au,aS]at q ⊢;obtain⟨vs,u,Q⟩:=q;exact⟨vs,u,br.closed _ _ S Q⟩
 |_,_,.nil f,v,h=>by
  simp only[au,aS]at h ⊢;exact⟨none,0,h,by simp,by simp[maxLen],by simp,by simp⟩
 |_,_,.full xs,v,h=>by
  simp only[au,aS]at h ⊢;obtain⟨a,c,q,u,Q,_,ae⟩:=h;exact⟨a,c,q,u,Q,by simp,ae⟩
 |_,_,.own hd,v,h=>O.slice hd h
 |_,_,.win hd,v,h=>O.win hd h
 |_,_,.ic hd,v,h=>by
  simp only[au]at h;obtain⟨rfl,X⟩:=h;have:=O.bO _ _ hd;simp only[bc]at this;rcases this with ai|⟨r,es,clock,Z,ab,af,_,Y⟩
  .rw[ai]at X;simp[jd]at X
  .rw[Z];simp only[au,aS];exact⟨r,es,clock,rfl,ab,af,Y⟩
 |_,_,.agg C,v,h=>by
  simp only[au]at h ⊢;obtain⟨vs,q,u⟩:=h;exact⟨vs,q,hE.rep O C _ u⟩
 |_,_,.bP C,v,h=>by
  simp only[au]at h ⊢;obtain⟨vs,q,u⟩:=h;exact⟨vs,q,hE.rep O C _ u⟩
 |_,_,.fn C,v,h=>by
  simp only[au]at h ⊢;obtain⟨vs,q,u⟩:=h;exact⟨vs,q,hE.rep O C _ u⟩
 |_,_,.c7 _,v,h=>by simp[au]
def hE.rep(C:bx G cx I β σ w):∀{a r:List H},hE σ a r->∀vs,br I β a vs->br I β r vs
 |_,_,.nil,_,h=>h
 |_,_,.cons S O,vs,h=>by
  simp only[br]at h ⊢;obtain⟨u,q,Y,Q,X⟩:=h;exact⟨u,q,Y,eX.rep C S u Q,hE.rep C O q X⟩
end
def bx.sub{σ2:U}(h:bx G cx I β σ w)(q:∀d o,σ2.get d=some o->σ.get d=some o):bx G cx I β σ2 w:=
  {h with bO:=λd o e=>h.bO d o (q d o e),
          cq:=λd cf e u=>by
            obtain⟨o,e⟩:=Option.isSome_iff_exists.1 e;obtain⟨C,u⟩:=Option.isSome_iff_exists.1 u;exact h.cq d cf (by rw[q d o e];rfl) (by rw[q cf C u];rfl)}
def bY.mQ:bY->bY
 |.slice T sz xs _ _=>.slice T sz xs xs.length true
 |.map K E q=>.ic K E q
 |o=>o
def U.freeze(bN:cr):U->U
 |[]=>[]
 |(d,o)::r=>(d,bif bN.contains d then o.mQ else o)::U.freeze bN r
theorem atG(bN:cr):∀(σ:U) (d:Nat),(U.freeze bN σ).get d=(σ.get d).map λo=>if d∈bN then o.mQ else o
 |[],d=>rfl
 |(k,o)::r,d=>by
  simp only[U.freeze,atw,atG bN r d];split
  .grind
  .rfl
def bc.BF{u:aZ}{d b:Nat}{o:bY}(bp:bQ I u)(O:∀q o,q≠b->u q o=I q o)(Q:∀q∈cb (β d),q≠b)(C:bc cx I β w d o):bc cx u β w d o:=C.tu bp rfl (eC.refl _) λq e=>⟨λ_=>rfl,λo=>O q o (Q q e),id⟩
theorem bx.Mn(h:bx G cx I β σ w)(e:Nat):∃S,bQ I S/\bx G cx S β (σ.freeze [e]) w:=by
 cases Z:σ.get e with
 |none=>
  refine⟨I,bQ.refl I,h.sub λd o hd=>?_⟩;rw[atG]at hd;cases q:σ.get d with
  |none=>rw[q]at hd;cases hd
  |some ak=>
   rw[q]at hd;have:d∉[e]:=by intro O;simp at O;subst O;rw[Z]at q;cases q
   simp only[Option.map_some,this,if_false]at hd;exact hd
 |some o=>
  have Q:(∀ak,o.mQ=ak->ak=o)->∃S,bQ I S/\bx G cx S β (σ.freeze [e]) w:=by
   intro a1;refine⟨I,bQ.refl I,h.sub λd ak hd=>?_⟩;rw[atG]at hd;cases q:σ.get d with
   |none=>rw[q]at hd;cases hd
   |some Y=>
    rw[q]at hd;simp only[Option.map_some,Option.some.injEq]at hd;split at hd
    .grind
    .rw[hd]
  cases o with
  |cells T cs=>exact Q (λ_ e=>e.symm)
  |ic K E ax=>exact Q (λ_ e=>e.symm)
  |eV es clock K E ax=>exact Q (λ_ e=>e.symm)
  |iter aU a0 aX seen=>exact Q (λ_ e=>e.symm)
  |hdr aU n=>exact Q (λ_ e=>e.symm)
  |win T sz xs=>exact Q (λ_ e=>e.symm)
  |cE dj=>exact Q (λ_ e=>e.symm)
  |fA T e n ar=>exact Q (λ_ e=>e.symm)
  |lu T sz xs aF e ar=>exact Q (λ_ e=>e.symm)
  |ew T sz xs aF e ar=>exact Q (λ_ e=>e.symm)
  |l9 T xs t=>exact Q (λ_ e=>e.symm)
  |vec T xs=>exact Q (λ_ e=>e.symm)
  |oM es clock ax seen=>exact Q (λ_ e=>e.symm)
  |dD K E e keys ar aV=>exact Q (λ_ e=>e.symm)
  |map K E ax=>
   have ab:=h.bO e _ Z;simp only[bc]at ab;rcases ab with X|⟨r,es,clock,X,aD,an,aj,ai,ao⟩
   .refine⟨I,bQ.refl I,{h with bO:=λd o hd=>?_,cq:=λd cf hd q=>?_}⟩
    .rw[atG]at hd;cases q:σ.get d with
     |none=>rw[q]at hd;cases hd
     |some Y=>
      rw[q]at hd;simp only[Option.map_some,Option.some.injEq]at hd;subst hd;split
      .rename_i O;simp at O;subst O;rw[Z]at q;cases q;exact .inl X
      .exact h.bO d Y q
    .rw[atG,Option.isSome_map]at hd q;exact h.cq d cf hd q
   .let S:aZ:=λb o=>if b=r/\o=none then some (i4 es clock)else I b o
    have bp:bQ I S:=λb o v C=>by
     show(if b=r/\o=none then some (i4 es clock)else I b o)=some v;split
     .grind
     .exact C
    have ah:∀b o,b≠r->S b o=I b o:=λb o af=>by
     show(if b=r/\o=none then some (i4 es clock)else I b o)=_;rw[if_neg (λae=>af ae.1)]
    have av:bK (β e)=some r:=by rw[X];rfl
    refine⟨S,bp,{good:=λu o v C=>?_,er:=λu v C=>?_,e8:=λu o v C=>bp _ _ _ (h.e8 _ _ _ C),eW:=λu am aw o=>?_,frame:=h.frame,size:=h.size,tape:=h.tape,os:=h.os,output:=h.output,drawn:=h.drawn,bO:=λd o hd=>?_,cq:=λd cf hd q=>?_,keep:=h.keep}⟩
    .refine h.good u o v ?_
     grind
    .change (if u=r/\none=none then some (i4 es clock)else I u none)=some v at C
     split at C
     .grind
     .exact h.er u v C
    .have af:u≠r:=λe=>by
      subst e;rcases ai with aC|aC
      .omega
      .grind
     rw[ah u o af];exact h.eW u am aw o
    .rw[atG]at hd;cases q:σ.get d with
     |none=>rw[q]at hd;cases hd
     |some Y=>
      rw[q]at hd;simp only[Option.map_some,Option.some.injEq]at hd;subst hd;by_cases gD:d=e
      .subst gD;rw[Z]at q;cases q;simp only[List.mem_singleton,if_true,bY.mQ,bc];exact .inr ⟨r,es,clock,X,by show(if r=r/\none=none then some (i4 es clock)else I r none)=_;rw[if_pos ⟨rfl,rfl⟩],l3 bp _ _ an,ai,ao⟩
      .have O:d∉[e]:=by simpa using gD
       rw[if_neg O];refine(h.bO d Y q).BF bp ah λu au aq=>?_;subst aq;exact h.cq d e (by rw[q];rfl) (by rw[Z];rfl) gD u au (g4 av)
    .rw[atG,Option.isSome_map]at hd q;exact h.cq d cf hd q
  |slice T sz xs k bN=>
   have ab:=h.bO e _ Z;simp only[bc]at ab;rcases ab with X|⟨X,rfl,rfl⟩|⟨b,aM,arr,X,aD,an,aj,ai,ao,aG,aI,aW,aJ,aE⟩
   .refine⟨I,bQ.refl I,{h with bO:=λd o hd=>?_,cq:=λd cf hd q=>?_}⟩
    .rw[atG]at hd;cases q:σ.get d with
     |none=>rw[q]at hd;cases hd
     |some Y=>
      rw[q]at hd;simp only[Option.map_some,Option.some.injEq]at hd;subst hd;split
      .rename_i O;simp at O;subst O;rw[Z]at q;cases q;exact .inl X
      .exact h.bO d Y q
    .rw[atG,Option.isSome_map]at hd q;exact h.cq d cf hd q
   .refine⟨I,bQ.refl I,{h with bO:=λd o hd=>?_,cq:=λd cf hd q=>?_}⟩
    .rw[atG]at hd;cases q:σ.get d with
     |none=>rw[q]at hd;cases hd
     |some Y=>
      rw[q]at hd;simp only[Option.map_some,Option.some.injEq]at hd;subst hd;split
      .rename_i O;simp at O;subst O;rw[Z]at q;cases q;exact .inr (.inl ⟨X,rfl,rfl⟩)
      .exact h.bO d Y q
    .rw[atG,Option.isSome_map]at hd q;exact h.cq d cf hd q
   .let S:aZ:=I.on λu o=>if u=b/\o<xs.length*sz then arr[o]? else I u o
    have bp:bQ I S:=λu o v C=>by
     cases o with
     |none=>exact C
     |some o=>
     show(if u=b/\o<xs.length*sz then arr[o]? else I u o)=some v;split
     .rename_i ae;obtain⟨rfl,aH⟩:=ae;have aQ:=h.good u o v C;simp only[World.cell?,aj]at aQ
      grind
     .exact C
    have ah:∀u o,u≠b->S u o=I u o:=λu o af=>by
     cases o with
     |none=>rfl
     |some o=>
     show(if u=b/\o<xs.length*sz then arr[o]? else I u o)=_;rw[if_neg (λae=>af ae.1)]
    have av:bK (β e)=some b:=by rw[X];rfl
    refine⟨S,bp,{good:=λu o v C=>?_,er:=h.er,e8:=λu o v C=>bp _ _ _ (h.e8 _ _ _ C),eW:=λu am aw o=>?_,frame:=h.frame,size:=h.size,tape:=h.tape,os:=h.os,output:=h.output,drawn:=h.drawn,bO:=λd o hd=>?_,cq:=λd cf hd q=>?_,keep:=h.keep}⟩
    .change (if u=b/\o<xs.length*sz then arr[o]? else I u o)=some v at C
     split at C
     .rename_i ae;obtain⟨rfl,aH⟩:=ae;simp only[World.cell?,aj]
      grind
     .exact h.good u o v C
    .have af:u≠b:=λe=>by
      subst e;rcases aE with aC|aC
      .omega
      .grind
     rw[ah u o af];exact h.eW u am aw o
    .rw[atG]at hd;cases q:σ.get d with
     |none=>rw[q]at hd;cases hd
     |some Y=>
      rw[q]at hd;simp only[Option.map_some,Option.some.injEq]at hd;subst hd;by_cases gD:d=e
      .subst gD;rw[Z]at q;cases q;simp only[List.mem_singleton,if_true,bY.mQ,bc];refine .inr (.inr ⟨b,aM,arr,X,aD,an,aj,ai,iI bp _ _ ao,aG,Nat.le_refl _,λ_ o ab=>?_,λo ab=>?_,aE⟩)
       .show(if b=b/\o<xs.length*sz then arr[o]? else I b o)=_
        grind
       .show(if b=b/\o<xs.length*sz then arr[o]? else I b o)=_;rw[if_neg (λae=>by omega)];exact aJ o (Nat.le_trans (Nat.mul_le_mul_right _ aI) ab)
      .have O:d∉[e]:=by simpa using gD
       rw[if_neg O]
       have aT:∀u∈cb (β d),u≠b:=λu au aq=>by
        subst aq;exact h.cq d e (by rw[q];rfl) (by rw[Z];rfl) gD u au (g4 av)
       exact(h.bO d Y q).BF bp ah aT
    .rw[atG,Option.isSome_map]at hd q;exact h.cq d cf hd q
theorem bx.yU(h:bx G cx I β σ w):∀bN:cr,∃u,bQ I u/\bx G cx u β (σ.freeze bN) w:=by
 intro bN;induction bN generalizing σ I with
 |nil=>
  refine⟨I,bQ.refl I,h.sub λd o hd=>?_⟩;rw[atG]at hd;simpa using hd
 |cons e r Q=>
  obtain⟨ab,X,Z⟩:=h.Mn e;obtain⟨S,Y,O⟩:=Q Z;refine⟨S,X.trans Y,O.sub λd o hd=>?_⟩;rw[atG]at hd;rw[atG,atG];cases C:σ.get d with
  |none=>rw[C]at hd;cases hd
  |some q=>
   rw[C]at hd;simp only[Option.map_some,Option.some.injEq]at hd ⊢;rw[<-hd];have ae:q.mQ.mQ=q.mQ:=by cases q<;>rfl
   by_cases gD:d=e
   .grind
   .grind
end sealing
def cu.freeze(G:bG)(env:ag)(σ:U)(bN:cr):cu G env σ env (σ.freeze bN):=λcx I β a w h C=>by
 obtain⟨q,bp,u⟩:=h.yU bN;exact⟨q,β,u,C.mono bp (eC.refl β)⟩
theorem cu.drop{G:bG}{env cC:ag}{σ σ2:U}(X:∀p∈cC,eX σ (env.get p.1) p.2)(Y:∀p∈σ2,σ.get p.1=some p.2):cu G env σ cC σ2:=λcx I β a w h Q=>by
 have S:∀(l:ag) t,l.get t=.c7\/∃p∈l,p.1=t/\l.get t=p.2:=by
  intro l;induction l with
  |nil=>exact λ_=>.inl rfl
  |cons x r O=>
   intro t;obtain⟨k,v⟩:=x;rw[atK];split
   .simp_all
   .grind
 have Z:∀(l:U) d o,l.get d=some o->∃p∈l,p.1=d/\p.2=o:=by
  intro l;induction l with
  |nil=>intro d o h;simp[U.get]at h
  |cons x r O=>
   intro d o h;obtain⟨k,v⟩:=x;rw[atw]at h;split at h
   .simp_all
   .grind
 refine⟨I,β,h.sub λd o hd=>?_,λt=>?_⟩
 .grind
 .rcases S cC t with q|⟨p,q,u,C⟩
  .rw[q];simp[au]
  .rw[C];subst u;exact(X p q).rep h _ (Q p.1)
def atQ{G:bG}{c:Code}{Q:Exit->ag->U->Prop}{env:ag}{σ:U}(h:∀cx a w,iS G cx env σ a w->c.wp G.P (λe f w'=>∃d b,iS G cx d b f w'/\Q e d b) a w):aq G c Q env σ:=h
def aq.use{G:bG}{c:Code}{Q:Exit->ag->U->Prop}{env:ag}{σ:U}(h:aq G c Q env σ)(cx:c0)(a:Act)(w:World)(C:iS G cx env σ a w):c.wp G.P (λe O w'=>∃u q,iS G cx u q O w'/\Q e u q) a w:=h cx a w C
attribute [irreducible] aq
end
section
variable {I:aZ}{p:Nat->Bool}{r:Nat->Nat}{β β':Nat->Value}
def Fc(h:∀d,p d=false->β' (r d)=β d)(x:H)(v:Value)(e:x.refs p=false)(q:au I β x v):au I β' (x.ck r) v:=wo (bQ.refl I) (λd e=>.inr (h d e)) x v e q
def Ln(h:∀d,p d=false->β' (r d)=β d)(x:List H)(v:cR)(e:i6 p x=false)(q:br I β x v):br I β' (iB r x) v:=vy (bQ.refl I) (λd e=>.inr (h d e)) x v e q
def ag.ck(r:Nat->Nat)(env:ag):ag:=env.map λp=>(p.1,p.2.ck r)
def U.ck(r:Nat->Nat)(σ:U):U:=σ.map λp=>(r p.1,p.2.ck r)
def auq(r:Nat->Nat):∀(env:ag) t,(env.ck r).get t=(env.get t).ck r
 |[],t=>by simp[ag.ck,ag.get,H.ck]
 |(k,v)::l,t=>by
  have:=auq r l t;simp only[ag.ck]at this ⊢;simp only[List.map_cons,atK];split
  .rfl
  .exact this
def qx(r s:Nat->Nat)(ids:cr)(env:ag)(σ:U):Bool:=
 env.clean (λa=>!Nat.beq (s (r a)) a)&&σ.clean (λa=>!Nat.beq (s (r a)) a)&&ids.all (λa=>Nat.beq (s a) a)
theorem cu.ck{G:bG}{env:ag}{σ:U}(r s:Nat->Nat)(Y:qx r s G.ids env σ=true):cu G env σ (env.ck r) (σ.ck r):=λcx I β a w h an=>by
 simp only[qx,Bool.and_eq_true,List.all_eq_true,Nat.beq_eq]at Y;obtain⟨⟨ar,af⟩,ah⟩:=Y
 have X:∀d,(!Nat.beq (s (r d)) d)=false->(λx=>β (s x)) (r d)=β d:=λd hd=>by
  have:s (r d)=d:=by simpa using hd
  show β (s (r d))=β d;rw[this]
 have obj:∀d o,(σ.ck r).get d=some o->∃d0 q,σ.get d0=some q/\d=r d0/\o=q.ck r/\s (r d0)=d0/\ih (λd=>!Nat.beq (s (r d)) d) q=false:=by
  intro d o hd
  have key:∀(l:U),l.clean (λd=>!Nat.beq (s (r d)) d)=true->(U.ck r l).get d=some o->∃d0 q,l.get d0=some q/\d=r d0/\o=q.ck r/\s (r d0)=d0/\ih (λd=>!Nat.beq (s (r d)) d) q=false:=by
   intro l;induction l with
   |nil=>intro _ h;simp[U.ck,U.get]at h
   |cons x t am=>
    obtain⟨k,v⟩:=x;intro O h;simp only[U.clean,Bool.and_eq_true,Bool.not_eq_true',Bool.not_eq_false']at O;simp only[U.ck,List.map_cons,atw]at h;have au:s (r k)=k:=by simpa using O.1.1
    split at h
    .rename_i Z;cases h;exact⟨k,v,by simp[atw],Z.symm,rfl,au,O.1.2⟩
    .rename_i Z;obtain⟨d0,q,C,ab,ae,u,S⟩:=am O.2 h;refine⟨d0,q,?_,ab,ae,u,S⟩;rw[atw,if_neg]
     all_goals grind
  exact key σ af hd
 refine⟨I,λx=>β (s x),{h with bO:=λd o hd=>?_,cq:=λd cf hd Q aj b=>?_,keep:=λd hd=>?_},λt=>?_⟩
 .obtain⟨d0,q,C,rfl,rfl,u,S⟩:=obj d o hd;have ai:=h.bO d0 q C;exact ai.go (bQ.refl I) (by simp only[u]) (λx e=>.inr (X x e)) (λb _=>⟨λ_=>rfl,λ_=>rfl,id⟩) S
 .obtain⟨o,hd⟩:=Option.isSome_iff_exists.1 hd;obtain⟨ao,Q⟩:=Option.isSome_iff_exists.1 Q;obtain⟨d0,q,C,rfl,_,u,_⟩:=obj d o hd;obtain⟨d1,av,ak,rfl,_,aq,_⟩:=obj cf ao Q;simp only[u,aq];exact h.cq d0 d1 (by rw[C];rfl) (by rw[ak];rfl) (λe=>aj (by rw[e])) b
 .have:=ah d hd;simp only[this];exact h.keep d hd
 .rw[auq];exact Fc (r:=r) X _ _ (atW ar t) (an t)
variable {G:bG}{σ:U}
theorem avz{env:ag}(t d:Nat)(T:TypeId)(sz:Nat)(x:env.get t=.az)(A:σ.get d=none)(hi:G.ids.contains d=false)(v:env.clean (Nat.beq d)=true)(q:σ.clean (Nat.beq d)=true):
  cu G env σ ((t,.own d)::env) ((d,.slice T sz [] 0 false)::σ):=λz I β y w h n=>by
 let β':Nat->Value:=λa=>if a=d then .slice none 0 0 else β a
 have f:∀a,Nat.beq d a=false->β' a=β a:=λa c=>by
  have:a≠d:=λe=>by subst e;simp at c
  show(if a=d then _ else β a)=_;rw[if_neg this]
 have g:β' d=.slice none 0 0:=by show(if d=d then _ else _)=_;rw[if_pos rfl]
 refine⟨I,β',{h with bO:=λa o e=>?_,cq:=λa l j k u b=>?_,keep:=λa c=>?_},λm=>?_⟩
 .rw[atw]at e;split at e
  .rename_i c;subst c;cases e
   simp only[bc,g]
   grind
  .obtain⟨r,s⟩:=atF q a o e;exact(h.bO a o e).beta f r s
 .rw[atw]at j k;by_cases c:d=a
  .subst c;rw[g];simp[vK]
  .by_cases i:d=l
   .subst i;rw[g];simp[vK]
   .rw[if_neg c]at j;rw[if_neg i]at k;rw[f a (by rw[<-Bool.not_eq_true,Nat.beq_eq];exact c),f l (by rw[<-Bool.not_eq_true,Nat.beq_eq];exact i)];exact h.cq a l j k u b
 .have:d≠a:=λe=>by subst e;simp at hi;exact hi c
  rw[f a (by rw[<-Bool.not_eq_true,Nat.beq_eq];exact this)];exact h.keep a c
 .rw[atK];split
  .rename_i p;subst p;have:=n t;rw[x]at this;simp only[au,aS]at this;simp only[au,this,g,fl,and_self]
  .exact oh f _ _ (atW v m) (n m)
def H.qI:H->Prop
 |.bn _ xs=>xs.length<=maxLen
 |_=>True
def Bf:List H->Prop
 |[]=>True
 |x::r=>x.qI/\Bf r
def H.aa:H->Prop
 |.bn _ xs=>xs.length<=maxLen
 |.agg cs=>Bf cs
 |_=>True
def qJ:List H->Prop
 |[]=>True
 |x::r=>x.aa/\qJ r
def au.qI{I:aZ}{β:Nat->Value}{a:H}{v:Value}(h:au I β a v):a.qI:=by
 cases a<;>simp only[H.qI]
 simp only[au,aS]at h;omega
def br.aa{I:aZ}{β:Nat->Value}:∀{a:List H} {v:cR},br I β a v->Bf a
 |[],_,_=>trivial
 |x::r,_,h=>by
  simp only[br]at h;obtain⟨_,_,_,u,q⟩:=h;exact⟨u.qI,br.aa q⟩
def au.aa{I:aZ}{β:Nat->Value}{a:H}{v:Value}(h:au I β a v):a.aa:=by
 cases a<;>simp only[H.aa]
 .exact h.qI
 .simp only[au]at h;obtain⟨_,_,h⟩:=h;exact h.aa
def br.qJ{I:aZ}{β:Nat->Value}:∀{a:List H} {v:cR},br I β a v->qJ a
 |[],_,_=>trivial
 |x::r,_,h=>by
  simp only[br]at h;obtain⟨_,_,_,u,q⟩:=h;exact⟨u.aa,br.qJ q⟩
def U.ids(σ:U):cr:=σ.map (·.1)
def cp(P:Program)(f:FuncId)(a:U)(args:List H)(Post:H->U->Prop):Prop:=
 ∀(d:c0) (w:World) (I:aZ) (β:Nat->Value) (g:cR),bx ⟨P,0,a.ids⟩ d I β a w->br I β args g->
  Calls P f g.toArray w (λh i=>∃e,h=.returned e/\∃r c b β',Post r c/\au b β' r e/\bx ⟨P,0,a.ids⟩ d b β' c i)
def cp.mono{P:Program}{f:FuncId}{u:U}{args:List H}{Post C:H->U->Prop}(h:cp P f u args Post)(Z:∀r q,Post r q->C r q):cp P f u args C:=
 λcx w I β vs ab Y=>Calls.mono (h cx w I β vs ab Y) λ_ _ ⟨v,ae,r,q,S,β',O,Q,X⟩=>⟨v,ae,r,q,S,β',Z _ _ O,Q,X⟩
def bB(P:Program)(f:FuncId)(a:U)(args:List H)(r:H):Prop:=cp P f a args (λc b=>c=r/\b=a)
structure fO(P:Program)(T:TypeId)(n:Nat)(bU:Bool):Prop where
 size:∀w,(sizeOf T).run P w=.ok n w
 agg:∀w,(isAgg T).run P w=.ok bU w
def hF(bU:Bool)(n:Nat)(cs:List H):H:=bif bU then .agg (cs.take n)else cs.headD .c7
def rX{I:aZ}{β:Nat->Value}:∀(k:Nat) (cs:List H) (vs:cR),br I β cs vs->br I β (cs.drop k) (vs.drop k)
 |0,_,_,h=>by simpa using h
 |k+1,[],vs,h=>by simp only[br]at h;subst h;simp[br]
 |k+1,x::r,vs,h=>by
  simp only[br]at h;obtain⟨c,a,rfl,_,b⟩:=h;simpa using rX k r a b
def rY{I:aZ}{β:Nat->Value}:∀(k:Nat) (cs:List H) (vs:cR),br I β cs vs->br I β (cs.take k) (vs.take k)
 |0,_,_,_=>by simp[br]
 |k+1,[],vs,h=>by simp only[br]at h;subst h;simp[br]
 |k+1,x::r,vs,h=>by
  simp only[br]at h;obtain⟨b,a,rfl,d,c⟩:=h;simp only[List.take_succ_cons,br];exact⟨b,_,rfl,d,rY k r a c⟩
theorem g5(b o n:Nat):Addr.add ⟨b,o,none⟩ n=⟨b,o+n,none⟩:=by
 unfold Addr.add;split<;>simp_all
variable {P:Program}{T:TypeId}{b:Nat}{bU:Bool}{w:World}
theorem B8{n:Nat}(e:fO P T n bU){off:Nat}{vs:cR}(h:∀j,j<n->∃v,vs[j]?=some v/\w.cell? ⟨b,off+j,none⟩=some v)(g:bU=false->0<n):
  (loadVar T ⟨b,off,none⟩).run P w=.ok (if bU then .agg (vs.take n).toArray else vs.headD undef) w:=by
 unfold loadVar;simp only[Sem.run_bind,e.agg,Result.andThen_ok];cases bU with
 |true=>
  simp only[if_true,Sem.run_bind,e.size,Result.andThen_ok];have:(loadCells ⟨b,off,none⟩ n).run P w=.ok (vs.take n).toArray w:=by
   have k:(vs.take n).length=n:=by
    rw[List.length_take];rcases Nat.lt_or_ge vs.length n with i|i
    all_goals grind
   have m:=run_loadCells_list (P:=P) w ⟨b,off,none⟩ (vs.take n) (λj v a=>by
    rw[List.getElem?_take]at a;split at a
    .rename_i f;obtain⟨l,c,d⟩:=h j f;rw[c]at a;cases a;rw[g5];exact d
    .cases a)
   grind
  rw[this];rfl
 |false=>
  obtain⟨v,c,d⟩:=h 0 (g rfl);simp only[load];simp only[Bool.false_eq_true,if_false,Sem.run];rw[show(⟨b,off,none⟩:Addr)=⟨b,off+0,none⟩from rfl,d];cases vs with
  |nil=>simp at c
  |cons x r=>simp at c;subst c;rfl
def Ao{I:aZ}{β:Nat->Value}:∀(xs:bR) (vs:cR),br I β (xs.map (H.int .i64)) vs->vs=xs.map (Value.int .i64)
 |[],vs,h=>by simpa only[List.map_nil,br]using h
 |x::r,vs,h=>by
  simp only[List.map_cons,br]at h;obtain⟨b,a,rfl,d,c⟩:=h;rw[show b=Value.int .i64 x by simpa [au,aS]using d,Ao r a c];rfl
def v2{I:aZ}{β:Nat->Value}:∀(xs:bR),br I β (xs.map (H.int .i64)) (xs.map (Value.int .i64))
 |[]=>by simp[br]
 |x::r=>by simp only[List.map_cons,br];exact⟨_,_,rfl,by simp[au,aS],v2 r⟩
def Ap{xs:bR}{v:Value}:au I β (.agg (xs.map (H.int .i64))) v↔au I β (.arr xs) v:=by
 simp only[au,aS];constructor
 .rintro⟨b,rfl,a⟩;rw[<-Ao xs _ a]
 .rintro rfl;exact⟨_,rfl,by simpa using v2 xs⟩
inductive je(G:bG)(env:ag)(σ:U):ResultVar->H->Prop
 |tmp (t:Nat):je G env σ (.tmp t) (env.get t)
 |cell (a T d:Nat) (aQ n:Nat) (bU:Bool) (cs:List H) (av:env.get a=.ptr d 0) (hd:σ.get d=some (.cells aQ cs)) (aG:fO G.P T n bU) (an:cs.length=n) (bt:bU=false->0<n):je G env σ (.cell a T) (hF bU n cs)
 |arr (a T d:Nat) (aQ n:Nat) (xs:bR) (av:env.get a=.ptr d 0) (hd:σ.get d=some (.vec aQ xs)) (aG:fO G.P T n true) (an:xs.length=n):je G env σ (.cell a T) (.arr xs)
def sT(b:fz):ResultVar->Sem Value
 |.tmp t=>pure (b.getD t undef)
 |.cell a t=>do loadVar t (<-asAddr (b.getD a undef))
variable {aQ:TypeId}
theorem bx.box{cx:c0}(O:bx G cx I β σ w){d:Nat}{cs:List H}(hd:σ.get d=some (.cells aQ cs))(q:bK (β d)=some b):
  ∃arr,β d=.pointer (some ⟨b,0,none⟩)/\w.heap[b]?=some (.cells arr aQ (0,0))/\br I β cs arr.toList/\(∀o,I b o=none)/\Place cx b:=by
 have u:=O.bO d _ hd;simp only[bc]at u;rcases u with S|⟨Q,arr,C,Y,Z,X,ab⟩
 .rw[S]at q;simp[bK]at q
 .have:Q=b:=by rw[C]at q;simpa [bK]using q
  grind
def yu{n:Nat}(h:fO P T n bU)(j:bU=false->0<n){off:Nat}{arr:fz}{cs:List H}(f:w.heap[b]?=some (.cells arr aQ (0,0)))
  (d:br I β cs arr.toList) (p:off+n<=cs.length):∃v,(loadVar T ⟨b,off,none⟩).run P w=.ok v w/\au I β (hF bU n (cs.drop off)) v:=by
 have q:=j9 _ _ d
 have g:∀c,c<n->∃v,(arr.toList.drop off)[c]?=some v/\w.cell? ⟨b,off+c,none⟩=some v:=λc o=>by
  have e:off+c<arr.toList.length:=by omega
  refine⟨arr.toList[off+c],by rw[List.getElem?_drop];exact List.getElem?_eq_getElem e,?_⟩;simp only[World.cell?,f];simpa using List.getElem?_eq_getElem e
 refine⟨_,B8 h g j,?_⟩;have a:=rX off _ _ d;cases bU with
 |true=>
  simp only[hF,cond_true,if_true,au];exact⟨_,rfl,by simpa using rY n _ _ a⟩
 |false=>
  simp only[hF,cond_false,Bool.false_eq_true,if_false];generalize cs.drop off=i at a;cases i with
  |nil=>simp[au]
  |cons x r=>
   simp only[br]at a;obtain⟨m,l,k,a,_⟩:=a;rw[k];exact a
def je.run{G:bG}{env:ag}{σ:U}{r:ResultVar}{x:H}(h:je G env σ r x){cx:c0}{I:aZ}{β:Nat->Value}{w:World}{a:Act}(ae:bx G cx I β σ w)(O:gH I β env a):
  ∃v,au I β x v/\(sT a.tmps r).run G.P w=.ok v w:=by
 cases h with
 |tmp t=>exact⟨_,O t,rfl⟩
 |cell b T d aQ n bU cs Y hd X am an=>
  have q:=O b;rw[Y]at q;simp only[au]at q;obtain⟨Z,u,S⟩:=q;obtain⟨arr,av,af,ah,_⟩:=ae.box hd u;obtain⟨v,Q,C⟩:=yu X an (off:=0) af ah (by omega);refine⟨v,by simpa using C,?_⟩;simp only[sT,S,asAddr,Sem.run_bind,Sem.run_pure,Result.andThen_ok];exact Q
 |arr b T d aQ n xs Y hd X am=>
  have q:=O b;rw[Y]at q;simp only[au]at q;obtain⟨Z,u,S⟩:=q;have ab:=ae.bO d _ hd;simp only[bc]at ab;rcases ab with ar|⟨ai,arr,ao,aq,aj,_⟩
  .rw[ar]at u;cases u
  have ak:ai=Z:=by rw[ao]at u;simpa [bK]using u
  subst ak;obtain⟨v,Q,C⟩:=yu (I:=I) (β:=β) (cs:=xs.map (H.int .i64)) X (by simp) (off:=0) aq (by rw[aj];exact v2 xs) (by simp;omega);refine⟨v,Ap.1 ?_,?_⟩
  .simp only[hF,cond_true,List.drop_zero]at C;rw[List.take_of_length_le (by simp;omega)]at C;exact C
  .simp only[sT,S,asAddr,Sem.run_bind,Sem.run_pure,Result.andThen_ok];exact Q
inductive o1(G:bG)(env:ag)(σ:U):List ResultVar->List H->Prop
 |nil:o1 G env σ [] []
 |cons {r:ResultVar} {x:H} {rs:List ResultVar} {xs:List H} (h:je G env σ r x) (k:o1 G env σ rs xs):o1 G env σ (r::rs) (x::xs)
def o1.run{G:bG}{env:ag}{σ:U}{rs:List ResultVar}{xs:List H}(h:o1 G env σ rs xs){cx:c0}{I:aZ}{β:Nat->Value}{w:World}{a:Act}(C:bx G cx I β σ w)(q:gH I β env a):
  ∃vs:cR,br I β xs vs/\(rs.mapM (sT a.tmps)).run G.P w=.ok vs w/\vs.length=rs.length:=by
 induction h with
 |nil=>exact⟨[],rfl,rfl,rfl⟩
 |cons h _ O=>
  obtain⟨v,Q,u⟩:=h.run C q;obtain⟨vs,dG,bE,cn⟩:=O;refine⟨v::vs,⟨v,vs,rfl,Q,dG⟩,?_,by simp[cn]⟩;simp[List.mapM_cons,Sem.run_bind,u,bE]
inductive jX(G:bG)(env:ag)(σ:U):List ResultVar->H->Prop
 |zero:jX G env σ [] (.bP [])
 |one {r:ResultVar} {x:H} (h:je G env σ r x):jX G env σ [r] x
 |two {r s:ResultVar} {x y:H} (h:je G env σ r x) (k:je G env σ s y):jX G env σ [r,s] (.bP [x,y])
 |three {r s t:ResultVar} {x y z:H} (h:je G env σ r x) (k:je G env σ s y) (l:je G env σ t z):jX G env σ [r,s,t] (.bP [x,y,z])
 |more {rs:List ResultVar} {xs:List H} (h:o1 G env σ rs xs) (ar:4<=rs.length):jX G env σ rs (.bP xs)
theorem jX.run{G:bG}{env:ag}{σ:U}{fn:Func}{x:H}(h:jX G env σ fn.results.toList x){cx:c0}{I:aZ}{β:Nat->Value}{w:World}{a:Act}(C:bx G cx I β σ w)(q:gH I β env a):
  ∃v,au I β x v/\(results fn a.tmps).run G.P w=.ok v w:=by
 generalize Z:fn.results.toList=l at h;have S:fn.results=l.toArray:=by rw[<-Z]
 have ab:results fn a.tmps=(do let vs <-l.toArray.mapM (sT a.tmps);pure (if h:vs.size=1 then vs[0]else .tuple vs)):=by
  unfold results;rw[S];rfl
 rw[ab];cases h with
 |zero=>exact⟨.tuple #[],by simp[au,br],by simp⟩
 |one h=>
  obtain⟨v,O,Q⟩:=h.run C q;refine⟨v,O,?_⟩;simp[List.mapM_cons,Sem.run_bind,Q]
 |two h k=>
  obtain⟨v,O,Q⟩:=h.run C q;obtain⟨u,dG,bE⟩:=k.run C q;refine⟨.tuple #[v,u],?_,?_⟩
  .simp only[au];exact⟨_,rfl,v,[u],rfl,O,u,[],rfl,dG,rfl⟩
  .simp_all
 |three h k l=>
  obtain⟨v,O,Q⟩:=h.run C q;obtain⟨u,dG,bE⟩:=k.run C q;obtain⟨t,Y,ae⟩:=l.run C q;refine⟨.tuple #[v,u,t],?_,?_⟩
  .simp only[au];exact⟨_,rfl,v,[u,t],rfl,O,u,[t],rfl,dG,t,[],rfl,Y,rfl⟩
  .simp_all
 |more h af=>
  obtain⟨vs,dG,bE,cn⟩:=h.run C q;refine⟨.tuple vs.toArray,⟨vs.toArray,rfl,by simpa using dG⟩,?_⟩;have X:¬vs.length=1:=by omega
  simp[Sem.run_bind,bE,X]
def r9:Nat->List H->ag
 |_,[]=>[]
 |k,x::r=>(k,x)::r9 (k+1) r
theorem CF{I:aZ}{β:Nat->Value}:∀(a:List H) (vs:cR) (k t:Nat),br I β a vs->au I β ((r9 k a).get t) (if k<=t then vs.getD (t-k) undef else undef)\/(r9 k a).get t=.c7
 |[],_,_,_,_=>.inr rfl
 |x::r,vs,k,t,h=>by
  simp only[br]at h;obtain⟨e,b,rfl,f,c⟩:=h;simp only[r9,atK];split
  .grind
  .rename_i g;rcases CF r b (k+1) t c with d|d
   all_goals grind
def Ff(G:bG)(d:Func)(Post:H->U->Prop):Exit->ag->U->Prop
 |.normal,env,σ|.ret,env,σ=>∃a c r b,jX G env (σ.freeze a) d.results.toList c/\eX (σ.freeze a) c r/\(∀p∈b,(σ.freeze a).get p.1=some p.2)/\Post r b
 |_,_,_=>False
theorem kr:∀(l:U) d o,l.get d=some o->∃p∈l,p.1=d/\p.2=o:=by
 intro l;induction l with
 |nil=>intro d o a;simp[U.get]at a
 |cons x r b=>
  intro d o a;obtain⟨c,e⟩:=x;rw[atw]at a;split at a
  .simp_all
  .grind
theorem cp.enter{f:FuncId}{fn:Func}{c:Code}{q:U}{args:List H}{Post:H->U->Prop}(ai:P.funcs[f]?=some fn)(ak:fn.body=some c)(aJ:args.length<=fn.ntmps)
  (h:qJ args->aq ⟨P,fn.ntmps,q.ids⟩ c (Ff ⟨P,fn.ntmps,q.ids⟩ fn Post) (r9 0 args) q):cp P f q args Post:=by
 intro cx w I β vs am Q;have aH:=j9 _ _ Q;have aC:bx ⟨P,fn.ntmps,q.ids⟩ cx I β q w:={am with};refine calls_of_wp ai ak ?_;refine wp_mono ((h Q.qJ).use cx _ w ⟨I,β,aC,λt=>?_,?_,rfl⟩) ?_
 .rcases CF args vs 0 t Q with ab|ab
  .have:((vs.toArray++Array.replicate (fn.ntmps-vs.toArray.size) undef).getD t undef)=vs.getD t undef:=by
    rw[Array.getD_eq_getD_getElem?,Array.getElem?_append,List.getD_eq_getElem?_getD]
    grind
   grind
  .rw[ab];simp[au]
 .simp;omega
 .rintro e X w' ⟨aw,C,⟨O,β',ar,av,aI,aE⟩,u⟩
  have Z:(∃bN x r σ2,jX ⟨P,fn.ntmps,q.ids⟩ aw (C.freeze bN) fn.results.toList x/\eX (C.freeze bN) x r/\(∀p∈σ2,(C.freeze bN).get p.1=some p.2)/\Post r σ2)->
    X.defers=[]/\∃v,(results fn X.tmps).run P w'=.ok v w'/\(∃Y,Ending.returned v=.returned Y/\∃r C O β',Post r C/\au O β' r Y/\bx ⟨P,0,q.ids⟩ cx O β' C w'):=by
   rintro⟨bN,x,r,σ2,af,ah,aj,ae⟩;obtain⟨aF,bp,S⟩:=ar.yU bN;obtain⟨v,aG,ax⟩:=af.run S (av.mono bp (eC.refl _));refine⟨aE,v,ax,v,rfl,r,σ2,aF,β',ae,ah.rep S _ aG,?_⟩
   have:=S.sub (σ2:=σ2) λd o hd=>by
    obtain⟨p,ao,an,aD⟩:=kr σ2 d o hd;rw[<-an,<-aD];exact aj p ao
   exact{this with}
  cases e with
  |normal=>exact Z u
  |ret=>exact Z u
  |exit _=>exact u.elim
  |goto _=>exact u.elim
  |panic _=>exact u.elim
  |outgrown=>exact u.elim
end
section
def Yields.pure{G:bG}{o:Oper}{ev:Operand->H}{σ:U}{R:cr}{bI:H}
  (h:∀(u:U) (cx:c0) (I:aZ) (β:Nat->Value) (w:World) (q:Operand->Value),(∀d∈R,u.get d=σ.get d)->bx G cx I β u w->(∀x∈o.op.operands,au I β (ev x) (q x))->
   ∃v,(execOp q o).run G.P w=.ok (.value v) w/\au I β bI v):Yields G o ev σ [] R bI:=by
 intro u cx I β w q X C _ O;obtain⟨v,S,Q⟩:=h u cx I β w q X C O;rw[S];exact⟨I,β,Q,C,bQ.refl I,λ_ _=>rfl⟩
theorem avF{G:bG}{o:Oper}{ev:Operand->H}{σ:U}{R:cr}{bI:H}(h:Yields G o ev σ [] R bI):eB G o ev σ [] [] (λa e=>a=bI/\e=σ):=by
 intro f I j i b d c;have:=h σ f I j i b (λ_ _=>rfl) d (λk g=>by simp at g) c
 grind
section steps
variable {G:bG}{ops:ia}{s:hv}{log:List (Nat×cr)}{i:Nat}{l:cr}{env:ag}{σ:U}{K:ag->U->Prop}{o:Oper}{bI:H}
def fK.n(q:o.guard=none):fK ops o env:=by unfold fK;rw[q];trivial
def fK.g{j:Nat}{want p:Bool}{cH:Oper}{q:Nat}(C:o.guard=some (j,want))(u:ops[j]?=some cH)(hd:cH.dst=some q)(Q:env.get q=.bool p)(O:p=want):fK ops o env:=by
 unfold fK;rw[C];exact⟨cH,q,u,hd,by rw[Q,O]⟩
def gX.g{j:Nat}{want p:Bool}{cH:Oper}{q:Nat}(C:o.guard=some (j,want))(u:ops[j]?=some cH)(hd:cH.dst=some q)(Q:env.get q=.bool p)(O:p=!want):gX ops o env:=by
 unfold gX;rw[C];exact⟨cH,q,u,hd,.inl (by rw[Q,O])⟩
def gX.undef{j:Nat}{want:Bool}{cH:Oper}{q:Nat}(C:o.guard=some (j,want))(u:ops[j]?=some cH)(hd:cH.dst=some q)(O:env.get q=.undef):gX ops o env:=by
 unfold gX;rw[C];exact⟨cH,q,u,hd,.inr O⟩
def iZ(s:hv)(i:Nat):Bool:=!(s.dw&&s.es.contains i)
def mY(s:hv)(i:Nat):Bool:=!s.dw||s.es.contains i
def zR(h:iZ s i=true):s.dw=true->i∉s.es:=λa=>by simpa [iZ,a]using h
def Em(h:mY s i=true):s.dw=true->i∈s.es:=λa=>by simpa [mY,a]using h
def AR(σ:U)(R:cr):Bool:=R.all λa=>(σ.get a).isSome
def JV{R:cr}(h:AR σ R=true):∀d∈R,(σ.get d).isSome:=λd a=>List.all_eq_true.1 h d a
def C.y{R:cr}(u:ops[i]?=some o)(O:fK ops o env)(q:iZ s i=true)(Q:AR σ R=true)(S:Yields G o env.ev σ [] R bI)
  (k:gh G ops s ((i,R)::log) l (env.put o.dst bI) σ K):gh G ops s log (i::l) env σ K:=
 ⟨o,u,.inr (.inl ⟨O,zR q,[],R,bI,σ,at4 G σ env,JV Q,λd hd=>by simp at hd,S,k⟩)⟩
def C.skip(u:ops[i]?=some o)(O:gX ops o env)(q:iZ s i=true)(k:gh G ops s ((i,[])::log) l (env.put o.dst .undef) σ K):gh G ops s log (i::l) env σ K:=
 ⟨o,u,.inl ⟨O,zR q,k⟩⟩
def C.O2(u:ops[i]?=some o)(O:gX ops o env)(q:mY s i=true)(k:gh G ops s log l (env.put o.dst .undef) σ K):gh G ops s log (i::l) env σ K:=
 ⟨o,u,.inr (.inr (.inr ⟨O,Em q,k⟩))⟩
def C.v{d:Nat}{u:bY}(Q:ops[i]?=some o)(S:fK ops o env)(O:iZ s i=true)(hi:G.ids.contains d=false)(ab:env.clean [d].contains=true)(Z:σ.clean [d].contains=true)(X:Gy u=true)
  (Y:Yields G o env.ev ((d,u)::σ) [d] [d] bI) (k:gh G ops s ((i,[d])::log) l (env.put o.dst bI) ((d,u)::σ) K):gh G ops s log (i::l) env σ K:=
 ⟨o,Q,.inr (.inl ⟨S,zR O,[d],[d],bI,(d,u)::σ,⟨λx q=>by rw[atw,if_neg (λe=>q (by simp[e]))],λx q=>by simp at q;subst q;simpa using hi,ab,Z,λx q ae n h=>by simp at q;subst q;rw[atw,if_pos rfl]at h;cases h;cases X⟩,
  λx q=>by simp at q;subst q;simp[atw],λx q=>q,Y,k⟩)⟩
def C.e{M news:cr}{Φ:H->U->Prop}(O:ops[i]?=some o)(Q:fK ops o env)(u:mY s i=true)(S:eB G o env.ev σ M news Φ)(Z:(!s.dw||lg s i M log)=true)
  (X:env.clean news.contains=true) (Y:news.all (λd=>!G.ids.contains d&&(σ.get d).isNone)=true) (k:∀bI q,Φ bI q->gh G ops s log l (env.put o.dst bI) q K):gh G ops s log (i::l) env σ K:=
 ⟨o,O,.inr (.inr (.inl ⟨Q,Em u,M,news,Φ,S,λhd=>by simpa [hd]using Z,X,λd hd=>by
  have:=List.all_eq_true.1 Y d hd;simpa using this,k⟩))⟩
def C.h9{R:cr}(O:ops[i]?=some o)(Q:fK ops o env)(u:mY s i=true)(S:Yields G o env.ev σ [] R bI)(k:gh G ops s log l (env.put o.dst bI) σ K):gh G ops s log (i::l) env σ K:=by
 have X:∀log:List (Nat×cr),lg s i [] log=true:=by
  intro log;induction log with
  |nil=>rfl
  |cons x r Y=>obtain⟨k,R⟩:=x;simp[lg,Y]
 exact C.e O Q u (avF S) (by simp[X]) (at5 env) rfl (λa ab ⟨Z,q⟩=>by subst Z q;exact k)
def C.nil(k:K env σ):gh G ops s log [] env σ K:=k
end steps
section ops
variable {G:bG}{o:Oper}{ev:Operand->H}{σ:U}
def bC.move{x:Operand}(h:o.op=.move x):Yields G o ev σ [] [] (ev x):=
 .pure λ_ _ _ _ w q _ _ u=>⟨q x,by simp[execOp,h],u x (by simp[h,Op.operands])⟩
def bC.assign{x:Operand}(h:o.op=.assign x):Yields G o ev σ [] [] (ev x):=
 .pure λ_ _ _ _ w q _ _ u=>⟨q x,by simp[execOp,h],u x (by simp[h,Op.operands])⟩
variable {I:aZ}{b:Bool}
def oj{β:Nat->Value}{v:Value}(h:au I β (.bool b) v):v=.bool b:=by simpa [au,aS]using h
def fB{β:Nat->Value}{k:IntKind}{n:Int}{v:Value}(h:au I β (.int k n) v):v=.int k n:=by simpa [au,aS]using h
def Fg{β:Nat->Value}{s:ByteArray}{v:Value}(h:au I β (.str s) v):v=.string s:=by simpa [au,aS]using h
def bC.pick{c a b:Operand}{p:Bool}(h:o.op=.pick c a b)(O:ev c=.bool p):Yields G o ev σ [] [] (bif p then ev a else ev b):=
 .pure λ_ _ I β w C _ _ u=>by
  have q:=u c (by simp[h,Op.operands]);rw[O]at q
  have q:=oj q;refine⟨if p then C a else C b,by simp[execOp,h,q,asBool],?_⟩;cases p
  .exact u b (by simp[h,Op.operands])
  .exact u a (by simp[h,Op.operands])
def au6{c a b:Operand}{p:Bool}(h:o.op=.pick c a b)(e:ev c=.bool p)(d:p=true):Yields G o ev σ [] [] (ev a):=by
 have:=bC.pick (G:=G) (σ:=σ) h e;rw[d]at this;exact this
def au7{c a b:Operand}{p:Bool}(h:o.op=.pick c a b)(e:ev c=.bool p)(d:p=false):Yields G o ev σ [] [] (ev b):=by
 have:=bC.pick (G:=G) (σ:=σ) h e;rw[d]at this;exact this
def xq(k:IntKind)(n:Int):Prop:=k.wrap n=n
section ints
variable {op:BinOp}{T aQ:TypeId}{x y:Operand}{k:IntKind}{m n:Int}
def bC.int(h:o.op=.binOp op T x y aQ)(Q:ev x=.int k m)(S:ev y=.int k n){r:Value}{bI:H}(O:op≠.shl/\op≠.shr)
  (X:∀w,(match op with|.add|.sub|.mul=>Op.intArith op k m n|.quo|.rem=>Op.intDiv op k m n|.and|.or|.xor|.andNot=>Op.intBits op k m n|_=>Op.intCmp op m n:Sem Value).run G.P w=.ok r w)
  (Y:∀I β,au I β bI r):Yields G o ev σ [] [] bI:=
 .pure λ_ _ I β w ae _ _ C=>by
  have u:=C x (by simp[h,Op.operands]);rw[Q]at u;have u:=fB u
  have q:=C y (by simp[h,Op.operands]);rw[S]at q;have q:=fB q
  refine⟨r,?_,Y I β⟩;have Z:(eqGuard op T x y (.int k m) (.int k n)).run G.P w=.ok () w:=by
   unfold eqGuard;cases op<;>rfl
  have ab:(binOp op T (.int k m) (.int k n)).run G.P w=.ok r w:=by
   rw[<-X w];cases op<;>first|exact absurd rfl O.1|exact absurd rfl O.2|simp[binOp]
  simp[execOp,h,u,q,Z,ab]
def bC.lss(h:o.op=.binOp .lss T x y aQ)(q:ev x=.int k m)(u:ev y=.int k n):Yields G o ev σ [] [] (.bool (decide (m<n))):=
 bC.int h q u (by decide) (λw=>rfl) (λ_ _=>by simp[au,aS])
def bC.leq(h:o.op=.binOp .leq T x y aQ)(q:ev x=.int k m)(u:ev y=.int k n):Yields G o ev σ [] [] (.bool (decide (m<=n))):=
 bC.int h q u (by decide) (λw=>rfl) (λ_ _=>by simp[au,aS])
def bC.gtr(h:o.op=.binOp .gtr T x y aQ)(q:ev x=.int k m)(u:ev y=.int k n):Yields G o ev σ [] [] (.bool (decide (n<m))):=
 bC.int h q u (by decide) (λw=>rfl) (λ_ _=>by simp[au,aS])
def bC.geq(h:o.op=.binOp .geq T x y aQ)(q:ev x=.int k m)(u:ev y=.int k n):Yields G o ev σ [] [] (.bool (decide (n<=m))):=
 bC.int h q u (by decide) (λw=>rfl) (λ_ _=>by simp[au,aS])
def bC.eql(h:o.op=.binOp .eql T x y aQ)(q:ev x=.int k m)(u:ev y=.int k n):Yields G o ev σ [] [] (.bool (decide (m=n))):=
 bC.int h q u (by decide) (λw=>rfl) (λ_ _=>by simp only[au,aS,Value.bool.injEq];rw[Bool.eq_iff_iff];simp)
def bC.neq(h:o.op=.binOp .neq T x y aQ)(q:ev x=.int k m)(u:ev y=.int k n):Yields G o ev σ [] [] (.bool (!decide (m=n))):=
 bC.int h q u (by decide) (λw=>rfl) (λ_ _=>by simp only[au,aS,Value.bool.injEq];rw[Bool.eq_iff_iff];simp)
def auV(h:o.op=.binOp .add T x y aQ)(a:ev x=.int k m)(b:ev y=.int k n):Yields G o ev σ [] [] (.int k (k.wrap (m+n))):=
 bC.int h a b (by decide) (λc=>rfl) (λ_ _=>by simp only[au,aS])
def avm(h:o.op=.binOp .sub T x y aQ)(a:ev x=.int k m)(b:ev y=.int k n):Yields G o ev σ [] [] (.int k (k.wrap (m-n))):=
 bC.int h a b (by decide) (λc=>rfl) (λ_ _=>by simp only[au,aS])
def avo(h:o.op=.binOp .mul T x y aQ)(a:ev x=.int k m)(b:ev y=.int k n):Yields G o ev σ [] [] (.int k (k.wrap (m*n))):=
 bC.int h a b (by decide) (λc=>rfl) (λ_ _=>by simp only[au,aS])
def bC.rem(h:o.op=.binOp .rem T x y aQ)(q:ev x=.int k m)(u:ev y=.int k n)(C:n≠0):Yields G o ev σ [] [] (.int k (m.tmod n)):=
 bC.int h q u (by decide) (λw=>by simp[Op.intDiv,C];rfl) (λ_ _=>by simp only[au,aS])
def fh(op:BinOp)(k:IntKind)(m n:Int):Int:=
 let a:=BitVec.ofInt k.bits m
 let b:=BitVec.ofInt k.bits n
 match op with
 |.and=>k.wrap (a &&& b).toNat
 |.or=>k.wrap (a ||| b).toNat
 |.xor=>k.wrap (a ^^^ b).toNat
 |.andNot=>k.wrap (a &&& ~~~b).toNat
 |_=>0
def bC.and(h:o.op=.binOp .and T x y aQ)(q:ev x=.int k m)(u:ev y=.int k n):Yields G o ev σ [] [] (.int k (fh .and k m n)):=
 bC.int h q u (by decide) (λw=>rfl) (λ_ _=>by simp[au,aS,fh])
def bC.or(h:o.op=.binOp .or T x y aQ)(q:ev x=.int k m)(u:ev y=.int k n):Yields G o ev σ [] [] (.int k (fh .or k m n)):=
 bC.int h q u (by decide) (λw=>rfl) (λ_ _=>by simp[au,aS,fh])
def bC.xor(h:o.op=.binOp .xor T x y aQ)(q:ev x=.int k m)(u:ev y=.int k n):Yields G o ev σ [] [] (.int k (fh .xor k m n)):=
 bC.int h q u (by decide) (λw=>rfl) (λ_ _=>by simp[au,aS,fh])
def bC.andNot(h:o.op=.binOp .andNot T x y aQ)(q:ev x=.int k m)(u:ev y=.int k n):Yields G o ev σ [] [] (.int k (fh .andNot k m n)):=
 bC.int h q u (by decide) (λw=>rfl) (λ_ _=>by simp[au,aS,fh])
def bC.shift{Y:IntKind}(Q:op=.shl\/op=.shr)(h:o.op=.binOp op T x y aQ)(S:ev x=.int k m)(X:ev y=.int Y n)(ab:0<=n):
  Yields G o ev σ [] [] (.int k (match op with|.shl=>k.wrap (m*2 ^ min n.toNat k.bits)|_=>m.fdiv (2 ^ min n.toNat k.bits))):=
 .pure λ_ _ I β w Z _ _ C=>by
  have u:=C x (by simp[h,Op.operands]);rw[S]at u;have u:=fB u
  have q:=C y (by simp[h,Op.operands]);rw[X]at q;have q:=fB q
  have O:¬n<0:=by omega
  rcases Q with rfl|rfl
  .refine⟨_,by simp[execOp,h,u,q,eqGuard,binOp,Op.shift,O];rfl,by simp[au,aS]⟩
  .refine⟨_,by simp[execOp,h,u,q,eqGuard,binOp,Op.shift,O];rfl,by simp[au,aS]⟩
end ints
def bC.not{T:TypeId}{x:Operand}{b:Bool}(h:o.op=.unOp .not T x)(C:ev x=.bool b):Yields G o ev σ [] [] (.bool (!b)):=
 .pure λ_ _ I β w O _ _ u=>by
  have q:=u x (by simp[h,Op.operands]);rw[C]at q;have q:=oj q
  exact⟨.bool (!b),by simp[execOp,h,q,Op.unary],by simp[au,aS]⟩
def bC.convert{T aQ:TypeId}{x:Operand}{k q:IntKind}{n:Int}(h:o.op=.convert T aQ x)(O:ev x=.int k n)(Q:∃d,G.P.underlying T=some d)(S:G.P.underlying aQ=some (.int q)):Yields G o ev σ [] [] (.int q (q.wrap n)):=
 .pure λ_ _ I β w Z _ _ C=>by
  have u:=C x (by simp[h,Op.operands]);rw[O]at u;have u:=fB u
  obtain⟨d,hd⟩:=Q;have X:∀w,(underlying T).run G.P w=.ok d w:=λw=>by simp[underlying,program,Sem.run,hd]
  have Y:∀w,(underlying aQ).run G.P w=.ok (.int q) w:=λw=>by simp[underlying,program,Sem.run,S]
  refine⟨.int q (q.wrap n),?_,by simp[au,aS]⟩;simp only[execOp,h,u];unfold Go.convert;simp only[Sem.run_bind,X,Y,Result.andThen_ok];cases d<;>rfl
variable {P:Program}
def H8(op:BinOp)(t:TypeId)(x y:Operand)(a b:Bool)(w:World):(eqGuard op t x y (.bool a) (.bool b)).run P w=.ok () w:=by
 unfold eqGuard;cases op<;>rfl
def IS(T:TypeId)(a b:Bool)(w:World)(c:P.underlying T=some .bool):(binOp .eql T (.bool a) (.bool b)).run P w=.ok (.bool (a==b)) w:=by
 show(do pure (.bool (<-Op.equal T (.bool a) (.bool b))):Sem Value).run P w=_;rw[Sem.run_bind,run_equal_bool w T a b c];rfl
def IT(T:TypeId)(a b:Bool)(w:World)(c:P.underlying T=some .bool):(binOp .neq T (.bool a) (.bool b)).run P w=.ok (.bool (!(a==b))) w:=by
 show(do pure (.bool (!(<-Op.equal T (.bool a) (.bool b)))):Sem Value).run P w=_;rw[Sem.run_bind,run_equal_bool w T a b c];rfl
def ave{T aQ:TypeId}{x y:Operand}{a:Bool}(h:o.op=.binOp .eql T x y aQ)(f:ev x=.bool a)(g:ev y=.bool b)(i:G.P.underlying T=some .bool):Yields G o ev σ [] [] (.bool (a==b)):=
 .pure λ_ _ I l j k _ _ e=>by
  have d:=e x (by simp[h,Op.operands]);rw[f]at d;have d:=oj d
  have c:=e y (by simp[h,Op.operands]);rw[g]at c;have c:=oj c
  exact⟨.bool (a==b),by simp only[execOp,h,d,c,Sem.run_bind,H8,IS T a b j i,Result.andThen_ok,Sem.run_pure],by simp[au,aS]⟩
def avd{T aQ:TypeId}{x y:Operand}{a:Bool}(h:o.op=.binOp .neq T x y aQ)(f:ev x=.bool a)(g:ev y=.bool b)(i:G.P.underlying T=some .bool):Yields G o ev σ [] [] (.bool (!(a==b))):=
 .pure λ_ _ I l j k _ _ e=>by
  have d:=e x (by simp[h,Op.operands]);rw[f]at d;have d:=oj d
  have c:=e y (by simp[h,Op.operands]);rw[g]at c;have c:=oj c
  exact⟨.bool (!(a==b)),by simp only[execOp,h,d,c,Sem.run_bind,H8,IT T a b j i,Result.andThen_ok,Sem.run_pure],by simp[au,aS]⟩
mutual
def valOf:H->Value
 |.int k n=>.int k n
 |.bool b=>.bool b
 |.str s=>.string s
 |.agg cs=>.agg (wq cs).toArray
 |_=>undef
def wq:List H->cR
 |[]=>[]
 |x::r=>valOf x::wq r
end
mutual
def H.plain:H->Bool
 |.int _ _=>true
 |.bool _=>true
 |.str _=>true
 |.agg cs=>wu cs
 |_=>false
def wu:List H->Bool
 |[]=>true
 |x::r=>x.plain&&wu r
end
mutual
def u5{I:aZ}{β:Nat->Value}:∀(a:H) (v:Value),a.plain=true->au I β a v->v=valOf a
 |.int k n,v,_,d=>fB d
 |.bool b,v,_,d=>oj d
 |.str s,v,_,d=>Fg d
 |.agg cs,v,c,d=>by
  simp only[au]at d;obtain⟨e,rfl,d⟩:=d;simp only[valOf,<-De cs e.toList (by simpa [H.plain]using c) d]
 |.c7,_,c,_|.undef,_,c,_|.bn _ _,_,c,_|.dR _,_,c,_|.bP _,_,c,_|.fn _ _,_,c,_|.az,_,c,_|.fm,_,c,_|.own _,_,c,_|.ptr _ _,_,c,_|.b6 _,_,c,_|.cL _ _,_,c,_|.fc,_,c,_|.cz _ _,_,c,_=>by simp[H.plain]at c
def De{I:aZ}{β:Nat->Value}:∀(a:List H) (v:cR),wu a=true->br I β a v->v=wq a
 |[],v,_,h=>h
 |x::r,v,b,h=>by
  simp only[br]at h;simp only[wu,Bool.and_eq_true]at b;obtain⟨d,c,rfl,f,e⟩:=h;simp only[wq,<-u5 x d b.1 f,<-De r c b.2 e]
end
variable {r:Bool}
def avj{T aQ:TypeId}{x y:Operand}{a b:H}(h:o.op=.binOp .eql T x y aQ)(f:ev x=a)(g:ev y=b)(i:a.plain=true)(k:b.plain=true)(j:∀w,(do eqGuard .eql T x y (valOf a) (valOf b);binOp .eql T (valOf a) (valOf b):Sem Value).run G.P w=.ok (.bool r) w):
  Yields G o ev σ [] [] (.bool r):=
 .pure λ_ _ I m w l _ _ e=>by
  have d:=e x (by simp[h,Op.operands]);rw[f]at d;have d:=u5 a _ i d
  have c:=e y (by simp[h,Op.operands]);rw[g]at c;have c:=u5 b _ k c
  refine⟨.bool r,?_,by simp[au,aS]⟩;have:=j w;simp only[execOp,h,d,c];rw[Sem.run_bind,this];rfl
def avl{T aQ:TypeId}{x y:Operand}{a b:H}(h:o.op=.binOp .neq T x y aQ)(f:ev x=a)(g:ev y=b)(i:a.plain=true)(k:b.plain=true)(j:∀w,(do eqGuard .neq T x y (valOf a) (valOf b);binOp .neq T (valOf a) (valOf b):Sem Value).run G.P w=.ok (.bool r) w):
  Yields G o ev σ [] [] (.bool r):=
 .pure λ_ _ I m w l _ _ e=>by
  have d:=e x (by simp[h,Op.operands]);rw[f]at d;have d:=u5 a _ i d
  have c:=e y (by simp[h,Op.operands]);rw[g]at c;have c:=u5 b _ k c
  refine⟨.bool r,?_,by simp[au,aS]⟩;have:=j w;simp only[execOp,h,d,c];rw[Sem.run_bind,this];rfl
structure s8(P:Program)(T:TypeId)(f off:Nat):Prop where
 run:∀(a:Addr) w,(Instr.fieldAt T (.pointer (some a)) f).run P w=.ok (.pointer (some (a.add off))) w
def CG{I:aZ}{b:Nat}:∀(k:Nat) (cs:List H) (o:Nat),gE I b cs o->gE I b (cs.drop k) (o+k)
 |0,cs,o,h=>by simpa using h
 |k+1,[],o,h=>by simp[gE]
 |k+1,x::r,o,h=>by
  simp only[gE]at h;have:=CG k r (o+1) h.2;simpa [show o+1+k=o+(k+1)from by omega]using this
def auZ{T:TypeId}{x:Operand}{f off d p:Nat}(h:o.op=.fieldAddr T x f)(g:ev x=.ptr d p)(c:s8 G.P T f off):Yields G o ev σ [] [] (.ptr d (p+off)):=
 .pure λ_ _ I l k j _ _ e=>by
  have a:=e x (by simp[h,Op.operands]);rw[g]at a
  simp only[au]at a;obtain⟨b,a,i⟩:=a;refine⟨.pointer (some ⟨b,p+off,none⟩),?_,by simp only[au];exact⟨b,a,rfl⟩⟩;simp[execOp,h,i,c.run,g5]
def au1{T:TypeId}{x:Operand}{f off:Nat}{cs:List H}(h:o.op=.fieldAddr T x f)(g:ev x=.dR cs)(d:s8 G.P T f off):Yields G o ev σ [] [] (.dR (cs.drop off)):=
 .pure λ_ _ I l k j _ _ e=>by
  have a:=e x (by simp[h,Op.operands]);rw[g]at a
  simp only[au,aS]at a;obtain⟨b,c,a,i⟩:=a;refine⟨.pointer (some ⟨b,c+off,none⟩),?_,by simp only[au,aS];exact⟨b,c+off,rfl,CG off cs c i⟩⟩;simp[execOp,h,a,d.run,g5]
def Cm{I:aZ}{b:Nat}{w:World}(e:∀b (o:Nat) v,I b o=some v->w.cell? ⟨b,o,none⟩=some v):∀(cs:List H) (o:Nat),gE I b cs o->
  ∃vs:cR,bJ I cs vs/\∀j v,vs[j]?=some v->w.cell? ⟨b,o+j,none⟩=some v
 |[],o,_=>⟨[],rfl,λj v a=>by simp at a⟩
 |x::r,o,a=>by
  simp only[gE]at a;obtain⟨⟨d,k,h⟩,i⟩:=a;obtain⟨vs,g,f⟩:=Cm e r (o+1) i;refine⟨d::vs,⟨d,vs,rfl,h,g⟩,λj v c=>?_⟩;cases j with
  |zero=>simp at c;subst c;exact e _ _ _ k
  |succ j=>
   have:=f j v (by simpa using c)
   rwa [show o+(j+1)=o+1+j from by omega]
mutual
def aS.rep{I:aZ}(β:Nat->Value):∀(a:H) (v:Value),aS I a v->au I β a v
 |.c7,_,_=>by simp[au]
 |.undef,_,h|.int _ _,_,h|.bool _,_,h|.str _,_,h|.bn _ _,_,h|.dR _,_,h|.az,_,h|.fm,_,h|.cL _ _,_,h|.fc,_,h|.dc _,_,h|.fH _,_,h|.arr _,_,h=>by simpa only[au]using h
 |.agg cs,v,h=>by
  simp only[aS,au]at h ⊢;obtain⟨vs,u,q⟩:=h;exact⟨vs,u,bJ.rep β cs _ q⟩
 |.bP cs,v,h=>by
  simp only[aS,au]at h ⊢;obtain⟨vs,u,q⟩:=h;exact⟨vs,u,bJ.rep β cs _ q⟩
 |.fn f cs,v,h=>by
  simp only[aS,au]at h ⊢;obtain⟨vs,u,q⟩:=h;exact⟨vs,u,bJ.rep β cs _ q⟩
 |.own _,_,h=>by simp[aS]at h
 |.ptr _ _,_,h=>by simp[aS]at h
 |.cz _ _,_,h=>by simp[aS]at h
 |.b6 _,_,h=>by simp[aS]at h
def bJ.rep{I:aZ}(β:Nat->Value):∀(a:List H) (v:cR),bJ I a v->br I β a v
 |[],_,h=>h
 |x::r,v,h=>by
  simp only[bJ,br]at h ⊢;obtain⟨u,q,Q,C,O⟩:=h;exact⟨u,q,Q,aS.rep β x u C,bJ.rep β r q O⟩
end
variable {bU:Bool}
def auj{T aQ:TypeId}{x:Operand}{n d p:Nat}{cs:List H}(h:o.op=.load T x)(g:ev x=.ptr d p)(u:σ.get d=some (.cells aQ cs))(q:fO G.P T n bU)(s:(bU||Nat.blt 0 n)=true)(r:Nat.ble (p+n) cs.length=true):
  Yields G o ev σ [] [d] (hF bU n (cs.drop p)):=
 .pure λz B I D C y k j f=>by
  have a:=f x (by simp[h,Op.operands]);rw[g]at a
  simp only[au]at a;obtain⟨b,a,i⟩:=a;obtain⟨A,w,c,e,_⟩:=j.box (by rw[k d (by simp)];exact u) a;obtain⟨v,l,m⟩:=yu q (λt=>by subst t;simpa using s) (off:=p) c e (by simpa using r);exact⟨v,by simp[execOp,h,i,Instr.loadAt,Instr.sureAddr,l],m⟩
def auQ{T:TypeId}{x:Operand}{n:Nat}{cs:List H}(h:o.op=.load T x)(q:ev x=.dR cs)(v:fO G.P T n bU)(w:(bU||Nat.blt 0 n)=true)(j:Nat.ble n cs.length=true):
  Yields G o ev σ [] [] (hF bU n cs):=
 .pure λE K I z y D F t p=>by
  have c:=p x (by simp[h,Op.operands]);rw[q]at c
  simp only[au,aS]at c;obtain⟨b,k,c,s⟩:=c;obtain⟨f,g,m⟩:=Cm t.good cs k s;have J:=hy _ _ g;have j:n<=cs.length:=by simpa using j
  have u:∀a,a<n->∃l,f[a]?=some l/\y.cell? ⟨b,k+a,none⟩=some l:=λa C=>by
   have i:a<f.length:=by omega
   exact⟨f[a],List.getElem?_eq_getElem i,m a _ (List.getElem?_eq_getElem i)⟩
  refine⟨_,by simp only[execOp,h,c,Instr.loadAt,Instr.sureAddr,Sem.run_bind,Sem.run_pure,Result.andThen_ok,B8 v u (λe=>by subst e;simpa using w)];rfl,?_⟩;have d:=bJ.rep z _ _ g;cases bU with
  |true=>
   simp only[hF,cond_true,if_true,au];exact⟨_,rfl,by simpa using rY n _ _ d⟩
  |false=>
   simp only[hF,cond_false,Bool.false_eq_true,if_false];cases cs with
   |nil=>simp[au]
   |cons x r=>
    simp only[br]at d;obtain⟨B,A,e,d,_⟩:=d;rw[e];exact d
structure iU(P:Program)(T E n:Nat):Prop where
 en:P.underlying T=some (.slice E)
 size:∀w,(sizeOf E).run P w=.ok n w
def Df{I:aZ}{b sz:Nat}:∀(xs:List (List H)) (o i:Nat),(∀e∈xs,e.length=sz)->eZ I b xs o->i<xs.length->gE I b (xs.getD i []) (o+i*sz)
 |[],_,_,_,_,h=>by simp at h
 |e::r,o,0,_,h,_=>by simp only[eZ]at h;simpa using h.1
 |e::r,o,i+1,a,h,g=>by
  simp only[eZ]at h;have f:=a e (by simp);have:=Df r (o+e.length) i (λx c=>a x (by simp[c])) h.2 (by simpa using g);rw[f]at this;have d:o+sz+i*sz=o+(i+1)*sz:=by rw[Nat.add_mul,Nat.one_mul];omega
  rw[d]at this;simpa using this
variable {α:Type}
def aut{T E:Nat}{x:Operand}{f:Bool}{rs:List α}{enc:α->List H}{k}(h:o.op=.call ⟨.builtin .len,#[x],k⟩)(i:k=#[T])(d:ev x=.bn f (rs.map enc))(e:G.P.underlying T=some (.slice E)):Yields G o ev σ [] [] (.int .i64 (rs.length:Int)):=
 .pure λm r I s b j n l c=>by
  subst i;have a:=c x (by simp[h,Op.operands,Call.operands]);rw[d]at a
  simp only[au,aS,List.length_map]at a;obtain⟨p,q,a,_⟩:=a;have g:∀b,(underlying T).run G.P b=.ok (.slice E) b:=λb=>by simp[underlying,program,Sem.run,e]
  exact⟨.int .i64 rs.length,by simp[execOp,h,resolve,invoke,builtin,Builtin.len_,a,g,goInt],by simp[au,aS]⟩
def avg{T E:Nat}{x:Operand}{k}(h:o.op=.call ⟨.builtin .len,#[x],k⟩)(g:k=#[T])(d:ev x=.az)(e:G.P.underlying T=some (.slice E)):Yields G o ev σ [] [] (.int .i64 0):=
 .pure λl n I p a i m j c=>by
  subst g;have b:=c x (by simp[h,Op.operands,Call.operands]);rw[d]at b
  simp only[au,aS]at b;have f:∀a,(underlying T).run G.P a=.ok (.slice E) a:=λa=>by simp[underlying,program,Sem.run,e]
  exact⟨.int .i64 0,by simp[execOp,h,resolve,invoke,builtin,Builtin.len_,b,f,goInt],by simp[au,aS]⟩
def avh{T:Nat}{x:Operand}{s:ByteArray}{k}(h:o.op=.call ⟨.builtin .len,#[x],k⟩)(g:k=#[T])(d:ev x=.str s)(e:G.P.underlying T=some .string):Yields G o ev σ [] [] (.int .i64 (s.size:Int)):=
 .pure λl n I p b i m j c=>by
  subst g;have a:=c x (by simp[h,Op.operands,Call.operands]);rw[d]at a;have a:=Fg a
  have f:∀b,(underlying T).run G.P b=.ok .string b:=λb=>by simp[underlying,program,Sem.run,e]
  exact⟨.int .i64 s.size,by simp[execOp,h,resolve,invoke,builtin,Builtin.len_,a,f,goInt],by simp[au,aS]⟩
variable {bN:Bool}
theorem Dg{G:bG}{cx:c0}{β:Nat->Value}{σ:U}{w:World}(h:bx G cx I β σ w){d:Nat}{T sz k:Nat}{xs:List (List H)}(i:σ.get d=some (.slice T sz xs k bN)){v:Value}(f:au I β (.own d) v):
  ∃a c,v=.slice a xs.length c/\xs.length<=c/\c<=maxLen:=by
 simp only[au]at f;obtain⟨rfl,g⟩:=f;have:=h.bO d _ i;simp only[bc]at this;rcases this with e|⟨e,rfl,_⟩|⟨b,aM,m,e,j,l,_⟩
 .rw[e]at g;simp[fl]at g
 .grind
 .grind
def auR{T E:Nat}{x:Operand}{d aQ sz n:Nat}{rs:List α}{enc:α->List H}{k}(h:o.op=.call ⟨.builtin .len,#[x],k⟩)(m:k=#[T])(e:ev x=.own d)(l:σ.get d=some (.slice aQ sz (rs.map enc) n bN))(i:G.P.underlying T=some (.slice E)):Yields G o ev σ [] [d] (.int .i64 (rs.length:Int)):=
 .pure λq t I u b p g f c=>by
  subst m;have a:=c x (by simp[h,Op.operands,Call.operands]);rw[e]at a
  obtain⟨r,s,a,_⟩:=Dg f (by rw[g d (by simp)];exact l) a;have j:∀b,(underlying T).run G.P b=.ok (.slice E) b:=λb=>by simp[underlying,program,Sem.run,i]
  exact⟨.int .i64 rs.length,by simp[execOp,h,resolve,invoke,builtin,Builtin.len_,a,j,goInt],by simp[au,aS]⟩
def vM{I:aZ}{β:Nat->Value}:∀{xs:List H} {vs:cR} {j:Nat} {a:H},br I β xs vs->xs[j]?=some a->∃v,vs[j]?=some v/\au I β a v
 |[],_,_,_,_,h=>by simp at h
 |x::r,vs,0,a,h,b=>by
  simp only[br]at h;obtain⟨c,d,rfl,i,_⟩:=h;simp at b;subst b
  exact⟨c,by simp,i⟩
 |x::r,vs,j+1,a,h,b=>by
  simp only[br]at h;obtain⟨c,d,rfl,_,f⟩:=h;obtain⟨v,g,e⟩:=vM f (by simpa using b);exact⟨v,by simpa using g,e⟩
def bC.extract{x:Operand}{j:Nat}{vs:List H}{a:H}(h:o.op=.extract x j)(X:ev x=.bP vs)(Q:vs[j]?=some a):Yields G o ev σ [] [] a:=
 .pure λae cx I β w Z af ab S=>by
  have q:=S x (by simp[h,Op.operands]);rw[X]at q
  simp only[au]at q;obtain⟨C,q,Y⟩:=q;obtain⟨v,u,O⟩:=vM Y Q;have u:C[j]?=some v:=by simpa using u
  exact⟨v,by simp[execOp,h,q,Instr.extract,u],O⟩
def auU{x:Operand}{d p:Nat}(h:o.op=.nilCheck x)(f:ev x=.ptr d p):Yields G o ev σ [] [] (.ptr d p):=
 .pure λj l I n m c k i e=>by
  have a:=e x (by simp[h,Op.operands]);rw[f]at a
  have g:=a;simp only[au]at a;obtain⟨b,_,a⟩:=a;exact⟨c x,by simp[execOp,h,a],g⟩
def auS{x:Operand}{cs:List H}(h:o.op=.nilCheck x)(e:ev x=.dR cs):Yields G o ev σ [] [] (.dR cs):=
 .pure λi k I n m c j g d=>by
  have a:=d x (by simp[h,Op.operands]);rw[e]at a
  have f:=a;simp only[au,aS]at a;obtain⟨b,l,a,_⟩:=a;exact⟨c x,by simp[execOp,h,a],f⟩
end ops
end
section
structure eD(w w':World)(b:Nat):Prop where
 block:∀k,k≠b->k<w.heap.size->w'.heap[k]?=w.heap[k]?
 size:w.heap.size<=w'.heap.size
 tape:w'.tape=w.tape
 os:w'.os=w.os
 output:w'.output=w.output
 drawn:w.drawn<=w'.drawn
def bc.keep{cx:c0}{I u:aZ}{β β':Nat->Value}{w w':World}{x:Nat}{o:bY}{b:Nat}(h:bc cx I β w x o)(X:eD w w' b)(C:β' x=β x)(S:b∉cb (β x))(bp:bQ I u)(Q:∀q,q≠b->∀o,u q o=I q o)(O:eC β β'):
  bc cx u β' w' x o:=
 h.tu bp C O λq e=>have n:q≠b:=λY=>S (Y▸e);⟨X.block q n,Q q n,id⟩
def gw.at{cx:c0}{I:aZ}{w:World}{x:eL}{v:Value}(h:gw cx I w x v){b:Nat}(q:bK v=some b):b<w.heap.size/\Place cx b:=by
 cases x with
 |sl T sz xs=>
  rcases h with⟨h,_⟩|⟨X,aM,arr,u,_,_,O,_,_,_,_,S⟩
  .rw[h]at q;simp[bK]at q
  .rw[u]at q;simp[bK]at q;subst q;exact⟨fv O,S⟩
 |mp K E Y=>
  obtain⟨r,es,clock,u,Q,_,_,C,_⟩:=h;rw[u]at q;simp[bK]at q;subst q;exact⟨fv Q,C⟩
def fE.at{cx:c0}{I:aZ}{w:World}:∀{dj:List eL} {vs:cR},fE cx I w dj vs->∀{b:Nat},b∈vs.filterMap bK->b<w.heap.size/\Place cx b
 |[],_,h,b,q=>by rw[show _=[]from h]at q;cases q
 |x::r,_,h,b,q=>by
  obtain⟨S,Q,rfl,O,_,C⟩:=h;obtain⟨v,u,e⟩:=List.mem_filterMap.1 q;rcases List.mem_cons.1 u with rfl|u
  .exact O.at e
  .exact C.at (List.mem_filterMap.2 ⟨v,u,e⟩)
section turn
variable {G:bG}{cx:c0}{I:aZ}{β:Nat->Value}{σ:U}{w:World}
theorem bx.turn(h:bx G cx I β σ w){σ2:U}{X:aZ}{β':Nat->Value}{w':World}{b d:Nat}(S:eD w w' b)(am:Place cx b)(ah:∀x,x≠d->σ2.get x=σ.get x)
  (av:∀x,x≠d->(σ.get x).isSome->b∉cb (β x)) (bp:bQ I X) (af:∀q,q≠b->∀o,X q o=I q o) (aC:∀(o:Nat) v,X b o=some v->w'.cell? ⟨b,o,none⟩=some v)
  (aD:X b none=none) (Z:∀x,x≠d->β' x=β x) (aw:d∉G.ids\/β' d=β d) (ar:eC β β') (an:bK (β' d)=some b\/cb (β' d)=[]) (ax:∀o,σ2.get d=some o->bc cx X β' w' d o):bx G cx X β' σ2 w' where
 good:=λq o v Y=>by
  by_cases Q:q=b
  .grind
  .rw[af q Q]at Y;have ae:=h.good q o v Y;have au:q<w.heap.size:=by
    have:=World.block_lt_of_cell? w _ ae;exact this
   rw[World.cell?_of_block (w:=w) (S.block q Q au)];exact ae
 er:=λq v Y=>by
  by_cases Q:q=b
  .grind
  .rw[af q Q]at Y;obtain⟨es,clock,ae,aq⟩:=h.er q v Y;exact⟨es,clock,by rw[S.block q Q (fv ae)];exact ae,aq⟩
 e8:=h.e8.trans bp
 eW:=λq Q ab o=>by
  have:q≠b:=λe=>by
   subst e;rcases am with u|u
   .omega
   .exact ab u
  rw[af q this];exact h.eW q Q ab o
 frame:=λq Q ab=>by
  have:q≠b:=λe=>by
   subst e;rcases am with u|u
   .omega
   .exact ab u
  rw[S.block q this (by have:=h.size;omega)];exact h.frame q Q ab
 size:=Nat.le_trans h.size S.size
 tape:=S.tape.trans h.tape
 os:=S.os.trans h.os
 output:=S.output.trans h.output
 drawn:=Nat.le_trans h.drawn S.drawn
 bO:=λx o O=>by
  by_cases C:x=d
  .grind
  .rw[ah x C]at O;exact(h.bO x o O).keep S (Z x C) (av x C (by rw[O];rfl)) bp af ar
 cq:=λx y O ai aj q=>by
  by_cases C:x=d
  .subst C;rw[ah y (Ne.symm aj)]at ai;rw[Z y (Ne.symm aj)];intro e ao;rcases an with u|u
   .have:=ve u e
    grind
   .grind
  .rw[ah x C]at O;rw[Z x C];by_cases ak:y=d
   .subst ak;intro e ao;rcases an with u|u
    .have:=ve u ao
     grind
    .grind
   .rw[ah y ak]at ai;rw[Z y ak];exact h.cq x y O ai aj q
 keep:=λx O=>by
  by_cases C:x=d
  .subst C;rcases aw with u|u
   .grind
   .rw[u];exact h.keep x O
  .rw[Z x C];exact h.keep x O
theorem bx.sK(h:bx G cx I β σ w){x:Nat}{o:bY}(ao:σ.get x=some o){b:Nat}(Z:b∈cb (β x)):b<w.heap.size/\Place cx b:=by
 have u:=h.bO x o ao;by_cases aj:∃dj,o=.cE dj
 .obtain⟨dj,rfl⟩:=aj;simp only[bc]at u;rcases u with C|⟨ae,O,Q⟩
  .rw[C]at Z;cases Z
  .rw[O]at Z;exact Q.at Z
 have q:bK (β x)=some b:=by
  cases am:β x with
  |tuple vs=>
   exfalso;cases o<;>simp only[bc,am]at u<;>first|exact aj ⟨_,rfl⟩|(simp at u)
  |_=>rw[am]at Z;simpa [cb]using Z
 clear Z;cases o with
 |cE dj=>exact absurd ⟨dj,rfl⟩ aj
 |l9 T xs t=>
  simp only[bc]at u;rcases u with C|⟨Y,aM,arr,O,_,_,S,_,_,_,_,_,_,ab⟩
  .rw[C]at q;simp[bK]at q
  .rw[O]at q;simp[bK]at q;subst q;exact⟨fv S,ab⟩
 |vec T xs=>
  simp only[bc]at u;rcases u with C|⟨Y,arr,O,Q,_,_,X⟩
  .rw[C]at q;simp[bK]at q
  .rw[O]at q;simp[bK]at q;subst q;exact⟨fv Q,X⟩
 |oM es clock ak seen=>
  simp only[bc]at u;rcases u with C|⟨r,av,O,Q,_,_,_,_,af⟩
  .rw[C]at q;simp[bK]at q
  .rw[O]at q;simp[bK]at q;subst q;exact⟨fv Q,af⟩
 |fA T e n ai=>
  simp only[bc]at u;rcases u with C|⟨Y,aM,arr,ae,O,_,_,S,_,_,_,_,_,ah⟩
  .rw[C]at q;simp[bK]at q
  .rw[O]at q;simp[bK]at q;subst q;exact⟨fv S,ah⟩
 |ew T sz xs aq e ai=>
  simp only[bc]at u;rcases u with C|⟨Y,aM,arr,ae,ar,vs,O,_,_,S,_,_,_,_,_,_,ab⟩
  .rw[C]at q;simp[bK]at q
  .rw[O]at q;simp[bK]at q;subst q;exact⟨fv S,ab⟩
 |lu T sz xs aq e ai=>
  simp only[bc]at u;rcases u with C|⟨Y,aM,arr,ae,vs,O,_,_,S,_,_,_,_,_,ah⟩
  .rw[C]at q;simp[bK]at q
  .rw[O]at q;simp[bK]at q;subst q;exact⟨fv S,ah⟩
 |dD K E e keys ai ax=>
  simp only[bc]at u;rcases u with C|⟨r,es,clock,ae,ar,O,Q,_,_,_,_,af,_⟩
  .rw[C]at q;simp[bK]at q
  .rw[O]at q;simp[bK]at q;subst q;exact⟨fv Q,af⟩
 |cells T cs=>
  simp only[bc]at u;rcases u with C|⟨Y,arr,O,Q,_,_,X⟩
  .rw[C]at q;simp[bK]at q
  .rw[O]at q;simp[bK]at q;subst q;exact⟨fv Q,X⟩
 |slice T sz xs k bN=>
  simp only[bc]at u;rcases u with C|⟨C,_⟩|⟨Y,aM,arr,O,_,_,S,_,_,_,_,_,_,ab⟩
  .rw[C]at q;simp[bK]at q
  .rw[C]at q;simp[bK]at q
  .rw[O]at q;simp[bK]at q;subst q;exact⟨fv S,ab⟩
 |win T sz xs=>
  simp only[bc]at u;rcases u with C|⟨C,_⟩|⟨Y,aC,aM,arr,O,_,_,S,_,_,_,_,au⟩
  .rw[C]at q;simp[bK]at q
  .rw[C]at q;simp[bK]at q
  .rw[O]at q;simp[bK]at q;subst q;exact⟨fv S,au⟩
 |map K E ak=>
  simp only[bc]at u;rcases u with C|⟨r,es,clock,O,Q,_,_,X,_⟩
  .rw[C]at q;simp[bK]at q
  .rw[O]at q;simp[bK]at q;subst q;exact⟨fv Q,X⟩
 |ic K E ak=>
  simp only[bc]at u;rcases u with C|⟨r,es,clock,O,Q,_,X,_⟩
  .rw[C]at q;simp[bK]at q
  .rw[O]at q;simp[bK]at q;subst q
   obtain⟨_,_,aF,_⟩:=h.er _ _ Q
   grind
 |eV es clock K E ak=>
  simp only[bc]at u;rcases u with C|⟨r,O,Q,_,_,X,_⟩
  .rw[C]at q;simp[bK]at q
  .rw[O]at q;simp[bK]at q;subst q;exact⟨fv Q,X⟩
 |iter aw aE aD seen=>
  simp only[bc]at u;rcases u with C|⟨r,av,O,_,an,_,X⟩
  .rw[C]at q;simp[bK]at q
  .rw[O]at q;simp[bK]at q;subst q;exact⟨fv an,X⟩
 |hdr aw n=>
  simp only[bc]at u;rw[u.1]at q;simp[bK]at q
def bx.nr(h:bx G cx I β σ w){x:Nat}{o:bY}(q:σ.get x=some o){b:Nat}(u:b∈cb (β x)):b<w.heap.size:=(h.sK q u).1
def bx.gu(h:bx G cx I β σ w){b:Nat}(C:w.heap.size<=b)(o:hD):I b o=none:=by
 cases q:I b o with
 |none=>rfl
 |some v=>
  cases o with
  |none=>
   obtain⟨es,clock,u,_⟩:=h.er b v q;have:=fv u;omega
  |some o=>
   have:=World.block_lt_of_cell? w _ (h.good b o v q);simp at this;omega
def bx.J2(h:bx G cx I β σ w){b:Nat}{o:Obj}(u:w.heap[b]?=some o)(O:∀es c,o≠.map es c):I b none=none:=by
 cases C:I b none with
 |none=>rfl
 |some v=>
  obtain⟨es,clock,q,_⟩:=h.er b v C;rw[u]at q;cases q
  exact absurd rfl (O es clock)
def bx.k3(h:bx G cx I β σ w){b:Nat}{arr:fz}{T:TypeId}{bN:Nat×Nat}(q:w.heap[b]?=some (.cells arr T bN)):I b none=none:=h.J2 q λ_ _=>by simp
def eD.alloc(w:World)(o:Obj):eD w (w.alloc o) w.heap.size:=
 ⟨λk _ q=>heap_alloc_old w o k q,by simp,rfl,rfl,rfl,Nat.le_refl _⟩
def eD.setRow(w:World)(g:Nat)(cs:fz):eD w (w.setRow g cs) g:=
 ⟨λk q _=>setRow_other w g k cs q,by simp,rfl,rfl,rfl,Nat.le_refl _⟩
def eD.drew{w w':World}{b:Nat}(h:eD w.drew w' b):eD w w' b:=⟨h.block,h.size,h.tape,h.os,h.output,Nat.le_trans (Nat.le_succ _) h.drawn⟩
def e4(β:Nat->Value)(d:Nat)(v:Value):Nat->Value:=λa=>if a=d then v else β a
def eH(β:Nat->Value)(d:Nat)(v:Value):e4 β d v d=v:=by simp[e4]
def e0(β:Nat->Value){d x:Nat}(v:Value)(h:x≠d):e4 β d v x=β x:=by simp[e4,h]
theorem at7{β:Nat->Value}{d:Nat}{v:Value}(h:β d=.nilFunc):eC β (e4 β d v):=λb=>by
 by_cases a:b=d
 .grind
 .exact .inr (e0 β v a)
def bx.real(h:bx G cx I β σ w){d:Nat}(hd:d∉G.ids)(X:β d=.nilFunc){o:Obj}{v:Value}(Q:bK v=some w.heap.size)(S:∀q,σ.get d=some q->bc cx I (e4 β d v) (w.alloc o) d q):
  bx G cx I (e4 β d v) σ (w.alloc o):=
 h.turn (eD.alloc w o) (.inl h.size) (λ_ _=>rfl) (λx C u e=>by
   obtain⟨q,u⟩:=Option.isSome_iff_exists.1 u;exact absurd (h.nr u e) (by omega)) (bQ.refl I) (λ_ _ _=>rfl) (λZ Y O=>by rw[h.gu (Nat.le_refl _)]at O;cases O) (h.gu (Nat.le_refl _) none)
  (λx C=>e0 β v C) (.inl hd) (at7 X) (.inl (by rw[eH];exact Q)) S
theorem bx.lay(h:bx G cx I β σ w)(vs:fz)(E:TypeId):∃O,bQ I O/\(∀(o:Nat) v,vs[o]?=some v->O w.heap.size o=some v)/\bx G cx O β σ (w.alloc (.cells vs E)):=by
  let O:aZ:=I.on λb o=>if b=w.heap.size then vs[o]? else I b o
  have bp:bQ I O:=λb o v u=>by
    cases o with
    |none=>exact u
    |some o=>
    show(if b=w.heap.size then vs[o]? else I b o)=some v;split
    · rename_i e;subst e;rw[h.gu (Nat.le_refl _)]at u;cases u
    · exact u
  refine⟨O,bp,λo v u=>by show(if _ then _ else _)=_;rw[if_pos rfl];exact u,?_⟩;have ae:∃d,σ.get d=none:=by
    have:∀(l:U),∃n,∀m,n<=m->l.get m=none:=by
      intro l;induction l with
      |nil=>exact⟨0,λ_ _=>rfl⟩
      |cons x r Z=>
        obtain⟨n,C⟩:=Z;obtain⟨k,v⟩:=x;exact⟨max n (k+1),λm af=>by rw[atw,if_neg (by omega)];exact C m (by omega)⟩
    obtain⟨n,C⟩:=this σ;exact⟨n,C n (Nat.le_refl n)⟩
  obtain⟨d,hd⟩:=ae
  refine{good:=λq o v u=>?_,er:=λq v u=>?_,e8:=h.e8.trans bp,eW:=λq Q C o=>?_,frame:=λq Q C=>?_,size:=Nat.le_trans h.size (by simp),tape:=h.tape,os:=h.os,output:=h.output,drawn:=h.drawn,
         bO:=λx o X=>?_,cq:=h.cq,keep:=h.keep}
  · change (if q=w.heap.size then vs[o]? else I q o)=some v at u
    split at u
    · simp_all
    · have S:=h.good q o v u
      have ab:=World.block_lt_of_cell? w _ S;rw[World.cell?_alloc_lt w _ _ ab];exact S
  · obtain⟨es,clock,S,Y⟩:=h.er q v u
    exact⟨es,clock,by rw[heap_alloc_old w _ q (fv S)];exact S,Y⟩
  · have:q≠w.heap.size:=by have:=h.size;omega
    cases o with
    |none=>exact h.eW q Q C none
    |some o=>
    show(if q=w.heap.size then vs[o]? else I q o)=_;rw[if_neg this];exact h.eW q Q C o
  · rw[heap_alloc_old w _ q (by have:=h.size;omega)]
    exact h.frame q Q C
  · refine(h.bO x o X).keep (b:=w.heap.size) (eD.alloc w _) rfl (λe=>absurd (h.nr X e) (by omega)) bp (λq Q o=>?_) (eC.refl β)
    cases o with
    |none=>rfl
    |some o=>
    show(if q=w.heap.size then vs[o]? else I q o)=_;rw[if_neg Q]
end turn
def g8:H->List H
 |.agg cs=>cs
 |a=>[a]
def iD.one:iD->Bool
 |.row _=>false
 |_=>true
def H.one:H->Bool
 |.int _ _=>true|.bool _=>true|.str _=>true|.bn _ _=>true|.dR _=>true|.fn _ _=>true|.az=>true|.fm=>true|.own _=>true|.ptr _ _=>true|.b6 _=>true|.cL _ _=>true|.fc=>true|.cz k _=>k.one|.dc _=>true|.fH _=>true
 |_=>false
def auN{I:aZ}{β:Nat->Value}{a:H}{v:Value}(h:a.one=true)(b:au I β a v):v.oneCell'=true/\v.cells=#[v]:=by
 cases a<;>simp only[H.one]at h<;>first|cases h|skip
 all_goals simp only[au,aS]at b
 all_goals first
  |(subst b;exact⟨rfl,rfl⟩)
  |(obtain⟨_,_,rfl,_⟩:=b;exact⟨rfl,rfl⟩)
  |(obtain⟨_,_,_,rfl,_⟩:=b;exact⟨rfl,rfl⟩)
  |(obtain⟨_,_,_,_,rfl,_⟩:=b;exact⟨rfl,rfl⟩)
  |(obtain⟨_,rfl,_⟩:=b;exact⟨rfl,rfl⟩)
  |(rename_i f e;cases f<;>simp only[iD.one]at h<;>first|cases h|skip
    all_goals simp only[iD.rep]at b
    all_goals first|(obtain⟨g,d,rfl⟩:=b;exact⟨rfl,rfl⟩)|(obtain⟨_,_,_,_,_,_,rfl⟩:=b;exact⟨rfl,rfl⟩))
  |(obtain⟨_,_,rfl⟩:=b;exact⟨rfl,rfl⟩)
  |(obtain⟨rfl,c⟩:=b
    rename_i e;cases d:β e<;>rw[d]at c<;>first|(simp[fl]at c;done)|(simp[jd]at c;done)|exact⟨rfl,rfl⟩)
def H.flat:H->Bool
 |.agg cs=>cs.all H.one
 |a=>a.one
def zS{I:aZ}{β:Nat->Value}:∀(cs:List H) (vs:cR),cs.all H.one=true->br I β cs vs->∀v∈vs,v.oneCell'=true
 |[],vs,_,h=>by simp only[br]at h;subst h;simp
 |x::r,vs,b,h=>by
  simp only[br]at h;simp only[List.all_cons,Bool.and_eq_true]at b;obtain⟨f,c,rfl,e,d⟩:=h;intro v a;rcases List.mem_cons.1 a with rfl|a
  .exact(auN b.1 e).1
  .exact zS r c b.2 d v a
def aua{I:aZ}{β:Nat->Value}{a:H}{v:Value}(h:a.flat=true)(b:au I β a v):br I β (g8 a) v.cells.toList/\∀e∈v.cells.toList,e.oneCell'=true:=by
 by_cases c:∃d,a=.agg d
 .obtain⟨d,rfl⟩:=c;simp only[au]at b;obtain⟨k,rfl,b⟩:=b;simp only[H.flat]at h;exact⟨b,zS d _ h b⟩
 .have j:a.one=true:=by cases a<;>first|exact h|exact absurd ⟨_,rfl⟩ c
  have g:g8 a=[a]:=by cases a<;>first|rfl|exact absurd ⟨_,rfl⟩ c
  obtain⟨i,f⟩:=auN j b;rw[g,f];exact⟨⟨v,[],rfl,b,rfl⟩,by simpa using i⟩
section ops
variable {G:bG}{o:Oper}{ev:Operand->H}{σ:U}
def bC.alloc{T d:Nat}{zs:cR}(h:o.op=.alloc T)(hz:∀w,∃z,(zeroValue T).run G.P w=.ok z w/\z.cells=zs.toArray)(hi:G.ids.contains d=false):
  Yields G o ev ((d,.cells T (jb zs))::σ) [d] [d] (.ptr d 0):=by
 intro ah cx I β w C Q u ab af;obtain⟨z,Z,X⟩:=hz w;have S:(execOp C o).run G.P w=.ok (.value (.pointer (some ⟨w.heap.size,0,none⟩))) (w.alloc (.cells zs.toArray T)):=by
  simp[execOp,h,Instr.alloc,Z,newVar,newRow,X]
 rw[S];have Y:=ab d (by simp);refine⟨I,e4 β d (.pointer (some ⟨w.heap.size,0,none⟩)),by simp only[au];exact⟨w.heap.size,by rw[eH];rfl,rfl⟩,?_,bQ.refl I,λx O=>e0 β _ (λe=>O (by simp[e]))⟩;refine u.real (by simpa using hi) Y rfl λae q=>?_;rw[Q d (by simp),atw,if_pos rfl]at q;injection q with q
 subst q;simp only[bc,eH];exact .inr ⟨w.heap.size,zs.toArray,rfl,heap_alloc_new w _,by simpa using yS I _ zs,λo=>u.gu (Nat.le_refl _) o,.inl u.size⟩
def bC.box{T d:Nat}{x:Operand}{a:H}{cs:List H}(h:o.op=.box T x)(C:ev x=a)(X:a.flat=true)(ae:g8 a=cs)(ai:a.refs (Nat.beq d)=false)(hi:G.ids.contains d=false):
  Yields G o ev ((d,.cells T cs)::σ) [d] [d] (.ptr d 0):=by
 intro aj cx I β w u Z O af Y;have Q:=Y x (by simp[h,Op.operands]);rw[C]at Q;have ab:(execOp u o).run G.P w=.ok (.value (.pointer (some ⟨w.heap.size,0,none⟩))) (w.alloc (.cells (u x).cells T)):=by
  simp[execOp,h,Instr.box,newVar,newRow]
 rw[ab];have S:=af d (by simp);refine⟨I,e4 β d (.pointer (some ⟨w.heap.size,0,none⟩)),by simp only[au];exact⟨w.heap.size,by rw[eH];rfl,rfl⟩,?_,bQ.refl I,λx C=>e0 β _ (λe=>C (by simp[e]))⟩;refine O.real (by simpa using hi) S rfl λah q=>?_;rw[Z d (by simp),atw,if_pos rfl]at q;injection q with q
 subst q;simp only[bc,eH];refine .inr ⟨w.heap.size,(u x).cells,rfl,heap_alloc_new w _,?_,λo=>O.gu (Nat.le_refl _) o,.inl O.size⟩;have:=(aua X Q).1;rw[ae]at this;exact Dj (bQ.refl I) (at7 S) _ _ this
structure s9(P:Program)(T:TypeId)(zs:List Value)(dn:List (Nat×Nat)):Prop where
 run:∀(parts:Array (Nat×Value)) (cells:fz) w,Instr.fill (λi=>dn[i]?) zs.toArray parts.toList=some cells->(Instr.build T parts).run P w=.ok (.agg cells) w
theorem SH{P:Program}{T:TypeId}{fs:Array Field}{b:cR}{a:List (Nat×Nat)}(h:∀w,(zeroValue T).run P w=.ok (.agg b.toArray) w)(g:P.underlying T=some (.struct fs))
  (c:∀w,(fs.mapM λf=>do pure (f.offset,<-sizeOf f.type):Sem (Array (Nat×Nat))).run P w=.ok a.toArray w):s9 P T b a where
 run:=λparts e w i=>by
  have d:Instr.fill (a.toArray[·]?) b.toArray parts.toList=some e:=by grind
  unfold Instr.build;simp only[Sem.run_bind,h,Result.andThen_ok,run_underlying g,c,Value.cells];simp only[d];rfl
def e3{α:Type}(L:List α)(off:Nat)(cs:List α):List α:=L.take off++cs++L.drop (off+cs.length)
def oA(c:List (Nat×Nat))(b:List H):List (Nat×H)->Option (List H)
 |[]=>some b
 |(i,a)::d=>match c[i]? with
  |none=>none
  |some (off,size)=>bif Nat.beq (g8 a).length size&&Nat.ble (off+(g8 a).length) b.length&&a.flat then oA c (e3 b off (g8 a)) d else none
def Dm(cs:cR):∀(k off:Nat) (L:fz),off+k+cs.length<=L.size->((cs.zipIdx k).foldl (λ(d:fz) (x:Value×Nat)=>d.setIfInBounds (off+x.2) x.1) L).toList=L.toList.take (off+k)++cs++L.toList.drop (off+k+cs.length):=by
 induction cs with
 |nil=>intro k off L a;simp
 |cons c r b=>
  intro k off L a;simp only[List.zipIdx_cons,List.foldl_cons];have:=b (k+1) off (L.setIfInBounds (off+k) c) (by simp at a ⊢;omega);rw[this];have e:=list_seg_step L.toList (off+k) c r (by simp at a ⊢;omega);simpa [Array.toList_setIfInBounds,Nat.add_assoc]using e
def kf{I:aZ}{β:Nat->Value}:∀(xs ys:List H) (a vs:cR),br I β xs a->br I β ys vs->br I β (xs++ys) (a++vs)
 |[],ys,a,vs,h,b=>by simp only[br]at h;subst h;simpa using b
 |x::r,ys,a,vs,h,b=>by
  simp only[br]at h;obtain⟨d,c,rfl,f,e⟩:=h;simp only[List.cons_append,br];exact⟨d,c++vs,rfl,f,kf r ys c vs e b⟩
def Eo{I:aZ}{β:Nat->Value}(m:List (Nat×Nat)):∀(parts:List (Nat×H)) (c:List (Nat×Value)) (g:List H) (L:fz) (out:List H),br I β g L.toList->
  (parts.length=c.length/\∀(j:Nat) (p:Nat×H) (q:Nat×Value),parts[j]?=some p->c[j]?=some q->p.1=q.1/\au I β p.2 q.2)->oA m g parts=some out->∃r,Instr.fill (λi=>m[i]?) L c=some r/\br I β out r.toList
 |[],c,g,L,out,h,d,b=>by
  have:c=[]:=List.eq_nil_of_length_eq_zero d.1.symm;subst this;simp only[oA,Option.some.injEq]at b;subst b;exact⟨L,rfl,h⟩
 |(i,a)::y,c,g,L,out,h,d,b=>by
  cases c with
  |nil=>simp at d
  |cons q F=>
   obtain⟨K,f⟩:=q;have o:=d.2 0 _ _ rfl rfl;simp only at o;obtain⟨rfl,z⟩:=o;simp only[oA]at b;cases n:m[i]? with
   |none=>rw[n]at b;cases b
   |some os=>
    obtain⟨e,t⟩:=os;rw[n]at b;simp only at b;cases l:(Nat.beq (g8 a).length t&&Nat.ble (e+(g8 a).length) g.length&&a.flat)with
    |false=>rw[l]at b;simp at b
    |true=>
     rw[l]at b;simp only[cond_true]at b;simp only[Bool.and_eq_true,Nat.beq_eq,Nat.ble_eq]at l;obtain⟨⟨G,J⟩,v⟩:=l;obtain⟨d1,d2⟩:=aua v z;have s:=j9 _ _ d1;have B:=j9 _ _ h;simp only[Array.length_toList]at s B;simp only[Instr.fill,n];rw[if_neg (show ¬((decide (f.cells.size≠t)||decide (e+f.cells.size>L.size))=true)from by simp;omega)];refine Eo m y F _ _ out ?_ ⟨by simpa using d.1,λj p q u w=>d.2 (j+1) p q (by simpa using u) (by simpa using w)⟩ b;have D:=Dm f.cells.toList 0 e L (by simp;omega)
     have E:(f.cells.zipIdx.foldl (λC (k:Value×Nat)=>C.setIfInBounds (e+k.2) k.1) L)=((f.cells.toList.zipIdx 0).foldl (λ(A:fz) (k:Value×Nat)=>A.setIfInBounds (e+k.2) k.1) L):=by
      rw[<-Array.foldl_toList,Array.toList_zipIdx]
     rw[E,D];simp only[Nat.add_zero,e3];refine kf _ _ _ _ (kf _ _ _ _ (rY _ _ _ h) d1) ?_;have:=rX (e+(g8 a).length) _ _ h;have x:f.cells.toList.length=(g8 a).length:=by simpa using s
     rw[x];exact this
def bC.build{T:TypeId}{parts:Array (Nat×Operand)}{zs:cR}{dn:List (Nat×Nat)}{cs:List H}(h:o.op=.build T parts)(ab:s9 G.P T zs dn)
  (Q:oA dn (jb zs) (parts.toList.map λp=>(p.1,ev p.2))=some cs):Yields G o ev σ [] [] (.agg cs):=
 .pure λah cx I β w C ai af S=>by
  have ae:∀p∈parts.toList,au I β (ev p.2) (C p.2):=λp Z=>S p.2 (by simp only[h,Op.operands];simpa using ⟨p.1,by simpa using Z⟩)
  obtain⟨r,X,Y⟩:=Eo dn (parts.toList.map λp=>(p.1,ev p.2)) (parts.toList.map λp=>(p.1,C p.2)) (jb zs) zs.toArray cs (by simpa using yS I β zs)
   ⟨by simp,λj p aj q u=>by
    simp only[List.getElem?_map]at q u;cases O:parts.toList[j]? with
    |none=>rw[O]at q;cases q
    |some y=>
     rw[O]at q u;simp only[Option.map_some,Option.some.injEq]at q u;subst q u;exact⟨rfl,ae y (List.mem_of_getElem? O)⟩⟩ Q
  refine⟨.agg r,?_,by simp only[au];exact⟨r,rfl,Y⟩⟩;have:(Instr.build T (parts.map λ(i,x)=>(i,C x))).run G.P w=.ok (.agg r) w:=ab.run _ r w (by simpa using X);simp[execOp,h,this]
structure o2(P:Program)(T E sz:Nat)(zs:List Value):Prop where
 en:P.underlying T=some (.slice E)
 size:∀w,(sizeOf E).run P w=.ok sz w
 zero:∀w,∃z,(zeroValue E).run P w=.ok z w/\z.cells=zs.toArray
 Th:zs.length=sz
def l0{sz:Nat}:∀(xs:List (List H)),(∀e∈xs,e.length=sz)->xs.flatten.length=xs.length*sz
 |[],_=>by simp
 |e::r,h=>by
  simp only[List.flatten_cons,List.length_append,List.length_cons,h e (by simp),l0 r (λb a=>h b (by simp[a]))];rw[Nat.add_mul];omega
def l8(sz:Nat):Nat->List (Nat×H)->Option (List (List H))
 |_,[]=>some []
 |k,(i,a)::r=>bif Nat.beq i k&&Nat.beq (g8 a).length sz&&a.flat then(l8 sz (k+1) r).map (g8 a::·)else none
theorem yz{I:aZ}{β:Nat->Value}(sz:Nat):∀(parts:List (Nat×H)) (g:List (Nat×Value)) (k:Nat) (L:fz) (out:List (List H)),
  (parts.length=g.length/\∀(j:Nat) (p:Nat×H) (q:Nat×Value),parts[j]?=some p->g[j]?=some q->p.1=q.1/\au I β p.2 q.2)->l8 sz k parts=some out->(k+parts.length)*sz<=L.size->
  ∃r l,Instr.fill (λi=>some (i*sz,sz)) L g=some r/\r.size=L.size/\r.toList=L.toList.take (k*sz)++l++L.toList.drop ((k+parts.length)*sz)/\br I β out.flatten l/\(∀e∈out,e.length=sz)/\out.length=parts.length
 |[],g,k,L,out,h,b,_=>by
  have:g=[]:=List.eq_nil_of_length_eq_zero h.1.symm;subst this;simp only[l8,Option.some.injEq]at b;subst b;exact⟨L,[],rfl,rfl,by simp,by simp[br],by simp,rfl⟩
 |(i,a)::d,g,k,L,out,h,b,t=>by
  cases g with
  |nil=>simp at h
  |cons q S=>
   obtain⟨U,c⟩:=q;have w:=h.2 0 _ _ rfl rfl;simp only at w;obtain⟨rfl,F⟩:=w;simp only[l8]at b;cases n:(Nat.beq i k&&Nat.beq (g8 a).length sz&&a.flat)with
   |false=>rw[n]at b;simp at b
   |true=>
    rw[n]at b;simp only[cond_true,Option.map_eq_some_iff]at b;obtain⟨N,b,rfl⟩:=b;simp only[Bool.and_eq_true,Nat.beq_eq]at n;obtain⟨⟨rfl,A⟩,y⟩:=n;obtain⟨d1,d2⟩:=aua y F;have P:=j9 _ _ d1;simp only[Array.length_toList]at P;have T:i*sz+sz<=L.size:=by
     have:(i+1)*sz<=(i+((i,a)::d).length)*sz:=Nat.mul_le_mul_right _ (by simp)
     grind
    have e:=Dm c.cells.toList 0 (i*sz) L (by simp;omega)
    have Q:(c.cells.zipIdx.foldl (λO (f:Value×Nat)=>O.setIfInBounds (i*sz+f.2) f.1) L)=((c.cells.toList.zipIdx 0).foldl (λ(o:fz) (f:Value×Nat)=>o.setIfInBounds (i*sz+f.2) f.1) L):=by
     rw[<-Array.foldl_toList,Array.toList_zipIdx]
    simp only[Instr.fill];rw[if_neg (show ¬((decide (c.cells.size≠sz)||decide (i*sz+c.cells.size>L.size))=true)from by simp;omega)];rw[Q];generalize V:((c.cells.toList.zipIdx 0).foldl (λ(o:fz) (f:Value×Nat)=>o.setIfInBounds (i*sz+f.2) f.1) L)=u at e;have v:u.size=L.size:=by
     rw[<-Array.length_toList,e];simp;omega
    obtain⟨r,l,B,C,D,G,K,J⟩:=yz sz d S (i+1) u N ⟨by simpa using h.1,λj p q x z=>h.2 (j+1) p q (by simpa using x) (by simpa using z)⟩ b (by rw[v];simp at t;rw[show i+1+d.length=i+(d.length+1)from by omega];exact t);refine⟨r,c.cells.toList++l,B,C.trans v,?_,?_,?_,by simp[J]⟩
    .rw[D,e];have M:(i+1)*sz=i*sz+sz:=by rw[Nat.add_mul,Nat.one_mul]
     have E:(L.toList.take (i*sz+0)).length=i*sz:=by simp;omega
     have m:(L.toList.take (i*sz+0)++c.cells.toList).length=(i+1)*sz:=by rw[List.length_append,E,M];simp;omega
     rw[List.take_append_of_le_length (by rw[m];exact Nat.le_refl _),<-m,List.take_length];have R:List.drop ((i+1+d.length)*sz) (L.toList.take (i*sz+0)++c.cells.toList++L.toList.drop (i*sz+0+c.cells.toList.length))=L.toList.drop ((i+((i,a)::d).length)*sz):=by
      rw[List.drop_append,m,List.drop_drop];have:(i+1)*sz<=(i+1+d.length)*sz:=Nat.mul_le_mul_right _ (by omega);rw[List.drop_of_length_le (by rw[m];exact this),List.nil_append];congr 1;simp only[Array.length_toList,List.length_cons];rw[show i+(d.length+1)=i+1+d.length from by omega];omega
     rw[R];simp[List.append_assoc]
    .simp only[List.flatten_cons];exact kf _ _ _ _ d1 G
    .intro e s;rcases List.mem_cons.1 s with rfl|s
     .exact A
     .exact K e s
theorem bC.buildSlice{T E sz len:Nat}{parts:Array (Nat×Operand)}{zs:cR}{xs:List (List H)}(h:o.op=.buildSlice T len parts)(X:o2 G.P T E sz zs)(ab:parts.size=len)(aH:len*sz<=65536/\len<=65536)
  (af:l8 sz 0 (parts.toList.map λp=>(p.1,ev p.2))=some xs) (av:g7 xs.flatten=true):Yields G o ev σ [] [] (.bn true xs):=by
 intro aI cx I β w C aJ ak aV ai;have aG:∀p∈parts.toList,au I β (ev p.2) (C p.2):=λp am=>ai p.2 (by simp only[h,Op.operands];simpa using ⟨p.1,by simpa using am⟩);obtain⟨z,ar,aQ⟩:=X.zero w
 let L:fz:=(Array.range (len*sz)).map ((if len*sz=0 then #[]else z.cells)[·%(if len*sz=0 then #[]else z.cells:fz).size]!)
 have aE:L.size=len*sz:=by simp[L]
 obtain⟨r,ae,an,aM,aT,ax,aU,aC⟩:=yz (I:=I) (β:=β) sz (parts.toList.map λp=>(p.1,ev p.2)) (parts.toList.map λp=>(p.1,C p.2)) 0 L xs
  ⟨by simp,λj p aW q O=>by
   simp only[List.getElem?_map]at q O;cases S:parts.toList[j]? with
   |none=>rw[S]at q;cases q
   |some y=>
    rw[S]at q O;simp only[Option.map_some,Option.some.injEq]at q O;subst q O;exact⟨rfl,aG y (List.mem_of_getElem? S)⟩⟩ af (by simp[aE,ab])
 have aD:r.toList=ae:=by simp_all
 have Z:xs.length=len:=by rw[aC];simp[ab]
 have ao:(execOp C o).run G.P w=.ok (.value (.slice (some ⟨w.heap.size,0,none⟩) len len)) (w.alloc (.cells r E)):=by
  have aF:¬(len*sz>2 ^ 24):=by have:(2:Nat) ^ 24=16777216:=by decide
                               omega
  have u:Instr.fill (λi=>some (i*sz,sz)) L (parts.map λ(i,x)=>(i,C x)).toList=some r:=by simpa using an
  simp only[execOp,h,Instr.buildSlice,Sem.run_bind,run_underlying X.en,X.size,Result.andThen_ok,aF,if_false];by_cases Q:len*sz=0
  .have Y:L=(Array.range (len*sz)).map ((#[]:fz)[·%(#[]:fz).size]!):=by simp only[L,Q,if_true]
   rw[Y]at u;simp only[Q,if_true,Sem.run_bind,Sem.run_pure,Result.andThen_ok]at u ⊢;simp only[u];simp[newRow]
  .have Y:L=(Array.range (len*sz)).map (z.cells[·%z.cells.size]!):=by simp only[L,Q,if_false]
   rw[Y]at u;simp only[Q,if_false,Sem.run_bind,ar,Sem.run_pure,Result.andThen_ok];simp only[u];simp[newRow]
 rw[ao];obtain⟨ah,bp,aw,aq⟩:=ak.lay r E;refine⟨ah,β,?_,aq,bp,λ_ _=>rfl⟩;simp only[au,aS];refine⟨_,len,by rw[Z],by omega,?_,λ_=>Z.symm,.inr ⟨w.heap.size,0,rfl,?_⟩⟩
 .simp only[maxLen];omega
 .have:=br.closed _ _ av ax;rw[<-aD]at this;exact pQ xs 0 _ (iI bp _ _ this) λj v aj=>by rw[Nat.zero_add];exact aw j v (by simpa using aj)
end ops
end
section
def U.minus(ids:cr):U->U
 |[]=>[]
 |(d,o)::r=>bif ids.contains d then U.minus ids r else(d,o)::U.minus ids r
theorem atE(ids:cr):∀(σ:U) (d:Nat),(U.minus ids σ).get d=if d∈ids then none else σ.get d
 |[],d=>by simp[U.minus,U.get]
 |(k,o)::r,d=>by
  simp only[U.minus];cases a:ids.contains k with
  |true=>
   simp only[cond_true,atE ids r d,atw];split
   .rfl
   .grind
  |false=>
   simp only[cond_false,atw,atE ids r d];split
   .grind
   .rfl
def atX:∀(a b:U) (d:Nat),U.get (a++b) d=match a.get d with|some o=>some o|none=>b.get d
 |[],b,d=>by simp[U.get]
 |(k,o)::r,b,d=>by
  simp only[List.cons_append,atw];split
  .rfl
  .exact atX r b d
def auO:∀{σ:U} {d:Nat},d∈σ.ids->(σ.get d).isSome
 |[],d,a=>by simp[U.ids]at a
 |(k,o)::r,d,a=>by
  rw[atw];split
  .rfl
  .rename_i b;simp only[U.ids,List.map_cons,List.mem_cons]at a;rcases a with a|a
   .omega
   .exact auO (σ:=r) a
def m6(β:Nat->Value)(σ:U):cr:=σ.flatMap λa=>cb (β a.1)
def Cf{β:Nat->Value}{σ:U}{b:Nat}:b∈m6 β σ↔∃p∈σ,b∈cb (β p.1):=by simp[m6,List.mem_flatMap]
section after
variable {G:bG}{cx:c0}{I:aZ}{β:Nat->Value}{σ:U}{w:World}
def bx.placeOf(h:bx G cx I β σ w){x:Nat}{o:bY}(q:σ.get x=some o){b:Nat}(u:b∈cb (β x)):Place cx b:=(h.sK q u).2
def hY(I:aZ)(β:Nat->Value)(b2:U)(w:World):c0:={B:=w.heap.size,w0:=w,I0:=I,nN:=m6 β b2,nx:=β}
def bc.place{cx hx:c0}{I:aZ}{β:Nat->Value}{w:World}{d:Nat}{o:bY}(q:∀b∈cb (β d),Place cx b->Place hx b)(h:bc cx I β w d o):bc hx I β w d o:=
 h.tu (bQ.refl I) rfl (eC.refl β) λb e=>⟨λ_=>rfl,λ_=>rfl,q b e⟩
def bx.j3(h:bx G cx I β σ w){P:Program}{b2:U}(C:∀p∈b2,σ.get p.1=some p.2):bx ⟨P,0,b2.ids⟩ (hY I β b2 w) I β b2 w:=by
  have Q:∀d o,b2.get d=some o->σ.get d=some o:=λd o hd=>by
    obtain⟨p,UZ,U0,O⟩:=kr b2 d o hd;rw[<-U0,<-O];exact C p UZ
  have q:=h.sub Q
  exact{good:=q.good,er:=q.er,e8:=bQ.refl I,eW:=λ_ _ _ _=>rfl,frame:=λ_ _ _=>rfl,size:=Nat.le_refl _,tape:=rfl,os:=rfl,output:=rfl,drawn:=Nat.le_refl _,
        bO:=λd o hd=>(q.bO d o hd).place λb u _=>.inr (by
            obtain⟨p,UZ,U0,_⟩:=kr b2 d o hd;exact Cf.2 ⟨p,UZ,by rw[U0];exact u⟩),
        cq:=q.cq,keep:=λ_ _=>rfl}
theorem bx.after(h:bx G cx I β σ w){P:Program}{b2:U}(ai:∀p∈b2,σ.get p.1=some p.2){S:aZ}{β':Nat->Value}{σ2:U}{w':World}
    (C:bx ⟨P,0,b2.ids⟩ (hY I β b2 w) S β' σ2 w') (news:cr) (aq:∀d∈news,d∉G.ids/\σ.get d=none) (aV:(σ.minus b2.ids).clean news.contains=true)
    (ax:σ2.clean (λd=>!(b2.ids++news).contains d)=true) :
    bx G cx S (λd=>if d∈news then β' d else β d) (σ2++σ.minus b2.ids) w'/\bQ I S/\(∀(r:H) v,r.refs (λd=>!(b2.ids++news).contains d)=false->au S β' r v->au S (λd=>if d∈news then β' d else β d) r v):=by
  have a7:∀d o,b2.get d=some o->σ.get d=some o:=λd o hd=>by
    obtain⟨p,X,Y,aW⟩:=kr b2 d o hd;rw[<-Y,<-aW];exact ai p X
  have bp:bQ I S:=C.e8
  have ar:∀d,(λd=>!(b2.ids++news).contains d) d=false->(λd=>if d∈news then β' d else β d) d=β' d:=λd hd=>by
    have hd:d∈b2.ids\/d∈news:=by grind
    show(if d∈news then β' d else β d)=β' d;split
    · rfl
    · rename_i aq
      rcases hd with hd|hd
      · exact(C.keep d hd).symm
      · grind
  have aF:∀b,b∈m6 β b2->Place cx b:=λb Q=>by
    obtain⟨p,X,Y⟩:=Cf.1 Q;exact h.placeOf (ai p X) Y
  have aX:∀b,Place (hY I β b2 w) b->Place cx b:=λb Q=>by
    rcases Q with Q|Q
    · exact .inl (Nat.le_trans h.size Q)
    · exact aF b Q
  have aJ:∀b,b<cx.B->b∉cx.nN->b<(hY I β b2 w).B/\b∉(hY I β b2 w).nN:=λb O u=>
    ⟨Nat.lt_of_lt_of_le O h.size,λQ=>by
      rcases aF b Q with ab|ab
      · omega
      · exact u ab⟩
  have Z:∀x o,(σ.minus b2.ids).get x=some o->x∉b2.ids/\σ.get x=some o:=λx o q=>by
    rw[atE]at q;split at q
    · cases q
    · grind
  have aH:∀x o,(σ.minus b2.ids).get x=some o->∀b∈cb (β x),b<(hY I β b2 w).B/\b∉(hY I β b2 w).nN:=λx o q b Q=>by
    obtain⟨O,u⟩:=Z x o q;refine⟨h.nr u Q,λa0=>?_⟩;obtain⟨p,X,Y⟩:=Cf.1 a0;have a1:p.1≠x:=λe=>O (by rw[<-e];exact List.mem_map.2 ⟨p,X,rfl⟩);exact h.cq p.1 x (by rw[ai p X];rfl) (by rw[u];rfl) a1 b Y Q
  have aI:∀x o,(σ.minus b2.ids).get x=some o->(if x∈news then β' x else β x)=β x:=λx o q=>by
    have:x∉news:=λao=>by
      have:=(aq x ao).2;rw[(Z x o q).2]at this;cases this
    rw[if_neg this]
  refine⟨{good:=C.good,er:=C.er,e8:=h.e8.trans bp,eW:=λb O u o=>?_,frame:=λb O u=>?_,size:=Nat.le_trans h.size C.size,tape:=C.tape.trans h.tape,os:=C.os.trans h.os,output:=C.output.trans h.output,drawn:=Nat.le_trans h.drawn C.drawn,
          bO:=λx o q=>?_,cq:=λx y q aj av b=>?_,keep:=λx q=>?_},bp,λr v aQ aM=>oh ar r v aQ aM⟩
  · obtain⟨am,ah⟩:=aJ b O u
    exact(C.eW b am ah o).trans (h.eW b O u o)
  · obtain⟨am,ah⟩:=aJ b O u
    exact(C.frame b am ah).trans (h.frame b O u)
  · rw[atX]at q
    cases u:σ2.get x with
    |some a6=>
      rw[u]at q;cases q;obtain⟨ak,an⟩:=atF ax x o u;exact((C.bO x o u).place (λb _=>aX b)).beta ar ak an
    |none=>
      rw[u]at q;simp only at q;obtain⟨a5,aU⟩:=Z x o q;obtain⟨ak,an⟩:=atF aV x o q;have aT:=h.bO x o aU
      have aE:∀d,news.contains d=false->(λd=>if d∈news then β' d else β d) d=β d:=λd hd=>by
        have:d∉news:=by simpa using hd
        show(if d∈news then β' d else β d)=β d;rw[if_neg this]
      exact o.p9▸aT.go (r:=id) bp (aE x ak) (λy e=>.inr (aE y e)) (λb Q=>by
        obtain⟨af,ae⟩:=aH x o q b Q;exact⟨λ_=>C.frame b af ae,λo=>C.eW b af ae o,id⟩) an
  ·
    have aG:∀x,(σ2.get x).isSome->(if x∈news then β' x else β x)=β' x:=λx q=>by
      obtain⟨o,q⟩:=Option.isSome_iff_exists.1 q;exact ar x (atF ax x o q).1
    have aD:∀x,(U.get (σ2++σ.minus b2.ids) x).isSome->(σ2.get x).isSome\/∃o,(σ.minus b2.ids).get x=some o:=λx q=>by
      rw[atX]at q;cases u:σ2.get x with
      |some o=>exact .inl rfl
      |none=>rw[u]at q;exact .inr (Option.isSome_iff_exists.1 q)
    have a9:∀x y,(σ2.get x).isSome->(∃o,(σ.minus b2.ids).get y=some o)->b∈cb (β' x)->b∈cb (β y)->False:=λx y q ⟨o,aj⟩ a3 a4=>by
      obtain⟨a8,q⟩:=Option.isSome_iff_exists.1 q;obtain⟨af,ae⟩:=aH y o aj b a4;rcases C.placeOf q a3 with ab|ab
      · omega
      · exact ae ab
    show b∈cb (if x∈news then β' x else β x)->b∉cb (if y∈news then β' y else β y);rcases aD x q with O|⟨aC,O⟩<;>rcases aD y aj with u|⟨aw,u⟩
    · rw[aG x O,aG y u]
      exact C.cq x y O u av b
    · grind
    · grind
    · rw[aI x aC O,aI y aw u]
      exact h.cq x y (by rw[(Z x aC O).2];rfl) (by rw[(Z y aw u).2];rfl) av b
  · have:x∉news:=λao=>(aq x ao).1 q
    simp only[this,if_false];exact h.keep x q
end after
section ops
variable {G:bG}{o:Oper}{ev:Operand->H}{σ:U}
def pZ{I:aZ}{β:Nat->Value}(ev:Operand->H)(a:Operand->Value):∀(xs:List Operand),(∀x∈xs,au I β (ev x) (a x))->br I β (xs.map ev) (xs.map a)
 |[],_=>by simp[br]
 |x::r,h=>by
  simp only[List.map_cons,br];exact⟨a x,r.map a,rfl,h x (by simp),pZ ev a r λc b=>h c (by simp[b])⟩
variable {P:Program}
def vh{o:Oper}{b:Operand}{args:Array Operand}{k:Array TypeId}{a:Operand->Value}{f:FuncId}{vs:fz}{w:World}(h:o.op=.call ⟨.value b,args,k⟩)(c:a b=.func (.func f) #[] vs)
  (d:∀(args:fz) (w:World),(callFunc f args).run P w=.ok (.enter f args) w):(execOp a o).run P w=.ok (.enter f ((args.toList.map a++vs.toList).toArray)) w:=by
 simp[execOp,h,resolve,c,Deferred.ofValue,invoke,d]
def bC.call{Y:Operand}{args:Array Operand}{k:Array TypeId}{f:FuncId}{aM ch:List H}{σs b2:U}{r:H}(h:o.op=.call ⟨.value Y,args,k⟩)(ai:ev Y=.fn f aM)
  (aG:∀(args:fz) (w:World),(callFunc f args).run G.P w=.ok (.enter f args) w) (am:∀p∈σs,σ.get p.1=some p.2) (aT:hE σs (args.toList.map ev++aM) ch) (aE:∀p∈b2,σs.get p.1=some p.2)
  (aH:bB G.P f b2 ch r) (an:r.closed=true) (aQ:b2.clean (λd=>!(b2.ids++[]).contains d)=true):Yields G o ev σ [] σs.ids r:=by
 intro X cx I β w aj aq S _ af;have q:=af Y (by simp[h,Op.operands,Call.operands]);rw[ai]at q;simp only[au]at q;obtain⟨vs,q,ax⟩:=q;rw[vh h q aG]
 have ah:∀d o,σs.get d=some o->X.get d=some o:=λd o hd=>by
  obtain⟨p,Q,O,Z⟩:=kr σs d o hd;rw[aq d (by rw[<-O];exact List.mem_map.2 ⟨p,Q,rfl⟩),<-O,<-Z];exact am p Q
 have mV:=S.sub ah;have aF:=kf _ _ _ _ (pZ ev aj args.toList λx ak=>af x (by simp only[h,Op.operands,Call.operands];simp;right;simpa using ak)) ax;have aI:=aT.rep mV _ aF;have ab:∀p∈b2,X.get p.1=some p.2:=λp ao=>ah _ _ (aE p ao);have ar:=S.j3 (P:=G.P) ab;refine Calls.mono (aH _ w I β _ ar aI) ?_;rintro e w' ⟨v,aV,aX,u,ae,a1,⟨aJ,aC⟩,aD,av⟩;subst aJ aC;obtain⟨aU,C,a0⟩:=S.after ab av [] (by simp) (auh _) aQ;refine⟨v,aV,ae,β,?_,?_,C,λ_ _=>rfl⟩
 .exact aS.rep β _ _ (au.closed aX v an aD)
 .refine({aU with}:bx G cx ae β (u++X.minus u.ids) w').sub λd o hd=>?_;rw[atX,atE];cases C:u.get d with
  |some aw=>
   obtain⟨p,Q,O,Z⟩:=kr u d aw C;have:=ab p Q;rw[O,Z,hd]at this;simpa using this.symm
  |none=>
   have:d∉u.ids:=λaW=>by have:=auO aW;rw[C]at this;cases this
   simp[this,hd]
def D.call{O:Operand}{args:Array Operand}{k:Array TypeId}{f:FuncId}{aM ch:List H}{b2:U}{Post:H->U->Prop}(news:cr)(h:o.op=.call ⟨.value O,args,k⟩)(Y:ev O=.fn f aM)
  (av:∀(args:fz) (w:World),(callFunc f args).run G.P w=.ok (.enter f args) w) (S:∀p∈b2,σ.get p.1=some p.2) (aD:hE σ (args.toList.map ev++aM) ch)
  (aH:cp G.P f b2 ch Post) (aC:news.all (λd=>!G.ids.contains d&&(σ.get d).isNone)=true) (ai:(σ.minus b2.ids).clean news.contains=true)
  (am:∀r σ2,Post r σ2->r.refs (λd=>!(b2.ids++news).contains d)=false/\σ2.clean (λd=>!(b2.ids++news).contains d)=true) :
  eB G o ev σ (b2.ids++news) news (λr ah=>∃σ2,Post r σ2/\ah=σ2++σ.minus b2.ids):=by
 intro cx I β w ab C Q;have q:=Q O (by simp[h,Op.operands,Call.operands]);rw[Y]at q;simp only[au]at q;obtain⟨vs,q,ao⟩:=q;rw[vh h q av];have ar:=kf _ _ _ _ (pZ ev ab args.toList λx ae=>Q x (by simp only[h,Op.operands,Call.operands];simp;right;simpa using ae)) ao;have aw:=aD.rep C _ ar;have aj:=C.j3 (P:=G.P) S
 have ax:∀d∈news,d∉G.ids/\σ.get d=none:=λd hd=>by
  have:=List.all_eq_true.1 aC d hd;simpa using this
 refine Calls.mono (aH _ w I β _ aj aw) ?_;rintro e w' ⟨v,aF,r,σ2,Z,aG,X,aq,ak⟩;obtain⟨dG,bE⟩:=am r σ2 X;obtain⟨aE,u,af⟩:=C.after S ak news ax ai bE;refine⟨v,aF,r,_,Z,_,⟨σ2,X,rfl⟩,af r v dG aq,aE,u,λd hd=>by simp[hd],λd hd=>?_⟩;have hd:d∉b2.ids/\d∉news:=by simpa using hd
 rw[atX,atE,if_neg hd.1];cases u:σ2.get d with
 |some an=>
  have:=(atF bE d an u).1;have:(b2.ids++news).contains d=true:=by rw[<-Bool.not_eq_false'];exact this
  exact absurd (List.mem_append.1 (List.contains_iff_mem.1 this)) (by simp[hd.1,hd.2])
 |none=>rfl
def BW{w:World}{b off:Nat}{aQ:TypeId}{arr:fz}(a:w.heap[b]?=some (.cells arr aQ (0,0)))(vs:cR)(c:off+vs.length<=arr.size)(d:∀v∈vs,v.oneCell'=true):
  (storeCells ⟨b,off,none⟩ vs).run P w=.ok () (w.setRow b (e3 arr.toList off vs).toArray):=by
 have:=run_storeCells_at P b off aQ vs 0 arr w a (by simpa using c) d;simpa [e3]using this
def JH{I:aZ}{β:Nat->Value}{cs c:List H}{vs a:cR}(off:Nat)(h:br I β cs vs)(b:br I β c a):br I β (e3 cs off c) (e3 vs off a):=by
 unfold e3;rw[j9 _ _ b];exact kf _ _ _ _ (kf _ _ _ _ (rY _ _ _ h) b) (rX _ _ _ h)
def U.set(d:Nat)(o:bY):U->U
 |[]=>[]
 |(k,x)::r=>bif Nat.beq k d then(k,o)::r else(k,x)::U.set d o r
theorem atC(d:Nat)(o:bY):∀(σ:U) (x:Nat),(U.set d o σ).get x=if x=d then(σ.get d).map λ_=>o else σ.get x
 |[],x=>by simp[U.set,U.get]
 |(k,y)::r,x=>by
  simp only[U.set];by_cases a:k=d
  .subst a;simp only[Nat.beq_refl,cond_true,atw]
   grind
  .have:Nat.beq k d=false:=by rw[<-Bool.not_eq_true,Nat.beq_eq];exact a
   simp only[this,cond_false,atw,atC d o r x]
   grind
def auo{T aQ d p n:Nat}{x y:Operand}{a:H}{cs:List H}(h:o.op=.store T x y)(b:ev x=.ptr d p)(D:ev y=a)(k:σ.get d=some (.cells aQ cs))(N:∀w,(sizeOf T).run G.P w=.ok n w)
  (B:a.flat=true) (S:(g8 a).length=n) (U:p+n<=cs.length) :
  eB G o ev σ [d] [] (λr F=>r=.undef/\F=σ.set d (.cells aQ (e3 cs p (g8 a)))):=by
 intro cx I β w f j q;have e:=q x (by simp[h,Op.operands]);rw[b]at e
 have s:=q y (by simp[h,Op.operands]);rw[D]at s
 simp only[au]at e;obtain⟨c,e,E⟩:=e;obtain⟨z,A,l,m,i,u⟩:=j.box k e;obtain⟨f1,f2⟩:=aua B s;have L:=j9 _ _ m;have K:=j9 _ _ f1;simp only[Array.length_toList]at L K;have M:=BW (P:=G.P) l (f y).cells.toList (off:=p) (by simp;omega) f2;have J:(execOp f o).run G.P w=.ok .skip (w.setRow c (e3 z.toList p (f y).cells.toList).toArray):=by
  have Q:¬((f y).cells.size≠n):=by omega
  simp[execOp,h,E,Instr.storeAt,Instr.sureAddr,storeVar,N,Q,M]
 rw[J];refine⟨.undef,_,I,β,⟨rfl,rfl⟩,by simp[au,aS],?_,bQ.refl I,λ_ _=>rfl,λx b=>by rw[atC,if_neg (by simpa using b)]⟩;have v:bK (β d)=some c:=e
 refine j.turn (d:=d) (eD.setRow w c _) u (λx b=>by rw[atC,if_neg b]) (λx b C O=>j.cq x d C (by rw[k];rfl) b c O (g4 v)) (bQ.refl I) (λ_ _ _=>rfl)
  (λo V t=>by rw[i o]at t;cases t) (i none) (λ_ _=>rfl) (.inr rfl) (eC.refl β) (.inl v) λR g=>?_
 rw[atC,if_pos rfl,k]at g;injection g with g
 subst g;simp only[bc];exact .inr ⟨c,_,A,setRow_heap w c z _ aQ _ l,by simpa using JH p m f1,i,u⟩
end ops
end
section
structure wR(P:Program)(T E sz bytes:Nat):Prop where
 en:P.underlying T=some (.slice E)
 info:∃i z,P.info? E=some i/\i.zero=some z/\i.size=sz/\i.bytes=bytes/\z.cells.size=sz
 pos:0<sz
theorem rK{I:aZ}{b:Nat}{w:World}(d:∀b (o:Nat) v,I b o=some v->w.cell? ⟨b,o,none⟩=some v):∀(xs:List (List H)) (o:Nat),eZ I b xs o->
  ∃vs:cR,bJ I xs.flatten vs/\∀j v,vs[j]?=some v->w.cell? ⟨b,o+j,none⟩=some v
 |[],o,_=>⟨[],rfl,λj v a=>by simp at a⟩
 |e::r,o,a=>by
  simp only[eZ]at a;obtain⟨vs,f,k⟩:=Cm d e o a.1;obtain⟨c,h,i⟩:=rK d r (o+e.length) a.2;have m:=hy _ _ f;refine⟨vs++c,by simp only[List.flatten_cons];exact(gy _ _ _).2 ⟨vs,c,rfl,f,h⟩,λj v l=>?_⟩;rcases Nat.lt_or_ge j vs.length with g|g
  .grind
  .grind
def u7{I:aZ}:∀(cs:List H) (vs:cR),cs.all H.one=true->bJ I cs vs->∀v∈vs,v.oneCell'=true:=λcs vs a b=>
 zS (β:=λ_=>undef) cs vs a (bJ.rep _ cs vs b)
section ops
variable {G:bG}{o:Oper}{ev:Operand->H}{σ:U}
variable {P:Program}{w:World}
def iX{o:Oper}{s x:Operand}{t:Nat}{a:Operand->Value}{w':World}{b:Value}(h:o.op=.call ⟨.builtin .append,#[s,x],#[t,t]⟩)(c:(Builtin.append_ #[t,t] o.type #[a s,a x]).run P w=.ok b w'):
  (execOp a o).run P w=.ok (.value b) w':=by
 simp[execOp,h,resolve,invoke,builtin,c]
theorem JI{α:Type}(L news:List α)(n j:Nat)(a:j<n)(b:n<=L.length):(L.take n++news++L.drop (n+news.length))[j]?=L[j]?:=by grind
theorem D.append{s x:Operand}{T E sz bytes d d2 aQ k:Nat}{f bN:Bool}{xs ys:List (List H)}(h:o.op=.call ⟨.builtin .append,#[s,x],#[T,T]⟩)(bV:ev s=.own d)(hd:σ.get d=some (.slice aQ sz xs k bN))(q:eX σ (ev x) (.bn f ys))(an:wR G.P T E sz bytes)(b4:aQ=E)
  (a1:∀e∈ys,e.length=sz) (cG:ys.flatten.all H.one=true) (ba:(xs.length+ys.length)*bytes<=140737488355328) (bB:xs.length+ys.length<=maxLen) (hi:G.ids.contains d2=false)
  (b3:(σ.minus [d]).clean [d2].contains=true) :
  eB G o ev σ [d,d2] [d2] (λr aq=>r=.own d2/\aq=(d2,.slice aQ sz (xs++ys) k false)::σ.minus [d]):=by
 subst b4;intro cx I β w a8 C a9;have S:=a9 s (by simp[h,Op.operands,Call.operands]);rw[bV]at S;simp only[au]at S;obtain⟨S,bp⟩:=S;have ab:=q.rep C _ (a9 x (by simp[h,Op.operands,Call.operands]));simp only[au,aS]at ab;obtain⟨a,c,ab,cN,cQ,_,ca⟩:=ab;obtain⟨i,z,ar,bs,am,bz,cu⟩:=an.info;have ce:∃u:cR,bJ I ys.flatten u/\(ys.length=0\/∃ad:Addr,a=some ad/\∀j aD,u[j]?=some aD->w.cell? (ad.add j)=some aD):=by
  rcases ca with rfl|⟨b,o,rfl,ae⟩
  .exact⟨[],rfl,.inl rfl⟩
  .obtain⟨vs,ai,aC⟩:=rK C.good ys o ae;exact⟨vs,ai,.inr ⟨_,rfl,λj aD cJ=>by rw[g5];exact aC j aD cJ⟩⟩
 obtain⟨u,aI,aX⟩:=ce;have Z:u.length=ys.length*sz:=by rw[hy _ _ aI];exact l0 ys a1
 have cp:=u7 _ _ cG aI;have aW:xs.length+ys.length<=9223372036854775807:=by simp only[maxLen]at bB;omega
 have bu:bx G cx I β (σ.minus [d]) w:=C.sub λx aj q=>by rw[atE]at q;split at q<;>first|cases q|exact q
 have b2:=bu.mq (cA:=[d2]) (σ2:=(d2,.slice aQ sz (xs++ys) k false)::σ.minus [d]) (env:=[]) ⟨λx q=>by rw[atw,if_neg (λe=>q (by simp[e]))],λx q=>by simp at q;subst q;simpa using hi,rfl,b3,λx q cX n h=>by simp at q;subst q;rw[atw,if_pos rfl]at h;cases h⟩;have br:∀x,x≠d2->fo β [d2] x=β x:=λx q=>by simp[fo,q]
 have aw:∀(X:Value) (w':World) (b:Nat),(execOp a8 o).run G.P w=.ok (.value X) w'->fl X=true->eD w w' b->Place cx b->(∀x,((σ.minus [d]).get x).isSome->b∉cb (β x))->
   (∀(o:Nat) v,I b o=some v->w'.cell? ⟨b,o,none⟩=some v)->I b none=none->(bK X=some b\/cb X=[])->bc cx I (e4 β d2 X) w' d2 (.slice aQ sz (xs++ys) k false)->
   hc G.P (λv w'=>∃(bI:H) (aq:U) (aT:aZ) (a7:Nat->Value),(bI=.own d2/\aq=(d2,bY.slice aQ sz (xs++ys) k false)::σ.minus [d])/\au aT a7 bI v/\bx G cx aT a7 aq w'/\bQ I aT/\(∀x,x∉[d2]->a7 x=β x)/\(∀x,x∉[d,d2]->aq.get x=σ.get x)) ((execOp a8 o).run G.P w):=by
  intro X w' b b1 ey ax bX cS cn ct ak cK;rw[b1];refine⟨.own d2,_,I,e4 β d2 X,⟨rfl,rfl⟩,by simp only[au,eH,ey,and_self],?_,bQ.refl I,λx q=>e0 β X (by simpa using q),λx q=>?_⟩
  .refine b2.turn (d:=d2) ax bX (λ_ _=>rfl) (λx q aW e=>?_) (bQ.refl I) (λ_ _ _=>rfl) cn ct (λx q=>by rw[e0 β X q,br x q]) (.inl (by simpa using hi)) (λx=>?_) (by rw[eH];exact ak) (λaj cm=>?_)
   .rw[atw,if_neg (Ne.symm q)]at aW
    grind
   .by_cases q:x=d2
    .left;simp[fo,q]
    .right;rw[e0 β X q,br x q]
   .rw[atw,if_pos rfl]at cm
    grind
  .have q:x≠d/\x≠d2:=by simpa using q
   rw[atw,if_neg (Ne.symm q.2),atE,if_neg (by simpa using q.1)]
 have bv:∀b,bK (β d)=some b->∀x,((σ.minus [d]).get x).isSome->b∉cb (β x):=λb ak x q e=>by
  rw[atE]at q;split at q
  .cases q
  .rename_i b8;exact C.cq x d q (by rw[hd];rfl) (by simpa using b8) b e (g4 ak)
 have a4:∀x,((σ.minus [d]).get x).isSome->w.heap.size∉cb (β x):=λx q e=>by
  obtain⟨aj,q⟩:=Option.isSome_iff_exists.1 q;exact absurd (bu.nr q e) (by omega)
 have a6:I w.heap.size none=none:=C.gu (Nat.le_refl _) none;have a5:∀(w':World) (o:Nat) v,I w.heap.size o=some v->w'.cell? ⟨w.heap.size,o,none⟩=some v:=λw' o v O=>by rw[C.gu (Nat.le_refl _)]at O;cases O
 have bC:∀old,old<xs.length+ys.length->xs.length+ys.length<=grownCap w (xs.length+ys.length) old aQ/\grownCap w (xs.length+ys.length) old aQ<=maxLen:=λold _=>⟨grownCap_ge _ _ _ _,grownCap_le_maxLen _ _ _ _ bB⟩
 have bE:∀(ah:cR) (aM:Nat),bJ I xs.flatten ah->ah.length=xs.length*sz->(∀e∈xs,e.length=sz)->k<=xs.length->xs.length+ys.length<=aM->aM<=maxLen->
   bc cx I (e4 β d2 (.slice (some ⟨w.heap.size,0,none⟩) (xs.length+ys.length) aM)) (w.drew.alloc (.cells (ah.toArray++u.toArray++Builtin.zeroCells z.cells (aM-(xs.length+ys.length))) aQ)) d2 (.slice aQ sz (xs++ys) k false):=by
  intro ah aM b7 bt cw cT ci cv;simp only[bc,eH];have bh:(ah++u).length=(xs++ys).length*sz:=by rw[List.length_append,List.length_append,bt,Z,Nat.add_mul]
  refine .inr (.inr ⟨w.heap.size,aM,_,by rw[List.length_append],by rw[List.length_append];exact ci,cv,heap_alloc_new w.drew _,?_,?_,?_,by rw[List.length_append];omega,by simp,λo _=>C.gu (Nat.le_refl _) o,.inl C.size⟩)
  .simp only[Array.size_append,List.size_toArray,size_zeroCells,cu,bt,Z,<-Nat.add_mul];congr 1;omega
  .have:(ah.toArray++u.toArray++Builtin.zeroCells z.cells (aM-(xs.length+ys.length))).toList.take ((xs++ys).length*sz)=ah++u:=by grind
   rw[this,List.flatten_append];exact(gy _ _ _).2 ⟨_,_,rfl,b7,aI⟩
  .intro e Q;rcases List.mem_append.1 Q with Q|Q
   .exact cw e Q
   .exact a1 e Q
 have bD:∀aj,eD w (w.drew.alloc aj) w.heap.size:=λaj=>(eD.alloc w.drew aj).drew;have bb:=C.bO d _ hd;simp only[bc]at bb;rcases bb with aJ|⟨aJ,rfl,rfl⟩|⟨b,aM,arr,ai,aC,bT,Y,bl,bj,bi,bq,cP,bo,aV⟩
 .rw[aJ]at S;rw[S]at bp;simp[fl]at bp
 ·
  rcases Nat.eq_zero_or_pos ys.length with af|af
  .have aU:ys=[]:=List.eq_nil_of_length_eq_zero af;subst aU;refine aw (.slice none 0 0) w w.heap.size (iX h ?_) rfl ⟨λ_ _ _=>rfl,Nat.le_refl _,rfl,rfl,rfl,Nat.le_refl _⟩ (.inl C.size) a4 (a5 w) a6 (.inr rfl) ?_
   .rw[S,ab,aJ];cases a<;>simp[Builtin.append_,run_underlying an.en,Go.sizeOf,typeInfo,ar,Builtin.lenOf,Builtin.firstCells,loadCells,loadCellsFrom]
   .simp only[bc,eH];exact .inr (.inl ⟨trivial,rfl,trivial⟩)
  .obtain⟨ad,rfl,av⟩:=aX.resolve_left (by omega);have ae:=run_append_nil (P:=G.P) w T o.type aQ i z an.en ar bs ad ys.length c u (by rw[am];exact Z) av af (by simp at aW;omega) (by simp at ba;rw[bz];omega);obtain⟨aG,aF⟩:=bC 0 (by simp;exact af);simp only[List.length_nil,Nat.zero_add]at aG aF;refine aw _ _ w.heap.size (iX h (by rw[S,ab,aJ];exact ae)) rfl (bD _) (.inl C.size) a4 (a5 _) a6 (.inl rfl) ?_;have:=bE [] (grownCap w ys.length 0 aQ) rfl (by simp) (by simp) (Nat.le_refl _) (by simpa using aG) aF;simpa using this
 .have ak:bK (β d)=some b:=by rw[ai];rfl
  have cO:=fv Y;have a0:arr.toList.length=aM*sz:=by simpa using bl
  have a3:xs.length*sz<=arr.toList.length:=by rw[a0];exact Nat.mul_le_mul_right _ aC
  have cC:∀(o:Nat) v,I b o=some v->o<xs.length*sz:=λo v O=>by
   rcases Nat.lt_or_ge o (k*sz)with ax|ax
   .exact Nat.lt_of_lt_of_le ax (Nat.mul_le_mul_right _ bq)
   .rw[bo o ax]at O;cases O
  by_cases aH:xs.length+ys.length<=aM
  ·
   have bh:(arr.toList.take (xs.length*sz)++u).length=(xs++ys).length*sz:=by rw[List.length_append,List.length_take,Nat.min_eq_left a3,List.length_append,Z,Nat.add_mul]
   have bM:∀(w':World) (ao:fz),w'.heap[b]?=some (.cells ao aQ (0,0))->ao.toList=arr.toList.take (xs.length*sz)++u++arr.toList.drop (xs.length*sz+u.length)->
     bc cx I (e4 β d2 (.slice (some ⟨b,0,none⟩) (xs.length+ys.length) aM)) w' d2 (.slice aQ sz (xs++ys) k false):=by
    intro w' ao b0 Q;simp only[bc,eH];refine .inr (.inr ⟨b,aM,ao,by rw[List.length_append],by rw[List.length_append];exact aH,bT,b0,?_,?_,?_,by rw[List.length_append];omega,by simp,bo,aV⟩)
    .have cW:xs.length*sz+u.length<=arr.toList.length:=by rw[Z,<-Nat.add_mul,a0];exact Nat.mul_le_mul_right _ aH
     have cy:ao.size=ao.toList.length:=by simp
     rw[cy,Q,<-a0];simp only[List.length_append,List.length_take,List.length_drop];omega
    .rw[Q,<-bh,List.take_left,List.flatten_append];exact(gy _ _ _).2 ⟨_,_,rfl,bj,aI⟩
    .intro e Q;rcases List.mem_append.1 Q with Q|Q
     .exact bi e Q
     .exact a1 e Q
   rcases Nat.eq_zero_or_pos ys.length with af|af
   .have aU:ys=[]:=List.eq_nil_of_length_eq_zero af;subst aU;have cD:u=[]:=List.eq_nil_of_length_eq_zero (by simpa using Z);subst cD;refine aw (.slice (some ⟨b,0,none⟩) xs.length aM) w b (iX h ?_) rfl ⟨λ_ _ _=>rfl,Nat.le_refl _,rfl,rfl,rfl,Nat.le_refl _⟩ aV (bv b ak) (λo v O=>C.good b o v O) (C.k3 Y) (.inl rfl) ?_
    .rw[S,ab,ai];cases a<;>simp[Builtin.append_,run_underlying an.en,Go.sizeOf,typeInfo,ar,Builtin.lenOf,Builtin.firstCells,loadCells,loadCellsFrom,aC,storeCells]
    .have:=bM w arr Y (by simp);simpa using this
   .obtain⟨ad,rfl,av⟩:=aX.resolve_left (by omega);have cd:xs.length*i.size+u.length<=arr.size:=by rw[am,Z,bl,<-Nat.add_mul];exact Nat.mul_le_mul_right _ aH
    have ae:=run_append_room (P:=G.P) w T o.type aQ i an.en ar b xs.length aM arr Y ad ys.length c u (by rw[am];exact Z) av cp aH cd;rw[am]at ae;refine aw _ _ b (iX h (by rw[S,ab,ai];exact ae)) rfl (eD.setRow w b _) aV (bv b ak) (λo v O=>?_) (C.k3 Y) (.inl rfl) (bM _ _ (setRow_heap w b arr _ aQ _ Y) rfl);have aE:=C.good b o v O;simp only[World.cell?,Y]at aE;simp only[World.cell?,setRow_heap w b arr _ aQ _ Y];have aE:arr.toList[o]?=some v:=by simpa using aE
    have:=JI arr.toList u (xs.length*sz) o (cC o v O) a3;rw[aE]at this;simpa using this
  ·
   have af:0<ys.length:=by omega
   obtain⟨ad,rfl,av⟩:=aX.resolve_left (by omega);have bA:(arr.toList.take (xs.length*sz)).length=xs.length*sz:=by rw[List.length_take,Nat.min_eq_left a3]
   have cj:∀j v,(arr.toList.take (xs.length*sz))[j]?=some v->w.cell? ((⟨b,0,none⟩:Addr).add j)=some v:=λj v O=>by
    rw[g5];rw[List.getElem?_take]at O;split at O
    .simp only[World.cell?,Y,Nat.zero_add];simpa using O
    .cases O
   have ae:=run_append_grow (P:=G.P) w T o.type aQ i z an.en ar bs ⟨b,0,none⟩ xs.length aM _ (by rw[am];exact bA) cj ad ys.length c u (by rw[am];exact Z) av (by omega) (by omega) (growslice_fits (by omega) (by rw[bz];exact ba));obtain⟨aG,aF⟩:=bC aM (by omega);exact aw _ _ w.heap.size (iX h (by rw[S,ab,ai];exact ae)) rfl (bD _) (.inl C.size) a4 (a5 _) a6 (.inl rfl) (bE _ _ bj bA bi bq aG aF)
theorem auK{s x:Operand}{T E sz bytes d2:Nat}{f:Bool}{xs ys:List (List H)}(h:o.op=.call ⟨.builtin .append,#[s,x],#[T,T]⟩)(F:(ev s=.az/\xs=[])\/(ev s=.bn true xs/\0<ys.length))(a:eX σ (ev x) (.bn f ys))(A:wR G.P T E sz bytes)
  (aG:∀e∈xs,e.length=sz) (aE:∀e∈ys,e.length=sz) (bz:ys.flatten.all H.one=true) (R:(xs.length+ys.length)*bytes<=140737488355328) (aF:xs.length+ys.length<=maxLen) (hi:G.ids.contains d2=false)
  (a3:σ.clean [d2].contains=true) :
  eB G o ev σ [d2] [d2] (λr I=>r=.own d2/\I=(d2,.slice E sz (xs++ys) 0 false)::σ):=by
 intro ak g n w an j ao;have c:=ao s (by simp[h,Op.operands,Call.operands]);have p:=a.rep j _ (ao x (by simp[h,Op.operands,Call.operands]));simp only[au,aS]at p;obtain⟨aC,Z,p,br,bs,_,a6⟩:=p;obtain⟨ab,C,L,V,K,W,ba⟩:=A.info;have a7:∃b:cR,bJ g ys.flatten b/\(ys.length=0\/∃u:Addr,aC=some u/\∀B Q,b[B]?=some Q->w.cell? (u.add B)=some Q):=by
  rcases a6 with rfl|⟨aH,o,rfl,i⟩
  .exact⟨[],rfl,.inl rfl⟩
  .obtain⟨bo,aQ,aT⟩:=rK j.good ys o i;exact⟨bo,aQ,.inr ⟨_,rfl,λB Q bl=>by rw[g5];exact aT B Q bl⟩⟩
 obtain⟨b,ax,aw⟩:=a7;have z:b.length=ys.length*sz:=by rw[hy _ _ ax];exact l0 ys aE
 have J:xs.length+ys.length<=9223372036854775807:=by simp only[maxLen]at aF;omega
 have a1:=j.mq (cA:=[d2]) (σ2:=(d2,.slice E sz (xs++ys) 0 false)::σ) (env:=[]) ⟨λx a=>by rw[atw,if_neg (λe=>a (by simp[e]))],λx a=>by simp at a;subst a;simpa using hi,rfl,a3,λx a bv bA h=>by simp at a;subst a;rw[atw,if_pos rfl]at h;cases h⟩;have aq:∀x,x≠d2->fo n [d2] x=n x:=λx a=>by simp[fo,a]
 have bu:∀x,(σ.get x).isSome->w.heap.size∉cb (n x):=λx a e=>by
  obtain⟨D,a⟩:=Option.isSome_iff_exists.1 a;exact absurd (j.nr a e) (by omega)
 have bi:g w.heap.size none=none:=j.gu (Nat.le_refl _) none;have bh:∀(m:World) (o:Nat) y,g w.heap.size o=some y->m.cell? ⟨w.heap.size,o,none⟩=some y:=λm o y S=>by rw[j.gu (Nat.le_refl _)]at S;cases S
 have N:∀(k:Value) (m:World),(execOp an o).run G.P w=.ok (.value k) m->fl k=true->eD w m w.heap.size->(bK k=some w.heap.size\/cb k=[])->bc ak g (e4 n d2 k) m d2 (.slice E sz (xs++ys) 0 false)->
   hc G.P (λy m=>∃(aI:H) (I:U) (af:aZ) (am:Nat->Value),(aI=.own d2/\I=(d2,bY.slice E sz (xs++ys) 0 false)::σ)/\au af am aI y/\bx G ak af am I m/\bQ g af/\(∀x,x∉[d2]->am x=n x)/\(∀x,x∉[d2]->I.get x=σ.get x)) ((execOp an o).run G.P w):=by
  intro k m aX ey bj aV bp;rw[aX];refine⟨.own d2,_,g,e4 n d2 k,⟨rfl,rfl⟩,by simp only[au,eH,ey,and_self],?_,bQ.refl g,λx a=>e0 n k (by simpa using a),λx a=>?_⟩
  .refine a1.turn (d:=d2) bj (.inl j.size) (λ_ _=>rfl) (λx a J e=>?_) (bQ.refl g) (λ_ _ _=>rfl) (bh m) bi (λx a=>by rw[e0 n k a,aq x a]) (.inl (by simpa using hi)) (λx=>?_) (by rw[eH];exact aV) (λD a9=>?_)
   .rw[atw,if_neg (Ne.symm a)]at J
    grind
   .by_cases a:x=d2
    .left;simp[fo,a]
    .right;rw[e0 n k a,aq x a]
   .rw[atw,if_pos rfl]at a9
    grind
  .have a:x≠d2:=by simpa using a
   rw[atw,if_neg (Ne.symm a)]
 have aj:∀ae,ae<xs.length+ys.length->xs.length+ys.length<=grownCap w (xs.length+ys.length) ae E/\grownCap w (xs.length+ys.length) ae E<=maxLen:=λae _=>⟨grownCap_ge _ _ _ _,grownCap_le_maxLen _ _ _ _ aF⟩
 have Y:∀(l:cR) (aM:Nat),bJ g xs.flatten l->l.length=xs.length*sz->xs.length+ys.length<=aM->aM<=maxLen->
   bc ak g (e4 n d2 (.slice (some ⟨w.heap.size,0,none⟩) (xs.length+ys.length) aM)) (w.drew.alloc (.cells (l.toArray++b.toArray++Builtin.zeroCells C.cells (aM-(xs.length+ys.length))) E)) d2 (.slice E sz (xs++ys) 0 false):=by
  intro l aM a4 av a8 bb;simp only[bc,eH];have bq:(l++b).length=(xs++ys).length*sz:=by rw[List.length_append,List.length_append,av,z,Nat.add_mul]
  refine .inr (.inr ⟨w.heap.size,aM,_,by rw[List.length_append],by rw[List.length_append];exact a8,bb,heap_alloc_new w.drew _,?_,?_,?_,by omega,by simp,λo _=>j.gu (Nat.le_refl _) o,.inl j.size⟩)
  .simp only[Array.size_append,List.size_toArray,size_zeroCells,ba,av,z,<-Nat.add_mul];congr 1;omega
  .have:(l.toArray++b.toArray++Builtin.zeroCells C.cells (aM-(xs.length+ys.length))).toList.take ((xs++ys).length*sz)=l++b:=by grind
   rw[this,List.flatten_append];exact(gy _ _ _).2 ⟨_,_,rfl,a4,ax⟩
  .intro e O;rcases List.mem_append.1 O with O|O
   .exact aG e O
   .exact aE e O
 have X:∀D,eD w (w.drew.alloc D) w.heap.size:=λD=>(eD.alloc w.drew D).drew;rcases F with⟨F,rfl⟩|⟨F,v⟩
 .rw[F]at c;simp only[au,aS]at c;rcases Nat.eq_zero_or_pos ys.length with v|v
  .have aU:ys=[]:=List.eq_nil_of_length_eq_zero v;subst aU;refine N (.slice none 0 0) w (iX h ?_) rfl ⟨λ_ _ _=>rfl,Nat.le_refl _,rfl,rfl,rfl,Nat.le_refl _⟩ (.inr rfl) ?_
   .rw[c,p];cases aC<;>simp[Builtin.append_,run_underlying A.en,Go.sizeOf,typeInfo,L,Builtin.lenOf,Builtin.firstCells,loadCells,loadCellsFrom]
   .simp only[bc,eH];exact .inr (.inl ⟨trivial,rfl,trivial⟩)
  .obtain⟨u,rfl,M⟩:=aw.resolve_left (by omega);have i:=run_append_nil (P:=G.P) w T o.type E ab C A.en L V u ys.length Z b (by rw[K];exact z) M v (by simp at J;omega) (by simp at R;rw[W];omega);obtain⟨t,q⟩:=aj 0 (by simp;exact v);simp only[List.length_nil,Nat.zero_add]at t q;refine N _ _ (iX h (by rw[c,p];exact i)) rfl (X _) (.inl rfl) ?_;have:=Y [] (grownCap w ys.length 0 E) rfl (by simp) (by simpa using t) q;simpa using this
 .rw[F]at c;simp only[au,aS]at c;obtain⟨a5,bt,c,_,_,ai,ah⟩:=c;have ai:=ai trivial;subst ai;obtain⟨u,rfl,M⟩:=aw.resolve_left (by omega);rcases ah with rfl|⟨aH,aJ,rfl,ah⟩
  ·
   obtain⟨t,q⟩:=aj 0 (by simp;exact v);simp only[List.length_nil,Nat.zero_add]at t q;cases a5 with
   |none=>
    have i:=run_append_nil (P:=G.P) w T o.type E ab C A.en L V u ys.length Z b (by rw[K];exact z) M v (by simp at J;omega) (by simp at R;rw[W];omega);refine N _ _ (iX h (by rw[c,p];exact i)) rfl (X _) (.inl rfl) ?_;have:=Y [] (grownCap w ys.length 0 E) rfl (by simp) (by simpa using t) q;simpa using this
   |some a0=>
    have i:=run_append_grow (P:=G.P) w T o.type E ab C A.en L V a0 0 0 [] (by simp) (by simp) u ys.length Z b (by rw[K];exact z) M (by omega) (by simp at J;omega) (growslice_fits (by omega) (by rw[W];simpa using R));simp only[Nat.zero_add]at i;refine N _ _ (iX h (by rw[c,p];exact i)) rfl (X _) (.inl rfl) ?_;have:=Y [] (grownCap w ys.length 0 E) rfl (by simp) (by simpa using t) q;simpa using this
  .obtain⟨l,ar,aW⟩:=rK j.good xs aJ ah;have aD:l.length=xs.length*sz:=by rw[hy _ _ ar];exact l0 xs aG
   have i:=run_append_grow (P:=G.P) w T o.type E ab C A.en L V ⟨aH,aJ,none⟩ xs.length xs.length l (by rw[K];exact aD) (λB y S=>by rw[g5];exact aW B y S) u ys.length Z b (by rw[K];exact z) M (by omega) (by omega) (growslice_fits (by omega) (by rw[W];exact R));obtain⟨t,q⟩:=aj xs.length (by omega);exact N _ _ (iX h (by rw[c,p];exact i)) rfl (X _) (.inl rfl) (Y _ _ ar aD t q)
def bC.makeFunc{f:FuncId}{aM:Array Operand}(h:o.op=.makeFunc (.func f) #[] aM):Yields G o ev σ [] [] (.fn f (aM.toList.map ev)):=
 .pure λQ cx I β w q S O u=>by
  refine⟨.func (.func f) #[] (aM.map q),by simp[execOp,h,Instr.makeFunc],?_⟩;simp only[au];exact⟨_,rfl,by simpa using pZ ev q aM.toList λx C=>u x (by simp only[h,Op.operands];simpa using C)⟩
structure qy(P:Program)(T f off n:Nat)(bU:Bool):Prop where
 run:∀(cs:fz) w,off+n<=cs.size->(Instr.field T (.agg cs) f).run P w=.ok (if bU then .agg (cs.extract off (off+n))else cs.getD off undef) w
 pos:bU=false->n=1
def bC.field{T f off n:Nat}{bU:Bool}{x:Operand}{cs:List H}(h:o.op=.field T x f)(X:ev x=.agg cs)(O:qy G.P T f off n bU)(Q:Nat.ble (off+n) cs.length=true):Yields G o ev σ [] [] (hF bU n (cs.drop off)):=
 .pure λah cx I β w ae aj af S=>by
  have q:=S x (by simp[h,Op.operands]);rw[X]at q
  simp only[au]at q;obtain⟨vs,q,u⟩:=q;have Y:=j9 _ _ u;simp only[Array.length_toList]at Y;have Q:off+n<=cs.length:=by simpa using Q
  have hd:=rX off _ _ u;refine⟨_,by simp only[execOp,h,q,Sem.run_bind,O.run vs w (by omega),Result.andThen_ok,Sem.run_pure];rfl,?_⟩;cases bU with
  |true=>
   simp only[hF,cond_true,if_true,au];refine⟨_,rfl,?_⟩;have:=rY n _ _ hd;simpa [Array.toList_extract,List.extract_eq_take_drop]using this
  |false=>
   simp only[hF,cond_false,Bool.false_eq_true,if_false];have ai:=O.pos rfl;have C:off<vs.size:=by omega
   have e:vs.toList.drop off=vs[off]::vs.toList.drop (off+1):=by rw[List.drop_eq_getElem_cons (by simpa using C)];simp
   rw[e]at hd;rw[Array.getD_eq_getD_getElem?,Array.getElem?_eq_getElem C];generalize cs.drop off=b9 at hd;cases b9 with
   |nil=>simp[au]
   |cons y r=>
    simp only[br]at hd;obtain⟨ab,Z,e,hd,_⟩:=hd;cases e;exact hd
def yw{I:aZ}{b sz:Nat}:∀(l:Nat) (xs:List (List H)) (o:Nat),(∀e∈xs,e.length=sz)->eZ I b xs o->eZ I b (xs.drop l) (o+l*sz)
 |0,xs,o,_,h=>by simpa using h
 |l+1,[],o,_,_=>by simp[eZ]
 |l+1,e::r,o,a,h=>by
  simp only[eZ]at h;have d:=a e (by simp);have:=yw l r (o+e.length) (λf c=>a f (by simp[c])) h.2;rw[d]at this;rw[Nat.add_mul,Nat.one_mul];simpa [Nat.add_assoc,Nat.add_comm sz]using this
def Cg{I:aZ}{b:Nat}:∀(h:Nat) (xs:List (List H)) (o:Nat),eZ I b xs o->eZ I b (xs.take h) o
 |0,_,_,_=>by simp[eZ]
 |h+1,[],_,_=>by simp[eZ]
 |h+1,e::r,o,a=>by
  simp only[eZ,List.take_succ_cons]at a ⊢;exact⟨a.1,Cg h r _ a.2⟩
def run_sliceBound{k:IntKind}{n:Int}{y:Nat}{code:BoundsCode}(h:0<=n/\n<=(y:Int)):(Instr.sliceBound (.int k n) y code).run P w=.ok n.toNat w:=by
 unfold Instr.sliceBound;simp only[asIntOf,Sem.run_bind,Sem.run_pure,Result.andThen_ok];rw[if_pos h];rfl
def hg(ev:Operand->H):Option Operand->Int|none=>0|some x=>match ev x with|.int _ n=>n|_=>-1
def kO(ev:Operand->H)(len:Nat):Option Operand->Int|none=>len|some x=>match ev x with|.int _ n=>n|_=>-1
def oN{I:aZ}{β:Nat->Value}{a:Operand->Value}{x:Operand}(h:∃k n,ev x=.int k n)(b:au I β (ev x) (a x)):∃k n,ev x=.int k n/\a x=.int k n:=by
 obtain⟨k,n,h⟩:=h;rw[h]at b;exact⟨k,n,h,fB b⟩
def oy(ev:Operand->H):Option Operand->Prop|none=>True|some x=>∃k n,ev x=.int k n
theorem bC.slice{T E sz:Nat}{x:Operand}{f:Bool}{lo hi:Option Operand}{xs:List (List H)}(h:o.op=.slice T x lo hi none)(aG:eX σ (ev x) (.bn f xs))(af:iU G.P T E sz)(ao:∀e∈xs,e.length=sz)(ak:oy ev lo)(aw:oy ev hi)
  (eK:0<=hg ev lo/\hg ev lo<=kO ev xs.length hi/\kO ev xs.length hi<=xs.length) (R:cr) (aq:∀Q:U,(∀d∈R,Q.get d=σ.get d)->eX Q (ev x) (.bn f xs)) :
  Yields G o ev σ [] R (.bn false ((xs.take (kO ev xs.length hi).toNat).drop (hg ev lo).toNat)):=
 .pure λQ cx I β w ab aC an O=>by
  have S:=(aq Q aC).rep an _ (O x (by simp[h,Op.operands]));simp only[au,aS]at S;obtain⟨a,c,S,aH,aI,_,Z⟩:=S;generalize u:hg ev lo=l at eK ⊢;generalize C:kO ev xs.length hi=q at eK ⊢;have aD:(Instr.sliceBounds true xs.length c (lo.map ab) (hi.map ab) none).run G.P w=.ok (l.toNat,q.toNat,c) w:=by
   have aF:0<=q/\q<=(c:Int):=by omega
   have ai:0<=l/\l<=(q.toNat:Int):=by omega
   cases hi with
   |none=>
    simp only[kO]at C;subst C;cases lo with
    |none=>
     simp only[hg]at u;subst u;simp[Instr.sliceBounds]
    |some y=>
     obtain⟨k,n,X,Y⟩:=oN ak (O y (by simp[h,Op.operands]));simp only[hg,X]at u;subst u;have:=run_sliceBound (P:=G.P) (k:=k) (code:=.sliceB) (w:=w) ai;simp only[Int.toNat_natCast]at this;simp[Instr.sliceBounds,Y,this]
   |some z=>
    obtain⟨ax,nz,av,ah⟩:=oN aw (O z (by simp[h,Op.operands]));simp only[kO,av]at C;subst C;have ae:=run_sliceBound (P:=G.P) (k:=ax) (code:=.sliceAcap) (w:=w) aF;cases lo with
    |none=>
     simp only[hg]at u;subst u;simp[Instr.sliceBounds,ah,ae]
    |some y=>
     obtain⟨k,n,X,Y⟩:=oN ak (O y (by simp[h,Op.operands]));simp only[hg,X]at u;subst u;have:=run_sliceBound (P:=G.P) (k:=k) (code:=.sliceB) (w:=w) ai;simp[Instr.sliceBounds,ah,ae,Y,this]
  have ar:(execOp ab o).run G.P w=.ok (.value (.slice (if c=l.toNat then a else a.map (·.add (l.toNat*sz))) (q.toNat-l.toNat) (c-l.toNat))) w:=by
   have aE:∀w,(underlying T).run G.P w=.ok (.slice E) w:=λw=>run_underlying af.en w;simp only[execOp,h,Instr.sliceAt,Instr.slice,S,Sem.run_bind,aE,Result.andThen_ok,aD,af.size,Sem.run_pure,Option.map_none]
  refine⟨_,ar,?_⟩;simp only[au,aS];have aj:((xs.take q.toNat).drop l.toNat).length=q.toNat-l.toNat:=by rw[List.length_drop,List.length_take];omega
  refine⟨_,c-l.toNat,by rw[aj],by rw[aj];omega,by omega,by simp,?_⟩;by_cases am:(xs.take q.toNat).drop l.toNat=[]
  .exact .inl am
  .right;have aJ:l.toNat<q.toNat:=by grind
   rcases Z with rfl|⟨b,p,rfl,Z⟩
   .simp at am
   .refine⟨b,p+l.toNat*sz,?_,yw _ _ _ (λe C=>ao e (List.mem_of_mem_take C)) (Cg _ _ _ Z)⟩;rw[if_neg (by omega)];simp[g5]
end ops
end
end
end Go.Proofs.YteghoodgfjhjkaaGreat
namespace Go.Proofs.YteghoodgfjhjkaaGreat
set_option linter.all false
open Go
def ag.find:ag->Nat->Option H
 |[],_=>none
 |(k,v)::r,n=>bif Nat.beq k n then some v else ag.find r n
def atH:∀{env:ag} {t:Nat} {a:H},env.find t=some a->env.get t=a
 |[],_,_,h=>by simp[ag.find]at h
 |(k,v)::r,t,a,h=>by
  simp only[ag.find]at h;simp only[ag.get];cases b:Nat.beq k t<;>rw[b]at h
  .exact atH (env:=r) h
  .simpa using h
def ag.cc(env:ag):Operand->Option H
 |.tmp t=>env.find t
 |.const (.int k n)=>some (.int k n)
 |.const (.bool b)=>some (.bool b)
 |.const (.string s)=>some (.str s)
 |.const (.slice none 0 0)=>some .az
 |.const v=>some (gR v)
 |.func f=>some (.fn f [])
 |.global _=>none
def atu{env:ag}{x:Operand}{a:H}(h:env.cc x=some a):env.ev x=a:=by
 unfold ag.cc at h;split at h<;>first|exact atH h|(simp only[ag.ev,gR];simpa using h)|(simp only[ag.ev];simpa using h)|cases h
def ag.iT(env:ag):List Operand->Option (List H)
 |[]=>some []
 |x::r=>match env.cc x with
  |none=>none
  |some a=>match ag.iT env r with
   |none=>none
   |some l=>some (a::l)
def atZ{env:ag}:∀{xs:List Operand} {l:List H},env.iT xs=some l->xs.map env.ev=l
 |[],l,h=>by simpa [ag.iT]using h
 |x::r,l,h=>by
  simp only[ag.iT]at h;cases c:env.cc x with
  |none=>rw[c]at h;cases h
  |some a=>
   rw[c]at h;simp only at h;cases b:ag.iT env r with
   |none=>rw[b]at h;cases h
   |some d=>
    rw[b]at h;simp only[Option.some.injEq]at h;subst h;simp[atu c,atZ b]
def ag.lz(env:ag):List (Nat×Operand)->Option (List (Nat×H))
 |[]=>some []
 |(i,x)::r=>match env.cc x with
  |none=>none
  |some a=>match ag.lz env r with
   |none=>none
   |some l=>some ((i,a)::l)
def at0{env:ag}:∀{xs:List (Nat×Operand)} {l:List (Nat×H)},env.lz xs=some l->xs.map (λp=>(p.1,env.ev p.2))=l
 |[],l,h=>by simpa [ag.lz]using h
 |(i,x)::r,l,h=>by
  simp only[ag.lz]at h;cases c:env.cc x with
  |none=>rw[c]at h;cases h
  |some a=>
   rw[c]at h;simp only at h;cases b:ag.lz env r with
   |none=>rw[b]at h;cases h
   |some d=>
    rw[b]at h;simp only[Option.some.injEq]at h;subst h;simp[atu c,at0 b]
def el{α:Type}[Inhabited α](l:List α)(i:Int):α:=l.getD i.toNat default
def spine{α:Type}:List α->Option (List α)
 |[]=>some []
 |x::r=>match spine r with
  |none=>none
  |some l=>some (x::l)
def l4{α:Type}:∀{xs l:List α},spine xs=some l->xs=l
 |[],l,h=>by simpa [spine]using h
 |x::r,l,h=>by
  simp only[spine]at h;cases a:spine r with
  |none=>rw[a]at h;cases h
  |some b=>
   rw[a]at h;simp only[Option.some.injEq]at h;rw[<-h,l4 a]
def kA:H->Option (List H)
 |.agg cs=>spine cs
 |a=>some [a]
def rZ{a:H}{cs:List H}(h:kA a=some cs):g8 a=cs:=by
 unfold kA at h;split at h
 .exact l4 h
 .rename_i b;simp only[Option.some.injEq]at h;rw[<-h];cases a<;>first|rfl|exact absurd rfl (b _)
def iy(bU:Bool)(n:Nat)(cs:List H):Option H:=
 match bU with
 |true=>match spine (cs.take n)with
  |none=>none
  |some l=>some (.agg l)
 |false=>match cs with
  |[]=>none
  |x::_=>some x
def sG{bU:Bool}{n:Nat}{cs:List H}{a:H}(h:iy bU n cs=some a):hF bU n cs=a:=by
 cases bU with
 |true=>
  simp only[iy]at h;cases b:spine (cs.take n)with
  |none=>rw[b]at h;cases h
  |some l=>
   rw[b]at h;simp only[Option.some.injEq]at h;rw[<-h,<-l4 b];rfl
 |false=>
  cases cs with
  |nil=>simp[iy]at h
  |cons x r=>simp only[iy,Option.some.injEq]at h;rw[<-h];rfl
def qz(d:List (Nat×Nat))(c:List H):List (Nat×H)->Option (List H)
 |[]=>spine c
 |(i,a)::e=>match d[i]? with
  |none=>none
  |some (off,size)=>match kA a with
   |none=>none
   |some b=>bif Nat.beq b.length size&&Nat.ble (off+b.length) c.length&&a.flat then
     (match spine (e3 c off b)with
     |none=>none
     |some l=>qz d l e)else none
def Ep(c:List (Nat×Nat)):∀{parts:List (Nat×H)} {b out:List H},qz c b parts=some out->oA c b parts=some out
 |[],b,out,h=>by simp only[qz]at h;simp only[oA];rw[l4 h]
 |(i,a)::n,b,out,h=>by
  simp only[qz]at h;simp only[oA];cases j:c[i]? with
  |none=>rw[j]at h;cases h
  |some os=>
   obtain⟨k,m⟩:=os;rw[j]at h;simp only at h ⊢;cases e:kA a with
   |none=>rw[e]at h;cases h
   |some f=>
    rw[e]at h;simp only at h;rw[rZ e];cases g:(Nat.beq f.length m&&Nat.ble (k+f.length) b.length&&a.flat)with
    |false=>rw[g]at h;simp at h
    |true=>
     rw[g]at h;simp only[cond_true]at h ⊢;cases d:spine (e3 b k f)with
     |none=>rw[d]at h;cases h
     |some l=>
      rw[d]at h;simp only at h;rw[l4 d];exact Ep c h
def m7(sz:Nat):Nat->List (Nat×H)->Option (List (List H))
 |_,[]=>some []
 |k,(i,a)::r=>match kA a with
  |none=>none
  |some b=>bif Nat.beq i k&&Nat.beq b.length sz&&a.flat then
    (match m7 sz (k+1) r with
    |none=>none
    |some l=>some (b::l))else none
def uP(sz:Nat):∀{parts:List (Nat×H)} {k:Nat} {out:List (List H)},m7 sz k parts=some out->l8 sz k parts=some out
 |[],k,out,h=>by simpa [m7,l8]using h
 |(i,a)::r,k,out,h=>by
  simp only[m7]at h;simp only[l8];cases c:kA a with
  |none=>rw[c]at h;cases h
  |some e=>
   rw[c]at h;simp only at h;rw[rZ c];cases d:(Nat.beq i k&&Nat.beq e.length sz&&a.flat)with
   |false=>rw[d]at h;simp at h
   |true=>
    rw[d]at h;simp only[cond_true]at h ⊢;cases b:m7 sz (k+1) r with
    |none=>rw[b]at h;cases h
    |some l=>
     rw[b]at h;simp only[Option.some.injEq]at h;rw[uP sz b,<-h];rfl
def lB(σ:U):U->Prop
 |[]=>True
 |(d,o)::r=>σ.get d=some o/\lB σ r
def lB.mem{σ:U}:∀{σ2:U},lB σ σ2->∀p∈σ2,σ.get p.1=some p.2
 |[],_,p,h=>by simp at h
 |(d,o)::r,h,p,q=>by
  rcases List.mem_cons.1 q with rfl|q
  .exact h.1
  .exact lB.mem h.2 p q
def si(σ:U)(env:ag):ag->Prop
 |[]=>True
 |(k,v)::r=>eX σ (env.get k) v/\si σ env r
def si.mem{σ:U}{env:ag}:∀{cC:ag},si σ env cC->∀p∈cC,eX σ (env.get p.1) p.2
 |[],_,p,h=>by simp at h
 |(d,o)::r,h,p,q=>by
  rcases List.mem_cons.1 q with rfl|q
  .exact h.1
  .exact si.mem h.2 p q
section rules
variable {G:bG}{env:ag}{σ:U}{Q:Exit->ag->U->Prop}{x y c:Code}
def auy{cC:ag}{σ2:U}(b:si σ env cC)(a:lB σ σ2):cu G env σ cC σ2:=cu.drop b.mem a.mem
end rules
section steps
variable {G:bG}{ops:ia}{s:hv}{log:List (Nat×cr)}{i:Nat}{l:cr}{env:ag}{σ:U}{K:ag->U->Prop}{o:Oper}{bI:H}
end steps
section ops
variable {G:bG}{o:Oper}{env:ag}{σ:U}{a:H}
def bb.alloc{T d:Nat}{zs:cR}{cs:List H}(h:o.op=.alloc T)(hz:∀w,∃z,(zeroValue T).run G.P w=.ok z w/\z.cells=zs.toArray)(q:jb zs=cs)(hi:G.ids.contains d=false):
  Yields G o env.ev ((d,.cells T cs)::σ) [d] [d] (.ptr d 0):=by subst q;exact bC.alloc h hz hi
def bb.box{T d:Nat}{x:Operand}{cs:List H}(h:o.op=.box T x)(u:env.cc x=some a)(q:a.flat=true)(O:kA a=some cs)(C:a.refs (Nat.beq d)=false)(hi:G.ids.contains d=false):
  Yields G o env.ev ((d,.cells T cs)::σ) [d] [d] (.ptr d 0):=bC.box h (atu u) q (rZ O) C hi
variable {T:TypeId}{bU:Bool}
def avv{aQ:TypeId}{x:Operand}{n d p:Nat}{cs:List H}(h:o.op=.load T x)(b:env.ev x=.ptr d p)(c:fO G.P T n bU)(i:σ.get d=some (.cells aQ cs))(g:(bU||Nat.blt 0 n)=true)(e:Nat.ble (p+n) cs.length=true)(f:iy bU n (cs.drop p)=some a):
  Yields G o env.ev σ [] [d] a:=by rw[<-sG f];exact auj h b i c g e
def avs{x:Operand}{n:Nat}{cs:List H}(h:o.op=.load T x)(b:env.ev x=.dR cs)(c:fO G.P T n bU)(f:(bU||Nat.blt 0 n)=true)(d:Nat.ble n cs.length=true)(e:iy bU n cs=some a):
  Yields G o env.ev σ [] [] a:=by rw[<-sG e];exact auQ h b c f d
def bb.build{T:TypeId}{parts:Array (Nat×Operand)}{zs:cR}{dn:List (Nat×Nat)}{ps:List (Nat×H)}{cs:List H}(h:o.op=.build T parts)(C:s9 G.P T zs dn)(u:env.lz parts.toList=some ps)
  (q:qz dn (jb zs) ps=some cs):Yields G o env.ev σ [] [] (.agg cs):=bC.build h C (by rw[at0 u];exact Ep dn q)
def bb.makeFunc{f:FuncId}{aM:Array Operand}{l:List H}(h:o.op=.makeFunc (.func f) #[] aM)(q:env.iT aM.toList=some l):Yields G o env.ev σ [] [] (.fn f l):=by
 rw[<-atZ q];exact bC.makeFunc h
def bb.field{T f off n:Nat}{bU:Bool}{x:Operand}{cs:List H}(h:o.op=.field T x f)(q:env.ev x=.agg cs)(u:qy G.P T f off n bU)(C:Nat.ble (off+n) cs.length=true)(O:iy bU n (cs.drop off)=some a):Yields G o env.ev σ [] [] a:=by
 rw[<-sG O];exact bC.field h q u C
def bb.call{q:Operand}{args:Array Operand}{k:Array TypeId}{f:FuncId}{aM ch ps:List H}{σs b2:U}{r:H}(h:o.op=.call ⟨.value q,args,k⟩)(u:env.ev q=.fn f aM)
  (X:∀(args:fz) (w:World),(callFunc f args).run G.P w=.ok (.enter f args) w) (aH:bB G.P f b2 ch r) (Q:env.iT args.toList=some ps) (Z:hE σs (ps++aM) ch) (C:lB σ σs) (S:lB σs b2)
  (O:r.closed=true) (Y:b2.clean (λd=>!(b2.ids++[]).contains d)=true):Yields G o env.ev σ [] σs.ids r:=
 bC.call h u X C.mem (by rw[atZ Q];exact Z) S.mem aH O Y
def avt{a:Operand}{args:Array Operand}{k:Array TypeId}{f:FuncId}{aM b ps:List H}{b2:U}{Post:H->U->Prop}(news:cr)(h:o.op=.call ⟨.value a,args,k⟩)(c:env.ev a=.fn f aM)
  (m:∀(args:fz) (w:World),(callFunc f args).run G.P w=.ok (.enter f args) w) (aH:cp G.P f b2 b Post) (i:env.iT args.toList=some ps) (p:hE σ (ps++aM) b) (e:lB σ b2)
  (n:news.all (λd=>!G.ids.contains d&&(σ.get d).isNone)=true) (j:(σ.minus b2.ids).clean news.contains=true)
  (l:∀r σ2,Post r σ2->r.refs (λd=>!(b2.ids++news).contains d)=false/\σ2.clean (λd=>!(b2.ids++news).contains d)=true) :
  eB G o env.ev σ (b2.ids++news) news (λr g=>∃σ2,Post r σ2/\g=σ2++σ.minus b2.ids):=
 D.call news h c m e.mem (by rw[atZ i];exact p) aH n j l
def avu{T aQ d p n:Nat}{x y:Operand}{cs ca c:List H}(h:o.op=.store T x y)(f:env.ev x=.ptr d p)(k:fO G.P T n bU)(i:env.cc y=some a)(q:σ.get d=some (.cells aQ cs))
  (e:a.flat=true) (b:kA a=some ca) (l:Nat.beq ca.length n=true) (m:Nat.ble (p+n) cs.length=true) (g:spine (e3 cs p ca)=some c) :
  eB G o env.ev σ [d] [] (λr j=>r=.undef/\j=σ.set d (.cells aQ c)):=by
 rw[<-l4 g,<-rZ b];exact auo h f (atu i) q k.size e (by rw[rZ b];simpa using l) (by simpa using m)
def Aq{n:Int}(b : -9223372036854775808<=n)(a:n<=9223372036854775807):xq .i64 n:=by
 unfold xq;rw[IntKind.wrap_i64];omega
def y5.tmp{t:Nat}{a:H}(h:env.find t=some a):je G env σ (.tmp t) a:=by rw[<-atH h];exact .tmp t
def y5.cell{a T d aQ n:Nat}{bU:Bool}{cs:List H}{r:H}(u:fO G.P T n bU)(O:env.get a=.ptr d 0)(hd:σ.get d=some (.cells aQ cs))(C:Nat.beq cs.length n=true)(Q:(bU||Nat.blt 0 n)=true)(q:iy bU n cs=some r):je G env σ (.cell a T) r:=by
 rw[<-sG q];exact .cell a T d aQ n bU cs O hd u (by simpa using C) (λe=>by subst e;simpa using Q)
end ops
end Go.Proofs.YteghoodgfjhjkaaGreat
namespace Go.Proofs.YteghoodgfjhjkaaGreat
set_option linter.all false
open Go
def at3:∀σ:U,σ.freeze []=σ
 |[]=>rfl
 |(d,o)::r=>by simp[U.freeze,at3 r]
section
variable {G:bG}{env:ag}{σ Wd:U}{o:Oper}{ev:Operand->H}
def Mo{n:Int}(b:0<=n)(a:n<=18446744073709551615):xq .u64 n:=by
 unfold xq;simp only[IntKind.wrap,IntKind.bits,IntKind.signed];simp;omega
end
end Go.Proofs.YteghoodgfjhjkaaGreat
namespace Go.Proofs.YteghoodgfjhjkaaGreat
set_option linter.all false
open Go
def aB{α:Type}(l:List (Int×α))(n:Int):Option α:=(l.find? λa=>decide (a.1=n)).map (·.2)
def bM{α:Type}:List (Int×α)->Int->α->List (Int×α)
 |[],n,v=>[(n,v)]
 |p::r,n,v=>if p.1=n then(n,v)::r else p::bM r n v
def bo{α:Type}(k:IntKind)(enc:α->H)(l:List (Int×α)):List (H×H):=l.map λa=>(.int k a.1,enc a.2)
theorem Ch{I:aZ}{α:Type}{k:IntKind}{enc:α->H}(n:Int):∀(l:List (Int×α)) (es:iq) (i:Nat) (a:α),dI I (bo k enc l) es->aB l n=some a->
  ∃j v,Instr.findNow (.int k) (.int k n) es i=some (some (i+j,v))/\aS I (enc a) v/\∃e,es[j]?=some e/\e.key=.int k n/\
   ∀(b:α) (d:Value) (c:MapEntry->MapEntry),aS I (enc b) d->(∀e,(c e).key=.int k n/\(c e).val=d)->dI I (bo k enc (bM l n b)) (es.modify j c)
 |[],es,i,a,h,f=>by simp[aB]at f
 |(m,b)::r,es,i,a,h,f=>by
  simp only[bo,List.map_cons,dI]at h;obtain⟨e,s,rfl,g,t,u⟩:=h;simp only[aS]at g;by_cases p:m=n
  .subst p;simp only[aB,List.find?,decide_true,Option.map_some,Option.some.injEq]at f;subst f;refine⟨0,e.val,?_,t,e,rfl,g,?_⟩
   .simp[Instr.findNow,Instr.sameNow,g]
   .intro w d c q o;simp only[bM,if_pos,bo,List.map_cons,dI,List.modify_zero_cons];exact⟨c e,s,rfl,by simp only[aS];exact(o e).1,by rw[(o e).2];exact q,u⟩
  .have C:aB r n=some a:=by simpa [aB,List.find?,p]using f
   obtain⟨j,v,D,y,B,z,x,A⟩:=Ch n r s (i+1) a u C;refine⟨j+1,v,?_,y,B,by simpa using z,x,?_⟩
   .simp only[Instr.findNow,Instr.sameNow,g,if_pos]
    grind
   .intro w d c q o;simp only[bM,if_neg p,bo,List.map_cons,dI,List.modify_succ_cons];exact⟨e,_,rfl,by simp only[aS];exact g,t,A w d c q o⟩
theorem yx{I:aZ}{α:Type}{k:IntKind}{enc:α->H}(n:Int):∀(l:List (Int×α)) (es:iq) (i:Nat),dI I (bo k enc l) es->aB l n=none->
  Instr.findNow (.int k) (.int k n) es i=some none/\∀(b:α) (e:MapEntry),aS I (enc b) e.val->e.key=.int k n->dI I (bo k enc (bM l n b)) (es++[e])
 |[],es,i,h,d=>by
  simp only[bo,List.map_nil,dI]at h;subst h;refine⟨rfl,λb e f j=>?_⟩;simp only[bM,bo,List.map_cons,List.map_nil,dI,List.nil_append];exact⟨e,[],rfl,by simp only[aS];exact j,f,rfl⟩
 |(m,c)::r,es,i,h,d=>by
  simp only[bo,List.map_cons,dI]at h;obtain⟨e,o,rfl,g,q,s⟩:=h;simp only[aS]at g;have a:m≠n:=λa=>by subst a;simp[aB,List.find?]at d
  have u:aB r n=none:=by simpa [aB,List.find?,a]using d
  obtain⟨v,p⟩:=yx n r o (i+1) s u;refine⟨?_,λb t f j=>?_⟩
  .simp only[Instr.findNow,Instr.sameNow,g,if_pos]
   grind
  .simp only[bM,if_neg a,bo,List.map_cons,dI,List.cons_append];exact⟨e,_,rfl,by simp only[aS];exact g,q,p b t f j⟩
def Cn{I:aZ}:∀(l:List (H×H)) (es:iq),dI I l es->es.length=l.length
 |[],es,h=>by simp only[dI]at h;subst h;rfl
 |(k,v)::r,es,h=>by
  simp only[dI]at h;obtain⟨c,a,rfl,_,_,b⟩:=h;simp[Cn r a b]
structure fZ(P:Program)(T K E:TypeId)(k:IntKind):Prop where
 en:P.underlying T=some (.map K E)
 key:P.underlying K=some (.int k)
section
variable {G:bG}{σ:U}{o:Oper}{ev:Operand->H}
def bC.makeMap{T d:Nat}{K E:TypeId}(h:o.op=.makeMap T none)(hi:G.ids.contains d=false):Yields G o ev ((d,.map K E [])::σ) [d] [d] (.b6 d):=by
 intro ae cx I β w C Q u Y ab;have S:(execOp C o).run G.P w=.ok (.value (.map (some w.heap.size))) (w.alloc (.map #[] 0)):=by
  simp[execOp,h,Instr.makeMap]
 rw[S];have X:=Y d (by simp);refine⟨I,e4 β d (.map (some w.heap.size)),by simp only[au];exact⟨by rw[eH],rfl⟩,?_,bQ.refl I,λx O=>e0 β _ (λe=>O (by simp[e]))⟩;refine u.real (by simpa using hi) X rfl λZ q=>?_;rw[Q d (by simp),atw,if_pos rfl]at q;injection q with q
 subst q;simp only[bc,eH];exact .inr ⟨w.heap.size,#[],0,rfl,heap_alloc_new w _,rfl,λo=>u.gu (Nat.le_refl _) o,.inl u.size,by simp[gQ]⟩
variable {I:aZ}{K:TypeId}{cx:c0}{w:World}{β:Nat->Value}
theorem zc{G:bG}{σ:U}(c:bx G cx I β σ w){d:Nat}{E:TypeId}{b:List (H×H)}(e:σ.get d=some (.map K E b)){v:Value}(a:au I β (.b6 d) v):
  ∃r es clock,v=.map (some r)/\β d=.map (some r)/\w.heap[r]?=some (.map es clock)/\dI I b es.toList/\(∀o,I r o=none)/\Place cx r/\gQ es clock:=by
 simp only[au]at a;obtain⟨rfl,a⟩:=a;have:=c.bO d _ e;simp only[bc]at this;rcases this with f|⟨r,es,clock,h,i,j,g,k⟩
 .rw[f]at a;simp[jd]at a
 .grind
variable {P:Program}{es:gl}
def rP{r:Nat}{c:Nat}(h:w.heap[r]?=some (.map es c)):(getObj r).run P w=.ok (.map es c) w:=by simp[getObj,Sem.run,h]
variable {k:IntKind}
def uA(a:P.underlying K=some (.int k))(e:Bool)(n:Int)(w:World):(Instr.checkKey e 10000 K (.int k n)).run P w=.ok () w:=by
 have b:∀w,(underlying K).run P w=.ok (.int k) w:=λw=>by simp[underlying,program,Sem.run,a]
 rw[Instr.checkKey];simp[b]
def sx(I:aZ)(w:World)(v:Value)(b:List (H×H)):Prop:=∃a es c,v=.map (some a)/\w.heap[a]?=some (.map es c)/\dI I b es.toList
def Di{G:bG}{σ:U}(f:bx G cx I β σ w){d:Nat}{E:TypeId}{a:List (H×H)}(i:σ.get d=some (.map K E a)){v:Value}(e:au I β (.b6 d) v):sx I w v a:=by
 obtain⟨j,es,h,g,_,b,c,_⟩:=zc f i e;exact⟨j,es,h,g,b,c⟩
def K3{G:bG}{σ:U}(g:bx G cx I β σ w){d:Nat}{clock:Nat}{E:TypeId}{b:List (H×H)}(h:σ.get d=some (.eV es clock K E b)){v:Value}(a:au I β (.b6 d) v):sx I w v b:=by
 simp only[au]at a;obtain⟨rfl,a⟩:=a;have:=g.bO d _ h;simp only[bc]at this;rcases this with i|⟨j,c,e,f,_⟩
 .rw[i]at a;simp[jd]at a
 .exact⟨j,es,clock,c,e,f⟩
def Er{G:bG}{σ:U}(h:bx G cx I β σ w){b:List (H×H)}{v:Value}(a:au I β (.dc b) v):sx I w v b:=by
 simp only[au,aS]at a;obtain⟨c,es,i,rfl,f,g,_⟩:=a;obtain⟨j,k,e,d⟩:=h.er c _ f;obtain⟨rfl,rfl⟩:=zn d;exact⟨c,es,i,rfl,e,g⟩
variable {E T:Nat}{ok:Bool}{α:Type}
def yJ{i:Operand->Value}{K:Nat}{x y:Operand}{n:Int}(l:List (Int×α))(enc:α->H)(p:α)(h:o.op=.lookup T x y ok)(B:sx I w (i x) (bo k enc l))(c:i y=.int k n)
  (m:fZ G.P T K E k) (C:∀w,∃v,(zeroValue E).run G.P w=.ok v w/\∀I,aS I (enc p) v) :
  ∃v,(execOp i o).run G.P w=.ok (.value v) w/\au I β (bif ok then .bP [enc ((aB l n).getD p),.bool (aB l n).isSome]else enc ((aB l n).getD p)) v:=by
 obtain⟨J,es,F,f,A,r⟩:=B;have g:∀w,(underlying T).run G.P w=.ok (.map K E) w:=λw=>by simp[underlying,program,Sem.run,m.en]
 have z:∀w,(underlying K).run G.P w=.ok (.int k) w:=λw=>by simp[underlying,program,Sem.run,m.key]
 have d:=rP (P:=G.P) A;have e:=uA (P:=G.P) m.key (es.isEmpty) n w;cases q:aB l n with
 |none=>
  obtain⟨j,_⟩:=yx n l es.toList 0 r q;obtain⟨v,t,u⟩:=C w;have b:(Instr.findKey K (.int k n) es.toList).run G.P w=.ok none w:=by simp[Instr.findKey,z,j]
  cases ok with
  |true=>
   refine⟨.tuple #[v,.bool false],by simp[execOp,h,Instr.lookup,f,c,g,d,e,b,t],?_⟩;simp only[cond_true,au,br];exact⟨_,rfl,v,[.bool false],rfl,aS.rep β _ _ (u I),.bool false,[],rfl,by simp[aS],rfl⟩
  |false=>
   refine⟨v,by simp[execOp,h,Instr.lookup,f,c,g,d,e,b,t],?_⟩;simp only[cond_false];exact aS.rep β _ _ (u I)
 |some a=>
  obtain⟨D,v,j,s,_⟩:=Ch n l es.toList 0 a r q;have b:(Instr.findKey K (.int k n) es.toList).run G.P w=.ok (some (0+D,v)) w:=by simp[Instr.findKey,z,j]
  cases ok with
  |true=>
   refine⟨.tuple #[v,.bool true],by simp[execOp,h,Instr.lookup,f,c,g,d,e,b],?_⟩;simp only[cond_true,au,br];exact⟨_,rfl,v,[.bool true],rfl,aS.rep β _ _ s,.bool true,[],rfl,by simp[aS],rfl⟩
  |false=>
   refine⟨v,by simp[execOp,h,Instr.lookup,f,c,g,d,e,b],?_⟩;simp only[cond_false];exact aS.rep β _ _ s
def bC.lookup{α:Type}{T K E d:Nat}{k:IntKind}{x y:Operand}{ok:Bool}{n:Int}(l:List (Int×α))(enc:α->H)(z:α)(h:o.op=.lookup T x y ok)(O:ev x=.b6 d)(Q:ev y=.int k n)(hd:σ.get d=some (.map K E (bo k enc l)))
  (Y:fZ G.P T K E k) (hz:∀w,∃v,(zeroValue E).run G.P w=.ok v w/\∀I,aS I (enc z) v) :
  Yields G o ev σ [] [d] (bif ok then .bP [enc ((aB l n).getD z),.bool (aB l n).isSome]else enc ((aB l n).getD z)):=
 .pure λab cx I β w Z X S u=>by
  have C:=u x (by simp[h,Op.operands]);rw[O]at C
  have q:=u y (by simp[h,Op.operands]);rw[Q]at q;have q:=fB q
  exact yJ l enc z h (Di S (by rw[X d (by simp)];exact hd) C) q Y hz
def au0{K:Nat}{x y:Operand}{n:Int}(l:List (Int×α))(enc:α->H)(b:α)(h:o.op=.lookup T x y ok)(e:ev x=.dc (bo k enc l))(f:ev y=.int k n)
  (i:fZ G.P T K E k) (j:∀w,∃v,(zeroValue E).run G.P w=.ok v w/\∀I,aS I (enc b) v) :
  Yields G o ev σ [] [] (bif ok then .bP [enc ((aB l n).getD b),.bool (aB l n).isSome]else enc ((aB l n).getD b)):=
 .pure λp cx I β w m q g c=>by
  have d:=c x (by simp[h,Op.operands]);rw[e]at d
  have a:=c y (by simp[h,Op.operands]);rw[f]at a;have a:=fB a
  exact yJ l enc b h (Er g d) a i j
def Es{a:Operand->Value}{K:Nat}{x:Operand}{XL}(l:List (Int×α))(enc:α->H)(h:o.op=.call ⟨.builtin .len,#[x],XL⟩)(m:XL=#[T])(j:sx I w (a x) (bo k enc l))(f:G.P.underlying T=some (.map K E)):
  ∃v,(execOp a o).run G.P w=.ok (.value v) w/\au I β (.int .i64 (l.length:Int)) v:=by
 subst m;obtain⟨p,es,n,g,c,d⟩:=j;have i:∀w,(underlying T).run G.P w=.ok (.map K E) w:=λw=>by simp[underlying,program,Sem.run,f]
 have e:=rP (P:=G.P) c;have b:=Cn _ _ d;simp only[Array.length_toList,bo,List.length_map]at b;exact⟨.int .i64 l.length,by simp[execOp,h,resolve,invoke,builtin,Builtin.len_,g,i,e,goInt,b],by simp[au,aS]⟩
def avf{K d:Nat}{x:Operand}{XL}(l:List (Int×α))(enc:α->H)(h:o.op=.call ⟨.builtin .len,#[x],XL⟩)(j:XL=#[T])(c:ev x=.b6 d)(i:σ.get d=some (.map K E (bo k enc l)))(g:G.P.underlying T=some (.map K E)):
  Yields G o ev σ [] [d] (.int .i64 (l.length:Int)):=
 .pure λn cx I β w m f e b=>by
  have a:=b x (by simp[h,Op.operands,Call.operands]);rw[c]at a
  exact Es l enc h j (Di e (by rw[f d (by simp)];exact i) a) g
def au8{K:Nat}{x:Operand}{XL}(l:List (Int×α))(enc:α->H)(h:o.op=.call ⟨.builtin .len,#[x],XL⟩)(f:XL=#[T])(c:ev x=.dc (bo k enc l))(e:G.P.underlying T=some (.map K E)):
  Yields G o ev σ [] [] (.int .i64 (l.length:Int)):=
 .pure λi cx I β w g j d b=>by
  have a:=b x (by simp[h,Op.operands,Call.operands]);rw[c]at a
  exact Es l enc h f (Er d a) e
theorem gQ.push{es:gl}{clock:Nat}(h:gQ es clock)(k v:Value):gQ (es.push ⟨k,v,clock⟩) (clock+1):=by
 obtain⟨C,u⟩:=h;refine⟨?_,λx q=>?_⟩
 all_goals grind
theorem gQ.modify{es:gl}{clock:Nat}(h:gQ es clock)(j:Nat)(f:MapEntry->MapEntry)(C:∀e,(f e).born=e.born):gQ (es.modify j f) clock:=by
 obtain⟨u,O⟩:=h;have e:(es.modify j f).toList.map (·.born)=es.toList.map (·.born):=by
  apply List.ext_getElem?
  grind
 refine⟨by rw[e];exact u,λx q=>?_⟩;have:x.born∈(es.modify j f).toList.map (·.born):=List.mem_map.2 ⟨x,q,rfl⟩
 grind
def atU(w:World)(r:Nat)(o:Obj):eD w {w with heap:=w.heap.setIfInBounds r o} r:=
 ⟨λk a _=>by simp[Array.getElem?_setIfInBounds_ne (Ne.symm a)],by simp,rfl,rfl,rfl,Nat.le_refl _⟩
theorem D.mapUpdate{α:Type}{T K E d:Nat}{k:IntKind}{x y z:Operand}{n:Int}(l:List (Int×α))(enc:α->H)(v:α)(h:o.op=.mapUpdate T x y z\/o.op=.insert T x y z)(q:ev x=.b6 d)(aQ:ev y=.int k n)(hz:ev z=enc v)(a3:(enc v).closed=true)
  (hd:σ.get d=some (.map K E (bo k enc l))) (ai:fZ G.P T K E k) :
  eB G o ev σ [d] [] (λr aT=>r=.undef/\aT=σ.set d (.map K E (bo k enc (bM l n v)))):=by
 intro cx I β w am ae ab;have aj:x∈o.op.operands/\y∈o.op.operands/\z∈o.op.operands:=by rcases h with h|h<;>simp[h,Op.operands]
 have aI:=ab x aj.1;rw[q]at aI
 have u:=ab y aj.2.1;rw[aQ]at u;have u:=fB u
 have S:=ab z aj.2.2;rw[hz]at S
 have S:=au.closed _ _ a3 S;obtain⟨r,es,clock,aF,ak,O,ao,Z,ax,av⟩:=zc ae hd aI;have aG:∀w,(underlying T).run G.P w=.ok (.map K E) w:=λw=>by simp[underlying,program,Sem.run,ai.en]
 have aH:∀w,(underlying K).run G.P w=.ok (.int k) w:=λw=>by simp[underlying,program,Sem.run,ai.key]
 have aw:=rP (P:=G.P) O;have aE:=uA (P:=G.P) ai.key false n w
 have aD:∀Q:Obj,(setObj r Q).run G.P w=.ok () {w with heap:=w.heap.setIfInBounds r Q}:=λQ=>by
  have:=fv O;simp[setObj,Sem.run,O]
 have a6:∃C Y,(execOp am o).run G.P w=.ok .skip {w with heap:=w.heap.setIfInBounds r (.map C Y)}/\dI I (bo k enc (bM l n v)) C.toList/\gQ C Y:=by
  cases an:aB l n with
  |none=>
   obtain⟨af,ar⟩:=yx n l es.toList 0 ao an;have ah:(Instr.findKey K (.int k n) es.toList).run G.P w=.ok none w:=by simp[Instr.findKey,aH,af]
   refine⟨_,_,by rcases h with h|h<;>simp[execOp,h,Instr.mapUpdate,aF,u,aG,aw,aE,ah,aD]<;>rfl,?_,?_⟩
   rotate_left
   .exact av.push _ _
   simpa using ar v ⟨.int k n,am z,clock⟩ S rfl
  |some a=>
   obtain⟨j,aJ,af,ar,aW,aX,a1,a7⟩:=Ch n l es.toList 0 a ao an;have ah:(Instr.findKey K (.int k n) es.toList).run G.P w=.ok (some (0+j,aJ)) w:=by simp[Instr.findKey,aH,af]
   have a0:es[j]?=some aW:=by simpa using aX
   have a5:(Instr.keyThatStays (.int k n) (.int k n)).run G.P w=.ok (.int k n) w:=by simp[Instr.keyThatStays,Instr.sameBits]
   refine⟨_,_,by rcases h with h|h<;>simp[execOp,h,Instr.mapUpdate,aF,u,aG,aw,aE,ah,aD,a0,a1,a5]<;>rfl,?_,?_⟩
   .grind
   .exact av.modify _ _ λ_=>rfl
 obtain⟨C,Y,aV,a4,aU⟩:=a6;rw[aV];refine⟨.undef,_,I,β,⟨rfl,rfl⟩,by simp[au,aS],?_,bQ.refl I,λ_ _=>rfl,λx q=>by rw[atC,if_neg (by simpa using q)]⟩;have aC:bK (β d)=some r:=by rw[ak];rfl
 refine ae.turn (d:=d) (atU w r _) ax (λx q=>by rw[atC,if_neg q]) (λx q aM e=>ae.cq x d aM (by rw[hd];rfl) q r e (g4 aC)) (bQ.refl I) (λ_ _ _=>rfl)
  (λo v aq=>by rw[Z o]at aq;cases aq) (Z none) (λ_ _=>rfl) (.inr rfl) (eC.refl β) (.inl aC) λQ X=>?_
 rw[atC,if_pos rfl,hd]at X;injection X with X
 subst X;simp only[bc];exact .inr ⟨r,C,Y,ak,by have:=fv O;simp[Array.getElem?_setIfInBounds,this],a4,Z,ax,aU⟩
def au2{T:TypeId}{x y:Operand}{n:Int}{s:ByteArray}{b:UInt8}(h:o.op=.index T x y)(e:ev x=.str s)(g:ev y=.int k n)(i:G.P.underlying T=some .string)(j:0<=n)(f:s[n.toNat]?=some b):
  Yields G o ev σ [] [] (.int .u8 (b.toNat:Int)):=
 .pure λq cx I β w m r p d=>by
  have c:=d x (by simp[h,Op.operands]);rw[e]at c;simp only[au,aS]at c
  have a:=d y (by simp[h,Op.operands]);rw[g]at a;have a:=fB a
  have l:∀w,(underlying T).run G.P w=.ok .string w:=λw=>by simp[underlying,program,Sem.run,i]
  exact⟨.int .u8 b.toNat,by simp[execOp,h,Instr.index,c,a,asIntOf,l,j,f],by simp[au,aS]⟩
end
end Go.Proofs.YteghoodgfjhjkaaGreat
namespace Go.Proofs.YteghoodgfjhjkaaGreat
set_option linter.all false
open Go Go.Sort
abbrev Et(P:Program)(f:FuncId):Prop:=∀(bK c aM:Nat) (b:bR) (a:World),Holds (Value.int .i64) a bK c b.toArray->bK<a.heap.size->b.length<4611686018427387904->
  Calls P f #[.slice (some ⟨bK,c,none⟩) b.length aM] a λd h=>
   d=.returned (.tuple #[])/\∃e g,h=grow (putRow (Value.int .i64) (Go.Sort.ahead a e) bK c (b.mergeSort λi j=>decide (i<=j)).toArray) g
def encI(n:Int):List H:=[.int .i64 n]
def o3(x:Int):bR->bR
 |[]=>[x]
 |y::r=>if x<=y then x::y::r else y::o3 x r
def gF:bR->bR
 |[]=>[]
 |x::r=>o3 x (gF r)
theorem zi(x:Int):∀l:bR,(o3 x l).Perm (x::l)
 |[]=>List.Perm.refl _
 |y::r=>by
  simp only[o3];split
  .grind
  .exact((zi x r).cons y).trans (List.Perm.swap x y r)
def uT:∀l:bR,(gF l).Perm l
 |[]=>List.Perm.refl _
 |x::r=>(zi x (gF r)).trans ((uT r).cons x)
theorem CH(x:Int):∀l:bR,l.Pairwise (·<=·)->(o3 x l).Pairwise (·<=·)
 |[],_=>by simp[o3]
 |y::r,h=>by
  simp only[o3];rw[List.pairwise_cons]at h;split
  .rename_i b;rw[List.pairwise_cons];refine⟨λc a=>?_,List.pairwise_cons.2 h⟩
   grind
  .rename_i b;rw[List.pairwise_cons];refine⟨λc a=>?_,CH x r h.2⟩;rcases List.mem_cons.1 ((zi x r).mem_iff.1 a)with rfl|a
   all_goals grind
def Cc:∀l:bR,(gF l).Pairwise (·<=·)
 |[]=>List.Pairwise.nil
 |x::r=>CH x _ (Cc r)
theorem Cv:∀{l a:bR},l.Perm a->l.Pairwise (·<=·)->a.Pairwise (·<=·)->l=a
 |[],a,h,_,_=>by simpa using h.symm
 |x::r,[],h,_,_=>by simpa using h
 |x::r,y::s,h,h1,b=>by
  rw[List.pairwise_cons]at h1 b;have c:x=y:=by
   have e:x∈y::s:=h.mem_iff.1 (by simp);have d:y∈x::r:=h.mem_iff.2 (by simp)
   grind
  subst c;rw[Cv (List.Perm.cons_inv h) h1.2 b.2]
theorem Jw(a:bR):(a.mergeSort λx y=>decide (x<=y))=gF a:=by
 refine Cv ((List.mergeSort_perm a _).trans (uT a).symm) ?_ (Cc a);have:=List.pairwise_mergeSort (le:=λx y:Int=>decide (x<=y)) (λc d f e b=>by simp at e b ⊢;omega) (λc d=>by simp;omega) a
 grind
def Jx(a:bR):(gF a).length=a.length:=(uT a).length_eq
def yK{I:aZ}:∀(a:bR) (vs:cR),bJ I (a.map encI).flatten vs↔vs=a.map (Value.int .i64)
 |[],vs=>by simp[bJ]
 |z::r,vs=>by
  simp only[List.map_cons,List.flatten_cons,encI,List.singleton_append,bJ,aS];constructor
  .rintro⟨d,b,rfl,rfl,c⟩;rw[(yK r b).1 c]
  .rintro rfl;exact⟨_,_,rfl,rfl,(yK r _).2 rfl⟩
theorem JJ{P:Program}{f:FuncId}(K:Et P f)(V:cp P f [] [.az] (λr s=>r=.bP []/\s=[])){d T:Nat}(a:bR)(Y:a.length<4611686018427387904):
    cp P f [(d,.slice T 1 (a.map encI) 0 false)] [.own d] (λr s=>r=.bP []/\s=[(d,.slice T 1 ((gF a).map encI) 0 false)]):=by
  intro D p q l aF n h;simp only[br]at h;obtain⟨ai,ah,rfl,h,rfl⟩:=h;have W:U.get [(d,bY.slice T 1 (a.map encI) 0 false)] d=some (.slice T 1 (a.map encI) 0 false):=by rw[atw,if_pos rfl]
  have z:=n.bO d _ W;simp only[au]at h;obtain⟨rfl,h⟩:=h;simp only[bc,List.length_map]at z;rcases z with x|⟨x,y,_⟩|⟨b,aM,o,u,y,I,m,B,A,an,aw,ar,aq,C⟩
  · rw[x]at h;simp[fl]at h
  · have O:a=[]:=by simpa using y
    subst O;have S:bx ⟨P,0,U.ids []⟩ D q l [] p:={n with bO:=λi F c=>by simp[U.get]at c,cq:=λi af c=>by simp[U.get]at c,keep:=λi c=>by simp[U.ids]at c};refine Calls.mono (V D p q l [l d] S (by simp only[br,au,aS];exact⟨_,_,rfl,x,rfl⟩)) ?_;rintro k ae ⟨G,rfl,r,s,H,aG,⟨rfl,rfl⟩,E,J⟩;refine⟨G,rfl,.bP [],[(d,.slice T 1 [] 0 false)],H,l,⟨rfl,by simp[gF]⟩,?_,?_⟩
    · simp only[au,br]at E ⊢;exact E
    · exact{J with
        bO:=λi F c=>by
          rw[atw]at c;split at c
          · rename_i k;subst k;injection c with c;subst c
            simp only[bc]
            grind
          · simp[U.get]at c
        cq:=λi af g v ao b ak ax=>by
          rw[atw]at g v;split at g
          · rename_i k;subst k
            split at v
            · omega
            · simp[U.get]at v
          · simp[U.get]at g
        keep:=n.keep}
  · simp only[Nat.mul_one]at B A
    have M:o.toList.take a.length=a.map (Value.int .i64):=(yK a _).1 A
    have aC:∀e,e<a.length->o[e]?=some (Value.int .i64 (a[e]?.getD default)):=λe j=>by
      have:=congrArg (·[e]?) M;simp only[List.getElem?_take,if_pos j,Array.getElem?_toList,List.getElem?_map]at this;rw[this,List.getElem?_eq_getElem j];rfl
    have N:Holds (Value.int .i64) p b 0 a.toArray:=λe j=>by
      have j:e<a.length:=by simpa using j
      constructor
      · simp only[World.cell?,m,Nat.zero_add]
        grind
      · simp[World.frozen?,m]
    have w:=fv m;have L:=K b 0 aM a p N w Y;rw[u];refine Calls.mono L ?_;rintro k ae ⟨rfl,Z,ab,rfl⟩;rw[Jw];have ey:(gF a).length=a.length:=Jx a;have Q:(grow (putRow (Value.int .i64) (Go.Sort.ahead p Z) b 0 (gF a).toArray) ab).heap[b]?=some (.cells (putCells (Value.int .i64) 0 (gF a).toArray o) T (0,0)):=by
      simp only[grow,putRow,mapBlock,Go.Sort.ahead];rw[Array.getElem?_append_left (by simpa using w),Array.getElem?_modify,if_pos rfl,m];rfl
    have R:(putCells (Value.int .i64) 0 (gF a).toArray o).toList.take (gF a).length=(gF a).map (Value.int .i64):=by
      apply List.ext_getElem?;intro e;rw[List.getElem?_take,List.getElem?_map];split
      · rename_i j
        have av:e<o.size:=by omega
        rw[Array.getElem?_toList];simp only[putCells,Array.getElem?_mapIdx]
        grind
      · grind
    refine⟨.tuple #[],rfl,.bP [],_,q,l,⟨rfl,rfl⟩,by simp only[au,br];exact⟨_,rfl,rfl⟩,?_⟩;refine bx.turn (b:=b) (d:=d) n ⟨λaE aD w=>?_,by simp[grow,putRow,mapBlock,Go.Sort.ahead],rfl,rfl,rfl,by simp[grow,putRow,mapBlock,Go.Sort.ahead]⟩ C (λi g=>?_) (λi g c _=>?_) (bQ.refl q) (λ_ _ _=>rfl) (λF G am=>?_) (n.k3 m) (λ_ _=>rfl) (.inr rfl) (eC.refl l) (.inl (by rw[u];rfl)) (λaj t=>?_)
    · simp only[grow,putRow,mapBlock,Go.Sort.ahead]
      grind
    · rw[atw,atw,if_neg (Ne.symm g),if_neg (Ne.symm g)]
    · rw[atw,if_neg (Ne.symm g)]at c;simp[U.get]at c
    · grind
    · rw[atw,if_pos rfl]at t
      injection t with t
      subst t;simp only[bc,List.length_map];refine .inr (.inr ⟨b,aM,_,by rw[u,ey],by omega,I,Q,by simpa [putCells]using B,?_,?_,by omega,?_,?_,C⟩)
      · rw[Nat.mul_one];exact(yK _ _).2 R
      · intro k X;obtain⟨i,_,rfl⟩:=List.mem_map.1 X;rfl
      all_goals grind
end Go.Proofs.YteghoodgfjhjkaaGreat
namespace Go.Proofs.YteghoodgfjhjkaaGreat
set_option linter.all false
open Go
mutual
def H.Ar{r s:Nat->Nat}(h:∀x,s (r x)=x):∀a:H,(a.ck r).ck s=a
 |.c7|.undef|.int _ _|.bool _|.str _|.bn _ _|.dR _|.az|.fm|.cL _ _|.fc|.dc _|.fH _|.arr _=>rfl
 |.agg cs=>by simp only[H.ck,r2 h cs]
 |.bP cs=>by simp only[H.ck,r2 h cs]
 |.fn _ cs=>by simp only[H.ck,r2 h cs]
 |.own d=>by simp only[H.ck,h d]
 |.ptr d _=>by simp only[H.ck,h d]
 |.cz _ d=>by simp only[H.ck,h d]
 |.b6 d=>by simp only[H.ck,h d]
def r2{r s:Nat->Nat}(h:∀x,s (r x)=x):∀l:List H,iB s (iB r l)=l
 |[]=>rfl
 |x::t=>by simp only[iB,H.Ar h x,r2 h t]
end
theorem aub{r s:Nat->Nat}(h:∀x,s (r x)=x):∀(σ:U) (d:Nat),(σ.ck r).get (r d)=(σ.get d).map (·.ck r)
 |[],d=>rfl
 |(k,v)::t,d=>by
  have:=aub h t d;simp only[U.ck]at this ⊢;simp only[List.map_cons,atw];by_cases a:k=d
  .subst a;simp
  .grind
def auP(r:Nat->Nat)(σ:U):(σ.ck r).ids=σ.ids.map r:=by simp[U.ids,U.ck]
def bc.ck{cx:c0}{I:aZ}{β β':Nat->Value}{w:World}{r:Nat->Nat}(q:∀d,β' (r d)=β d){d:Nat}{o:bY}{hx:c0}(u:∀b,Place cx b->Place hx b)(h:bc cx I β w d o):bc hx I β' w (r d) (o.ck r):=
 h.go (p:=λ_=>false) (bQ.refl I) (q d) (λx _=>.inr (q x)) (λb _=>⟨λ_=>rfl,λ_=>rfl,u b⟩) (Ca (λ_=>rfl) o)
def avr{r s:Nat->Nat}(h:∀x,s (r x)=x):∀o:bY,(o.ck r).ck s=o
 |.cells a cs=>by simp only[bY.ck,r2 h cs]
 |.slice ..=>rfl
 |.map ..=>rfl
 |.win ..=>rfl
 |.ic ..=>rfl
 |.eV ..=>rfl
 |.iter c _ _ _=>by simp only[bY.ck,h c]
 |.hdr c _=>by simp only[bY.ck,h c]
 |.cE ..=>rfl
 |.l9 a xs t=>by simp only[bY.ck,h t]
 |.oM ..=>rfl
 |.vec ..=>rfl
 |.fA a e n none=>by simp only[bY.ck,j1,h e]
 |.ew a d xs b e none=>by simp only[bY.ck,j1,h e]
 |.ew a d xs b e (some (i,t))=>by simp only[bY.ck,j1,h e,h t]
 |.lu a d xs b e none=>by simp only[bY.ck,j1,h e]
 |.lu a d xs b e (some (i,t))=>by simp only[bY.ck,j1,h e,h t]
 |.fA a e n (some (i,t))=>by simp only[bY.ck,j1,h e,h t]
 |.dD K E e keys none f=>by simp only[bY.ck,j1,h e]
 |.dD K E e keys (some (i,t)) f=>by simp only[bY.ck,j1,h e,h t]
theorem cp.ck{P:Program}{f:FuncId}{S:U}{args:List H}{Post:H->U->Prop}(h:cp P f S args Post)(r s:Nat->Nat)(C:∀x,s (r x)=x)(X:∀x,r (s x)=x):
    cp P f (S.ck r) (iB r args) (λa Q=>∃a0 ae,Post a0 ae/\a=a0.ck r/\Q=ae.ck r):=by
  intro cx w I β vs q ai;have ak:∀x y,r x=r y->x=y:=λx y e=>by rw[<-C x,<-C y,e]
  have an:bx ⟨P,0,S.ids⟩ {cx with nx:=λx=>cx.nx (r x)} I (λx=>β (r x)) S w:=
    {good:=q.good,er:=q.er,e8:=q.e8,eW:=q.eW,frame:=q.frame,size:=q.size,tape:=q.tape,os:=q.os,output:=q.output,drawn:=q.drawn
     bO:=λd o hd=>by
        have ar:=q.bO (r d) (o.ck r) (by rw[aub C,hd];rfl);have ah:=bc.ck (cx:=cx) (r:=s) (β:=β) (β':=λx=>β (r x)) (λx=>by show β (r (s x))=β x;rw[X]) (hx:={cx with nx:=λx=>cx.nx (r x)}) (λb O=>O) ar
        rwa [C,avr C]at ah
     cq:=λd cf hd Y Z b O=>q.cq (r d) (r cf) (by rw[aub C];simpa using hd) (by rw[aub C];simpa using Y) (λe=>Z (ak _ _ e)) b O
     keep:=λd hd=>q.keep (r d) (by show r d∈(S.ck r).ids;rw[auP];exact List.mem_map_of_mem hd)}
  have ao:br I (λx=>β (r x)) args vs:=by
    have:=Ln (r:=s) (β':=λx=>β (r x)) (p:=λ_=>false) (λx _=>by show β (r (s x))=β x;rw[X]) (iB r args) vs (pP (λ_=>rfl) _) ai
    rwa [r2 C]at this
  refine Calls.mono (h _ w I _ vs an ao) ?_;rintro e w' ⟨v,rfl,a,Q,af,β',aj,am,u⟩;refine⟨v,rfl,a.ck r,Q.ck r,af,λx=>β' (s x),⟨a,Q,aj,rfl,rfl⟩,Fc (r:=r) (p:=λ_=>false) (λx _=>by show β' (s (r x))=β' x;rw[C]) a v (yR (λ_=>rfl) a) am,?_⟩
  have ab:∀d,(Q.ck r).get d=(Q.get (s d)).map (·.ck r):=λd=>by
    have:=aub C Q (s d)
    rwa [X]at this
  exact{good:=u.good,er:=u.er,e8:=u.e8,eW:=u.eW,frame:=u.frame,size:=u.size,tape:=u.tape,os:=u.os,output:=u.output,drawn:=u.drawn
        bO:=λd o hd=>by
            rw[ab]at hd;obtain⟨au,aq,rfl⟩:=Option.map_eq_some_iff.1 hd;have:=bc.ck (cx:={cx with nx:=λx=>cx.nx (r x)}) (r:=r) (β:=β') (β':=λx=>β' (s x)) (λx=>by show β' (s (r x))=β' x;rw[C]) (hx:=cx) (λb O=>O) (u.bO (s d) au aq)
            rwa [X]at this
        cq:=λd cf hd Y Z b O=>by
            rw[ab]at hd Y;exact u.cq (s d) (s cf) (by simpa using hd) (by simpa using Y) (λe=>Z (by rw[<-X d,<-X cf,e])) b O
        keep:=λd hd=>by
            have:s d∈S.ids:=by
              have hd:d∈(S.ck r).ids:=hd;rw[auP]at hd
              grind
            have:=u.keep (s d) this;show β' (s d)=_;rw[this];show cx.nx (r (s d))=_;rw[X]}
def swp(a b x:Nat):Nat:=bif Nat.beq x a then b else bif Nat.beq x b then a else x
theorem Fj(a b x:Nat):swp a b (swp a b x)=x:=by
 have e:∀c d:Nat,Nat.beq c d=decide (c=d):=λc d=>by rw[Bool.eq_iff_iff];simp
 simp only[swp,e]
 grind
def jx:List (Nat×Nat)->Nat->Nat
 |[],x=>x
 |(a,b)::r,x=>swp a b (jx r x)
def qA:List (Nat×Nat)->Nat->Nat
 |[],x=>x
 |(a,b)::r,x=>qA r (swp a b x)
def Eu:∀(l:List (Nat×Nat)) (x:Nat),qA l (jx l x)=x
 |[],x=>rfl
 |(a,b)::r,x=>by simp only[jx,qA,Fj,Eu r]
def Dn:∀(l:List (Nat×Nat)) (x:Nat),jx l (qA l x)=x
 |[],x=>rfl
 |(a,b)::r,x=>by simp only[jx,qA,Dn r,Fj]
def cp.at{P:Program}{f:FuncId}{q:U}{args:List H}{Post:H->U->Prop}(h:cp P f q args Post)(l:List (Nat×Nat)):
  cp P f (q.ck (jx l)) (iB (jx l) args) (λa C=>∃a0 u,Post a0 u/\a=a0.ck (jx l)/\C=u.ck (jx l)):=
 h.ck (jx l) (qA l) (Eu l) (Dn l)
def Dp{I:aZ}{β β':Nat->Value}{b:H}{post:List H}:∀(pre:List H) (vs:cR) {a:H},br I β (pre++a::post) vs->(∀x v,x∈pre\/x∈post->au I β x v->au I β' x v)->(∀v,au I β a v->au I β' b v)->br I β' (pre++b::post) vs
 |[],vs,a,c,h1,i=>by
  simp only[List.nil_append,br]at c ⊢;obtain⟨e,d,rfl,g,h⟩:=c;have q:∀(f:List H) (vs:cR),(∀x∈f,x∈post)->br I β f vs->br I β' f vs:=by
   intro f;induction f with
   |nil=>intro _ _ c;exact c
   |cons x r p=>
    intro vs l c;simp only[br]at c ⊢;obtain⟨e,d,rfl,o,n⟩:=c;exact⟨e,d,rfl,h1 x e (.inr (l x (by simp))) o,p d (λk j=>l k (by simp[j])) n⟩
  exact⟨e,d,rfl,i e g,q post d (λx m=>m) h⟩
 |x::r,vs,a,c,h1,i=>by
  simp only[List.cons_append,br]at c ⊢;obtain⟨e,d,rfl,g,h⟩:=c;exact⟨e,d,rfl,h1 x e (.inl (by simp)) g,Dp r d h (λk v j=>h1 k v (j.imp (λc=>by simp[c]) id)) i⟩
def DM{p:Nat->Bool}:∀{l:List H},i6 p l=false->∀x∈l,x.refs p=false
 |[],_,x,h=>by simp at h
 |y::r,h,x,a=>by
  simp only[i6,Bool.or_eq_false_iff]at h;rcases List.mem_cons.1 a with rfl|a
  .exact h.1
  .exact DM h.2 x a
theorem avy{G:bG}{env:ag}{σ:U}(d0 d:Nat)(T:TypeId)(sz:Nat)(i:TypeId)(pre post:List H)(o:σ.get d0=some (.cells i (pre++.az::post)))(u:Nat.beq d0 d=false)(hi:G.ids.contains d=false)(I:env.clean (Nat.beq d)=true)(h:σ.clean (Nat.beq d)=true):
  cu G env σ env ((d,.slice T sz [] 0 false)::σ.set d0 (.cells i (pre++.own d::post))):=λQ z p P R j C=>by
 let q:Nat->Value:=λa=>if a=d then .slice none 0 0 else p a
 have u:d0≠d:=λc=>by subst c;simp at u
 have f:∀a,Nat.beq d a=false->q a=p a:=λa b=>by
  have:a≠d:=λc=>by subst c;simp at b
  show(if a=d then _ else p a)=_;rw[if_neg this]
 have l:q d=.slice none 0 0:=by show(if d=d then _ else _)=_;rw[if_pos rfl]
 have v:∀a,a≠d->U.get ((d,.slice T sz [] 0 false)::σ.set d0 (.cells i (pre++.own d::post))) a=if a=d0 then some (.cells i (pre++.own d::post))else σ.get a:=λa b=>by
  rw[atw,if_neg (Ne.symm b),atC,o];rfl
 have w:∀a,a≠d->(U.get ((d,.slice T sz [] 0 false)::σ.set d0 (.cells i (pre++.own d::post))) a).isSome->(σ.get a).isSome:=λa b h=>by
  rw[v a b]at h;split at h
  .grind
  .exact h
 refine⟨z,q,{j with bO:=λa x c=>?_,cq:=λa g M N F n=>?_,keep:=λa b=>?_},λr=>?_⟩
 .by_cases b:a=d
  .subst b;rw[atw,if_pos rfl]at c;cases c;simp only[bc,l]
   grind
  .rw[v a b]at c;split at c
   .rename_i D;subst D;cases c
    have t:=j.bO a _ o;obtain⟨m,k⟩:=atF h a _ o;simp only[ih]at k;simp only[bc,f a m]at t ⊢;rcases t with O|⟨n,J,K,L,B,E⟩
    .exact .inl O
    .refine .inr ⟨n,J,K,L,Dp pre _ B (λg y e A=>oh f g y ?_ A) (λy s=>?_),E⟩
     .exact DM k g (by rcases e with e|e<;>simp[e])
     .simp only[au,aS]at s;simp only[au,s,l,fl,and_self]
   .obtain⟨m,k⟩:=atF h a x c;exact(j.bO a x c).beta f m k
 .by_cases b:a=d
  .subst b;rw[l];simp[vK]
  .by_cases e:g=d
   .subst e;rw[l];simp[vK]
   .rw[f a (by rw[<-Bool.not_eq_true,Nat.beq_eq];exact Ne.symm b),f g (by rw[<-Bool.not_eq_true,Nat.beq_eq];exact Ne.symm e)];exact j.cq a g (w a b M) (w g e N) F n
 .have:d≠a:=λc=>by subst c;simp at hi;exact hi b
  rw[f a (by rw[<-Bool.not_eq_true,Nat.beq_eq];exact this)];exact j.keep a b
 .exact oh f _ _ (atW I r) (C r)
end Go.Proofs.YteghoodgfjhjkaaGreat
namespace Go.Proofs.YteghoodgfjhjkaaGreat
set_option linter.all false
open Go
def bx.stay{G:bG}{cx:c0}{I:aZ}{β:Nat->Value}{σ:U}{w w':World}(h:bx G cx I β σ w)(q:∀b,b<w.heap.size->w'.heap[b]?=w.heap[b]?)(S:w.heap.size<=w'.heap.size)(O:w'.tape=w.tape)(X:w'.os=w.os)(Y:w'.output=w.output)(hdr:w.drawn<=w'.drawn):bx G cx I β σ w':=by
  have ab:eD w w' w.heap.size:=⟨λk _ C=>q k C,S,O,X,Y,hdr⟩
  exact{good:=λb o v u=>by
            have h1:=h.good b o v u;have C:b<w.heap.size:=World.block_lt_of_cell? w _ h1;rw[World.cell?_of_block (w:=w) (q b C)];exact h1
        er:=λb v u=>by
            obtain⟨es,clock,h1,Z⟩:=h.er b v u;exact⟨es,clock,by rw[q b (fv h1)];exact h1,Z⟩
        e8:=h.e8,eW:=h.eW
        frame:=λb Q ae=>by rw[q b (Nat.lt_of_lt_of_le Q h.size)];exact h.frame b Q ae
        size:=Nat.le_trans h.size S,tape:=O.trans h.tape,os:=X.trans h.os,output:=Y.trans h.output,drawn:=Nat.le_trans h.drawn hdr
        bO:=λd o hd=>(h.bO d o hd).keep ab rfl (λe=>by have:=h.nr hd e;omega) (bQ.refl I) (λ_ _ _=>rfl) (eC.refl β)
        cq:=h.cq,keep:=h.keep}
mutual
def H.fq:H->Bool
 |.int _ _=>true
 |.bool _=>true
 |.str _=>true
 |.undef=>true
 |.bP cs=>iR cs
 |.agg cs=>iR cs
 |_=>false
def iR:List H->Bool
 |[]=>true
 |x::r=>x.fq&&iR r
end
mutual
def au.fq{I O:aZ}{β β':Nat->Value}:∀(a:H) (v:Value),a.fq=true->au I β a v->au O β' a v
 |.int _ _,v,_,h=>by simpa only[au,aS]using h
 |.bool _,v,_,h=>by simpa only[au,aS]using h
 |.str _,v,_,h=>by simpa only[au,aS]using h
 |.undef,v,_,h=>by simpa only[au,aS]using h
 |.bP cs,v,q,h=>by
  simp only[au,H.fq]at h q ⊢;obtain⟨vs,C,u⟩:=h;exact⟨vs,C,br.fq cs _ q u⟩
 |.agg cs,v,q,h=>by
  simp only[au,H.fq]at h q ⊢;obtain⟨vs,C,u⟩:=h;exact⟨vs,C,br.fq cs _ q u⟩
 |.c7,_,q,_|.bn _ _,_,q,_|.dR _,_,q,_|.fn _ _,_,q,_|.az,_,q,_|.fm,_,q,_|.own _,_,q,_|.ptr _ _,_,q,_|.b6 _,_,q,_|.cL _ _,_,q,_|.fc,_,q,_|.cz _ _,_,q,_=>by simp[H.fq]at q
def br.fq{I O:aZ}{β β':Nat->Value}:∀(a:List H) (v:cR),iR a=true->br I β a v->br O β' a v
 |[],v,_,h=>h
 |x::r,v,q,h=>by
  simp only[br,iR,Bool.and_eq_true]at h q ⊢;obtain⟨C,u,X,Q,S⟩:=h;exact⟨C,u,X,au.fq x C q.1 Q,br.fq r u q.2 S⟩
end
def B9{I:aZ}{sz:Nat}:∀(xs:List (List H)) (i:Nat),(∀e∈xs,e.length=sz)->i<xs.length->∃A B,xs.flatten=A++xs.getD i []++B/\A.length=i*sz/\(∀b,(xs.set i b).flatten=A++b++B)
 |[],_,_,h=>by simp at h
 |e::r,0,a,_=>⟨[],r.flatten,by simp,by simp,by simp⟩
 |e::r,i+1,a,h=>by
  obtain⟨A,B,g,d,f⟩:=B9 (I:=I) r i (λx c=>a x (by simp[c])) (by simpa using h);refine⟨e++A,B,by simp[g],?_,by simp[f]⟩;rw[List.length_append,d,a e (by simp),Nat.add_mul];omega
section ops
variable {G:bG}{o:Oper}{env:ag}{σ:U}{x y:Operand}
variable {T aQ sz:Nat}{bN:Bool}{i:Int}{α:Type}
theorem au3[Inhabited α]{E d n:Nat}{k:IntKind}(rs:List α)(enc:α->List H)(h:o.op=.indexAddr T x y)(q:env.ev x=.own d)(r:env.ev y=.int k i)(v:σ.get d=some (.slice aQ sz (rs.map enc) n bN))(m:iU G.P T E sz)
  (hi:0<=i/\i<rs.length):Yields G o env.ev σ [] [d] (.ptr d (i.toNat*sz)):=
 .pure λA D I β c z t s g=>by
  have a:=g x (by simp[h,Op.operands]);rw[q]at a
  have b:=g y (by simp[h,Op.operands]);rw[r]at b;have b:=fB b
  simp only[au]at a;obtain⟨a,j⟩:=a;have l:=s.bO d _ (by rw[t d (by simp)];exact v);simp only[bc,List.length_map]at l;have B:i.toNat<rs.length:=by omega
  rcases l with e|⟨_,e,_⟩|⟨p,aM,C,f,w,_⟩
  .rw[a,e]at j;simp[fl]at j
  .have:rs=[]:=by simpa using e
   grind
  .refine⟨.pointer (some ⟨p,i.toNat*sz,none⟩),?_,by simp only[au];exact⟨p,by rw[f];rfl,rfl⟩⟩;have u:∀c,(underlying T).run G.P c=.ok (.slice E) c:=λc=>by simp[underlying,program,Sem.run,m.en]
   rw[f]at a;simp[execOp,h,a,b,Instr.indexAt,asIntOf,u,hi,m.size,g5]
variable {I:aZ}{k:Nat}{β:Nat->Value}
def DN{G:bG}{cx:c0}{σ:U}{w:World}(q:bx G cx I β σ w){d b:Nat}{xs:List (List H)}(B:σ.get d=some (.slice T sz xs k bN))(a:bK (β d)=some b):
  ∃aM arr,β d=.slice (some ⟨b,0,none⟩) xs.length aM/\xs.length<=aM/\aM<=maxLen/\w.heap[b]?=some (.cells arr T (0,0))/\arr.size=aM*sz/\bJ I xs.flatten (arr.toList.take (xs.length*sz))/\(∀e∈xs,e.length=sz)/\k<=xs.length/\
   (bN=true->∀o,o<xs.length*sz->I b o=arr[o]?)/\(∀o,k*sz<=o->I b o=none)/\Place cx b/\br I β (xs.flatten++List.replicate (arr.size-xs.length*sz) .c7) arr.toList:=by
 have h:=q.bO d _ B;simp only[bc]at h;rcases h with f|⟨f,_⟩|⟨l,aM,arr,g,m,p,j,u,i,s,A,z,x,y⟩
 .rw[f]at a;simp[bK]at a
 .rw[f]at a;simp[bK]at a
 .have:l=b:=by rw[g]at a;simpa [bK]using a
  subst this;refine⟨aM,arr,g,m,p,j,u,i,s,A,z,x,y,?_⟩;have e:arr.toList=arr.toList.take (xs.length*sz)++arr.toList.drop (xs.length*sz):=(List.take_append_drop _ _).symm;rw[e];refine kf _ _ _ _ (bJ.rep β _ _ i) ?_;have n:∀(c:cR),br I β (List.replicate c.length .c7) c:=by
   intro c;induction c with
   |nil=>simp[br]
   |cons v r t=>simp only[List.length_cons,List.replicate_succ,br];exact⟨v,r,rfl,by simp[au],t⟩
  have:=n (arr.toList.drop (xs.length*sz));simpa using this
variable {a:H}{bU:Bool}{p:Nat}
def au9[Inhabited α]{T aQ:TypeId}{n d off:Nat}(rs:List α)(enc:α->List H)(h:o.op=.load T x)(B:env.ev x=.ptr d p)(P:σ.get d=some (.slice aQ sz (rs.map enc) k bN))(E:p=i.toNat*sz+off)
  (hi:0<=i/\i<rs.length) (L:fO G.P T n bU) (v:(bU||Nat.blt 0 n)=true) (u:Nat.ble (off+n) sz=true)  (N:iy bU n ((enc (el rs i)).drop off)=some a):Yields G o env.ev σ [] [d] a:=
 .pure λX ak I β am V F D y=>by
  have u:off+n<=sz:=by simpa using u
  have b:=y x (by simp[h,Op.operands]);rw[B]at b
  simp only[au]at b;obtain⟨aj,b,C⟩:=b;obtain⟨aM,g,S,U,W,w,Z,Y,q,ah,af,ab,ae,M⟩:=DN D (by rw[F d (by simp)];exact P) b;have c:i.toNat<rs.length:=by omega
  obtain⟨A,m,l,r,_⟩:=B9 (I:=I) (rs.map enc) i.toNat q (by simpa using c);have s:(rs.map enc).getD i.toNat []=enc (el rs i):=by
   simp[List.getD_eq_getElem?_getD,c,el]
  rw[s]at l;have Q:(enc (el rs i)).length=sz:=q _ (by rw[<-s,List.getD_eq_getElem?_getD,List.getElem?_eq_getElem (by simpa using c)];exact List.getElem_mem _)
  obtain⟨R,J,e⟩:=yu L (λj=>by subst j;simpa using v) (off:=p) w M (by
   rw[l];simp only[List.length_append,r,Q];omega)
  refine⟨R,by simp[execOp,h,C,Instr.loadAt,Instr.sureAddr,J],?_⟩;have j:((List.map enc rs).flatten++List.replicate (g.size-(List.map enc rs).length*sz) H.c7).drop p=(enc (el rs i)).drop off++(m++List.replicate (g.size-(List.map enc rs).length*sz) H.c7):=by
   rw[l,E,List.append_assoc,List.append_assoc,<-List.drop_drop,<-r,List.drop_left,List.drop_append_of_le_length (by omega)]
  rw[j]at e;have O:hF bU n ((enc (el rs i)).drop off++(m++List.replicate (g.size-(List.map enc rs).length*sz) H.c7))=hF bU n ((enc (el rs i)).drop off):=by
   have f:n<=((enc (el rs i)).drop off).length:=by simp;omega
   cases bU with
   |true=>simp only[hF,cond_true];rw[List.take_append_of_le_length f]
   |false=>
    simp only[hF,cond_false];have ai:0<n:=by simpa using v
    cases K:(enc (el rs i)).drop off with
    |nil=>rw[K]at f;simp at f;omega
    |cons z t=>rfl
  rw[O,sG N]at e;exact e
def zd{a:List H}{v:cR}(b:g7 a=true)(h:br I β a v):bJ I a v:=br.closed a v b h
theorem D.NT[Inhabited α]{d off n:Nat}{ca:List H}{ev:Operand->H}(rs:List α)(enc:α->List H)(r':α)(h:o.op=.store T x y)(Q:ev x=.ptr d p)(a8:ev y=a)(hd:σ.get d=some (.slice aQ sz (rs.map enc) k bN))(bb:p=i.toNat*sz+off)
  (hi:0<=i/\i<rs.length) (ct:(k:Int)<=i) (bB:fO G.P T n bU) (a4:a.flat=true) (bC:kA a=some ca) (bp:g7 ca=true) (ae:Nat.beq ca.length n=true) (a0:Nat.ble (off+n) sz=true) (aw:e3 (enc (el rs i)) off ca=enc r') :
  eB G o ev σ [d] [] (λr ba=>r=.undef/\ba=σ.set d (.slice aQ sz ((rs.set i.toNat r').map enc) k false)):=by
 intro cx I β w q Y ar;have ae:ca.length=n:=by simpa using ae
 have a0:off+n<=sz:=by simpa using a0
 have S:=ar x (by simp[h,Op.operands]);rw[Q]at S
 have av:=ar y (by simp[h,Op.operands]);rw[a8]at av
 simp only[au]at S;obtain⟨b,S,a9⟩:=S;obtain⟨aM,arr,aq,ah,a5,X,ax,ak,aj,aF,b3,bi,aC,ce⟩:=DN Y hd S;obtain⟨f1,f2⟩:=aua a4 av;rw[rZ bC]at f1;have aG:=j9 _ _ f1;have ab:i.toNat<rs.length:=by omega
 obtain⟨A,B,a3,bo,s3⟩:=B9 (I:=I) (rs.map enc) i.toNat aj (by simpa using ab);have aU:(rs.map enc).getD i.toNat []=enc (el rs i):=by simp[List.getD_eq_getElem?_getD,ab,el]
 rw[aU]at a3;have hz:(enc (el rs i)).length=sz:=aj _ (by rw[<-aU,List.getD_eq_getElem?_getD,List.getElem?_eq_getElem (by simpa using ab)];exact List.getElem_mem _);have bX:(enc r').length=sz:=by rw[<-aw];simp only[e3,List.length_append,List.length_take,List.length_drop,hz];omega
 simp only[List.length_map]at aq ah ax ak aF;have cd:i.toNat*sz+sz<=rs.length*sz:=by
  have:=Nat.mul_le_mul_right sz (show i.toNat+1<=rs.length from ab)
  rwa [Nat.add_mul,Nat.one_mul]at this
 have cj:rs.length*sz<=arr.size:=by rw[ax];exact Nat.mul_le_mul_right sz ah
 have bu:=BW (P:=G.P) X (q y).cells.toList (off:=p) (by omega) f2;have ci:(q y).cells.size=ca.length:=by simpa using aG
 have bl:(execOp q o).run G.P w=.ok .skip (w.setRow b (e3 arr.toList p (q y).cells.toList).toArray):=by
  have af:¬((q y).cells.size≠n):=by omega
  simp[execOp,h,a9,Instr.storeAt,Instr.sureAddr,storeVar,bB.size,af,bu]
 rw[bl];refine⟨.undef,_,I,β,⟨rfl,rfl⟩,by simp[au,aS],?_,bQ.refl I,λ_ _=>rfl,λx Q=>by rw[atC,if_neg (by simpa using Q)]⟩;have cm:k*sz<=p:=by
  have:k<=i.toNat:=by omega
  have:=Nat.mul_le_mul_right sz this;omega
 refine Y.turn (d:=d) (eD.setRow w b _) aC (λx Q=>by rw[atC,if_neg Q]) (λx Q a7 e=>Y.cq x d a7 (by rw[hd];rfl) Q b e (g4 S)) (bQ.refl I) (λ_ _ _=>rfl)
  (λo v a6=>?_) (Y.k3 X) (λ_ _=>rfl) (.inr rfl) (eC.refl β) (.inl S) λb1 Z=>?_
 ·
  have b2:o<k*sz:=by grind
  have ai:=Y.good b o v a6;simp only[World.cell?,X]at ai;simp only[World.cell?,setRow_heap w b arr _ aQ _ X];simp only[Option.isSome_none,Bool.false_eq_true,if_false]at ai ⊢;rw[<-ai];have:o<p:=by omega
  simp only[e3,List.getElem?_toArray]
  grind
 .rw[atC,if_pos rfl,hd]at Z;injection Z with Z
  subst Z;simp only[bc,List.length_map,List.length_set];refine .inr (.inr ⟨b,aM,_,aq,ah,a5,setRow_heap w b arr _ aQ _ X,?_,?_,?_,aF,(λh=>by cases h),bi,aC⟩)
  .simp only[e3,List.size_toArray,List.length_append,List.length_take,List.length_drop,Array.length_toList];omega
  .have bs:=zd (I:=I) bp f1;have key:((rs.set i.toNat r').map enc).flatten=A++(e3 (enc (el rs i)) off ca)++B:=by
    rw[List.map_set,s3,aw]
   rw[key];rw[a3]at ak;obtain⟨b8,O,af,bj,aD⟩:=(gy _ _ _).1 ak;obtain⟨C,cn,a1,aI,an⟩:=(gy _ _ _).1 bj;have bA:=hy _ _ aI;have b4:=hy _ _ an;have b7:=hy _ _ aD;have bt:enc (el rs i)=(enc (el rs i)).take off++((enc (el rs i)).drop off):=(List.take_append_drop _ _).symm;rw[bt]at an;obtain⟨u,cp,aE,aX,aT⟩:=(gy _ _ _).1 an;have bv:=hy _ _ aX;have bq:(enc (el rs i)).drop off=((enc (el rs i)).drop off).take n++(enc (el rs i)).drop (off+n):=by
    rw[<-List.drop_drop];exact(List.take_append_drop _ _).symm
   rw[bq]at aT;obtain⟨ao,u8,aW,bK,bV⟩:=(gy _ _ _).1 aT;have bE:=hy _ _ bK;have bM:u.length=off:=by rw[bv,List.length_take];omega
   have bT:ao.length=n:=by rw[bE,List.length_take,List.length_drop];omega
   have bz:(e3 arr.toList p (q y).cells.toList).take (rs.length*sz)=C++(u++(q y).cells.toList++u8)++O:=by
    have bY:arr.toList=(C++(u++(ao++u8))++O)++arr.toList.drop (rs.length*sz):=by
     conv=>lhs;rw[<-List.take_append_drop (rs.length*sz) arr.toList]
     rw[af,a1,aE,aW]
    have aH:(C++u).length=p:=by rw[List.length_append,bA,bM,bo,bb]
    have aV:(q y).cells.toList.length=n:=by rw[aG,ae]
    have bD:e3 arr.toList p (q y).cells.toList=(C++u)++(q y).cells.toList++(u8++(O++arr.toList.drop (rs.length*sz))):=by
     unfold e3;rw[aV];have aJ:arr.toList=(C++u)++(ao++(u8++(O++arr.toList.drop (rs.length*sz)))):=by
      conv=>lhs;rw[bY]
      simp only[List.append_assoc]
     have t1:arr.toList.take p=C++u:=by rw[aJ,<-aH,List.take_left]
     have t2:arr.toList.drop (p+n)=u8++(O++arr.toList.drop (rs.length*sz)):=by
      rw[<-List.drop_drop]
      conv=>lhs;rw[aJ]
      rw[<-aH,List.drop_left,<-bT,List.drop_left]
     rw[t1,t2]
    rw[bD];have bh:((C++u)++(q y).cells.toList++(u8++O)).length=rs.length*sz:=by
     have br:=congrArg List.length (af.trans (by rw[a1,aE,aW]));simp only[List.length_take,List.length_append,Array.length_toList]at br;simp only[List.length_append,aV];omega
    have:(C++u)++(q y).cells.toList++(u8++(O++arr.toList.drop (rs.length*sz)))=((C++u)++(q y).cells.toList++(u8++O))++arr.toList.drop (rs.length*sz):=by simp
    rw[this,<-bh,List.take_left];simp
   rw[bz];refine(gy _ _ _).2 ⟨_,_,rfl,(gy _ _ _).2 ⟨_,_,rfl,aI,?_⟩,aD⟩;unfold e3;rw[ae];exact(gy _ _ _).2 ⟨_,_,rfl,(gy _ _ _).2 ⟨_,_,rfl,aX,bs⟩,bV⟩
  .intro e b0;obtain⟨z,am,rfl⟩:=List.mem_map.1 b0;rcases List.mem_or_eq_of_mem_set am with am|rfl
   .exact aj _ (List.mem_map_of_mem am)
   .exact bX
end ops
end Go.Proofs.YteghoodgfjhjkaaGreat
namespace Go.Proofs.YteghoodgfjhjkaaGreat
set_option linter.all false
open Go
section
variable {P:Program}{w:World}{d:Nat}{xs ys:fz}{f:Field}{fs:List Field}{T off:Nat}{r:Bool}
def Fk:(Op.eqFields d xs ys []).run P w=.ok true w:=rfl
def sj{k g:IntKind}{a b:Int}(e:(f.name== "_",f.type,f.offset)=(false,T,off))(j:∀w,(isAgg T).run P w=.ok false w)(p:P.underlying T=some (.int g))(l:xs[off]?=some (.int k a))(n:ys[off]?=some (.int k b))
  (h:(Op.eqFields (d+1) xs ys fs).run P w=.ok r w):(Op.eqFields (d+1) xs ys (f::fs)).run P w=.ok (decide (a=b)&&r) w:=by
 simp only[Prod.mk.injEq]at e;obtain⟨c,m,o⟩:=e;have c:f.name≠ "_":=by simpa using c
 simp only[Op.eqFields,m,o,if_pos c];have q:(part T xs off).run P w=.ok (.int k a) w:=by simp[part,j,Array.getElem!_eq_getD,Array.getD_eq_getD_getElem?,l]
 have s:(part T ys off).run P w=.ok (.int k b) w:=by simp[part,j,Array.getElem!_eq_getD,Array.getD_eq_getD_getElem?,n]
 simp only[Sem.run_bind,q,s,Result.andThen_ok,run_equalIn_int w d T k g a b p];by_cases i:a=b
 .simp[i,h]
 .simp[i]
def rQ{l:List Field}{x:Bool×Nat×Nat}{r:List (Bool×Nat×Nat)}(h:l.map (λf=>(f.name== "_",f.type,f.offset))=x::r):∃f t,l=f::t/\(f.name== "_",f.type,f.offset)=x/\t.map (λf=>(f.name== "_",f.type,f.offset))=r:=by
 cases l with
 |nil=>simp at h
 |cons f t=>simp only[List.map_cons,List.cons.injEq]at h;exact⟨f,t,rfl,h.1,h.2⟩
def C3{l:List Field}(h:l.map (λf=>(f.name== "_",f.type,f.offset))=[]):l=[]:=by simpa using h
def Fl(xs ys:fz)(r:Bool)(x y:Operand)(a:P.eqGuardType P.depth T=false)(c:P.underlying T=some (.struct (P.fieldsOf T)))(b:P.stoodInHeld T=false)(h:(Op.eqFields 9999 xs ys (P.fieldsOf T).toList).run P w=.ok r w):
  (do eqGuard .neq T x y (.agg xs) (.agg ys);binOp .neq T (.agg xs) (.agg ys):Sem Value).run P w=.ok (.bool (!r)) w:=by
 rw[Sem.run_bind,run_eqGuard_agg w .neq T x y _ _ a];simp only[Result.andThen_ok,run_neq_struct];rw[run_equalIn_agg w 9999 T _ _ c b,h];rfl
end
def auk{G:bG}{c:Code}{Q:Exit->ag->U->Prop}{env:ag}{σ:U}(h:aq G c (λe env σ=>∃cC σ2,cu G env σ cC σ2/\Q e cC σ2) env σ):aq G c Q env σ:=by
 refine atQ λi g w b=>wp_mono (aq.use h i g w b) ?_;rintro e l m ⟨k,j,f,cC,σ2,d,a⟩;exact⟨cC,σ2,d.rel f,a⟩
theorem Mq{α:Type}(enc:α->List H)(h:∀r,(enc r).all H.one=true)(l:List α):(l.map enc).flatten.all H.one=true:=by grind
def OL{P:Program}{T f off n e:Nat}{bU:Bool}{fs:Array Field}(i:P.underlying T=some (.struct fs))(a:(fs[f]?).map (λg=>(g.type,g.offset))=some (e,off))(b:fO P e n bU)(d:bU=false->n=1):qy P T f off n bU where
 pos:=d
 run:=λh w j=>by
  cases c:fs[f]? with
  |none=>rw[c]at a;cases a
  |some g=>
   rw[c]at a;simp only[Option.map_some,Option.some.injEq,Prod.mk.injEq]at a;simp only[Instr.field,Sem.run_bind,run_underlying i,Result.andThen_ok,c,a.1,a.2,asAgg,Sem.run_pure];cases bU with
   |true=>simp[part,b.agg,b.size]
   |false=>
    have:=d rfl;subst this;simp[part,b.agg,Array.getD_eq_getD_getElem?,Array.getElem?_eq_getElem (show off<h.size by omega)]
end Go.Proofs.YteghoodgfjhjkaaGreat
namespace Go.Proofs.YteghoodgfjhjkaaGreat
set_option linter.all false
open Go
section win
variable {G:bG}{o:Oper}{ev:Operand->H}{σ:U}
def bc.OM{cx:c0}{I:aZ}{β:Nat->Value}{w:World}{d T sz k:Nat}{xs:List (List H)}(h:bc cx I β w d (.slice T sz xs k true))(ah:k=xs.length):bc cx I β w d (.win T sz xs):=by
 simp only[bc]at h ⊢;rcases h with C|⟨C,u,_⟩|⟨b,aM,arr,Q,u,S,O,aj,Y,X,ak,af,ab,ae⟩
 .exact .inl C
 .exact .inr (.inl ⟨C,u⟩)
 .refine .inr (.inr ⟨b,0,aM,arr,Q,u,S,O,λ_=>by omega,?_,X,λ_ o ai=>ab o (by rw[ah];omega),ae⟩);refine pQ xs 0 _ Y λj v q=>?_;rw[Nat.zero_add];rw[List.getElem?_take]at q;split at q
  .rename_i Z;rw[af trivial j Z];simpa using q
  .cases q
def cu.win{env:ag}{d T sz k:Nat}{xs:List (List H)}(hd:σ.get d=some (.slice T sz xs k true))(Q:k=xs.length):cu G env σ env (σ.set d (.win T sz xs)):=λcx I β a w h O=>by
 refine⟨I,β,{h with bO:=λx u q=>?_,cq:=λx y q C=>?_},O⟩
 .rw[atC]at q;split at q
  .rename_i e;subst e;rw[hd]at q;cases q;exact(h.bO _ _ hd).OM Q
  .exact h.bO x u q
 .have:∀x,(U.get (σ.set d (.win T sz xs)) x).isSome->(σ.get x).isSome:=λx q=>by
   rw[atC]at q;split at q
   .rename_i e;subst e;rw[hd];rfl
   .exact q
  exact h.cq x y (this x q) (this y C)
def D.NU{T E sz aQ d d2:Nat}{x:Operand}{lo:Option Operand}{xs:List (List H)}(h:o.op=.slice T x lo none none)(q:ev x=.own d)(hd:σ.get d=some (.win aQ sz xs))(a1:iU G.P T E sz)(bh:oy ev lo)
  (eK:0<=hg ev lo/\hg ev lo<=xs.length) (hi:G.ids.contains d2=false) (aD:(σ.minus [d]).clean [d2].contains=true) :
  eB G o ev σ [d,d2] [d2] (λr ab=>r=.own d2/\ab=(d2,.win aQ sz (xs.drop (hg ev lo).toNat))::σ.minus [d]):=by
 intro cx I β w Z Q aJ;have O:=aJ x (by simp[h,Op.operands]);rw[q]at O;simp only[au]at O;obtain⟨O,aX⟩:=O;generalize am:hg ev lo=l at eK ⊢;have aE:bx G cx I β (σ.minus [d]) w:=Q.sub λx C q=>by rw[atE]at q;split at q<;>first|cases q|exact q
 have bt:=aE.mq (cA:=[d2]) (σ2:=(d2,.win aQ sz (xs.drop l.toNat))::σ.minus [d]) (env:=[]) ⟨λx q=>by rw[atw,if_neg (λe=>q (by simp[e]))],λx q=>by simp at q;subst q;simpa using hi,rfl,aD,λx q bv n h=>by simp at q;subst q;rw[atw,if_pos rfl]at h;cases h⟩;have bs:∀x,x≠d2->fo β [d2] x=β x:=λx q=>by simp[fo,q]
 have aj:=Q.bO d _ hd;simp only[bc]at aj;have run:∀(a:Option Addr) (c:Nat),Z x=.slice a xs.length c->xs.length<=c->(execOp Z o).run G.P w=.ok (.value (.slice (if c=l.toNat then a else a.map (·.add (l.toNat*sz))) (xs.length-l.toNat) (c-l.toNat))) w:=by
  intro a c bj br;have af:(Instr.sliceBounds true xs.length c (lo.map Z) none none).run G.P w=.ok (l.toNat,xs.length,c) w:=by
   cases lo with
   |none=>
    simp only[hg]at am;subst am;simp[Instr.sliceBounds]
   |some y=>
    obtain⟨k,n,ai,ao⟩:=oN bh (aJ y (by simp[h,Op.operands]));simp only[hg,ai]at am;subst am;have:=run_sliceBound (P:=G.P) (k:=k) (code:=.sliceB) (w:=w) eK;simp[Instr.sliceBounds,ao,this]
  have ah:∀w,(underlying T).run G.P w=.ok (.slice E) w:=λw=>run_underlying a1.en w;simp only[execOp,h,Instr.sliceAt,Instr.slice,bj,Sem.run_bind,ah,Result.andThen_ok,af,a1.size,Sem.run_pure,Option.map_none]
 have a4:∀(u:Value),(execOp Z o).run G.P w=.ok (.value u) w->fl u=true->(∀b∈cb u,b∈cb (β d))->bc cx I (e4 β d2 u) w d2 (.win aQ sz (xs.drop l.toNat))->
   hc G.P (λv w'=>∃(bI:H) (ab:U) (aq:aZ) (aH:Nat->Value),(bI=.own d2/\ab=(d2,bY.win aQ sz (xs.drop l.toNat))::σ.minus [d])/\au aq aH bI v/\bx G cx aq aH ab w'/\bQ I aq/\(∀x,x∉[d2]->aH x=β x)/\(∀x,x∉[d,d2]->ab.get x=σ.get x)) ((execOp Z o).run G.P w):=by
  intro u a8 ey aW a5;rw[a8];refine⟨.own d2,_,I,e4 β d2 u,⟨rfl,rfl⟩,by simp only[au,eH,ey,and_self],?_,bQ.refl I,λx q=>e0 β u (by simpa using q),λx q=>?_⟩
  .have aC:∀x C,(σ.minus [d]).get x=some C->x≠d2/\ih [d2].contains C=false:=λx C q=>by
    obtain⟨ar,av⟩:=atF aD x C q;exact⟨by simpa using ar,av⟩
   have bb:∀x,[d2].contains x=false->e4 β d2 u x=β x:=λx q=>e0 β u (by simpa using q);refine{aE with bO:=λx C q=>?_,cq:=λx y q aT aV b=>?_,keep:=λx q=>?_}
   .rw[atw]at q;split at q
    .rename_i e;subst e;cases q;exact a5
    .obtain⟨ar,av⟩:=atF aD x C q;exact(aE.bO x C q).beta bb ar av
   .have aF:∀x,(U.get ((d2,bY.win aQ sz (xs.drop l.toNat))::σ.minus [d]) x).isSome->x≠d2->(σ.get x).isSome/\x≠d:=λx q bi=>by
     rw[atw,if_neg (Ne.symm bi),atE]at q;split at q
     .cases q
     .rename_i bo;exact⟨q,by simpa using bo⟩
    by_cases aw:x=d2
    .subst aw;have X:y≠x:=λe=>aV e.symm;obtain⟨an,ax⟩:=aF y aT X;rw[eH,e0 β u X];intro af ah;exact Q.cq y d an (by rw[hd];rfl) ax b ah (aW b af)
    .obtain⟨an,ax⟩:=aF x q aw;rw[e0 β u aw];by_cases X:y=d2
     .subst X;rw[eH];intro af ah;exact Q.cq x d an (by rw[hd];rfl) ax b af (aW b ah)
     .obtain⟨t1,t2⟩:=aF y aT X;rw[e0 β u X];exact Q.cq x y an t1 aV b
   .have:x≠d2:=λe=>by subst e;rw[<-Bool.not_eq_true]at hi;exact hi (by simpa using q)
    rw[e0 β u this];exact Q.keep x q
  .have q:x≠d/\x≠d2:=by simpa using q
   rw[atw,if_neg (Ne.symm q.2),atE,if_neg (by simpa using q.1)]
 rcases aj with aG|⟨aG,rfl⟩|⟨b,Y,aM,arr,ai,ao,bq,aI,a7,a6,aU,a9,a0⟩
 .rw[aG]at O;rw[O]at aX;simp[fl]at aX
 .have ba:l=0:=by simp at eK;omega
  subst ba;refine a4 _ (run none 0 (by rw[O,aG];rfl) (by simp)) rfl (by simp[cb,bK]) ?_;simp only[bc,eH];exact .inr (.inl ⟨by simp,by simp⟩)
 .have bu:l.toNat<=xs.length:=by omega
  refine a4 _ (run _ aM (by rw[O,ai]) ao) rfl ?_ ?_
  .intro bp ak;rw[ai];split at ak
   .exact ak
   .simp only[Option.map_some,g5]at ak;exact ak
  .simp only[bc,eH];have S:(xs.drop l.toNat).length=xs.length-l.toNat:=by simp
   refine .inr (.inr ?_);by_cases aC:aM=l.toNat
   .have a3:xs.drop l.toNat=[]:=List.drop_eq_nil_of_le (by omega);refine⟨b,Y,aM-l.toNat,arr,by rw[if_pos aC,S],by rw[S];omega,by omega,aI,λae=>by omega,by rw[a3];trivial,by rw[a3];simp,λae=>by omega,a0⟩
   .refine⟨b,Y+l.toNat*sz,aM-l.toNat,arr,?_,by rw[S];omega,by omega,aI,λae=>?_,yw _ _ _ aU a6,λe bl=>aU e (List.mem_of_mem_drop bl),λae o aj=>?_,a0⟩
    .rw[if_neg aC,S];simp[g5]
    .rw[S]at ae;have:=a7 (by omega);have e:Y+l.toNat*sz+(aM-l.toNat)*sz=Y+aM*sz:=by
      rw[Nat.add_assoc,<-Nat.add_mul];congr 2;omega
     omega
    .rw[S]at ae aj;refine a9 (by omega) o ?_;have e:Y+l.toNat*sz+(xs.length-l.toNat)*sz=Y+xs.length*sz:=by
      rw[Nat.add_assoc,<-Nat.add_mul];congr 2;omega
     omega
def Ik{I:aZ}{b sz:Nat}:∀{xs ys:List (List H)} {o:Nat},(∀e∈xs,e.length=sz)->(eZ I b (xs++ys) o↔eZ I b xs o/\eZ I b ys (o+xs.length*sz))
 |[],ys,o,_=>by simp[eZ]
 |x::r,ys,o,h=>by
  simp only[List.cons_append,eZ,List.length_cons];rw[Ik (λe a=>h e (by simp[a])),h x (by simp),Nat.add_mul,Nat.one_mul,and_assoc,Nat.add_assoc,Nat.add_comm sz]
def BV{P:Program}(w:World)(t v e:TypeId)(i:TypeInfo)(l:P.underlying t=some (.slice e))(hi:P.info? e=some i)
  (g off b h:Nat) (d:fz) (o:w.heap[g]?=some (.cells d e (0,0)))
  (a:Addr) (m c:Nat) (news:cR) (s:news.length=m*i.size) (r:∀j f,news[j]?=some f->w.cell? (a.add j)=some f) (u:∀f∈news,f.oneCell'=true)
  (p:b+m<=h) (q:off+b*i.size+news.length<=d.size) :
  (Builtin.append_ #[t,t] v #[.slice (some ⟨g,off,none⟩) b h,.slice (some a) m c]).run P w =
   .ok (.slice (some ⟨g,off,none⟩) (b+m) h) (w.setRow g (d.toList.take (off+b*i.size)++news++d.toList.drop (off+b*i.size+news.length)).toArray):=by
 have n:=run_firstCells_some (P:=P) w i.size m a m c news s r;have k:=run_storeCells_at P g (off+b*i.size) e news 0 d w o (by simpa using q) u;simp only[Nat.add_zero]at k;simp[Builtin.append_,run_underlying l,Go.sizeOf,typeInfo,hi,Builtin.lenOf,p,n,g5,k]
def D.Mr{s x:Operand}{T E sz bytes d d2 aQ:Nat}{f:Bool}{xs ys:List (List H)}(h:o.op=.call ⟨.builtin .append,#[s,x],#[T,T]⟩)(b7:ev s=.own d)(hd:σ.get d=some (.win aQ sz xs))(q:eX σ (ev x) (.bn f ys))(aw:wR G.P T E sz bytes)(cp:aQ=E)
  (bq:∀e∈ys,e.length=sz) (cW:ys.flatten.all H.one=true) (bu:(xs.length+ys.length)*bytes<=140737488355328) (b1:xs.length+ys.length<=maxLen) (hi:G.ids.contains d2=false)
  (cm:(σ.minus [d]).clean [d2].contains=true) :
  eB G o ev σ [d,d2] [d2] (λr af=>r=.own d2/\af=(d2,.win aQ sz (xs++ys))::σ.minus [d]):=by
 subst cp;intro cx I β w ax S bt;have ab:=bt s (by simp[h,Op.operands,Call.operands]);rw[b7]at ab;simp only[au]at ab;obtain⟨ab,bz⟩:=ab;have ah:=q.rep S _ (bt x (by simp[h,Op.operands,Call.operands]));simp only[au,aS]at ah;obtain⟨a,c,ah,c1,c3,_,cw⟩:=ah;obtain⟨i,z,aF,bD,av,bV,cN⟩:=aw.info;have cy:∃u:cR,bJ I ys.flatten u/\(ys.length=0\/∃ad:Addr,a=some ad/\∀j aI,u[j]?=some aI->w.cell? (ad.add j)=some aI):=by
  rcases cw with rfl|⟨b,o,rfl,ai⟩
  .exact⟨[],rfl,.inl rfl⟩
  .obtain⟨vs,ao,aH⟩:=rK S.good ys o ai;exact⟨vs,ao,.inr ⟨_,rfl,λj aI cY=>by rw[g5];exact aH j aI cY⟩⟩
 obtain⟨u,a1,bl⟩:=cy;have am:u.length=ys.length*sz:=by rw[hy _ _ a1];exact l0 ys bq
 have cJ:=u7 _ _ cW a1;have a0:xs.length+ys.length<=9223372036854775807:=by simp only[maxLen]at b1;omega
 have bM:bx G cx I β (σ.minus [d]) w:=S.sub λx aq q=>by rw[atE]at q;split at q<;>first|cases q|exact q
 have cj:=bM.mq (cA:=[d2]) (σ2:=(d2,.win aQ sz (xs++ys))::σ.minus [d]) (env:=[]) ⟨λx q=>by rw[atw,if_neg (λe=>q (by simp[e]))],λx q=>by simp at q;subst q;simpa using hi,rfl,cm,λx q c5 n h=>by simp at q;subst q;rw[atw,if_pos rfl]at h;cases h⟩;have bb:∀x,x≠d2->fo β [d2] x=β x:=λx q=>by simp[fo,q]
 have a6:∀(ae:Value) (w':World) (b:Nat) (Q:aZ),(execOp ax o).run G.P w=.ok (.value ae) w'->fl ae=true->eD w w' b->Place cx b->(∀x,((σ.minus [d]).get x).isSome->b∉cb (β x))->
   bQ I Q->(∀Z,Z≠b->∀o,Q Z o=I Z o)->
   (∀(o:Nat) v,Q b o=some v->w'.cell? ⟨b,o,none⟩=some v)->Q b none=none->(bK ae=some b\/cb ae=[])->bc cx Q (e4 β d2 ae) w' d2 (.win aQ sz (xs++ys))->
   hc G.P (λv w'=>∃(bI:H) (af:U) (Q:aZ) (an:Nat->Value),(bI=.own d2/\af=(d2,bY.win aQ sz (xs++ys))::σ.minus [d])/\au Q an bI v/\bx G cx Q an af w'/\bQ I Q/\(∀x,x∉[d2]->an x=β x)/\(∀x,x∉[d,d2]->af.get x=σ.get x)) ((execOp ax o).run G.P w):=by
  intro ae w' b Q ba ey cX b8 a3 bp ci cG cK ar ca;rw[ba];refine⟨.own d2,_,Q,e4 β d2 ae,⟨rfl,rfl⟩,by simp only[au,eH,ey,and_self],?_,bp,λx q=>e0 β ae (by simpa using q),λx q=>?_⟩
  .refine cj.turn (d:=d2) cX b8 (λ_ _=>rfl) (λx q a0 e=>?_) bp ci cG cK (λx q=>by rw[e0 β ae q,bb x q]) (.inl (by simpa using hi)) (λx=>?_) (by rw[eH];exact ar) (λaq a4=>?_)
   .rw[atw,if_neg (Ne.symm q)]at a0;rw[bb x q]at e;exact a3 x a0 e
   .by_cases q:x=d2
    .left;simp[fo,q]
    .right;rw[e0 β ae q,bb x q]
   .rw[atw,if_pos rfl]at a4;injection a4 with a4
    subst a4;exact ca
  .have q:x≠d/\x≠d2:=by simpa using q
   rw[atw,if_neg (Ne.symm q.2),atE,if_neg (by simpa using q.1)]
 have bT:∀b,bK (β d)=some b->∀x,((σ.minus [d]).get x).isSome->b∉cb (β x):=λb ar x q e=>by
  rw[atE]at q;split at q
  .cases q
  .rename_i cu;exact S.cq x d q (by rw[hd];rfl) (by simpa using cu) b e (g4 ar)
 have b3:∀x,((σ.minus [d]).get x).isSome->w.heap.size∉cb (β x):=λx q e=>by
  obtain⟨aq,q⟩:=Option.isSome_iff_exists.1 q;exact absurd (bM.nr q e) (by omega)
 have b2:∀old,old<xs.length+ys.length->xs.length+ys.length<=grownCap w (xs.length+ys.length) old aQ/\grownCap w (xs.length+ys.length) old aQ<=maxLen:=λold _=>⟨grownCap_ge _ _ _ _,grownCap_le_maxLen _ _ _ _ b1⟩;have cD:∀aq,eD w (w.drew.alloc aq) w.heap.size:=λaq=>(eD.alloc w.drew aq).drew
 have b4:∀(X:cR) (aM:Nat),bJ I xs.flatten X->X.length=xs.length*sz->(∀e∈xs,e.length=sz)->xs.length+ys.length<=aM->aM<=maxLen->
   (execOp ax o).run G.P w=.ok (.value (.slice (some ⟨w.heap.size,0,none⟩) (xs.length+ys.length) aM)) (w.drew.alloc (.cells (X.toArray++u.toArray++Builtin.zeroCells z.cells (aM-(xs.length+ys.length))) aQ))->
   hc G.P (λv w'=>∃(bI:H) (af:U) (Q:aZ) (an:Nat->Value),(bI=.own d2/\af=(d2,bY.win aQ sz (xs++ys))::σ.minus [d])/\au Q an bI v/\bx G cx Q an af w'/\bQ I Q/\(∀x,x∉[d2]->an x=β x)/\(∀x,x∉[d,d2]->af.get x=σ.get x)) ((execOp ax o).run G.P w):=by
  intro X aM ct bE cP cC cO ba;have cd:(X++u).length=(xs++ys).length*sz:=by rw[List.length_append,List.length_append,bE,am,Nat.add_mul]
  let Q:aZ:=I.on λb o=>if b=w.heap.size then(X++u)[o]? else I b o
  have bp:bQ I Q:=λb o v C=>by
   cases o with
   |none=>exact C
   |some o=>
   show(if b=w.heap.size then _ else I b o)=some v;split
   .rename_i e;subst e;rw[S.gu (Nat.le_refl _)]at C;cases C
   .exact C
  have br:∀o:Nat,Q w.heap.size o=(X++u)[o]?:=λo=>by show(if _ then _ else _)=_;rw[if_pos rfl]
  have cQ:(X.toArray++u.toArray++Builtin.zeroCells z.cells (aM-(xs.length+ys.length))).toList=(X++u)++(Builtin.zeroCells z.cells (aM-(xs.length+ys.length))).toList:=by simp
  refine a6 _ _ w.heap.size Q ba rfl (cD _) (.inl S.size) b3 bp (λZ bh o=>by cases o with|none=>rfl|some o=>show(if _ then _ else _)=_;rw[if_neg bh]) (λo v C=>?_) (S.gu (Nat.le_refl _) none) (.inl rfl) ?_
  .rw[br]at C;have bj:=heap_alloc_new w.drew (.cells (X.toArray++u.toArray++Builtin.zeroCells z.cells (aM-(xs.length+ys.length))) aQ);have bj:(w.drew.alloc (.cells (X.toArray++u.toArray++Builtin.zeroCells z.cells (aM-(xs.length+ys.length))) aQ)).heap[w.heap.size]?=some (.cells (X.toArray++u.toArray++Builtin.zeroCells z.cells (aM-(xs.length+ys.length))) aQ (0,0)):=bj;simp only[World.cell?,bj];have aW:=(List.getElem?_eq_some_iff.1 C).1;have:((X.toArray++u.toArray++Builtin.zeroCells z.cells (aM-(xs.length+ys.length))).toList)[o]?=some v:=by rw[cQ,List.getElem?_append_left aW];exact C
   rw[Array.getElem?_toList]at this;exact this
  .simp only[bc,eH];refine .inr (.inr ⟨w.heap.size,0,aM,_,by rw[List.length_append],by rw[List.length_append];exact cC,cO,heap_alloc_new w.drew _,λ_=>?_,?_,?_,λ_ o aD=>?_,.inl S.size⟩)
   .simp only[Array.size_append,List.size_toArray,size_zeroCells,cN,bE,am,<-Nat.add_mul];rw[Nat.zero_add];refine Nat.mul_le_mul_right _ ?_;omega
   .refine pQ _ 0 (X++u) ?_ λj v C=>by rw[Nat.zero_add,br];exact C
    rw[List.flatten_append];exact iI bp _ _ ((gy _ _ _).2 ⟨_,_,rfl,ct,a1⟩)
   .intro e Y;rcases List.mem_append.1 Y with Y|Y
    .exact cP e Y
    .exact bq e Y
   .rw[br,List.getElem?_eq_none];rw[cd];omega
 have aD:=S.bO d _ hd;simp only[bc]at aD;rcases aD with a7|⟨a7,rfl⟩|⟨b,O,aM,arr,ao,aH,bs,ak,bv,a9,aE,bA,aX⟩
 .rw[a7]at ab;rw[ab]at bz;simp[fl]at bz
 ·
  rcases Nat.eq_zero_or_pos ys.length with aj|aj
  .have a8:ys=[]:=List.eq_nil_of_length_eq_zero aj;subst a8;refine a6 (.slice none 0 0) w w.heap.size I (iX h ?_) rfl ⟨λ_ _ _=>rfl,Nat.le_refl _,rfl,rfl,rfl,Nat.le_refl _⟩ (.inl S.size) b3 (bQ.refl I) (λ_ _ _=>rfl) (λo v C=>by rw[S.gu (Nat.le_refl _)]at C;cases C) (S.gu (Nat.le_refl _) none) (.inr rfl) ?_
   .rw[ab,ah,a7];cases a<;>simp[Builtin.append_,run_underlying aw.en,Go.sizeOf,typeInfo,aF,Builtin.lenOf,Builtin.firstCells,loadCells,loadCellsFrom]
   .simp only[bc,eH];exact .inr (.inl ⟨trivial,rfl⟩)
  .obtain⟨ad,rfl,aG⟩:=bl.resolve_left (by omega);have ai:=run_append_nil (P:=G.P) w T o.type aQ i z aw.en aF bD ad ys.length c u (by rw[av];exact am) aG aj (by simp at a0;omega) (by simp at bu;rw[bV];omega);obtain⟨aV,aU⟩:=b2 0 (by simp;exact aj);simp only[List.length_nil,Nat.zero_add]at aV aU;have:=b4 [] (grownCap w ys.length 0 aQ) rfl (by simp) (by simp) (by simpa using aV) aU;refine this ?_;have bC:=ai;rw[<-ah,show(Value.slice none 0 0)=ax s by rw[ab,a7]]at bC;have:=iX h bC;simpa using this
 .have ar:bK (β d)=some b:=by rw[ao];rfl
  by_cases bi:xs.length+ys.length<=aM
  .rcases Nat.eq_zero_or_pos ys.length with aj|aj
   .have a8:ys=[]:=List.eq_nil_of_length_eq_zero aj;subst a8;refine a6 (.slice (some ⟨b,O,none⟩) xs.length aM) w b I (iX h ?_) rfl ⟨λ_ _ _=>rfl,Nat.le_refl _,rfl,rfl,rfl,Nat.le_refl _⟩ aX (bT b ar) (bQ.refl I) (λ_ _ _=>rfl) (λo v C=>S.good b o v C) (S.k3 ak) (.inl rfl) ?_
    .rw[ab,ah,ao];cases a<;>simp[Builtin.append_,run_underlying aw.en,Go.sizeOf,typeInfo,aF,Builtin.lenOf,Builtin.firstCells,loadCells,loadCellsFrom,aH,storeCells]
    .simp only[bc,eH,List.append_nil];exact .inr (.inr ⟨b,O,aM,arr,rfl,aH,bs,ak,bv,a9,aE,bA,aX⟩)
   .obtain⟨ad,rfl,aG⟩:=bl.resolve_left (by omega);have aW:xs.length<aM:=by omega
    have cv:=bv aW;have b0:O+xs.length*i.size+u.length<=arr.size:=by
     rw[av,am,Nat.add_assoc,<-Nat.add_mul];have:=Nat.mul_le_mul_right sz bi;omega
    have ai:=BV (P:=G.P) w T o.type aQ i aw.en aF b O xs.length aM arr ak ad ys.length c u (by rw[av];exact am) aG cJ bi b0;rw[av]at ai b0;have bo:O+xs.length*sz<=arr.toList.length:=by simp only[Array.length_toList];omega
    let Q:aZ:=I.on λZ o=>if Z=b/\O+xs.length*sz<=o/\o<O+xs.length*sz+u.length then u[o-(O+xs.length*sz)]? else I Z o
    have a3:=bA aW
    have bp:bQ I Q:=λZ o v C=>by
     cases o with
     |none=>exact C
     |some o=>
     show(if Z=b/\_/\_ then _ else I Z o)=some v;split
     .rename_i e;obtain⟨cS,cT,_⟩:=e;subst cS;rw[a3 o cT]at C;cases C
     .exact C
    have cn:∀o,((arr.toList.take (O+xs.length*sz)++u++arr.toList.drop (O+xs.length*sz+u.length)).toArray)[o]?=if o<O+xs.length*sz then arr[o]? else if o<O+xs.length*sz+u.length then u[o-(O+xs.length*sz)]? else arr[o]?:=by
     intro o;have a5:(arr.toList.take (O+xs.length*sz)).length=O+xs.length*sz:=by rw[List.length_take,Nat.min_eq_left bo]
     rw[List.getElem?_toArray];by_cases aJ:o<O+xs.length*sz
     .rw[if_pos aJ,List.append_assoc,List.getElem?_append_left (by omega),List.getElem?_take,if_pos aJ,Array.getElem?_toList]
     .rw[if_neg aJ];by_cases aT:o<O+xs.length*sz+u.length
      .rw[if_pos aT,List.getElem?_append_left (by rw[List.length_append,a5];omega),List.getElem?_append_right (by omega),a5]
      .rw[if_neg aT,List.getElem?_append_right (by rw[List.length_append,a5];omega),List.length_append,a5,List.getElem?_drop,Array.getElem?_toList];congr 1;omega
    refine a6 _ _ b Q (iX h (by rw[ab,ah,ao];exact ai)) rfl (eD.setRow w b _) aX (bT b ar) bp (λZ bh o=>by cases o with|none=>rfl|some o=>show(if _ then _ else _)=_;rw[if_neg (λe=>bh e.1)]) (λo v C=>?_) (S.k3 ak) (.inl rfl) ?_
    .simp only[World.cell?,setRow_heap w b arr _ aQ _ ak];have:((arr.toList.take (O+xs.length*sz)++u++arr.toList.drop (O+xs.length*sz+u.length)).toArray)[o]?=some v:=by
      rw[cn]
      change (if b=b/\O+xs.length*sz<=o/\o<O+xs.length*sz+u.length then u[o-(O+xs.length*sz)]? else I b o)=some v at C
      split at C
      .rename_i e;rw[if_neg (by omega),if_pos e.2.2];exact C
      .rename_i e;have aC:=S.good b o v C;simp only[World.cell?,ak]at aC;have aC:arr[o]?=some v:=by simpa using aC
       split
       .exact aC
       .split
        .rename_i aJ aT;exact absurd ⟨rfl,by omega,aT⟩ e
        .exact aC
     simpa using this
    .simp only[bc,eH];refine .inr (.inr ⟨b,O,aM,_,by rw[List.length_append],by rw[List.length_append];exact bi,bs,setRow_heap w b arr _ aQ _ ak,λ_=>?_,?_,?_,λc2 o aD=>?_,aX⟩)
     .have:(arr.toList.take (O+xs.length*sz)++u++arr.toList.drop (O+xs.length*sz+u.length)).length=arr.toList.length:=by
       simp only[List.length_append,List.length_take,List.length_drop];rw[Nat.min_eq_left bo];simp only[Array.length_toList]at bo ⊢;omega
      simp only[List.size_toArray,this,Array.length_toList];exact cv
     .rw[Ik (λe Y=>aE e Y)];refine⟨yq bp _ _ _ a9,?_⟩;refine pQ ys _ u (iI bp _ _ a1) λj v C=>?_;have cZ:=(List.getElem?_eq_some_iff.1 C).1;show(if b=b/\_/\_ then _ else _)=_;rw[if_pos ⟨rfl,by omega,by omega⟩,show O+xs.length*sz+j-(O+xs.length*sz)=j by omega];exact C
     .intro e Y;rcases List.mem_append.1 Y with Y|Y
      .exact aE e Y
      .exact bq e Y
     .rw[List.length_append,Nat.add_mul]at aD;show(if b=b/\_/\_ then _ else _)=_;rw[if_neg (by rw[am];omega)];exact a3 o (by omega)
  ·
   have aj:0<ys.length:=by omega
   obtain⟨ad,rfl,aG⟩:=bl.resolve_left (by omega);obtain⟨X,bB,ce⟩:=rK S.good xs O a9;have bX:X.length=xs.length*sz:=by rw[hy _ _ bB];exact l0 xs aE
   have ai:=run_append_grow (P:=G.P) w T o.type aQ i z aw.en aF bD ⟨b,O,none⟩ xs.length aM X (by rw[av];exact bX) (λj v C=>by rw[g5];exact ce j v C) ad ys.length c u (by rw[av];exact am) aG (by omega) (by omega) (growslice_fits (by omega) (by rw[bV];exact bu));obtain⟨aV,aU⟩:=b2 aM (by omega);exact b4 _ _ bB bX aE aV aU (iX h (by rw[ab,ah,ao];exact ai))
def qB(d:Nat)(xs:List (List H))(ev:Operand->H)(x:Operand):H:=match ev x with
 |.own b=>bif Nat.beq b d then .bn false xs else .own b
 |a=>a
def DO{d:Nat}{xs:List (List H)}{ev:Operand->H}{x:Operand}(h:ev x=.own d):qB d xs ev x=.bn false xs:=by simp[qB,h]
def KL{d:Nat}{xs:List (List H)}{ev:Operand->H}{x:Operand}{k:IntKind}{n:Int}(h:ev x=.int k n):qB d xs ev x=.int k n:=by simp[qB,h]
def Yields.win{G:bG}{o:Oper}{ev:Operand->H}{σ:U}{bI:H}{d T sz:Nat}{xs:List (List H)}(hd:σ.get d=some (.win T sz xs))(h:Yields G o (qB d xs ev) σ [] [] bI):Yields G o ev σ [] [d] bI:=
 λX cx I β w O Y C ab Q=>h X cx I β w O (λx u=>by cases u) C ab λx u=>by
  have q:=Q x u;unfold qB;split
  .rename_i cf Z;rw[Z]at q;cases S:Nat.beq cf d with
   |false=>exact q
   |true=>
    have:=Nat.eq_of_beq_eq_true S;subst this;exact C.win (by rw[Y _ (by simp)];exact hd) q
  .exact q
end win
def eA(w:World):aZ:=λa o=>match o with
 |some o=>w.cell? ⟨a,o,none⟩
 |none=>match w.heap[a]? with
  |some (.map b clock)=>some (i4 b clock)
  |_=>none
variable {w:World}
def r0(b:Nat)(o:Nat)(v:Value)(h:eA w b o=some v):w.cell? ⟨b,o,none⟩=some v:=h
def rW(b:Nat)(v:Value)(h:eA w b none=some v):∃es clock,w.heap[b]?=some (.map es clock)/\v=i4 es clock:=by
 simp only[eA]at h;split at h
 .rename_i es clock a;cases h;exact⟨es,clock,a,rfl⟩
 .cases h
variable {I:aZ}{cx:c0}{β:Nat->Value}
def bx.AF{G:bG}{σ:U}(u:bx G cx I β σ w):bQ I (eA w):=λb o v q=>by
 cases o with
 |some o=>exact u.good b o v q
 |none=>
  obtain⟨es,clock,C,rfl⟩:=u.er b v q;simp only[eA,C]
def bx.NV{G:bG}{σ:U}(u:bx G cx I β σ w){b:Nat}{o:hD}{v:Value}(q:I b o=some v):b<w.heap.size:=by
 rcases Nat.lt_or_ge b w.heap.size with h|h
 .exact h
 .rw[u.gu h o]at q;cases q
end Go.Proofs.YteghoodgfjhjkaaGreat
namespace Go.Proofs.YteghoodgfjhjkaaGreat
section
set_option linter.all false
abbrev zI0:Value:=.int .i64 0
abbrev zS0:Value:=.slice none 0 0
open Go Go.Proofs.Tryz
set_option maxRecDepth 100000
abbrev Im(i:Nat)(c:List Value):Prop:=∀a,∃b,(zeroValue i).run prog a=.ok b a/\b.cells=c.toArray
def o4:prog.follows .mixedOrders=true:=by kernel_rfl
def NW(a0 f:Int)(e c:Int)(d b:Int)(w:World):(Op.eqFields 9999 #[.int .i64 a0,.int .i64 e,.int .i64 d] #[.int .i64 f,.int .i64 c,.int .i64 b] (prog.fieldsOf 103).toList).run prog w=.ok (decide (a0=f)&&(decide (e=c)&&(decide (d=b)&&true))) w:=by
 have a:(prog.fieldsOf 103).toList.map (λg=>(g.name== "_",g.type,g.offset))=[(false,3,0),(false,3,1),(false,3,2)]:=by kernel_rfl
 have n:(Op.eqFields 9999 #[.int .i64 a0,.int .i64 e,.int .i64 d] #[.int .i64 f,.int .i64 c,.int .i64 b] (prog.fieldsOf 103).toList).run prog w=.ok (decide (a0=f)&&(decide (e=c)&&(decide (d=b)&&true))) w:=by
  obtain⟨f0,t0,i,j,a⟩:=rQ a;obtain⟨f1,t1,k,m,a⟩:=rQ a;obtain⟨f2,t2,l,h,a⟩:=rQ a;rw[i,k,l,C3 a];exact sj j isAgg3 underlying3 rfl rfl (sj m isAgg3 underlying3 rfl rfl (sj h isAgg3 underlying3 rfl rfl (Fk)))
 exact n
def KM(x y:Operand)(a0 e:Int)(d b:Int)(c a:Int)(w:World):(do eqGuard .neq 103 x y (.agg #[.int .i64 a0,.int .i64 d,.int .i64 c]) (.agg #[.int .i64 e,.int .i64 b,.int .i64 a]);binOp .neq 103 (.agg #[.int .i64 a0,.int .i64 d,.int .i64 c]) (.agg #[.int .i64 e,.int .i64 b,.int .i64 a]):Sem Value).run prog w=.ok (.bool (!(decide (a0=e)&&(decide (d=b)&&(decide (c=a)&&true))))) w:=Fl _ _ _ x y (by kernel_rfl) (by kernel_rfl) (by kernel_rfl) (NW a0 e d b c a w)
def NX(a0 f:Int)(e c:Int)(d b:Int)(w:World):(Op.eqFields 9999 #[.int .i64 a0,.int .i64 e,.int .i64 d] #[.int .i64 f,.int .i64 c,.int .i64 b] (prog.fieldsOf 152).toList).run prog w=.ok (decide (a0=f)&&(decide (e=c)&&(decide (d=b)&&true))) w:=by
 have a:(prog.fieldsOf 152).toList.map (λg=>(g.name== "_",g.type,g.offset))=[(false,3,0),(false,3,1),(false,3,2)]:=by kernel_rfl
 have n:(Op.eqFields 9999 #[.int .i64 a0,.int .i64 e,.int .i64 d] #[.int .i64 f,.int .i64 c,.int .i64 b] (prog.fieldsOf 152).toList).run prog w=.ok (decide (a0=f)&&(decide (e=c)&&(decide (d=b)&&true))) w:=by
  obtain⟨f0,t0,i,j,a⟩:=rQ a;obtain⟨f1,t1,k,m,a⟩:=rQ a;obtain⟨f2,t2,l,h,a⟩:=rQ a;rw[i,k,l,C3 a];exact sj j isAgg3 underlying3 rfl rfl (sj m isAgg3 underlying3 rfl rfl (sj h isAgg3 underlying3 rfl rfl (Fk)))
 exact n
def KN(x y:Operand)(a0 e:Int)(d b:Int)(c a:Int)(w:World):(do eqGuard .neq 152 x y (.agg #[.int .i64 a0,.int .i64 d,.int .i64 c]) (.agg #[.int .i64 e,.int .i64 b,.int .i64 a]);binOp .neq 152 (.agg #[.int .i64 a0,.int .i64 d,.int .i64 c]) (.agg #[.int .i64 e,.int .i64 b,.int .i64 a]):Sem Value).run prog w=.ok (.bool (!(decide (a0=e)&&(decide (d=b)&&(decide (c=a)&&true))))) w:=Fl _ _ _ x y (by kernel_rfl) (by kernel_rfl) (by kernel_rfl) (NX a0 e d b c a w)
end
end Go.Proofs.YteghoodgfjhjkaaGreat
